import Derived.Test.YtnlbekdjepkhcaaFp
import Derived.Test.YtnlbekdjepkhcaaTy
import Derived.Test.YtnlbekdjepkhcaaHutil
import Derived.Test.YtnlbekdjepkhcaaMk
set_option linter.unusedVariables false
set_option linter.unusedSimpArgs false
namespace Go.Proofs.YtnlbekdjepkhcaaF
open Go Go.Shelf Go.Proofs.YtnlbekdjepkhcaaS Ram
set_option maxRecDepth 20000 in
set_option maxHeartbeats 1000000 in
theorem cloneB_ok (la : List UInt8) (u1 : Value) (W : World) (h1 : Ps No (Seq kB la u1) W) (g1 : la.length ≤ 1048576) :
    CW Try.prog 40 #[u1] W (Rt (ROw 5 eB la W)) := by
 have oW : Only No W W := Only.refl _ _
 refine enter (al := [u1]) (k := 7) (l := ([u1] ++ (us 7))) Try.func40 rfl Try.ntmps40 rfl rfl ?_
 refine wpIn_seq ?_
 refine plain ?_
 refine wI (d_assign rfl) ?_
 refine wF ([u1, undef, (Value.slice none 0 0)] ++ (us 5)) ?_
 refine wpL.done ?_
 refine then_n ?_
 refine wpIn_seq ?_
 refine wpIn_seq ?_
 refine plain ?_
 refine wI (d_move rfl) ?_
 refine wO (d_eqnil Try.underlying28 rfl h1 rfl) ?_
 rintro _ _ ⟨t, rfl, ht, rfl⟩
 refine wF [u1, undef, (Value.slice none 0 0), u1, (Value.bool t), undef, undef, undef] ?_
 refine wpL.done ?_
 refine then_n ?_
 refine cond_b rfl (fun c0 => ?_) (fun c0 => ?_)
 ·
  refine wpIn_seq ?_
  refine plain ?_
  refine wI (d_assign rfl) ?_
  refine wF [u1, undef, (Value.slice none 0 0), u1, (Value.bool t), undef, undef, undef] ?_
  refine wpL.done ?_
  refine then_n ?_
  refine wpIn_ret ?_
  refine then_r ?_
  refine leave0 (v := (Value.slice none 0 0)) (res1 Try.results40 rfl) ?_
  exact ROw.nil ((ht c0).symm) oW
 refine wpIn_skip ?_
 refine then_n ?_
 refine wpIn_seq ?_
 refine plain ?_
 refine wO (d_buildL (cs := []) Try.underlying28 s_ti5 rfl (nb rfl) parts_nil rfl) ?_
 rintro _ w12 ⟨b11, rfl, g13, a14, o15⟩
 replace a14 : Arr 5 b11 (([] : List UInt8).map eB) w12 := a14
 have l_b11 : ([] : List UInt8).length = 0 := rfl
 have g_oW_b11 : W.heap.size ≤ b11 := Nat.le_trans oW.size g13
 replace h1 := h1.new o15 g13
 replace oW := oW.tail0 o15
 refine wI (d_move rfl) ?_
 have a16 := Ow.of_map2 a14 l_b11
 have q_oW_o : Fr (some b11) none W.heap.size := Fr.new g_oW_b11
 replace h1 := h1.less (Y := (Orq (some b11) No)) (xx_br xx_id)
 refine wO (d_append Try.underlying28 Try.underlying28 s_ti5 rfl rfl rfl a16 (SrcV.of_seq h1 (fun _ => rfl)) (by simp; omega) (by simp; omega) rfl) ?_
 rintro u17 w18 ⟨bo19, a20, o21, q22⟩
 replace a20 : Ow 5 1 bo19 u17 (la).length ((la).map eB) w18 := by simpa using a20
 replace h1 := h1.gr o21 (fun k e => (.inl e)) (xx_re (Fr.of_or q22) xx_id)
 have tq := oW.size
 replace oW := oW.tailr o21 q_oW_o (fun _ e => by cases e)
 replace q_oW_o := qtr (Fr.of_or q22) q_oW_o tq
 clear tq
 refine wF [u1, undef, (Value.slice none 0 0), u1, (Value.bool t), (sli b11 0 0 0), u1, u17] ?_
 refine wI (d_assign rfl) ?_
 refine wF [u1, undef, u17, u1, (Value.bool t), (sli b11 0 0 0), u1, u17] ?_
 refine wpL.done ?_
 refine then_n ?_
 refine wpIn_ret ?_
 refine leave0 (v := u17) (res1 Try.results40 rfl) ?_
 exact ROw.mk_ a20 rfl q_oW_o oW

set_option maxRecDepth 20000 in
set_option maxHeartbeats 1000000 in
theorem cloneI_ok (la : List Int) (u1 : Value) (W : World) (h1 : Ps No (Seq kI la u1) W) (g1 : la.length ≤ 1048576) :
    CW Try.prog 50 #[u1] W (Rt (ROw 3 eI la W)) := by
 have oW : Only No W W := Only.refl _ _
 refine enter (al := [u1]) (k := 7) (l := ([u1] ++ (us 7))) Try.func50 rfl Try.ntmps50 rfl rfl ?_
 refine wpIn_seq ?_
 refine plain ?_
 refine wI (d_assign rfl) ?_
 refine wF ([u1, undef, (Value.slice none 0 0)] ++ (us 5)) ?_
 refine wpL.done ?_
 refine then_n ?_
 refine wpIn_seq ?_
 refine wpIn_seq ?_
 refine plain ?_
 refine wI (d_move rfl) ?_
 refine wO (d_eqnil Try.underlying29 rfl h1 rfl) ?_
 rintro _ _ ⟨t, rfl, ht, rfl⟩
 refine wF [u1, undef, (Value.slice none 0 0), u1, (Value.bool t), undef, undef, undef] ?_
 refine wpL.done ?_
 refine then_n ?_
 refine cond_b rfl (fun c0 => ?_) (fun c0 => ?_)
 ·
  refine wpIn_seq ?_
  refine plain ?_
  refine wI (d_assign rfl) ?_
  refine wF [u1, undef, (Value.slice none 0 0), u1, (Value.bool t), undef, undef, undef] ?_
  refine wpL.done ?_
  refine then_n ?_
  refine wpIn_ret ?_
  refine then_r ?_
  refine leave0 (v := (Value.slice none 0 0)) (res1 Try.results50 rfl) ?_
  exact ROw.nil ((ht c0).symm) oW
 refine wpIn_skip ?_
 refine then_n ?_
 refine wpIn_seq ?_
 refine plain ?_
 refine wO (d_buildL (cs := []) Try.underlying29 s_ti3 rfl (nb rfl) parts_nil rfl) ?_
 rintro _ w12 ⟨b11, rfl, g13, a14, o15⟩
 replace a14 : Arr 3 b11 (([] : List Int).map eI) w12 := a14
 have l_b11 : ([] : List Int).length = 0 := rfl
 have g_oW_b11 : W.heap.size ≤ b11 := Nat.le_trans oW.size g13
 replace h1 := h1.new o15 g13
 replace oW := oW.tail0 o15
 refine wI (d_move rfl) ?_
 have a16 := Ow.of_map2 a14 l_b11
 have q_oW_o : Fr (some b11) none W.heap.size := Fr.new g_oW_b11
 replace h1 := h1.less (Y := (Orq (some b11) No)) (xx_br xx_id)
 refine wO (d_append Try.underlying29 Try.underlying29 s_ti3 rfl rfl rfl a16 (SrcV.of_seq h1 (fun _ => rfl)) (by simp; omega) (by simp; omega) rfl) ?_
 rintro u17 w18 ⟨bo19, a20, o21, q22⟩
 replace a20 : Ow 3 1 bo19 u17 (la).length ((la).map eI) w18 := by simpa using a20
 replace h1 := h1.gr o21 (fun k e => (.inl e)) (xx_re (Fr.of_or q22) xx_id)
 have tq := oW.size
 replace oW := oW.tailr o21 q_oW_o (fun _ e => by cases e)
 replace q_oW_o := qtr (Fr.of_or q22) q_oW_o tq
 clear tq
 refine wF [u1, undef, (Value.slice none 0 0), u1, (Value.bool t), (sli b11 0 0 0), u1, u17] ?_
 refine wI (d_assign rfl) ?_
 refine wF [u1, undef, u17, u1, (Value.bool t), (sli b11 0 0 0), u1, u17] ?_
 refine wpL.done ?_
 refine then_n ?_
 refine wpIn_ret ?_
 refine leave0 (v := u17) (res1 Try.results50 rfl) ?_
 exact ROw.mk_ a20 rfl q_oW_o oW

set_option maxRecDepth 20000 in
set_option maxHeartbeats 1000000 in
theorem bitsOnes_ok (la : List UInt8) (u1 : Value) (W : World) (h1 : Ps No (Seq kB la u1) W) :
    CW Try.prog 42 #[u1] W (Rt (fun u w => ∃ b, u = .func (.func 53) #[] #[ptr b 0] ∧ W.heap.size ≤ b ∧ Arr 28 b [u1] w ∧ Only No W w)) := by
 have oW : Only No W W := Only.refl _ _
 refine enter (al := [u1]) (k := 3) (l := [u1, undef, undef, undef]) Try.func42 rfl Try.ntmps42 rfl rfl ?_
 refine wpIn_seq ?_
 refine plain ?_
 refine wO (d_box rfl (Seq.cells h1)) ?_
 rintro _ w11 ⟨b, rfl, g12, a13, o14⟩
 have g_oW_b : W.heap.size ≤ b := Nat.le_trans oW.size g12
 replace h1 := h1.new o14 g12
 replace oW := oW.tail0 o14
 refine wI (d_assign rfl) ?_
 refine wF [u1, (ptr b 0), .nilFunc, undef] ?_
 refine wpL.done ?_
 refine then_n ?_
 refine wpIn_seq ?_
 refine plain ?_
 refine wI (d_funcL (yl := [.tmp 1]) (ys := [(ptr b 0)]) rfl) ?_
 refine wI (d_assign rfl) ?_
 refine wF [u1, (ptr b 0), (Value.func (.func 53) #[] #[(ptr b 0)]), (Value.func (.func 53) #[] #[(ptr b 0)])] ?_
 refine wpL.done ?_
 refine then_n ?_
 refine wpIn_ret ?_
 refine leave0 (v := (Value.func (.func 53) #[] #[(ptr b 0)])) (res1 Try.results42 rfl) ?_
 exact ⟨b, rfl, g_oW_b, a13, oW⟩

set_option maxRecDepth 20000 in
set_option maxHeartbeats 1000000 in
theorem bitsOnes1_ok {O X : Nat → Prop} {w0 : World} (lw : List UInt8) (uw : Value) (b l : Nat) (J Jx : List Nat → World → Prop) (W : World) (hb : Arr 28 b [uw] W) (kb : Kp O w0.heap.size b) (hw : Ps (OrN X w0.heap.size) (Seq kB lw uw) W) (hX : ∀ k, O k → X k) (hg : lw.length ≤ 1048576) (hy : ∀ pre x, pre ++ [x] <+: onesP lw → ∀ W1, J pre W1 → YieldAt Fence.wide 0 Try.prog l #[eN x] W1 fun e W' => ∃ u, e = .returned u ∧ YR J Jx (Kp O w0.heap.size) (pre ++ [x]) W1 u W') (hJ : J [] W) :
    CW Try.prog 53 #[(Value.func (.yield l) #[] #[]), (ptr b 0)] W (Rt (fun _ W' => J (onesP lw) W' ∨ ∃ pre, pre <+: onesP lw ∧ Jx pre W')) := by
 refine enter (al := [(Value.func (.yield l) #[] #[]), (ptr b 0)]) (k := 30) (l := ([(Value.func (.yield l) #[] #[]), (ptr b 0)] ++ (us 30))) Try.func53 rfl Try.ntmps53 rfl rfl ?_
 refine wpIn_seq ?_
 refine plain ?_
 refine wI (d_load (v := uw) ⟨_, Try.underlying28, rfl⟩ rfl hb rfl) ?_
 refine wI (d_lenS rfl Try.underlying28 rfl hw) ?_
 refine wI (d_move rfl) ?_
 refine wF ([(Value.func (.yield l) #[] #[]), (ptr b 0), undef, undef, undef, undef, uw, (eN lw.length), (eN 0)] ++ (us 23)) ?_
 refine wpL.done ?_
 refine then_n ?_
 refine wpIn_block ?_
 refine loop2 (fun (i : (Nat)) => fun (z : Nat → Value) => (([(Value.func (.yield l) #[] #[]), (ptr b 0), undef, (z 3), (z 4), (z 5), uw, (eN lw.length), (eN i)] ++ (zs z 9 23)) : List Value)) (fun (i : (Nat)) => fun (w_ : World) => (i ≤ lw.length) ∧ (J (onesTo lw (8 * i)) w_) ∧ Arr 28 b [uw] w_ ∧ Ps (OrN X w0.heap.size) (Seq kB lw uw) w_) (fun (i : (Nat)) => lw.length - i) 0 rfl ?_ ?_
 ·
  refine ⟨?_, ?_, ?_, ?_⟩
  ·
   exact Nat.zero_le _
  ·
   exact hJ
  ·
   exact hb
  ·
   exact hw
 rintro i z w12 ⟨hi, hJ, hb, hw⟩
 (try dsimp only)
 refine wpIn_seq ?_
 refine plain ?_
 refine wI (n_lss (a := i) (b := lw.length) rfl rfl rfl) ?_
 refine wF ([(Value.func (.yield l) #[] #[]), (ptr b 0), undef, (z 3), (z 4), (z 5), uw, (eN lw.length), (eN i), (Value.bool (decide (i < lw.length)))] ++ (zs z 10 22)) ?_
 refine wpL.done ?_
 refine then_n ?_
 refine wpIn_seq ?_
 refine cond_if rfl (fun c1_ => ?_) (fun c1_ => ?_)
 ·
  refine wpIn_skip ?_
  refine then_n ?_
  refine wpIn_seq ?_
  refine wpIn_block ?_
  refine wpIn_seq ?_
  refine plain ?_
  refine wI (d_move rfl) ?_
  refine wI (d_ix (i := i) (xs := lw) Try.underlying28 s_ti5 rfl hw (show _ = Value.int _ ((i : Nat) : Int) from rfl) (by first | omega | (simp; done) | (simp; omega))) ?_
  refine wI (d_ldx (i := i) (xs := lw) (enc := eB) (v := (lw.getD i 0)) ⟨_, Try.underlying5, rfl⟩ rfl hw (g_at (by first | omega | (simp; done) | (simp; omega)))) ?_
  refine wF ([(Value.func (.yield l) #[] #[]), (ptr b 0), undef, (z 3), (z 4), (z 5), uw, (eN lw.length), (eN i), (Value.bool (decide (i < lw.length))), (eN i), (ixp uw i), (eB (lw.getD i 0))] ++ (zs z 13 19)) ?_
  refine wI (d_assign rfl) ?_
  refine wI (d_assign rfl) ?_
  refine wF ([(Value.func (.yield l) #[] #[]), (ptr b 0), undef, (eN i), (eB (lw.getD i 0)), (z 5), uw, (eN lw.length), (eN i), (Value.bool (decide (i < lw.length))), (eN i), (ixp uw i), (eB (lw.getD i 0))] ++ (zs z 13 19)) ?_
  refine wpL.done ?_
  refine then_n ?_
  refine wpIn_seq ?_
  refine plain ?_
  refine wI (d_move rfl) ?_
  refine wF ([(Value.func (.yield l) #[] #[]), (ptr b 0), undef, (eN i), (eB (lw.getD i 0)), (z 5), uw, (eN lw.length), (eN i), (Value.bool (decide (i < lw.length))), (eN i), (ixp uw i), (eB (lw.getD i 0)), (eN 0)] ++ (zs z 14 18)) ?_
  refine wpL.done ?_
  refine then_n ?_
  refine wpIn_block ?_
  refine loop2 (fun (k : (Nat)) => fun (z : Nat → Value) => (([(Value.func (.yield l) #[] #[]), (ptr b 0), undef, (eN i), (eB (lw.getD i 0)), (z 5), uw, (eN lw.length), (eN i), (Value.bool (decide (i < lw.length))), (eN i), (ixp uw i), (eB (lw.getD i 0)), (eN k)] ++ (zs z 14 18)) : List Value)) (fun (k : (Nat)) => fun (w_ : World) => (k ≤ 8) ∧ (J (onesTo lw (8 * i + k)) w_) ∧ Arr 28 b [uw] w_ ∧ Ps (OrN X w0.heap.size) (Seq kB lw uw) w_) (fun (k : (Nat)) => 8 - k) 0 rfl ?_ ?_
  ·
   refine ⟨?_, ?_, ?_, ?_⟩
   ·
    exact Nat.zero_le _
   ·
    exact hJ
   ·
    exact hb
   ·
    exact hw
  rintro k z w14 ⟨hk, hJ2, hb, hw⟩
  (try dsimp only)
  refine wpIn_seq ?_
  refine plain ?_
  refine wI (n_lss (a := k) (b := 8) rfl rfl rfl) ?_
  refine wF ([(Value.func (.yield l) #[] #[]), (ptr b 0), undef, (eN i), (eB (lw.getD i 0)), (z 5), uw, (eN lw.length), (eN i), (Value.bool (decide (i < lw.length))), (eN i), (ixp uw i), (eB (lw.getD i 0)), (eN k), (Value.bool (decide (k < 8)))] ++ (zs z 15 17)) ?_
  refine wpL.done ?_
  refine then_n ?_
  refine wpIn_seq ?_
  refine cond_if rfl (fun c2_ => ?_) (fun c2_ => ?_)
  ·
   refine wpIn_skip ?_
   refine then_n ?_
   refine wpIn_seq ?_
   refine wpIn_block ?_
   refine wpIn_seq ?_
   refine plain ?_
   refine wI (d_move rfl) ?_
   refine wI (d_assign rfl) ?_
   refine wF ([(Value.func (.yield l) #[] #[]), (ptr b 0), undef, (eN i), (eB (lw.getD i 0)), (eN k), uw, (eN lw.length), (eN i), (Value.bool (decide (i < lw.length))), (eN i), (ixp uw i), (eB (lw.getD i 0)), (eN k), (Value.bool (decide (k < 8))), (eN k)] ++ (zs z 16 16)) ?_
   refine wpL.done ?_
   refine then_n ?_
   refine wpIn_seq ?_
   by_cases kb_ : (((shrB (lw.getD i 0) k) &&& 1) : UInt8) = (1 : UInt8)
   ·
    refine plain ?_
    refine wI (d_move rfl) ?_
    refine wI (d_move rfl) ?_
    refine wI (b_shr (a := k) rfl rfl (by omega)) ?_
    refine wF ([(Value.func (.yield l) #[] #[]), (ptr b 0), undef, (eN i), (eB (lw.getD i 0)), (eN k), uw, (eN lw.length), (eN i), (Value.bool (decide (i < lw.length))), (eN i), (ixp uw i), (eB (lw.getD i 0)), (eN k), (Value.bool (decide (k < 8))), (eN k), (eB (lw.getD i 0)), (eN k), (eB (shrB (lw.getD i 0) k))] ++ (zs z 19 13)) ?_
    refine wI (b_and (c := (shrB (lw.getD i 0) k)) (e := 1) rfl rfl) ?_
    refine wI (b_eql (c := ((shrB (lw.getD i 0) k) &&& 1)) (e := 1) rfl rfl (decide_eq_true kb_)) ?_
    refine wI (d_move rfl) ?_
    refine wF ([(Value.func (.yield l) #[] #[]), (ptr b 0), undef, (eN i), (eB (lw.getD i 0)), (eN k), uw, (eN lw.length), (eN i), (Value.bool (decide (i < lw.length))), (eN i), (ixp uw i), (eB (lw.getD i 0)), (eN k), (Value.bool (decide (k < 8))), (eN k), (eB (lw.getD i 0)), (eN k), (eB (shrB (lw.getD i 0) k)), (eB ((shrB (lw.getD i 0) k) &&& 1)), (Value.bool true), (Value.bool true)] ++ (zs z 22 10)) ?_
    refine wpL.onis rfl rfl rfl (nb rfl) rfl (d_move rfl) ?_
    refine wpL.onis rfl rfl rfl (nb rfl) rfl (d_move rfl) ?_
    refine wpL.onis rfl rfl rfl (nb rfl) rfl (n_mul (a := 8) (b := i) rfl rfl (by omega)) ?_
    refine wF ([(Value.func (.yield l) #[] #[]), (ptr b 0), undef, (eN i), (eB (lw.getD i 0)), (eN k), uw, (eN lw.length), (eN i), (Value.bool (decide (i < lw.length))), (eN i), (ixp uw i), (eB (lw.getD i 0)), (eN k), (Value.bool (decide (k < 8))), (eN k), (eB (lw.getD i 0)), (eN k), (eB (shrB (lw.getD i 0) k)), (eB ((shrB (lw.getD i 0) k) &&& 1)), (Value.bool true), (Value.bool true), (Value.func (.yield l) #[] #[]), (eN i), (eN (8 * i))] ++ (zs z 25 7)) ?_
    refine wpL.onis rfl rfl rfl (nb rfl) rfl (d_move rfl) ?_
    refine wpL.onis rfl rfl rfl (nb rfl) rfl (n_add (a := (8 * i)) (b := k) rfl rfl (by omega)) ?_
    refine wpL.on rfl rfl rfl (nb rfl) rfl (d_yield (xl := [.tmp 26]) (al := [(eN (8 * i + k))]) rfl rfl (hy _ _ (by rw [ones_yes c2_ kb_]; exact onesTo_pre _ (by omega)) _ hJ2)) ?_
    rintro _ w15 ⟨t, rfl, hT, hF⟩
    refine wF [(Value.func (.yield l) #[] #[]), (ptr b 0), undef, (eN i), (eB (lw.getD i 0)), (eN k), uw, (eN lw.length), (eN i), (Value.bool (decide (i < lw.length))), (eN i), (ixp uw i), (eB (lw.getD i 0)), (eN k), (Value.bool (decide (k < 8))), (eN k), (eB (lw.getD i 0)), (eN k), (eB (shrB (lw.getD i 0) k)), (eB ((shrB (lw.getD i 0) k) &&& 1)), (Value.bool true), (Value.bool true), (Value.func (.yield l) #[] #[]), (eN i), (eN (8 * i)), (eN k), (eN (8 * i + k)), (Value.bool t), (z 28), (z 29), (z 30), (z 31)] ?_
    refine wpL.onis rfl rfl rfl (nb rfl) rfl (d_not rfl rfl) ?_
    refine wI (d_pick (b := true) (v := (Value.bool (!t))) rfl rfl) ?_
    refine wF [(Value.func (.yield l) #[] #[]), (ptr b 0), undef, (eN i), (eB (lw.getD i 0)), (eN k), uw, (eN lw.length), (eN i), (Value.bool (decide (i < lw.length))), (eN i), (ixp uw i), (eB (lw.getD i 0)), (eN k), (Value.bool (decide (k < 8))), (eN k), (eB (lw.getD i 0)), (eN k), (eB (shrB (lw.getD i 0) k)), (eB ((shrB (lw.getD i 0) k) &&& 1)), (Value.bool true), (Value.bool true), (Value.func (.yield l) #[] #[]), (eN i), (eN (8 * i)), (eN k), (eN (8 * i + k)), (Value.bool t), (Value.bool (!t)), (Value.bool (!t)), (z 30), (z 31)] ?_
    refine wpL.done ?_
    refine then_n ?_
    refine forget (fun zf16 => ([(Value.func (.yield l) #[] #[]), (ptr b 0), undef, (eN i), (eB (lw.getD i 0)), (zf16 5), uw, (eN lw.length), (eN i), (Value.bool (decide (i < lw.length))), (eN i), (ixp uw i), (eB (lw.getD i 0)), (eN k)] ++ (zs zf16 14 15 ++ [(Value.bool (!t)), (zf16 30), (z 31)]))) (by kernel_rfl) (fun zf16 => ?_)
    refine cond_b rfl (fun c0_ => ?_) (fun c0_ => ?_)
    ·
     refine wpIn_ret ?_
     refine inb_r (then_r (then_r (inb_r (inb_r (then_r (then_r (inb_r ?_)))))))
     refine leave0 (v := (Value.tuple #[])) (res0 Try.results53) ?_
     exact .inr ⟨_, by rw [ones_yes c2_ kb_]; exact onesTo_pre _ (by omega), hF (by simpa using c0_)⟩
    obtain ⟨hJ3, oY⟩ := hT (by simpa using c0_)
    rw [ones_yes c2_ kb_] at hJ3
    replace hb := hb.step oY (fun h => h kb)
    replace hw := hw.yield hX oY
    refine wpIn_skip ?_
    refine inb_n (then_n ?_)
    refine plain ?_
    refine wI (n_add (a := k) (b := 1) rfl rfl (by omega)) ?_
    refine wI (d_move rfl) ?_
    refine wF ([(Value.func (.yield l) #[] #[]), (ptr b 0), undef, (eN i), (eB (lw.getD i 0)), (zf16 5), uw, (eN lw.length), (eN i), (Value.bool (decide (i < lw.length))), (eN i), (ixp uw i), (eB (lw.getD i 0)), (eN (k + 1))] ++ (zs zf16 14 15 ++ [(Value.bool (!t)), (eN (k + 1)), (z 31)])) ?_
    refine wpL.done ?_
    refine then_n ?_
    refine ⟨_, (k + 1), rfl, rfl, ⟨?_, ?_, ?_, ?_⟩, ?_⟩
    ·
     (try dsimp only)
     all_goals (omega)
    ·
     exact hJ3
    ·
     exact hb
    ·
     exact hw
    ·
     (try dsimp only)
     all_goals (omega)
   refine plain ?_
   refine wI (d_move rfl) ?_
   refine wI (d_move rfl) ?_
   refine wI (b_shr (a := k) rfl rfl (by omega)) ?_
   refine wF ([(Value.func (.yield l) #[] #[]), (ptr b 0), undef, (eN i), (eB (lw.getD i 0)), (eN k), uw, (eN lw.length), (eN i), (Value.bool (decide (i < lw.length))), (eN i), (ixp uw i), (eB (lw.getD i 0)), (eN k), (Value.bool (decide (k < 8))), (eN k), (eB (lw.getD i 0)), (eN k), (eB (shrB (lw.getD i 0) k))] ++ (zs z 19 13)) ?_
   refine wI (b_and (c := (shrB (lw.getD i 0) k)) (e := 1) rfl rfl) ?_
   refine wI (b_eql (c := ((shrB (lw.getD i 0) k) &&& 1)) (e := 1) rfl rfl (decide_eq_false kb_)) ?_
   refine wI (d_move rfl) ?_
   refine wF ([(Value.func (.yield l) #[] #[]), (ptr b 0), undef, (eN i), (eB (lw.getD i 0)), (eN k), uw, (eN lw.length), (eN i), (Value.bool (decide (i < lw.length))), (eN i), (ixp uw i), (eB (lw.getD i 0)), (eN k), (Value.bool (decide (k < 8))), (eN k), (eB (lw.getD i 0)), (eN k), (eB (shrB (lw.getD i 0) k)), (eB ((shrB (lw.getD i 0) k) &&& 1)), (Value.bool false), (Value.bool false)] ++ (zs z 22 10)) ?_
   refine wpL.off rfl rfl rfl (nb rfl) rfl ?_
   refine wpL.off rfl rfl rfl (nb rfl) rfl ?_
   refine wF ([(Value.func (.yield l) #[] #[]), (ptr b 0), undef, (eN i), (eB (lw.getD i 0)), (eN k), uw, (eN lw.length), (eN i), (Value.bool (decide (i < lw.length))), (eN i), (ixp uw i), (eB (lw.getD i 0)), (eN k), (Value.bool (decide (k < 8))), (eN k), (eB (lw.getD i 0)), (eN k), (eB (shrB (lw.getD i 0) k)), (eB ((shrB (lw.getD i 0) k) &&& 1)), (Value.bool false), (Value.bool false), undef, undef] ++ (zs z 24 8)) ?_
   refine wpL.off rfl rfl rfl (nb rfl) rfl ?_
   refine wpL.off rfl rfl rfl (nb rfl) rfl ?_
   refine wpL.off rfl rfl rfl (nb rfl) rfl ?_
   refine wF ([(Value.func (.yield l) #[] #[]), (ptr b 0), undef, (eN i), (eB (lw.getD i 0)), (eN k), uw, (eN lw.length), (eN i), (Value.bool (decide (i < lw.length))), (eN i), (ixp uw i), (eB (lw.getD i 0)), (eN k), (Value.bool (decide (k < 8))), (eN k), (eB (lw.getD i 0)), (eN k), (eB (shrB (lw.getD i 0) k)), (eB ((shrB (lw.getD i 0) k) &&& 1)), (Value.bool false), (Value.bool false)] ++ (us 5 ++ (zs z 27 5))) ?_
   refine wpL.off rfl rfl rfl (nb rfl) rfl ?_
   refine wpL.off rfl rfl rfl (nb rfl) rfl ?_
   refine wI (d_pick (b := false) (v := (Value.bool false)) rfl rfl) ?_
   refine wF ([(Value.func (.yield l) #[] #[]), (ptr b 0), undef, (eN i), (eB (lw.getD i 0)), (eN k), uw, (eN lw.length), (eN i), (Value.bool (decide (i < lw.length))), (eN i), (ixp uw i), (eB (lw.getD i 0)), (eN k), (Value.bool (decide (k < 8))), (eN k), (eB (lw.getD i 0)), (eN k), (eB (shrB (lw.getD i 0) k)), (eB ((shrB (lw.getD i 0) k) &&& 1)), (Value.bool false), (Value.bool false)] ++ (us 7 ++ [(Value.bool false), (z 30), (z 31)])) ?_
   refine wpL.done ?_
   have hJ3 := hJ2
   rw [← ones_no c2_ kb_] at hJ3
   refine then_n ?_
   refine forget (fun zf17 => ([(Value.func (.yield l) #[] #[]), (ptr b 0), undef, (eN i), (eB (lw.getD i 0)), (zf17 5), uw, (eN lw.length), (eN i), (Value.bool (decide (i < lw.length))), (eN i), (ixp uw i), (eB (lw.getD i 0)), (eN k)] ++ (zs zf17 14 15 ++ [(Value.bool false), (zf17 30), (z 31)]))) (by kernel_rfl) (fun zf17 => ?_)
   refine cond_f rfl ?_
   refine wpIn_skip ?_
   refine inb_n (then_n ?_)
   refine plain ?_
   refine wI (n_add (a := k) (b := 1) rfl rfl (by omega)) ?_
   refine wI (d_move rfl) ?_
   refine wF ([(Value.func (.yield l) #[] #[]), (ptr b 0), undef, (eN i), (eB (lw.getD i 0)), (zf17 5), uw, (eN lw.length), (eN i), (Value.bool (decide (i < lw.length))), (eN i), (ixp uw i), (eB (lw.getD i 0)), (eN (k + 1))] ++ (zs zf17 14 15 ++ [(Value.bool false), (eN (k + 1)), (z 31)])) ?_
   refine wpL.done ?_
   refine then_n ?_
   refine ⟨_, (k + 1), rfl, rfl, ⟨?_, ?_, ?_, ?_⟩, ?_⟩
   ·
    (try dsimp only)
    all_goals (omega)
   ·
    exact hJ3
   ·
    exact hb
   ·
    exact hw
   ·
    (try dsimp only)
    all_goals (omega)
  refine wpIn_exit ?_
  refine then_x (then_x (inb_e ?_))
  refine inb_n (then_n ?_)
  refine plain ?_
  refine wI (n_add (a := i) (b := 1) rfl rfl (by omega)) ?_
  refine wI (d_move rfl) ?_
  refine wF ([(Value.func (.yield l) #[] #[]), (ptr b 0), undef, (eN i), (eB (lw.getD i 0)), (z 5), uw, (eN lw.length), (eN (i + 1)), (Value.bool (decide (i < lw.length))), (eN i), (ixp uw i), (eB (lw.getD i 0)), (eN k), (Value.bool (decide (k < 8)))] ++ (zs z 15 16 ++ [(eN (i + 1))])) ?_
  refine wpL.done ?_
  refine then_n ?_
  refine ⟨_, (i + 1), rfl, rfl, ⟨?_, ?_, ?_, ?_⟩, ?_⟩
  ·
   (try dsimp only)
   all_goals (omega)
  ·
   (try dsimp only)
   all_goals (rw [show k = 8 by omega] at hJ2; exact hJ2)
  ·
   exact hb
  ·
   exact hw
  ·
   (try dsimp only)
   all_goals (omega)
 refine wpIn_exit ?_
 refine then_x (then_x (inb_e ?_))
 refine to_ret ?_
 refine leave0 (v := (Value.tuple #[])) (res0 Try.results53) ?_
 exact .inl (by rw [show i = lw.length by omega] at hJ; exact hJ)


theorem iter_bitsOnes {O X : Nat → Prop} {w0 : World} (lw : List UInt8) (uw : Value) (b : Nat) (hg : lw.length ≤ 1048576) (hb : Arr 28 b [uw] w0) (nb : ¬ O b) (hw : Ps X (Seq kB lw uw) w0) (hX : ∀ k, O k → X k) : Iter Try.prog 53 [ptr b 0].toArray (fun x => [eN x].toArray) No (Kp O w0.heap.size) (onesP lw) w0 :=
  iter_of (encs := fun x => [eN x]) fun l J Jx W hO SJ SJx hy hJ => bitsOnes1_ok lw uw b l J Jx W (hb.step hO (fun h => h ⟨hb.lt, nb⟩)) ⟨hb.lt, nb⟩ (hw.kp hX hO) hX hg hy hJ
set_option maxRecDepth 20000 in
set_option maxHeartbeats 1000000 in
theorem bitsCount_ok (la : List UInt8) (u1 : Value) (b : Nat) (W : World) (hb : Arr 28 b [u1] W) (h1 : Ps No (Seq kB la u1) W) (g1 : la.length ≤ 1048576) :
    CW Try.prog 44 #[(Value.func (.func 53) #[] #[(ptr b 0)])] W (Rt (RIs (eN (onesN la)) W)) := by
 have oW : Only No W W := Only.refl _ _
 refine enter (al := [(Value.func (.func 53) #[] #[(ptr b 0)])]) (k := 8) (l := ([(Value.func (.func 53) #[] #[(ptr b 0)])] ++ (us 8))) Try.func44 rfl Try.ntmps44 rfl rfl ?_
 refine wpIn_seq ?_
 refine plain ?_
 refine wI (d_assign rfl) ?_
 refine wF ([(Value.func (.func 53) #[] #[(ptr b 0)]), undef, (eN 0)] ++ (us 6)) ?_
 refine wpL.done ?_
 refine then_n ?_
 refine wpIn_seq ?_
 refine plain ?_
 refine wO (d_alloc s_ti3 rfl) ?_
 rintro _ w11 ⟨c, rfl, g12, a13, o14⟩
 have n_b_c : b ≠ c := hb.ne g12
 have g_oW_c : W.heap.size ≤ c := Nat.le_trans oW.size g12
 replace h1 := h1.new o14 g12
 replace hb := hb.step0 o14
 replace oW := oW.tail0 o14
 refine wO (d_store s_ti3 rfl rfl rfl a13 (nb rfl) rfl) ?_
 rintro _ w15 ⟨a16, o17⟩
 replace h1 := h1.stepb o17 in1
 replace hb := hb.step o17 (fun e => absurd e n_b_c)
 replace oW := oW.tailb o17 g_oW_c
 refine wF ([(Value.func (.func 53) #[] #[(ptr b 0)]), undef, (eN 0), (ptr c 0)] ++ (us 5)) ?_
 refine wpL.done ?_
 refine then_n ?_
 refine wpIn_seq ?_
 refine wpIn_seq ?_
 refine plain ?_
 refine wI (d_move rfl) ?_
 refine wF [(Value.func (.func 53) #[] #[(ptr b 0)]), undef, (eN 0), (ptr c 0), (Value.func (.func 53) #[] #[(ptr b 0)]), undef, undef, undef, undef] ?_
 refine wpL.done ?_
 refine then_n ?_
 refine wpIn_block ?_
 have h_lt_b := hb.lt
 have h_lt_c := a16.lt
 have tq_oW := oW.size
 have nO_b : ¬ (Or1 c No) b := (not_or1 n_b_c not_no)
 obtain ⟨D_, hD_⟩ : ∃ D_, w15.heap.size = D_ := ⟨_, rfl⟩
 obtain ⟨L_, hL_⟩ : ∃ L_, w15.heap.size + 1 = L_ := ⟨_, rfl⟩
 refine range_ (encs := (fun x => [eN x])) (Pv := No) (O := (Or1 c No)) (xs := (onesP la)) (D := D_) (L := L_) (rs := []) hD_ hL_ rfl Try.func53 (by kernel_rfl) rfl (iter_bitsOnes la u1 b (by first | omega | (simp; done) | (simp; omega)) hb nO_b h1 (or1_mono no_any)) (fun k t => t.elim) (fun _ => rfl) (lt_or1 h_lt_c lt_no) (fun (pre : List Nat) (w_ : World) => Only (Or1 c No) w15 w_ ∧ Arr 28 b [u1] w_ ∧ Arr 3 c [(eN pre.length)] w_) (fun _ _ _ => False) ?_ ?_ ?_ ?_ ?_ ?_
 ·
  rintro pre w_ w2_ ⟨o18, hb, a16⟩ ho_
  exact ⟨o18.tail ho_ (stab_tl hD_ hL_ (fun k t => t.elim)), hb.step ho_ (stab_b hD_ hL_ h_lt_b (fun t => t.elim)), a16.step ho_ (stab_b hD_ hL_ h_lt_c (fun t => t.elim))⟩
 ·
  intro _ _ _ _ h _; exact h.elim
 ·
  refine ⟨?_, ?_, ?_⟩
  ·
   exact Only.refl _ _
  ·
   exact hb
  ·
   exact a16
 ·
  intro pre x w1_ hpx_ hI_ hL1_
  obtain ⟨o18, hb, a16⟩ := hI_
  replace h1 := Ps.re (X' := (Or1 L_ (Or1 D_ (Or1 c No)))) h1 o18 (or1_mono no_any) (xx_new (by omega) (xx_new (Nat.le_of_eq hD_) (xx_or1 xx_id)))
  replace oW := oW.tail o18 (tl_new g_oW_c tl_no)
  have n_b_D_ : b ≠ D_ := by omega
  have n_c_D_ : c ≠ D_ := by omega
  have g_oW_D_ : W.heap.size ≤ D_ := by omega
  have g_o18_D_ : w15.heap.size ≤ D_ := by omega
  have n_b_L_ : b ≠ L_ := by omega
  have n_c_L_ : c ≠ L_ := by omega
  have g_oW_L_ : W.heap.size ≤ L_ := by omega
  have g_o18_L_ : w15.heap.size ≤ L_ := by omega
  have n_D__L_ : D_ ≠ L_ := by omega
  have aL_ : Dead L_ w1_ := hL1_
  have aD_ : Dead D_ w1_ := by unfold Dead; omega
  refine wp_eq (l' := [(Value.func (.func 53) #[] #[(ptr b 0)]), undef, (eN 0), (ptr c 0), (Value.func (.func 53) #[] #[(ptr b 0)]), (eN x), undef, undef, undef]) (by kernel_rfl) ?_
  refine wpIn_skip ?_
  refine then_n ?_
  refine ⟨Only.refl _ _, fun w2_ oL_ _ => ?_⟩
  replace h1 := h1.stepb oL_ in1
  replace hb := hb.step oL_ (fun e => absurd e n_b_L_)
  replace a16 := a16.step oL_ (fun e => absurd e n_c_L_)
  replace aD_ := aD_.step oL_ (fun e => absurd e n_D__L_)
  replace oW := oW.tailb oL_ g_oW_L_
  replace o18 := o18.tailb oL_ g_o18_L_
  replace aL_ : Dead L_ w2_ := Nat.lt_of_lt_of_le aL_ oL_.size
  have oR_ : Only (fun k => (Or1 c No) k ∨ L_ < k) w2_ w2_ := Only.refl _ _
  have hp_ := pre_len hpx_
  refine wpIn_block ?_
  refine plain ?_
  refine wI (d_load (v := (eN pre.length)) ⟨_, Try.underlying3, rfl⟩ rfl a16 rfl) ?_
  refine wI (n_add (a := pre.length) (b := 1) rfl rfl (by omega)) ?_
  refine wO (d_store s_ti3 rfl rfl rfl a16 (nb rfl) rfl) ?_
  rintro _ w19 ⟨a20, o21⟩
  replace h1 := h1.stepb o21 (in2 (in2 in1))
  replace hb := hb.step o21 (fun e => absurd e n_b_c)
  replace aD_ := aD_.step o21 (fun e => absurd e (Ne.symm n_c_D_))
  replace aL_ := aL_.step o21 (fun e => absurd e (Ne.symm n_c_L_))
  replace oW := oW.tailb o21 g_oW_c
  replace o18 := o18.tail o21 (fun k _ e => by have : k = c := e; rw [this]; exact in1)
  replace oR_ := oR_.tail o21 (fun k _ e => by have : k = c := e; rw [this]; exact (Or.inl in1))
  refine wF [(Value.func (.func 53) #[] #[(ptr b 0)]), undef, (eN 0), (ptr c 0), (Value.func (.func 53) #[] #[(ptr b 0)]), (eN x), (eN pre.length), (eN (pre.length + 1)), undef] ?_
  refine wpL.done ?_
  refine inb_n ?_
  refine ⟨oR_, ?_, ?_, ?_⟩
  ·
   exact o18
  ·
   exact hb
  ·
   (try dsimp only)
   all_goals (rw [List.length_append]; exact a20)
 ·
  intro w1_ hI_ aD_
  obtain ⟨o18, hb, a16⟩ := hI_
  replace h1 := Ps.re (X' := (Or1 D_ (Or1 c No))) h1 o18 (or1_mono no_any) (xx_new (Nat.le_of_eq hD_) (xx_or1 xx_id))
  replace oW := oW.tail o18 (tl_new g_oW_c tl_no)
  have n_b_D_ : b ≠ D_ := by omega
  have n_c_D_ : c ≠ D_ := by omega
  have g_oW_D_ : W.heap.size ≤ D_ := by omega
  have g_o18_D_ : w15.heap.size ≤ D_ := by omega
  refine inb_n (then_n ?_)
  refine wpIn_seq ?_
  refine plain ?_
  refine wI (d_load (v := (eN ((onesP la).length))) ⟨_, Try.underlying3, rfl⟩ rfl a16 rfl) ?_
  refine wI (d_assign rfl) ?_
  refine wF [(Value.func (.func 53) #[] #[(ptr b 0)]), undef, (eN ((onesP la).length)), (ptr c 0), (Value.func (.func 53) #[] #[(ptr b 0)]), undef, undef, undef, (eN ((onesP la).length))] ?_
  refine wpL.done ?_
  refine then_n ?_
  refine wpIn_ret ?_
  refine leave (marks_ok aD_) (fun w22 o23 => ⟨res1 Try.results44 rfl, ?_⟩)
  replace o23 := only_mem o23
  replace h1 := h1.stepb o23 in1
  replace hb := hb.step o23 (fun e => absurd e n_b_D_)
  replace a16 := a16.step o23 (fun e => absurd e n_c_D_)
  replace oW := oW.tailb o23 g_oW_D_
  replace o18 := o18.tailb o23 g_o18_D_
  exact ⟨rfl, oW⟩
 ·
  intro _ _ _ _ h _; exact h.elim

set_option maxRecDepth 20000 in
set_option maxHeartbeats 1000000 in
theorem bitsOnesN_ok (la : List UInt8) (u1 : Value) (W : World) (h1 : Ps No (Seq kB la u1) W) (g1 : la.length ≤ 1048576) :
    CW Try.prog 24 #[u1] W (Rt (RIs (eN (onesN la)) W)) := by
 have oW : Only No W W := Only.refl _ _
 refine enter (al := [u1]) (k := 5) (l := ([u1] ++ (us 5))) Try.func24 rfl Try.ntmps24 rfl rfl ?_
 refine wpIn_seq ?_
 refine plain ?_
 refine wI (d_assign rfl) ?_
 refine wF [u1, undef, (eN 0), undef, undef, undef] ?_
 refine wpL.done ?_
 refine then_n ?_
 refine wpIn_seq ?_
 refine plain ?_
 refine wI (d_move rfl) ?_
 refine wO (d_call (xl := [.tmp 3]) (al := [u1]) Try.func42 (by kernel_rfl) rfl rfl rfl (bitsOnes_ok la u1 _ (Ps.no h1))) ?_
 rintro _ w11 ⟨b13, rfl, g14, a15, o12⟩
 have g_oW_b13 : W.heap.size ≤ b13 := Nat.le_trans oW.size g14
 replace h1 := h1.new o12 g14
 replace oW := oW.tail0 o12
 refine wO (d_call (xl := [.tmp 4]) (al := [(Value.func (.func 53) #[] #[(ptr b13 0)])]) Try.func44 (by kernel_rfl) rfl rfl rfl (bitsCount_ok la u1 b13 _ a15 (Ps.no h1) (by first | omega | (simp; done) | (simp; omega)))) ?_
 rintro _ w16 ⟨rfl, o17⟩
 replace h1 := h1.step0 o17
 replace a15 := a15.step0 o17
 replace oW := oW.tail0 o17
 refine wF [u1, undef, (eN 0), u1, (Value.func (.func 53) #[] #[(ptr b13 0)]), (eN (onesN la))] ?_
 refine wI (d_assign rfl) ?_
 refine wF [u1, undef, (eN (onesN la)), u1, (Value.func (.func 53) #[] #[(ptr b13 0)]), (eN (onesN la))] ?_
 refine wpL.done ?_
 refine then_n ?_
 refine wpIn_ret ?_
 refine leave0 (v := (eN (onesN la))) (res1 Try.results24 rfl) ?_
 exact ⟨rfl, oW⟩

set_option maxRecDepth 20000 in
set_option maxHeartbeats 1000000 in
theorem ref6Ones_ok (la : List UInt8) (u1 : Value) (W : World) (h1 : Ps No (Seq kB la u1) W) (g1 : la.length ≤ 1048576) :
    CW Try.prog 26 #[u1] W (Rt (RIs (eN (onesN la)) W)) := by
 have oW : Only No W W := Only.refl _ _
 refine enter (al := [u1]) (k := 17) (l := ([u1] ++ (us 17))) Try.func26 rfl Try.ntmps26 rfl rfl ?_
 refine wpIn_seq ?_
 refine plain ?_
 refine wI (d_assign rfl) ?_
 refine wF ([u1, undef, (eN 0)] ++ (us 15)) ?_
 refine wpL.done ?_
 refine then_n ?_
 refine wpIn_seq ?_
 refine plain ?_
 refine wI (d_assign rfl) ?_
 refine wF ([u1, undef, (eN 0), (eN 0)] ++ (us 14)) ?_
 refine wpL.done ?_
 refine then_n ?_
 refine wpIn_seq ?_
 refine wpIn_seq ?_
 refine plain ?_
 refine wI (d_assign rfl) ?_
 refine wF ([u1, undef, (eN 0), (eN 0), (eN 0)] ++ (us 13)) ?_
 refine wpL.done ?_
 refine then_n ?_
 refine wpIn_block ?_
 refine loop2 (fun (k : (Nat)) => fun (z : Nat → Value) => (([u1, undef, (eN 0), (eN ((onesTo la k).length)), (eN k)] ++ (zs z 5 12 ++ [undef])) : List Value)) (fun (k : (Nat)) => fun (w_ : World) => (k ≤ 8 * la.length) ∧ Only No W w_) (fun (k : (Nat)) => 8 * la.length - k) 0 rfl ?_ ?_
 ·
  refine ⟨?_, ?_⟩
  ·
   exact Nat.zero_le _
  ·
   exact Only.refl _ _
 rintro k z w12 ⟨hk, o11⟩
 (try dsimp only)
 replace h1 := h1.step o11 no_any
 replace oW := oW.tail o11 tl_no
 refine wpIn_seq ?_
 refine wpIn_seq ?_
 refine plain ?_
 refine wI (d_move rfl) ?_
 refine wI (d_move rfl) ?_
 refine wI (d_lenS rfl Try.underlying28 rfl h1) ?_
 refine wF ([u1, undef, (eN 0), (eN ((onesTo la k).length)), (eN k), (eN k), u1, (eN la.length)] ++ (zs z 8 9 ++ [undef])) ?_
 refine wI (n_mul (a := 8) (b := la.length) rfl rfl (by omega)) ?_
 refine wI (n_lss (a := k) (b := (8 * la.length)) rfl rfl rfl) ?_
 refine wF ([u1, undef, (eN 0), (eN ((onesTo la k).length)), (eN k), (eN k), u1, (eN la.length), (eN (8 * la.length)), (Value.bool (decide (k < (8 * la.length))))] ++ (zs z 10 7 ++ [undef])) ?_
 refine wpL.done ?_
 refine then_n ?_
 refine cond_if rfl (fun c0 => ?_) (fun c0 => ?_)
 ·
  refine wpIn_skip ?_
  refine then_n ?_
  refine wpIn_seq ?_
  refine wpIn_block ?_
  refine plain ?_
  refine wI (d_move rfl) ?_
  refine wI (d_move rfl) ?_
  refine wI (d_move rfl) ?_
  refine wF [u1, undef, (eN 0), (eN ((onesTo la k).length)), (eN k), (eN k), u1, (eN la.length), (eN (8 * la.length)), (Value.bool (decide (k < (8 * la.length)))), (z 10), (z 11), (eN ((onesTo la k).length)), u1, (eN k), (z 15), (z 16), undef] ?_
  refine wO (d_call (xl := [.tmp 13, .tmp 14]) (al := [u1, (eN k)]) Try.func45 (by kernel_rfl) rfl rfl rfl (ref6Bit_ok la k u1 _ (Ps.no h1) (by first | omega | (simp; done) | (simp; omega)) (by first | omega | (simp; done) | (simp; omega)))) ?_
  rintro _ w13 ⟨rfl, o14⟩
  replace h1 := h1.step0 o14
  replace oW := oW.tail0 o14
  replace o11 := o11.tail0 o14
  refine wI (n_add (a := ((onesTo la k).length)) (b := (btN la k)) rfl rfl (by have h_ := ones_next la k; have h__ := onesTo_len la (k + 1); omega)) ?_
  refine wI (d_assign rfl) ?_
  refine wF [u1, undef, (eN 0), (eN ((onesTo la k).length + (btN la k))), (eN k), (eN k), u1, (eN la.length), (eN (8 * la.length)), (Value.bool (decide (k < (8 * la.length)))), (z 10), (z 11), (eN ((onesTo la k).length)), u1, (eN k), (eN (btN la k)), (eN ((onesTo la k).length + (btN la k))), undef] ?_
  refine wpL.done ?_
  refine inb_n (then_n ?_)
  refine plain ?_
  refine wI (d_move rfl) ?_
  refine wI (n_add (a := k) (b := 1) rfl rfl (by omega)) ?_
  refine wI (d_assign rfl) ?_
  refine wF [u1, undef, (eN 0), (eN ((onesTo la k).length + (btN la k))), (eN (k + 1)), (eN k), u1, (eN la.length), (eN (8 * la.length)), (Value.bool (decide (k < (8 * la.length)))), (eN k), (eN (k + 1)), (eN ((onesTo la k).length)), u1, (eN k), (eN (btN la k)), (eN ((onesTo la k).length + (btN la k))), undef] ?_
  refine wpL.done ?_
  refine then_n ?_
  refine ⟨[u1, undef, (eN 0), (eN ((onesTo la (k + 1)).length)), (eN (k + 1)), (eN k), u1, (eN la.length), (eN (8 * la.length)), (Value.bool (decide (k < (8 * la.length)))), (eN k), (eN (k + 1)), (eN ((onesTo la k).length)), u1, (eN k), (eN (btN la k)), (eN ((onesTo la k).length + (btN la k))), undef], (k + 1), (congrArg (fun l_ => fr l_ _) (show ([u1, undef, (eN 0), (eN ((onesTo la k).length + (btN la k))), (eN (k + 1)), (eN k), u1, (eN la.length), (eN (8 * la.length)), (Value.bool (decide (k < (8 * la.length)))), (eN k), (eN (k + 1)), (eN ((onesTo la k).length)), u1, (eN k), (eN (btN la k)), (eN ((onesTo la k).length + (btN la k))), undef] : List Value) = [u1, undef, (eN 0), (eN ((onesTo la (k + 1)).length)), (eN (k + 1)), (eN k), u1, (eN la.length), (eN (8 * la.length)), (Value.bool (decide (k < (8 * la.length)))), (eN k), (eN (k + 1)), (eN ((onesTo la k).length)), u1, (eN k), (eN (btN la k)), (eN ((onesTo la k).length + (btN la k))), undef] from reslot [u1, undef, (eN 0), (eN ((onesTo la k).length + (btN la k))), (eN (k + 1)), (eN k), u1, (eN la.length), (eN (8 * la.length)), (Value.bool (decide (k < (8 * la.length)))), (eN k), (eN (k + 1)), (eN ((onesTo la k).length)), u1, (eN k), (eN (btN la k)), (eN ((onesTo la k).length + (btN la k))), undef] 3 (congrArg eN (ones_next la k)))), rfl, ⟨?_, ?_⟩, ?_⟩
  ·
   (try dsimp only)
   all_goals (omega)
  ·
   exact o11
  ·
   (try dsimp only)
   all_goals (omega)
 refine wpIn_exit ?_
 refine then_x (then_x (inb_e ?_))
 refine then_n ?_
 refine wpIn_seq ?_
 refine plain ?_
 refine wI (d_move rfl) ?_
 refine wI (d_assign rfl) ?_
 refine wF ([u1, undef, (eN ((onesTo la k).length)), (eN ((onesTo la k).length)), (eN k), (eN k), u1, (eN la.length), (eN (8 * la.length)), (Value.bool (decide (k < (8 * la.length))))] ++ (zs z 10 7 ++ [(eN ((onesTo la k).length))])) ?_
 refine wpL.done ?_
 refine then_n ?_
 refine wpIn_ret ?_
 refine leave0 (v := (eN ((onesTo la k).length))) (res1 Try.results26 rfl) ?_
 exact ⟨by rw [show k = 8 * la.length by omega]; rfl, oW⟩

set_option maxRecDepth 20000 in
set_option maxHeartbeats 1000000 in
theorem bitsFlip_ok (la : List UInt8) (ls : List Int) (u1 u2 : Value) (W : World) (h1 : Ps No (Seq kB la u1) W) (h2 : Ps No (Seq kI ls u2) W) (g1 : la.length ≤ 1048576) (g2 : ls.length ≤ 1048576) :
    CW Try.prog 20 #[u1, u2] W (Rt (ROw 5 eB (flipI la ls) W)) := by
 have oW : Only No W W := Only.refl _ _
 refine enter (al := [u1, u2]) (k := 36) (l := ([u1, u2] ++ (us 36))) Try.func20 rfl Try.ntmps20 rfl rfl ?_
 refine wpIn_seq ?_
 refine plain ?_
 refine wI (d_assign rfl) ?_
 refine wF ([u1, u2, undef, undef, (Value.slice none 0 0)] ++ (us 33)) ?_
 refine wpL.done ?_
 refine then_n ?_
 refine wpIn_seq ?_
 refine plain ?_
 refine wI (d_move rfl) ?_
 refine wO (d_call (xl := [.tmp 8]) (al := [u1]) Try.func40 (by kernel_rfl) rfl rfl rfl (cloneB_ok la u1 _ (Ps.no h1) (by first | omega | (simp; done) | (simp; omega)))) ?_
 rintro u13 w11 f14
 obtain ⟨bo15, f14, g16, o12⟩ := f14
 have q_oW_o := qnew g16 oW.size
 replace h1 := h1.newq o12 g16
 replace h2 := h2.newq o12 g16
 replace oW := oW.tail0 o12
 refine wI (d_assign rfl) ?_
 refine wF ([u1, u2, undef, undef, (Value.slice none 0 0), u13, undef, undef, u1, u13] ++ (us 28)) ?_
 refine wpL.done ?_
 refine then_n ?_
 refine wpIn_seq ?_
 refine wpIn_seq ?_
 refine plain ?_
 refine wI (d_move rfl) ?_
 refine wI (d_lenS rfl Try.underlying29 rfl h2) ?_
 refine wI (d_move rfl) ?_
 refine wF ([u1, u2, undef, undef, (Value.slice none 0 0), u13, undef, undef, u1, u13, u2, (eN ls.length), (eN 0)] ++ (us 25)) ?_
 refine wpL.done ?_
 refine then_n ?_
 refine wpIn_block ?_
 refine loop2 (fun (i : (Nat)) => fun (z : Nat → Value) => (([u1, u2, undef, undef, (Value.slice none 0 0), u13, undef, (z 7), u1, u13, u2, (eN ls.length), (eN i)] ++ (zs z 13 23 ++ [undef, undef])) : List Value)) (fun (i : (Nat)) => fun (w_ : World) => (i ≤ ls.length) ∧ Only (Orq bo15 No) w11 w_ ∧ Ow 5 1 bo15 u13 (flipI la (ls.take i)).length ((flipI la (ls.take i)).map eB) w_) (fun (i : (Nat)) => ls.length - i) 0 rfl ?_ ?_
 ·
  refine ⟨?_, ?_, ?_⟩
  ·
   exact Nat.zero_le _
  ·
   exact Only.refl _ _
  ·
   exact f14
 rintro i z w18 ⟨hi, o17, f14⟩
 (try dsimp only)
 replace h1 := h1.step o17 (orq_mono no_any)
 replace h2 := h2.step o17 (orq_mono no_any)
 replace oW := oW.tail o17 (tl_q q_oW_o (fun _ e => by cases e) tl_no)
 have q_o17_o : Fr bo15 bo15 w11.heap.size := Fr.same
 refine wpIn_seq ?_
 refine plain ?_
 refine wI (n_lss (a := i) (b := ls.length) rfl rfl rfl) ?_
 refine wF ([u1, u2, undef, undef, (Value.slice none 0 0), u13, undef, (z 7), u1, u13, u2, (eN ls.length), (eN i), (Value.bool (decide (i < ls.length)))] ++ (zs z 14 22 ++ [undef, undef])) ?_
 refine wpL.done ?_
 refine then_n ?_
 refine wpIn_seq ?_
 refine cond_if rfl (fun c0 => ?_) (fun c0 => ?_)
 ·
  refine wpIn_skip ?_
  refine then_n ?_
  refine wpIn_seq ?_
  refine wpIn_block ?_
  refine wpIn_seq ?_
  refine plain ?_
  refine wI (d_ix (i := i) (xs := ls) Try.underlying29 s_ti3 rfl h2 (show _ = Value.int _ ((i : Nat) : Int) from rfl) (by first | omega | (simp; done) | (simp; omega))) ?_
  refine wI (d_ldx (i := i) (xs := ls) (enc := eI) (v := (ls.getD i 0)) ⟨_, Try.underlying3, rfl⟩ rfl h2 (g_at (by first | omega | (simp; done) | (simp; omega)))) ?_
  refine wI (d_assign rfl) ?_
  refine wF ([u1, u2, undef, undef, (Value.slice none 0 0), u13, undef, (eI (ls.getD i 0)), u1, u13, u2, (eN ls.length), (eN i), (Value.bool (decide (i < ls.length))), (ixp u2 i), (eI (ls.getD i 0))] ++ (zs z 16 20 ++ [undef, undef])) ?_
  refine wpL.done ?_
  refine then_n ?_
  refine wpIn_seq ?_
  have hl_ := flipI_length la (ls.take i)
  by_cases k0 : 0 ≤ (ls.getD i 0)
  ·
   obtain ⟨n_, hn_⟩ := Int.eq_ofNat_of_zero_le k0
   refine wp_eq (l' := ([u1, u2, undef, undef, (Value.slice none 0 0), u13, undef, (eN n_), u1, u13, u2, (eN ls.length), (eN i), (Value.bool (decide (i < ls.length))), (ixp u2 i), (eI (ls.getD i 0))] ++ (zs z 16 20 ++ [undef, undef]))) (show (([u1, u2, undef, undef, (Value.slice none 0 0), u13, undef, (eI (ls.getD i 0)), u1, u13, u2, (eN ls.length), (eN i), (Value.bool (decide (i < ls.length))), (ixp u2 i), (eI (ls.getD i 0))] ++ (zs z 16 20 ++ [undef, undef])) : List Value) = ([u1, u2, undef, undef, (Value.slice none 0 0), u13, undef, (eN n_), u1, u13, u2, (eN ls.length), (eN i), (Value.bool (decide (i < ls.length))), (ixp u2 i), (eI (ls.getD i 0))] ++ (zs z 16 20 ++ [undef, undef])) from reslot ([u1, u2, undef, undef, (Value.slice none 0 0), u13, undef, (eI (ls.getD i 0)), u1, u13, u2, (eN ls.length), (eN i), (Value.bool (decide (i < ls.length))), (ixp u2 i), (eI (ls.getD i 0))] ++ (zs z 16 20 ++ [undef, undef])) 7 (congrArg eI hn_)) ?_
   refine plain ?_
   refine wI (d_move rfl) ?_
   refine wI (n_geq (a := n_) (b := 0) rfl rfl (decide_eq_true (by omega))) ?_
   refine wI (d_move rfl) ?_
   refine wF ([u1, u2, undef, undef, (Value.slice none 0 0), u13, undef, (eN n_), u1, u13, u2, (eN ls.length), (eN i), (Value.bool (decide (i < ls.length))), (ixp u2 i), (eI (ls.getD i 0)), (eN n_), (Value.bool true), (Value.bool true)] ++ (zs z 19 17 ++ [undef, undef])) ?_
   refine wpL.onis rfl rfl rfl (nb rfl) rfl (d_move rfl) ?_
   refine wpL.onis rfl rfl rfl (nb rfl) rfl (d_move rfl) ?_
   refine wpL.onis rfl rfl rfl (nb rfl) rfl (d_lenS rfl Try.underlying28 rfl (f14.seq (X := No) (fun _ _ h => h))) ?_
   refine wF ([u1, u2, undef, undef, (Value.slice none 0 0), u13, undef, (eN n_), u1, u13, u2, (eN ls.length), (eN i), (Value.bool (decide (i < ls.length))), (ixp u2 i), (eI (ls.getD i 0)), (eN n_), (Value.bool true), (Value.bool true), (eN n_), u13, (eN ((flipI la (ls.take i)).length))] ++ (zs z 22 14 ++ [undef, undef])) ?_
   refine wpL.onis rfl rfl rfl (nb rfl) rfl (n_mul (a := 8) (b := ((flipI la (ls.take i)).length)) rfl rfl (by omega)) ?_
   refine wpL.onis rfl rfl rfl (nb rfl) rfl (n_lss (a := n_) (b := (8 * ((flipI la (ls.take i)).length))) rfl rfl rfl) ?_
   refine wI (d_pick (b := true) (v := (Value.bool (decide (n_ < (8 * ((flipI la (ls.take i)).length)))))) rfl rfl) ?_
   refine wF ([u1, u2, undef, undef, (Value.slice none 0 0), u13, undef, (eN n_), u1, u13, u2, (eN ls.length), (eN i), (Value.bool (decide (i < ls.length))), (ixp u2 i), (eI (ls.getD i 0)), (eN n_), (Value.bool true), (Value.bool true), (eN n_), u13, (eN ((flipI la (ls.take i)).length)), (eN (8 * ((flipI la (ls.take i)).length))), (Value.bool (decide (n_ < (8 * ((flipI la (ls.take i)).length))))), (Value.bool (decide (n_ < (8 * ((flipI la (ls.take i)).length)))))] ++ (zs z 25 11 ++ [undef, undef])) ?_
   refine wpL.done ?_
   refine then_n ?_
   refine forget (fun zf19 => ([u1, u2, undef, undef, (Value.slice none 0 0), u13, undef, (eN n_), u1, u13, u2, (eN ls.length), (eN i)] ++ (zs zf19 13 11 ++ [(Value.bool (decide (n_ < (8 * ((flipI la (ls.take i)).length)))))] ++ (zs z 25 10 ++ [(zf19 35), undef, undef])))) (by kernel_rfl) (fun zf19 => ?_)
   refine cond_if rfl (fun k1 => ?_) (fun k1 => ?_)
   ·
    refine drawn_last (O := (Isq bo15)) (m := 10) (R := fun w_ => Ow 5 1 bo15 u13 ((flipI la (ls.take i)).set (n_ / 8) (((flipI la (ls.take i)).getD (n_ / 8) 0) ^^^ (shlB 1 (n_ % 8)))).length (((flipI la (ls.take i)).set (n_ / 8) (((flipI la (ls.take i)).getD (n_ / 8) 0) ^^^ (shlB 1 (n_ % 8)))).map eB) w_) [0, 0, 2, 7, 15, 0, 32, 96, 255, 511, 1023] [(0, 25), (1, 26), (2, 27), (3, 28), (4, 29), (5, 30), (6, 31), (7, 32), (8, 33), (9, 34)] [u13, (eN n_), (eN (n_ / 8)), (ixp u13 (n_ / 8)), (eB ((flipI la (ls.take i)).getD (n_ / 8) 0)), (eN n_), (eN (n_ % 8)), (eB (shlB 1 (n_ % 8))), (eB (((flipI la (ls.take i)).getD (n_ / 8) 0) ^^^ (shlB 1 (n_ % 8)))), (ixp u13 (n_ / 8))] ([u1, u2, undef, undef, (Value.slice none 0 0), u13, undef, (eN n_), u1, u13, u2, (eN ls.length), (eN i)] ++ (zs zf19 13 11 ++ [(Value.bool (decide (n_ < (8 * ((flipI la (ls.take i)).length))))), u13, (eN n_), (eN (n_ / 8)), (ixp u13 (n_ / 8)), (eB ((flipI la (ls.take i)).getD (n_ / 8) 0)), (eN n_), (eN (n_ % 8)), (eB (shlB 1 (n_ % 8))), (eB (((flipI la (ls.take i)).getD (n_ / 8) 0) ^^^ (shlB 1 (n_ % 8)))), (ixp u13 (n_ / 8)), (zf19 35), undef, undef])) s_mx (by kernel_rfl) (by kernel_rfl) rfl rfl (by decide) (by kernel_rfl) (by kernel_rfl) ?_ (fun _ _ h_ ho_ => h_.step0 ho_) ⟨_, rfl, rfl, fun w_ hO_ => gd rfl ((d_stx (i := (n_ / 8)) (xs := (flipI la (ls.take i))) (enc := eB) (v := (((flipI la (ls.take i)).getD (n_ / 8) 0) ^^^ (shlB 1 (n_ % 8)))) s_ti5 rfl rfl rfl (f14.step0 hO_) (by have := flipI_length la (ls.take i); first | omega | (simp; done) | (simp; omega)) rfl).mono fun u_ w2_ h_ => ⟨h_.2, h_.1⟩)⟩ ?_
    ·
     intro w_ hO_
     refine AllG.cons (gi rfl (d_move rfl)) ?_
     refine AllG.cons (gi rfl (d_move rfl)) ?_
     refine AllG.cons (gi rfl (n_quo (a := n_) (b := 8) rfl rfl (by decide) (by omega))) ?_
     refine AllG.cons (gi rfl (d_ix (i := (n_ / 8)) (xs := (flipI la (ls.take i))) Try.underlying28 s_ti5 rfl ((f14.step0 hO_).seq (X := No) (fun _ _ h => h)) (show _ = Value.int _ ((n_ / 8 : Nat) : Int) from rfl) (by have := flipI_length la (ls.take i); first | omega | (simp; done) | (simp; omega)))) ?_
     refine AllG.cons (gi rfl (d_ldx (i := (n_ / 8)) (xs := (flipI la (ls.take i))) (enc := eB) (v := ((flipI la (ls.take i)).getD (n_ / 8) 0)) ⟨_, Try.underlying5, rfl⟩ rfl ((f14.step0 hO_).seq (X := No) (fun _ _ h => h)) (g_at (by have := flipI_length la (ls.take i); first | omega | (simp; done) | (simp; omega))))) ?_
     refine AllG.cons (gi rfl (d_move rfl)) ?_
     refine AllG.cons (gi rfl (n_rem (a := n_) (b := 8) rfl rfl (by decide))) ?_
     refine AllG.cons (gi rfl (b_shl (a := (n_ % 8)) rfl rfl (by omega))) ?_
     refine AllG.cons (gi rfl (b_xor (c := ((flipI la (ls.take i)).getD (n_ / 8) 0)) (e := (shlB 1 (n_ % 8))) rfl rfl)) ?_
     refine AllG.cons (gi rfl (d_ix (i := (n_ / 8)) (xs := (flipI la (ls.take i))) Try.underlying28 s_ti5 rfl ((f14.step0 hO_).seq (X := No) (fun _ _ h => h)) (show _ = Value.int _ ((n_ / 8 : Nat) : Int) from rfl) (by have := flipI_length la (ls.take i); first | omega | (simp; done) | (simp; omega)))) ?_
     exact AllG.nil
    intro w20 o21 a22
    replace h1 := h1.gr o21 (fun k e => (.inl e)) (xx_re Fr.same xx_id)
    replace h2 := h2.gr o21 (fun k e => (.inl e)) (xx_re Fr.same xx_id)
    have tq := oW.size
    replace oW := oW.tailr o21 q_oW_o (fun _ e => by cases e)
    replace q_oW_o := qtr Fr.same q_oW_o tq
    clear tq
    have tq := o17.size
    replace o17 := o17.tailr o21 q_o17_o (fun k e => (.inl e))
    replace q_o17_o := qtr Fr.same q_o17_o tq
    clear tq
    refine inb_n (then_n ?_)
    refine plain ?_
    refine wI (n_add (a := i) (b := 1) rfl rfl (by omega)) ?_
    refine wI (d_move rfl) ?_
    refine wF ([u1, u2, undef, undef, (Value.slice none 0 0), u13, undef, (eN n_), u1, u13, u2, (eN ls.length), (eN (i + 1))] ++ (zs zf19 13 11 ++ [(Value.bool (decide (n_ < (8 * ((flipI la (ls.take i)).length))))), u13, (eN n_), (eN (n_ / 8)), (ixp u13 (n_ / 8)), (eB ((flipI la (ls.take i)).getD (n_ / 8) 0)), (eN n_), (eN (n_ % 8)), (eB (shlB 1 (n_ % 8))), (eB (((flipI la (ls.take i)).getD (n_ / 8) 0) ^^^ (shlB 1 (n_ % 8)))), (ixp u13 (n_ / 8)), (eN (i + 1)), undef, undef])) ?_
    refine wpL.done ?_
    refine then_n ?_
    refine ⟨_, (i + 1), rfl, rfl, ⟨?_, ?_, ?_⟩, ?_⟩
    ·
     (try dsimp only)
     all_goals (omega)
    ·
     exact o17
    ·
     (try dsimp only)
     all_goals (rw [flI_yes hn_ (by omega), flipI_next la c0] at a22; exact a22)
    ·
     (try dsimp only)
     all_goals (omega)
   refine wpIn_skip ?_
   refine inb_n (then_n ?_)
   refine plain ?_
   refine wI (n_add (a := i) (b := 1) rfl rfl (by omega)) ?_
   refine wI (d_move rfl) ?_
   refine wF ([u1, u2, undef, undef, (Value.slice none 0 0), u13, undef, (eN n_), u1, u13, u2, (eN ls.length), (eN (i + 1))] ++ (zs zf19 13 11 ++ [(Value.bool (decide (n_ < (8 * ((flipI la (ls.take i)).length)))))] ++ (zs z 25 10 ++ [(eN (i + 1)), undef, undef]))) ?_
   refine wpL.done ?_
   refine then_n ?_
   refine ⟨_, (i + 1), rfl, rfl, ⟨?_, ?_, ?_⟩, ?_⟩
   ·
    (try dsimp only)
    all_goals (omega)
   ·
    exact o17
   ·
    (try dsimp only)
    all_goals (rw [← flipI_next la c0, flI_no (fun h_ => absurd h_.2 (by omega))]; exact f14)
   ·
    (try dsimp only)
    all_goals (omega)
  refine plain ?_
  refine wI (d_move rfl) ?_
  refine wI (d_geq (k := .i64) (m := (ls.getD i 0)) (n := 0) rfl rfl (decide_eq_false k0)) ?_
  refine wI (d_move rfl) ?_
  refine wF ([u1, u2, undef, undef, (Value.slice none 0 0), u13, undef, (eI (ls.getD i 0)), u1, u13, u2, (eN ls.length), (eN i), (Value.bool (decide (i < ls.length))), (ixp u2 i), (eI (ls.getD i 0)), (eI (ls.getD i 0)), (Value.bool false), (Value.bool false)] ++ (zs z 19 17 ++ [undef, undef])) ?_
  refine wpL.off rfl rfl rfl (nb rfl) rfl ?_
  refine wpL.off rfl rfl rfl (nb rfl) rfl ?_
  refine wF ([u1, u2, undef, undef, (Value.slice none 0 0), u13, undef, (eI (ls.getD i 0)), u1, u13, u2, (eN ls.length), (eN i), (Value.bool (decide (i < ls.length))), (ixp u2 i), (eI (ls.getD i 0)), (eI (ls.getD i 0)), (Value.bool false), (Value.bool false), undef, undef] ++ (zs z 21 15 ++ [undef, undef])) ?_
  refine wpL.off rfl rfl rfl (nb rfl) rfl ?_
  refine wpL.off rfl rfl rfl (nb rfl) rfl ?_
  refine wpL.off rfl rfl rfl (nb rfl) rfl ?_
  refine wI (d_pick (b := false) (v := (Value.bool false)) rfl rfl) ?_
  refine wF ([u1, u2, undef, undef, (Value.slice none 0 0), u13, undef, (eI (ls.getD i 0)), u1, u13, u2, (eN ls.length), (eN i), (Value.bool (decide (i < ls.length))), (ixp u2 i), (eI (ls.getD i 0)), (eI (ls.getD i 0)), (Value.bool false), (Value.bool false)] ++ (us 5 ++ [(Value.bool false)] ++ (zs z 25 11 ++ [undef, undef]))) ?_
  refine wpL.done ?_
  refine then_n ?_
  refine cond_f rfl ?_
  refine wpIn_skip ?_
  refine inb_n (then_n ?_)
  refine forget (fun zf23 => ([u1, u2, undef, undef, (Value.slice none 0 0), u13, undef, (zf23 7), u1, u13, u2, (eN ls.length), (eN i)] ++ (zs zf23 13 12 ++ (zs z 25 10 ++ [(zf23 35), undef, undef])))) (by kernel_rfl) (fun zf23 => ?_)
  refine plain ?_
  refine wI (n_add (a := i) (b := 1) rfl rfl (by omega)) ?_
  refine wI (d_move rfl) ?_
  refine wF ([u1, u2, undef, undef, (Value.slice none 0 0), u13, undef, (zf23 7), u1, u13, u2, (eN ls.length), (eN (i + 1))] ++ (zs zf23 13 12 ++ (zs z 25 10 ++ [(eN (i + 1)), undef, undef]))) ?_
  refine wpL.done ?_
  refine then_n ?_
  refine ⟨_, (i + 1), rfl, rfl, ⟨?_, ?_, ?_⟩, ?_⟩
  ·
   (try dsimp only)
   all_goals (omega)
  ·
   exact o17
  ·
   (try dsimp only)
   all_goals (rw [← flipI_next la c0, flI_no (fun h_ => k0 h_.1)]; exact f14)
  ·
   (try dsimp only)
   all_goals (omega)
 refine wpIn_exit ?_
 refine then_x (then_x (inb_e ?_))
 refine then_n ?_
 refine forget (fun zf24 => (zs zf24 0 5 ++ [u13] ++ (zs zf24 6 6 ++ [(eN i)] ++ (zs zf24 13 25)))) (by kernel_rfl) (fun zf24 => ?_)
 refine wpIn_seq ?_
 refine plain ?_
 refine wI (d_move rfl) ?_
 refine wO (d_call (xl := [.tmp 36]) (al := [u13]) Try.func40 (by kernel_rfl) rfl rfl rfl (cloneB_ok (flipI la (ls.take i)) u13 _ (Ps.no (f14.seq (X := No) (fun _ _ h => h))) (by have := flipI_length la (ls.take i); first | omega | (simp; done) | (simp; omega)))) ?_
 rintro u27 w25 f28
 obtain ⟨bo29, f28, g30, o26⟩ := f28
 have nqq_o_o2 := nqq_new g30 f14.lts
 have q_oW_o2 := qnew g30 oW.size
 have q_o17_o2 := qnew g30 o17.size
 replace h1 := h1.newq o26 g30
 replace h2 := h2.newq o26 g30
 replace f14 := f14.step0 o26
 replace oW := oW.tail0 o26
 replace o17 := o17.tail0 o26
 refine wI (d_assign rfl) ?_
 refine wF ([(zf24 0), (zf24 1), (zf24 2), (zf24 3), u27, u13] ++ (zs zf24 6 6 ++ [(eN i)] ++ (zs zf24 13 23 ++ [u13, u27]))) ?_
 refine wpL.done ?_
 refine then_n ?_
 refine wpIn_ret ?_
 refine leave0 (v := u27) (res1 Try.results20 rfl) ?_
 exact ROw.mk_ f28 (by rw [show i = ls.length by omega, List.take_length]) q_oW_o2 oW

set_option maxRecDepth 20000 in
set_option maxHeartbeats 1000000 in
theorem bitsMix_ok (la lb lm : List UInt8) (u1 u2 u3 : Value) (W : World) (h1 : Ps No (Seq kB la u1) W) (h2 : Ps No (Seq kB lb u2) W) (h3 : Ps No (Seq kB lm u3) W) (g1 : la.length ≤ 1048576) (g2 : lb.length ≤ 1048576) (g3 : lm.length ≤ 1048576) :
    CW Try.prog 22 #[u1, u2, u3] W (Rt (ROw 5 eB (mixR la lb lm) W)) := by
 have oW : Only No W W := Only.refl _ _
 refine enter (al := [u1, u2, u3]) (k := 48) (l := ([u1, u2, u3] ++ (us 48))) Try.func22 rfl Try.ntmps22 rfl rfl ?_
 refine wpIn_seq ?_
 refine plain ?_
 refine wI (d_assign rfl) ?_
 refine wF ([u1, u2, u3, undef, undef, undef, (Value.slice none 0 0)] ++ (us 44)) ?_
 refine wpL.done ?_
 refine then_n ?_
 refine wpIn_seq ?_
 refine wpIn_seq ?_
 refine plain ?_
 refine wI (d_move rfl) ?_
 refine wI (d_lenS rfl Try.underlying28 rfl h1) ?_
 refine wI (d_move rfl) ?_
 refine wF ([u1, u2, u3, undef, undef, undef, (Value.slice none 0 0), undef, undef, undef, u1, (eN la.length), u2] ++ (us 38)) ?_
 refine wI (d_lenS rfl Try.underlying28 rfl h2) ?_
 refine wI (n_neq (a := la.length) (b := lb.length) rfl rfl rfl) ?_
 refine wF ([u1, u2, u3, undef, undef, undef, (Value.slice none 0 0), undef, undef, undef, u1, (eN la.length), u2, (eN lb.length), (Value.bool (!decide (la.length = lb.length)))] ++ (us 36)) ?_
 refine wpL.done ?_
 refine then_n ?_
 refine cond_un rfl (fun c0 => ?_) (fun c0 => ?_)
 ·
  refine wpIn_seq ?_
  refine plain ?_
  refine wI (d_assign rfl) ?_
  refine wF ([u1, u2, u3, undef, undef, undef, (Value.slice none 0 0), undef, undef, undef, u1, (eN la.length), u2, (eN lb.length), (Value.bool (!decide (la.length = lb.length)))] ++ (us 36)) ?_
  refine wpL.done ?_
  refine then_n ?_
  refine forget (fun zf11 => (zs zf11 0 6 ++ [(Value.slice none 0 0)] ++ (zs zf11 7 12 ++ [undef] ++ (zs zf11 20 31)))) (by kernel_rfl) (fun zf11 => ?_)
  refine wpIn_ret ?_
  refine then_r ?_
  refine leave0 (v := (Value.slice none 0 0)) (res1 Try.results22 rfl) ?_
  exact ROw.nil ((if_neg c0).symm) oW
 refine wpIn_skip ?_
 refine then_n ?_
 refine wpIn_seq ?_
 refine plain ?_
 refine wI (d_move rfl) ?_
 refine wO (d_call (xl := [.tmp 15]) (al := [u1]) Try.func40 (by kernel_rfl) rfl rfl rfl (cloneB_ok la u1 _ (Ps.no h1) (by first | omega | (simp; done) | (simp; omega)))) ?_
 rintro u14 w12 f15
 obtain ⟨bo16, f15, g17, o13⟩ := f15
 have q_oW_o := qnew g17 oW.size
 replace h1 := h1.newq o13 g17
 replace h2 := h2.newq o13 g17
 replace h3 := h3.newq o13 g17
 replace oW := oW.tail0 o13
 refine wI (d_assign rfl) ?_
 refine wF ([u1, u2, u3, undef, undef, undef, (Value.slice none 0 0), u14, undef, undef, u1, (eN la.length), u2, (eN lb.length), (Value.bool (!decide (la.length = lb.length))), u1, u14] ++ (us 34)) ?_
 refine wpL.done ?_
 refine then_n ?_
 refine forget (fun zf18 => ([u1, u2, u3, (zf18 3), (zf18 4), (zf18 5), (zf18 6), u14] ++ (zs zf18 8 11 ++ [undef] ++ (zs zf18 20 12 ++ (us 16 ++ [(zf18 48), (zf18 49), (zf18 50)]))))) (by kernel_rfl) (fun zf18 => ?_)
 refine wpIn_seq ?_
 refine wpIn_seq ?_
 refine plain ?_
 refine wI (d_move rfl) ?_
 refine wI (d_lenS rfl Try.underlying28 rfl (f15.seq (X := No) (fun _ _ h => h))) ?_
 refine wI (d_move rfl) ?_
 refine wF ([u1, u2, u3, (zf18 3), (zf18 4), (zf18 5), (zf18 6), u14] ++ (zs zf18 8 9 ++ [u14, (eN la.length), (eN 0)] ++ (zs zf18 20 12 ++ (us 16 ++ [(zf18 48), (zf18 49), (zf18 50)])))) ?_
 refine wpL.done ?_
 refine then_n ?_
 refine wpIn_block ?_
 refine loop2 (fun (i : (Nat)) => fun (z : Nat → Value) => (([u1, u2, u3, (zf18 3), (zf18 4), (zf18 5), (zf18 6), u14, (z 8), (z 9)] ++ (zs zf18 10 7 ++ [u14, (eN la.length), (eN i)] ++ (zs z 20 29 ++ [(zf18 49), (zf18 50)]))) : List Value)) (fun (i : (Nat)) => fun (w_ : World) => (i ≤ la.length) ∧ Only (Orq bo16 No) w12 w_ ∧ Ow 5 1 bo16 u14 (mixTo la lb lm i).length ((mixTo la lb lm i).map eB) w_) (fun (i : (Nat)) => la.length - i) 0 rfl ?_ ?_
 ·
  refine ⟨?_, ?_, ?_⟩
  ·
   exact Nat.zero_le _
  ·
   exact Only.refl _ _
  ·
   (try dsimp only)
   all_goals (rw [← mixTo_zero]; exact f15)
 rintro i z w20 ⟨hi, o19, f15⟩
 (try dsimp only)
 replace h1 := h1.step o19 (orq_mono no_any)
 replace h2 := h2.step o19 (orq_mono no_any)
 replace h3 := h3.step o19 (orq_mono no_any)
 replace oW := oW.tail o19 (tl_q q_oW_o (fun _ e => by cases e) tl_no)
 have q_o19_o : Fr bo16 bo16 w12.heap.size := Fr.same
 refine wpIn_seq ?_
 refine plain ?_
 refine wI (n_lss (a := i) (b := la.length) rfl rfl rfl) ?_
 refine wF ([u1, u2, u3, (zf18 3), (zf18 4), (zf18 5), (zf18 6), u14, (z 8), (z 9)] ++ (zs zf18 10 7 ++ [u14, (eN la.length), (eN i), (Value.bool (decide (i < la.length)))] ++ (zs z 21 28 ++ [(zf18 49), (zf18 50)]))) ?_
 refine wpL.done ?_
 refine then_n ?_
 refine wpIn_seq ?_
 refine cond_if rfl (fun c1 => ?_) (fun c1 => ?_)
 ·
  refine wpIn_skip ?_
  refine then_n ?_
  refine wpIn_seq ?_
  refine wpIn_block ?_
  refine wpIn_seq ?_
  refine plain ?_
  refine wI (d_move rfl) ?_
  refine wI (d_assign rfl) ?_
  refine wF ([u1, u2, u3, (zf18 3), (zf18 4), (zf18 5), (zf18 6), u14, (eN i), (z 9)] ++ (zs zf18 10 7 ++ [u14, (eN la.length), (eN i), (Value.bool (decide (i < la.length))), (eN i)] ++ (zs z 22 27 ++ [(zf18 49), (zf18 50)]))) ?_
  refine wpL.done ?_
  refine then_n ?_
  refine wpIn_seq ?_
  refine plain ?_
  refine wI (d_move rfl) ?_
  refine wI (d_lenS rfl Try.underlying28 rfl h3) ?_
  refine wI (n_gtr (a := lm.length) (b := 0) rfl rfl rfl) ?_
  refine wF ([u1, u2, u3, (zf18 3), (zf18 4), (zf18 5), (zf18 6), u14, (eN i), (z 9)] ++ (zs zf18 10 7 ++ [u14, (eN la.length), (eN i), (Value.bool (decide (i < la.length))), (eN i), u3, (eN lm.length), (Value.bool (decide (0 < lm.length)))] ++ (zs z 25 24 ++ [(zf18 49), (zf18 50)]))) ?_
  refine wpL.done ?_
  refine then_n ?_
  refine cond_if rfl (fun c2 => ?_) (fun c2 => ?_)
  ·
   refine wpIn_seq ?_
   refine plain ?_
   refine wI (d_move rfl) ?_
   refine wI (d_move rfl) ?_
   refine wI (d_move rfl) ?_
   refine wF ([u1, u2, u3, (zf18 3), (zf18 4), (zf18 5), (zf18 6), u14, (eN i), (z 9)] ++ (zs zf18 10 7 ++ [u14, (eN la.length), (eN i), (Value.bool (decide (i < la.length))), (eN i), u3, (eN lm.length), (Value.bool (decide (0 < lm.length))), u3, (eN i), u3] ++ (zs z 28 21 ++ [(zf18 49), (zf18 50)]))) ?_
   refine wI (d_lenS rfl Try.underlying28 rfl h3) ?_
   refine wI (n_rem (a := i) (b := lm.length) rfl rfl (by omega)) ?_
   refine wI (d_ix (i := (i % lm.length)) (xs := lm) Try.underlying28 s_ti5 rfl h3 (show _ = Value.int _ ((i % lm.length : Nat) : Int) from rfl) (Nat.mod_lt _ (by omega))) ?_
   refine wF ([u1, u2, u3, (zf18 3), (zf18 4), (zf18 5), (zf18 6), u14, (eN i), (z 9)] ++ (zs zf18 10 7 ++ [u14, (eN la.length), (eN i), (Value.bool (decide (i < la.length))), (eN i), u3, (eN lm.length), (Value.bool (decide (0 < lm.length))), u3, (eN i), u3, (eN lm.length), (eN (i % lm.length)), (ixp u3 (i % lm.length))] ++ (zs z 31 18 ++ [(zf18 49), (zf18 50)]))) ?_
   refine wI (d_ldx (i := (i % lm.length)) (xs := lm) (enc := eB) (v := (lm.getD (i % lm.length) 0)) ⟨_, Try.underlying5, rfl⟩ rfl h3 (g_at (Nat.mod_lt _ (by omega)))) ?_
   refine wI (d_assign rfl) ?_
   refine wF ([u1, u2, u3, (zf18 3), (zf18 4), (zf18 5), (zf18 6), u14, (eN i), (eB (lm.getD (i % lm.length) 0))] ++ (zs zf18 10 7 ++ [u14, (eN la.length), (eN i), (Value.bool (decide (i < la.length))), (eN i), u3, (eN lm.length), (Value.bool (decide (0 < lm.length))), u3, (eN i), u3, (eN lm.length), (eN (i % lm.length)), (ixp u3 (i % lm.length)), (eB (lm.getD (i % lm.length) 0))] ++ (zs z 32 17 ++ [(zf18 49), (zf18 50)]))) ?_
   refine wpL.done ?_
   refine then_n ?_
   refine forget (fun zf21 => ([u1, u2, u3, (zf18 3), (zf18 4), (zf18 5), (zf18 6), u14, (eN i), (eB (lm.getD (i % lm.length) 0))] ++ (zs zf18 10 7 ++ [u14, (eN la.length), (eN i)] ++ (zs zf21 20 12 ++ (zs z 32 16 ++ [(zf21 48), (zf18 49), (zf18 50)]))))) (by kernel_rfl) (fun zf21 => ?_)
   have hl_ := mixTo_length la lb lm i
   refine drawn_last (O := (Isq bo16)) (m := 16) (R := fun w_ => Ow 5 1 bo16 u14 ((mixTo la lb lm i).set i (((la.getD i 0) &&& ~~~(lm.getD (i % lm.length) 0)) ||| ((lb.getD i 0) &&& (lm.getD (i % lm.length) 0)))).length (((mixTo la lb lm i).set i (((la.getD i 0) &&& ~~~(lm.getD (i % lm.length) 0)) ||| ((lb.getD i 0) &&& (lm.getD (i % lm.length) 0)))).map eB) w_) [0, 0, 0, 0, 12, 28, 0, 124, 0, 0, 768, 1792, 0, 7936, 16380, 32767, 65535] [(0, 32), (1, 33), (2, 34), (3, 35), (4, 36), (5, 37), (6, 38), (7, 39), (8, 40), (9, 41), (10, 42), (11, 43), (12, 44), (13, 45), (14, 46), (15, 47)] [u14, (eN i), u1, (eN i), (ixp u1 i), (eB (la.getD i 0)), (eB (lm.getD (i % lm.length) 0)), (eB ((la.getD i 0) &&& ~~~(lm.getD (i % lm.length) 0))), u2, (eN i), (ixp u2 i), (eB (lb.getD i 0)), (eB (lm.getD (i % lm.length) 0)), (eB ((lb.getD i 0) &&& (lm.getD (i % lm.length) 0))), (eB (((la.getD i 0) &&& ~~~(lm.getD (i % lm.length) 0)) ||| ((lb.getD i 0) &&& (lm.getD (i % lm.length) 0)))), (ixp u14 i)] ([u1, u2, u3, (zf18 3), (zf18 4), (zf18 5), (zf18 6), u14, (eN i), (eB (lm.getD (i % lm.length) 0))] ++ (zs zf18 10 7 ++ [u14, (eN la.length), (eN i)] ++ (zs zf21 20 12 ++ [u14, (eN i), u1, (eN i), (ixp u1 i), (eB (la.getD i 0)), (eB (lm.getD (i % lm.length) 0)), (eB ((la.getD i 0) &&& ~~~(lm.getD (i % lm.length) 0))), u2, (eN i), (ixp u2 i), (eB (lb.getD i 0)), (eB (lm.getD (i % lm.length) 0)), (eB ((lb.getD i 0) &&& (lm.getD (i % lm.length) 0))), (eB (((la.getD i 0) &&& ~~~(lm.getD (i % lm.length) 0)) ||| ((lb.getD i 0) &&& (lm.getD (i % lm.length) 0)))), (ixp u14 i), (zf21 48), (zf18 49), (zf18 50)]))) s_mx (by kernel_rfl) (by kernel_rfl) rfl rfl (by decide) (by kernel_rfl) (by kernel_rfl) ?_ (fun _ _ h_ ho_ => h_.step0 ho_) ⟨_, rfl, rfl, fun w_ hO_ => gd rfl ((d_stx (i := i) (xs := (mixTo la lb lm i)) (enc := eB) (v := (((la.getD i 0) &&& ~~~(lm.getD (i % lm.length) 0)) ||| ((lb.getD i 0) &&& (lm.getD (i % lm.length) 0)))) s_ti5 rfl rfl rfl (f15.step0 hO_) (by rw [mixTo_length]; omega) rfl).mono fun u_ w2_ h_ => ⟨h_.2, h_.1⟩)⟩ ?_
   ·
    intro w_ hO_
    refine AllG.cons (gi rfl (d_move rfl)) ?_
    refine AllG.cons (gi rfl (d_move rfl)) ?_
    refine AllG.cons (gi rfl (d_move rfl)) ?_
    refine AllG.cons (gi rfl (d_move rfl)) ?_
    refine AllG.cons (gi rfl (d_ix (i := i) (xs := la) Try.underlying28 s_ti5 rfl (h1.step0 hO_) (show _ = Value.int _ ((i : Nat) : Int) from rfl) (by first | omega | (simp; done) | (simp; omega)))) ?_
    refine AllG.cons (gi rfl (d_ldx (i := i) (xs := la) (enc := eB) (v := (la.getD i 0)) ⟨_, Try.underlying5, rfl⟩ rfl (h1.step0 hO_) (g_at (by first | omega | (simp; done) | (simp; omega))))) ?_
    refine AllG.cons (gi rfl (d_move rfl)) ?_
    refine AllG.cons (gi rfl (b_andNot (c := (la.getD i 0)) (e := (lm.getD (i % lm.length) 0)) rfl rfl)) ?_
    refine AllG.cons (gi rfl (d_move rfl)) ?_
    refine AllG.cons (gi rfl (d_move rfl)) ?_
    refine AllG.cons (gi rfl (d_ix (i := i) (xs := lb) Try.underlying28 s_ti5 rfl (h2.step0 hO_) (show _ = Value.int _ ((i : Nat) : Int) from rfl) (by first | omega | (simp; done) | (simp; omega)))) ?_
    refine AllG.cons (gi rfl (d_ldx (i := i) (xs := lb) (enc := eB) (v := (lb.getD i 0)) ⟨_, Try.underlying5, rfl⟩ rfl (h2.step0 hO_) (g_at (by first | omega | (simp; done) | (simp; omega))))) ?_
    refine AllG.cons (gi rfl (d_move rfl)) ?_
    refine AllG.cons (gi rfl (b_and (c := (lb.getD i 0)) (e := (lm.getD (i % lm.length) 0)) rfl rfl)) ?_
    refine AllG.cons (gi rfl (b_or (c := ((la.getD i 0) &&& ~~~(lm.getD (i % lm.length) 0))) (e := ((lb.getD i 0) &&& (lm.getD (i % lm.length) 0))) rfl rfl)) ?_
    refine AllG.cons (gi rfl (d_ix (i := i) (xs := (mixTo la lb lm i)) Try.underlying28 s_ti5 rfl ((f15.step0 hO_).seq (X := No) (fun _ _ h => h)) (show _ = Value.int _ ((i : Nat) : Int) from rfl) (by have := mixTo_length la lb lm i; first | omega | (simp; done) | (simp; omega)))) ?_
    exact AllG.nil
   intro w22 o23 a24
   replace h1 := h1.gr o23 (fun k e => (.inl e)) (xx_re Fr.same xx_id)
   replace h2 := h2.gr o23 (fun k e => (.inl e)) (xx_re Fr.same xx_id)
   replace h3 := h3.gr o23 (fun k e => (.inl e)) (xx_re Fr.same xx_id)
   have tq := oW.size
   replace oW := oW.tailr o23 q_oW_o (fun _ e => by cases e)
   replace q_oW_o := qtr Fr.same q_oW_o tq
   clear tq
   have tq := o19.size
   replace o19 := o19.tailr o23 q_o19_o (fun k e => (.inl e))
   replace q_o19_o := qtr Fr.same q_o19_o tq
   clear tq
   refine inb_n (then_n ?_)
   refine plain ?_
   refine wI (n_add (a := i) (b := 1) rfl rfl (by omega)) ?_
   refine wI (d_move rfl) ?_
   refine wF ([u1, u2, u3, (zf18 3), (zf18 4), (zf18 5), (zf18 6), u14, (eN i), (eB (lm.getD (i % lm.length) 0))] ++ (zs zf18 10 7 ++ [u14, (eN la.length), (eN (i + 1))] ++ (zs zf21 20 12 ++ [u14, (eN i), u1, (eN i), (ixp u1 i), (eB (la.getD i 0)), (eB (lm.getD (i % lm.length) 0)), (eB ((la.getD i 0) &&& ~~~(lm.getD (i % lm.length) 0))), u2, (eN i), (ixp u2 i), (eB (lb.getD i 0)), (eB (lm.getD (i % lm.length) 0)), (eB ((lb.getD i 0) &&& (lm.getD (i % lm.length) 0))), (eB (((la.getD i 0) &&& ~~~(lm.getD (i % lm.length) 0)) ||| ((lb.getD i 0) &&& (lm.getD (i % lm.length) 0)))), (ixp u14 i), (eN (i + 1)), (zf18 49), (zf18 50)]))) ?_
   refine wpL.done ?_
   refine then_n ?_
   refine ⟨_, (i + 1), rfl, rfl, ⟨?_, ?_, ?_⟩, ?_⟩
   ·
    (try dsimp only)
    all_goals (omega)
   ·
    exact o19
   ·
    (try dsimp only)
    all_goals (rw [mixTo_step la lb i c2] at a24; exact a24)
   ·
    (try dsimp only)
    all_goals (omega)
  refine wpIn_skip ?_
  refine inb_n (then_n ?_)
  refine plain ?_
  refine wI (n_add (a := i) (b := 1) rfl rfl (by omega)) ?_
  refine wI (d_move rfl) ?_
  refine wF ([u1, u2, u3, (zf18 3), (zf18 4), (zf18 5), (zf18 6), u14, (eN i), (z 9)] ++ (zs zf18 10 7 ++ [u14, (eN la.length), (eN (i + 1)), (Value.bool (decide (i < la.length))), (eN i), u3, (eN lm.length), (Value.bool (decide (0 < lm.length)))] ++ (zs z 25 23 ++ [(eN (i + 1)), (zf18 49), (zf18 50)]))) ?_
  refine wpL.done ?_
  refine then_n ?_
  refine ⟨_, (i + 1), rfl, rfl, ⟨?_, ?_, ?_⟩, ?_⟩
  ·
   (try dsimp only)
   all_goals (omega)
  ·
   exact o19
  ·
   (try dsimp only)
   all_goals (rw [mixTo_none la lb i c2]; exact f15)
  ·
   (try dsimp only)
   all_goals (omega)
 refine wpIn_exit ?_
 refine then_x (then_x (inb_e ?_))
 refine then_n ?_
 refine wpIn_seq ?_
 refine plain ?_
 refine wI (d_move rfl) ?_
 refine wO (d_call (xl := [.tmp 49]) (al := [u14]) Try.func40 (by kernel_rfl) rfl rfl rfl (cloneB_ok (mixTo la lb lm i) u14 _ (Ps.no (f15.seq (X := No) (fun _ _ h => h))) (by have := mixTo_length la lb lm i; first | omega | (simp; done) | (simp; omega)))) ?_
 rintro u27 w25 f28
 obtain ⟨bo29, f28, g30, o26⟩ := f28
 have nqq_o_o2 := nqq_new g30 f15.lts
 have q_oW_o2 := qnew g30 oW.size
 have q_o19_o2 := qnew g30 o19.size
 replace h1 := h1.newq o26 g30
 replace h2 := h2.newq o26 g30
 replace h3 := h3.newq o26 g30
 replace f15 := f15.step0 o26
 replace oW := oW.tail0 o26
 replace o19 := o19.tail0 o26
 refine wI (d_assign rfl) ?_
 refine wF ([u1, u2, u3, (zf18 3), (zf18 4), (zf18 5), u27, u14, (z 8), (z 9)] ++ (zs zf18 10 7 ++ [u14, (eN la.length), (eN i), (Value.bool (decide (i < la.length)))] ++ (zs z 21 28 ++ [u14, u27]))) ?_
 refine wpL.done ?_
 refine then_n ?_
 refine forget (fun zf31 => (zs zf31 0 6 ++ [u27] ++ (zs zf31 7 12 ++ [(eN i)] ++ (zs zf31 20 31)))) (by kernel_rfl) (fun zf31 => ?_)
 refine wpIn_ret ?_
 refine leave0 (v := u27) (res1 Try.results22 rfl) ?_
 exact ROw.mk_ f28 (by rw [mixTo_done (i := i) (by omega)]; exact (if_pos c0).symm) q_oW_o2 oW

set_option maxRecDepth 20000 in
set_option maxHeartbeats 1000000 in
theorem ref6Mix_ok (la lb lm : List UInt8) (u1 u2 u3 : Value) (W : World) (h1 : Ps No (Seq kB la u1) W) (h2 : Ps No (Seq kB lb u2) W) (h3 : Ps No (Seq kB lm u3) W) (g1 : la.length ≤ 1048576) (g2 : lb.length ≤ 1048576) (g3 : lm.length ≤ 1048576) :
    CW Try.prog 28 #[u1, u2, u3] W (Rt (ROw 5 eB (mixR la lb lm) W)) := by
 have oW : Only No W W := Only.refl _ _
 refine enter (al := [u1, u2, u3]) (k := 50) (l := ([u1, u2, u3] ++ (us 50))) Try.func28 rfl Try.ntmps28 rfl rfl ?_
 refine wpIn_seq ?_
 refine plain ?_
 refine wI (d_assign rfl) ?_
 refine wF ([u1, u2, u3, undef, undef, undef, (Value.slice none 0 0)] ++ (us 46)) ?_
 refine wpL.done ?_
 refine then_n ?_
 refine wpIn_seq ?_
 refine wpIn_seq ?_
 refine plain ?_
 refine wI (d_move rfl) ?_
 refine wI (d_lenS rfl Try.underlying28 rfl h1) ?_
 refine wI (d_move rfl) ?_
 refine wF ([u1, u2, u3, undef, undef, undef, (Value.slice none 0 0), undef, undef, undef, u1, (eN la.length), u2] ++ (us 40)) ?_
 refine wI (d_lenS rfl Try.underlying28 rfl h2) ?_
 refine wI (n_neq (a := la.length) (b := lb.length) rfl rfl rfl) ?_
 refine wF ([u1, u2, u3, undef, undef, undef, (Value.slice none 0 0), undef, undef, undef, u1, (eN la.length), u2, (eN lb.length), (Value.bool (!decide (la.length = lb.length)))] ++ (us 38)) ?_
 refine wpL.done ?_
 refine then_n ?_
 refine cond_un rfl (fun c0 => ?_) (fun c0 => ?_)
 ·
  refine wpIn_seq ?_
  refine plain ?_
  refine wI (d_assign rfl) ?_
  refine wF ([u1, u2, u3, undef, undef, undef, (Value.slice none 0 0), undef, undef, undef, u1, (eN la.length), u2, (eN lb.length), (Value.bool (!decide (la.length = lb.length)))] ++ (us 38)) ?_
  refine wpL.done ?_
  refine then_n ?_
  refine forget (fun zf11 => (zs zf11 0 6 ++ [(Value.slice none 0 0), (zf11 7), undef] ++ (zs zf11 9 44))) (by kernel_rfl) (fun zf11 => ?_)
  refine wpIn_ret ?_
  refine then_r ?_
  refine leave0 (v := (Value.slice none 0 0)) (res1 Try.results28 rfl) ?_
  exact ROw.nil ((if_neg c0).symm) oW
 refine wpIn_skip ?_
 refine then_n ?_
 refine wpIn_seq ?_
 refine plain ?_
 refine wO (d_buildL (cs := []) Try.underlying28 s_ti5 rfl (nb rfl) parts_nil rfl) ?_
 rintro _ w13 ⟨b12, rfl, g14, a15, o16⟩
 replace a15 : Arr 5 b12 (([] : List UInt8).map eB) w13 := a15
 have l_b12 : ([] : List UInt8).length = 0 := rfl
 have g_oW_b12 : W.heap.size ≤ b12 := Nat.le_trans oW.size g14
 replace h1 := h1.new o16 g14
 replace h2 := h2.new o16 g14
 replace h3 := h3.new o16 g14
 replace oW := oW.tail0 o16
 refine wI (d_move rfl) ?_
 have a17 := Ow.of_map2 a15 l_b12
 have q_oW_o : Fr (some b12) none W.heap.size := Fr.new g_oW_b12
 replace h1 := h1.less (Y := (Orq (some b12) No)) (xx_br xx_id)
 replace h2 := h2.less (Y := (Orq (some b12) No)) (xx_br xx_id)
 replace h3 := h3.less (Y := (Orq (some b12) No)) (xx_br xx_id)
 refine wO (d_append Try.underlying28 Try.underlying28 s_ti5 rfl rfl rfl a17 (SrcV.of_seq h1 (fun _ => rfl)) (by simp; omega) (by simp; omega) rfl) ?_
 rintro u18 w19 ⟨bo20, a21, o22, q23⟩
 replace a21 : Ow 5 1 bo20 u18 (la).length ((la).map eB) w19 := by simpa using a21
 replace h1 := h1.gr o22 (fun k e => (.inl e)) (xx_re (Fr.of_or q23) xx_id)
 replace h2 := h2.gr o22 (fun k e => (.inl e)) (xx_re (Fr.of_or q23) xx_id)
 replace h3 := h3.gr o22 (fun k e => (.inl e)) (xx_re (Fr.of_or q23) xx_id)
 have tq := oW.size
 replace oW := oW.tailr o22 q_oW_o (fun _ e => by cases e)
 replace q_oW_o := qtr (Fr.of_or q23) q_oW_o tq
 clear tq
 refine wF ([u1, u2, u3, undef, undef, undef, (Value.slice none 0 0), undef, undef, undef, u1, (eN la.length), u2, (eN lb.length), (Value.bool (!decide (la.length = lb.length))), (sli b12 0 0 0), u1, u18] ++ (us 35)) ?_
 refine wI (d_assign rfl) ?_
 refine wF ([u1, u2, u3, undef, undef, undef, (Value.slice none 0 0), u18, undef, undef, u1, (eN la.length), u2, (eN lb.length), (Value.bool (!decide (la.length = lb.length))), (sli b12 0 0 0), u1, u18] ++ (us 35)) ?_
 refine wpL.done ?_
 refine then_n ?_
 refine forget (fun zf24 => ([u1, u2, u3, (zf24 3), (zf24 4), (zf24 5), (zf24 6), u18, undef] ++ (zs zf24 9 27 ++ (us 16 ++ [(zf24 52)])))) (by kernel_rfl) (fun zf24 => ?_)
 refine wpIn_seq ?_
 refine wpIn_seq ?_
 refine plain ?_
 refine wI (d_assign rfl) ?_
 refine wF ([u1, u2, u3, (zf24 3), (zf24 4), (zf24 5), (zf24 6), u18, (eN 0)] ++ (zs zf24 9 27 ++ (us 16 ++ [(zf24 52)]))) ?_
 refine wpL.done ?_
 refine then_n ?_
 refine wpIn_block ?_
 refine loop2 (fun (i : (Nat)) => fun (z : Nat → Value) => (([u1, u2, u3, (zf24 3), (zf24 4), (zf24 5), (zf24 6), u18, (eN i), (z 9)] ++ (zs zf24 10 8 ++ (zs z 18 34 ++ [(zf24 52)]))) : List Value)) (fun (i : (Nat)) => fun (w_ : World) => (i ≤ la.length) ∧ Only (Orq bo20 No) w19 w_ ∧ Ow 5 1 bo20 u18 (mixTo la lb lm i).length ((mixTo la lb lm i).map eB) w_) (fun (i : (Nat)) => la.length - i) 0 rfl ?_ ?_
 ·
  refine ⟨?_, ?_, ?_⟩
  ·
   exact Nat.zero_le _
  ·
   exact Only.refl _ _
  ·
   (try dsimp only)
   all_goals (rw [← mixTo_zero]; exact a21)
 rintro i z w26 ⟨hi, o25, a21⟩
 (try dsimp only)
 replace h1 := h1.step o25 (orq_mono no_any)
 replace h2 := h2.step o25 (orq_mono no_any)
 replace h3 := h3.step o25 (orq_mono no_any)
 replace oW := oW.tail o25 (tl_q q_oW_o (fun _ e => by cases e) tl_no)
 have q_o25_o : Fr bo20 bo20 w19.heap.size := Fr.same
 refine wpIn_seq ?_
 refine wpIn_seq ?_
 have hl_ := mixTo_length la lb lm i
 by_cases k1 : i < ((mixTo la lb lm i).length)
 ·
  refine plain ?_
  refine wI (d_move rfl) ?_
  refine wI (d_move rfl) ?_
  refine wI (d_lenS rfl Try.underlying28 rfl (a21.seq (X := No) (fun _ _ h => h))) ?_
  refine wF ([u1, u2, u3, (zf24 3), (zf24 4), (zf24 5), (zf24 6), u18, (eN i), (z 9)] ++ (zs zf24 10 8 ++ [(eN i), u18, (eN ((mixTo la lb lm i).length))] ++ (zs z 21 31 ++ [(zf24 52)]))) ?_
  refine wI (n_lss (a := i) (b := ((mixTo la lb lm i).length)) rfl rfl (decide_eq_true k1)) ?_
  refine wI (d_move rfl) ?_
  refine wpL.onis rfl rfl rfl (nb rfl) rfl (d_move rfl) ?_
  refine wF ([u1, u2, u3, (zf24 3), (zf24 4), (zf24 5), (zf24 6), u18, (eN i), (z 9)] ++ (zs zf24 10 8 ++ [(eN i), u18, (eN ((mixTo la lb lm i).length)), (Value.bool true), (Value.bool true), u3] ++ (zs z 24 28 ++ [(zf24 52)]))) ?_
  refine wpL.onis rfl rfl rfl (nb rfl) rfl (d_lenS rfl Try.underlying28 rfl h3) ?_
  refine wpL.onis rfl rfl rfl (nb rfl) rfl (n_gtr (a := lm.length) (b := 0) rfl rfl rfl) ?_
  refine wI (d_pick (b := true) (v := (Value.bool (decide (0 < lm.length)))) rfl rfl) ?_
  refine wF ([u1, u2, u3, (zf24 3), (zf24 4), (zf24 5), (zf24 6), u18, (eN i), (z 9)] ++ (zs zf24 10 8 ++ [(eN i), u18, (eN ((mixTo la lb lm i).length)), (Value.bool true), (Value.bool true), u3, (eN lm.length), (Value.bool (decide (0 < lm.length))), (Value.bool (decide (0 < lm.length)))] ++ (zs z 27 25 ++ [(zf24 52)]))) ?_
  refine wpL.done ?_
  refine then_n ?_
  refine forget (fun zf27 => ([u1, u2, u3, (zf24 3), (zf24 4), (zf24 5), (zf24 6), u18, (eN i), (zf27 9)] ++ (zs zf24 10 8 ++ (zs zf27 18 8 ++ [(Value.bool (decide (0 < lm.length)))] ++ (zs zf27 27 9 ++ (zs z 36 16 ++ [(zf24 52)])))))) (by kernel_rfl) (fun zf27 => ?_)
  refine cond_if rfl (fun c2 => ?_) (fun c2 => ?_)
  ·
   refine wpIn_skip ?_
   refine then_n ?_
   refine wpIn_seq ?_
   refine wpIn_block ?_
   refine wpIn_seq ?_
   refine plain ?_
   refine wI (d_move rfl) ?_
   refine wI (d_move rfl) ?_
   refine wI (d_move rfl) ?_
   refine wF ([u1, u2, u3, (zf24 3), (zf24 4), (zf24 5), (zf24 6), u18, (eN i), (zf27 9)] ++ (zs zf24 10 8 ++ (zs zf27 18 8 ++ [(Value.bool (decide (0 < lm.length))), (zf27 27), (zf27 28), u3, (eN i), u3, (zf27 32), (zf27 33), (zf27 34), (zf27 35)] ++ (zs z 36 16 ++ [(zf24 52)])))) ?_
   refine wI (d_lenS rfl Try.underlying28 rfl h3) ?_
   refine wI (n_rem (a := i) (b := lm.length) rfl rfl (by omega)) ?_
   refine wI (d_ix (i := (i % lm.length)) (xs := lm) Try.underlying28 s_ti5 rfl h3 (show _ = Value.int _ ((i % lm.length : Nat) : Int) from rfl) (Nat.mod_lt _ (by omega))) ?_
   refine wF ([u1, u2, u3, (zf24 3), (zf24 4), (zf24 5), (zf24 6), u18, (eN i), (zf27 9)] ++ (zs zf24 10 8 ++ (zs zf27 18 8 ++ [(Value.bool (decide (0 < lm.length))), (zf27 27), (zf27 28), u3, (eN i), u3, (eN lm.length), (eN (i % lm.length)), (ixp u3 (i % lm.length)), (zf27 35)] ++ (zs z 36 16 ++ [(zf24 52)])))) ?_
   refine wI (d_ldx (i := (i % lm.length)) (xs := lm) (enc := eB) (v := (lm.getD (i % lm.length) 0)) ⟨_, Try.underlying5, rfl⟩ rfl h3 (g_at (Nat.mod_lt _ (by omega)))) ?_
   refine wI (d_assign rfl) ?_
   refine wF ([u1, u2, u3, (zf24 3), (zf24 4), (zf24 5), (zf24 6), u18, (eN i), (eB (lm.getD (i % lm.length) 0))] ++ (zs zf24 10 8 ++ (zs zf27 18 8 ++ [(Value.bool (decide (0 < lm.length))), (zf27 27), (zf27 28), u3, (eN i), u3, (eN lm.length), (eN (i % lm.length)), (ixp u3 (i % lm.length)), (eB (lm.getD (i % lm.length) 0))] ++ (zs z 36 16 ++ [(zf24 52)])))) ?_
   refine wpL.done ?_
   refine then_n ?_
   refine forget (fun zf28 => ([u1, u2, u3, (zf24 3), (zf24 4), (zf24 5), (zf24 6), u18, (eN i), (eB (lm.getD (i % lm.length) 0))] ++ (zs zf24 10 8 ++ (zs zf28 18 18 ++ (zs z 36 16 ++ [(zf24 52)]))))) (by kernel_rfl) (fun zf28 => ?_)
   refine drawn_last (O := (Isq bo20)) (m := 16) (R := fun w_ => Ow 5 1 bo20 u18 ((mixTo la lb lm i).set i (((la.getD i 0) &&& ~~~(lm.getD (i % lm.length) 0)) ||| ((lb.getD i 0) &&& (lm.getD (i % lm.length) 0)))).length (((mixTo la lb lm i).set i (((la.getD i 0) &&& ~~~(lm.getD (i % lm.length) 0)) ||| ((lb.getD i 0) &&& (lm.getD (i % lm.length) 0)))).map eB) w_) [0, 0, 0, 0, 12, 28, 0, 124, 0, 0, 768, 1792, 0, 7936, 16380, 32767, 65535] [(0, 36), (1, 37), (2, 38), (3, 39), (4, 40), (5, 41), (6, 42), (7, 43), (8, 44), (9, 45), (10, 46), (11, 47), (12, 48), (13, 49), (14, 50), (15, 51)] [u18, (eN i), u1, (eN i), (ixp u1 i), (eB (la.getD i 0)), (eB (lm.getD (i % lm.length) 0)), (eB ((la.getD i 0) &&& ~~~(lm.getD (i % lm.length) 0))), u2, (eN i), (ixp u2 i), (eB (lb.getD i 0)), (eB (lm.getD (i % lm.length) 0)), (eB ((lb.getD i 0) &&& (lm.getD (i % lm.length) 0))), (eB (((la.getD i 0) &&& ~~~(lm.getD (i % lm.length) 0)) ||| ((lb.getD i 0) &&& (lm.getD (i % lm.length) 0)))), (ixp u18 i)] ([u1, u2, u3, (zf24 3), (zf24 4), (zf24 5), (zf24 6), u18, (eN i), (eB (lm.getD (i % lm.length) 0))] ++ (zs zf24 10 8 ++ (zs zf28 18 18 ++ [u18, (eN i), u1, (eN i), (ixp u1 i), (eB (la.getD i 0)), (eB (lm.getD (i % lm.length) 0)), (eB ((la.getD i 0) &&& ~~~(lm.getD (i % lm.length) 0))), u2, (eN i), (ixp u2 i), (eB (lb.getD i 0)), (eB (lm.getD (i % lm.length) 0)), (eB ((lb.getD i 0) &&& (lm.getD (i % lm.length) 0))), (eB (((la.getD i 0) &&& ~~~(lm.getD (i % lm.length) 0)) ||| ((lb.getD i 0) &&& (lm.getD (i % lm.length) 0)))), (ixp u18 i), (zf24 52)]))) s_mx (by kernel_rfl) (by kernel_rfl) rfl rfl (by decide) (by kernel_rfl) (by kernel_rfl) ?_ (fun _ _ h_ ho_ => h_.step0 ho_) ⟨_, rfl, rfl, fun w_ hO_ => gd rfl ((d_stx (i := i) (xs := (mixTo la lb lm i)) (enc := eB) (v := (((la.getD i 0) &&& ~~~(lm.getD (i % lm.length) 0)) ||| ((lb.getD i 0) &&& (lm.getD (i % lm.length) 0)))) s_ti5 rfl rfl rfl (a21.step0 hO_) (by have := mixTo_length la lb lm i; first | omega | (simp; done) | (simp; omega)) rfl).mono fun u_ w2_ h_ => ⟨h_.2, h_.1⟩)⟩ ?_
   ·
    intro w_ hO_
    refine AllG.cons (gi rfl (d_move rfl)) ?_
    refine AllG.cons (gi rfl (d_move rfl)) ?_
    refine AllG.cons (gi rfl (d_move rfl)) ?_
    refine AllG.cons (gi rfl (d_move rfl)) ?_
    refine AllG.cons (gi rfl (d_ix (i := i) (xs := la) Try.underlying28 s_ti5 rfl (h1.step0 hO_) (show _ = Value.int _ ((i : Nat) : Int) from rfl) (by first | omega | (simp; done) | (simp; omega)))) ?_
    refine AllG.cons (gi rfl (d_ldx (i := i) (xs := la) (enc := eB) (v := (la.getD i 0)) ⟨_, Try.underlying5, rfl⟩ rfl (h1.step0 hO_) (g_at (by first | omega | (simp; done) | (simp; omega))))) ?_
    refine AllG.cons (gi rfl (d_move rfl)) ?_
    refine AllG.cons (gi rfl (b_andNot (c := (la.getD i 0)) (e := (lm.getD (i % lm.length) 0)) rfl rfl)) ?_
    refine AllG.cons (gi rfl (d_move rfl)) ?_
    refine AllG.cons (gi rfl (d_move rfl)) ?_
    refine AllG.cons (gi rfl (d_ix (i := i) (xs := lb) Try.underlying28 s_ti5 rfl (h2.step0 hO_) (show _ = Value.int _ ((i : Nat) : Int) from rfl) (by first | omega | (simp; done) | (simp; omega)))) ?_
    refine AllG.cons (gi rfl (d_ldx (i := i) (xs := lb) (enc := eB) (v := (lb.getD i 0)) ⟨_, Try.underlying5, rfl⟩ rfl (h2.step0 hO_) (g_at (by first | omega | (simp; done) | (simp; omega))))) ?_
    refine AllG.cons (gi rfl (d_move rfl)) ?_
    refine AllG.cons (gi rfl (b_and (c := (lb.getD i 0)) (e := (lm.getD (i % lm.length) 0)) rfl rfl)) ?_
    refine AllG.cons (gi rfl (b_or (c := ((la.getD i 0) &&& ~~~(lm.getD (i % lm.length) 0))) (e := ((lb.getD i 0) &&& (lm.getD (i % lm.length) 0))) rfl rfl)) ?_
    refine AllG.cons (gi rfl (d_ix (i := i) (xs := (mixTo la lb lm i)) Try.underlying28 s_ti5 rfl ((a21.step0 hO_).seq (X := No) (fun _ _ h => h)) (show _ = Value.int _ ((i : Nat) : Int) from rfl) (by have := mixTo_length la lb lm i; first | omega | (simp; done) | (simp; omega)))) ?_
    exact AllG.nil
   intro w29 o30 a31
   replace h1 := h1.gr o30 (fun k e => (.inl e)) (xx_re Fr.same xx_id)
   replace h2 := h2.gr o30 (fun k e => (.inl e)) (xx_re Fr.same xx_id)
   replace h3 := h3.gr o30 (fun k e => (.inl e)) (xx_re Fr.same xx_id)
   have tq := oW.size
   replace oW := oW.tailr o30 q_oW_o (fun _ e => by cases e)
   replace q_oW_o := qtr Fr.same q_oW_o tq
   clear tq
   have tq := o25.size
   replace o25 := o25.tailr o30 q_o25_o (fun k e => (.inl e))
   replace q_o25_o := qtr Fr.same q_o25_o tq
   clear tq
   refine inb_n (then_n ?_)
   refine plain ?_
   refine wI (d_move rfl) ?_
   refine wI (n_add (a := i) (b := 1) rfl rfl (by omega)) ?_
   refine wI (d_assign rfl) ?_
   refine wF ([u1, u2, u3, (zf24 3), (zf24 4), (zf24 5), (zf24 6), u18, (eN (i + 1)), (eB (lm.getD (i % lm.length) 0))] ++ (zs zf24 10 8 ++ (zs zf28 18 9 ++ [(eN i), (eN (i + 1))] ++ (zs zf28 29 7 ++ [u18, (eN i), u1, (eN i), (ixp u1 i), (eB (la.getD i 0)), (eB (lm.getD (i % lm.length) 0)), (eB ((la.getD i 0) &&& ~~~(lm.getD (i % lm.length) 0))), u2, (eN i), (ixp u2 i), (eB (lb.getD i 0)), (eB (lm.getD (i % lm.length) 0)), (eB ((lb.getD i 0) &&& (lm.getD (i % lm.length) 0))), (eB (((la.getD i 0) &&& ~~~(lm.getD (i % lm.length) 0)) ||| ((lb.getD i 0) &&& (lm.getD (i % lm.length) 0)))), (ixp u18 i), (zf24 52)])))) ?_
   refine wpL.done ?_
   refine then_n ?_
   refine ⟨_, (i + 1), rfl, rfl, ⟨?_, ?_, ?_⟩, ?_⟩
   ·
    (try dsimp only)
    all_goals (omega)
   ·
    exact o25
   ·
    (try dsimp only)
    all_goals (rw [mixTo_step la lb i c2] at a31; exact a31)
   ·
    (try dsimp only)
    all_goals (omega)
  refine wpIn_exit ?_
  refine then_x (then_x (inb_e ?_))
  refine then_n ?_
  refine wpIn_seq ?_
  refine plain ?_
  refine wI (d_move rfl) ?_
  refine wI (d_assign rfl) ?_
  refine wF ([u1, u2, u3, (zf24 3), (zf24 4), (zf24 5), u18, u18, (eN i), (zf27 9)] ++ (zs zf24 10 8 ++ (zs zf27 18 8 ++ [(Value.bool (decide (0 < lm.length)))] ++ (zs zf27 27 9 ++ (zs z 36 16 ++ [u18]))))) ?_
  refine wpL.done ?_
  refine then_n ?_
  refine wpIn_ret ?_
  refine leave0 (v := u18) (res1 Try.results28 rfl) ?_
  exact ROw.mk_ a21 (by rw [mixTo_done (i := i) (by omega)]; exact (if_pos c0).symm) q_oW_o oW
 refine plain ?_
 refine wI (d_move rfl) ?_
 refine wI (d_move rfl) ?_
 refine wI (d_lenS rfl Try.underlying28 rfl (a21.seq (X := No) (fun _ _ h => h))) ?_
 refine wF ([u1, u2, u3, (zf24 3), (zf24 4), (zf24 5), (zf24 6), u18, (eN i), (z 9)] ++ (zs zf24 10 8 ++ [(eN i), u18, (eN ((mixTo la lb lm i).length))] ++ (zs z 21 31 ++ [(zf24 52)]))) ?_
 refine wI (n_lss (a := i) (b := ((mixTo la lb lm i).length)) rfl rfl (decide_eq_false k1)) ?_
 refine wI (d_move rfl) ?_
 refine wF ([u1, u2, u3, (zf24 3), (zf24 4), (zf24 5), (zf24 6), u18, (eN i), (z 9)] ++ (zs zf24 10 8 ++ [(eN i), u18, (eN ((mixTo la lb lm i).length)), (Value.bool false), (Value.bool false)] ++ (zs z 23 29 ++ [(zf24 52)]))) ?_
 refine wpL.off rfl rfl rfl (nb rfl) rfl ?_
 refine wpL.off rfl rfl rfl (nb rfl) rfl ?_
 refine wpL.off rfl rfl rfl (nb rfl) rfl ?_
 refine wI (d_pick (b := false) (v := (Value.bool false)) rfl rfl) ?_
 refine wF ([u1, u2, u3, (zf24 3), (zf24 4), (zf24 5), (zf24 6), u18, (eN i), (z 9)] ++ (zs zf24 10 8 ++ [(eN i), u18, (eN ((mixTo la lb lm i).length)), (Value.bool false), (Value.bool false), undef, undef, undef, (Value.bool false)] ++ (zs z 27 25 ++ [(zf24 52)]))) ?_
 refine wpL.done ?_
 refine then_n ?_
 refine cond_f rfl ?_
 refine wpIn_exit ?_
 refine then_x (then_x (inb_e ?_))
 refine then_n ?_
 refine forget (fun zf32 => (zs zf32 0 7 ++ [u18, (eN i)] ++ (zs zf32 9 44))) (by kernel_rfl) (fun zf32 => ?_)
 refine wpIn_seq ?_
 refine plain ?_
 refine wI (d_move rfl) ?_
 refine wI (d_assign rfl) ?_
 refine wF (zs zf32 0 6 ++ [u18, u18, (eN i)] ++ (zs zf32 9 43 ++ [u18])) ?_
 refine wpL.done ?_
 refine then_n ?_
 refine wpIn_ret ?_
 refine leave0 (v := u18) (res1 Try.results28 rfl) ?_
 exact ROw.mk_ a21 (by rw [mixTo_done (i := i) (by omega)]; exact (if_pos c0).symm) q_oW_o oW

end Go.Proofs.YtnlbekdjepkhcaaF
