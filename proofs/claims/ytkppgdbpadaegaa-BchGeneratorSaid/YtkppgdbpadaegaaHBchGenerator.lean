import Derived.Test.YtkppgdbpadaegaaFl
import Derived.Test.YtkppgdbpadaegaaTy
import Derived.Test.YtkppgdbpadaegaaHutil
import Derived.Test.YtkppgdbpadaegaaMj
set_option linter.unusedVariables false
set_option linter.unusedSimpArgs false
namespace Go.Proofs.YtkppgdbpadaegaaF
open Go Go.Shelf Go.Proofs.YtkppgdbpadaegaaS Ram
set_option maxRecDepth 20000 in
set_option maxHeartbeats 1000000 in
theorem bchGenerator_law (n : Int) (W : World) :
    CW Try.prog 4 #[(eI n)] W (Rt (RIs (.bool true) W)) := by
 have oW : Only No W W := Only.refl _ _
 refine enter (al := [(eI n)]) (k := 76) (l := ([(eI n)] ++ (us 76))) Try.func4 rfl Try.ntmps4 rfl rfl ?_
 refine wpIn_seq ?_
 refine plain ?_
 refine wpL.is rfl (d_assign rfl) ?_
 refine wpL.flat ([(eI n), undef, (Value.bool false)] ++ (us 74)) (by kernel_rfl) ?_
 refine wpL.done ?_
 refine then_n ?_
 refine wpIn_seq ?_
 refine wpIn_seq ?_
 refine plain ?_
 refine wpL.op rfl (d_call (xl := []) (al := []) Try.func13 (by kernel_rfl) rfl rfl rfl (l4known_ok _)) ?_
 rintro _ w11 ⟨rfl, o12⟩
 replace oW := oW.tail0 o12
 refine wpL.is rfl (d_not rfl rfl) ?_
 refine wpL.flat ([(eI n), undef, (Value.bool false)] ++ (us 7 ++ [(Value.bool true), (Value.bool false)] ++ (us 65))) (by kernel_rfl) ?_
 refine wpL.done ?_
 refine then_n ?_
 refine cond_f rfl ?_
 refine wpIn_skip ?_
 refine then_n ?_
 refine wpIn_seq ?_
 refine plain ?_
 refine wpL.op rfl (d_call (xl := []) (al := []) Try.func17 (by kernel_rfl) rfl rfl rfl (bchGen_ok _)) ?_
 rintro u15 w13 f16
 replace f16 := f16.ps
 obtain ⟨f16, o14⟩ := f16
 replace f16 := f16.less (Y := (Old W.heap.size)) (old_old oW.size)
 replace oW := oW.tail0 o14
 refine wpL.is rfl (d_assign rfl) ?_
 refine wpL.flat ([(eI n), undef, (Value.bool false), u15] ++ (us 6 ++ [(Value.bool true), (Value.bool false), u15] ++ (us 64))) (by kernel_rfl) ?_
 refine wpL.done ?_
 have hg_ := genP_facts.1
 refine then_n ?_
 refine wpIn_seq ?_
 refine wpIn_seq ?_
 refine plain ?_
 refine wpL.is rfl (d_move rfl) ?_
 refine wpL.is rfl (d_lenS rfl Try.underlying22 rfl f16) ?_
 refine wpL.is rfl (n_neq (a := genP.length) (b := 33) rfl rfl (by rw [decide_eq_true genP_facts.1] <;> rfl)) ?_
 refine wpL.flat ([(eI n), undef, (Value.bool false), u15] ++ (us 6 ++ [(Value.bool true), (Value.bool false), u15, u15, (eN genP.length), (Value.bool false)] ++ (us 61))) (by kernel_rfl) ?_
 refine wpL.is rfl (d_move rfl) ?_
 refine wpL.onis rfl rfl rfl (Nat.le_of_ble_eq_true rfl) rfl (d_move rfl) ?_
 refine wpL.onis rfl rfl rfl (Nat.le_of_ble_eq_true rfl) rfl (d_ix (i := 32) (xs := genP) Try.underlying22 s_ti5 rfl f16 (show _ = Value.int _ ((32 : Nat) : Int) from rfl) (by have := genP_facts.1; first | omega | (simp; done) | (simp; omega))) ?_
 refine wpL.flat ([(eI n), undef, (Value.bool false), u15] ++ (us 6 ++ [(Value.bool true), (Value.bool false), u15, u15, (eN genP.length), (Value.bool false), (Value.bool false), u15, (ixp u15 32)] ++ (us 58))) (by kernel_rfl) ?_
 refine wpL.onis rfl rfl rfl (Nat.le_of_ble_eq_true rfl) rfl (d_ldx (i := 32) (xs := genP) (enc := eB) (v := (genP.getD 32 0)) ⟨_, Try.underlying5, rfl⟩ rfl f16 (g_at (by have := genP_facts.1; first | omega | (simp; done) | (simp; omega)))) ?_
 refine wpL.onis rfl rfl rfl (Nat.le_of_ble_eq_true rfl) rfl (b_neq (c := (genP.getD 32 0)) (e := 1) rfl rfl (by rw [decide_eq_true (by rw [genP_eq] <;> rfl)] <;> rfl)) ?_
 refine wpL.is rfl (d_pick (b := false) (v := (Value.bool false)) rfl rfl) ?_
 refine wpL.flat ([(eI n), undef, (Value.bool false), u15] ++ (us 6 ++ [(Value.bool true), (Value.bool false), u15, u15, (eN genP.length), (Value.bool false), (Value.bool false), u15, (ixp u15 32), (eB (genP.getD 32 0)), (Value.bool false), (Value.bool false)] ++ (us 55))) (by kernel_rfl) ?_
 refine wpL.is rfl (d_move rfl) ?_
 refine wpL.onis rfl rfl rfl (Nat.le_of_ble_eq_true rfl) rfl (d_move rfl) ?_
 refine wpL.onis rfl rfl rfl (Nat.le_of_ble_eq_true rfl) rfl (d_ix (i := 0) (xs := genP) Try.underlying22 s_ti5 rfl f16 (show _ = Value.int _ ((0 : Nat) : Int) from rfl) (by have := genP_facts.1; first | omega | (simp; done) | (simp; omega))) ?_
 refine wpL.flat ([(eI n), undef, (Value.bool false), u15] ++ (us 6 ++ [(Value.bool true), (Value.bool false), u15, u15, (eN genP.length), (Value.bool false), (Value.bool false), u15, (ixp u15 32), (eB (genP.getD 32 0)), (Value.bool false), (Value.bool false), (Value.bool false), u15, (ixp u15 0)] ++ (us 52))) (by kernel_rfl) ?_
 refine wpL.onis rfl rfl rfl (Nat.le_of_ble_eq_true rfl) rfl (d_ldx (i := 0) (xs := genP) (enc := eB) (v := (genP.getD 0 0)) ⟨_, Try.underlying5, rfl⟩ rfl f16 (g_at (by have := genP_facts.1; first | omega | (simp; done) | (simp; omega)))) ?_
 refine wpL.onis rfl rfl rfl (Nat.le_of_ble_eq_true rfl) rfl (b_neq (c := (genP.getD 0 0)) (e := 1) rfl rfl (by rw [decide_eq_true (by rw [genP_eq] <;> rfl)] <;> rfl)) ?_
 refine wpL.is rfl (d_pick (b := false) (v := (Value.bool false)) rfl rfl) ?_
 refine wpL.flat ([(eI n), undef, (Value.bool false), u15] ++ (us 6 ++ [(Value.bool true), (Value.bool false), u15, u15, (eN genP.length), (Value.bool false), (Value.bool false), u15, (ixp u15 32), (eB (genP.getD 32 0)), (Value.bool false), (Value.bool false), (Value.bool false), u15, (ixp u15 0), (eB (genP.getD 0 0)), (Value.bool false), (Value.bool false)] ++ (us 49))) (by kernel_rfl) ?_
 refine wpL.done ?_
 refine then_n ?_
 refine forget (fun zf17 => ([(eI n), (zf17 1), (zf17 2), u15, undef, undef] ++ (zs zf17 6 21 ++ [(Value.bool false)] ++ (zs zf17 28 49)))) (by kernel_rfl) (fun zf17 => ?_)
 refine cond_f rfl ?_
 refine wpIn_skip ?_
 refine then_n ?_
 refine wpIn_seq ?_
 refine wpIn_seq ?_
 refine plain ?_
 refine wpL.is rfl (d_assign rfl) ?_
 refine wpL.flat ([(eI n), (zf17 1), (zf17 2), u15, (eN 0), undef] ++ (zs zf17 6 21 ++ [(Value.bool false)] ++ (zs zf17 28 49))) (by kernel_rfl) ?_
 refine wpL.done ?_
 refine then_n ?_
 refine wpIn_block ?_
 refine loop2 (fun (i : (Nat)) => fun (z : Nat → Value) => (([(eI n), (zf17 1), (z 2), u15, (eN i), undef] ++ (zs zf17 6 21 ++ [(Value.bool false)] ++ (zs z 28 9 ++ (zs zf17 37 40)))) : List Value)) (fun (i : (Nat)) => fun (w_ : World) => (i ≤ 33) ∧ Only No w13 w_) (fun (i : (Nat)) => 33 - i) 0 rfl ?_ ?_
 ·
  refine ⟨?_, ?_⟩
  ·
   (try dsimp only)
   all_goals (omega)
  ·
   (try dsimp only)
   all_goals (exact Only.refl _ _)
 ·
  rintro i z w19 ⟨hi, o18⟩
  (try dsimp only)
  replace f16 := f16.step o18 no_any
  replace oW := oW.tail o18 tl_no
  refine wpIn_seq ?_
  refine wpIn_seq ?_
  refine plain ?_
  refine wpL.is rfl (d_move rfl) ?_
  refine wpL.is rfl (n_lss (a := i) (b := 33) rfl rfl rfl) ?_
  refine wpL.flat ([(eI n), (zf17 1), (z 2), u15, (eN i), undef] ++ (zs zf17 6 21 ++ [(Value.bool false), (eN i), (Value.bool (decide (i < 33)))] ++ (zs z 30 7 ++ (zs zf17 37 40)))) (by kernel_rfl) ?_
  refine wpL.done ?_
  refine then_n ?_
  refine cond_if rfl (fun c0 => ?_) (fun c0 => ?_)
  ·
   refine wpIn_skip ?_
   refine then_n ?_
   refine wpIn_seq ?_
   refine wpIn_block ?_
   refine wpIn_seq ?_
   refine plain ?_
   refine wpL.is rfl (d_move rfl) ?_
   refine wpL.is rfl (d_move rfl) ?_
   refine wpL.is rfl (d_ix (i := i) (xs := genP) Try.underlying22 s_ti5 rfl f16 (show _ = Value.int _ ((i : Nat) : Int) from rfl) (by have := genP_facts.1; first | omega | (simp; done) | (simp; omega))) ?_
   refine wpL.flat ([(eI n), (zf17 1), (z 2), u15, (eN i), undef] ++ (zs zf17 6 21 ++ [(Value.bool false), (eN i), (Value.bool (decide (i < 33))), (z 30), (z 31), u15, (eN i), (ixp u15 i), (z 35), (z 36)] ++ (zs zf17 37 40))) (by kernel_rfl) ?_
   refine wpL.is rfl (d_ldx (i := i) (xs := genP) (enc := eB) (v := (genP.getD i 0)) ⟨_, Try.underlying5, rfl⟩ rfl f16 (g_at (by have := genP_facts.1; first | omega | (simp; done) | (simp; omega)))) ?_
   refine wpL.is rfl (b_gtr (c := (genP.getD i 0)) (e := 1) rfl rfl (decide_eq_false (gen_le i))) ?_
   refine wpL.flat ([(eI n), (zf17 1), (z 2), u15, (eN i), undef] ++ (zs zf17 6 21 ++ [(Value.bool false), (eN i), (Value.bool (decide (i < 33))), (z 30), (z 31), u15, (eN i), (ixp u15 i), (eB (genP.getD i 0)), (Value.bool false)] ++ (zs zf17 37 40))) (by kernel_rfl) ?_
   refine wpL.done ?_
   refine then_n ?_
   refine cond_f rfl ?_
   refine wpIn_skip ?_
   refine inb_n (then_n ?_)
   refine plain ?_
   refine wpL.is rfl (d_move rfl) ?_
   refine wpL.is rfl (n_add (a := i) (b := 1) rfl rfl (by omega)) ?_
   refine wpL.is rfl (d_assign rfl) ?_
   refine wpL.flat ([(eI n), (zf17 1), (z 2), u15, (eN (i + 1)), undef] ++ (zs zf17 6 21 ++ [(Value.bool false), (eN i), (Value.bool (decide (i < 33))), (eN i), (eN (i + 1)), u15, (eN i), (ixp u15 i), (eB (genP.getD i 0)), (Value.bool false)] ++ (zs zf17 37 40))) (by kernel_rfl) ?_
   refine wpL.done ?_
   refine then_n ?_
   refine ⟨_, (i + 1), rfl, rfl, ⟨?_, ?_⟩, ?_⟩
   ·
    (try dsimp only)
    all_goals (omega)
   ·
    (try dsimp only)
    all_goals (exact o18)
   ·
    (try dsimp only)
    all_goals (omega)
  ·
   refine wpIn_exit ?_
   refine then_x (then_x (inb_e ?_))
   refine then_n ?_
   refine wpIn_seq ?_
   refine wpIn_seq ?_
   refine plain ?_
   refine wpL.is rfl (d_assign rfl) ?_
   refine wpL.flat ([(eI n), (zf17 1), (z 2), u15, (eN i), (eN 1)] ++ (zs zf17 6 21 ++ [(Value.bool false), (eN i), (Value.bool (decide (i < 33)))] ++ (zs z 30 7 ++ (zs zf17 37 40)))) (by kernel_rfl) ?_
   refine wpL.done ?_
   refine then_n ?_
   refine wpIn_block ?_
   refine loop2 (fun (k : (Nat)) => fun (z : Nat → Value) => (([(eI n), (zf17 1), (z 2), u15, (eN i), (eN k)] ++ (zs zf17 6 21 ++ [(Value.bool false), (eN i), (Value.bool (decide (i < 33)))] ++ (zs z 30 16 ++ (zs zf17 46 31)))) : List Value)) (fun (k : (Nat)) => fun (w_ : World) => (1 ≤ k ∧ k ≤ 9) ∧ Only No w19 w_) (fun (k : (Nat)) => 9 - k) 1 rfl ?_ ?_
   ·
    refine ⟨?_, ?_⟩
    ·
     (try dsimp only)
     all_goals (omega)
    ·
     (try dsimp only)
     all_goals (exact Only.refl _ _)
   ·
    rintro k z w21 ⟨hk, o20⟩
    (try dsimp only)
    replace f16 := f16.step o20 no_any
    replace oW := oW.tail o20 tl_no
    replace o18 := o18.tail o20 tl_no
    refine wpIn_seq ?_
    refine wpIn_seq ?_
    refine plain ?_
    refine wpL.is rfl (d_move rfl) ?_
    refine wpL.is rfl (n_leq (a := k) (b := 8) rfl rfl rfl) ?_
    refine wpL.flat ([(eI n), (zf17 1), (z 2), u15, (eN i), (eN k)] ++ (zs zf17 6 21 ++ [(Value.bool false), (eN i), (Value.bool (decide (i < 33)))] ++ (zs z 30 7 ++ [(eN k), (Value.bool (decide (k ≤ 8)))] ++ (zs z 39 7 ++ (zs zf17 46 31))))) (by kernel_rfl) ?_
    refine wpL.done ?_
    refine then_n ?_
    refine cond_if rfl (fun c1 => ?_) (fun c1 => ?_)
    ·
     refine wpIn_skip ?_
     refine then_n ?_
     refine wpIn_seq ?_
     refine wpIn_block ?_
     refine wpIn_seq ?_
     refine plain ?_
     refine wpL.is rfl (d_move rfl) ?_
     refine wpL.is rfl (d_move rfl) ?_
     refine wpL.op rfl (d_call (xl := [.tmp 42]) (al := [(eN k)]) Try.func19 (by kernel_rfl) rfl rfl rfl (ref2Exp_ok ((k : Nat) : Int) _)) ?_
     rintro _ w22 ⟨rfl, o23⟩
     replace f16 := f16.step0 o23
     replace oW := oW.tail0 o23
     replace o18 := o18.tail0 o23
     replace o20 := o20.tail0 o23
     refine wpL.flat ([(eI n), (zf17 1), (z 2), u15, (eN i), (eN k)] ++ (zs zf17 6 21 ++ [(Value.bool false), (eN i), (Value.bool (decide (i < 33)))] ++ (zs z 30 7 ++ [(eN k), (Value.bool (decide (k ≤ 8))), (z 39), (z 40), u15, (eN k), (eB (exI ((k : Nat) : Int))), (z 44), (z 45)] ++ (zs zf17 46 31)))) (by kernel_rfl) ?_
     refine wpL.op rfl (d_call (xl := [.tmp 41, .tmp 43]) (al := [u15, (eB (exI ((k : Nat) : Int)))]) Try.func18 (by kernel_rfl) rfl rfl rfl (eval_ok genP u15 (exI ((k : Nat) : Int)) _ (Ps.no f16) (by have := genP_facts.1; first | omega | (simp; done) | (simp; omega)))) ?_
     rintro _ w24 ⟨rfl, o25⟩
     replace f16 := f16.step0 o25
     replace oW := oW.tail0 o25
     replace o18 := o18.tail0 o25
     replace o20 := o20.tail0 o25
     refine wpL.is rfl (b_neq (c := (evP genP (exI ((k : Nat) : Int)))) (e := 0) rfl rfl (by rw [decide_eq_true (gen_ev (by omega) (by omega))] <;> rfl)) ?_
     refine wpL.flat ([(eI n), (zf17 1), (z 2), u15, (eN i), (eN k)] ++ (zs zf17 6 21 ++ [(Value.bool false), (eN i), (Value.bool (decide (i < 33)))] ++ (zs z 30 7 ++ [(eN k), (Value.bool (decide (k ≤ 8))), (z 39), (z 40), u15, (eN k), (eB (exI ((k : Nat) : Int))), (eB (evP genP (exI ((k : Nat) : Int)))), (Value.bool false)] ++ (zs zf17 46 31)))) (by kernel_rfl) ?_
     refine wpL.done ?_
     refine then_n ?_
     refine cond_f rfl ?_
     refine wpIn_skip ?_
     refine inb_n (then_n ?_)
     refine plain ?_
     refine wpL.is rfl (d_move rfl) ?_
     refine wpL.is rfl (n_add (a := k) (b := 1) rfl rfl (by omega)) ?_
     refine wpL.is rfl (d_assign rfl) ?_
     refine wpL.flat ([(eI n), (zf17 1), (z 2), u15, (eN i), (eN (k + 1))] ++ (zs zf17 6 21 ++ [(Value.bool false), (eN i), (Value.bool (decide (i < 33)))] ++ (zs z 30 7 ++ [(eN k), (Value.bool (decide (k ≤ 8))), (eN k), (eN (k + 1)), u15, (eN k), (eB (exI ((k : Nat) : Int))), (eB (evP genP (exI ((k : Nat) : Int)))), (Value.bool false)] ++ (zs zf17 46 31)))) (by kernel_rfl) ?_
     refine wpL.done ?_
     refine then_n ?_
     refine ⟨_, (k + 1), rfl, rfl, ⟨?_, ?_⟩, ?_⟩
     ·
      (try dsimp only)
      all_goals (omega)
     ·
      (try dsimp only)
      all_goals (exact o20)
     ·
      (try dsimp only)
      all_goals (omega)
    ·
     refine wpIn_exit ?_
     refine then_x (then_x (inb_e ?_))
     refine then_n ?_
     refine wpIn_seq ?_
     refine plain ?_
     refine wpL.op rfl (d_make1 (n := 256) Try.underlying22 s_ti5 rfl rfl (by omega) (by omega) rfl) ?_
     rintro _ w26 ⟨x, rfl, g27, a28, o29⟩
     replace a28 : Arr 5 x ((List.replicate 256 0).map eB) w26 := by rw [List.map_replicate]; exact a28
     have l_x : (List.replicate 256 0 : List UInt8).length = 256 := by simp
     have g_oW_x : W.heap.size ≤ x := Nat.le_trans oW.size g27
     have g_o18_x : w13.heap.size ≤ x := Nat.le_trans o18.size g27
     have g_o20_x : w19.heap.size ≤ x := Nat.le_trans o20.size g27
     replace f16 := f16.new o29 g27
     replace oW := oW.tail0 o29
     replace o18 := o18.tail0 o29
     replace o20 := o20.tail0 o29
     refine wpL.is rfl (d_assign rfl) ?_
     refine wpL.flat ([(eI n), (zf17 1), (z 2), u15, (eN i), (eN k), (sli x 0 256 256)] ++ (zs zf17 7 20 ++ [(Value.bool false), (eN i), (Value.bool (decide (i < 33)))] ++ (zs z 30 7 ++ [(eN k), (Value.bool (decide (k ≤ 8)))] ++ (zs z 39 7 ++ [(sli x 0 256 256)] ++ (zs zf17 47 30))))) (by kernel_rfl) ?_
     refine wpL.done ?_
     refine then_n ?_
     refine wpIn_seq ?_
     refine plain ?_
     refine wpL.is rfl (d_move rfl) ?_
     refine wpL.is rfl (d_move rfl) ?_
     refine wpL.is rfl (d_index1 (n := 256) (i := 0) Try.underlying22 s_ti5 rfl (show _ = Value.int _ ((0 : Nat) : Int) from rfl) (by omega)) ?_
     refine wpL.flat ([(eI n), (zf17 1), (z 2), u15, (eN i), (eN k), (sli x 0 256 256)] ++ (zs zf17 7 20 ++ [(Value.bool false), (eN i), (Value.bool (decide (i < 33)))] ++ (zs z 30 7 ++ [(eN k), (Value.bool (decide (k ≤ 8)))] ++ (zs z 39 7 ++ [(sli x 0 256 256), (sli x 0 256 256), (sli x 0 256 256), (ptr x 0)] ++ (zs zf17 50 27))))) (by kernel_rfl) ?_
     refine wpL.op rfl (d_store (b := x) (i := 0) (v := (eB 1)) s_ti5 rfl rfl rfl a28 (by rw [List.length_map, l_x]; omega) (m_put (List.replicate 256 0) 0 1 eB)) ?_
     rintro _ w30 ⟨a31, o32⟩
     replace f16 := f16.stepb o32 in1
     replace oW := oW.tailb o32 g_oW_x
     replace o18 := o18.tailb o32 g_o18_x
     replace o20 := o20.tailb o32 g_o20_x
     replace l_x : ((List.replicate 256 0).set 0 1 : List UInt8).length = 256 := (List.length_set ..).trans l_x
     refine wpL.is rfl (d_index1 (n := 256) (i := 255) Try.underlying22 s_ti5 rfl (show _ = Value.int _ ((255 : Nat) : Int) from rfl) (by omega)) ?_
     refine wpL.op rfl (d_store (b := x) (i := 255) (v := (eB 1)) s_ti5 rfl rfl rfl a31 (by rw [List.length_map, l_x]; omega) (m_put ((List.replicate 256 0).set 0 1) 255 1 eB)) ?_
     rintro _ w33 ⟨a34, o35⟩
     replace f16 := f16.stepb o35 in1
     replace oW := oW.tailb o35 g_oW_x
     replace o18 := o18.tailb o35 g_o18_x
     replace o20 := o20.tailb o35 g_o20_x
     replace l_x : (((List.replicate 256 0).set 0 1).set 255 1 : List UInt8).length = 256 := (List.length_set ..).trans l_x
     refine wpL.flat ([(eI n), (zf17 1), (z 2), u15, (eN i), (eN k), (sli x 0 256 256)] ++ (zs zf17 7 20 ++ [(Value.bool false), (eN i), (Value.bool (decide (i < 33)))] ++ (zs z 30 7 ++ [(eN k), (Value.bool (decide (k ≤ 8)))] ++ (zs z 39 7 ++ [(sli x 0 256 256), (sli x 0 256 256), (sli x 0 256 256), (ptr x 0), (ptr x 255)] ++ (zs zf17 51 26))))) (by kernel_rfl) ?_
     refine wpL.done ?_
     refine then_n ?_
     refine forget (fun zf36 => ([(eI n), (zf36 1), (zf36 2), u15, (eN i), (eN k), (sli x 0 256 256)] ++ (zs zf36 7 70))) (by kernel_rfl) (fun zf36 => ?_)
     refine wpIn_seq ?_
     refine plain ?_
     refine wpL.is rfl (d_move rfl) ?_
     refine wpL.is rfl (d_move rfl) ?_
     refine wpL.op rfl (d_call (xl := [.tmp 52, .tmp 53]) (al := [(sli x 0 256 256), u15]) Try.func20 (by kernel_rfl) rfl rfl rfl (div_ok (((List.replicate 256 0).set 0 1).set 255 1) genP (sli x 0 256 256) u15 _ (Ps.no (arr_seq a34 l_x (Nat.le_refl _))) (Ps.no f16) (by have := rep_len 256 0; first | omega | (simp; done) | (simp; omega)) (by have := genP_facts.1; first | omega | (simp; done) | (simp; omega)))) ?_
     rintro _ w37 ⟨u39, u41, rfl, f40, f42, o38⟩
     replace f40 := f40.less (Y := (Or1 x (Old W.heap.size))) (or1_old a34.lt (old_old oW.size))
     replace f42 := f42.less (Y := (Or1 x (Old W.heap.size))) (or1_old a34.lt (old_old oW.size))
     replace f16 := f16.step0 o38
     replace a34 := a34.step0 o38
     replace oW := oW.tail0 o38
     replace o18 := o18.tail0 o38
     replace o20 := o20.tail0 o38
     refine wpL.flat ([(eI n), (zf36 1), (zf36 2), u15, (eN i), (eN k), (sli x 0 256 256)] ++ (zs zf36 7 45 ++ [(sli x 0 256 256), u15, (Value.tuple #[u39, u41, (Value.bool (isP genP))])] ++ (zs zf36 55 22))) (by kernel_rfl) ?_
     refine wpL.is rfl (d_move rfl) ?_
     refine wpL.is rfl (d_extract (v := u39) rfl rfl) ?_
     refine wpL.is rfl (d_extract (v := u41) rfl rfl) ?_
     refine wpL.flat ([(eI n), (zf36 1), (zf36 2), u15, (eN i), (eN k), (sli x 0 256 256)] ++ (zs zf36 7 44 ++ [(Value.tuple #[u39, u41, (Value.bool (isP genP))]), (sli x 0 256 256), u15, (Value.tuple #[u39, u41, (Value.bool (isP genP))]), u39, u41] ++ (zs zf36 57 20))) (by kernel_rfl) ?_
     refine wpL.is rfl (d_extract (v := (Value.bool (isP genP))) rfl rfl) ?_
     refine wpL.is rfl (d_assign rfl) ?_
     refine wpL.is rfl (d_assign rfl) ?_
     refine wpL.flat ([(eI n), (zf36 1), (zf36 2), u15, (eN i), (eN k), (sli x 0 256 256), u39, u41] ++ (zs zf36 9 42 ++ [(Value.tuple #[u39, u41, (Value.bool (isP genP))]), (sli x 0 256 256), u15, (Value.tuple #[u39, u41, (Value.bool (isP genP))]), u39, u41, (Value.bool (isP genP))] ++ (zs zf36 58 19))) (by kernel_rfl) ?_
     refine wpL.is rfl (d_assign rfl) ?_
     refine wpL.flat ([(eI n), (zf36 1), (zf36 2), u15, (eN i), (eN k), (sli x 0 256 256), u39, u41, (Value.bool (isP genP))] ++ (zs zf36 10 41 ++ [(Value.tuple #[u39, u41, (Value.bool (isP genP))]), (sli x 0 256 256), u15, (Value.tuple #[u39, u41, (Value.bool (isP genP))]), u39, u41, (Value.bool (isP genP))] ++ (zs zf36 58 19))) (by kernel_rfl) ?_
     refine wpL.done ?_
     refine then_n ?_
     refine forget (fun zf45 => ([(eI n), (zf45 1), (zf45 2), u15, (eN i), (eN k), (zf45 6), (zf45 7), u41, (Value.bool (isP genP))] ++ (zs zf45 10 67))) (by kernel_rfl) (fun zf45 => ?_)
     refine wpIn_seq ?_
     refine wp_eq (l' := ([(eI n), (zf45 1), (zf45 2), u15, (eN i), (eN k), (zf45 6), (zf45 7), u41, (Value.bool true)] ++ (zs zf45 10 67))) (show (([(eI n), (zf45 1), (zf45 2), u15, (eN i), (eN k), (zf45 6), (zf45 7), u41, (Value.bool (isP genP))] ++ (zs zf45 10 67)) : List Value) = ([(eI n), (zf45 1), (zf45 2), u15, (eN i), (eN k), (zf45 6), (zf45 7), u41, (Value.bool true)] ++ (zs zf45 10 67)) from reslot ([(eI n), (zf45 1), (zf45 2), u15, (eN i), (eN k), (zf45 6), (zf45 7), u41, (Value.bool (isP genP))] ++ (zs zf45 10 67)) 9 (congrArg Value.bool gen_isP)) ?_
     refine plain ?_
     refine wpL.is rfl (d_move rfl) ?_
     refine wpL.is rfl (d_move rfl) ?_
     refine wpL.onis rfl rfl rfl (Nat.le_of_ble_eq_true rfl) rfl (d_move rfl) ?_
     refine wpL.flat ([(eI n), (zf45 1), (zf45 2), u15, (eN i), (eN k), (zf45 6), (zf45 7), u41, (Value.bool true)] ++ (zs zf45 10 48 ++ [(Value.bool true), (Value.bool true), u41] ++ (zs zf45 61 16))) (by kernel_rfl) ?_
     refine wpL.onis rfl rfl rfl (Nat.le_of_ble_eq_true rfl) rfl (d_lenS rfl Try.underlying22 rfl f42) ?_
     refine wpL.onis rfl rfl rfl (Nat.le_of_ble_eq_true rfl) rfl (n_eql (a := ((remP (((List.replicate 256 0).set 0 1).set 255 1) genP).length)) (b := 0) rfl rfl (decide_eq_true (by rw [gen_rem] <;> rfl))) ?_
     refine wpL.is rfl (d_pick (b := true) (v := (Value.bool true)) rfl rfl) ?_
     refine wpL.flat ([(eI n), (zf45 1), (zf45 2), u15, (eN i), (eN k), (zf45 6), (zf45 7), u41, (Value.bool true)] ++ (zs zf45 10 48 ++ [(Value.bool true), (Value.bool true), u41, (eN ((remP (((List.replicate 256 0).set 0 1).set 255 1) genP).length)), (Value.bool true), (Value.bool true)] ++ (zs zf45 64 13))) (by kernel_rfl) ?_
     refine wpL.is rfl (d_move rfl) ?_
     refine wpL.onis rfl rfl rfl (Nat.le_of_ble_eq_true rfl) rfl (d_move rfl) ?_
     refine wpL.onis rfl rfl rfl (Nat.le_of_ble_eq_true rfl) rfl (d_move rfl) ?_
     refine wpL.flat ([(eI n), (zf45 1), (zf45 2), u15, (eN i), (eN k), (zf45 6), (zf45 7), u41, (Value.bool true)] ++ (zs zf45 10 48 ++ [(Value.bool true), (Value.bool true), u41, (eN ((remP (((List.replicate 256 0).set 0 1).set 255 1) genP).length)), (Value.bool true), (Value.bool true), (Value.bool true), u15, (eI n)] ++ (zs zf45 67 10))) (by kernel_rfl) ?_
     refine wpL.on rfl rfl rfl (Nat.le_of_ble_eq_true rfl) rfl (d_call (xl := [.tmp 66]) (al := [(eI n)]) Try.func19 (by kernel_rfl) rfl rfl rfl (ref2Exp_ok n _)) ?_
     rintro _ w46 ⟨rfl, o47⟩
     replace f16 := f16.step0 o47
     replace f40 := f40.step0 o47
     replace f42 := f42.step0 o47
     replace a34 := a34.step0 o47
     replace oW := oW.tail0 o47
     replace o18 := o18.tail0 o47
     replace o20 := o20.tail0 o47
     refine wpL.on rfl rfl rfl (Nat.le_of_ble_eq_true rfl) rfl (d_call (xl := [.tmp 65, .tmp 67]) (al := [u15, (eB (exI n))]) Try.func18 (by kernel_rfl) rfl rfl rfl (eval_ok genP u15 (exI n) _ (Ps.no f16) (by have := genP_facts.1; first | omega | (simp; done) | (simp; omega)))) ?_
     rintro _ w48 ⟨rfl, o49⟩
     replace f16 := f16.step0 o49
     replace f40 := f40.step0 o49
     replace f42 := f42.step0 o49
     replace a34 := a34.step0 o49
     replace oW := oW.tail0 o49
     replace o18 := o18.tail0 o49
     replace o20 := o20.tail0 o49
     refine wpL.onis rfl rfl rfl (Nat.le_of_ble_eq_true rfl) rfl (b_eql (c := (evP genP (exI n))) (e := 0) rfl rfl rfl) ?_
     refine wpL.flat ([(eI n), (zf45 1), (zf45 2), u15, (eN i), (eN k), (zf45 6), (zf45 7), u41, (Value.bool true)] ++ (zs zf45 10 48 ++ [(Value.bool true), (Value.bool true), u41, (eN ((remP (((List.replicate 256 0).set 0 1).set 255 1) genP).length)), (Value.bool true), (Value.bool true), (Value.bool true), u15, (eI n), (eB (exI n)), (eB (evP genP (exI n))), (Value.bool (decide (((evP genP (exI n)) : UInt8) = (0 : UInt8))))] ++ (zs zf45 70 7))) (by kernel_rfl) ?_
     refine wpL.on rfl rfl rfl (Nat.le_of_ble_eq_true rfl) rfl (d_call (xl := []) (al := []) Try.func21 (by kernel_rfl) rfl rfl rfl (ref4Gen_ok _)) ?_
     rintro u52 w50 f53
     replace f53 := f53.ps
     obtain ⟨f53, o51⟩ := f53
     replace f53 := f53.less (Y := (Or1 x (Old W.heap.size))) (or1_old a34.lt (old_old oW.size))
     replace f16 := f16.step0 o51
     replace f40 := f40.step0 o51
     replace f42 := f42.step0 o51
     replace a34 := a34.step0 o51
     replace oW := oW.tail0 o51
     replace o18 := o18.tail0 o51
     replace o20 := o20.tail0 o51
     refine wpL.onis rfl rfl rfl (Nat.le_of_ble_eq_true rfl) rfl (d_move rfl) ?_
     refine wpL.on rfl rfl rfl (Nat.le_of_ble_eq_true rfl) rfl (d_call (xl := [.tmp 71]) (al := [(eI n)]) Try.func19 (by kernel_rfl) rfl rfl rfl (ref2Exp_ok n _)) ?_
     rintro _ w54 ⟨rfl, o55⟩
     replace f16 := f16.step0 o55
     replace f40 := f40.step0 o55
     replace f42 := f42.step0 o55
     replace f53 := f53.step0 o55
     replace a34 := a34.step0 o55
     replace oW := oW.tail0 o55
     replace o18 := o18.tail0 o55
     replace o20 := o20.tail0 o55
     refine wpL.flat ([(eI n), (zf45 1), (zf45 2), u15, (eN i), (eN k), (zf45 6), (zf45 7), u41, (Value.bool true)] ++ (zs zf45 10 48 ++ [(Value.bool true), (Value.bool true), u41, (eN ((remP (((List.replicate 256 0).set 0 1).set 255 1) genP).length)), (Value.bool true), (Value.bool true), (Value.bool true), u15, (eI n), (eB (exI n)), (eB (evP genP (exI n))), (Value.bool (decide (((evP genP (exI n)) : UInt8) = (0 : UInt8)))), u52, (eI n), (eB (exI n)), (zf45 73), (zf45 74), (zf45 75), (zf45 76)])) (by kernel_rfl) ?_
     refine wpL.on rfl rfl rfl (Nat.le_of_ble_eq_true rfl) rfl (d_call (xl := [.tmp 70, .tmp 72]) (al := [u52, (eB (exI n))]) Try.func18 (by kernel_rfl) rfl rfl rfl (eval_ok genP u52 (exI n) _ (Ps.no f53) (by have := genP_facts.1; first | omega | (simp; done) | (simp; omega)))) ?_
     rintro _ w56 ⟨rfl, o57⟩
     replace f16 := f16.step0 o57
     replace f40 := f40.step0 o57
     replace f42 := f42.step0 o57
     replace f53 := f53.step0 o57
     replace a34 := a34.step0 o57
     replace oW := oW.tail0 o57
     replace o18 := o18.tail0 o57
     replace o20 := o20.tail0 o57
     refine wpL.onis rfl rfl rfl (Nat.le_of_ble_eq_true rfl) rfl (b_eql (c := (evP genP (exI n))) (e := 0) rfl rfl rfl) ?_
     refine wpL.onis rfl rfl rfl (Nat.le_of_ble_eq_true rfl) rfl (d_beql Try.underlying4 rfl rfl (beq_self_eq_true _)) ?_
     refine wpL.flat ([(eI n), (zf45 1), (zf45 2), u15, (eN i), (eN k), (zf45 6), (zf45 7), u41, (Value.bool true)] ++ (zs zf45 10 48 ++ [(Value.bool true), (Value.bool true), u41, (eN ((remP (((List.replicate 256 0).set 0 1).set 255 1) genP).length)), (Value.bool true), (Value.bool true), (Value.bool true), u15, (eI n), (eB (exI n)), (eB (evP genP (exI n))), (Value.bool (decide (((evP genP (exI n)) : UInt8) = (0 : UInt8)))), u52, (eI n), (eB (exI n)), (eB (evP genP (exI n))), (Value.bool (decide (((evP genP (exI n)) : UInt8) = (0 : UInt8)))), (Value.bool true), (zf45 76)])) (by kernel_rfl) ?_
     refine wpL.is rfl (d_pick (b := true) (v := (Value.bool true)) rfl rfl) ?_
     refine wpL.is rfl (d_assign rfl) ?_
     refine wpL.flat ([(eI n), (zf45 1), (Value.bool true), u15, (eN i), (eN k), (zf45 6), (zf45 7), u41, (Value.bool true)] ++ (zs zf45 10 48 ++ [(Value.bool true), (Value.bool true), u41, (eN ((remP (((List.replicate 256 0).set 0 1).set 255 1) genP).length)), (Value.bool true), (Value.bool true), (Value.bool true), u15, (eI n), (eB (exI n)), (eB (evP genP (exI n))), (Value.bool (decide (((evP genP (exI n)) : UInt8) = (0 : UInt8)))), u52, (eI n), (eB (exI n)), (eB (evP genP (exI n))), (Value.bool (decide (((evP genP (exI n)) : UInt8) = (0 : UInt8)))), (Value.bool true), (Value.bool true)])) (by kernel_rfl) ?_
     refine wpL.done ?_
     refine then_n ?_
     refine forget (fun zf58 => ([(zf58 0), (zf58 1), (Value.bool true), (zf58 3), (eN i), (eN k)] ++ (zs zf58 6 71))) (by kernel_rfl) (fun zf58 => ?_)
     refine wpIn_ret ?_
     refine leave0 (v := (Value.bool true)) (res1 Try.results4 rfl) ?_
     exact ⟨rfl, oW⟩

end Go.Proofs.YtkppgdbpadaegaaF
