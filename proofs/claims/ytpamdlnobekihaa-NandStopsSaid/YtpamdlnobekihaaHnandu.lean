import Derived.Test.YtpamdlnobekihaaFp
import Derived.Test.YtpamdlnobekihaaTy
import Derived.Test.YtpamdlnobekihaaHnand
import Derived.Test.YtpamdlnobekihaaNn
set_option linter.unusedVariables false
set_option linter.unusedSimpArgs false
namespace Go.Proofs.YtpamdlnobekihaaF
open Go Go.Shelf Go.Proofs.YtpamdlnobekihaaS Ram
set_option maxRecDepth 20000 in
set_option maxHeartbeats 1000000 in
theorem law7Within_ok (a : Int) (m : Nat) (W : World) (hm : 0 < m) (hm2 : m ≤ 1000000) :
    CW Try.prog 12 #[(eI a), (eN m)] W (Rt (RIs (eN (a % (m : Int)).toNat) W)) := by
 have oW : Only No W W := Only.refl _ _
 refine enter (al := [(eI a), (eN m)]) (k := 13) (l := ([(eI a), (eN m)] ++ (us 13))) Try.func12 rfl Try.ntmps12 rfl rfl ?_
 refine wpIn_seq ?_
 refine plain ?_
 refine wI (d_assign rfl) ?_
 refine wF ([(eI a), (eN m), undef, undef, (eN 0)] ++ (us 10)) ?_
 refine wpL.done ?_
 refine then_n ?_
 refine wpIn_seq ?_
 refine plain ?_
 refine wI (d_move rfl) ?_
 refine wI (d_move rfl) ?_
 refine wI (d_rem (k := .i64) (m := a) (n := ((m : Nat) : Int)) rfl rfl (by omega) (r := Int.tmod a (m : Int)) rfl) ?_
 refine wF ([(eI a), (eN m), undef, undef, (eN 0), undef, (eI a), (eN m), (eI (Int.tmod a (m : Int)))] ++ (us 6)) ?_
 refine wI (d_assign rfl) ?_
 refine wF ([(eI a), (eN m), undef, undef, (eN 0), (eI (Int.tmod a (m : Int))), (eI a), (eN m), (eI (Int.tmod a (m : Int)))] ++ (us 6)) ?_
 refine wpL.done ?_
 refine then_n ?_
 refine wpIn_seq ?_
 refine wpIn_seq ?_
 refine plain ?_
 refine wI (d_move rfl) ?_
 refine wI (d_lss (k := .i64) (m := Int.tmod a (m : Int)) (n := 0) rfl rfl rfl) ?_
 refine wF [(eI a), (eN m), undef, undef, (eN 0), (eI (Int.tmod a (m : Int))), (eI a), (eN m), (eI (Int.tmod a (m : Int))), (eI (Int.tmod a (m : Int))), (Value.bool (decide (Int.tmod a (m : Int) < 0))), undef, undef, undef, undef] ?_
 refine wpL.done ?_
 refine then_n ?_
 refine cond_if rfl (fun k1 => ?_) (fun k1 => ?_)
 ·
  refine plain ?_
  refine wI (d_move rfl) ?_
  refine wI (d_move rfl) ?_
  refine wI (d_add (k := .i64) (m := Int.tmod a (m : Int)) (n := ((m : Nat) : Int)) rfl rfl (r := (((a % (m : Int)).toNat : Nat) : Int)) (tmm_neg hm hm2 k1)) ?_
  refine wF [(eI a), (eN m), undef, undef, (eN 0), (eI (Int.tmod a (m : Int))), (eI a), (eN m), (eI (Int.tmod a (m : Int))), (eI (Int.tmod a (m : Int))), (Value.bool (decide (Int.tmod a (m : Int) < 0))), (eI (Int.tmod a (m : Int))), (eN m), (eN ((a % (m : Int)).toNat)), undef] ?_
  refine wI (d_assign rfl) ?_
  refine wF [(eI a), (eN m), undef, undef, (eN 0), (eN ((a % (m : Int)).toNat)), (eI a), (eN m), (eI (Int.tmod a (m : Int))), (eI (Int.tmod a (m : Int))), (Value.bool (decide (Int.tmod a (m : Int) < 0))), (eI (Int.tmod a (m : Int))), (eN m), (eN ((a % (m : Int)).toNat)), undef] ?_
  refine wpL.done ?_
  refine then_n ?_
  refine wpIn_seq ?_
  refine plain ?_
  refine wI (d_move rfl) ?_
  refine wI (d_assign rfl) ?_
  refine wF [(eI a), (eN m), undef, undef, (eN ((a % (m : Int)).toNat)), (eN ((a % (m : Int)).toNat)), (eI a), (eN m), (eI (Int.tmod a (m : Int))), (eI (Int.tmod a (m : Int))), (Value.bool (decide (Int.tmod a (m : Int) < 0))), (eI (Int.tmod a (m : Int))), (eN m), (eN ((a % (m : Int)).toNat)), (eN ((a % (m : Int)).toNat))] ?_
  refine wpL.done ?_
  refine then_n ?_
  refine wpIn_ret ?_
  refine leave0 (v := (eN ((a % (m : Int)).toNat))) (res1 Try.results12 rfl) ?_
  exact ⟨rfl, oW⟩
 refine wp_eq (l' := [(eI a), (eN m), undef, undef, (eN 0), (eN ((a % (m : Int)).toNat)), (eI a), (eN m), (eN ((a % (m : Int)).toNat)), (eN ((a % (m : Int)).toNat)), (Value.bool (decide (Int.tmod a (m : Int) < 0))), undef, undef, undef, undef]) (Eq.trans (Eq.trans (show ([(eI a), (eN m), undef, undef, (eN 0), (eI (Int.tmod a (m : Int))), (eI a), (eN m), (eI (Int.tmod a (m : Int))), (eI (Int.tmod a (m : Int))), (Value.bool (decide (Int.tmod a (m : Int) < 0))), undef, undef, undef, undef] : List Value) = [(eI a), (eN m), undef, undef, (eN 0), (eN ((a % (m : Int)).toNat)), (eI a), (eN m), (eI (Int.tmod a (m : Int))), (eI (Int.tmod a (m : Int))), (Value.bool (decide (Int.tmod a (m : Int) < 0))), undef, undef, undef, undef] from reslot [(eI a), (eN m), undef, undef, (eN 0), (eI (Int.tmod a (m : Int))), (eI a), (eN m), (eI (Int.tmod a (m : Int))), (eI (Int.tmod a (m : Int))), (Value.bool (decide (Int.tmod a (m : Int) < 0))), undef, undef, undef, undef] 5 (tmm_pos hm k1)) (show ([(eI a), (eN m), undef, undef, (eN 0), (eN ((a % (m : Int)).toNat)), (eI a), (eN m), (eI (Int.tmod a (m : Int))), (eI (Int.tmod a (m : Int))), (Value.bool (decide (Int.tmod a (m : Int) < 0))), undef, undef, undef, undef] : List Value) = [(eI a), (eN m), undef, undef, (eN 0), (eN ((a % (m : Int)).toNat)), (eI a), (eN m), (eN ((a % (m : Int)).toNat)), (eI (Int.tmod a (m : Int))), (Value.bool (decide (Int.tmod a (m : Int) < 0))), undef, undef, undef, undef] from reslot [(eI a), (eN m), undef, undef, (eN 0), (eN ((a % (m : Int)).toNat)), (eI a), (eN m), (eI (Int.tmod a (m : Int))), (eI (Int.tmod a (m : Int))), (Value.bool (decide (Int.tmod a (m : Int) < 0))), undef, undef, undef, undef] 8 (tmm_pos hm k1))) (show ([(eI a), (eN m), undef, undef, (eN 0), (eN ((a % (m : Int)).toNat)), (eI a), (eN m), (eN ((a % (m : Int)).toNat)), (eI (Int.tmod a (m : Int))), (Value.bool (decide (Int.tmod a (m : Int) < 0))), undef, undef, undef, undef] : List Value) = [(eI a), (eN m), undef, undef, (eN 0), (eN ((a % (m : Int)).toNat)), (eI a), (eN m), (eN ((a % (m : Int)).toNat)), (eN ((a % (m : Int)).toNat)), (Value.bool (decide (Int.tmod a (m : Int) < 0))), undef, undef, undef, undef] from reslot [(eI a), (eN m), undef, undef, (eN 0), (eN ((a % (m : Int)).toNat)), (eI a), (eN m), (eN ((a % (m : Int)).toNat)), (eI (Int.tmod a (m : Int))), (Value.bool (decide (Int.tmod a (m : Int) < 0))), undef, undef, undef, undef] 9 (tmm_pos hm k1))) ?_
 refine wpIn_skip ?_
 refine then_n ?_
 refine wpIn_seq ?_
 refine plain ?_
 refine wI (d_move rfl) ?_
 refine wI (d_assign rfl) ?_
 refine wF [(eI a), (eN m), undef, undef, (eN ((a % (m : Int)).toNat)), (eN ((a % (m : Int)).toNat)), (eI a), (eN m), (eN ((a % (m : Int)).toNat)), (eN ((a % (m : Int)).toNat)), (Value.bool (decide (Int.tmod a (m : Int) < 0))), undef, undef, undef, (eN ((a % (m : Int)).toNat))] ?_
 refine wpL.done ?_
 refine then_n ?_
 refine wpIn_ret ?_
 refine leave0 (v := (eN ((a % (m : Int)).toNat))) (res1 Try.results12 rfl) ?_
 exact ⟨rfl, oW⟩

set_option maxRecDepth 20000 in
set_option maxHeartbeats 1000000 in
theorem law7Bytes_ok (la : List UInt8) (n : Nat) (u1 : Value) (W : World) (h1 : Ps No (Seq kB la u1) W) (g1 : la.length ≤ 140737488351232) (gn : n ≤ 1000) :
    CW Try.prog 16 #[u1, (eN n)] W (Rt (ROw 5 eB (bytesL la n) W)) := by
 have oW : Only No W W := Only.refl _ _
 refine enter (al := [u1, (eN n)]) (k := 28) (l := ([u1, (eN n)] ++ (us 28))) Try.func16 rfl Try.ntmps16 rfl rfl ?_
 refine wpIn_seq ?_
 refine plain ?_
 refine wI (d_assign rfl) ?_
 refine wF ([u1, (eN n), undef, undef, (Value.slice none 0 0)] ++ (us 25)) ?_
 refine wpL.done ?_
 refine then_n ?_
 refine wpIn_seq ?_
 refine plain ?_
 refine wI (d_move rfl) ?_
 refine wO (d_make1 (n := n) Try.underlying36 s_ti5 rfl rfl (by omega) (by omega) rfl) ?_
 rintro _ w11 ⟨o, rfl, g12, a13, o14⟩
 replace a13 : Arr 5 o ((List.replicate n 0).map eB) w11 := by rw [List.map_replicate]; exact a13
 have l_o : (List.replicate n 0 : List UInt8).length = n := by simp
 have g_oW_o : W.heap.size ≤ o := Nat.le_trans oW.size g12
 replace h1 := h1.new o14 g12
 replace oW := oW.tail0 o14
 refine wI (d_assign rfl) ?_
 refine wF ([u1, (eN n), undef, undef, (Value.slice none 0 0), (sli o 0 n n), undef, (eN n), (sli o 0 n n)] ++ (us 21)) ?_
 refine wpL.done ?_
 refine then_n ?_
 refine wpIn_seq ?_
 refine wpIn_seq ?_
 refine plain ?_
 refine wI (d_assign rfl) ?_
 refine wF ([u1, (eN n), undef, undef, (Value.slice none 0 0), (sli o 0 n n), (eN 0), (eN n), (sli o 0 n n)] ++ (us 21)) ?_
 refine wpL.done ?_
 refine then_n ?_
 refine wpIn_block ?_
 refine loop2 (fun (i : (Nat)) => fun (z : Nat → Value) => (([u1, (eN n), undef, undef, (Value.slice none 0 0), (sli o 0 n n), (eN i), (eN n), (sli o 0 n n)] ++ (zs z 9 20 ++ [undef])) : List Value)) (fun (i : (Nat)) => fun (w_ : World) => (i ≤ n) ∧ Only (Or1 o No) w11 w_ ∧ (bytesTo la n i).length = n ∧ Arr 5 o ((bytesTo la n i).map eB) w_) (fun (i : (Nat)) => n - i) 0 rfl ?_ ?_
 ·
  refine ⟨?_, ?_, ?_, ?_⟩
  ·
   exact Nat.zero_le _
  ·
   exact Only.refl _ _
  ·
   exact tab_length
  ·
   (try dsimp only)
   all_goals (rw [bytesTo_zero]; exact a13)
 rintro i z w16 ⟨hi, o15, l_o, a13⟩
 (try dsimp only)
 replace h1 := h1.step o15 (or1_mono no_any)
 replace oW := oW.tail o15 (tl_new g_oW_o tl_no)
 refine wpIn_seq ?_
 refine wpIn_seq ?_
 by_cases k0 : i < n
 ·
  refine plain ?_
  refine wI (d_move rfl) ?_
  refine wI (d_move rfl) ?_
  refine wI (n_lss (a := i) (b := n) rfl rfl (decide_eq_true k0)) ?_
  refine wF ([u1, (eN n), undef, undef, (Value.slice none 0 0), (sli o 0 n n), (eN i), (eN n), (sli o 0 n n), (eN i), (eN n), (Value.bool true)] ++ (zs z 12 17 ++ [undef])) ?_
  refine wI (d_move rfl) ?_
  refine wpL.onis rfl rfl rfl (nb rfl) rfl (d_move rfl) ?_
  refine wpL.onis rfl rfl rfl (nb rfl) rfl (d_lenS rfl Try.underlying36 rfl h1) ?_
  refine wF ([u1, (eN n), undef, undef, (Value.slice none 0 0), (sli o 0 n n), (eN i), (eN n), (sli o 0 n n), (eN i), (eN n), (Value.bool true), (Value.bool true), u1, (eN la.length)] ++ (zs z 15 14 ++ [undef])) ?_
  refine wpL.onis rfl rfl rfl (nb rfl) rfl (n_gtr (a := la.length) (b := 0) rfl rfl rfl) ?_
  refine wI (d_pick (b := true) (v := (Value.bool (decide (0 < la.length)))) rfl rfl) ?_
  refine wF ([u1, (eN n), undef, undef, (Value.slice none 0 0), (sli o 0 n n), (eN i), (eN n), (sli o 0 n n), (eN i), (eN n), (Value.bool true), (Value.bool true), u1, (eN la.length), (Value.bool (decide (0 < la.length))), (Value.bool (decide (0 < la.length)))] ++ (zs z 17 12 ++ [undef])) ?_
  refine wpL.done ?_
  refine then_n ?_
  refine cond_if rfl (fun c0 => ?_) (fun c0 => ?_)
  ·
   refine wpIn_skip ?_
   refine then_n ?_
   refine forget (fun zf17 => ([u1, (eN n), undef, undef, (Value.slice none 0 0), (sli o 0 n n), (eN i), (eN n), (sli o 0 n n)] ++ (zs zf17 9 20 ++ [undef]))) (by kernel_rfl) (fun zf17 => ?_)
   refine wpIn_seq ?_
   refine wpIn_block ?_
   refine plain ?_
   refine wI (d_move rfl) ?_
   refine wI (d_move rfl) ?_
   refine wI (d_move rfl) ?_
   refine wF ([u1, (eN n), undef, undef, (Value.slice none 0 0), (sli o 0 n n), (eN i), (eN n), (sli o 0 n n)] ++ (zs zf17 9 10 ++ [(sli o 0 n n), (eN i), u1] ++ (zs zf17 22 7 ++ [undef]))) ?_
   refine wI (d_move rfl) ?_
   refine wI (d_move rfl) ?_
   refine wI (d_lenS rfl Try.underlying36 rfl h1) ?_
   refine wF ([u1, (eN n), undef, undef, (Value.slice none 0 0), (sli o 0 n n), (eN i), (eN n), (sli o 0 n n)] ++ (zs zf17 9 10 ++ [(sli o 0 n n), (eN i), u1, (eN i), u1, (eN la.length), (zf17 25), (zf17 26), (zf17 27), (zf17 28), undef])) ?_
   refine wI (n_rem (a := i) (b := la.length) rfl rfl (by omega)) ?_
   refine wI (d_ix (i := (i % la.length)) (xs := la) Try.underlying36 s_ti5 rfl h1 (show _ = Value.int _ ((i % la.length : Nat) : Int) from rfl) (by have := Nat.mod_lt i (show 0 < la.length by omega); omega)) ?_
   refine wI (d_ldx (i := (i % la.length)) (xs := la) (enc := eB) (v := (la.getD (i % la.length) 0)) ⟨_, Try.underlying5, rfl⟩ rfl h1 (g_at (by have := Nat.mod_lt i (show 0 < la.length by omega); omega))) ?_
   refine wF ([u1, (eN n), undef, undef, (Value.slice none 0 0), (sli o 0 n n), (eN i), (eN n), (sli o 0 n n)] ++ (zs zf17 9 10 ++ [(sli o 0 n n), (eN i), u1, (eN i), u1, (eN la.length), (eN (i % la.length)), (ixp u1 (i % la.length)), (eB (la.getD (i % la.length) 0)), (zf17 28), undef])) ?_
   refine wI (d_index1 (n := n) (i := i) Try.underlying36 s_ti5 rfl (show _ = Value.int _ ((i : Nat) : Int) from rfl) (by omega)) ?_
   refine wO (d_store (b := o) (i := i) (v := (eB (la.getD (i % la.length) 0))) s_ti5 rfl rfl rfl a13 (by rw [List.length_map, l_o]; omega) (m_put (bytesTo la n i) i (la.getD (i % la.length) 0) eB)) ?_
   rintro _ w18 ⟨a19, o20⟩
   replace h1 := h1.stepb o20 in1
   replace oW := oW.tailb o20 g_oW_o
   replace o15 := o15.tail o20 (fun k _ e => by have : k = o := e; rw [this]; exact in1)
   replace l_o : ((bytesTo la n i).set i (la.getD (i % la.length) 0) : List UInt8).length = n := (List.length_set ..).trans l_o
   refine wF ([u1, (eN n), undef, undef, (Value.slice none 0 0), (sli o 0 n n), (eN i), (eN n), (sli o 0 n n)] ++ (zs zf17 9 10 ++ [(sli o 0 n n), (eN i), u1, (eN i), u1, (eN la.length), (eN (i % la.length)), (ixp u1 (i % la.length)), (eB (la.getD (i % la.length) 0)), (ptr o i), undef])) ?_
   refine wpL.done ?_
   refine inb_n (then_n ?_)
   refine forget (fun zf21 => ([u1, (eN n), undef, undef, (Value.slice none 0 0), (sli o 0 n n), (eN i), (eN n), (sli o 0 n n)] ++ (zs zf21 9 20 ++ [undef]))) (by kernel_rfl) (fun zf21 => ?_)
   refine plain ?_
   refine wI (d_move rfl) ?_
   refine wI (n_add (a := i) (b := 1) rfl rfl (by omega)) ?_
   refine wI (d_assign rfl) ?_
   refine wF ([u1, (eN n), undef, undef, (Value.slice none 0 0), (sli o 0 n n), (eN (i + 1)), (eN n), (sli o 0 n n)] ++ (zs zf21 9 8 ++ [(eN i), (eN (i + 1))] ++ (zs zf21 19 10 ++ [undef]))) ?_
   refine wpL.done ?_
   refine then_n ?_
   refine ⟨_, (i + 1), rfl, rfl, ⟨?_, ?_, ?_, ?_⟩, ?_⟩
   ·
    (try dsimp only)
    all_goals (omega)
   ·
    exact o15
   ·
    exact tab_length
   ·
    (try dsimp only)
    all_goals (rw [← bytesTo_next la n i]; exact a19)
   ·
    (try dsimp only)
    all_goals (omega)
  refine wpIn_exit ?_
  refine then_x (then_x (inb_e ?_))
  refine then_n ?_
  refine forget (fun zf22 => (zs zf22 0 5 ++ [(sli o 0 n n), (eN i)] ++ (zs zf22 7 23))) (by kernel_rfl) (fun zf22 => ?_)
  refine wpIn_seq ?_
  refine plain ?_
  refine wI (d_move rfl) ?_
  refine wI (d_assign rfl) ?_
  refine wF ([(zf22 0), (zf22 1), (zf22 2), (zf22 3), (sli o 0 n n), (sli o 0 n n), (eN i)] ++ (zs zf22 7 22 ++ [(sli o 0 n n)])) ?_
  refine wpL.done ?_
  refine then_n ?_
  refine wpIn_ret ?_
  refine leave0 (v := (sli o 0 n n)) (res1 Try.results16 rfl) ?_
  exact ROw.arr a13 l_o (bytesTo_end la n i (by omega)) g_oW_o oW
 refine plain ?_
 refine wI (d_move rfl) ?_
 refine wI (d_move rfl) ?_
 refine wI (n_lss (a := i) (b := n) rfl rfl (decide_eq_false k0)) ?_
 refine wF ([u1, (eN n), undef, undef, (Value.slice none 0 0), (sli o 0 n n), (eN i), (eN n), (sli o 0 n n), (eN i), (eN n), (Value.bool false)] ++ (zs z 12 17 ++ [undef])) ?_
 refine wI (d_move rfl) ?_
 refine wpL.off rfl rfl rfl (nb rfl) rfl ?_
 refine wF ([u1, (eN n), undef, undef, (Value.slice none 0 0), (sli o 0 n n), (eN i), (eN n), (sli o 0 n n), (eN i), (eN n), (Value.bool false), (Value.bool false), undef] ++ (zs z 14 15 ++ [undef])) ?_
 refine wpL.off rfl rfl rfl (nb rfl) rfl ?_
 refine wpL.off rfl rfl rfl (nb rfl) rfl ?_
 refine wI (d_pick (b := false) (v := (Value.bool false)) rfl rfl) ?_
 refine wF ([u1, (eN n), undef, undef, (Value.slice none 0 0), (sli o 0 n n), (eN i), (eN n), (sli o 0 n n), (eN i), (eN n), (Value.bool false), (Value.bool false), undef, undef, undef, (Value.bool false)] ++ (zs z 17 12 ++ [undef])) ?_
 refine wpL.done ?_
 refine then_n ?_
 refine cond_f rfl ?_
 refine wpIn_exit ?_
 refine then_x (then_x (inb_e ?_))
 refine then_n ?_
 refine forget (fun zf23 => (zs zf23 0 5 ++ [(sli o 0 n n), (eN i)] ++ (zs zf23 7 23))) (by kernel_rfl) (fun zf23 => ?_)
 refine wpIn_seq ?_
 refine plain ?_
 refine wI (d_move rfl) ?_
 refine wI (d_assign rfl) ?_
 refine wF ([(zf23 0), (zf23 1), (zf23 2), (zf23 3), (sli o 0 n n), (sli o 0 n n), (eN i)] ++ (zs zf23 7 22 ++ [(sli o 0 n n)])) ?_
 refine wpL.done ?_
 refine then_n ?_
 refine wpIn_ret ?_
 refine leave0 (v := (sli o 0 n n)) (res1 Try.results16 rfl) ?_
 exact ROw.arr a13 l_o (bytesTo_end la n i (by omega)) g_oW_o oW

set_option maxRecDepth 20000 in
set_option maxHeartbeats 1000000 in
theorem law7Known_ok (W : World) :
    CW Try.prog 11 #[] W (Rt (RIs (.bool true) W)) := by
 have oW : Only No W W := Only.refl _ _
 refine enter (al := []) (k := 47) (l := (us 47)) Try.func11 rfl Try.ntmps11 rfl rfl ?_
 refine wpIn_seq ?_
 refine plain ?_
 refine wI (d_assign rfl) ?_
 refine wF ([(Value.bool false)] ++ (us 46)) ?_
 refine wpL.done ?_
 refine then_n ?_
 refine wpIn_seq ?_
 refine plain ?_
 refine wI (d_buildS (pl := [(0, 1), (1, 1), (2, 1)]) (zs := [(eN 0), (eN 0), (eN 0)]) (cs := [(eN 6), (eN 8), (eN 4)]) Try.underlying23 s_ti23 ⟨_, _, _, _, rfl, s_ti3, ⟨_, _, _, _, rfl, s_ti3, ⟨_, _, _, _, rfl, s_ti3, rfl⟩⟩⟩ rfl (parts_cons (vs := [(eN 6)]) (cells_of (v := (eN 6)) rfl rfl) (parts_cons (vs := [(eN 8)]) (cells_of (v := (eN 8)) rfl rfl) (parts_cons (vs := [(eN 4)]) (cells_of (v := (eN 4)) rfl rfl) parts_nil))) rfl) ?_
 refine wO (d_call (xl := [.tmp 7, .const (.slice none 0 0)]) (al := [(Value.agg #[(eN 6), (eN 8), (eN 4)]), (Value.slice none 0 0)]) Try.func13 (by kernel_rfl) rfl rfl rfl (new0_ok 6 8 4 _ (by omega) (by omega) (by omega))) ?_
 rintro _ w11 ⟨L13, rfl, ⟨a14, g15⟩, o12⟩
 have g_oW_L13 : ∀ k, L13.S k → W.heap.size ≤ k := fun k hk => Nat.le_trans oW.size (g15 k hk)
 replace a14 := a14.less (Y := No) no_old
 replace oW := oW.tail0 o12
 refine wI (d_move rfl) ?_
 refine wF ([(Value.bool false)] ++ (us 5 ++ [(Value.tuple #[(ptr L13.bN 0), (eN 0)]), (Value.agg #[(eN 6), (eN 8), (eN 4)]), (Value.tuple #[(ptr L13.bN 0), (eN 0)])] ++ (us 38))) ?_
 refine wI (d_extract (v := (ptr L13.bN 0)) rfl rfl) ?_
 refine wI (d_extract (v := (eN 0)) rfl rfl) ?_
 refine wI (d_assign rfl) ?_
 refine wF ([(Value.bool false), (ptr L13.bN 0), undef, undef, undef, undef, (Value.tuple #[(ptr L13.bN 0), (eN 0)]), (Value.agg #[(eN 6), (eN 8), (eN 4)]), (Value.tuple #[(ptr L13.bN 0), (eN 0)]), (ptr L13.bN 0), (eN 0)] ++ (us 36)) ?_
 refine wI (d_assign rfl) ?_
 refine wF ([(Value.bool false), (ptr L13.bN 0), (eN 0), undef, undef, undef, (Value.tuple #[(ptr L13.bN 0), (eN 0)]), (Value.agg #[(eN 6), (eN 8), (eN 4)]), (Value.tuple #[(ptr L13.bN 0), (eN 0)]), (ptr L13.bN 0), (eN 0)] ++ (us 36)) ?_
 refine wpL.done ?_
 refine then_n ?_
 refine wpIn_seq ?_
 refine wpIn_seq ?_
 refine plain ?_
 refine wI (d_move rfl) ?_
 refine wI (n_neq (a := 0) (b := 0) rfl rfl (by rw [decide_eq_true rfl] <;> rfl)) ?_
 refine wI (d_move rfl) ?_
 refine wF ([(Value.bool false), (ptr L13.bN 0), (eN 0), undef, undef, undef, (Value.tuple #[(ptr L13.bN 0), (eN 0)]), (Value.agg #[(eN 6), (eN 8), (eN 4)]), (Value.tuple #[(ptr L13.bN 0), (eN 0)]), (ptr L13.bN 0), (eN 0), (eN 0), (Value.bool false), (Value.bool false)] ++ (us 33)) ?_
 refine wpL.onis rfl rfl rfl (nb rfl) rfl (d_move rfl) ?_
 refine wpL.onis rfl rfl rfl (nb rfl) rfl (d_peql (b := L13.bN) (o := 0) Try.underlying27 rfl rfl) ?_
 refine wI (d_pick (b := false) (v := (Value.bool false)) rfl rfl) ?_
 refine wF ([(Value.bool false), (ptr L13.bN 0), (eN 0), undef, undef, undef, (Value.tuple #[(ptr L13.bN 0), (eN 0)]), (Value.agg #[(eN 6), (eN 8), (eN 4)]), (Value.tuple #[(ptr L13.bN 0), (eN 0)]), (ptr L13.bN 0), (eN 0), (eN 0), (Value.bool false), (Value.bool false), (ptr L13.bN 0), (Value.bool false), (Value.bool false)] ++ (us 30)) ?_
 refine wpL.done ?_
 refine then_n ?_
 refine forget (fun zf16 => ([(zf16 0), (ptr L13.bN 0)] ++ (zs zf16 2 14 ++ [(Value.bool false)] ++ (zs zf16 17 30)))) (by kernel_rfl) (fun zf16 => ?_)
 refine cond_f rfl ?_
 refine wpIn_skip ?_
 refine then_n ?_
 refine wpIn_seq ?_
 refine plain ?_
 refine wI (d_move rfl) ?_
 refine wO (d_make1 (n := 60) Try.underlying36 s_ti5 rfl rfl (by omega) (by omega) rfl) ?_
 rintro _ w17 ⟨o, rfl, g18, a19, o20⟩
 replace a19 : Arr 5 o ((List.replicate 60 0).map eB) w17 := by rw [List.map_replicate]; exact a19
 have l_o : (List.replicate 60 0 : List UInt8).length = 60 := by simp
 have g_oW_o : W.heap.size ≤ o := Nat.le_trans oW.size g18
 replace a14 := a14.new o20 g18
 replace oW := oW.tail0 o20
 refine wO (d_call (xl := [.tmp 17, .const (.int .i64 0), .const (.int .i64 0), .const (.int .i64 1), .tmp 18]) (al := [(ptr L13.bN 0), (eN 0), (eN 0), (eN 1), (sli o 0 60 60)]) Try.func20 (by kernel_rfl) rfl rfl rfl (prog_ok L13 (NS.new 6 8 4 (fun _ _ => false)) _ a14 ((0 : Nat) : Int) ((0 : Nat) : Int) ((1 : Nat) : Int) (List.replicate 60 0) (sli o 0 60 60) (lt_or1 a19.lt lt_no) (arr_keep a19 l_o (Nat.le_refl _) (nx_ors (a14.dis _ in1) (fun _ _ t => t.elim))) (by have := rep_len 60 0; first | omega | (simp; done) | (simp; omega)))) ?_
 rintro _ w21 ⟨rfl, a23, o22⟩
 replace a19 := a19.step o22 (a14.dis _ in1)
 replace oW := oW.tail o22 (fun k hk e => by have := g_oW_L13 k e; omega)
 replace a14 := a23
 refine wF ([(zf16 0), (ptr L13.bN 0)] ++ (zs zf16 2 14 ++ [(Value.bool false), (ptr L13.bN 0), (sli o 0 60 60), (eN ((NS.new 6 8 4 (fun _ _ => false)).progR ((0 : Nat) : Int) ((0 : Nat) : Int) ((1 : Nat) : Int) (List.replicate 60 0)))] ++ (zs zf16 20 27))) ?_
 refine wI (d_assign rfl) ?_
 refine wF ([(zf16 0), (ptr L13.bN 0), (zf16 2), (eN ((NS.new 6 8 4 (fun _ _ => false)).progR ((0 : Nat) : Int) ((0 : Nat) : Int) ((1 : Nat) : Int) (List.replicate 60 0)))] ++ (zs zf16 4 12 ++ [(Value.bool false), (ptr L13.bN 0), (sli o 0 60 60), (eN ((NS.new 6 8 4 (fun _ _ => false)).progR ((0 : Nat) : Int) ((0 : Nat) : Int) ((1 : Nat) : Int) (List.replicate 60 0)))] ++ (zs zf16 20 27))) ?_
 refine wpL.done ?_
 refine then_n ?_
 refine wpIn_seq ?_
 refine plain ?_
 refine wI (d_move rfl) ?_
 refine wO (d_call (xl := [.tmp 21, .const (.int .i64 0), .const (.int .i64 0), .const (.int .i64 0)]) (al := [(ptr L13.bN 0), (eN 0), (eN 0), (eN 0)]) Try.func21 (by kernel_rfl) rfl rfl rfl (read_ok L13 ((NS.new 6 8 4 (fun _ _ => false)).prog ((0 : Nat) : Int) ((0 : Nat) : Int) ((1 : Nat) : Int) (List.replicate 60 0)) _ a14 ((0 : Nat) : Int) ((0 : Nat) : Int) ((0 : Nat) : Int) (lt_or1 a19.lt lt_no))) ?_
 rintro _ w24 ⟨u26, rfl, f27, a28, o25⟩
 replace f27 := f27.less (Y := (Or1 o (Ors L13.S (Old W.heap.size)))) (or1_old a19.lt (ors_old a14.lt (old_old oW.size)))
 replace a19 := a19.step o25 (a14.dis _ in1)
 replace oW := oW.tail o25 (fun k hk e => by have := g_oW_L13 k e; omega)
 replace a14 := a28
 refine wI (d_move rfl) ?_
 refine wF ([(zf16 0), (ptr L13.bN 0), (zf16 2), (eN ((NS.new 6 8 4 (fun _ _ => false)).progR ((0 : Nat) : Int) ((0 : Nat) : Int) ((1 : Nat) : Int) (List.replicate 60 0)))] ++ (zs zf16 4 12 ++ [(Value.bool false), (ptr L13.bN 0), (sli o 0 60 60), (eN ((NS.new 6 8 4 (fun _ _ => false)).progR ((0 : Nat) : Int) ((0 : Nat) : Int) ((1 : Nat) : Int) (List.replicate 60 0))), (Value.tuple #[u26, (eN (((NS.new 6 8 4 (fun _ _ => false)).prog ((0 : Nat) : Int) ((0 : Nat) : Int) ((1 : Nat) : Int) (List.replicate 60 0)).askR (((NS.new 6 8 4 (fun _ _ => false)).prog ((0 : Nat) : Int) ((0 : Nat) : Int) ((1 : Nat) : Int) (List.replicate 60 0)).readOk ((0 : Nat) : Int) ((0 : Nat) : Int) ((0 : Nat) : Int))))]), (ptr L13.bN 0), (Value.tuple #[u26, (eN (((NS.new 6 8 4 (fun _ _ => false)).prog ((0 : Nat) : Int) ((0 : Nat) : Int) ((1 : Nat) : Int) (List.replicate 60 0)).askR (((NS.new 6 8 4 (fun _ _ => false)).prog ((0 : Nat) : Int) ((0 : Nat) : Int) ((1 : Nat) : Int) (List.replicate 60 0)).readOk ((0 : Nat) : Int) ((0 : Nat) : Int) ((0 : Nat) : Int))))])] ++ (zs zf16 23 24))) ?_
 refine wI (d_extract (v := u26) rfl rfl) ?_
 refine wI (d_extract (v := (eN (((NS.new 6 8 4 (fun _ _ => false)).prog ((0 : Nat) : Int) ((0 : Nat) : Int) ((1 : Nat) : Int) (List.replicate 60 0)).askR (((NS.new 6 8 4 (fun _ _ => false)).prog ((0 : Nat) : Int) ((0 : Nat) : Int) ((1 : Nat) : Int) (List.replicate 60 0)).readOk ((0 : Nat) : Int) ((0 : Nat) : Int) ((0 : Nat) : Int))))) rfl rfl) ?_
 refine wI (d_assign rfl) ?_
 refine wF ([(zf16 0), (ptr L13.bN 0), (zf16 2), (eN ((NS.new 6 8 4 (fun _ _ => false)).progR ((0 : Nat) : Int) ((0 : Nat) : Int) ((1 : Nat) : Int) (List.replicate 60 0))), u26] ++ (zs zf16 5 11 ++ [(Value.bool false), (ptr L13.bN 0), (sli o 0 60 60), (eN ((NS.new 6 8 4 (fun _ _ => false)).progR ((0 : Nat) : Int) ((0 : Nat) : Int) ((1 : Nat) : Int) (List.replicate 60 0))), (Value.tuple #[u26, (eN (((NS.new 6 8 4 (fun _ _ => false)).prog ((0 : Nat) : Int) ((0 : Nat) : Int) ((1 : Nat) : Int) (List.replicate 60 0)).askR (((NS.new 6 8 4 (fun _ _ => false)).prog ((0 : Nat) : Int) ((0 : Nat) : Int) ((1 : Nat) : Int) (List.replicate 60 0)).readOk ((0 : Nat) : Int) ((0 : Nat) : Int) ((0 : Nat) : Int))))]), (ptr L13.bN 0), (Value.tuple #[u26, (eN (((NS.new 6 8 4 (fun _ _ => false)).prog ((0 : Nat) : Int) ((0 : Nat) : Int) ((1 : Nat) : Int) (List.replicate 60 0)).askR (((NS.new 6 8 4 (fun _ _ => false)).prog ((0 : Nat) : Int) ((0 : Nat) : Int) ((1 : Nat) : Int) (List.replicate 60 0)).readOk ((0 : Nat) : Int) ((0 : Nat) : Int) ((0 : Nat) : Int))))]), u26, (eN (((NS.new 6 8 4 (fun _ _ => false)).prog ((0 : Nat) : Int) ((0 : Nat) : Int) ((1 : Nat) : Int) (List.replicate 60 0)).askR (((NS.new 6 8 4 (fun _ _ => false)).prog ((0 : Nat) : Int) ((0 : Nat) : Int) ((1 : Nat) : Int) (List.replicate 60 0)).readOk ((0 : Nat) : Int) ((0 : Nat) : Int) ((0 : Nat) : Int))))] ++ (zs zf16 25 22))) ?_
 refine wI (d_assign rfl) ?_
 refine wF ([(zf16 0), (ptr L13.bN 0), (zf16 2), (eN ((NS.new 6 8 4 (fun _ _ => false)).progR ((0 : Nat) : Int) ((0 : Nat) : Int) ((1 : Nat) : Int) (List.replicate 60 0))), u26, (eN (((NS.new 6 8 4 (fun _ _ => false)).prog ((0 : Nat) : Int) ((0 : Nat) : Int) ((1 : Nat) : Int) (List.replicate 60 0)).askR (((NS.new 6 8 4 (fun _ _ => false)).prog ((0 : Nat) : Int) ((0 : Nat) : Int) ((1 : Nat) : Int) (List.replicate 60 0)).readOk ((0 : Nat) : Int) ((0 : Nat) : Int) ((0 : Nat) : Int))))] ++ (zs zf16 6 10 ++ [(Value.bool false), (ptr L13.bN 0), (sli o 0 60 60), (eN ((NS.new 6 8 4 (fun _ _ => false)).progR ((0 : Nat) : Int) ((0 : Nat) : Int) ((1 : Nat) : Int) (List.replicate 60 0))), (Value.tuple #[u26, (eN (((NS.new 6 8 4 (fun _ _ => false)).prog ((0 : Nat) : Int) ((0 : Nat) : Int) ((1 : Nat) : Int) (List.replicate 60 0)).askR (((NS.new 6 8 4 (fun _ _ => false)).prog ((0 : Nat) : Int) ((0 : Nat) : Int) ((1 : Nat) : Int) (List.replicate 60 0)).readOk ((0 : Nat) : Int) ((0 : Nat) : Int) ((0 : Nat) : Int))))]), (ptr L13.bN 0), (Value.tuple #[u26, (eN (((NS.new 6 8 4 (fun _ _ => false)).prog ((0 : Nat) : Int) ((0 : Nat) : Int) ((1 : Nat) : Int) (List.replicate 60 0)).askR (((NS.new 6 8 4 (fun _ _ => false)).prog ((0 : Nat) : Int) ((0 : Nat) : Int) ((1 : Nat) : Int) (List.replicate 60 0)).readOk ((0 : Nat) : Int) ((0 : Nat) : Int) ((0 : Nat) : Int))))]), u26, (eN (((NS.new 6 8 4 (fun _ _ => false)).prog ((0 : Nat) : Int) ((0 : Nat) : Int) ((1 : Nat) : Int) (List.replicate 60 0)).askR (((NS.new 6 8 4 (fun _ _ => false)).prog ((0 : Nat) : Int) ((0 : Nat) : Int) ((1 : Nat) : Int) (List.replicate 60 0)).readOk ((0 : Nat) : Int) ((0 : Nat) : Int) ((0 : Nat) : Int))))] ++ (zs zf16 25 22))) ?_
 refine wpL.done ?_
 refine then_n ?_
 refine forget (fun zf29 => ([(zf29 0), (ptr L13.bN 0), (zf29 2), (eN ((NS.new 6 8 4 (fun _ _ => false)).progR ((0 : Nat) : Int) ((0 : Nat) : Int) ((1 : Nat) : Int) (List.replicate 60 0))), u26, (eN (((NS.new 6 8 4 (fun _ _ => false)).prog ((0 : Nat) : Int) ((0 : Nat) : Int) ((1 : Nat) : Int) (List.replicate 60 0)).askR (((NS.new 6 8 4 (fun _ _ => false)).prog ((0 : Nat) : Int) ((0 : Nat) : Int) ((1 : Nat) : Int) (List.replicate 60 0)).readOk ((0 : Nat) : Int) ((0 : Nat) : Int) ((0 : Nat) : Int))))] ++ (zs zf29 6 41))) (by kernel_rfl) (fun zf29 => ?_)
 refine wpIn_seq ?_
 refine plain ?_
 refine wI (d_move rfl) ?_
 refine wI (n_eql (a := ((NS.new 6 8 4 (fun _ _ => false)).progR ((0 : Nat) : Int) ((0 : Nat) : Int) ((1 : Nat) : Int) (List.replicate 60 0))) (b := 1) rfl rfl (decide_eq_true kn_prog)) ?_
 refine wI (d_move rfl) ?_
 refine wF ([(zf29 0), (ptr L13.bN 0), (zf29 2), (eN ((NS.new 6 8 4 (fun _ _ => false)).progR ((0 : Nat) : Int) ((0 : Nat) : Int) ((1 : Nat) : Int) (List.replicate 60 0))), u26, (eN (((NS.new 6 8 4 (fun _ _ => false)).prog ((0 : Nat) : Int) ((0 : Nat) : Int) ((1 : Nat) : Int) (List.replicate 60 0)).askR (((NS.new 6 8 4 (fun _ _ => false)).prog ((0 : Nat) : Int) ((0 : Nat) : Int) ((1 : Nat) : Int) (List.replicate 60 0)).readOk ((0 : Nat) : Int) ((0 : Nat) : Int) ((0 : Nat) : Int))))] ++ (zs zf29 6 19 ++ [(eN ((NS.new 6 8 4 (fun _ _ => false)).progR ((0 : Nat) : Int) ((0 : Nat) : Int) ((1 : Nat) : Int) (List.replicate 60 0))), (Value.bool true), (Value.bool true)] ++ (zs zf29 28 19))) ?_
 refine wpL.onis rfl rfl rfl (nb rfl) rfl (d_move rfl) ?_
 refine wpL.onis rfl rfl rfl (nb rfl) rfl (n_eql (a := (((NS.new 6 8 4 (fun _ _ => false)).prog ((0 : Nat) : Int) ((0 : Nat) : Int) ((1 : Nat) : Int) (List.replicate 60 0)).askR (((NS.new 6 8 4 (fun _ _ => false)).prog ((0 : Nat) : Int) ((0 : Nat) : Int) ((1 : Nat) : Int) (List.replicate 60 0)).readOk ((0 : Nat) : Int) ((0 : Nat) : Int) ((0 : Nat) : Int)))) (b := 0) rfl rfl (decide_eq_true kn_read)) ?_
 refine wI (d_pick (b := true) (v := (Value.bool true)) rfl rfl) ?_
 refine wF ([(zf29 0), (ptr L13.bN 0), (zf29 2), (eN ((NS.new 6 8 4 (fun _ _ => false)).progR ((0 : Nat) : Int) ((0 : Nat) : Int) ((1 : Nat) : Int) (List.replicate 60 0))), u26, (eN (((NS.new 6 8 4 (fun _ _ => false)).prog ((0 : Nat) : Int) ((0 : Nat) : Int) ((1 : Nat) : Int) (List.replicate 60 0)).askR (((NS.new 6 8 4 (fun _ _ => false)).prog ((0 : Nat) : Int) ((0 : Nat) : Int) ((1 : Nat) : Int) (List.replicate 60 0)).readOk ((0 : Nat) : Int) ((0 : Nat) : Int) ((0 : Nat) : Int))))] ++ (zs zf29 6 19 ++ [(eN ((NS.new 6 8 4 (fun _ _ => false)).progR ((0 : Nat) : Int) ((0 : Nat) : Int) ((1 : Nat) : Int) (List.replicate 60 0))), (Value.bool true), (Value.bool true), (eN (((NS.new 6 8 4 (fun _ _ => false)).prog ((0 : Nat) : Int) ((0 : Nat) : Int) ((1 : Nat) : Int) (List.replicate 60 0)).askR (((NS.new 6 8 4 (fun _ _ => false)).prog ((0 : Nat) : Int) ((0 : Nat) : Int) ((1 : Nat) : Int) (List.replicate 60 0)).readOk ((0 : Nat) : Int) ((0 : Nat) : Int) ((0 : Nat) : Int)))), (Value.bool true), (Value.bool true)] ++ (zs zf29 31 16))) ?_
 refine wI (d_move rfl) ?_
 refine wpL.onis rfl rfl rfl (nb rfl) rfl (d_move rfl) ?_
 refine wpL.onis rfl rfl rfl (nb rfl) rfl (d_lenS rfl Try.underlying36 rfl f27) ?_
 refine wF ([(zf29 0), (ptr L13.bN 0), (zf29 2), (eN ((NS.new 6 8 4 (fun _ _ => false)).progR ((0 : Nat) : Int) ((0 : Nat) : Int) ((1 : Nat) : Int) (List.replicate 60 0))), u26, (eN (((NS.new 6 8 4 (fun _ _ => false)).prog ((0 : Nat) : Int) ((0 : Nat) : Int) ((1 : Nat) : Int) (List.replicate 60 0)).askR (((NS.new 6 8 4 (fun _ _ => false)).prog ((0 : Nat) : Int) ((0 : Nat) : Int) ((1 : Nat) : Int) (List.replicate 60 0)).readOk ((0 : Nat) : Int) ((0 : Nat) : Int) ((0 : Nat) : Int))))] ++ (zs zf29 6 19 ++ [(eN ((NS.new 6 8 4 (fun _ _ => false)).progR ((0 : Nat) : Int) ((0 : Nat) : Int) ((1 : Nat) : Int) (List.replicate 60 0))), (Value.bool true), (Value.bool true), (eN (((NS.new 6 8 4 (fun _ _ => false)).prog ((0 : Nat) : Int) ((0 : Nat) : Int) ((1 : Nat) : Int) (List.replicate 60 0)).askR (((NS.new 6 8 4 (fun _ _ => false)).prog ((0 : Nat) : Int) ((0 : Nat) : Int) ((1 : Nat) : Int) (List.replicate 60 0)).readOk ((0 : Nat) : Int) ((0 : Nat) : Int) ((0 : Nat) : Int)))), (Value.bool true), (Value.bool true), (Value.bool true), u26, (eN ((((NS.new 6 8 4 (fun _ _ => false)).prog ((0 : Nat) : Int) ((0 : Nat) : Int) ((1 : Nat) : Int) (List.replicate 60 0)).readL ((0 : Nat) : Int) ((0 : Nat) : Int) ((0 : Nat) : Int)).length))] ++ (zs zf29 34 13))) ?_
 refine wpL.onis rfl rfl rfl (nb rfl) rfl (n_eql (a := ((((NS.new 6 8 4 (fun _ _ => false)).prog ((0 : Nat) : Int) ((0 : Nat) : Int) ((1 : Nat) : Int) (List.replicate 60 0)).readL ((0 : Nat) : Int) ((0 : Nat) : Int) ((0 : Nat) : Int)).length)) (b := 60) rfl rfl (decide_eq_true kn_len)) ?_
 refine wI (d_pick (b := true) (v := (Value.bool true)) rfl rfl) ?_
 refine wI (d_move rfl) ?_
 refine wF ([(zf29 0), (ptr L13.bN 0), (zf29 2), (eN ((NS.new 6 8 4 (fun _ _ => false)).progR ((0 : Nat) : Int) ((0 : Nat) : Int) ((1 : Nat) : Int) (List.replicate 60 0))), u26, (eN (((NS.new 6 8 4 (fun _ _ => false)).prog ((0 : Nat) : Int) ((0 : Nat) : Int) ((1 : Nat) : Int) (List.replicate 60 0)).askR (((NS.new 6 8 4 (fun _ _ => false)).prog ((0 : Nat) : Int) ((0 : Nat) : Int) ((1 : Nat) : Int) (List.replicate 60 0)).readOk ((0 : Nat) : Int) ((0 : Nat) : Int) ((0 : Nat) : Int))))] ++ (zs zf29 6 19 ++ [(eN ((NS.new 6 8 4 (fun _ _ => false)).progR ((0 : Nat) : Int) ((0 : Nat) : Int) ((1 : Nat) : Int) (List.replicate 60 0))), (Value.bool true), (Value.bool true), (eN (((NS.new 6 8 4 (fun _ _ => false)).prog ((0 : Nat) : Int) ((0 : Nat) : Int) ((1 : Nat) : Int) (List.replicate 60 0)).askR (((NS.new 6 8 4 (fun _ _ => false)).prog ((0 : Nat) : Int) ((0 : Nat) : Int) ((1 : Nat) : Int) (List.replicate 60 0)).readOk ((0 : Nat) : Int) ((0 : Nat) : Int) ((0 : Nat) : Int)))), (Value.bool true), (Value.bool true), (Value.bool true), u26, (eN ((((NS.new 6 8 4 (fun _ _ => false)).prog ((0 : Nat) : Int) ((0 : Nat) : Int) ((1 : Nat) : Int) (List.replicate 60 0)).readL ((0 : Nat) : Int) ((0 : Nat) : Int) ((0 : Nat) : Int)).length)), (Value.bool true), (Value.bool true), (Value.bool true)] ++ (zs zf29 37 10))) ?_
 refine wpL.onis rfl rfl rfl (nb rfl) rfl (d_move rfl) ?_
 refine wpL.onis rfl rfl rfl (nb rfl) rfl (d_ix (i := 0) (xs := (((NS.new 6 8 4 (fun _ _ => false)).prog ((0 : Nat) : Int) ((0 : Nat) : Int) ((1 : Nat) : Int) (List.replicate 60 0)).readL ((0 : Nat) : Int) ((0 : Nat) : Int) ((0 : Nat) : Int))) Try.underlying36 s_ti5 rfl f27 (show _ = Value.int _ ((0 : Nat) : Int) from rfl) kn_pos) ?_
 refine wpL.onis rfl rfl rfl (nb rfl) rfl (d_ldx (i := 0) (xs := (((NS.new 6 8 4 (fun _ _ => false)).prog ((0 : Nat) : Int) ((0 : Nat) : Int) ((1 : Nat) : Int) (List.replicate 60 0)).readL ((0 : Nat) : Int) ((0 : Nat) : Int) ((0 : Nat) : Int))) (enc := eB) (v := ((((NS.new 6 8 4 (fun _ _ => false)).prog ((0 : Nat) : Int) ((0 : Nat) : Int) ((1 : Nat) : Int) (List.replicate 60 0)).readL ((0 : Nat) : Int) ((0 : Nat) : Int) ((0 : Nat) : Int)).getD 0 0)) ⟨_, Try.underlying5, rfl⟩ rfl f27 (g_at kn_pos)) ?_
 refine wF ([(zf29 0), (ptr L13.bN 0), (zf29 2), (eN ((NS.new 6 8 4 (fun _ _ => false)).progR ((0 : Nat) : Int) ((0 : Nat) : Int) ((1 : Nat) : Int) (List.replicate 60 0))), u26, (eN (((NS.new 6 8 4 (fun _ _ => false)).prog ((0 : Nat) : Int) ((0 : Nat) : Int) ((1 : Nat) : Int) (List.replicate 60 0)).askR (((NS.new 6 8 4 (fun _ _ => false)).prog ((0 : Nat) : Int) ((0 : Nat) : Int) ((1 : Nat) : Int) (List.replicate 60 0)).readOk ((0 : Nat) : Int) ((0 : Nat) : Int) ((0 : Nat) : Int))))] ++ (zs zf29 6 19 ++ [(eN ((NS.new 6 8 4 (fun _ _ => false)).progR ((0 : Nat) : Int) ((0 : Nat) : Int) ((1 : Nat) : Int) (List.replicate 60 0))), (Value.bool true), (Value.bool true), (eN (((NS.new 6 8 4 (fun _ _ => false)).prog ((0 : Nat) : Int) ((0 : Nat) : Int) ((1 : Nat) : Int) (List.replicate 60 0)).askR (((NS.new 6 8 4 (fun _ _ => false)).prog ((0 : Nat) : Int) ((0 : Nat) : Int) ((1 : Nat) : Int) (List.replicate 60 0)).readOk ((0 : Nat) : Int) ((0 : Nat) : Int) ((0 : Nat) : Int)))), (Value.bool true), (Value.bool true), (Value.bool true), u26, (eN ((((NS.new 6 8 4 (fun _ _ => false)).prog ((0 : Nat) : Int) ((0 : Nat) : Int) ((1 : Nat) : Int) (List.replicate 60 0)).readL ((0 : Nat) : Int) ((0 : Nat) : Int) ((0 : Nat) : Int)).length)), (Value.bool true), (Value.bool true), (Value.bool true), u26, (ixp u26 0), (eB ((((NS.new 6 8 4 (fun _ _ => false)).prog ((0 : Nat) : Int) ((0 : Nat) : Int) ((1 : Nat) : Int) (List.replicate 60 0)).readL ((0 : Nat) : Int) ((0 : Nat) : Int) ((0 : Nat) : Int)).getD 0 0))] ++ (zs zf29 40 7))) ?_
 refine wpL.onis rfl rfl rfl (nb rfl) rfl (b_eql (c := ((((NS.new 6 8 4 (fun _ _ => false)).prog ((0 : Nat) : Int) ((0 : Nat) : Int) ((1 : Nat) : Int) (List.replicate 60 0)).readL ((0 : Nat) : Int) ((0 : Nat) : Int) ((0 : Nat) : Int)).getD 0 0)) (e := 255) rfl rfl (decide_eq_true kn_at)) ?_
 refine wI (d_pick (b := true) (v := (Value.bool true)) rfl rfl) ?_
 refine wI (d_move rfl) ?_
 refine wF ([(zf29 0), (ptr L13.bN 0), (zf29 2), (eN ((NS.new 6 8 4 (fun _ _ => false)).progR ((0 : Nat) : Int) ((0 : Nat) : Int) ((1 : Nat) : Int) (List.replicate 60 0))), u26, (eN (((NS.new 6 8 4 (fun _ _ => false)).prog ((0 : Nat) : Int) ((0 : Nat) : Int) ((1 : Nat) : Int) (List.replicate 60 0)).askR (((NS.new 6 8 4 (fun _ _ => false)).prog ((0 : Nat) : Int) ((0 : Nat) : Int) ((1 : Nat) : Int) (List.replicate 60 0)).readOk ((0 : Nat) : Int) ((0 : Nat) : Int) ((0 : Nat) : Int))))] ++ (zs zf29 6 19 ++ [(eN ((NS.new 6 8 4 (fun _ _ => false)).progR ((0 : Nat) : Int) ((0 : Nat) : Int) ((1 : Nat) : Int) (List.replicate 60 0))), (Value.bool true), (Value.bool true), (eN (((NS.new 6 8 4 (fun _ _ => false)).prog ((0 : Nat) : Int) ((0 : Nat) : Int) ((1 : Nat) : Int) (List.replicate 60 0)).askR (((NS.new 6 8 4 (fun _ _ => false)).prog ((0 : Nat) : Int) ((0 : Nat) : Int) ((1 : Nat) : Int) (List.replicate 60 0)).readOk ((0 : Nat) : Int) ((0 : Nat) : Int) ((0 : Nat) : Int)))), (Value.bool true), (Value.bool true), (Value.bool true), u26, (eN ((((NS.new 6 8 4 (fun _ _ => false)).prog ((0 : Nat) : Int) ((0 : Nat) : Int) ((1 : Nat) : Int) (List.replicate 60 0)).readL ((0 : Nat) : Int) ((0 : Nat) : Int) ((0 : Nat) : Int)).length)), (Value.bool true), (Value.bool true), (Value.bool true), u26, (ixp u26 0), (eB ((((NS.new 6 8 4 (fun _ _ => false)).prog ((0 : Nat) : Int) ((0 : Nat) : Int) ((1 : Nat) : Int) (List.replicate 60 0)).readL ((0 : Nat) : Int) ((0 : Nat) : Int) ((0 : Nat) : Int)).getD 0 0)), (Value.bool true), (Value.bool true), (Value.bool true), (zf29 43), (zf29 44), (zf29 45), (zf29 46)])) ?_
 refine wpL.onis rfl rfl rfl (nb rfl) rfl (d_move rfl) ?_
 refine wpL.on rfl rfl rfl (nb rfl) rfl (d_call (xl := [.tmp 43]) (al := [(ptr L13.bN 0)]) Try.func18 (by kernel_rfl) rfl rfl rfl (nandWrong_ok L13 (((NS.new 6 8 4 (fun _ _ => false)).prog ((0 : Nat) : Int) ((0 : Nat) : Int) ((1 : Nat) : Int) (List.replicate 60 0)).ask (((NS.new 6 8 4 (fun _ _ => false)).prog ((0 : Nat) : Int) ((0 : Nat) : Int) ((1 : Nat) : Int) (List.replicate 60 0)).readOk ((0 : Nat) : Int) ((0 : Nat) : Int) ((0 : Nat) : Int))) _ a14)) ?_
 rintro _ w30 ⟨rfl, o31⟩
 replace a14 := a14.step0 o31
 replace f27 := f27.step0 o31
 replace a19 := a19.step0 o31
 replace oW := oW.tail0 o31
 refine wpL.onis rfl rfl rfl (nb rfl) rfl (d_eql (k := .i64) (m := (((NS.new 6 8 4 (fun _ _ => false)).prog ((0 : Nat) : Int) ((0 : Nat) : Int) ((1 : Nat) : Int) (List.replicate 60 0)).ask (((NS.new 6 8 4 (fun _ _ => false)).prog ((0 : Nat) : Int) ((0 : Nat) : Int) ((1 : Nat) : Int) (List.replicate 60 0)).readOk ((0 : Nat) : Int) ((0 : Nat) : Int) ((0 : Nat) : Int))).wrong) (n := 1) rfl rfl (decide_eq_true kn_wrong)) ?_
 refine wF ([(zf29 0), (ptr L13.bN 0), (zf29 2), (eN ((NS.new 6 8 4 (fun _ _ => false)).progR ((0 : Nat) : Int) ((0 : Nat) : Int) ((1 : Nat) : Int) (List.replicate 60 0))), u26, (eN (((NS.new 6 8 4 (fun _ _ => false)).prog ((0 : Nat) : Int) ((0 : Nat) : Int) ((1 : Nat) : Int) (List.replicate 60 0)).askR (((NS.new 6 8 4 (fun _ _ => false)).prog ((0 : Nat) : Int) ((0 : Nat) : Int) ((1 : Nat) : Int) (List.replicate 60 0)).readOk ((0 : Nat) : Int) ((0 : Nat) : Int) ((0 : Nat) : Int))))] ++ (zs zf29 6 19 ++ [(eN ((NS.new 6 8 4 (fun _ _ => false)).progR ((0 : Nat) : Int) ((0 : Nat) : Int) ((1 : Nat) : Int) (List.replicate 60 0))), (Value.bool true), (Value.bool true), (eN (((NS.new 6 8 4 (fun _ _ => false)).prog ((0 : Nat) : Int) ((0 : Nat) : Int) ((1 : Nat) : Int) (List.replicate 60 0)).askR (((NS.new 6 8 4 (fun _ _ => false)).prog ((0 : Nat) : Int) ((0 : Nat) : Int) ((1 : Nat) : Int) (List.replicate 60 0)).readOk ((0 : Nat) : Int) ((0 : Nat) : Int) ((0 : Nat) : Int)))), (Value.bool true), (Value.bool true), (Value.bool true), u26, (eN ((((NS.new 6 8 4 (fun _ _ => false)).prog ((0 : Nat) : Int) ((0 : Nat) : Int) ((1 : Nat) : Int) (List.replicate 60 0)).readL ((0 : Nat) : Int) ((0 : Nat) : Int) ((0 : Nat) : Int)).length)), (Value.bool true), (Value.bool true), (Value.bool true), u26, (ixp u26 0), (eB ((((NS.new 6 8 4 (fun _ _ => false)).prog ((0 : Nat) : Int) ((0 : Nat) : Int) ((1 : Nat) : Int) (List.replicate 60 0)).readL ((0 : Nat) : Int) ((0 : Nat) : Int) ((0 : Nat) : Int)).getD 0 0)), (Value.bool true), (Value.bool true), (Value.bool true), (ptr L13.bN 0), (eI ((((NS.new 6 8 4 (fun _ _ => false)).prog ((0 : Nat) : Int) ((0 : Nat) : Int) ((1 : Nat) : Int) (List.replicate 60 0)).ask (((NS.new 6 8 4 (fun _ _ => false)).prog ((0 : Nat) : Int) ((0 : Nat) : Int) ((1 : Nat) : Int) (List.replicate 60 0)).readOk ((0 : Nat) : Int) ((0 : Nat) : Int) ((0 : Nat) : Int))).wrong)), (Value.bool true), (zf29 46)])) ?_
 refine wI (d_pick (b := true) (v := (Value.bool true)) rfl rfl) ?_
 refine wI (d_assign rfl) ?_
 refine wF ([(Value.bool true), (ptr L13.bN 0), (zf29 2), (eN ((NS.new 6 8 4 (fun _ _ => false)).progR ((0 : Nat) : Int) ((0 : Nat) : Int) ((1 : Nat) : Int) (List.replicate 60 0))), u26, (eN (((NS.new 6 8 4 (fun _ _ => false)).prog ((0 : Nat) : Int) ((0 : Nat) : Int) ((1 : Nat) : Int) (List.replicate 60 0)).askR (((NS.new 6 8 4 (fun _ _ => false)).prog ((0 : Nat) : Int) ((0 : Nat) : Int) ((1 : Nat) : Int) (List.replicate 60 0)).readOk ((0 : Nat) : Int) ((0 : Nat) : Int) ((0 : Nat) : Int))))] ++ (zs zf29 6 19 ++ [(eN ((NS.new 6 8 4 (fun _ _ => false)).progR ((0 : Nat) : Int) ((0 : Nat) : Int) ((1 : Nat) : Int) (List.replicate 60 0))), (Value.bool true), (Value.bool true), (eN (((NS.new 6 8 4 (fun _ _ => false)).prog ((0 : Nat) : Int) ((0 : Nat) : Int) ((1 : Nat) : Int) (List.replicate 60 0)).askR (((NS.new 6 8 4 (fun _ _ => false)).prog ((0 : Nat) : Int) ((0 : Nat) : Int) ((1 : Nat) : Int) (List.replicate 60 0)).readOk ((0 : Nat) : Int) ((0 : Nat) : Int) ((0 : Nat) : Int)))), (Value.bool true), (Value.bool true), (Value.bool true), u26, (eN ((((NS.new 6 8 4 (fun _ _ => false)).prog ((0 : Nat) : Int) ((0 : Nat) : Int) ((1 : Nat) : Int) (List.replicate 60 0)).readL ((0 : Nat) : Int) ((0 : Nat) : Int) ((0 : Nat) : Int)).length)), (Value.bool true), (Value.bool true), (Value.bool true), u26, (ixp u26 0), (eB ((((NS.new 6 8 4 (fun _ _ => false)).prog ((0 : Nat) : Int) ((0 : Nat) : Int) ((1 : Nat) : Int) (List.replicate 60 0)).readL ((0 : Nat) : Int) ((0 : Nat) : Int) ((0 : Nat) : Int)).getD 0 0)), (Value.bool true), (Value.bool true), (Value.bool true), (ptr L13.bN 0), (eI ((((NS.new 6 8 4 (fun _ _ => false)).prog ((0 : Nat) : Int) ((0 : Nat) : Int) ((1 : Nat) : Int) (List.replicate 60 0)).ask (((NS.new 6 8 4 (fun _ _ => false)).prog ((0 : Nat) : Int) ((0 : Nat) : Int) ((1 : Nat) : Int) (List.replicate 60 0)).readOk ((0 : Nat) : Int) ((0 : Nat) : Int) ((0 : Nat) : Int))).wrong)), (Value.bool true), (Value.bool true)])) ?_
 refine wpL.done ?_
 refine then_n ?_
 refine forget (fun zf32 => ([(Value.bool true)] ++ (zs zf32 1 46))) (by kernel_rfl) (fun zf32 => ?_)
 refine wpIn_ret ?_
 refine leave0 (v := (Value.bool true)) (res1 Try.results11 rfl) ?_
 exact ⟨rfl, oW⟩

set_option maxRecDepth 20000 in
set_option maxHeartbeats 1000000 in
theorem ref6FlipI_ok (la : List UInt8) (ls : List Int) (u1 u2 : Value) (W : World) (h1 : Ps No (Seq kB la u1) W) (h2 : Ps No (Seq kI ls u2) W) (g1 : la.length ≤ 1048576) (g2 : ls.length ≤ 1048576) (r2 : ∀ x ∈ ls, -9223372036854775808 ≤ x ∧ x < 9223372036854775808) :
    CW Try.prog 22 #[u1, u2] W (Rt (ROw 5 eB (flipI la ls) W)) := by
 have oW : Only No W W := Only.refl _ _
 refine enter (al := [u1, u2]) (k := 53) (l := ([u1, u2] ++ (us 53))) Try.func22 rfl Try.ntmps22 rfl rfl ?_
 refine wpIn_seq ?_
 refine plain ?_
 refine wI (d_assign rfl) ?_
 refine wF ([u1, u2, undef, undef, (Value.slice none 0 0)] ++ (us 50)) ?_
 refine wpL.done ?_
 refine then_n ?_
 refine wpIn_seq ?_
 refine plain ?_
 refine wO (d_buildL (cs := []) Try.underlying36 s_ti5 rfl (nb rfl) parts_nil rfl) ?_
 rintro _ w12 ⟨b11, rfl, g13, a14, o15⟩
 replace a14 : Arr 5 b11 (([] : List UInt8).map eB) w12 := a14
 have l_b11 : ([] : List UInt8).length = 0 := rfl
 have g_oW_b11 : W.heap.size ≤ b11 := Nat.le_trans oW.size g13
 replace h1 := h1.new o15 g13
 replace h2 := h2.new o15 g13
 replace oW := oW.tail0 o15
 refine wI (d_move rfl) ?_
 have a16 := Ow.of_map2 a14 l_b11
 have q_oW_o : Fr (some b11) none W.heap.size := Fr.new g_oW_b11
 replace h1 := h1.less (Y := (Orq (some b11) No)) (xx_br xx_id)
 replace h2 := h2.less (Y := (Orq (some b11) No)) (xx_br xx_id)
 refine wO (d_append Try.underlying36 Try.underlying36 s_ti5 rfl rfl rfl a16 (SrcV.of_seq h1 (fun _ => rfl)) (by simp; omega) (by simp; omega) rfl) ?_
 rintro u17 w18 ⟨bo19, a20, o21, q22⟩
 replace a20 : Ow 5 1 bo19 u17 (la).length ((la).map eB) w18 := by simpa using a20
 replace h1 := h1.gr o21 (fun k e => (.inl e)) (xx_re (Fr.of_or q22) xx_id)
 replace h2 := h2.gr o21 (fun k e => (.inl e)) (xx_re (Fr.of_or q22) xx_id)
 have tq := oW.size
 replace oW := oW.tailr o21 q_oW_o (fun _ e => by cases e)
 replace q_oW_o := qtr (Fr.of_or q22) q_oW_o tq
 clear tq
 refine wF ([u1, u2, undef, undef, (Value.slice none 0 0), undef, undef, (sli b11 0 0 0), u1, u17] ++ (us 45)) ?_
 refine wI (d_assign rfl) ?_
 refine wF ([u1, u2, undef, undef, (Value.slice none 0 0), u17, undef, (sli b11 0 0 0), u1, u17] ++ (us 45)) ?_
 refine wpL.done ?_
 refine then_n ?_
 refine wpIn_seq ?_
 refine wpIn_seq ?_
 refine plain ?_
 refine wI (d_assign rfl) ?_
 refine wF ([u1, u2, undef, undef, (Value.slice none 0 0), u17, (eN 0), (sli b11 0 0 0), u1, u17] ++ (us 45)) ?_
 refine wpL.done ?_
 refine then_n ?_
 refine wpIn_block ?_
 refine loop2 (fun (i : (Nat)) => fun (z : Nat → Value) => (([u1, u2, undef, undef, (Value.slice none 0 0), u17, (eN i), (sli b11 0 0 0), u1, u17] ++ (zs z 10 44 ++ [undef])) : List Value)) (fun (i : (Nat)) => fun (w_ : World) => (i ≤ ls.length) ∧ Only (Orq bo19 No) w18 w_ ∧ Ow 5 1 bo19 u17 (flipI la (ls.take i)).length ((flipI la (ls.take i)).map eB) w_) (fun (i : (Nat)) => ls.length - i) 0 rfl ?_ ?_
 ·
  refine ⟨?_, ?_, ?_⟩
  ·
   exact Nat.zero_le _
  ·
   exact Only.refl _ _
  ·
   exact a20
 rintro i z w24 ⟨hi, o23, a20⟩
 (try dsimp only)
 replace h1 := h1.step o23 (orq_mono no_any)
 replace h2 := h2.step o23 (orq_mono no_any)
 replace oW := oW.tail o23 (tl_q q_oW_o (fun _ e => by cases e) tl_no)
 have q_o23_o : Fr bo19 bo19 w18.heap.size := Fr.same
 refine wpIn_seq ?_
 refine wpIn_seq ?_
 refine plain ?_
 refine wI (d_move rfl) ?_
 refine wI (d_move rfl) ?_
 refine wI (d_lenS rfl Try.underlying37 rfl h2) ?_
 refine wF ([u1, u2, undef, undef, (Value.slice none 0 0), u17, (eN i), (sli b11 0 0 0), u1, u17, (eN i), u2, (eN ls.length)] ++ (zs z 13 41 ++ [undef])) ?_
 refine wI (n_lss (a := i) (b := ls.length) rfl rfl rfl) ?_
 refine wF ([u1, u2, undef, undef, (Value.slice none 0 0), u17, (eN i), (sli b11 0 0 0), u1, u17, (eN i), u2, (eN ls.length), (Value.bool (decide (i < ls.length)))] ++ (zs z 14 40 ++ [undef])) ?_
 refine wpL.done ?_
 refine then_n ?_
 refine cond_if rfl (fun c0 => ?_) (fun c0 => ?_)
 ·
  refine wpIn_skip ?_
  refine then_n ?_
  refine wpIn_seq ?_
  refine wpIn_block ?_
  refine wpIn_seq ?_
  have hl_ := flipI_length la (ls.take i)
  by_cases k0 : 0 ≤ (ls.getD i 0)
  ·
   obtain ⟨n_, hn_⟩ := Int.eq_ofNat_of_zero_le k0
   have rn_ := range_at r2 i (by omega)
   rw [hn_] at rn_
   refine plain ?_
   refine wI (d_move rfl) ?_
   refine wI (d_move rfl) ?_
   refine wI (d_ix (i := i) (xs := ls) Try.underlying37 s_ti3 rfl h2 (show _ = Value.int _ ((i : Nat) : Int) from rfl) (by first | omega | (simp; done) | (simp; omega))) ?_
   refine wF ([u1, u2, undef, undef, (Value.slice none 0 0), u17, (eN i), (sli b11 0 0 0), u1, u17, (eN i), u2, (eN ls.length), (Value.bool (decide (i < ls.length))), (z 14), (z 15), u2, (eN i), (ixp u2 i)] ++ (zs z 19 35 ++ [undef])) ?_
   refine wI (dv_to (d_ldx (i := i) (xs := ls) (enc := eI) (v := (ls.getD i 0)) ⟨_, Try.underlying3, rfl⟩ rfl h2 (g_at (by first | omega | (simp; done) | (simp; omega)))) (congrArg eI hn_)) ?_
   refine wI (n_geq (a := n_) (b := 0) rfl rfl (decide_eq_true (Nat.zero_le _))) ?_
   refine wI (d_move rfl) ?_
   refine wF ([u1, u2, undef, undef, (Value.slice none 0 0), u17, (eN i), (sli b11 0 0 0), u1, u17, (eN i), u2, (eN ls.length), (Value.bool (decide (i < ls.length))), (z 14), (z 15), u2, (eN i), (ixp u2 i), (eN n_), (Value.bool true), (Value.bool true)] ++ (zs z 22 32 ++ [undef])) ?_
   refine wpL.onis rfl rfl rfl (nb rfl) rfl (d_move rfl) ?_
   refine wpL.onis rfl rfl rfl (nb rfl) rfl (d_move rfl) ?_
   refine wpL.onis rfl rfl rfl (nb rfl) rfl (d_ix (i := i) (xs := ls) Try.underlying37 s_ti3 rfl h2 (show _ = Value.int _ ((i : Nat) : Int) from rfl) (by first | omega | (simp; done) | (simp; omega))) ?_
   refine wF ([u1, u2, undef, undef, (Value.slice none 0 0), u17, (eN i), (sli b11 0 0 0), u1, u17, (eN i), u2, (eN ls.length), (Value.bool (decide (i < ls.length))), (z 14), (z 15), u2, (eN i), (ixp u2 i), (eN n_), (Value.bool true), (Value.bool true), u2, (eN i), (ixp u2 i)] ++ (zs z 25 29 ++ [undef])) ?_
   refine wpL.onis rfl rfl rfl (nb rfl) rfl (dv_to (d_ldx (i := i) (xs := ls) (enc := eI) (v := (ls.getD i 0)) ⟨_, Try.underlying3, rfl⟩ rfl h2 (g_at (by first | omega | (simp; done) | (simp; omega)))) (congrArg eI hn_)) ?_
   refine wpL.onis rfl rfl rfl (nb rfl) rfl (n_quo (a := n_) (b := 8) rfl rfl (by decide) (by omega)) ?_
   refine wpL.onis rfl rfl rfl (nb rfl) rfl (d_move rfl) ?_
   refine wF ([u1, u2, undef, undef, (Value.slice none 0 0), u17, (eN i), (sli b11 0 0 0), u1, u17, (eN i), u2, (eN ls.length), (Value.bool (decide (i < ls.length))), (z 14), (z 15), u2, (eN i), (ixp u2 i), (eN n_), (Value.bool true), (Value.bool true), u2, (eN i), (ixp u2 i), (eN n_), (eN (n_ / 8)), u1] ++ (zs z 28 26 ++ [undef])) ?_
   refine wpL.onis rfl rfl rfl (nb rfl) rfl (d_lenS rfl Try.underlying36 rfl h1) ?_
   refine wpL.onis rfl rfl rfl (nb rfl) rfl (n_lss (a := (n_ / 8)) (b := la.length) rfl rfl rfl) ?_
   refine wI (d_pick (b := true) (v := (Value.bool (decide ((n_ / 8) < la.length)))) rfl rfl) ?_
   refine wF ([u1, u2, undef, undef, (Value.slice none 0 0), u17, (eN i), (sli b11 0 0 0), u1, u17, (eN i), u2, (eN ls.length), (Value.bool (decide (i < ls.length))), (z 14), (z 15), u2, (eN i), (ixp u2 i), (eN n_), (Value.bool true), (Value.bool true), u2, (eN i), (ixp u2 i), (eN n_), (eN (n_ / 8)), u1, (eN la.length), (Value.bool (decide ((n_ / 8) < la.length))), (Value.bool (decide ((n_ / 8) < la.length)))] ++ (zs z 31 23 ++ [undef])) ?_
   refine wpL.done ?_
   refine then_n ?_
   refine forget (fun zf25 => ([u1, u2, undef, undef, (Value.slice none 0 0), u17, (eN i), (sli b11 0 0 0), u1, u17] ++ (zs zf25 10 20 ++ [(Value.bool (decide ((n_ / 8) < la.length)))] ++ (zs z 31 23 ++ [undef])))) (by kernel_rfl) (fun zf25 => ?_)
   refine cond_if rfl (fun c1 => ?_) (fun c1 => ?_)
   ·
    refine drawn_last (O := (Isq bo19)) (m := 23) (R := fun w_ => Ow 5 1 bo19 u17 ((flipI la (ls.take i)).set (n_ / 8) (((flipI la (ls.take i)).getD (n_ / 8) 0) ^^^ (shlB 1 (n_ % 8)))).length (((flipI la (ls.take i)).set (n_ / 8) (((flipI la (ls.take i)).getD (n_ / 8) 0) ^^^ (shlB 1 (n_ % 8)))).map eB) w_) [0, 0, 0, 6, 14, 30, 0, 0, 0, 384, 896, 1920, 4032, 8128, 0, 0, 49152, 114688, 245760, 507904, 1032192, 2097088, 4194303, 8388607] [(0, 31), (1, 32), (2, 33), (3, 34), (4, 35), (5, 36), (6, 37), (7, 38), (8, 39), (9, 40), (10, 41), (11, 42), (12, 43), (13, 44), (14, 45), (15, 46), (16, 47), (17, 48), (18, 49), (19, 50), (20, 51), (21, 52), (22, 53)] [u17, u2, (eN i), (ixp u2 i), (eN n_), (eN (n_ / 8)), u17, u2, (eN i), (ixp u2 i), (eN n_), (eN (n_ / 8)), (ixp u17 (n_ / 8)), (eB ((flipI la (ls.take i)).getD (n_ / 8) 0)), u2, (eN i), (ixp u2 i), (eN n_), (eN (n_ % 8)), (Value.int .u64 ((n_ % 8 : Nat) : Int)), (eB (shlB 1 (n_ % 8))), (eB (((flipI la (ls.take i)).getD (n_ / 8) 0) ^^^ (shlB 1 (n_ % 8)))), (ixp u17 (n_ / 8))] ([u1, u2, undef, undef, (Value.slice none 0 0), u17, (eN i), (sli b11 0 0 0), u1, u17] ++ (zs zf25 10 20 ++ [(Value.bool (decide ((n_ / 8) < la.length))), u17, u2, (eN i), (ixp u2 i), (eN n_), (eN (n_ / 8)), u17, u2, (eN i), (ixp u2 i), (eN n_), (eN (n_ / 8)), (ixp u17 (n_ / 8)), (eB ((flipI la (ls.take i)).getD (n_ / 8) 0)), u2, (eN i), (ixp u2 i), (eN n_), (eN (n_ % 8)), (Value.int .u64 ((n_ % 8 : Nat) : Int)), (eB (shlB 1 (n_ % 8))), (eB (((flipI la (ls.take i)).getD (n_ / 8) 0) ^^^ (shlB 1 (n_ % 8)))), (ixp u17 (n_ / 8)), undef])) s_mx (by kernel_rfl) (by kernel_rfl) rfl rfl (by decide) (by kernel_rfl) (by kernel_rfl) ?_ (fun _ _ h_ ho_ => h_.step0 ho_) ⟨_, rfl, rfl, fun w_ hO_ => gd rfl ((d_stx (i := (n_ / 8)) (xs := (flipI la (ls.take i))) (enc := eB) (v := (((flipI la (ls.take i)).getD (n_ / 8) 0) ^^^ (shlB 1 (n_ % 8)))) s_ti5 rfl rfl rfl (a20.step0 hO_) (by have := flipI_length la (ls.take i); first | omega | (simp; done) | (simp; omega)) rfl).mono fun u_ w2_ h_ => ⟨h_.2, h_.1⟩)⟩ ?_
    ·
     intro w_ hO_
     refine AllG.cons (gi rfl (d_move rfl)) ?_
     refine AllG.cons (gi rfl (d_move rfl)) ?_
     refine AllG.cons (gi rfl (d_move rfl)) ?_
     refine AllG.cons (gi rfl (d_ix (i := i) (xs := ls) Try.underlying37 s_ti3 rfl (h2.step0 hO_) (show _ = Value.int _ ((i : Nat) : Int) from rfl) (by first | omega | (simp; done) | (simp; omega)))) ?_
     refine AllG.cons (gi rfl (dv_to (d_ldx (i := i) (xs := ls) (enc := eI) (v := (ls.getD i 0)) ⟨_, Try.underlying3, rfl⟩ rfl (h2.step0 hO_) (g_at (by first | omega | (simp; done) | (simp; omega)))) (congrArg eI hn_))) ?_
     refine AllG.cons (gi rfl (n_quo (a := n_) (b := 8) rfl rfl (by decide) (by omega))) ?_
     refine AllG.cons (gi rfl (d_move rfl)) ?_
     refine AllG.cons (gi rfl (d_move rfl)) ?_
     refine AllG.cons (gi rfl (d_move rfl)) ?_
     refine AllG.cons (gi rfl (d_ix (i := i) (xs := ls) Try.underlying37 s_ti3 rfl (h2.step0 hO_) (show _ = Value.int _ ((i : Nat) : Int) from rfl) (by first | omega | (simp; done) | (simp; omega)))) ?_
     refine AllG.cons (gi rfl (dv_to (d_ldx (i := i) (xs := ls) (enc := eI) (v := (ls.getD i 0)) ⟨_, Try.underlying3, rfl⟩ rfl (h2.step0 hO_) (g_at (by first | omega | (simp; done) | (simp; omega)))) (congrArg eI hn_))) ?_
     refine AllG.cons (gi rfl (n_quo (a := n_) (b := 8) rfl rfl (by decide) (by omega))) ?_
     refine AllG.cons (gi rfl (d_ix (i := (n_ / 8)) (xs := (flipI la (ls.take i))) Try.underlying36 s_ti5 rfl ((a20.step0 hO_).seq (X := No) (fun _ _ h => h)) (show _ = Value.int _ ((n_ / 8 : Nat) : Int) from rfl) (by have := flipI_length la (ls.take i); first | omega | (simp; done) | (simp; omega)))) ?_
     refine AllG.cons (gi rfl (d_ldx (i := (n_ / 8)) (xs := (flipI la (ls.take i))) (enc := eB) (v := ((flipI la (ls.take i)).getD (n_ / 8) 0)) ⟨_, Try.underlying5, rfl⟩ rfl ((a20.step0 hO_).seq (X := No) (fun _ _ h => h)) (g_at (by have := flipI_length la (ls.take i); first | omega | (simp; done) | (simp; omega))))) ?_
     refine AllG.cons (gi rfl (d_move rfl)) ?_
     refine AllG.cons (gi rfl (d_move rfl)) ?_
     refine AllG.cons (gi rfl (d_ix (i := i) (xs := ls) Try.underlying37 s_ti3 rfl (h2.step0 hO_) (show _ = Value.int _ ((i : Nat) : Int) from rfl) (by first | omega | (simp; done) | (simp; omega)))) ?_
     refine AllG.cons (gi rfl (dv_to (d_ldx (i := i) (xs := ls) (enc := eI) (v := (ls.getD i 0)) ⟨_, Try.underlying3, rfl⟩ rfl (h2.step0 hO_) (g_at (by first | omega | (simp; done) | (simp; omega)))) (congrArg eI hn_))) ?_
     refine AllG.cons (gi rfl (n_rem (a := n_) (b := 8) rfl rfl (by decide))) ?_
     refine AllG.cons (gi rfl (n_toU Try.underlying3 Try.underlying94 rfl (by omega))) ?_
     refine AllG.cons (gi rfl (b_shl (a := (n_ % 8)) rfl rfl (by omega))) ?_
     refine AllG.cons (gi rfl (b_xor (c := ((flipI la (ls.take i)).getD (n_ / 8) 0)) (e := (shlB 1 (n_ % 8))) rfl rfl)) ?_
     refine AllG.cons (gi rfl (d_ix (i := (n_ / 8)) (xs := (flipI la (ls.take i))) Try.underlying36 s_ti5 rfl ((a20.step0 hO_).seq (X := No) (fun _ _ h => h)) (show _ = Value.int _ ((n_ / 8 : Nat) : Int) from rfl) (by have := flipI_length la (ls.take i); first | omega | (simp; done) | (simp; omega)))) ?_
     exact AllG.nil
    intro w26 o27 a28
    replace h1 := h1.gr o27 (fun k e => (.inl e)) (xx_re Fr.same xx_id)
    replace h2 := h2.gr o27 (fun k e => (.inl e)) (xx_re Fr.same xx_id)
    have tq := oW.size
    replace oW := oW.tailr o27 q_oW_o (fun _ e => by cases e)
    replace q_oW_o := qtr Fr.same q_oW_o tq
    clear tq
    have tq := o23.size
    replace o23 := o23.tailr o27 q_o23_o (fun k e => (.inl e))
    replace q_o23_o := qtr Fr.same q_o23_o tq
    clear tq
    refine inb_n (then_n ?_)
    refine plain ?_
    refine wI (d_move rfl) ?_
    refine wI (n_add (a := i) (b := 1) rfl rfl (by omega)) ?_
    refine wI (d_assign rfl) ?_
    refine wF ([u1, u2, undef, undef, (Value.slice none 0 0), u17, (eN (i + 1)), (sli b11 0 0 0), u1, u17, (zf25 10), (zf25 11), (zf25 12), (zf25 13), (eN i), (eN (i + 1))] ++ (zs zf25 16 14 ++ [(Value.bool (decide ((n_ / 8) < la.length))), u17, u2, (eN i), (ixp u2 i), (eN n_), (eN (n_ / 8)), u17, u2, (eN i), (ixp u2 i), (eN n_), (eN (n_ / 8)), (ixp u17 (n_ / 8)), (eB ((flipI la (ls.take i)).getD (n_ / 8) 0)), u2, (eN i), (ixp u2 i), (eN n_), (eN (n_ % 8)), (Value.int .u64 ((n_ % 8 : Nat) : Int)), (eB (shlB 1 (n_ % 8))), (eB (((flipI la (ls.take i)).getD (n_ / 8) 0) ^^^ (shlB 1 (n_ % 8)))), (ixp u17 (n_ / 8)), undef])) ?_
    refine wpL.done ?_
    refine then_n ?_
    refine ⟨_, (i + 1), rfl, rfl, ⟨?_, ?_, ?_⟩, ?_⟩
    ·
     (try dsimp only)
     all_goals (omega)
    ·
     exact o23
    ·
     (try dsimp only)
     all_goals (rw [← flipI_next la c0]; rw [← flI_yes hn_ (by omega)]; exact a28)
    ·
     (try dsimp only)
     all_goals (omega)
   refine wpIn_skip ?_
   refine inb_n (then_n ?_)
   refine plain ?_
   refine wI (d_move rfl) ?_
   refine wI (n_add (a := i) (b := 1) rfl rfl (by omega)) ?_
   refine wI (d_assign rfl) ?_
   refine wF ([u1, u2, undef, undef, (Value.slice none 0 0), u17, (eN (i + 1)), (sli b11 0 0 0), u1, u17, (zf25 10), (zf25 11), (zf25 12), (zf25 13), (eN i), (eN (i + 1))] ++ (zs zf25 16 14 ++ [(Value.bool (decide ((n_ / 8) < la.length)))] ++ (zs z 31 23 ++ [undef]))) ?_
   refine wpL.done ?_
   refine then_n ?_
   refine ⟨_, (i + 1), rfl, rfl, ⟨?_, ?_, ?_⟩, ?_⟩
   ·
    (try dsimp only)
    all_goals (omega)
   ·
    exact o23
   ·
    (try dsimp only)
    all_goals (rw [← flipI_next la c0, flI_no (fun h_ => absurd h_.2 (by omega))]; exact a20)
   ·
    (try dsimp only)
    all_goals (omega)
  refine plain ?_
  refine wI (d_move rfl) ?_
  refine wI (d_move rfl) ?_
  refine wI (d_ix (i := i) (xs := ls) Try.underlying37 s_ti3 rfl h2 (show _ = Value.int _ ((i : Nat) : Int) from rfl) (by first | omega | (simp; done) | (simp; omega))) ?_
  refine wF ([u1, u2, undef, undef, (Value.slice none 0 0), u17, (eN i), (sli b11 0 0 0), u1, u17, (eN i), u2, (eN ls.length), (Value.bool (decide (i < ls.length))), (z 14), (z 15), u2, (eN i), (ixp u2 i)] ++ (zs z 19 35 ++ [undef])) ?_
  refine wI (d_ldx (i := i) (xs := ls) (enc := eI) (v := (ls.getD i 0)) ⟨_, Try.underlying3, rfl⟩ rfl h2 (g_at (by first | omega | (simp; done) | (simp; omega)))) ?_
  refine wI (d_geq (k := .i64) (m := (ls.getD i 0)) (n := 0) rfl rfl (decide_eq_false k0)) ?_
  refine wI (d_move rfl) ?_
  refine wF ([u1, u2, undef, undef, (Value.slice none 0 0), u17, (eN i), (sli b11 0 0 0), u1, u17, (eN i), u2, (eN ls.length), (Value.bool (decide (i < ls.length))), (z 14), (z 15), u2, (eN i), (ixp u2 i), (eI (ls.getD i 0)), (Value.bool false), (Value.bool false)] ++ (zs z 22 32 ++ [undef])) ?_
  refine wpL.off rfl rfl rfl (nb rfl) rfl ?_
  refine wpL.off rfl rfl rfl (nb rfl) rfl ?_
  refine wF ([u1, u2, undef, undef, (Value.slice none 0 0), u17, (eN i), (sli b11 0 0 0), u1, u17, (eN i), u2, (eN ls.length), (Value.bool (decide (i < ls.length))), (z 14), (z 15), u2, (eN i), (ixp u2 i), (eI (ls.getD i 0)), (Value.bool false), (Value.bool false), undef, undef] ++ (zs z 24 30 ++ [undef])) ?_
  refine wpL.off rfl rfl rfl (nb rfl) rfl ?_
  refine wpL.off rfl rfl rfl (nb rfl) rfl ?_
  refine wpL.off rfl rfl rfl (nb rfl) rfl ?_
  refine wF ([u1, u2, undef, undef, (Value.slice none 0 0), u17, (eN i), (sli b11 0 0 0), u1, u17, (eN i), u2, (eN ls.length), (Value.bool (decide (i < ls.length))), (z 14), (z 15), u2, (eN i), (ixp u2 i), (eI (ls.getD i 0)), (Value.bool false), (Value.bool false)] ++ (us 5 ++ (zs z 27 27 ++ [undef]))) ?_
  refine wpL.off rfl rfl rfl (nb rfl) rfl ?_
  refine wpL.off rfl rfl rfl (nb rfl) rfl ?_
  refine wpL.off rfl rfl rfl (nb rfl) rfl ?_
  refine wI (d_pick (b := false) (v := (Value.bool false)) rfl rfl) ?_
  refine wF ([u1, u2, undef, undef, (Value.slice none 0 0), u17, (eN i), (sli b11 0 0 0), u1, u17, (eN i), u2, (eN ls.length), (Value.bool (decide (i < ls.length))), (z 14), (z 15), u2, (eN i), (ixp u2 i), (eI (ls.getD i 0)), (Value.bool false), (Value.bool false)] ++ (us 8 ++ [(Value.bool false)] ++ (zs z 31 23 ++ [undef]))) ?_
  refine wpL.done ?_
  refine then_n ?_
  refine forget (fun zf29 => ([u1, u2, undef, undef, (Value.slice none 0 0), u17, (eN i), (sli b11 0 0 0), u1, u17] ++ (zs zf29 10 20 ++ [(Value.bool false)] ++ (zs z 31 23 ++ [undef])))) (by kernel_rfl) (fun zf29 => ?_)
  refine cond_f rfl ?_
  refine wpIn_skip ?_
  refine inb_n (then_n ?_)
  refine plain ?_
  refine wI (d_move rfl) ?_
  refine wI (n_add (a := i) (b := 1) rfl rfl (by omega)) ?_
  refine wI (d_assign rfl) ?_
  refine wF ([u1, u2, undef, undef, (Value.slice none 0 0), u17, (eN (i + 1)), (sli b11 0 0 0), u1, u17, (zf29 10), (zf29 11), (zf29 12), (zf29 13), (eN i), (eN (i + 1))] ++ (zs zf29 16 14 ++ [(Value.bool false)] ++ (zs z 31 23 ++ [undef]))) ?_
  refine wpL.done ?_
  refine then_n ?_
  refine ⟨_, (i + 1), rfl, rfl, ⟨?_, ?_, ?_⟩, ?_⟩
  ·
   (try dsimp only)
   all_goals (omega)
  ·
   exact o23
  ·
   (try dsimp only)
   all_goals (rw [← flipI_next la c0, flI_no (fun h_ => k0 h_.1)]; exact a20)
  ·
   (try dsimp only)
   all_goals (omega)
 refine wpIn_exit ?_
 refine then_x (then_x (inb_e ?_))
 refine then_n ?_
 refine forget (fun zf30 => (zs zf30 0 5 ++ [u17, (eN i)] ++ (zs zf30 7 48))) (by kernel_rfl) (fun zf30 => ?_)
 refine wpIn_seq ?_
 refine plain ?_
 refine wI (d_move rfl) ?_
 refine wI (d_assign rfl) ?_
 refine wF ([(zf30 0), (zf30 1), (zf30 2), (zf30 3), u17, u17, (eN i)] ++ (zs zf30 7 47 ++ [u17])) ?_
 refine wpL.done ?_
 refine then_n ?_
 refine wpIn_ret ?_
 refine leave0 (v := u17) (res1 Try.results22 rfl) ?_
 exact ROw.mk_ a20 (by rw [show i = ls.length by omega, List.take_length]) q_oW_o oW

end Go.Proofs.YtpamdlnobekihaaF
