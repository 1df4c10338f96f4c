import Derived.Test.YtgalehapmdabeaaFz
import Derived.Test.YtgalehapmdabeaaTy
import Derived.Test.YtgalehapmdabeaaHpage
import Derived.Test.YtgalehapmdabeaaMv
set_option linter.unusedVariables false
set_option linter.unusedSimpArgs false
namespace Go.Proofs.YtgalehapmdabeaaF
open Go Go.Shelf Go.Proofs.YtgalehapmdabeaaS Ram
set_option maxRecDepth 20000 in
set_option maxHeartbeats 1000000 in
theorem l8within_ok (a : Int) (m : Nat) (W : World) (hm : 0 < m) (hm2 : m ≤ 1000000) :
    CW Try.prog 25 #[(eI a), (eN m)] W (Rt (RIs (eN (a % (m : Int)).toNat) W)) := by
 have oW : Only No W W := Only.refl _ _
 refine enter (al := [(eI a), (eN m)]) (k := 13) (l := ([(eI a), (eN m)] ++ (us 13))) Try.func25 rfl Try.ntmps25 rfl rfl ?_
 refine wpIn_seq ?_
 refine plain ?_
 refine wI (d_assign rfl) ?_
 refine wF ([(eI a), (eN m), undef, undef, (eN 0)] ++ (us 10)) ?_
 refine wpL.done ?_
 refine then_n ?_
 refine wpIn_seq ?_
 refine plain ?_
 refine wI (d_move rfl) ?_
 refine wI (d_move rfl) ?_
 refine wI (d_rem (k := .i64) (m := a) (n := ((m : Nat) : Int)) rfl rfl (by omega) (r := Int.tmod a (m : Int)) rfl) ?_
 refine wF ([(eI a), (eN m), undef, undef, (eN 0), undef, (eI a), (eN m), (eI (Int.tmod a (m : Int)))] ++ (us 6)) ?_
 refine wI (d_assign rfl) ?_
 refine wF ([(eI a), (eN m), undef, undef, (eN 0), (eI (Int.tmod a (m : Int))), (eI a), (eN m), (eI (Int.tmod a (m : Int)))] ++ (us 6)) ?_
 refine wpL.done ?_
 refine then_n ?_
 refine wpIn_seq ?_
 refine wpIn_seq ?_
 refine plain ?_
 refine wI (d_move rfl) ?_
 refine wI (d_lss (k := .i64) (m := Int.tmod a (m : Int)) (n := 0) rfl rfl rfl) ?_
 refine wF [(eI a), (eN m), undef, undef, (eN 0), (eI (Int.tmod a (m : Int))), (eI a), (eN m), (eI (Int.tmod a (m : Int))), (eI (Int.tmod a (m : Int))), (Value.bool (decide (Int.tmod a (m : Int) < 0))), undef, undef, undef, undef] ?_
 refine wpL.done ?_
 refine then_n ?_
 refine cond_if rfl (fun k1 => ?_) (fun k1 => ?_)
 ·
  refine plain ?_
  refine wI (d_move rfl) ?_
  refine wI (d_move rfl) ?_
  refine wI (d_add (k := .i64) (m := Int.tmod a (m : Int)) (n := ((m : Nat) : Int)) rfl rfl (r := (((a % (m : Int)).toNat : Nat) : Int)) (tmm_neg hm hm2 k1)) ?_
  refine wF [(eI a), (eN m), undef, undef, (eN 0), (eI (Int.tmod a (m : Int))), (eI a), (eN m), (eI (Int.tmod a (m : Int))), (eI (Int.tmod a (m : Int))), (Value.bool (decide (Int.tmod a (m : Int) < 0))), (eI (Int.tmod a (m : Int))), (eN m), (eN ((a % (m : Int)).toNat)), undef] ?_
  refine wI (d_assign rfl) ?_
  refine wF [(eI a), (eN m), undef, undef, (eN 0), (eN ((a % (m : Int)).toNat)), (eI a), (eN m), (eI (Int.tmod a (m : Int))), (eI (Int.tmod a (m : Int))), (Value.bool (decide (Int.tmod a (m : Int) < 0))), (eI (Int.tmod a (m : Int))), (eN m), (eN ((a % (m : Int)).toNat)), undef] ?_
  refine wpL.done ?_
  refine then_n ?_
  refine wpIn_seq ?_
  refine plain ?_
  refine wI (d_move rfl) ?_
  refine wI (d_assign rfl) ?_
  refine wF [(eI a), (eN m), undef, undef, (eN ((a % (m : Int)).toNat)), (eN ((a % (m : Int)).toNat)), (eI a), (eN m), (eI (Int.tmod a (m : Int))), (eI (Int.tmod a (m : Int))), (Value.bool (decide (Int.tmod a (m : Int) < 0))), (eI (Int.tmod a (m : Int))), (eN m), (eN ((a % (m : Int)).toNat)), (eN ((a % (m : Int)).toNat))] ?_
  refine wpL.done ?_
  refine then_n ?_
  refine wpIn_ret ?_
  refine leave0 (v := (eN ((a % (m : Int)).toNat))) (res1 Try.results25 rfl) ?_
  exact ⟨rfl, oW⟩
 refine wp_eq (l' := [(eI a), (eN m), undef, undef, (eN 0), (eN ((a % (m : Int)).toNat)), (eI a), (eN m), (eN ((a % (m : Int)).toNat)), (eN ((a % (m : Int)).toNat)), (Value.bool (decide (Int.tmod a (m : Int) < 0))), undef, undef, undef, undef]) (Eq.trans (Eq.trans (show ([(eI a), (eN m), undef, undef, (eN 0), (eI (Int.tmod a (m : Int))), (eI a), (eN m), (eI (Int.tmod a (m : Int))), (eI (Int.tmod a (m : Int))), (Value.bool (decide (Int.tmod a (m : Int) < 0))), undef, undef, undef, undef] : List Value) = [(eI a), (eN m), undef, undef, (eN 0), (eN ((a % (m : Int)).toNat)), (eI a), (eN m), (eI (Int.tmod a (m : Int))), (eI (Int.tmod a (m : Int))), (Value.bool (decide (Int.tmod a (m : Int) < 0))), undef, undef, undef, undef] from reslot [(eI a), (eN m), undef, undef, (eN 0), (eI (Int.tmod a (m : Int))), (eI a), (eN m), (eI (Int.tmod a (m : Int))), (eI (Int.tmod a (m : Int))), (Value.bool (decide (Int.tmod a (m : Int) < 0))), undef, undef, undef, undef] 5 (tmm_pos hm k1)) (show ([(eI a), (eN m), undef, undef, (eN 0), (eN ((a % (m : Int)).toNat)), (eI a), (eN m), (eI (Int.tmod a (m : Int))), (eI (Int.tmod a (m : Int))), (Value.bool (decide (Int.tmod a (m : Int) < 0))), undef, undef, undef, undef] : List Value) = [(eI a), (eN m), undef, undef, (eN 0), (eN ((a % (m : Int)).toNat)), (eI a), (eN m), (eN ((a % (m : Int)).toNat)), (eI (Int.tmod a (m : Int))), (Value.bool (decide (Int.tmod a (m : Int) < 0))), undef, undef, undef, undef] from reslot [(eI a), (eN m), undef, undef, (eN 0), (eN ((a % (m : Int)).toNat)), (eI a), (eN m), (eI (Int.tmod a (m : Int))), (eI (Int.tmod a (m : Int))), (Value.bool (decide (Int.tmod a (m : Int) < 0))), undef, undef, undef, undef] 8 (tmm_pos hm k1))) (show ([(eI a), (eN m), undef, undef, (eN 0), (eN ((a % (m : Int)).toNat)), (eI a), (eN m), (eN ((a % (m : Int)).toNat)), (eI (Int.tmod a (m : Int))), (Value.bool (decide (Int.tmod a (m : Int) < 0))), undef, undef, undef, undef] : List Value) = [(eI a), (eN m), undef, undef, (eN 0), (eN ((a % (m : Int)).toNat)), (eI a), (eN m), (eN ((a % (m : Int)).toNat)), (eN ((a % (m : Int)).toNat)), (Value.bool (decide (Int.tmod a (m : Int) < 0))), undef, undef, undef, undef] from reslot [(eI a), (eN m), undef, undef, (eN 0), (eN ((a % (m : Int)).toNat)), (eI a), (eN m), (eN ((a % (m : Int)).toNat)), (eI (Int.tmod a (m : Int))), (Value.bool (decide (Int.tmod a (m : Int) < 0))), undef, undef, undef, undef] 9 (tmm_pos hm k1))) ?_
 refine wpIn_skip ?_
 refine then_n ?_
 refine wpIn_seq ?_
 refine plain ?_
 refine wI (d_move rfl) ?_
 refine wI (d_assign rfl) ?_
 refine wF [(eI a), (eN m), undef, undef, (eN ((a % (m : Int)).toNat)), (eN ((a % (m : Int)).toNat)), (eI a), (eN m), (eN ((a % (m : Int)).toNat)), (eN ((a % (m : Int)).toNat)), (Value.bool (decide (Int.tmod a (m : Int) < 0))), undef, undef, undef, (eN ((a % (m : Int)).toNat))] ?_
 refine wpL.done ?_
 refine then_n ?_
 refine wpIn_ret ?_
 refine leave0 (v := (eN ((a % (m : Int)).toNat))) (res1 Try.results25 rfl) ?_
 exact ⟨rfl, oW⟩

set_option maxRecDepth 20000 in
set_option maxHeartbeats 1000000 in
theorem l8known_ok (W : World) :
    CW Try.prog 14 #[] W (Rt (RIs (.bool true) W)) := by
 have oW : Only No W W := Only.refl _ _
 refine enter (al := []) (k := 27) (l := (us 27)) Try.func14 rfl Try.ntmps14 rfl rfl ?_
 refine wpIn_seq ?_
 refine plain ?_
 refine wI (d_assign rfl) ?_
 refine wF ([(Value.bool false)] ++ (us 26)) ?_
 refine wpL.done ?_
 refine then_n ?_
 refine wpIn_seq ?_
 refine plain ?_
 refine wO (d_make1 (n := 60) Try.underlying22 s_ti5 rfl rfl (by omega) (by omega) rfl) ?_
 rintro _ w11 ⟨b, rfl, g12, a13, o14⟩
 replace a13 : Arr 5 b ((List.replicate 60 0).map eB) w11 := by rw [List.map_replicate]; exact a13
 have l_b : (List.replicate 60 0 : List UInt8).length = 60 := by simp
 have g_oW_b : W.heap.size ≤ b := Nat.le_trans oW.size g12
 replace oW := oW.tail0 o14
 refine wI (d_assign rfl) ?_
 refine wF ([(Value.bool false), (sli b 0 60 60), undef, (sli b 0 60 60)] ++ (us 23)) ?_
 refine wpL.done ?_
 refine then_n ?_
 refine wpIn_seq ?_
 refine wpIn_seq ?_
 refine plain ?_
 refine wI (d_assign rfl) ?_
 refine wF ([(Value.bool false), (sli b 0 60 60), (eN 0), (sli b 0 60 60)] ++ (us 23)) ?_
 refine wpL.done ?_
 refine then_n ?_
 refine wpIn_block ?_
 refine loop2 (fun (i : (Nat)) => fun (z : Nat → Value) => (([(Value.bool false), (sli b 0 60 60), (eN i), (sli b 0 60 60)] ++ (zs z 4 7 ++ (us 16))) : List Value)) (fun (i : (Nat)) => fun (w_ : World) => (i ≤ 60) ∧ Only (Or1 b No) w11 w_ ∧ (ffTo 60 i).length = 60 ∧ Arr 5 b ((ffTo 60 i).map eB) w_) (fun (i : (Nat)) => 60 - i) 0 rfl ?_ ?_
 ·
  refine ⟨?_, ?_, ?_, ?_⟩
  ·
   (try dsimp only)
   all_goals (omega)
  ·
   exact Only.refl _ _
  ·
   exact ffTo_length 60 0
  ·
   (try dsimp only)
   all_goals (rw [← ffTo_zero]; exact a13)
 rintro i z w16 ⟨hi, o15, l_b, a13⟩
 (try dsimp only)
 replace oW := oW.tail o15 (tl_new g_oW_b tl_no)
 refine wpIn_seq ?_
 refine wpIn_seq ?_
 refine plain ?_
 refine wI (d_move rfl) ?_
 refine wI (n_lss (a := i) (b := 60) rfl rfl rfl) ?_
 refine wF ([(Value.bool false), (sli b 0 60 60), (eN i), (sli b 0 60 60), (eN i), (Value.bool (decide (i < 60)))] ++ (zs z 6 5 ++ (us 16))) ?_
 refine wpL.done ?_
 refine then_n ?_
 refine cond_if rfl (fun c17 => ?_) (fun c17 => ?_)
 ·
  refine wpIn_skip ?_
  refine then_n ?_
  refine wpIn_seq ?_
  refine wpIn_block ?_
  refine plain ?_
  refine wI (d_move rfl) ?_
  refine wI (d_move rfl) ?_
  refine wI (d_index1 (n := 60) (i := i) Try.underlying22 s_ti5 rfl (show _ = Value.int _ ((i : Nat) : Int) from rfl) (by omega)) ?_
  refine wF ([(Value.bool false), (sli b 0 60 60), (eN i), (sli b 0 60 60), (eN i), (Value.bool (decide (i < 60))), (z 6), (z 7), (sli b 0 60 60), (eN i), (ptr b i)] ++ (us 16)) ?_
  refine wO (d_store (b := b) (i := i) (v := (eB 255)) s_ti5 rfl rfl rfl a13 (by rw [List.length_map, l_b]; omega) (m_put (ffTo 60 i) i 255 eB)) ?_
  rintro _ w18 ⟨a19, o20⟩
  replace oW := oW.tailb o20 g_oW_b
  replace o15 := o15.tail o20 (fun k _ e => by have : k = b := e; rw [this]; exact in1)
  replace l_b : ((ffTo 60 i).set i 255 : List UInt8).length = 60 := (List.length_set ..).trans l_b
  refine wF ([(Value.bool false), (sli b 0 60 60), (eN i), (sli b 0 60 60), (eN i), (Value.bool (decide (i < 60))), (z 6), (z 7), (sli b 0 60 60), (eN i), (ptr b i)] ++ (us 16)) ?_
  refine wpL.done ?_
  refine inb_n (then_n ?_)
  refine plain ?_
  refine wI (d_move rfl) ?_
  refine wI (n_add (a := i) (b := 1) rfl rfl (by omega)) ?_
  refine wI (d_assign rfl) ?_
  refine wF ([(Value.bool false), (sli b 0 60 60), (eN (i + 1)), (sli b 0 60 60), (eN i), (Value.bool (decide (i < 60))), (eN i), (eN (i + 1)), (sli b 0 60 60), (eN i), (ptr b i)] ++ (us 16)) ?_
  refine wpL.done ?_
  refine then_n ?_
  refine ⟨_, (i + 1), rfl, rfl, ⟨?_, ?_, ?_, ?_⟩, ?_⟩
  ·
   (try dsimp only)
   all_goals (omega)
  ·
   exact o15
  ·
   exact ffTo_length _ _
  ·
   (try dsimp only)
   all_goals (rw [ffTo_step] at a19; exact a19)
  ·
   (try dsimp only)
   all_goals (omega)
 refine wpIn_exit ?_
 refine then_x (then_x (inb_e ?_))
 refine then_n ?_
 refine wpIn_seq ?_
 replace a13 : Arr 5 b ((List.replicate 60 255).map eB) w16 := by rw [← (ffTo_done (n := 60) (i := i) (by omega))]; exact a13
 replace l_b : ((List.replicate 60 255) : List UInt8).length = 60 := (by simp)
 refine plain ?_
 refine wI (d_move rfl) ?_
 refine wO (d_call (xl := [.tmp 11]) (al := [(sli b 0 60 60)]) Try.func21 (by kernel_rfl) rfl rfl rfl (pageDecode_ok (List.replicate 60 255) (sli b 0 60 60) _ (Ps.no (arr_seq a13 l_b (Nat.le_refl _))) (by have := rep_len 60 255; first | omega | (simp; done) | (simp; omega)))) ?_
 rintro _ w21 ⟨u23, rfl, f24, o22⟩
 replace f24 := f24.less (Y := (Or1 b (Old W.heap.size))) (or1_old a13.lt (old_old oW.size))
 replace a13 := a13.step0 o22
 replace oW := oW.tail0 o22
 replace o15 := o15.tail0 o22
 refine wI (d_field (v := (eN ((pgD (List.replicate 60 255)).1))) Try.underlying32 rfl ⟨_, Try.underlying3, rfl⟩ rfl rfl) ?_
 refine wF ([(Value.bool false), (sli b 0 60 60), (eN i), (sli b 0 60 60), (eN i), (Value.bool (decide (i < 60)))] ++ (zs z 6 5 ++ [(sli b 0 60 60), (Value.agg #[(eN ((pgD (List.replicate 60 255)).1)), u23]), (eN ((pgD (List.replicate 60 255)).1))] ++ (us 13))) ?_
 refine wI (n_eql (a := ((pgD (List.replicate 60 255)).1)) (b := 0) rfl rfl (decide_eq_true (by rw [page_ones]))) ?_
 refine wI (d_move rfl) ?_
 refine wpL.on rfl rfl rfl (nb rfl) rfl (d_make1 (n := 60) Try.underlying22 s_ti5 rfl rfl (by omega) (by omega) rfl) ?_
 rintro _ w26 ⟨b25, rfl, g27, a28, o29⟩
 replace a28 : Arr 5 b25 ((List.replicate 60 0).map eB) w26 := by rw [List.map_replicate]; exact a28
 have l_b25 : (List.replicate 60 0 : List UInt8).length = 60 := by simp
 have n_b_b25 : b ≠ b25 := a13.ne g27
 have g_oW_b25 : W.heap.size ≤ b25 := Nat.le_trans oW.size g27
 have g_o15_b25 : w11.heap.size ≤ b25 := Nat.le_trans o15.size g27
 replace f24 := f24.new o29 g27
 replace a13 := a13.step0 o29
 replace oW := oW.tail0 o29
 replace o15 := o15.tail0 o29
 refine wF ([(Value.bool false), (sli b 0 60 60), (eN i), (sli b 0 60 60), (eN i), (Value.bool (decide (i < 60)))] ++ (zs z 6 5 ++ [(sli b 0 60 60), (Value.agg #[(eN ((pgD (List.replicate 60 255)).1)), u23]), (eN ((pgD (List.replicate 60 255)).1)), (Value.bool true), (Value.bool true), (sli b25 0 60 60)] ++ (us 10))) ?_
 refine wpL.on rfl rfl rfl (nb rfl) rfl (d_call (xl := [.tmp 16]) (al := [(sli b25 0 60 60)]) Try.func21 (by kernel_rfl) rfl rfl rfl (pageDecode_ok (List.replicate 60 0) (sli b25 0 60 60) _ (Ps.no (arr_seq a28 l_b25 (Nat.le_refl _))) (by have := rep_len 60 0; first | omega | (simp; done) | (simp; omega)))) ?_
 rintro _ w30 ⟨u32, rfl, f33, o31⟩
 replace f33 := f33.less (Y := (Or1 b25 (Or1 b (Old W.heap.size)))) (or1_old a28.lt (or1_old a13.lt (old_old oW.size)))
 replace f24 := f24.step0 o31
 replace a13 := a13.step0 o31
 replace a28 := a28.step0 o31
 replace oW := oW.tail0 o31
 replace o15 := o15.tail0 o31
 refine wpL.onis rfl rfl rfl (nb rfl) rfl (d_field (v := (eN ((pgD (List.replicate 60 0)).1))) Try.underlying32 rfl ⟨_, Try.underlying3, rfl⟩ rfl rfl) ?_
 refine wpL.onis rfl rfl rfl (nb rfl) rfl (n_eql (a := ((pgD (List.replicate 60 0)).1)) (b := 2) rfl rfl (decide_eq_true (by rw [page_zero]))) ?_
 refine wF ([(Value.bool false), (sli b 0 60 60), (eN i), (sli b 0 60 60), (eN i), (Value.bool (decide (i < 60)))] ++ (zs z 6 5 ++ [(sli b 0 60 60), (Value.agg #[(eN ((pgD (List.replicate 60 255)).1)), u23]), (eN ((pgD (List.replicate 60 255)).1)), (Value.bool true), (Value.bool true), (sli b25 0 60 60), (Value.agg #[(eN ((pgD (List.replicate 60 0)).1)), u32]), (eN ((pgD (List.replicate 60 0)).1)), (Value.bool true)] ++ (us 7))) ?_
 refine wI (d_pick (b := true) (v := (Value.bool true)) rfl rfl) ?_
 refine wI (d_move rfl) ?_
 refine wpL.on rfl rfl rfl (nb rfl) rfl (d_make1 (n := 48) Try.underlying22 s_ti5 rfl rfl (by omega) (by omega) rfl) ?_
 rintro _ w35 ⟨b34, rfl, g36, a37, o38⟩
 replace a37 : Arr 5 b34 ((List.replicate 48 0).map eB) w35 := by rw [List.map_replicate]; exact a37
 have l_b34 : (List.replicate 48 0 : List UInt8).length = 48 := by simp
 have n_b_b34 : b ≠ b34 := a13.ne g36
 have n_b25_b34 : b25 ≠ b34 := a28.ne g36
 have g_oW_b34 : W.heap.size ≤ b34 := Nat.le_trans oW.size g36
 have g_o15_b34 : w11.heap.size ≤ b34 := Nat.le_trans o15.size g36
 replace f24 := f24.new o38 g36
 replace f33 := f33.new o38 g36
 replace a13 := a13.step0 o38
 replace a28 := a28.step0 o38
 replace oW := oW.tail0 o38
 replace o15 := o15.tail0 o38
 refine wF ([(Value.bool false), (sli b 0 60 60), (eN i), (sli b 0 60 60), (eN i), (Value.bool (decide (i < 60)))] ++ (zs z 6 5 ++ [(sli b 0 60 60), (Value.agg #[(eN ((pgD (List.replicate 60 255)).1)), u23]), (eN ((pgD (List.replicate 60 255)).1)), (Value.bool true), (Value.bool true), (sli b25 0 60 60), (Value.agg #[(eN ((pgD (List.replicate 60 0)).1)), u32]), (eN ((pgD (List.replicate 60 0)).1)), (Value.bool true), (Value.bool true), (Value.bool true), (sli b34 0 48 48), undef, undef, undef, undef])) ?_
 refine wpL.on rfl rfl rfl (nb rfl) rfl (d_call (xl := [.tmp 22]) (al := [(sli b34 0 48 48)]) Try.func16 (by kernel_rfl) rfl rfl rfl (pageEncode_ok (List.replicate 48 0) (sli b34 0 48 48) _ (Ps.no (arr_seq a37 l_b34 (Nat.le_refl _))) (by have := rep_len 48 0; first | omega | (simp; done) | (simp; omega)))) ?_
 rintro u41 w39 f42
 replace f42 := f42.ps
 obtain ⟨f42, o40⟩ := f42
 replace f42 := f42.less (Y := (Or1 b34 (Or1 b25 (Or1 b (Old W.heap.size))))) (or1_old a37.lt (or1_old a28.lt (or1_old a13.lt (old_old oW.size))))
 replace f24 := f24.step0 o40
 replace f33 := f33.step0 o40
 replace a13 := a13.step0 o40
 replace a28 := a28.step0 o40
 replace a37 := a37.step0 o40
 replace oW := oW.tail0 o40
 replace o15 := o15.tail0 o40
 refine wpL.onis rfl rfl rfl (nb rfl) rfl (d_lenS rfl Try.underlying22 rfl f42) ?_
 refine wpL.onis rfl rfl rfl (nb rfl) rfl (n_eql (a := ((pgE (List.replicate 48 0)).length)) (b := 60) rfl rfl (decide_eq_true (pgE_length (by simp)))) ?_
 refine wF ([(Value.bool false), (sli b 0 60 60), (eN i), (sli b 0 60 60), (eN i), (Value.bool (decide (i < 60)))] ++ (zs z 6 5 ++ [(sli b 0 60 60), (Value.agg #[(eN ((pgD (List.replicate 60 255)).1)), u23]), (eN ((pgD (List.replicate 60 255)).1)), (Value.bool true), (Value.bool true), (sli b25 0 60 60), (Value.agg #[(eN ((pgD (List.replicate 60 0)).1)), u32]), (eN ((pgD (List.replicate 60 0)).1)), (Value.bool true), (Value.bool true), (Value.bool true), (sli b34 0 48 48), u41, (eN ((pgE (List.replicate 48 0)).length)), (Value.bool true), undef])) ?_
 refine wI (d_pick (b := true) (v := (Value.bool true)) rfl rfl) ?_
 refine wI (d_assign rfl) ?_
 refine wF ([(Value.bool true), (sli b 0 60 60), (eN i), (sli b 0 60 60), (eN i), (Value.bool (decide (i < 60)))] ++ (zs z 6 5 ++ [(sli b 0 60 60), (Value.agg #[(eN ((pgD (List.replicate 60 255)).1)), u23]), (eN ((pgD (List.replicate 60 255)).1)), (Value.bool true), (Value.bool true), (sli b25 0 60 60), (Value.agg #[(eN ((pgD (List.replicate 60 0)).1)), u32]), (eN ((pgD (List.replicate 60 0)).1)), (Value.bool true), (Value.bool true), (Value.bool true), (sli b34 0 48 48), u41, (eN ((pgE (List.replicate 48 0)).length)), (Value.bool true), (Value.bool true)])) ?_
 refine wpL.done ?_
 refine then_n ?_
 refine forget (fun zf43 => ([(Value.bool true), (zf43 1), (eN i)] ++ (zs zf43 3 24))) (by kernel_rfl) (fun zf43 => ?_)
 refine wpIn_ret ?_
 refine leave0 (v := (Value.bool true)) (res1 Try.results14 rfl) ?_
 exact ⟨rfl, oW⟩

set_option maxRecDepth 20000 in
set_option maxHeartbeats 2000000 in
theorem l8noise_ok (la : List Int) (m : Nat) (u1 : Value) (W : World) (h1 : Ps No (Seq kI la u1) W) (gm : m ≤ 1000) (gl : la.length ≤ 17592186043904) :
    CW Try.prog 23 #[u1, (eN m)] W (Rt (ROw 3 eN (noiseL la m) W)) := by
 have oW : Only No W W := Only.refl _ _
 refine enter (al := [u1, (eN m)]) (k := 59) (l := ([u1, (eN m)] ++ (us 59))) Try.func23 rfl Try.ntmps23 rfl rfl ?_
 refine wpIn_seq ?_
 refine plain ?_
 refine wI (d_assign rfl) ?_
 refine wF ([u1, (eN m), undef, undef, (Value.slice none 0 0)] ++ (us 56)) ?_
 refine wpL.done ?_
 refine then_n ?_
 refine wpIn_seq ?_
 refine plain ?_
 refine wI (d_assign rfl) ?_
 refine wF ([u1, (eN m), undef, undef, (Value.slice none 0 0), (Value.slice none 0 0)] ++ (us 55)) ?_
 refine wpL.done ?_
 have a11 : Ow 3 1 none (Value.slice none 0 0) ([] : List Nat).length (([] : List Nat).map eN) W := Ow.nil _ _ _
 have q_oW_out : Fr none none W.heap.size := Fr.none
 replace h1 := h1.qnone
 refine then_n ?_
 refine wpIn_seq ?_
 refine plain ?_
 refine wI (d_move rfl) ?_
 refine wI (d_move rfl) ?_
 refine wO (d_call (xl := [.tmp 12, .const (.int .i64 224), .tmp 13]) (al := [u1, (eN 224), (eN m)]) Try.func19 (by kernel_rfl) rfl rfl rfl (l4Places_ok la 224 m u1 _ (Ps.no h1) (by omega) (by omega) (by omega) (by omega))) ?_
 rintro u14 w12 f15
 replace f15 := f15.ps
 obtain ⟨f15, o13⟩ := f15
 replace f15 := f15.less (Y := (Orq none (Old W.heap.size))) (orq_old a11.lts (old_old oW.size))
 replace h1 := h1.step0 o13
 replace a11 := a11.step0 o13
 replace oW := oW.tail0 o13
 refine wF ([u1, (eN m), undef, undef, (Value.slice none 0 0), (Value.slice none 0 0)] ++ (us 6 ++ [u1, (eN m), u14] ++ (us 46))) ?_
 refine wI (d_assign rfl) ?_
 refine wF ([u1, (eN m), undef, undef, (Value.slice none 0 0), (Value.slice none 0 0), u14] ++ (us 5 ++ [u1, (eN m), u14] ++ (us 46))) ?_
 refine wpL.done ?_
 refine then_n ?_
 refine wpIn_seq ?_
 refine plain ?_
 refine wI (d_assign rfl) ?_
 refine wF ([u1, (eN m), undef, undef, (Value.slice none 0 0), (Value.slice none 0 0), u14, (Value.slice none 0 0), undef, undef, undef, undef, u1, (eN m), u14] ++ (us 46)) ?_
 refine wpL.done ?_
 have a16 : Ow 3 1 none (Value.slice none 0 0) ([] : List Int).length (([] : List Int).map eI) w12 := Ow.nil _ _ _
 have nqq_out_half : ∀ x, none = some x → (none : Option Nat) = some x → False := fun _ _ e => by cases e
 have q_oW_half : Fr none none W.heap.size := Fr.none
 replace h1 := h1.qnone
 replace f15 := f15.qnone
 refine then_n ?_
 refine wpIn_seq ?_
 refine wpIn_seq ?_
 refine plain ?_
 refine wI (d_assign rfl) ?_
 refine wF ([u1, (eN m), undef, undef, (Value.slice none 0 0), (Value.slice none 0 0), u14, (Value.slice none 0 0), (eN 0), undef, undef, undef, u1, (eN m), u14] ++ (us 46)) ?_
 refine wpL.done ?_
 refine then_n ?_
 refine wpIn_block ?_
 have h_lts_out := a11.lts
 have h_lts_half := a16.lts
 refine loop2 (fun (s_ : (Nat) × (Option Nat) × (Value)) => match s_ with | ⟨i, bo_half, u_half⟩ => fun (z : Nat → Value) => (([u1, (eN m), undef, undef, (Value.slice none 0 0), (Value.slice none 0 0), u14, u_half, (eN i), undef, undef, undef, u1, (eN m), u14] ++ (zs z 15 14 ++ (us 32))) : List Value)) (fun (s_ : (Nat) × (Option Nat) × (Value)) => match s_ with | ⟨i, bo_half, u_half⟩ => fun (w_ : World) => (i ≤ la.length) ∧ Only (Orq none (Orq none No)) w12 w_ ∧ Ow 3 1 none (Value.slice none 0 0) (([] : List Nat)).length ((([] : List Nat)).map eN) w_ ∧ Ow 3 1 bo_half u_half (hfL (la.take i)).length ((hfL (la.take i)).map eI) w_ ∧ Fr bo_half none w12.heap.size) (fun (s_ : (Nat) × (Option Nat) × (Value)) => match s_ with | ⟨i, bo_half, u_half⟩ => la.length - i) ⟨0, none, (Value.slice none 0 0)⟩ rfl ?_ ?_
 ·
  refine ⟨?_, ?_, ?_, ?_, ?_⟩
  ·
   exact Nat.zero_le _
  ·
   exact Only.refl _ _
  ·
   exact a11
  ·
   exact a16
  ·
   exact Fr.same
 rintro ⟨i, bo_half, u_half⟩ z w18 ⟨hi, o17, a11, a16, qq_half⟩
 (try dsimp only)
 replace h1 := h1.re o17 (orq_mono (orq_mono no_any)) (xx_re qq_half (xx_orq xx_id))
 replace f15 := f15.re o17 (orq_mono (orq_mono no_any)) (xx_re qq_half (xx_orq xx_id))
 have tq_oW := oW.size
 replace oW := oW.tail o17 (tl_q q_oW_half (fun _ e => by cases e) (tl_q q_oW_out (fun _ e => by cases e) tl_no))
 replace q_oW_half := qtr qq_half q_oW_half tq_oW
 replace nqq_out_half := nqq_step nqq_out_half qq_half h_lts_out
 have q_o17_out : Fr none none w12.heap.size := Fr.same
 have q_o17_half := qq_half
 refine wpIn_seq ?_
 refine wpIn_seq ?_
 refine plain ?_
 refine wI (d_move rfl) ?_
 refine wI (d_move rfl) ?_
 refine wI (d_lenS rfl Try.underlying23 rfl h1) ?_
 refine wF ([u1, (eN m), undef, undef, (Value.slice none 0 0), (Value.slice none 0 0), u14, u_half, (eN i), undef, undef, undef, u1, (eN m), u14, (eN i), u1, (eN la.length)] ++ (zs z 18 11 ++ (us 32))) ?_
 refine wI (n_lss (a := i) (b := la.length) rfl rfl rfl) ?_
 refine wF ([u1, (eN m), undef, undef, (Value.slice none 0 0), (Value.slice none 0 0), u14, u_half, (eN i), undef, undef, undef, u1, (eN m), u14, (eN i), u1, (eN la.length), (Value.bool (decide (i < la.length)))] ++ (zs z 19 10 ++ (us 32))) ?_
 refine wpL.done ?_
 refine then_n ?_
 refine cond_if rfl (fun c1 => ?_) (fun c1 => ?_)
 ·
  refine wpIn_skip ?_
  refine then_n ?_
  refine wpIn_seq ?_
  refine wpIn_block ?_
  refine plain ?_
  refine wI (d_move rfl) ?_
  refine wI (d_move rfl) ?_
  refine wI (d_move rfl) ?_
  refine wF ([u1, (eN m), undef, undef, (Value.slice none 0 0), (Value.slice none 0 0), u14, u_half, (eN i), undef, undef, undef, u1, (eN m), u14, (eN i), u1, (eN la.length), (Value.bool (decide (i < la.length))), (z 19), (z 20), u_half, u1, (eN i)] ++ (zs z 24 5 ++ (us 32))) ?_
  refine wI (d_ix (i := i) (xs := la) Try.underlying23 s_ti3 rfl h1 (show _ = Value.int _ ((i : Nat) : Int) from rfl) (by first | omega | (simp; done) | (simp; omega))) ?_
  refine wI (d_ldx (i := i) (xs := la) (enc := eI) (v := (la.getD i 0)) ⟨_, Try.underlying3, rfl⟩ rfl h1 (g_at (by first | omega | (simp; done) | (simp; omega)))) ?_
  refine wI (d_quo (k := .i64) (m := (la.getD i 0)) (n := 224) rfl rfl (by decide) rfl) ?_
  refine wF ([u1, (eN m), undef, undef, (Value.slice none 0 0), (Value.slice none 0 0), u14, u_half, (eN i), undef, undef, undef, u1, (eN m), u14, (eN i), u1, (eN la.length), (Value.bool (decide (i < la.length))), (z 19), (z 20), u_half, u1, (eN i), (ixp u1 i), (eI (la.getD i 0)), (eI (IntKind.i64.wrap (Int.tdiv (la.getD i 0) 224))), (z 27), (z 28)] ++ (us 32)) ?_
  refine wO (d_buildL (cs := [(eI (IntKind.i64.wrap (Int.tdiv (la.getD i 0) 224)))]) Try.underlying23 s_ti3 rfl (nb rfl) (parts_cons (vs := [(eI (IntKind.i64.wrap (Int.tdiv (la.getD i 0) 224)))]) (cells_of (v := (eI (IntKind.i64.wrap (Int.tdiv (la.getD i 0) 224)))) rfl rfl) parts_nil) rfl) ?_
  rintro _ w20 ⟨b19, rfl, g21, a22, o23⟩
  replace a22 : Arr 3 b19 (([IntKind.i64.wrap (Int.tdiv (la.getD i 0) 224)] : List Int).map eI) w20 := a22
  have l_b19 : ([IntKind.i64.wrap (Int.tdiv (la.getD i 0) 224)] : List Int).length = 1 := rfl
  have nq_out_b19 : ∀ x, none = some x → ¬ x = b19 := fun x hx e => by have := a11.lts x hx; omega
  have nq_half_b19 : ∀ x, bo_half = some x → ¬ x = b19 := fun x hx e => by have := a16.lts x hx; omega
  have g_oW_b19 : W.heap.size ≤ b19 := Nat.le_trans oW.size g21
  have g_o17_b19 : w12.heap.size ≤ b19 := Nat.le_trans o17.size g21
  replace h1 := h1.new o23 g21
  replace f15 := f15.new o23 g21
  replace a11 := a11.step0 o23
  replace a16 := a16.step0 o23
  replace oW := oW.tail0 o23
  replace o17 := o17.tail0 o23
  refine wO (d_append Try.underlying23 Try.underlying23 s_ti3 rfl rfl rfl a16 (SrcV.of_seq (arr_seq a22 l_b19 (Nat.le_refl _)) (fun _ => rfl)) (by simp only [hfL_length, List.length_take, List.length_singleton]; omega) (by simp only [hfL_length, List.length_take, List.length_singleton]; omega) rfl) ?_
  rintro u24 w25 ⟨bo26, a27, o28, q29⟩
  replace a27 : Ow 3 1 bo26 u24 ((hfL (la.take i)) ++ ([IntKind.i64.wrap (Int.tdiv (la.getD i 0) 224)] : List Int)).length (((hfL (la.take i)) ++ ([IntKind.i64.wrap (Int.tdiv (la.getD i 0) 224)] : List Int)).map eI) w25 := by rw [List.length_append, List.map_append]; exact a27
  replace h1 := h1.gr o28 (fun k e => (.inr (.inl e))) (xx_or1 (xx_re (Fr.of_or q29) (xx_orq xx_id)))
  replace f15 := f15.gr o28 (fun k e => (.inr (.inl e))) (xx_or1 (xx_re (Fr.of_or q29) (xx_orq xx_id)))
  have nq2 := nqs nq_half_b19 (Fr.of_or q29) a22.lt
  replace a22 := a22.step o28 (fun e => nq_half_b19 _ e rfl)
  replace nq_half_b19 := nq2
  clear nq2
  have lt2 := a11.lts
  replace a11 := a11.step o28 (fun x hx e => nqq_out_half x hx e)
  replace nqq_out_half := nqq_step nqq_out_half (Fr.of_or q29) lt2
  clear lt2
  have tq := oW.size
  replace oW := oW.tailr o28 q_oW_half (fun _ e => by cases e)
  replace q_oW_half := qtr (Fr.of_or q29) q_oW_half tq
  clear tq
  have tq := o17.size
  replace o17 := o17.tailr o28 q_o17_half (fun k e => (.inl e))
  replace q_o17_half := qtr (Fr.of_or q29) q_o17_half tq
  clear tq
  refine wI (d_assign rfl) ?_
  refine wF ([u1, (eN m), undef, undef, (Value.slice none 0 0), (Value.slice none 0 0), u14, u24, (eN i), undef, undef, undef, u1, (eN m), u14, (eN i), u1, (eN la.length), (Value.bool (decide (i < la.length))), (z 19), (z 20), u_half, u1, (eN i), (ixp u1 i), (eI (la.getD i 0)), (eI (IntKind.i64.wrap (Int.tdiv (la.getD i 0) 224))), (sli b19 0 1 1), u24] ++ (us 32)) ?_
  refine wpL.done ?_
  refine inb_n (then_n ?_)
  refine forget (fun zf30 => ([u1, (eN m), undef, undef, (Value.slice none 0 0), (Value.slice none 0 0), u14, u24, (eN i), undef, undef, undef, u1, (eN m), u14] ++ (zs zf30 15 14 ++ (us 32)))) (by kernel_rfl) (fun zf30 => ?_)
  refine plain ?_
  refine wI (d_move rfl) ?_
  refine wI (n_add (a := i) (b := 1) rfl rfl (by omega)) ?_
  refine wI (d_assign rfl) ?_
  refine wF ([u1, (eN m), undef, undef, (Value.slice none 0 0), (Value.slice none 0 0), u14, u24, (eN (i + 1)), undef, undef, undef, u1, (eN m), u14, (zf30 15), (zf30 16), (zf30 17), (zf30 18), (eN i), (eN (i + 1))] ++ (zs zf30 21 8 ++ (us 32))) ?_
  refine wpL.done ?_
  refine then_n ?_
  refine ⟨_, ⟨i + 1, bo26, u24⟩, rfl, rfl, ⟨?_, ?_, ?_, ?_, ?_⟩, ?_⟩
  ·
   (try dsimp only)
   all_goals (omega)
  ·
   exact o17
  ·
   exact a11
  ·
   (try dsimp only)
   all_goals (rw [hfL_next c1] at a27; exact a27)
  ·
   exact q_o17_half
  ·
   (try dsimp only)
   all_goals (omega)
 refine wpIn_exit ?_
 refine then_x (then_x (inb_e ?_))
 refine then_n ?_
 refine forget (fun zf31 => ([(zf31 0), (eN m), (zf31 2), (zf31 3), (zf31 4), (Value.slice none 0 0), u14, u_half, (eN i), (zf31 9), undef, undef] ++ (zs zf31 12 49))) (by kernel_rfl) (fun zf31 => ?_)
 refine wpIn_seq ?_
 have ht_half : la.take i = la := List.take_of_length_le (by omega)
 rw [ht_half] at a16
 have hh_ := hfL_length la
 refine plain ?_
 refine wI (d_move rfl) ?_
 refine wI (d_move rfl) ?_
 refine wO (d_call (xl := [.tmp 29, .const (.int .i64 224), .tmp 30]) (al := [u_half, (eN 224), (eN m)]) Try.func19 (by kernel_rfl) rfl rfl rfl (l4Places_ok (hfL la) 224 m u_half _ (Ps.no (a16.seq (X := No) (fun _ _ h => h))) (by omega) (by omega) (by omega) (by omega))) ?_
 rintro u34 w32 f35
 replace f35 := f35.ps
 obtain ⟨f35, o33⟩ := f35
 replace f35 := f35.less (Y := (Orq bo_half (Orq none (Old W.heap.size)))) (orq_old a16.lts (orq_old a11.lts (old_old oW.size)))
 replace h1 := h1.step0 o33
 replace f15 := f15.step0 o33
 replace a11 := a11.step0 o33
 replace a16 := a16.step0 o33
 replace oW := oW.tail0 o33
 replace o17 := o17.tail0 o33
 refine wF ([(zf31 0), (eN m), (zf31 2), (zf31 3), (zf31 4), (Value.slice none 0 0), u14, u_half, (eN i), (zf31 9), undef, undef] ++ (zs zf31 12 17 ++ [u_half, (eN m), u34] ++ (zs zf31 32 29))) ?_
 refine wI (d_assign rfl) ?_
 refine wF ([(zf31 0), (eN m), (zf31 2), (zf31 3), (zf31 4), (Value.slice none 0 0), u14, u_half, (eN i), u34, undef, undef] ++ (zs zf31 12 17 ++ [u_half, (eN m), u34] ++ (zs zf31 32 29))) ?_
 refine wpL.done ?_
 refine then_n ?_
 refine wpIn_seq ?_
 refine wpIn_seq ?_
 refine plain ?_
 refine wI (d_assign rfl) ?_
 refine wF ([(zf31 0), (eN m), (zf31 2), (zf31 3), (zf31 4), (Value.slice none 0 0), u14, u_half, (eN i), u34, (eN 0), undef] ++ (zs zf31 12 17 ++ [u_half, (eN m), u34] ++ (zs zf31 32 29))) ?_
 refine wpL.done ?_
 refine then_n ?_
 refine wpIn_block ?_
 have h_lts_out := a11.lts
 have h_lts_half := a16.lts
 refine loop2 (fun (s_ : (Nat) × (Option Nat) × (Value)) => match s_ with | ⟨j, bo_out, u_out⟩ => fun (z : Nat → Value) => (([(zf31 0), (eN m), (zf31 2), (zf31 3), (zf31 4), u_out, u14, u_half, (eN i), u34, (eN j), undef] ++ (zs zf31 12 17 ++ [u_half, (eN m), u34] ++ (zs z 32 14 ++ (zs zf31 46 15)))) : List Value)) (fun (s_ : (Nat) × (Option Nat) × (Value)) => match s_ with | ⟨j, bo_out, u_out⟩ => fun (w_ : World) => (j ≤ (placesL la 224 m).length) ∧ Only (Orq bo_half (Orq none No)) w32 w_ ∧ Ow 3 1 bo_out u_out (((placesL la 224 m).take j).map (32 + ·)).length ((((placesL la 224 m).take j).map (32 + ·)).map eN) w_ ∧ Fr bo_out none w32.heap.size ∧ Ow 3 1 bo_half u_half (hfL la).length ((hfL la).map eI) w_) (fun (s_ : (Nat) × (Option Nat) × (Value)) => match s_ with | ⟨j, bo_out, u_out⟩ => (placesL la 224 m).length - j) ⟨0, none, (Value.slice none 0 0)⟩ rfl ?_ ?_
 ·
  refine ⟨?_, ?_, ?_, ?_, ?_⟩
  ·
   exact Nat.zero_le _
  ·
   exact Only.refl _ _
  ·
   exact a11
  ·
   exact Fr.same
  ·
   exact a16
 rintro ⟨j, bo_out, u_out⟩ z w37 ⟨hj, o36, a11, qq_out, a16⟩
 (try dsimp only)
 replace h1 := h1.re o36 (orq_mono (orq_mono no_any)) (xx_orq (xx_re qq_out xx_id))
 replace f15 := f15.re o36 (orq_mono (orq_mono no_any)) (xx_orq (xx_re qq_out xx_id))
 replace f35 := f35.re o36 (orq_mono (orq_mono no_any)) (xx_orq (xx_re qq_out xx_id))
 have tq_oW := oW.size
 replace oW := oW.tail o36 (tl_q q_oW_half (fun _ e => by cases e) (tl_q q_oW_out (fun _ e => by cases e) tl_no))
 replace q_oW_out := qtr qq_out q_oW_out tq_oW
 have tq_o17 := o17.size
 replace o17 := o17.tail o36 (tl_q q_o17_half (fun k e => (.inl e)) (tl_q q_o17_out (fun k e => (.inr (.inl e))) tl_no))
 replace q_o17_out := qtr qq_out q_o17_out tq_o17
 replace nqq_out_half := fun x h1 h2 => nqq_step (fun x h1 h2 => nqq_out_half x h2 h1) qq_out h_lts_half x h2 h1
 have q_o36_out := qq_out
 have q_o36_half : Fr bo_half bo_half w32.heap.size := Fr.same
 refine wpIn_seq ?_
 refine wpIn_seq ?_
 refine plain ?_
 refine wI (d_move rfl) ?_
 refine wI (d_move rfl) ?_
 refine wI (d_lenS rfl Try.underlying23 rfl f15) ?_
 refine wF ([(zf31 0), (eN m), (zf31 2), (zf31 3), (zf31 4), u_out, u14, u_half, (eN i), u34, (eN j), undef] ++ (zs zf31 12 17 ++ [u_half, (eN m), u34, (eN j), u14, (eN ((placesL la 224 m).length))] ++ (zs z 35 11 ++ (zs zf31 46 15)))) ?_
 refine wI (n_lss (a := j) (b := ((placesL la 224 m).length)) rfl rfl rfl) ?_
 refine wF ([(zf31 0), (eN m), (zf31 2), (zf31 3), (zf31 4), u_out, u14, u_half, (eN i), u34, (eN j), undef] ++ (zs zf31 12 17 ++ [u_half, (eN m), u34, (eN j), u14, (eN ((placesL la 224 m).length)), (Value.bool (decide (j < ((placesL la 224 m).length))))] ++ (zs z 36 10 ++ (zs zf31 46 15)))) ?_
 refine wpL.done ?_
 refine then_n ?_
 refine cond_if rfl (fun c2 => ?_) (fun c2 => ?_)
 ·
  have hm_ := getD_lt (places_in la m (show 0 < 224 by decide)) c2
  have hn_ := places_le la 224 m
  refine wpIn_skip ?_
  refine then_n ?_
  refine wpIn_seq ?_
  refine wpIn_block ?_
  refine plain ?_
  refine wI (d_move rfl) ?_
  refine wI (d_move rfl) ?_
  refine wI (d_move rfl) ?_
  refine wF ([(zf31 0), (eN m), (zf31 2), (zf31 3), (zf31 4), u_out, u14, u_half, (eN i), u34, (eN j), undef] ++ (zs zf31 12 17 ++ [u_half, (eN m), u34, (eN j), u14, (eN ((placesL la 224 m).length)), (Value.bool (decide (j < ((placesL la 224 m).length)))), (z 36), (z 37), u_out, u14, (eN j)] ++ (zs z 41 5 ++ (zs zf31 46 15)))) ?_
  refine wI (d_ix (i := j) (xs := (placesL la 224 m)) Try.underlying23 s_ti3 rfl f15 (show _ = Value.int _ ((j : Nat) : Int) from rfl) (by have := places_le la 224 m; first | omega | (simp; done) | (simp; omega))) ?_
  refine wI (d_ldx (i := j) (xs := (placesL la 224 m)) (enc := eN) (v := ((placesL la 224 m).getD j 0)) ⟨_, Try.underlying3, rfl⟩ rfl f15 (g_at (by have := places_le la 224 m; first | omega | (simp; done) | (simp; omega)))) ?_
  refine wI (n_add (a := 32) (b := ((placesL la 224 m).getD j 0)) rfl rfl (by omega)) ?_
  refine wF ([(zf31 0), (eN m), (zf31 2), (zf31 3), (zf31 4), u_out, u14, u_half, (eN i), u34, (eN j), undef] ++ (zs zf31 12 17 ++ [u_half, (eN m), u34, (eN j), u14, (eN ((placesL la 224 m).length)), (Value.bool (decide (j < ((placesL la 224 m).length)))), (z 36), (z 37), u_out, u14, (eN j), (ixp u14 j), (eN ((placesL la 224 m).getD j 0)), (eN (32 + ((placesL la 224 m).getD j 0))), (z 44), (z 45)] ++ (zs zf31 46 15))) ?_
  refine wO (d_buildL (cs := [(eN (32 + ((placesL la 224 m).getD j 0)))]) Try.underlying23 s_ti3 rfl (nb rfl) (parts_cons (vs := [(eN (32 + ((placesL la 224 m).getD j 0)))]) (cells_of (v := (eN (32 + ((placesL la 224 m).getD j 0)))) rfl rfl) parts_nil) rfl) ?_
  rintro _ w39 ⟨b38, rfl, g40, a41, o42⟩
  replace a41 : Arr 3 b38 (([32 + ((placesL la 224 m).getD j 0)] : List Nat).map eN) w39 := a41
  have l_b38 : ([32 + ((placesL la 224 m).getD j 0)] : List Nat).length = 1 := rfl
  have nq_out_b38 : ∀ x, bo_out = some x → ¬ x = b38 := fun x hx e => by have := a11.lts x hx; omega
  have nq_half_b38 : ∀ x, bo_half = some x → ¬ x = b38 := fun x hx e => by have := a16.lts x hx; omega
  have g_oW_b38 : W.heap.size ≤ b38 := Nat.le_trans oW.size g40
  have g_o17_b38 : w12.heap.size ≤ b38 := Nat.le_trans o17.size g40
  have g_o36_b38 : w32.heap.size ≤ b38 := Nat.le_trans o36.size g40
  replace h1 := h1.new o42 g40
  replace f15 := f15.new o42 g40
  replace f35 := f35.new o42 g40
  replace a11 := a11.step0 o42
  replace a16 := a16.step0 o42
  replace oW := oW.tail0 o42
  replace o17 := o17.tail0 o42
  replace o36 := o36.tail0 o42
  refine wO (d_append Try.underlying23 Try.underlying23 s_ti3 rfl rfl rfl a11 (SrcV.of_seq (arr_seq a41 l_b38 (Nat.le_refl _)) (fun _ => rfl)) (by simp only [List.length_map, List.length_take, List.length_singleton]; omega) (by simp only [List.length_map, List.length_take, List.length_singleton]; omega) rfl) ?_
  rintro u43 w44 ⟨bo45, a46, o47, q48⟩
  replace a46 : Ow 3 1 bo45 u43 ((((placesL la 224 m).take j).map (32 + ·)) ++ ([32 + ((placesL la 224 m).getD j 0)] : List Nat)).length (((((placesL la 224 m).take j).map (32 + ·)) ++ ([32 + ((placesL la 224 m).getD j 0)] : List Nat)).map eN) w44 := by rw [List.length_append, List.map_append]; exact a46
  replace h1 := h1.gr o47 (fun k e => (.inr (.inr (.inl e)))) (xx_or1 (xx_orq (xx_re (Fr.of_or q48) xx_id)))
  replace f15 := f15.gr o47 (fun k e => (.inr (.inr (.inl e)))) (xx_or1 (xx_orq (xx_re (Fr.of_or q48) xx_id)))
  replace f35 := f35.gr o47 (fun k e => (.inr (.inr (.inl e)))) (xx_or1 (xx_orq (xx_re (Fr.of_or q48) xx_id)))
  have nq2 := nqs nq_out_b38 (Fr.of_or q48) a41.lt
  replace a41 := a41.step o47 (fun e => nq_out_b38 _ e rfl)
  replace nq_out_b38 := nq2
  clear nq2
  have lt2 := a16.lts
  replace a16 := a16.step o47 (fun x hx e => nqq_out_half x e hx)
  replace nqq_out_half := fun x h1 h2 => nqq_step (fun x h1 h2 => nqq_out_half x h2 h1) (Fr.of_or q48) lt2 x h2 h1
  clear lt2
  have tq := oW.size
  replace oW := oW.tailr o47 q_oW_out (fun _ e => by cases e)
  replace q_oW_out := qtr (Fr.of_or q48) q_oW_out tq
  clear tq
  have tq := o17.size
  replace o17 := o17.tailr o47 q_o17_out (fun k e => (.inr (.inl e)))
  replace q_o17_out := qtr (Fr.of_or q48) q_o17_out tq
  clear tq
  have tq := o36.size
  replace o36 := o36.tailr o47 q_o36_out (fun k e => (.inr (.inl e)))
  replace q_o36_out := qtr (Fr.of_or q48) q_o36_out tq
  clear tq
  refine wI (d_assign rfl) ?_
  refine wF ([(zf31 0), (eN m), (zf31 2), (zf31 3), (zf31 4), u43, u14, u_half, (eN i), u34, (eN j), undef] ++ (zs zf31 12 17 ++ [u_half, (eN m), u34, (eN j), u14, (eN ((placesL la 224 m).length)), (Value.bool (decide (j < ((placesL la 224 m).length)))), (z 36), (z 37), u_out, u14, (eN j), (ixp u14 j), (eN ((placesL la 224 m).getD j 0)), (eN (32 + ((placesL la 224 m).getD j 0))), (sli b38 0 1 1), u43] ++ (zs zf31 46 15))) ?_
  refine wpL.done ?_
  refine inb_n (then_n ?_)
  refine forget (fun zf49 => ([(zf31 0), (eN m), (zf31 2), (zf31 3), (zf31 4), u43, u14, u_half, (eN i), u34, (eN j), undef] ++ (zs zf31 12 17 ++ [u_half, (eN m), u34] ++ (zs zf49 32 14 ++ (zs zf31 46 15))))) (by kernel_rfl) (fun zf49 => ?_)
  refine plain ?_
  refine wI (d_move rfl) ?_
  refine wI (n_add (a := j) (b := 1) rfl rfl (by omega)) ?_
  refine wI (d_assign rfl) ?_
  refine wF ([(zf31 0), (eN m), (zf31 2), (zf31 3), (zf31 4), u43, u14, u_half, (eN i), u34, (eN (j + 1)), undef] ++ (zs zf31 12 17 ++ [u_half, (eN m), u34, (zf49 32), (zf49 33), (zf49 34), (zf49 35), (eN j), (eN (j + 1))] ++ (zs zf49 38 8 ++ (zs zf31 46 15)))) ?_
  refine wpL.done ?_
  refine then_n ?_
  refine ⟨_, ⟨j + 1, bo45, u43⟩, rfl, rfl, ⟨?_, ?_, ?_, ?_, ?_⟩, ?_⟩
  ·
   (try dsimp only)
   all_goals (omega)
  ·
   exact o36
  ·
   (try dsimp only)
   all_goals (rw [map_next (f := (32 + ·)) c2] at a46; exact a46)
  ·
   exact q_o36_out
  ·
   exact a16
  ·
   (try dsimp only)
   all_goals (omega)
 refine wpIn_exit ?_
 refine then_x (then_x (inb_e ?_))
 refine then_n ?_
 refine forget (fun zf50 => (zs zf50 0 5 ++ [u_out, (zf50 6), u_half, (eN i), u34, (eN j), undef] ++ (zs zf50 12 49))) (by kernel_rfl) (fun zf50 => ?_)
 refine wpIn_seq ?_
 refine wpIn_seq ?_
 have ht_out : (placesL la 224 m).take j = (placesL la 224 m) := List.take_of_length_le (by omega)
 rw [ht_out] at a11
 refine plain ?_
 refine wI (d_assign rfl) ?_
 refine wF (zs zf50 0 5 ++ [u_out, (zf50 6), u_half, (eN i), u34, (eN j), (eN 0)] ++ (zs zf50 12 49)) ?_
 refine wpL.done ?_
 refine then_n ?_
 refine wpIn_block ?_
 have h_lts_out := a11.lts
 have h_lts_half := a16.lts
 refine loop2 (fun (s_ : (Nat) × (Option Nat) × (Value)) => match s_ with | ⟨k, bo_out2, u_out2⟩ => fun (z : Nat → Value) => ((zs zf50 0 5 ++ [u_out2, (zf50 6), u_half, (eN i), u34, (eN j), (eN k)] ++ (zs zf50 12 34 ++ (zs z 46 14 ++ [(zf50 60)]))) : List Value)) (fun (s_ : (Nat) × (Option Nat) × (Value)) => match s_ with | ⟨k, bo_out2, u_out2⟩ => fun (w_ : World) => (k ≤ (placesL (hfL la) 224 m).length) ∧ Only (Orq bo_half (Orq bo_out No)) w37 w_ ∧ Ow 3 1 bo_out2 u_out2 ((placesL la 224 m).map (32 + ·) ++ ((placesL (hfL la) 224 m).take k).map (256 + ·)).length (((placesL la 224 m).map (32 + ·) ++ ((placesL (hfL la) 224 m).take k).map (256 + ·)).map eN) w_ ∧ Fr bo_out2 bo_out w37.heap.size ∧ Ow 3 1 bo_half u_half (hfL la).length ((hfL la).map eI) w_) (fun (s_ : (Nat) × (Option Nat) × (Value)) => match s_ with | ⟨k, bo_out2, u_out2⟩ => (placesL (hfL la) 224 m).length - k) ⟨0, bo_out, u_out⟩ rfl ?_ ?_
 ·
  refine ⟨?_, ?_, ?_, ?_, ?_⟩
  ·
   exact Nat.zero_le _
  ·
   exact Only.refl _ _
  ·
   (try dsimp only)
   all_goals (rw [List.take_zero, List.map_nil, List.append_nil]; exact a11)
  ·
   exact Fr.same
  ·
   exact a16
 rintro ⟨k, bo_out2, u_out2⟩ z w52 ⟨hk, o51, a11, qq_out, a16⟩
 (try dsimp only)
 replace h1 := h1.re o51 (orq_mono (orq_mono no_any)) (xx_orq (xx_re qq_out xx_id))
 replace f15 := f15.re o51 (orq_mono (orq_mono no_any)) (xx_orq (xx_re qq_out xx_id))
 replace f35 := f35.re o51 (orq_mono (orq_mono no_any)) (xx_orq (xx_re qq_out xx_id))
 have tq_oW := oW.size
 replace oW := oW.tail o51 (tl_q q_oW_half (fun _ e => by cases e) (tl_q q_oW_out (fun _ e => by cases e) tl_no))
 replace q_oW_out := qtr qq_out q_oW_out tq_oW
 have tq_o17 := o17.size
 replace o17 := o17.tail o51 (tl_q q_o17_half (fun k e => (.inl e)) (tl_q q_o17_out (fun k e => (.inr (.inl e))) tl_no))
 replace q_o17_out := qtr qq_out q_o17_out tq_o17
 have tq_o36 := o36.size
 replace o36 := o36.tail o51 (tl_q q_o36_half (fun k e => (.inl e)) (tl_q q_o36_out (fun k e => (.inr (.inl e))) tl_no))
 replace q_o36_out := qtr qq_out q_o36_out tq_o36
 replace nqq_out_half := fun x h1 h2 => nqq_step (fun x h1 h2 => nqq_out_half x h2 h1) qq_out h_lts_half x h2 h1
 have q_o51_out := qq_out
 have q_o51_half : Fr bo_half bo_half w37.heap.size := Fr.same
 refine wpIn_seq ?_
 refine wpIn_seq ?_
 refine plain ?_
 refine wI (d_move rfl) ?_
 refine wI (d_move rfl) ?_
 refine wI (d_lenS rfl Try.underlying23 rfl f35) ?_
 refine wF (zs zf50 0 5 ++ [u_out2, (zf50 6), u_half, (eN i), u34, (eN j), (eN k)] ++ (zs zf50 12 34 ++ [(eN k), u34, (eN ((placesL (hfL la) 224 m).length))] ++ (zs z 49 11 ++ [(zf50 60)]))) ?_
 refine wI (n_lss (a := k) (b := ((placesL (hfL la) 224 m).length)) rfl rfl rfl) ?_
 refine wF (zs zf50 0 5 ++ [u_out2, (zf50 6), u_half, (eN i), u34, (eN j), (eN k)] ++ (zs zf50 12 34 ++ [(eN k), u34, (eN ((placesL (hfL la) 224 m).length)), (Value.bool (decide (k < ((placesL (hfL la) 224 m).length))))] ++ (zs z 50 10 ++ [(zf50 60)]))) ?_
 refine wpL.done ?_
 refine then_n ?_
 refine cond_if rfl (fun c3 => ?_) (fun c3 => ?_)
 ·
  have hm_ := getD_lt (places_in (hfL la) m (show 0 < 224 by decide)) c3
  have hn_ := places_le la 224 m
  have hn2_ := places_le (hfL la) 224 m
  refine wpIn_skip ?_
  refine then_n ?_
  refine wpIn_seq ?_
  refine wpIn_block ?_
  refine plain ?_
  refine wI (d_move rfl) ?_
  refine wI (d_move rfl) ?_
  refine wI (d_move rfl) ?_
  refine wF (zs zf50 0 5 ++ [u_out2, (zf50 6), u_half, (eN i), u34, (eN j), (eN k)] ++ (zs zf50 12 34 ++ [(eN k), u34, (eN ((placesL (hfL la) 224 m).length)), (Value.bool (decide (k < ((placesL (hfL la) 224 m).length)))), (z 50), (z 51), u_out2, u34, (eN k)] ++ (zs z 55 5 ++ [(zf50 60)]))) ?_
  refine wI (d_ix (i := k) (xs := (placesL (hfL la) 224 m)) Try.underlying23 s_ti3 rfl f35 (show _ = Value.int _ ((k : Nat) : Int) from rfl) (by have := places_le (hfL la) 224 m; have := hfL_length la; first | omega | (simp; done) | (simp; omega))) ?_
  refine wI (d_ldx (i := k) (xs := (placesL (hfL la) 224 m)) (enc := eN) (v := ((placesL (hfL la) 224 m).getD k 0)) ⟨_, Try.underlying3, rfl⟩ rfl f35 (g_at (by have := places_le (hfL la) 224 m; have := hfL_length la; first | omega | (simp; done) | (simp; omega)))) ?_
  refine wI (n_add (a := 256) (b := ((placesL (hfL la) 224 m).getD k 0)) rfl rfl (by omega)) ?_
  refine wF (zs zf50 0 5 ++ [u_out2, (zf50 6), u_half, (eN i), u34, (eN j), (eN k)] ++ (zs zf50 12 34 ++ [(eN k), u34, (eN ((placesL (hfL la) 224 m).length)), (Value.bool (decide (k < ((placesL (hfL la) 224 m).length)))), (z 50), (z 51), u_out2, u34, (eN k), (ixp u34 k), (eN ((placesL (hfL la) 224 m).getD k 0)), (eN (256 + ((placesL (hfL la) 224 m).getD k 0))), (z 58), (z 59), (zf50 60)])) ?_
  refine wO (d_buildL (cs := [(eN (256 + ((placesL (hfL la) 224 m).getD k 0)))]) Try.underlying23 s_ti3 rfl (nb rfl) (parts_cons (vs := [(eN (256 + ((placesL (hfL la) 224 m).getD k 0)))]) (cells_of (v := (eN (256 + ((placesL (hfL la) 224 m).getD k 0)))) rfl rfl) parts_nil) rfl) ?_
  rintro _ w54 ⟨b53, rfl, g55, a56, o57⟩
  replace a56 : Arr 3 b53 (([256 + ((placesL (hfL la) 224 m).getD k 0)] : List Nat).map eN) w54 := a56
  have l_b53 : ([256 + ((placesL (hfL la) 224 m).getD k 0)] : List Nat).length = 1 := rfl
  have nq_out_b53 : ∀ x, bo_out2 = some x → ¬ x = b53 := fun x hx e => by have := a11.lts x hx; omega
  have nq_half_b53 : ∀ x, bo_half = some x → ¬ x = b53 := fun x hx e => by have := a16.lts x hx; omega
  have g_oW_b53 : W.heap.size ≤ b53 := Nat.le_trans oW.size g55
  have g_o17_b53 : w12.heap.size ≤ b53 := Nat.le_trans o17.size g55
  have g_o36_b53 : w32.heap.size ≤ b53 := Nat.le_trans o36.size g55
  have g_o51_b53 : w37.heap.size ≤ b53 := Nat.le_trans o51.size g55
  replace h1 := h1.new o57 g55
  replace f15 := f15.new o57 g55
  replace f35 := f35.new o57 g55
  replace a11 := a11.step0 o57
  replace a16 := a16.step0 o57
  replace oW := oW.tail0 o57
  replace o17 := o17.tail0 o57
  replace o36 := o36.tail0 o57
  replace o51 := o51.tail0 o57
  refine wO (d_append Try.underlying23 Try.underlying23 s_ti3 rfl rfl rfl a11 (SrcV.of_seq (arr_seq a56 l_b53 (Nat.le_refl _)) (fun _ => rfl)) (by simp only [List.length_append, List.length_map, List.length_take, List.length_singleton]; omega) (by simp only [List.length_append, List.length_map, List.length_take, List.length_singleton]; omega) rfl) ?_
  rintro u58 w59 ⟨bo60, a61, o62, q63⟩
  replace a61 : Ow 3 1 bo60 u58 (((placesL la 224 m).map (32 + ·) ++ ((placesL (hfL la) 224 m).take k).map (256 + ·)) ++ ([256 + ((placesL (hfL la) 224 m).getD k 0)] : List Nat)).length ((((placesL la 224 m).map (32 + ·) ++ ((placesL (hfL la) 224 m).take k).map (256 + ·)) ++ ([256 + ((placesL (hfL la) 224 m).getD k 0)] : List Nat)).map eN) w59 := by rw [List.length_append, List.map_append]; exact a61
  replace h1 := h1.gr o62 (fun k e => (.inr (.inr (.inl e)))) (xx_or1 (xx_orq (xx_re (Fr.of_or q63) xx_id)))
  replace f15 := f15.gr o62 (fun k e => (.inr (.inr (.inl e)))) (xx_or1 (xx_orq (xx_re (Fr.of_or q63) xx_id)))
  replace f35 := f35.gr o62 (fun k e => (.inr (.inr (.inl e)))) (xx_or1 (xx_orq (xx_re (Fr.of_or q63) xx_id)))
  have nq2 := nqs nq_out_b53 (Fr.of_or q63) a56.lt
  replace a56 := a56.step o62 (fun e => nq_out_b53 _ e rfl)
  replace nq_out_b53 := nq2
  clear nq2
  have lt2 := a16.lts
  replace a16 := a16.step o62 (fun x hx e => nqq_out_half x e hx)
  replace nqq_out_half := fun x h1 h2 => nqq_step (fun x h1 h2 => nqq_out_half x h2 h1) (Fr.of_or q63) lt2 x h2 h1
  clear lt2
  have tq := oW.size
  replace oW := oW.tailr o62 q_oW_out (fun _ e => by cases e)
  replace q_oW_out := qtr (Fr.of_or q63) q_oW_out tq
  clear tq
  have tq := o17.size
  replace o17 := o17.tailr o62 q_o17_out (fun k e => (.inr (.inl e)))
  replace q_o17_out := qtr (Fr.of_or q63) q_o17_out tq
  clear tq
  have tq := o36.size
  replace o36 := o36.tailr o62 q_o36_out (fun k e => (.inr (.inl e)))
  replace q_o36_out := qtr (Fr.of_or q63) q_o36_out tq
  clear tq
  have tq := o51.size
  replace o51 := o51.tailr o62 q_o51_out (fun k e => (.inr (.inl e)))
  replace q_o51_out := qtr (Fr.of_or q63) q_o51_out tq
  clear tq
  refine wI (d_assign rfl) ?_
  refine wF (zs zf50 0 5 ++ [u58, (zf50 6), u_half, (eN i), u34, (eN j), (eN k)] ++ (zs zf50 12 34 ++ [(eN k), u34, (eN ((placesL (hfL la) 224 m).length)), (Value.bool (decide (k < ((placesL (hfL la) 224 m).length)))), (z 50), (z 51), u_out2, u34, (eN k), (ixp u34 k), (eN ((placesL (hfL la) 224 m).getD k 0)), (eN (256 + ((placesL (hfL la) 224 m).getD k 0))), (sli b53 0 1 1), u58, (zf50 60)])) ?_
  refine wpL.done ?_
  refine inb_n (then_n ?_)
  refine forget (fun zf64 => (zs zf50 0 5 ++ [u58, (zf50 6), u_half, (eN i), u34, (eN j), (eN k)] ++ (zs zf50 12 34 ++ (zs zf64 46 14 ++ [(zf50 60)])))) (by kernel_rfl) (fun zf64 => ?_)
  refine plain ?_
  refine wI (d_move rfl) ?_
  refine wI (n_add (a := k) (b := 1) rfl rfl (by omega)) ?_
  refine wI (d_assign rfl) ?_
  refine wF (zs zf50 0 5 ++ [u58, (zf50 6), u_half, (eN i), u34, (eN j), (eN (k + 1))] ++ (zs zf50 12 34 ++ [(zf64 46), (zf64 47), (zf64 48), (zf64 49), (eN k), (eN (k + 1))] ++ (zs zf64 52 8 ++ [(zf50 60)]))) ?_
  refine wpL.done ?_
  refine then_n ?_
  refine ⟨_, ⟨k + 1, bo60, u58⟩, rfl, rfl, ⟨?_, ?_, ?_, ?_, ?_⟩, ?_⟩
  ·
   (try dsimp only)
   all_goals (omega)
  ·
   exact o51
  ·
   (try dsimp only)
   all_goals (rw [List.append_assoc, map_next (f := (256 + ·)) c3] at a61; exact a61)
  ·
   exact q_o51_out
  ·
   exact a16
  ·
   (try dsimp only)
   all_goals (omega)
 refine wpIn_exit ?_
 refine then_x (then_x (inb_e ?_))
 refine then_n ?_
 refine wpIn_seq ?_
 refine plain ?_
 refine wI (d_move rfl) ?_
 refine wI (d_assign rfl) ?_
 refine wF ([(zf50 0), (zf50 1), (zf50 2), (zf50 3), u_out2, u_out2, (zf50 6), u_half, (eN i), u34, (eN j), (eN k)] ++ (zs zf50 12 34 ++ [(eN k), u34, (eN ((placesL (hfL la) 224 m).length)), (Value.bool (decide (k < ((placesL (hfL la) 224 m).length))))] ++ (zs z 50 10 ++ [u_out2]))) ?_
 refine wpL.done ?_
 refine then_n ?_
 refine wpIn_ret ?_
 refine leave0 (v := u_out2) (res1 Try.results23 rfl) ?_
 exact ROw.mk_ a11 (by rw [List.take_of_length_le (show (placesL (hfL la) 224 m).length ≤ k by omega)]; rfl) q_oW_out oW

end Go.Proofs.YtgalehapmdabeaaF
