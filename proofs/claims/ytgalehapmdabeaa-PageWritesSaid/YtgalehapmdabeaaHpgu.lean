import Derived.Test.YtgalehapmdabeaaFz
import Derived.Test.YtgalehapmdabeaaTy
import Derived.Test.YtgalehapmdabeaaHpage
import Derived.Test.YtgalehapmdabeaaMv
set_option linter.unusedVariables false
set_option linter.unusedSimpArgs false
namespace Go.Proofs.YtgalehapmdabeaaF
open Go Go.Shelf Go.Proofs.YtgalehapmdabeaaS Ram
set_option maxRecDepth 20000 in
set_option maxHeartbeats 1000000 in
theorem l8known_ok (W : World) :
    CW Try.prog 14 #[] W (Rt (RIs (.bool true) W)) := by
 have oW : Only No W W := Only.refl _ _
 refine enter (al := []) (k := 27) (l := (us 27)) Try.func14 rfl Try.ntmps14 rfl rfl ?_
 refine wpIn_seq ?_
 refine plain ?_
 refine wI (d_assign rfl) ?_
 refine wF ([(Value.bool false)] ++ (us 26)) ?_
 refine wpL.done ?_
 refine then_n ?_
 refine wpIn_seq ?_
 refine plain ?_
 refine wO (d_make1 (n := 60) Try.underlying22 s_ti5 rfl rfl (by omega) (by omega) rfl) ?_
 rintro _ w11 ⟨b, rfl, g12, a13, o14⟩
 replace a13 : Arr 5 b ((List.replicate 60 0).map eB) w11 := by rw [List.map_replicate]; exact a13
 have l_b : (List.replicate 60 0 : List UInt8).length = 60 := by simp
 have g_oW_b : W.heap.size ≤ b := Nat.le_trans oW.size g12
 replace oW := oW.tail0 o14
 refine wI (d_assign rfl) ?_
 refine wF ([(Value.bool false), (sli b 0 60 60), undef, (sli b 0 60 60)] ++ (us 23)) ?_
 refine wpL.done ?_
 refine then_n ?_
 refine wpIn_seq ?_
 refine wpIn_seq ?_
 refine plain ?_
 refine wI (d_assign rfl) ?_
 refine wF ([(Value.bool false), (sli b 0 60 60), (eN 0), (sli b 0 60 60)] ++ (us 23)) ?_
 refine wpL.done ?_
 refine then_n ?_
 refine wpIn_block ?_
 refine loop2 (fun (i : (Nat)) => fun (z : Nat → Value) => (([(Value.bool false), (sli b 0 60 60), (eN i), (sli b 0 60 60)] ++ (zs z 4 7 ++ (us 16))) : List Value)) (fun (i : (Nat)) => fun (w_ : World) => (i ≤ 60) ∧ Only (Or1 b No) w11 w_ ∧ (ffTo 60 i).length = 60 ∧ Arr 5 b ((ffTo 60 i).map eB) w_) (fun (i : (Nat)) => 60 - i) 0 rfl ?_ ?_
 ·
  refine ⟨?_, ?_, ?_, ?_⟩
  ·
   (try dsimp only)
   all_goals (omega)
  ·
   exact Only.refl _ _
  ·
   exact ffTo_length 60 0
  ·
   (try dsimp only)
   all_goals (rw [← ffTo_zero]; exact a13)
 rintro i z w16 ⟨hi, o15, l_b, a13⟩
 (try dsimp only)
 replace oW := oW.tail o15 (tl_new g_oW_b tl_no)
 refine wpIn_seq ?_
 refine wpIn_seq ?_
 refine plain ?_
 refine wI (d_move rfl) ?_
 refine wI (n_lss (a := i) (b := 60) rfl rfl rfl) ?_
 refine wF ([(Value.bool false), (sli b 0 60 60), (eN i), (sli b 0 60 60), (eN i), (Value.bool (decide (i < 60)))] ++ (zs z 6 5 ++ (us 16))) ?_
 refine wpL.done ?_
 refine then_n ?_
 refine cond_if rfl (fun c17 => ?_) (fun c17 => ?_)
 ·
  refine wpIn_skip ?_
  refine then_n ?_
  refine wpIn_seq ?_
  refine wpIn_block ?_
  refine plain ?_
  refine wI (d_move rfl) ?_
  refine wI (d_move rfl) ?_
  refine wI (d_index1 (n := 60) (i := i) Try.underlying22 s_ti5 rfl (show _ = Value.int _ ((i : Nat) : Int) from rfl) (by omega)) ?_
  refine wF ([(Value.bool false), (sli b 0 60 60), (eN i), (sli b 0 60 60), (eN i), (Value.bool (decide (i < 60))), (z 6), (z 7), (sli b 0 60 60), (eN i), (ptr b i)] ++ (us 16)) ?_
  refine wO (d_store (b := b) (i := i) (v := (eB 255)) s_ti5 rfl rfl rfl a13 (by rw [List.length_map, l_b]; omega) (m_put (ffTo 60 i) i 255 eB)) ?_
  rintro _ w18 ⟨a19, o20⟩
  replace oW := oW.tailb o20 g_oW_b
  replace o15 := o15.tail o20 (fun k _ e => by have : k = b := e; rw [this]; exact in1)
  replace l_b : ((ffTo 60 i).set i 255 : List UInt8).length = 60 := (List.length_set ..).trans l_b
  refine wF ([(Value.bool false), (sli b 0 60 60), (eN i), (sli b 0 60 60), (eN i), (Value.bool (decide (i < 60))), (z 6), (z 7), (sli b 0 60 60), (eN i), (ptr b i)] ++ (us 16)) ?_
  refine wpL.done ?_
  refine inb_n (then_n ?_)
  refine plain ?_
  refine wI (d_move rfl) ?_
  refine wI (n_add (a := i) (b := 1) rfl rfl (by omega)) ?_
  refine wI (d_assign rfl) ?_
  refine wF ([(Value.bool false), (sli b 0 60 60), (eN (i + 1)), (sli b 0 60 60), (eN i), (Value.bool (decide (i < 60))), (eN i), (eN (i + 1)), (sli b 0 60 60), (eN i), (ptr b i)] ++ (us 16)) ?_
  refine wpL.done ?_
  refine then_n ?_
  refine ⟨_, (i + 1), rfl, rfl, ⟨?_, ?_, ?_, ?_⟩, ?_⟩
  ·
   (try dsimp only)
   all_goals (omega)
  ·
   exact o15
  ·
   exact ffTo_length _ _
  ·
   (try dsimp only)
   all_goals (rw [ffTo_step] at a19; exact a19)
  ·
   (try dsimp only)
   all_goals (omega)
 refine wpIn_exit ?_
 refine then_x (then_x (inb_e ?_))
 refine then_n ?_
 refine wpIn_seq ?_
 replace a13 : Arr 5 b ((List.replicate 60 255).map eB) w16 := by rw [← (ffTo_done (n := 60) (i := i) (by omega))]; exact a13
 replace l_b : ((List.replicate 60 255) : List UInt8).length = 60 := (by simp)
 refine plain ?_
 refine wI (d_move rfl) ?_
 refine wO (d_call (xl := [.tmp 11]) (al := [(sli b 0 60 60)]) Try.func21 (by kernel_rfl) rfl rfl rfl (pageDecode_ok (List.replicate 60 255) (sli b 0 60 60) _ (Ps.no (arr_seq a13 l_b (Nat.le_refl _))) (by have := rep_len 60 255; first | omega | (simp; done) | (simp; omega)))) ?_
 rintro _ w21 ⟨u23, rfl, f24, o22⟩
 replace f24 := f24.less (Y := (Or1 b (Old W.heap.size))) (or1_old a13.lt (old_old oW.size))
 replace a13 := a13.step0 o22
 replace oW := oW.tail0 o22
 replace o15 := o15.tail0 o22
 refine wI (d_field (v := (eN ((pgD (List.replicate 60 255)).1))) Try.underlying32 rfl ⟨_, Try.underlying3, rfl⟩ rfl rfl) ?_
 refine wF ([(Value.bool false), (sli b 0 60 60), (eN i), (sli b 0 60 60), (eN i), (Value.bool (decide (i < 60)))] ++ (zs z 6 5 ++ [(sli b 0 60 60), (Value.agg #[(eN ((pgD (List.replicate 60 255)).1)), u23]), (eN ((pgD (List.replicate 60 255)).1))] ++ (us 13))) ?_
 refine wI (n_eql (a := ((pgD (List.replicate 60 255)).1)) (b := 0) rfl rfl (decide_eq_true (by rw [page_ones]))) ?_
 refine wI (d_move rfl) ?_
 refine wpL.on rfl rfl rfl (nb rfl) rfl (d_make1 (n := 60) Try.underlying22 s_ti5 rfl rfl (by omega) (by omega) rfl) ?_
 rintro _ w26 ⟨b25, rfl, g27, a28, o29⟩
 replace a28 : Arr 5 b25 ((List.replicate 60 0).map eB) w26 := by rw [List.map_replicate]; exact a28
 have l_b25 : (List.replicate 60 0 : List UInt8).length = 60 := by simp
 have n_b_b25 : b ≠ b25 := a13.ne g27
 have g_oW_b25 : W.heap.size ≤ b25 := Nat.le_trans oW.size g27
 have g_o15_b25 : w11.heap.size ≤ b25 := Nat.le_trans o15.size g27
 replace f24 := f24.new o29 g27
 replace a13 := a13.step0 o29
 replace oW := oW.tail0 o29
 replace o15 := o15.tail0 o29
 refine wF ([(Value.bool false), (sli b 0 60 60), (eN i), (sli b 0 60 60), (eN i), (Value.bool (decide (i < 60)))] ++ (zs z 6 5 ++ [(sli b 0 60 60), (Value.agg #[(eN ((pgD (List.replicate 60 255)).1)), u23]), (eN ((pgD (List.replicate 60 255)).1)), (Value.bool true), (Value.bool true), (sli b25 0 60 60)] ++ (us 10))) ?_
 refine wpL.on rfl rfl rfl (nb rfl) rfl (d_call (xl := [.tmp 16]) (al := [(sli b25 0 60 60)]) Try.func21 (by kernel_rfl) rfl rfl rfl (pageDecode_ok (List.replicate 60 0) (sli b25 0 60 60) _ (Ps.no (arr_seq a28 l_b25 (Nat.le_refl _))) (by have := rep_len 60 0; first | omega | (simp; done) | (simp; omega)))) ?_
 rintro _ w30 ⟨u32, rfl, f33, o31⟩
 replace f33 := f33.less (Y := (Or1 b25 (Or1 b (Old W.heap.size)))) (or1_old a28.lt (or1_old a13.lt (old_old oW.size)))
 replace f24 := f24.step0 o31
 replace a13 := a13.step0 o31
 replace a28 := a28.step0 o31
 replace oW := oW.tail0 o31
 replace o15 := o15.tail0 o31
 refine wpL.onis rfl rfl rfl (nb rfl) rfl (d_field (v := (eN ((pgD (List.replicate 60 0)).1))) Try.underlying32 rfl ⟨_, Try.underlying3, rfl⟩ rfl rfl) ?_
 refine wpL.onis rfl rfl rfl (nb rfl) rfl (n_eql (a := ((pgD (List.replicate 60 0)).1)) (b := 2) rfl rfl (decide_eq_true (by rw [page_zero]))) ?_
 refine wF ([(Value.bool false), (sli b 0 60 60), (eN i), (sli b 0 60 60), (eN i), (Value.bool (decide (i < 60)))] ++ (zs z 6 5 ++ [(sli b 0 60 60), (Value.agg #[(eN ((pgD (List.replicate 60 255)).1)), u23]), (eN ((pgD (List.replicate 60 255)).1)), (Value.bool true), (Value.bool true), (sli b25 0 60 60), (Value.agg #[(eN ((pgD (List.replicate 60 0)).1)), u32]), (eN ((pgD (List.replicate 60 0)).1)), (Value.bool true)] ++ (us 7))) ?_
 refine wI (d_pick (b := true) (v := (Value.bool true)) rfl rfl) ?_
 refine wI (d_move rfl) ?_
 refine wpL.on rfl rfl rfl (nb rfl) rfl (d_make1 (n := 48) Try.underlying22 s_ti5 rfl rfl (by omega) (by omega) rfl) ?_
 rintro _ w35 ⟨b34, rfl, g36, a37, o38⟩
 replace a37 : Arr 5 b34 ((List.replicate 48 0).map eB) w35 := by rw [List.map_replicate]; exact a37
 have l_b34 : (List.replicate 48 0 : List UInt8).length = 48 := by simp
 have n_b_b34 : b ≠ b34 := a13.ne g36
 have n_b25_b34 : b25 ≠ b34 := a28.ne g36
 have g_oW_b34 : W.heap.size ≤ b34 := Nat.le_trans oW.size g36
 have g_o15_b34 : w11.heap.size ≤ b34 := Nat.le_trans o15.size g36
 replace f24 := f24.new o38 g36
 replace f33 := f33.new o38 g36
 replace a13 := a13.step0 o38
 replace a28 := a28.step0 o38
 replace oW := oW.tail0 o38
 replace o15 := o15.tail0 o38
 refine wF ([(Value.bool false), (sli b 0 60 60), (eN i), (sli b 0 60 60), (eN i), (Value.bool (decide (i < 60)))] ++ (zs z 6 5 ++ [(sli b 0 60 60), (Value.agg #[(eN ((pgD (List.replicate 60 255)).1)), u23]), (eN ((pgD (List.replicate 60 255)).1)), (Value.bool true), (Value.bool true), (sli b25 0 60 60), (Value.agg #[(eN ((pgD (List.replicate 60 0)).1)), u32]), (eN ((pgD (List.replicate 60 0)).1)), (Value.bool true), (Value.bool true), (Value.bool true), (sli b34 0 48 48), undef, undef, undef, undef])) ?_
 refine wpL.on rfl rfl rfl (nb rfl) rfl (d_call (xl := [.tmp 22]) (al := [(sli b34 0 48 48)]) Try.func16 (by kernel_rfl) rfl rfl rfl (pageEncode_ok (List.replicate 48 0) (sli b34 0 48 48) _ (Ps.no (arr_seq a37 l_b34 (Nat.le_refl _))) (by have := rep_len 48 0; first | omega | (simp; done) | (simp; omega)))) ?_
 rintro u41 w39 f42
 replace f42 := f42.ps
 obtain ⟨f42, o40⟩ := f42
 replace f42 := f42.less (Y := (Or1 b34 (Or1 b25 (Or1 b (Old W.heap.size))))) (or1_old a37.lt (or1_old a28.lt (or1_old a13.lt (old_old oW.size))))
 replace f24 := f24.step0 o40
 replace f33 := f33.step0 o40
 replace a13 := a13.step0 o40
 replace a28 := a28.step0 o40
 replace a37 := a37.step0 o40
 replace oW := oW.tail0 o40
 replace o15 := o15.tail0 o40
 refine wpL.onis rfl rfl rfl (nb rfl) rfl (d_lenS rfl Try.underlying22 rfl f42) ?_
 refine wpL.onis rfl rfl rfl (nb rfl) rfl (n_eql (a := ((pgE (List.replicate 48 0)).length)) (b := 60) rfl rfl (decide_eq_true (pgE_length (by simp)))) ?_
 refine wF ([(Value.bool false), (sli b 0 60 60), (eN i), (sli b 0 60 60), (eN i), (Value.bool (decide (i < 60)))] ++ (zs z 6 5 ++ [(sli b 0 60 60), (Value.agg #[(eN ((pgD (List.replicate 60 255)).1)), u23]), (eN ((pgD (List.replicate 60 255)).1)), (Value.bool true), (Value.bool true), (sli b25 0 60 60), (Value.agg #[(eN ((pgD (List.replicate 60 0)).1)), u32]), (eN ((pgD (List.replicate 60 0)).1)), (Value.bool true), (Value.bool true), (Value.bool true), (sli b34 0 48 48), u41, (eN ((pgE (List.replicate 48 0)).length)), (Value.bool true), undef])) ?_
 refine wI (d_pick (b := true) (v := (Value.bool true)) rfl rfl) ?_
 refine wI (d_assign rfl) ?_
 refine wF ([(Value.bool true), (sli b 0 60 60), (eN i), (sli b 0 60 60), (eN i), (Value.bool (decide (i < 60)))] ++ (zs z 6 5 ++ [(sli b 0 60 60), (Value.agg #[(eN ((pgD (List.replicate 60 255)).1)), u23]), (eN ((pgD (List.replicate 60 255)).1)), (Value.bool true), (Value.bool true), (sli b25 0 60 60), (Value.agg #[(eN ((pgD (List.replicate 60 0)).1)), u32]), (eN ((pgD (List.replicate 60 0)).1)), (Value.bool true), (Value.bool true), (Value.bool true), (sli b34 0 48 48), u41, (eN ((pgE (List.replicate 48 0)).length)), (Value.bool true), (Value.bool true)])) ?_
 refine wpL.done ?_
 refine then_n ?_
 refine forget (fun zf43 => ([(Value.bool true), (zf43 1), (eN i)] ++ (zs zf43 3 24))) (by kernel_rfl) (fun zf43 => ?_)
 refine wpIn_ret ?_
 refine leave0 (v := (Value.bool true)) (res1 Try.results14 rfl) ?_
 exact ⟨rfl, oW⟩

set_option maxRecDepth 20000 in
set_option maxHeartbeats 1000000 in
theorem l8same_ok (n : Nat) (la : List UInt8) (u1 u2 : Value) (W : World) (h1 : Ps No (Seq kB la u1) W) (h2 : Ps No (Seq kB la u2) W) :
    CW Try.prog 20 #[(Value.agg #[(eN n), u1]), (Value.agg #[(eN n), u2])] W (Rt (RIs (.bool true) W)) := by
 have oW : Only No W W := Only.refl _ _
 refine enter (al := [(Value.agg #[(eN n), u1]), (Value.agg #[(eN n), u2])]) (k := 17) (l := ([(Value.agg #[(eN n), u1]), (Value.agg #[(eN n), u2])] ++ (us 17))) Try.func20 rfl Try.ntmps20 rfl rfl ?_
 refine wpIn_seq ?_
 refine plain ?_
 refine wO (d_box rfl rfl) ?_
 rintro _ w12 ⟨b11, rfl, g13, a14, o15⟩
 have g_oW_b11 : W.heap.size ≤ b11 := Nat.le_trans oW.size g13
 replace h1 := h1.new o15 g13
 replace h2 := h2.new o15 g13
 replace oW := oW.tail0 o15
 refine wO (d_box rfl rfl) ?_
 rintro _ w17 ⟨b16, rfl, g18, a19, o20⟩
 have n_b11_b16 : b11 ≠ b16 := a14.ne g18
 have g_oW_b16 : W.heap.size ≤ b16 := Nat.le_trans oW.size g18
 replace h1 := h1.new o20 g18
 replace h2 := h2.new o20 g18
 replace a14 := a14.step0 o20
 replace oW := oW.tail0 o20
 refine wI (d_assign rfl) ?_
 refine wF ([(Value.agg #[(eN n), u1]), (Value.agg #[(eN n), u2]), (ptr b11 0), (ptr b16 0), (Value.bool false)] ++ (us 14)) ?_
 refine wpL.done ?_
 refine then_n ?_
 refine wpIn_seq ?_
 refine plain ?_
 refine wI (d_fieldAddr (j := 0) Try.underlying32 rfl s_ti3 (by decide) rfl rfl) ?_
 refine wI (d_load (v := (eN n)) ⟨_, Try.underlying3, rfl⟩ rfl a14 rfl) ?_
 refine wI (d_fieldAddr (j := 0) Try.underlying32 rfl s_ti3 (by decide) rfl rfl) ?_
 refine wF ([(Value.agg #[(eN n), u1]), (Value.agg #[(eN n), u2]), (ptr b11 0), (ptr b16 0), (Value.bool false), (ptr b11 0), (eN n), (ptr b16 0)] ++ (us 11)) ?_
 refine wI (d_load (v := (eN n)) ⟨_, Try.underlying3, rfl⟩ rfl a19 rfl) ?_
 refine wI (n_eql (a := n) (b := n) rfl rfl (decide_eq_true rfl)) ?_
 refine wI (d_move rfl) ?_
 refine wF ([(Value.agg #[(eN n), u1]), (Value.agg #[(eN n), u2]), (ptr b11 0), (ptr b16 0), (Value.bool false), (ptr b11 0), (eN n), (ptr b16 0), (eN n), (Value.bool true), (Value.bool true)] ++ (us 8)) ?_
 refine wpL.onis rfl rfl rfl (nb rfl) rfl (d_fieldAddr (j := 1) Try.underlying32 rfl s_ti22 (by decide) rfl rfl) ?_
 refine wpL.onis rfl rfl rfl (nb rfl) rfl (d_load (v := u1) ⟨_, Try.underlying22, rfl⟩ rfl a14 rfl) ?_
 refine wpL.onis rfl rfl rfl (nb rfl) rfl (d_str Try.underlying22 Try.underlying5 Try.underlying9 rfl h1) ?_
 refine wF ([(Value.agg #[(eN n), u1]), (Value.agg #[(eN n), u2]), (ptr b11 0), (ptr b16 0), (Value.bool false), (ptr b11 0), (eN n), (ptr b16 0), (eN n), (Value.bool true), (Value.bool true), (ptr b11 1), u1, (Value.string (strOf la))] ++ (us 5)) ?_
 refine wpL.onis rfl rfl rfl (nb rfl) rfl (d_fieldAddr (j := 1) Try.underlying32 rfl s_ti22 (by decide) rfl rfl) ?_
 refine wpL.onis rfl rfl rfl (nb rfl) rfl (d_load (v := u2) ⟨_, Try.underlying22, rfl⟩ rfl a19 rfl) ?_
 refine wpL.onis rfl rfl rfl (nb rfl) rfl (d_str Try.underlying22 Try.underlying5 Try.underlying9 rfl h2) ?_
 refine wF [(Value.agg #[(eN n), u1]), (Value.agg #[(eN n), u2]), (ptr b11 0), (ptr b16 0), (Value.bool false), (ptr b11 0), (eN n), (ptr b16 0), (eN n), (Value.bool true), (Value.bool true), (ptr b11 1), u1, (Value.string (strOf la)), (ptr b16 1), u2, (Value.string (strOf la)), undef, undef] ?_
 refine wpL.onis rfl rfl rfl (nb rfl) rfl (d_seql (a := la) (c := la) rfl rfl (decide_eq_true rfl)) ?_
 refine wI (d_pick (b := true) (v := (Value.bool true)) rfl rfl) ?_
 refine wI (d_assign rfl) ?_
 refine wF [(Value.agg #[(eN n), u1]), (Value.agg #[(eN n), u2]), (ptr b11 0), (ptr b16 0), (Value.bool true), (ptr b11 0), (eN n), (ptr b16 0), (eN n), (Value.bool true), (Value.bool true), (ptr b11 1), u1, (Value.string (strOf la)), (ptr b16 1), u2, (Value.string (strOf la)), (Value.bool true), (Value.bool true)] ?_
 refine wpL.done ?_
 refine then_n ?_
 refine wpIn_ret ?_
 refine leave0 (v := (Value.bool true)) (res1 Try.results20 rfl) ?_
 exact ⟨rfl, oW⟩

end Go.Proofs.YtgalehapmdabeaaF
