import Derived.Test.YtgalehapmdabeaaFz
import Derived.Test.YtgalehapmdabeaaTy
import Derived.Test.YtgalehapmdabeaaHbch
set_option linter.unusedVariables false
set_option linter.unusedSimpArgs false
namespace Go.Proofs.YtgalehapmdabeaaF
open Go Go.Shelf Go.Proofs.YtgalehapmdabeaaS Ram
set_option maxRecDepth 20000 in
set_option maxHeartbeats 1000000 in
theorem ref2Powers_ok (W : World) :
    CW Try.prog 102 #[] W (Rt (RIs (Value.agg ((pwT 255).map eB).toArray) W)) := by
 have oW : Only No W W := Only.refl _ _
 refine enter (al := []) (k := 14) (l := (us 14)) Try.func102 rfl Try.ntmps102 rfl rfl ?_
 refine wpIn_seq ?_
 refine plain ?_
 refine wO (d_alloc s_ti132 (by simp [Value.cells]; rfl)) ?_
 rintro _ w11 ⟨r, rfl, g12, a13, o14⟩
 replace a13 : Arr 132 r ((List.replicate 255 0).map eB) w11 := by rw [List.map_replicate]; exact a13
 have l_r : (List.replicate 255 0 : List UInt8).length = 255 := by simp
 have g_oW_r : W.heap.size ≤ r := Nat.le_trans oW.size g12
 replace oW := oW.tail0 o14
 refine wF ([(ptr r 0)] ++ (us 13)) ?_
 refine wpL.done ?_
 refine then_n ?_
 refine wpIn_seq ?_
 refine plain ?_
 refine wO (d_alloc s_ti132 (by simp [Value.cells]; rfl)) ?_
 rintro _ w15 ⟨l, rfl, g16, a17, o18⟩
 replace a17 : Arr 132 l ((List.replicate 255 0).map eB) w15 := by rw [List.map_replicate]; exact a17
 have l_l : (List.replicate 255 0 : List UInt8).length = 255 := by simp
 have n_r_l : r ≠ l := a13.ne g16
 have g_oW_l : W.heap.size ≤ l := Nat.le_trans oW.size g16
 replace a13 := a13.step0 o18
 replace oW := oW.tail0 o18
 refine wF ([(ptr r 0), (ptr l 0)] ++ (us 12)) ?_
 refine wpL.done ?_
 refine then_n ?_
 refine wpIn_seq ?_
 refine plain ?_
 refine wI (d_assign rfl) ?_
 refine wF ([(ptr r 0), (ptr l 0), (eB 1)] ++ (us 11)) ?_
 refine wpL.done ?_
 refine then_n ?_
 refine wpIn_seq ?_
 refine wpIn_seq ?_
 refine plain ?_
 refine wI (d_assign rfl) ?_
 refine wF ([(ptr r 0), (ptr l 0), (eB 1), (eN 0)] ++ (us 10)) ?_
 refine wpL.done ?_
 refine then_n ?_
 refine wpIn_block ?_
 refine loop2 (fun (i : (Nat)) => fun (z : Nat → Value) => (([(ptr r 0), (ptr l 0), (eB (exB i)), (eN i)] ++ (zs z 4 9 ++ [undef])) : List Value)) (fun (i : (Nat)) => fun (w_ : World) => (i ≤ 255) ∧ Only (Or1 l (Or1 r No)) w15 w_ ∧ Arr 132 r ((List.replicate 255 0).map eB) w_ ∧ (pwT i).length = 255 ∧ Arr 132 l ((pwT i).map eB) w_) (fun (i : (Nat)) => 255 - i) 0 rfl ?_ ?_
 ·
  refine ⟨?_, ?_, ?_, ?_, ?_⟩
  ·
   (try dsimp only)
   all_goals (omega)
  ·
   exact Only.refl _ _
  ·
   exact a13
  ·
   exact pwT_length 0
  ·
   (try dsimp only)
   all_goals (rw [← pwT_zero]; exact a17)
 rintro i z w20 ⟨hi, o19, a13, l_l, a17⟩
 (try dsimp only)
 replace oW := oW.tail o19 (tl_new g_oW_l (tl_new g_oW_r tl_no))
 refine wpIn_seq ?_
 refine wpIn_seq ?_
 refine plain ?_
 refine wI (d_move rfl) ?_
 refine wI (n_lss (a := i) (b := 255) rfl rfl rfl) ?_
 refine wF ([(ptr r 0), (ptr l 0), (eB (exB i)), (eN i), (eN i), (Value.bool (decide (i < 255)))] ++ (zs z 6 7 ++ [undef])) ?_
 refine wpL.done ?_
 refine then_n ?_
 refine cond_if rfl (fun c0 => ?_) (fun c0 => ?_)
 ·
  refine wpIn_skip ?_
  refine then_n ?_
  refine wpIn_seq ?_
  refine wpIn_block ?_
  refine wpIn_seq ?_
  refine plain ?_
  refine wI (d_move rfl) ?_
  refine wI (d_move rfl) ?_
  refine wI (d_indexArr1 (i := i) Try.underlying132 s_ti5 rfl (show _ = Value.int _ ((i : Nat) : Int) from rfl) (by omega)) ?_
  refine wF [(ptr r 0), (ptr l 0), (eB (exB i)), (eN i), (eN i), (Value.bool (decide (i < 255))), (z 6), (z 7), (eN i), (eB (exB i)), (ptr l i), (z 11), (z 12), undef] ?_
  refine wO (d_store (b := l) (i := i) (v := (eB (exB i))) s_ti5 rfl rfl rfl a17 (by rw [List.length_map, l_l]; omega) (m_put (pwT i) i (exB i) eB)) ?_
  rintro _ w21 ⟨a22, o23⟩
  replace a13 := a13.step o23 (fun e => absurd e n_r_l)
  replace oW := oW.tailb o23 g_oW_l
  replace o19 := o19.tail o23 (fun k _ e => by have : k = l := e; rw [this]; exact in1)
  replace l_l : ((pwT i).set i (exB i) : List UInt8).length = 255 := (List.length_set ..).trans l_l
  refine wF [(ptr r 0), (ptr l 0), (eB (exB i)), (eN i), (eN i), (Value.bool (decide (i < 255))), (z 6), (z 7), (eN i), (eB (exB i)), (ptr l i), (z 11), (z 12), undef] ?_
  refine wpL.done ?_
  refine then_n ?_
  refine plain ?_
  refine wI (d_move rfl) ?_
  refine wO (d_call (xl := [.tmp 11, .const (.int .u8 2)]) (al := [(eB (exB i)), (eB 2)]) Try.func112 (by kernel_rfl) rfl rfl rfl (ref2Mul_ok (exB i) 2 _)) ?_
  rintro _ w24 ⟨rfl, o25⟩
  replace a13 := a13.step0 o25
  replace a22 := a22.step0 o25
  replace oW := oW.tail0 o25
  replace o19 := o19.tail0 o25
  refine wI (d_assign rfl) ?_
  refine wF [(ptr r 0), (ptr l 0), (eB (gm (exB i) 2)), (eN i), (eN i), (Value.bool (decide (i < 255))), (z 6), (z 7), (eN i), (eB (exB i)), (ptr l i), (eB (exB i)), (eB (gm (exB i) 2)), undef] ?_
  refine wpL.done ?_
  refine inb_n (then_n ?_)
  refine plain ?_
  refine wI (d_move rfl) ?_
  refine wI (n_add (a := i) (b := 1) rfl rfl (by omega)) ?_
  refine wI (d_assign rfl) ?_
  refine wF [(ptr r 0), (ptr l 0), (eB (gm (exB i) 2)), (eN (i + 1)), (eN i), (Value.bool (decide (i < 255))), (eN i), (eN (i + 1)), (eN i), (eB (exB i)), (ptr l i), (eB (exB i)), (eB (gm (exB i) 2)), undef] ?_
  refine wpL.done ?_
  refine then_n ?_
  refine ⟨[(ptr r 0), (ptr l 0), (eB (exB (i + 1))), (eN (i + 1)), (eN i), (Value.bool (decide (i < 255))), (eN i), (eN (i + 1)), (eN i), (eB (exB i)), (ptr l i), (eB (exB i)), (eB (gm (exB i) 2)), undef], (i + 1), (congrArg (fun l_ => fr l_ _) (show ([(ptr r 0), (ptr l 0), (eB (gm (exB i) 2)), (eN (i + 1)), (eN i), (Value.bool (decide (i < 255))), (eN i), (eN (i + 1)), (eN i), (eB (exB i)), (ptr l i), (eB (exB i)), (eB (gm (exB i) 2)), undef] : List Value) = [(ptr r 0), (ptr l 0), (eB (exB (i + 1))), (eN (i + 1)), (eN i), (Value.bool (decide (i < 255))), (eN i), (eN (i + 1)), (eN i), (eB (exB i)), (ptr l i), (eB (exB i)), (eB (gm (exB i) 2)), undef] from reslot [(ptr r 0), (ptr l 0), (eB (gm (exB i) 2)), (eN (i + 1)), (eN i), (Value.bool (decide (i < 255))), (eN i), (eN (i + 1)), (eN i), (eB (exB i)), (ptr l i), (eB (exB i)), (eB (gm (exB i) 2)), undef] 2 (congrArg eB (exB_two i)))), rfl, ⟨?_, ?_, ?_, ?_, ?_⟩, ?_⟩
  ·
   (try dsimp only)
   all_goals (omega)
  ·
   exact o19
  ·
   exact a13
  ·
   exact pwT_length _
  ·
   (try dsimp only)
   all_goals (rw [← pwT_step]; exact a22)
  ·
   (try dsimp only)
   all_goals (omega)
 refine wpIn_exit ?_
 refine then_x (then_x (inb_e ?_))
 refine then_n ?_
 refine wpIn_seq ?_
 refine plain ?_
 refine wI (d_loadAg (vs := ((pwT i).map eB)) ⟨_, Try.underlying132, rfl⟩ s_ti132 rfl a17 (take_all l_l) (map_len l_l)) ?_
 refine wO (d_storeAg s_ti132 rfl rfl (map_len (l_l)) (oneC (fun _ => rfl) _) a13 (by rw [map_len l_r]; omega) (put_all (map_len l_r))) ?_
 rintro _ w26 ⟨a27, o28⟩
 replace a17 := a17.step o28 (fun e => absurd e (Ne.symm n_r_l))
 replace oW := oW.tailb o28 g_oW_r
 replace o19 := o19.tail o28 (fun k _ e => by have : k = r := e; rw [this]; exact (in2 in1))
 replace l_r : (pwT i : List UInt8).length = 255 := l_l
 refine wF ([(ptr r 0), (ptr l 0), (eB (exB i)), (eN i), (eN i), (Value.bool (decide (i < 255)))] ++ (zs z 6 7 ++ [(Value.agg ((pwT i).map eB).toArray)])) ?_
 refine wpL.done ?_
 refine then_n ?_
 refine wpIn_ret ?_
 refine leave0 (resC Try.results102 ⟨_, Try.underlying132, rfl⟩ s_ti132 rfl a27 (map_len l_r)) ?_
 exact ⟨by rw [show i = 255 by omega], oW⟩


/-- a bit, as a byte. -/
def btB (l : List UInt8) (k : Nat) : UInt8 := shrB (l.getD (k / 8) 0) (k % 8) &&& 1
theorem btB_no {l : List UInt8} {k : Nat} : btB l k = 0 ↔ bt l k = false := shr_no _ (Nat.mod_lt _ (by decide))
set_option maxRecDepth 20000 in
set_option maxHeartbeats 1000000 in
theorem ref4Bit_ok (la : List UInt8) (k : Nat) (u1 : Value) (W : World) (h1 : Ps No (Seq kB la u1) W) (g1 : la.length ≤ 1048576) (g2 : k < 8 * la.length) :
    CW Try.prog 68 #[u1, (eN k)] W (Rt (RIs (eB (btB la k)) W)) := by
 have oW : Only No W W := Only.refl _ _
 refine enter (al := [u1, (eN k)]) (k := 13) (l := ([u1, (eN k)] ++ (us 13))) Try.func68 rfl Try.ntmps68 rfl rfl ?_
 refine wpIn_seq ?_
 refine plain ?_
 refine wI (d_assign rfl) ?_
 refine wF ([u1, (eN k), undef, undef, (eB 0)] ++ (us 10)) ?_
 refine wpL.done ?_
 refine then_n ?_
 refine wpIn_seq ?_
 refine plain ?_
 refine wI (d_move rfl) ?_
 refine wI (d_move rfl) ?_
 refine wI (n_quo (a := k) (b := 8) rfl rfl (by decide) (by omega)) ?_
 refine wF ([u1, (eN k), undef, undef, (eB 0), u1, (eN k), (eN (k / 8))] ++ (us 7)) ?_
 refine wI (d_ix (i := (k / 8)) (xs := la) Try.underlying22 s_ti5 rfl h1 (show _ = Value.int _ ((k / 8 : Nat) : Int) from rfl) (by first | omega | (simp; done) | (simp; omega))) ?_
 refine wI (d_ldx (i := (k / 8)) (xs := la) (enc := eB) (v := (la.getD (k / 8) 0)) ⟨_, Try.underlying5, rfl⟩ rfl h1 (g_at (by first | omega | (simp; done) | (simp; omega)))) ?_
 refine wI (d_move rfl) ?_
 refine wF [u1, (eN k), undef, undef, (eB 0), u1, (eN k), (eN (k / 8)), (ixp u1 (k / 8)), (eB (la.getD (k / 8) 0)), (eN k), undef, undef, undef, undef] ?_
 refine wI (n_rem (a := k) (b := 8) rfl rfl (by decide)) ?_
 refine wI (n_toU Try.underlying3 Try.underlying66 rfl (by omega)) ?_
 refine wI (b_shr (a := (k % 8)) rfl rfl (by omega)) ?_
 refine wF [u1, (eN k), undef, undef, (eB 0), u1, (eN k), (eN (k / 8)), (ixp u1 (k / 8)), (eB (la.getD (k / 8) 0)), (eN k), (eN (k % 8)), (Value.int .u64 ((k % 8 : Nat) : Int)), (eB (shrB (la.getD (k / 8) 0) (k % 8))), undef] ?_
 refine wI (b_and (c := (shrB (la.getD (k / 8) 0) (k % 8))) (e := 1) rfl rfl) ?_
 refine wI (d_assign rfl) ?_
 refine wF [u1, (eN k), undef, undef, (eB ((shrB (la.getD (k / 8) 0) (k % 8)) &&& 1)), u1, (eN k), (eN (k / 8)), (ixp u1 (k / 8)), (eB (la.getD (k / 8) 0)), (eN k), (eN (k % 8)), (Value.int .u64 ((k % 8 : Nat) : Int)), (eB (shrB (la.getD (k / 8) 0) (k % 8))), (eB ((shrB (la.getD (k / 8) 0) (k % 8)) &&& 1))] ?_
 refine wpL.done ?_
 refine then_n ?_
 refine wpIn_ret ?_
 refine leave0 (v := (eB ((shrB (la.getD (k / 8) 0) (k % 8)) &&& 1))) (res1 Try.results68 rfl) ?_
 exact ⟨rfl, oW⟩

set_option maxRecDepth 20000 in
set_option maxHeartbeats 1000000 in
theorem ref4Zero_ok (la : List UInt8) (u1 : Value) (W : World) (h1 : Ps No (Seq kB la u1) W) (g1 : la.length ≤ 1048576) :
    CW Try.prog 101 #[u1] W (Rt (RIs (.bool (whole la)) W)) := by
 have oW : Only No W W := Only.refl _ _
 refine enter (al := [u1]) (k := 14) (l := ([u1] ++ (us 14))) Try.func101 rfl Try.ntmps101 rfl rfl ?_
 refine wpIn_seq ?_
 refine plain ?_
 refine wI (d_assign rfl) ?_
 refine wF ([u1, undef, (Value.bool false)] ++ (us 12)) ?_
 refine wpL.done ?_
 refine then_n ?_
 refine wpIn_seq ?_
 refine wpIn_seq ?_
 refine plain ?_
 refine wI (d_assign rfl) ?_
 refine wF ([u1, undef, (Value.bool false), (eN 0)] ++ (us 11)) ?_
 refine wpL.done ?_
 refine then_n ?_
 refine wpIn_block ?_
 refine loop2 (fun (i : (Nat)) => fun (z : Nat → Value) => (([u1, undef, (z 2), (eN i)] ++ (zs z 4 11)) : List Value)) (fun (i : (Nat)) => fun (w_ : World) => (i ≤ la.length) ∧ (∀ j, j < i → la.getD j 0 = 0) ∧ Only No W w_) (fun (i : (Nat)) => la.length - i) 0 rfl ?_ ?_
 ·
  refine ⟨?_, ?_, ?_⟩
  ·
   exact Nat.zero_le _
  ·
   exact fun j hj => absurd hj (Nat.not_lt_zero _)
  ·
   exact Only.refl _ _
 rintro i z w12 ⟨hi, hno, o11⟩
 (try dsimp only)
 replace h1 := h1.step o11 no_any
 replace oW := oW.tail o11 tl_no
 refine wpIn_seq ?_
 refine wpIn_seq ?_
 refine plain ?_
 refine wI (d_move rfl) ?_
 refine wI (d_move rfl) ?_
 refine wI (d_lenS rfl Try.underlying22 rfl h1) ?_
 refine wF ([u1, undef, (z 2), (eN i), (eN i), u1, (eN la.length)] ++ (zs z 7 8)) ?_
 refine wI (n_lss (a := i) (b := la.length) rfl rfl rfl) ?_
 refine wF ([u1, undef, (z 2), (eN i), (eN i), u1, (eN la.length), (Value.bool (decide (i < la.length)))] ++ (zs z 8 7)) ?_
 refine wpL.done ?_
 refine then_n ?_
 refine cond_if rfl (fun c0 => ?_) (fun c0 => ?_)
 ·
  refine wpIn_skip ?_
  refine then_n ?_
  refine wpIn_seq ?_
  refine wpIn_block ?_
  refine wpIn_seq ?_
  refine plain ?_
  refine wI (d_move rfl) ?_
  refine wI (d_move rfl) ?_
  refine wI (d_ix (i := i) (xs := la) Try.underlying22 s_ti5 rfl h1 (show _ = Value.int _ ((i : Nat) : Int) from rfl) (by first | omega | (simp; done) | (simp; omega))) ?_
  refine wF [u1, undef, (z 2), (eN i), (eN i), u1, (eN la.length), (Value.bool (decide (i < la.length))), (z 8), (z 9), u1, (eN i), (ixp u1 i), (z 13), (z 14)] ?_
  refine wI (d_ldx (i := i) (xs := la) (enc := eB) (v := (la.getD i 0)) ⟨_, Try.underlying5, rfl⟩ rfl h1 (g_at (by first | omega | (simp; done) | (simp; omega)))) ?_
  refine wI (b_neq (c := (la.getD i 0)) (e := 0) rfl rfl rfl) ?_
  refine wF [u1, undef, (z 2), (eN i), (eN i), u1, (eN la.length), (Value.bool (decide (i < la.length))), (z 8), (z 9), u1, (eN i), (ixp u1 i), (eB (la.getD i 0)), (Value.bool (!decide (((la.getD i 0) : UInt8) = (0 : UInt8))))] ?_
  refine wpL.done ?_
  refine then_n ?_
  refine cond_un rfl (fun c1 => ?_) (fun c1 => ?_)
  ·
   refine wpIn_seq ?_
   refine plain ?_
   refine wI (d_assign rfl) ?_
   refine wF [u1, undef, (Value.bool false), (eN i), (eN i), u1, (eN la.length), (Value.bool (decide (i < la.length))), (z 8), (z 9), u1, (eN i), (ixp u1 i), (eB (la.getD i 0)), (Value.bool (!decide (((la.getD i 0) : UInt8) = (0 : UInt8))))] ?_
   refine wpL.done ?_
   refine then_n ?_
   refine wpIn_ret ?_
   refine inb_r (then_r (then_r (inb_r (then_r ?_))))
   refine leave0 (v := (Value.bool false)) (res1 Try.results101 rfl) ?_
   exact ⟨congrArg Value.bool (Eq.symm (Bool.eq_false_iff.2 fun h => c1 ((whole_iff la).1 h i c0))), oW⟩
  refine wpIn_skip ?_
  refine inb_n (then_n ?_)
  refine plain ?_
  refine wI (d_move rfl) ?_
  refine wI (n_add (a := i) (b := 1) rfl rfl (by omega)) ?_
  refine wI (d_assign rfl) ?_
  refine wF [u1, undef, (z 2), (eN (i + 1)), (eN i), u1, (eN la.length), (Value.bool (decide (i < la.length))), (eN i), (eN (i + 1)), u1, (eN i), (ixp u1 i), (eB (la.getD i 0)), (Value.bool (!decide (((la.getD i 0) : UInt8) = (0 : UInt8))))] ?_
  refine wpL.done ?_
  refine then_n ?_
  refine ⟨_, (i + 1), rfl, rfl, ⟨?_, ?_, ?_⟩, ?_⟩
  ·
   (try dsimp only)
   all_goals (omega)
  ·
   (try dsimp only)
   all_goals (exact fun j hj => (Nat.lt_succ_iff_lt_or_eq.1 hj).elim (hno j) (fun h => by rw [h]; exact c1))
  ·
   exact o11
  ·
   (try dsimp only)
   all_goals (omega)
 refine wpIn_exit ?_
 refine then_x (then_x (inb_e ?_))
 refine then_n ?_
 refine wpIn_seq ?_
 refine plain ?_
 refine wI (d_assign rfl) ?_
 refine wF ([u1, undef, (Value.bool true), (eN i), (eN i), u1, (eN la.length), (Value.bool (decide (i < la.length)))] ++ (zs z 8 7)) ?_
 refine wpL.done ?_
 refine then_n ?_
 refine wpIn_ret ?_
 refine leave0 (v := (Value.bool true)) (res1 Try.results101 rfl) ?_
 exact ⟨congrArg Value.bool (Eq.symm ((whole_iff la).2 fun j hj => hno j (by omega))), oW⟩

set_option maxRecDepth 20000 in
set_option maxHeartbeats 1000000 in
theorem ref4Turned_ok (la : List UInt8) (k : Nat) (u1 : Value) (W : World) (h1 : Ps No (Seq kB la u1) W) (g8 : la.length = 8) (gk : k < 255) :
    CW Try.prog 104 #[u1, (eN k), (Value.agg ((pwT 255).map eB).toArray)] W (Rt (ROw 5 eB (turnL la k) W)) := by
 have oW : Only No W W := Only.refl _ _
 refine enter (al := [u1, (eN k), (Value.agg ((pwT 255).map eB).toArray)]) (k := 30) (l := ([u1, (eN k), (Value.agg ((pwT 255).map eB).toArray)] ++ (us 30))) Try.func104 rfl Try.ntmps104 rfl rfl ?_
 refine wpIn_seq ?_
 refine plain ?_
 refine wO (d_box (v := (Value.agg ((pwT 255).map eB).toArray)) (cs := (pwT 255).map eB) rfl rfl) ?_
 rintro _ w11 ⟨pw, rfl, g12, a13, o14⟩
 have l_pw : ((pwT 255)).length = 255 := by simp [pwT_length 255]
 have g_oW_pw : W.heap.size ≤ pw := Nat.le_trans oW.size g12
 replace h1 := h1.new o14 g12
 replace oW := oW.tail0 o14
 refine wI (d_assign rfl) ?_
 refine wF ([u1, (eN k), (Value.agg ((pwT 255).map eB).toArray), undef, undef, (ptr pw 0), (Value.slice none 0 0)] ++ (us 26)) ?_
 refine wpL.done ?_
 refine then_n ?_
 refine wpIn_seq ?_
 refine plain ?_
 refine wO (d_buildL (cs := []) Try.underlying22 s_ti5 rfl (nb rfl) parts_nil rfl) ?_
 rintro _ w16 ⟨b15, rfl, g17, a18, o19⟩
 replace a18 : Arr 5 b15 (([] : List UInt8).map eB) w16 := a18
 have l_b15 : ([] : List UInt8).length = 0 := rfl
 have n_pw_b15 : pw ≠ b15 := a13.ne g17
 have g_oW_b15 : W.heap.size ≤ b15 := Nat.le_trans oW.size g17
 replace h1 := h1.new o19 g17
 replace a13 := a13.step0 o19
 replace oW := oW.tail0 o19
 refine wI (d_move rfl) ?_
 have a20 := Ow.of_map2 a18 l_b15
 have nq_t_pw := nq_b (Ne.symm n_pw_b15)
 have q_oW_t : Fr (some b15) none W.heap.size := Fr.new g_oW_b15
 replace h1 := h1.less (Y := (Orq (some b15) (Or1 pw No))) (xx_br (xx_or1 xx_id))
 refine wO (d_append Try.underlying22 Try.underlying22 s_ti5 rfl rfl rfl a20 (SrcV.of_seq h1 (fun _ => rfl)) (by simp; omega) (by simp; omega) rfl) ?_
 rintro u21 w22 ⟨bo23, a24, o25, q26⟩
 replace a24 : Ow 5 1 bo23 u21 (la).length ((la).map eB) w22 := by simpa using a24
 replace h1 := h1.gr o25 (fun k e => (.inl e)) (xx_re (Fr.of_or q26) (xx_or1 xx_id))
 have nq2 := nqs nq_t_pw (Fr.of_or q26) a13.lt
 replace a13 := a13.step o25 (fun e => nq_t_pw _ e rfl)
 replace nq_t_pw := nq2
 clear nq2
 have tq := oW.size
 replace oW := oW.tailr o25 q_oW_t (fun _ e => by cases e)
 replace q_oW_t := qtr (Fr.of_or q26) q_oW_t tq
 clear tq
 refine wF ([u1, (eN k), (Value.agg ((pwT 255).map eB).toArray), undef, undef, (ptr pw 0), (Value.slice none 0 0), undef, undef, (sli b15 0 0 0), u1, u21] ++ (us 21)) ?_
 refine wI (d_assign rfl) ?_
 refine wF ([u1, (eN k), (Value.agg ((pwT 255).map eB).toArray), undef, undef, (ptr pw 0), (Value.slice none 0 0), u21, undef, (sli b15 0 0 0), u1, u21] ++ (us 21)) ?_
 refine wpL.done ?_
 refine then_n ?_
 refine wpIn_seq ?_
 refine wpIn_seq ?_
 refine plain ?_
 refine wI (d_assign rfl) ?_
 refine wF ([u1, (eN k), (Value.agg ((pwT 255).map eB).toArray), undef, undef, (ptr pw 0), (Value.slice none 0 0), u21, (eN 1), (sli b15 0 0 0), u1, u21] ++ (us 21)) ?_
 refine wpL.done ?_
 refine then_n ?_
 refine wpIn_block ?_
 refine loop2 (fun (i : (Nat)) => fun (z : Nat → Value) => (([u1, (eN k), (Value.agg ((pwT 255).map eB).toArray), undef, undef, (ptr pw 0), (Value.slice none 0 0), u21, (eN (i + 1)), (sli b15 0 0 0), u1, u21] ++ (zs z 12 20 ++ [undef])) : List Value)) (fun (i : (Nat)) => fun (w_ : World) => (i ≤ 8) ∧ Only (Orq bo23 (Or1 pw No)) w22 w_ ∧ Arr 132 pw ((pwT 255).map eB) w_ ∧ Ow 5 1 bo23 u21 (turnTo la k i).length ((turnTo la k i).map eB) w_) (fun (i : (Nat)) => 8 - i) 0 rfl ?_ ?_
 ·
  refine ⟨?_, ?_, ?_, ?_⟩
  ·
   (try dsimp only)
   all_goals (omega)
  ·
   exact Only.refl _ _
  ·
   exact a13
  ·
   (try dsimp only)
   all_goals (rw [← turnTo_zero]; exact a24)
 rintro i z w28 ⟨hi, o27, a13, a24⟩
 (try dsimp only)
 replace h1 := h1.step o27 (orq_mono (or1_mono no_any))
 replace oW := oW.tail o27 (tl_q q_oW_t (fun _ e => by cases e) (tl_new g_oW_pw tl_no))
 have q_o27_t : Fr bo23 bo23 w22.heap.size := Fr.same
 refine wpIn_seq ?_
 refine wpIn_seq ?_
 refine plain ?_
 refine wI (d_move rfl) ?_
 refine wI (n_leq (a := (i + 1)) (b := 8) rfl rfl rfl) ?_
 refine wF ([u1, (eN k), (Value.agg ((pwT 255).map eB).toArray), undef, undef, (ptr pw 0), (Value.slice none 0 0), u21, (eN (i + 1)), (sli b15 0 0 0), u1, u21, (eN (i + 1)), (Value.bool (decide ((i + 1) ≤ 8)))] ++ (zs z 14 18 ++ [undef])) ?_
 refine wpL.done ?_
 refine then_n ?_
 refine cond_if rfl (fun c0 => ?_) (fun c0 => ?_)
 ·
  refine wpIn_skip ?_
  refine then_n ?_
  refine wpIn_seq ?_
  refine wpIn_block ?_
  refine drawn_last (O := (Isq bo23)) (m := 16) (R := fun w_ => Ow 5 1 bo23 u21 ((turnTo la k i).set ((i + 1) - 1) (((turnTo la k i).getD ((i + 1) - 1) 0) ^^^ ((pwT 255).getD ((k * (i + 1)) % 255) 0))).length (((turnTo la k i).set ((i + 1) - 1) (((turnTo la k i).getD ((i + 1) - 1) 0) ^^^ ((pwT 255).getD ((k * (i + 1)) % 255) 0))).map eB) w_) [0, 0, 2, 0, 0, 16, 56, 120, 0, 0, 768, 1792, 3840, 7936, 16376, 32767, 65535] [(0, 16), (1, 17), (2, 18), (3, 19), (4, 20), (5, 21), (6, 22), (7, 23), (8, 24), (9, 25), (10, 26), (11, 27), (12, 28), (13, 29), (14, 30), (15, 31)] [u21, (eN (i + 1)), (eN ((i + 1) - 1)), u21, (eN (i + 1)), (eN ((i + 1) - 1)), (ixp u21 ((i + 1) - 1)), (eB ((turnTo la k i).getD ((i + 1) - 1) 0)), (eN k), (eN (i + 1)), (eN (k * (i + 1))), (eN ((k * (i + 1)) % 255)), (ptr pw ((k * (i + 1)) % 255)), (eB ((pwT 255).getD ((k * (i + 1)) % 255) 0)), (eB (((turnTo la k i).getD ((i + 1) - 1) 0) ^^^ ((pwT 255).getD ((k * (i + 1)) % 255) 0))), (ixp u21 ((i + 1) - 1))] [u1, (eN k), (Value.agg ((pwT 255).map eB).toArray), undef, undef, (ptr pw 0), (Value.slice none 0 0), u21, (eN (i + 1)), (sli b15 0 0 0), u1, u21, (eN (i + 1)), (Value.bool (decide ((i + 1) ≤ 8))), (z 14), (z 15), u21, (eN (i + 1)), (eN ((i + 1) - 1)), u21, (eN (i + 1)), (eN ((i + 1) - 1)), (ixp u21 ((i + 1) - 1)), (eB ((turnTo la k i).getD ((i + 1) - 1) 0)), (eN k), (eN (i + 1)), (eN (k * (i + 1))), (eN ((k * (i + 1)) % 255)), (ptr pw ((k * (i + 1)) % 255)), (eB ((pwT 255).getD ((k * (i + 1)) % 255) 0)), (eB (((turnTo la k i).getD ((i + 1) - 1) 0) ^^^ ((pwT 255).getD ((k * (i + 1)) % 255) 0))), (ixp u21 ((i + 1) - 1)), undef] s_mx (by kernel_rfl) (by kernel_rfl) rfl rfl (by decide) (by kernel_rfl) (by kernel_rfl) ?_ (fun _ _ h_ ho_ => h_.step0 ho_) ⟨_, rfl, rfl, fun w_ hO_ => gd rfl ((d_stx (i := ((i + 1) - 1)) (xs := (turnTo la k i)) (enc := eB) (v := (((turnTo la k i).getD ((i + 1) - 1) 0) ^^^ ((pwT 255).getD ((k * (i + 1)) % 255) 0))) s_ti5 rfl rfl rfl (a24.step0 hO_) (by have := turnTo_length la k i; first | omega | (simp; done) | (simp; omega)) rfl).mono fun u_ w2_ h_ => ⟨h_.2, h_.1⟩)⟩ ?_
  ·
   intro w_ hO_
   refine AllG.cons (gi rfl (d_move rfl)) ?_
   refine AllG.cons (gi rfl (d_move rfl)) ?_
   refine AllG.cons (gi rfl (n_sub (a := (i + 1)) (b := 1) rfl rfl (by omega) (by omega))) ?_
   refine AllG.cons (gi rfl (d_move rfl)) ?_
   refine AllG.cons (gi rfl (d_move rfl)) ?_
   refine AllG.cons (gi rfl (n_sub (a := (i + 1)) (b := 1) rfl rfl (by omega) (by omega))) ?_
   refine AllG.cons (gi rfl (d_ix (i := ((i + 1) - 1)) (xs := (turnTo la k i)) Try.underlying22 s_ti5 rfl ((a24.step0 hO_).seq (X := No) (fun _ _ h => h)) (show _ = Value.int _ (((i + 1) - 1 : Nat) : Int) from rfl) (by have := turnTo_length la k i; first | omega | (simp; done) | (simp; omega)))) ?_
   refine AllG.cons (gi rfl (d_ldx (i := ((i + 1) - 1)) (xs := (turnTo la k i)) (enc := eB) (v := ((turnTo la k i).getD ((i + 1) - 1) 0)) ⟨_, Try.underlying5, rfl⟩ rfl ((a24.step0 hO_).seq (X := No) (fun _ _ h => h)) (g_at (by have := turnTo_length la k i; first | omega | (simp; done) | (simp; omega))))) ?_
   refine AllG.cons (gi rfl (d_move rfl)) ?_
   refine AllG.cons (gi rfl (d_move rfl)) ?_
   refine AllG.cons (gi rfl (n_mul (a := k) (b := (i + 1)) rfl rfl (by have h__ : k * (i + 1) ≤ k * 8 := Nat.mul_le_mul_left _ (by omega); omega))) ?_
   refine AllG.cons (gi rfl (n_rem (a := (k * (i + 1))) (b := 255) rfl rfl (by decide))) ?_
   refine AllG.cons (gi rfl (d_indexArr1 (i := ((k * (i + 1)) % 255)) Try.underlying132 s_ti5 rfl (show _ = Value.int _ (((k * (i + 1)) % 255 : Nat) : Int) from rfl) (Nat.mod_lt _ (by decide)))) ?_
   refine AllG.cons (gi rfl (d_load ⟨_, Try.underlying5, rfl⟩ rfl (a13.step0 hO_) (m_at (d := 0) (by rw [l_pw]; exact Nat.mod_lt _ (by decide))))) ?_
   refine AllG.cons (gi rfl (b_xor (c := ((turnTo la k i).getD ((i + 1) - 1) 0)) (e := ((pwT 255).getD ((k * (i + 1)) % 255) 0)) rfl rfl)) ?_
   refine AllG.cons (gi rfl (d_ix (i := ((i + 1) - 1)) (xs := (turnTo la k i)) Try.underlying22 s_ti5 rfl ((a24.step0 hO_).seq (X := No) (fun _ _ h => h)) (show _ = Value.int _ (((i + 1) - 1 : Nat) : Int) from rfl) (by have := turnTo_length la k i; first | omega | (simp; done) | (simp; omega)))) ?_
   exact AllG.nil
  intro w29 o30 a31
  replace h1 := h1.gr o30 (fun k e => (.inl e)) (xx_re Fr.same (xx_or1 xx_id))
  have nq2 := nqs nq_t_pw Fr.same a13.lt
  replace a13 := a13.step o30 (fun e => nq_t_pw _ e rfl)
  replace nq_t_pw := nq2
  clear nq2
  have tq := oW.size
  replace oW := oW.tailr o30 q_oW_t (fun _ e => by cases e)
  replace q_oW_t := qtr Fr.same q_oW_t tq
  clear tq
  have tq := o27.size
  replace o27 := o27.tailr o30 q_o27_t (fun k e => (.inl e))
  replace q_o27_t := qtr Fr.same q_o27_t tq
  clear tq
  refine inb_n (then_n ?_)
  refine plain ?_
  refine wI (d_move rfl) ?_
  refine wI (n_add (a := (i + 1)) (b := 1) rfl rfl (by omega)) ?_
  refine wI (d_assign rfl) ?_
  refine wF [u1, (eN k), (Value.agg ((pwT 255).map eB).toArray), undef, undef, (ptr pw 0), (Value.slice none 0 0), u21, (eN (i + 1 + 1)), (sli b15 0 0 0), u1, u21, (eN (i + 1)), (Value.bool (decide ((i + 1) ≤ 8))), (eN (i + 1)), (eN (i + 1 + 1)), u21, (eN (i + 1)), (eN ((i + 1) - 1)), u21, (eN (i + 1)), (eN ((i + 1) - 1)), (ixp u21 ((i + 1) - 1)), (eB ((turnTo la k i).getD ((i + 1) - 1) 0)), (eN k), (eN (i + 1)), (eN (k * (i + 1))), (eN ((k * (i + 1)) % 255)), (ptr pw ((k * (i + 1)) % 255)), (eB ((pwT 255).getD ((k * (i + 1)) % 255) 0)), (eB (((turnTo la k i).getD ((i + 1) - 1) 0) ^^^ ((pwT 255).getD ((k * (i + 1)) % 255) 0))), (ixp u21 ((i + 1) - 1)), undef] ?_
  refine wpL.done ?_
  refine then_n ?_
  refine ⟨_, (i + 1), rfl, rfl, ⟨?_, ?_, ?_, ?_⟩, ?_⟩
  ·
   (try dsimp only)
   all_goals (omega)
  ·
   exact o27
  ·
   exact a13
  ·
   (try dsimp only)
   all_goals (rw [show i + 1 - 1 = i from rfl, turnTo_step (by omega)] at a31; exact a31)
  ·
   (try dsimp only)
   all_goals (omega)
 refine wpIn_exit ?_
 refine then_x (then_x (inb_e ?_))
 refine then_n ?_
 refine forget (fun zf32 => (zs zf32 0 7 ++ [u21, (eN (i + 1))] ++ (zs zf32 9 24))) (by kernel_rfl) (fun zf32 => ?_)
 refine wpIn_seq ?_
 refine plain ?_
 refine wI (d_move rfl) ?_
 refine wI (d_assign rfl) ?_
 refine wF (zs zf32 0 6 ++ [u21, u21, (eN (i + 1))] ++ (zs zf32 9 23 ++ [u21])) ?_
 refine wpL.done ?_
 refine then_n ?_
 refine wpIn_ret ?_
 refine leave0 (v := u21) (res1 Try.results104 rfl) ?_
 exact ROw.mk_ a24 (by rw [show i = 8 by omega]; rfl) q_oW_t oW

set_option maxRecDepth 20000 in
set_option maxHeartbeats 1000000 in
theorem ref4Single_ok (la : List UInt8) (u1 : Value) (W : World) (h1 : Ps No (Seq kB la u1) W) (g8 : la.length = 8) :
    CW Try.prog 103 #[u1, (Value.agg ((pwT 255).map eB).toArray), (Value.agg ((logT 255).map eN).toArray)] W (Rt (RIs (eI (sing la)) W)) := by
 have oW : Only No W W := Only.refl _ _
 refine enter (al := [u1, (Value.agg ((pwT 255).map eB).toArray), (Value.agg ((logT 255).map eN).toArray)]) (k := 27) (l := ([u1, (Value.agg ((pwT 255).map eB).toArray), (Value.agg ((logT 255).map eN).toArray)] ++ (us 27))) Try.func103 rfl Try.ntmps103 rfl rfl ?_
 refine wpIn_seq ?_
 refine plain ?_
 refine wO (d_box (v := (Value.agg ((pwT 255).map eB).toArray)) (cs := (pwT 255).map eB) rfl rfl) ?_
 rintro _ w11 ⟨pw, rfl, g12, a13, o14⟩
 have l_pw : ((pwT 255)).length = 255 := by simp [pwT_length 255]
 have g_oW_pw : W.heap.size ≤ pw := Nat.le_trans oW.size g12
 replace h1 := h1.new o14 g12
 replace oW := oW.tail0 o14
 refine wO (d_box (v := (Value.agg ((logT 255).map eN).toArray)) (cs := (logT 255).map eN) rfl rfl) ?_
 rintro _ w15 ⟨lg, rfl, g16, a17, o18⟩
 have l_lg : ((logT 255)).length = 256 := by simp [logT_length 255]
 have n_pw_lg : pw ≠ lg := a13.ne g16
 have g_oW_lg : W.heap.size ≤ lg := Nat.le_trans oW.size g16
 replace h1 := h1.new o18 g16
 replace a13 := a13.step0 o18
 replace oW := oW.tail0 o18
 refine wI (d_assign rfl) ?_
 refine wF ([u1, (Value.agg ((pwT 255).map eB).toArray), (Value.agg ((logT 255).map eN).toArray), undef, (ptr pw 0), (ptr lg 0), (eN 0)] ++ (us 23)) ?_
 refine wpL.done ?_
 refine then_n ?_
 refine wpIn_seq ?_
 refine plain ?_
 refine wI (d_move rfl) ?_
 refine wI (d_ix (i := 0) (xs := la) Try.underlying22 s_ti5 rfl h1 (show _ = Value.int _ ((0 : Nat) : Int) from rfl) (by first | omega | (simp; done) | (simp; omega))) ?_
 refine wI (d_ldx (i := 0) (xs := la) (enc := eB) (v := (la.getD 0 0)) ⟨_, Try.underlying5, rfl⟩ rfl h1 (g_at (by first | omega | (simp; done) | (simp; omega)))) ?_
 refine wF ([u1, (Value.agg ((pwT 255).map eB).toArray), (Value.agg ((logT 255).map eN).toArray), undef, (ptr pw 0), (ptr lg 0), (eN 0), undef, u1, (ixp u1 0), (eB (la.getD 0 0))] ++ (us 19)) ?_
 refine wI (d_indexArr1 (i := ((la.getD 0 0).toNat)) Try.underlying134 s_ti3 rfl (show _ = Value.int _ (((la.getD 0 0) : UInt8).toNat : Int) from rfl) (by have h__ := UInt8.toNat_lt (la.getD 0 0); omega)) ?_
 refine wI (d_load ⟨_, Try.underlying3, rfl⟩ rfl a17 (m_at (d := 0) (by rw [l_lg]; exact UInt8.toNat_lt _))) ?_
 refine wI (d_assign rfl) ?_
 refine wF ([u1, (Value.agg ((pwT 255).map eB).toArray), (Value.agg ((logT 255).map eN).toArray), undef, (ptr pw 0), (ptr lg 0), (eN 0), (eN ((logT 255).getD ((la.getD 0 0).toNat) 0)), u1, (ixp u1 0), (eB (la.getD 0 0)), (ptr lg ((la.getD 0 0).toNat)), (eN ((logT 255).getD ((la.getD 0 0).toNat) 0))] ++ (us 17)) ?_
 refine wpL.done ?_
 refine then_n ?_
 refine forget (fun zf19 => ([u1, (zf19 1), (zf19 2), (zf19 3), (ptr pw 0), (zf19 5), (zf19 6), (eN ((logT 255).getD ((la.getD 0 0).toNat) 0))] ++ (zs zf19 8 22))) (by kernel_rfl) (fun zf19 => ?_)
 refine wpIn_seq ?_
 refine wpIn_seq ?_
 by_cases z0 : ((la.getD 0 0) : UInt8) = (0 : UInt8)
 ·
  refine plain ?_
  refine wI (d_move rfl) ?_
  refine wI (d_ix (i := 0) (xs := la) Try.underlying22 s_ti5 rfl h1 (show _ = Value.int _ ((0 : Nat) : Int) from rfl) (by first | omega | (simp; done) | (simp; omega))) ?_
  refine wI (d_ldx (i := 0) (xs := la) (enc := eB) (v := (la.getD 0 0)) ⟨_, Try.underlying5, rfl⟩ rfl h1 (g_at (by first | omega | (simp; done) | (simp; omega)))) ?_
  refine wF ([u1, (zf19 1), (zf19 2), (zf19 3), (ptr pw 0), (zf19 5), (zf19 6), (eN ((logT 255).getD ((la.getD 0 0).toNat) 0))] ++ (zs zf19 8 5 ++ [u1, (ixp u1 0), (eB (la.getD 0 0))] ++ (zs zf19 16 14))) ?_
  refine wI (b_eql (c := (la.getD 0 0)) (e := 0) rfl rfl (decide_eq_true z0)) ?_
  refine wI (d_move rfl) ?_
  refine wF ([u1, (zf19 1), (zf19 2), (zf19 3), (ptr pw 0), (zf19 5), (zf19 6), (eN ((logT 255).getD ((la.getD 0 0).toNat) 0))] ++ (zs zf19 8 5 ++ [u1, (ixp u1 0), (eB (la.getD 0 0)), (Value.bool true), (Value.bool true)] ++ (zs zf19 18 12))) ?_
  refine wpL.off rfl rfl rfl (nb rfl) rfl ?_
  refine wpL.off rfl rfl rfl (nb rfl) rfl ?_
  refine wI (d_pick (b := true) (v := (Value.bool true)) rfl rfl) ?_
  refine wI (d_move rfl) ?_
  refine wF ([u1, (zf19 1), (zf19 2), (zf19 3), (ptr pw 0), (zf19 5), (zf19 6), (eN ((logT 255).getD ((la.getD 0 0).toNat) 0))] ++ (zs zf19 8 5 ++ [u1, (ixp u1 0), (eB (la.getD 0 0)), (Value.bool true), (Value.bool true), undef, undef, (Value.bool true), (Value.bool true)] ++ (zs zf19 22 8))) ?_
  refine wpL.off rfl rfl rfl (nb rfl) rfl ?_
  refine wpL.off rfl rfl rfl (nb rfl) rfl ?_
  refine wF ([u1, (zf19 1), (zf19 2), (zf19 3), (ptr pw 0), (zf19 5), (zf19 6), (eN ((logT 255).getD ((la.getD 0 0).toNat) 0))] ++ (zs zf19 8 5 ++ [u1, (ixp u1 0), (eB (la.getD 0 0)), (Value.bool true), (Value.bool true), undef, undef, (Value.bool true), (Value.bool true), undef, undef] ++ (zs zf19 24 6))) ?_
  refine wpL.off rfl rfl rfl (nb rfl) rfl ?_
  refine wpL.off rfl rfl rfl (nb rfl) rfl ?_
  refine wpL.off rfl rfl rfl (nb rfl) rfl ?_
  refine wF ([u1, (zf19 1), (zf19 2), (zf19 3), (ptr pw 0), (zf19 5), (zf19 6), (eN ((logT 255).getD ((la.getD 0 0).toNat) 0))] ++ (zs zf19 8 5 ++ [u1, (ixp u1 0), (eB (la.getD 0 0)), (Value.bool true), (Value.bool true), undef, undef, (Value.bool true), (Value.bool true)] ++ (us 5 ++ [(zf19 27), (zf19 28), (zf19 29)]))) ?_
  refine wpL.off rfl rfl rfl (nb rfl) rfl ?_
  refine wI (d_pick (b := true) (v := (Value.bool true)) rfl rfl) ?_
  refine wF ([u1, (zf19 1), (zf19 2), (zf19 3), (ptr pw 0), (zf19 5), (zf19 6), (eN ((logT 255).getD ((la.getD 0 0).toNat) 0))] ++ (zs zf19 8 5 ++ [u1, (ixp u1 0), (eB (la.getD 0 0)), (Value.bool true), (Value.bool true), undef, undef, (Value.bool true), (Value.bool true)] ++ (us 6 ++ [(Value.bool true), (zf19 29)]))) ?_
  refine wpL.done ?_
  refine then_n ?_
  refine forget (fun zf20 => (zs zf20 0 7 ++ [(eN ((logT 255).getD ((la.getD 0 0).toNat) 0))] ++ (zs zf20 8 20 ++ [(Value.bool true), (zf20 29)]))) (by kernel_rfl) (fun zf20 => ?_)
  refine cond_t rfl ?_
  refine wpIn_seq ?_
  refine plain ?_
  refine wI (d_assign rfl) ?_
  refine wF (zs zf20 0 6 ++ [(eI (-1)), (eN ((logT 255).getD ((la.getD 0 0).toNat) 0))] ++ (zs zf20 8 20 ++ [(Value.bool true), (zf20 29)])) ?_
  refine wpL.done ?_
  refine then_n ?_
  refine wpIn_ret ?_
  refine then_r ?_
  refine leave0 (v := (eI (-1))) (res1 Try.results103 rfl) ?_
  exact ⟨by unfold sing; rw [if_neg (fun h => h.1 z0)], oW⟩
 by_cases z1 : 224 ≤ ((logT 255).getD ((la.getD 0 0).toNat) 0)
 ·
  refine plain ?_
  refine wI (d_move rfl) ?_
  refine wI (d_ix (i := 0) (xs := la) Try.underlying22 s_ti5 rfl h1 (show _ = Value.int _ ((0 : Nat) : Int) from rfl) (by first | omega | (simp; done) | (simp; omega))) ?_
  refine wI (d_ldx (i := 0) (xs := la) (enc := eB) (v := (la.getD 0 0)) ⟨_, Try.underlying5, rfl⟩ rfl h1 (g_at (by first | omega | (simp; done) | (simp; omega)))) ?_
  refine wF ([u1, (zf19 1), (zf19 2), (zf19 3), (ptr pw 0), (zf19 5), (zf19 6), (eN ((logT 255).getD ((la.getD 0 0).toNat) 0))] ++ (zs zf19 8 5 ++ [u1, (ixp u1 0), (eB (la.getD 0 0))] ++ (zs zf19 16 14))) ?_
  refine wI (b_eql (c := (la.getD 0 0)) (e := 0) rfl rfl (decide_eq_false z0)) ?_
  refine wI (d_move rfl) ?_
  refine wpL.onis rfl rfl rfl (nb rfl) rfl (d_move rfl) ?_
  refine wF ([u1, (zf19 1), (zf19 2), (zf19 3), (ptr pw 0), (zf19 5), (zf19 6), (eN ((logT 255).getD ((la.getD 0 0).toNat) 0))] ++ (zs zf19 8 5 ++ [u1, (ixp u1 0), (eB (la.getD 0 0)), (Value.bool false), (Value.bool false), (eN ((logT 255).getD ((la.getD 0 0).toNat) 0))] ++ (zs zf19 19 11))) ?_
  refine wpL.onis rfl rfl rfl (nb rfl) rfl (n_geq (a := ((logT 255).getD ((la.getD 0 0).toNat) 0)) (b := 224) rfl rfl (decide_eq_true z1)) ?_
  refine wI (d_pick (b := false) (v := (Value.bool true)) rfl rfl) ?_
  refine wI (d_move rfl) ?_
  refine wF ([u1, (zf19 1), (zf19 2), (zf19 3), (ptr pw 0), (zf19 5), (zf19 6), (eN ((logT 255).getD ((la.getD 0 0).toNat) 0))] ++ (zs zf19 8 5 ++ [u1, (ixp u1 0), (eB (la.getD 0 0)), (Value.bool false), (Value.bool false), (eN ((logT 255).getD ((la.getD 0 0).toNat) 0)), (Value.bool true), (Value.bool true), (Value.bool true)] ++ (zs zf19 22 8))) ?_
  refine wpL.off rfl rfl rfl (nb rfl) rfl ?_
  refine wpL.off rfl rfl rfl (nb rfl) rfl ?_
  refine wF ([u1, (zf19 1), (zf19 2), (zf19 3), (ptr pw 0), (zf19 5), (zf19 6), (eN ((logT 255).getD ((la.getD 0 0).toNat) 0))] ++ (zs zf19 8 5 ++ [u1, (ixp u1 0), (eB (la.getD 0 0)), (Value.bool false), (Value.bool false), (eN ((logT 255).getD ((la.getD 0 0).toNat) 0)), (Value.bool true), (Value.bool true), (Value.bool true), undef, undef] ++ (zs zf19 24 6))) ?_
  refine wpL.off rfl rfl rfl (nb rfl) rfl ?_
  refine wpL.off rfl rfl rfl (nb rfl) rfl ?_
  refine wpL.off rfl rfl rfl (nb rfl) rfl ?_
  refine wF ([u1, (zf19 1), (zf19 2), (zf19 3), (ptr pw 0), (zf19 5), (zf19 6), (eN ((logT 255).getD ((la.getD 0 0).toNat) 0))] ++ (zs zf19 8 5 ++ [u1, (ixp u1 0), (eB (la.getD 0 0)), (Value.bool false), (Value.bool false), (eN ((logT 255).getD ((la.getD 0 0).toNat) 0)), (Value.bool true), (Value.bool true), (Value.bool true)] ++ (us 5 ++ [(zf19 27), (zf19 28), (zf19 29)]))) ?_
  refine wpL.off rfl rfl rfl (nb rfl) rfl ?_
  refine wI (d_pick (b := true) (v := (Value.bool true)) rfl rfl) ?_
  refine wF ([u1, (zf19 1), (zf19 2), (zf19 3), (ptr pw 0), (zf19 5), (zf19 6), (eN ((logT 255).getD ((la.getD 0 0).toNat) 0))] ++ (zs zf19 8 5 ++ [u1, (ixp u1 0), (eB (la.getD 0 0)), (Value.bool false), (Value.bool false), (eN ((logT 255).getD ((la.getD 0 0).toNat) 0)), (Value.bool true), (Value.bool true), (Value.bool true)] ++ (us 6 ++ [(Value.bool true), (zf19 29)]))) ?_
  refine wpL.done ?_
  refine then_n ?_
  refine forget (fun zf21 => (zs zf21 0 7 ++ [(eN ((logT 255).getD ((la.getD 0 0).toNat) 0))] ++ (zs zf21 8 20 ++ [(Value.bool true), (zf21 29)]))) (by kernel_rfl) (fun zf21 => ?_)
  refine cond_t rfl ?_
  refine wpIn_seq ?_
  refine plain ?_
  refine wI (d_assign rfl) ?_
  refine wF (zs zf21 0 6 ++ [(eI (-1)), (eN ((logT 255).getD ((la.getD 0 0).toNat) 0))] ++ (zs zf21 8 20 ++ [(Value.bool true), (zf21 29)])) ?_
  refine wpL.done ?_
  refine then_n ?_
  refine wpIn_ret ?_
  refine then_r ?_
  refine leave0 (v := (eI (-1))) (res1 Try.results103 rfl) ?_
  exact ⟨by unfold sing; rw [if_neg (fun h => absurd h.2.1 (Nat.not_lt.2 z1))], oW⟩
 refine plain ?_
 refine wI (d_move rfl) ?_
 refine wI (d_ix (i := 0) (xs := la) Try.underlying22 s_ti5 rfl h1 (show _ = Value.int _ ((0 : Nat) : Int) from rfl) (by first | omega | (simp; done) | (simp; omega))) ?_
 refine wI (d_ldx (i := 0) (xs := la) (enc := eB) (v := (la.getD 0 0)) ⟨_, Try.underlying5, rfl⟩ rfl h1 (g_at (by first | omega | (simp; done) | (simp; omega)))) ?_
 refine wF ([u1, (zf19 1), (zf19 2), (zf19 3), (ptr pw 0), (zf19 5), (zf19 6), (eN ((logT 255).getD ((la.getD 0 0).toNat) 0))] ++ (zs zf19 8 5 ++ [u1, (ixp u1 0), (eB (la.getD 0 0))] ++ (zs zf19 16 14))) ?_
 refine wI (b_eql (c := (la.getD 0 0)) (e := 0) rfl rfl (decide_eq_false z0)) ?_
 refine wI (d_move rfl) ?_
 refine wpL.onis rfl rfl rfl (nb rfl) rfl (d_move rfl) ?_
 refine wF ([u1, (zf19 1), (zf19 2), (zf19 3), (ptr pw 0), (zf19 5), (zf19 6), (eN ((logT 255).getD ((la.getD 0 0).toNat) 0))] ++ (zs zf19 8 5 ++ [u1, (ixp u1 0), (eB (la.getD 0 0)), (Value.bool false), (Value.bool false), (eN ((logT 255).getD ((la.getD 0 0).toNat) 0))] ++ (zs zf19 19 11))) ?_
 refine wpL.onis rfl rfl rfl (nb rfl) rfl (n_geq (a := ((logT 255).getD ((la.getD 0 0).toNat) 0)) (b := 224) rfl rfl (decide_eq_false z1)) ?_
 refine wI (d_pick (b := false) (v := (Value.bool false)) rfl rfl) ?_
 refine wI (d_move rfl) ?_
 refine wF ([u1, (zf19 1), (zf19 2), (zf19 3), (ptr pw 0), (zf19 5), (zf19 6), (eN ((logT 255).getD ((la.getD 0 0).toNat) 0))] ++ (zs zf19 8 5 ++ [u1, (ixp u1 0), (eB (la.getD 0 0)), (Value.bool false), (Value.bool false), (eN ((logT 255).getD ((la.getD 0 0).toNat) 0)), (Value.bool false), (Value.bool false), (Value.bool false)] ++ (zs zf19 22 8))) ?_
 refine wpL.onis rfl rfl rfl (nb rfl) rfl (d_move rfl) ?_
 refine wpL.onis rfl rfl rfl (nb rfl) rfl (d_move rfl) ?_
 refine wpL.onis rfl rfl rfl (nb rfl) rfl (d_loadAg (vs := ((pwT 255).map eB)) ⟨_, Try.underlying132, rfl⟩ s_ti132 rfl a13 (take_all l_pw) (map_len l_pw)) ?_
 refine wF ([u1, (zf19 1), (zf19 2), (zf19 3), (ptr pw 0), (zf19 5), (zf19 6), (eN ((logT 255).getD ((la.getD 0 0).toNat) 0))] ++ (zs zf19 8 5 ++ [u1, (ixp u1 0), (eB (la.getD 0 0)), (Value.bool false), (Value.bool false), (eN ((logT 255).getD ((la.getD 0 0).toNat) 0)), (Value.bool false), (Value.bool false), (Value.bool false), u1, (eN ((logT 255).getD ((la.getD 0 0).toNat) 0)), (Value.agg ((pwT 255).map eB).toArray)] ++ (zs zf19 25 5))) ?_
 refine wpL.on rfl rfl rfl (nb rfl) rfl (d_call (xl := [.tmp 22, .tmp 23, .tmp 24]) (al := [u1, (eN ((logT 255).getD ((la.getD 0 0).toNat) 0)), (Value.agg ((pwT 255).map eB).toArray)]) Try.func104 (by kernel_rfl) rfl rfl rfl (ref4Turned_ok la ((logT 255).getD ((la.getD 0 0).toNat) 0) u1 _ (Ps.no h1) (by first | omega | (simp; done) | (simp; omega)) (by first | omega | (exact lgZ_lt _)))) ?_
 rintro u24 w22 f25
 replace f25 := f25.ps
 obtain ⟨f25, o23⟩ := f25
 replace f25 := f25.less (Y := (Or1 lg (Or1 pw (Old W.heap.size)))) (or1_old a17.lt (or1_old a13.lt (old_old oW.size)))
 replace h1 := h1.step0 o23
 replace a13 := a13.step0 o23
 replace a17 := a17.step0 o23
 replace oW := oW.tail0 o23
 refine wpL.on rfl rfl rfl (nb rfl) rfl (d_call (xl := [.tmp 25]) (al := [u24]) Try.func101 (by kernel_rfl) rfl rfl rfl (ref4Zero_ok (turnL la ((logT 255).getD ((la.getD 0 0).toNat) 0)) u24 _ (Ps.no f25) (by have := logT_length 255; have := turnL_length la ((logT 255).getD ((la.getD 0 0).toNat) 0); first | omega | (simp; done) | (simp; omega)))) ?_
 rintro _ w26 ⟨rfl, o27⟩
 replace h1 := h1.step0 o27
 replace f25 := f25.step0 o27
 replace a13 := a13.step0 o27
 replace a17 := a17.step0 o27
 replace oW := oW.tail0 o27
 refine wpL.onis rfl rfl rfl (nb rfl) rfl (d_not rfl rfl) ?_
 refine wF ([u1, (zf19 1), (zf19 2), (zf19 3), (ptr pw 0), (zf19 5), (zf19 6), (eN ((logT 255).getD ((la.getD 0 0).toNat) 0))] ++ (zs zf19 8 5 ++ [u1, (ixp u1 0), (eB (la.getD 0 0)), (Value.bool false), (Value.bool false), (eN ((logT 255).getD ((la.getD 0 0).toNat) 0)), (Value.bool false), (Value.bool false), (Value.bool false), u1, (eN ((logT 255).getD ((la.getD 0 0).toNat) 0)), (Value.agg ((pwT 255).map eB).toArray), u24, (Value.bool (whole (turnL la ((logT 255).getD ((la.getD 0 0).toNat) 0)))), (Value.bool (!(whole (turnL la ((logT 255).getD ((la.getD 0 0).toNat) 0))))), (zf19 28), (zf19 29)])) ?_
 refine wI (d_pick (b := false) (v := (Value.bool (!(whole (turnL la ((logT 255).getD ((la.getD 0 0).toNat) 0)))))) rfl rfl) ?_
 refine wF ([u1, (zf19 1), (zf19 2), (zf19 3), (ptr pw 0), (zf19 5), (zf19 6), (eN ((logT 255).getD ((la.getD 0 0).toNat) 0))] ++ (zs zf19 8 5 ++ [u1, (ixp u1 0), (eB (la.getD 0 0)), (Value.bool false), (Value.bool false), (eN ((logT 255).getD ((la.getD 0 0).toNat) 0)), (Value.bool false), (Value.bool false), (Value.bool false), u1, (eN ((logT 255).getD ((la.getD 0 0).toNat) 0)), (Value.agg ((pwT 255).map eB).toArray), u24, (Value.bool (whole (turnL la ((logT 255).getD ((la.getD 0 0).toNat) 0)))), (Value.bool (!(whole (turnL la ((logT 255).getD ((la.getD 0 0).toNat) 0))))), (Value.bool (!(whole (turnL la ((logT 255).getD ((la.getD 0 0).toNat) 0))))), (zf19 29)])) ?_
 refine wpL.done ?_
 refine then_n ?_
 refine forget (fun zf28 => (zs zf28 0 7 ++ [(eN ((logT 255).getD ((la.getD 0 0).toNat) 0))] ++ (zs zf28 8 20 ++ [(Value.bool (!(whole (turnL la ((logT 255).getD ((la.getD 0 0).toNat) 0))))), (zf28 29)]))) (by kernel_rfl) (fun zf28 => ?_)
 refine cond_b rfl (fun c1 => ?_) (fun c1 => ?_)
 ·
  refine wpIn_seq ?_
  refine plain ?_
  refine wI (d_assign rfl) ?_
  refine wF (zs zf28 0 6 ++ [(eI (-1)), (eN ((logT 255).getD ((la.getD 0 0).toNat) 0))] ++ (zs zf28 8 20 ++ [(Value.bool (!(whole (turnL la ((logT 255).getD ((la.getD 0 0).toNat) 0))))), (zf28 29)])) ?_
  refine wpL.done ?_
  refine then_n ?_
  refine wpIn_ret ?_
  refine then_r ?_
  refine leave0 (v := (eI (-1))) (res1 Try.results103 rfl) ?_
  exact ⟨by unfold sing; rw [if_neg (fun h => by have h_ := h.2.2; unfold lgZ at h_; rw [h_] at c1; exact absurd c1 (by decide))], oW⟩
 refine wpIn_skip ?_
 refine then_n ?_
 refine wpIn_seq ?_
 refine plain ?_
 refine wI (d_move rfl) ?_
 refine wI (d_assign rfl) ?_
 refine wF (zs zf28 0 6 ++ [(eN ((logT 255).getD ((la.getD 0 0).toNat) 0)), (eN ((logT 255).getD ((la.getD 0 0).toNat) 0))] ++ (zs zf28 8 20 ++ [(Value.bool (!(whole (turnL la ((logT 255).getD ((la.getD 0 0).toNat) 0))))), (eN ((logT 255).getD ((la.getD 0 0).toNat) 0))])) ?_
 refine wpL.done ?_
 refine then_n ?_
 refine wpIn_ret ?_
 refine leave0 (v := (eN ((logT 255).getD ((la.getD 0 0).toNat) 0))) (res1 Try.results103 rfl) ?_
 exact ⟨by unfold sing; rw [if_pos ⟨z0, Nat.not_le.1 z1, by unfold lgZ; simpa using c1⟩]; rfl, oW⟩

set_option maxRecDepth 20000 in
set_option maxHeartbeats 1000000 in
theorem ref4Syn_ok (la : List UInt8) (u1 : Value) (W : World) (h1 : Ps No (Seq kB la u1) W) (g1 : la.length ≤ 1048576) :
    CW Try.prog 77 #[u1] W (Rt (ROw 5 eB (synR la) W)) := by
 have oW : Only No W W := Only.refl _ _
 refine enter (al := [u1]) (k := 40) (l := ([u1] ++ (us 40))) Try.func77 rfl Try.ntmps77 rfl rfl ?_
 refine wpIn_seq ?_
 refine plain ?_
 refine wI (d_assign rfl) ?_
 refine wF ([u1, undef, (Value.slice none 0 0)] ++ (us 38)) ?_
 refine wpL.done ?_
 refine then_n ?_
 refine wpIn_seq ?_
 refine wpIn_seq ?_
 refine plain ?_
 refine wI (d_move rfl) ?_
 refine wI (d_lenS rfl Try.underlying22 rfl h1) ?_
 refine wI (n_neq (a := la.length) (b := 28) rfl rfl rfl) ?_
 refine wF ([u1, undef, (Value.slice none 0 0), undef, undef, undef, undef, u1, (eN la.length), (Value.bool (!decide (la.length = 28)))] ++ (us 31)) ?_
 refine wpL.done ?_
 refine then_n ?_
 refine cond_un rfl (fun c0 => ?_) (fun c0 => ?_)
 ·
  refine wpIn_seq ?_
  refine plain ?_
  refine wI (d_assign rfl) ?_
  refine wF ([u1, undef, (Value.slice none 0 0), undef, undef, undef, undef, u1, (eN la.length), (Value.bool (!decide (la.length = 28)))] ++ (us 31)) ?_
  refine wpL.done ?_
  refine then_n ?_
  refine wpIn_ret ?_
  refine then_r ?_
  refine leave0 (v := (Value.slice none 0 0)) (res1 Try.results77 rfl) ?_
  exact ROw.nil ((if_neg c0).symm) oW
 refine wpIn_skip ?_
 refine then_n ?_
 refine wpIn_seq ?_
 refine plain ?_
 refine wO (d_call (xl := []) (al := []) Try.func102 (by kernel_rfl) rfl rfl rfl (ref2Powers_ok _)) ?_
 rintro _ w11 ⟨rfl, o12⟩
 replace h1 := h1.step0 o12
 replace oW := oW.tail0 o12
 refine wO (d_alloc s_ti132 (by simp [Value.cells]; rfl)) ?_
 rintro _ w13 ⟨pw, rfl, g14, a15, o16⟩
 replace a15 : Arr 132 pw ((List.replicate 255 0).map eB) w13 := by rw [List.map_replicate]; exact a15
 have l_pw : (List.replicate 255 0 : List UInt8).length = 255 := by simp
 have g_oW_pw : W.heap.size ≤ pw := Nat.le_trans oW.size g14
 replace h1 := h1.new o16 g14
 replace oW := oW.tail0 o16
 refine wO (d_storeAg s_ti132 rfl rfl (map_len (pwT_length 255)) (oneC (fun _ => rfl) _) a15 (by rw [map_len l_pw]; omega) (put_all (map_len l_pw))) ?_
 rintro _ w17 ⟨a18, o19⟩
 replace h1 := h1.stepb o19 in1
 replace oW := oW.tailb o19 g_oW_pw
 replace l_pw : ((pwT 255) : List UInt8).length = 255 := pwT_length 255
 refine wF ([u1, undef, (Value.slice none 0 0), (ptr pw 0), undef, undef, undef, u1, (eN la.length), (Value.bool (!decide (la.length = 28))), (Value.agg ((pwT 255).map eB).toArray)] ++ (us 30)) ?_
 refine wpL.done ?_
 refine then_n ?_
 refine wpIn_seq ?_
 refine plain ?_
 refine wO (d_make1 (n := 8) Try.underlying22 s_ti5 rfl rfl (by omega) (by omega) rfl) ?_
 rintro _ w20 ⟨s, rfl, g21, a22, o23⟩
 replace a22 : Arr 5 s ((List.replicate 8 0).map eB) w20 := by rw [List.map_replicate]; exact a22
 have l_s : (List.replicate 8 0 : List UInt8).length = 8 := by simp
 have n_pw_s : pw ≠ s := a18.ne g21
 have g_oW_s : W.heap.size ≤ s := Nat.le_trans oW.size g21
 replace h1 := h1.new o23 g21
 replace a18 := a18.step0 o23
 replace oW := oW.tail0 o23
 refine wI (d_assign rfl) ?_
 refine wF ([u1, undef, (Value.slice none 0 0), (ptr pw 0), (sli s 0 8 8), undef, undef, u1, (eN la.length), (Value.bool (!decide (la.length = 28))), (Value.agg ((pwT 255).map eB).toArray), (sli s 0 8 8)] ++ (us 29)) ?_
 refine wpL.done ?_
 refine then_n ?_
 refine wpIn_seq ?_
 refine wpIn_seq ?_
 refine plain ?_
 refine wI (d_assign rfl) ?_
 refine wF ([u1, undef, (Value.slice none 0 0), (ptr pw 0), (sli s 0 8 8), (eN 0), undef, u1, (eN la.length), (Value.bool (!decide (la.length = 28))), (Value.agg ((pwT 255).map eB).toArray), (sli s 0 8 8)] ++ (us 29)) ?_
 refine wpL.done ?_
 refine then_n ?_
 refine wpIn_block ?_
 refine loop2 (fun (k : (Nat)) => fun (z : Nat → Value) => (([u1, undef, (Value.slice none 0 0), (ptr pw 0), (sli s 0 8 8), (eN k), (z 6), u1, (eN la.length), (Value.bool (!decide (la.length = 28))), (Value.agg ((pwT 255).map eB).toArray), (sli s 0 8 8)] ++ (zs z 12 28 ++ [undef])) : List Value)) (fun (k : (Nat)) => fun (w_ : World) => (k ≤ 224) ∧ Only (Or1 s (Or1 pw No)) w20 w_ ∧ Arr 132 pw ((pwT 255).map eB) w_ ∧ (synTo la k).length = 8 ∧ Arr 5 s ((synTo la k).map eB) w_) (fun (k : (Nat)) => 224 - k) 0 rfl ?_ ?_
 ·
  refine ⟨?_, ?_, ?_, ?_, ?_⟩
  ·
   (try dsimp only)
   all_goals (omega)
  ·
   exact Only.refl _ _
  ·
   exact a18
  ·
   exact synTo_length la 0
  ·
   (try dsimp only)
   all_goals (rw [← synTo_zero]; exact a22)
 rintro k z w25 ⟨hk, o24, a18, l_s, a22⟩
 (try dsimp only)
 replace h1 := h1.step o24 (or1_mono (or1_mono no_any))
 replace oW := oW.tail o24 (tl_new g_oW_s (tl_new g_oW_pw tl_no))
 refine wpIn_seq ?_
 refine wpIn_seq ?_
 refine plain ?_
 refine wI (d_move rfl) ?_
 refine wI (n_lss (a := k) (b := 224) rfl rfl rfl) ?_
 refine wF ([u1, undef, (Value.slice none 0 0), (ptr pw 0), (sli s 0 8 8), (eN k), (z 6), u1, (eN la.length), (Value.bool (!decide (la.length = 28))), (Value.agg ((pwT 255).map eB).toArray), (sli s 0 8 8), (eN k), (Value.bool (decide (k < 224)))] ++ (zs z 14 26 ++ [undef])) ?_
 refine wpL.done ?_
 refine then_n ?_
 refine cond_if rfl (fun c1 => ?_) (fun c1 => ?_)
 ·
  refine wpIn_skip ?_
  refine then_n ?_
  refine wpIn_seq ?_
  refine wpIn_block ?_
  refine wpIn_seq ?_
  refine wpIn_seq ?_
  refine plain ?_
  refine wI (d_move rfl) ?_
  refine wI (d_move rfl) ?_
  refine wO (d_call (xl := [.tmp 16, .tmp 17]) (al := [u1, (eN k)]) Try.func68 (by kernel_rfl) rfl rfl rfl (ref4Bit_ok la k u1 _ (Ps.no h1) (by first | omega | (simp; done) | (simp; omega)) (by first | omega | (simp; done) | (simp; omega)))) ?_
  rintro _ w26 ⟨rfl, o27⟩
  replace h1 := h1.step0 o27
  replace a18 := a18.step0 o27
  replace a22 := a22.step0 o27
  replace oW := oW.tail0 o27
  replace o24 := o24.tail0 o27
  refine wF ([u1, undef, (Value.slice none 0 0), (ptr pw 0), (sli s 0 8 8), (eN k), (z 6), u1, (eN la.length), (Value.bool (!decide (la.length = 28))), (Value.agg ((pwT 255).map eB).toArray), (sli s 0 8 8), (eN k), (Value.bool (decide (k < 224))), (z 14), (z 15), u1, (eN k), (eB (btB la k))] ++ (zs z 19 21 ++ [undef])) ?_
  refine wI (b_eql (c := (btB la k)) (e := 0) rfl rfl rfl) ?_
  refine wF ([u1, undef, (Value.slice none 0 0), (ptr pw 0), (sli s 0 8 8), (eN k), (z 6), u1, (eN la.length), (Value.bool (!decide (la.length = 28))), (Value.agg ((pwT 255).map eB).toArray), (sli s 0 8 8), (eN k), (Value.bool (decide (k < 224))), (z 14), (z 15), u1, (eN k), (eB (btB la k)), (Value.bool (decide (((btB la k) : UInt8) = (0 : UInt8))))] ++ (zs z 20 20 ++ [undef])) ?_
  refine wpL.done ?_
  refine then_n ?_
  refine cond_if rfl (fun c2 => ?_) (fun c2 => ?_)
  ·
   have hb_ : bt la k = false := btB_no.1 c2
   refine wpIn_exit ?_
   refine then_x (inb_e ?_)
   refine then_n ?_
   refine plain ?_
   refine wI (d_move rfl) ?_
   refine wI (n_add (a := k) (b := 1) rfl rfl (by omega)) ?_
   refine wI (d_assign rfl) ?_
   refine wF ([u1, undef, (Value.slice none 0 0), (ptr pw 0), (sli s 0 8 8), (eN (k + 1)), (z 6), u1, (eN la.length), (Value.bool (!decide (la.length = 28))), (Value.agg ((pwT 255).map eB).toArray), (sli s 0 8 8), (eN k), (Value.bool (decide (k < 224))), (eN k), (eN (k + 1)), u1, (eN k), (eB (btB la k)), (Value.bool (decide (((btB la k) : UInt8) = (0 : UInt8))))] ++ (zs z 20 20 ++ [undef])) ?_
   refine wpL.done ?_
   refine then_n ?_
   refine ⟨_, (k + 1), rfl, rfl, ⟨?_, ?_, ?_, ?_, ?_⟩, ?_⟩
   ·
    (try dsimp only)
    all_goals (omega)
   ·
    exact o24
   ·
    exact a18
   ·
    exact synTo_length _ _
   ·
    (try dsimp only)
    all_goals (rw [synTo_no hb_]; exact a22)
   ·
    (try dsimp only)
    all_goals (omega)
  have hb_ : bt la k = true := by cases h__ : bt la k with | true => rfl | false => exact absurd (btB_no.2 h__) c2
  refine wpIn_skip ?_
  refine then_n ?_
  refine wpIn_seq ?_
  refine plain ?_
  refine wI (d_assign rfl) ?_
  refine wF ([u1, undef, (Value.slice none 0 0), (ptr pw 0), (sli s 0 8 8), (eN k), (eN 1), u1, (eN la.length), (Value.bool (!decide (la.length = 28))), (Value.agg ((pwT 255).map eB).toArray), (sli s 0 8 8), (eN k), (Value.bool (decide (k < 224))), (z 14), (z 15), u1, (eN k), (eB (btB la k)), (Value.bool (decide (((btB la k) : UInt8) = (0 : UInt8))))] ++ (zs z 20 20 ++ [undef])) ?_
  refine wpL.done ?_
  refine then_n ?_
  refine wpIn_block ?_
  refine loop2 (fun (i : (Nat)) => fun (z : Nat → Value) => (([u1, undef, (Value.slice none 0 0), (ptr pw 0), (sli s 0 8 8), (eN k), (eN (i + 1)), u1, (eN la.length), (Value.bool (!decide (la.length = 28))), (Value.agg ((pwT 255).map eB).toArray), (sli s 0 8 8), (eN k), (Value.bool (decide (k < 224))), (z 14), (z 15), u1, (eN k), (eB (btB la k)), (Value.bool (decide (((btB la k) : UInt8) = (0 : UInt8))))] ++ (zs z 20 20 ++ [undef])) : List Value)) (fun (i : (Nat)) => fun (w_ : World) => (i ≤ 8) ∧ Only (Or1 s (Or1 pw No)) w26 w_ ∧ Arr 132 pw ((pwT 255).map eB) w_ ∧ (synMid la k i).length = 8 ∧ Arr 5 s ((synMid la k i).map eB) w_) (fun (i : (Nat)) => 8 - i) 0 rfl ?_ ?_
  ·
   refine ⟨?_, ?_, ?_, ?_, ?_⟩
   ·
    (try dsimp only)
    all_goals (omega)
   ·
    exact Only.refl _ _
   ·
    exact a18
   ·
    exact synMid_length la k 0
   ·
    (try dsimp only)
    all_goals (rw [← synMid_zero]; exact a22)
  rintro i z w29 ⟨hi, o28, a18, l_s, a22⟩
  (try dsimp only)
  replace h1 := h1.step o28 (or1_mono (or1_mono no_any))
  replace oW := oW.tail o28 (tl_new g_oW_s (tl_new g_oW_pw tl_no))
  replace o24 := o24.tail o28 (tl_in in1 (tl_in (in2 in1) tl_no))
  refine wpIn_seq ?_
  refine wpIn_seq ?_
  refine plain ?_
  refine wI (d_move rfl) ?_
  refine wI (n_leq (a := (i + 1)) (b := 8) rfl rfl rfl) ?_
  refine wF ([u1, undef, (Value.slice none 0 0), (ptr pw 0), (sli s 0 8 8), (eN k), (eN (i + 1)), u1, (eN la.length), (Value.bool (!decide (la.length = 28))), (Value.agg ((pwT 255).map eB).toArray), (sli s 0 8 8), (eN k), (Value.bool (decide (k < 224))), (z 14), (z 15), u1, (eN k), (eB (btB la k)), (Value.bool (decide (((btB la k) : UInt8) = (0 : UInt8)))), (eN (i + 1)), (Value.bool (decide ((i + 1) ≤ 8)))] ++ (zs z 22 18 ++ [undef])) ?_
  refine wpL.done ?_
  refine then_n ?_
  refine cond_if rfl (fun c3 => ?_) (fun c3 => ?_)
  ·
   refine wpIn_skip ?_
   refine then_n ?_
   refine wpIn_seq ?_
   refine wpIn_block ?_
   refine drawn_last (O := (Is1 s)) (m := 16) (R := fun w_ => Arr 5 s (((synMid la k i).set ((i + 1) - 1) (((synMid la k i).getD ((i + 1) - 1) 0) ^^^ ((pwT 255).getD ((k * (i + 1)) % 255) 0))).map eB) w_) [0, 0, 2, 0, 0, 16, 56, 120, 0, 0, 768, 1792, 3840, 7936, 16376, 32767, 65535] [(0, 24), (1, 25), (2, 26), (3, 27), (4, 28), (5, 29), (6, 30), (7, 31), (8, 32), (9, 33), (10, 34), (11, 35), (12, 36), (13, 37), (14, 38), (15, 39)] [(sli s 0 8 8), (eN (i + 1)), (eN ((i + 1) - 1)), (sli s 0 8 8), (eN (i + 1)), (eN ((i + 1) - 1)), (ptr s ((i + 1) - 1)), (eB ((synMid la k i).getD ((i + 1) - 1) 0)), (eN k), (eN (i + 1)), (eN (k * (i + 1))), (eN ((k * (i + 1)) % 255)), (ptr pw ((k * (i + 1)) % 255)), (eB ((pwT 255).getD ((k * (i + 1)) % 255) 0)), (eB (((synMid la k i).getD ((i + 1) - 1) 0) ^^^ ((pwT 255).getD ((k * (i + 1)) % 255) 0))), (ptr s ((i + 1) - 1))] [u1, undef, (Value.slice none 0 0), (ptr pw 0), (sli s 0 8 8), (eN k), (eN (i + 1)), u1, (eN la.length), (Value.bool (!decide (la.length = 28))), (Value.agg ((pwT 255).map eB).toArray), (sli s 0 8 8), (eN k), (Value.bool (decide (k < 224))), (z 14), (z 15), u1, (eN k), (eB (btB la k)), (Value.bool (decide (((btB la k) : UInt8) = (0 : UInt8)))), (eN (i + 1)), (Value.bool (decide ((i + 1) ≤ 8))), (z 22), (z 23), (sli s 0 8 8), (eN (i + 1)), (eN ((i + 1) - 1)), (sli s 0 8 8), (eN (i + 1)), (eN ((i + 1) - 1)), (ptr s ((i + 1) - 1)), (eB ((synMid la k i).getD ((i + 1) - 1) 0)), (eN k), (eN (i + 1)), (eN (k * (i + 1))), (eN ((k * (i + 1)) % 255)), (ptr pw ((k * (i + 1)) % 255)), (eB ((pwT 255).getD ((k * (i + 1)) % 255) 0)), (eB (((synMid la k i).getD ((i + 1) - 1) 0) ^^^ ((pwT 255).getD ((k * (i + 1)) % 255) 0))), (ptr s ((i + 1) - 1)), undef] s_mx (by kernel_rfl) (by kernel_rfl) rfl rfl (by decide) (by kernel_rfl) (by kernel_rfl) ?_ (fun _ _ h_ ho_ => h_.step0 ho_) ⟨_, rfl, rfl, fun w_ hO_ => gd rfl ((d_store (b := s) (i := ((i + 1) - 1)) (v := (eB (((synMid la k i).getD ((i + 1) - 1) 0) ^^^ ((pwT 255).getD ((k * (i + 1)) % 255) 0)))) s_ti5 rfl rfl rfl (a22.step0 hO_) (by rw [List.length_map, l_s]; omega) (m_put (synMid la k i) ((i + 1) - 1) (((synMid la k i).getD ((i + 1) - 1) 0) ^^^ ((pwT 255).getD ((k * (i + 1)) % 255) 0)) eB)).mono fun u_ w2_ h_ => ⟨h_.2, h_.1⟩)⟩ ?_
   ·
    intro w_ hO_
    refine AllG.cons (gi rfl (d_move rfl)) ?_
    refine AllG.cons (gi rfl (d_move rfl)) ?_
    refine AllG.cons (gi rfl (n_sub (a := (i + 1)) (b := 1) rfl rfl (by omega) (by omega))) ?_
    refine AllG.cons (gi rfl (d_move rfl)) ?_
    refine AllG.cons (gi rfl (d_move rfl)) ?_
    refine AllG.cons (gi rfl (n_sub (a := (i + 1)) (b := 1) rfl rfl (by omega) (by omega))) ?_
    refine AllG.cons (gi rfl (d_index1 (n := 8) (i := ((i + 1) - 1)) Try.underlying22 s_ti5 rfl (show _ = Value.int _ (((i + 1) - 1 : Nat) : Int) from rfl) (by omega))) ?_
    refine AllG.cons (gi rfl (d_load ⟨_, Try.underlying5, rfl⟩ rfl (a22.step0 hO_) (m_at (d := 0) (by rw [l_s]; omega)))) ?_
    refine AllG.cons (gi rfl (d_move rfl)) ?_
    refine AllG.cons (gi rfl (d_move rfl)) ?_
    refine AllG.cons (gi rfl (n_mul (a := k) (b := (i + 1)) rfl rfl (by have h__ : k * (i + 1) ≤ k * 8 := Nat.mul_le_mul_left _ (by omega); omega))) ?_
    refine AllG.cons (gi rfl (n_rem (a := (k * (i + 1))) (b := 255) rfl rfl (by decide))) ?_
    refine AllG.cons (gi rfl (d_indexArr1 (i := ((k * (i + 1)) % 255)) Try.underlying132 s_ti5 rfl (show _ = Value.int _ (((k * (i + 1)) % 255 : Nat) : Int) from rfl) (Nat.mod_lt _ (by decide)))) ?_
    refine AllG.cons (gi rfl (d_load ⟨_, Try.underlying5, rfl⟩ rfl (a18.step0 hO_) (m_at (d := 0) (by rw [l_pw]; exact Nat.mod_lt _ (by decide))))) ?_
    refine AllG.cons (gi rfl (b_xor (c := ((synMid la k i).getD ((i + 1) - 1) 0)) (e := ((pwT 255).getD ((k * (i + 1)) % 255) 0)) rfl rfl)) ?_
    refine AllG.cons (gi rfl (d_index1 (n := 8) (i := ((i + 1) - 1)) Try.underlying22 s_ti5 rfl (show _ = Value.int _ (((i + 1) - 1 : Nat) : Int) from rfl) (by omega))) ?_
    exact AllG.nil
   intro w30 o31 a32
   replace h1 := h1.stepb o31 in1
   replace a18 := a18.step o31 (fun e => absurd e n_pw_s)
   replace oW := oW.tailb o31 g_oW_s
   replace o24 := o24.tail o31 (fun k _ e => by have : k = s := e; rw [this]; exact in1)
   replace o28 := o28.tail o31 (fun k _ e => by have : k = s := e; rw [this]; exact in1)
   replace l_s : ((synMid la k i).set ((i + 1) - 1) (((synMid la k i).getD ((i + 1) - 1) 0) ^^^ ((pwT 255).getD ((k * (i + 1)) % 255) 0)) : List UInt8).length = 8 := (List.length_set ..).trans l_s
   refine inb_n (then_n ?_)
   refine plain ?_
   refine wI (d_move rfl) ?_
   refine wI (n_add (a := (i + 1)) (b := 1) rfl rfl (by omega)) ?_
   refine wI (d_assign rfl) ?_
   refine wF [u1, undef, (Value.slice none 0 0), (ptr pw 0), (sli s 0 8 8), (eN k), (eN (i + 1 + 1)), u1, (eN la.length), (Value.bool (!decide (la.length = 28))), (Value.agg ((pwT 255).map eB).toArray), (sli s 0 8 8), (eN k), (Value.bool (decide (k < 224))), (z 14), (z 15), u1, (eN k), (eB (btB la k)), (Value.bool (decide (((btB la k) : UInt8) = (0 : UInt8)))), (eN (i + 1)), (Value.bool (decide ((i + 1) ≤ 8))), (eN (i + 1)), (eN (i + 1 + 1)), (sli s 0 8 8), (eN (i + 1)), (eN ((i + 1) - 1)), (sli s 0 8 8), (eN (i + 1)), (eN ((i + 1) - 1)), (ptr s ((i + 1) - 1)), (eB ((synMid la k i).getD ((i + 1) - 1) 0)), (eN k), (eN (i + 1)), (eN (k * (i + 1))), (eN ((k * (i + 1)) % 255)), (ptr pw ((k * (i + 1)) % 255)), (eB ((pwT 255).getD ((k * (i + 1)) % 255) 0)), (eB (((synMid la k i).getD ((i + 1) - 1) 0) ^^^ ((pwT 255).getD ((k * (i + 1)) % 255) 0))), (ptr s ((i + 1) - 1)), undef] ?_
   refine wpL.done ?_
   refine then_n ?_
   refine ⟨_, (i + 1), rfl, rfl, ⟨?_, ?_, ?_, ?_, ?_⟩, ?_⟩
   ·
    (try dsimp only)
    all_goals (omega)
   ·
    exact o28
   ·
    exact a18
   ·
    exact synMid_length _ _ _
   ·
    (try dsimp only)
    all_goals (rw [show i + 1 - 1 = i from rfl, synMid_step hb_ (by omega)] at a32; exact a32)
   ·
    (try dsimp only)
    all_goals (omega)
  refine wpIn_exit ?_
  refine then_x (then_x (inb_e ?_))
  refine inb_n (then_n ?_)
  refine forget (fun zf33 => ([u1, undef, (Value.slice none 0 0), (ptr pw 0), (sli s 0 8 8), (eN k), (eN (i + 1)), u1, (eN la.length), (Value.bool (!decide (la.length = 28))), (Value.agg ((pwT 255).map eB).toArray), (sli s 0 8 8)] ++ (zs zf33 12 12 ++ (zs z 24 16 ++ [undef])))) (by kernel_rfl) (fun zf33 => ?_)
  refine plain ?_
  refine wI (d_move rfl) ?_
  refine wI (n_add (a := k) (b := 1) rfl rfl (by omega)) ?_
  refine wI (d_assign rfl) ?_
  refine wF ([u1, undef, (Value.slice none 0 0), (ptr pw 0), (sli s 0 8 8), (eN (k + 1)), (eN (i + 1)), u1, (eN la.length), (Value.bool (!decide (la.length = 28))), (Value.agg ((pwT 255).map eB).toArray), (sli s 0 8 8), (zf33 12), (zf33 13), (eN k), (eN (k + 1))] ++ (zs zf33 16 8 ++ (zs z 24 16 ++ [undef]))) ?_
  refine wpL.done ?_
  refine then_n ?_
  refine ⟨_, (k + 1), rfl, rfl, ⟨?_, ?_, ?_, ?_, ?_⟩, ?_⟩
  ·
   (try dsimp only)
   all_goals (omega)
  ·
   exact o24
  ·
   exact a18
  ·
   exact synTo_length _ _
  ·
   (try dsimp only)
   all_goals (rw [← synMid_done la k (i := i) (by omega)]; exact a22)
  ·
   (try dsimp only)
   all_goals (omega)
 refine wpIn_exit ?_
 refine then_x (then_x (inb_e ?_))
 refine then_n ?_
 refine forget (fun zf34 => ([(zf34 0), (zf34 1), (zf34 2), (zf34 3), (sli s 0 8 8), (eN k), (z 6)] ++ (zs zf34 7 34))) (by kernel_rfl) (fun zf34 => ?_)
 refine wpIn_seq ?_
 refine plain ?_
 refine wI (d_move rfl) ?_
 refine wI (d_assign rfl) ?_
 refine wF ([(zf34 0), (zf34 1), (sli s 0 8 8), (zf34 3), (sli s 0 8 8), (eN k), (z 6)] ++ (zs zf34 7 33 ++ [(sli s 0 8 8)])) ?_
 refine wpL.done ?_
 refine then_n ?_
 refine wpIn_ret ?_
 refine leave0 (v := (sli s 0 8 8)) (res1 Try.results77 rfl) ?_
 exact ROw.arr a22 l_s (by rw [synTo_done (k := k) (by omega) c0]; exact (if_pos c0).symm) g_oW_s oW

set_option maxRecDepth 20000 in
set_option maxHeartbeats 2000000 in
theorem ref4Enc_ok (la : List UInt8) (u1 : Value) (W : World) (h1 : Ps No (Seq kB la u1) W) (g1 : la.length ≤ 1048576) :
    CW Try.prog 42 #[u1] W (Rt (ROw 5 eB (encR la) W)) := by
 have oW : Only No W W := Only.refl _ _
 refine enter (al := [u1]) (k := 59) (l := ([u1] ++ (us 59))) Try.func42 rfl Try.ntmps42 rfl rfl ?_
 refine wpIn_seq ?_
 refine plain ?_
 refine wI (d_assign rfl) ?_
 refine wF ([u1, undef, (Value.slice none 0 0)] ++ (us 57)) ?_
 refine wpL.done ?_
 refine then_n ?_
 refine wpIn_seq ?_
 refine wpIn_seq ?_
 refine plain ?_
 refine wI (d_move rfl) ?_
 refine wI (d_lenS rfl Try.underlying22 rfl h1) ?_
 refine wI (n_neq (a := la.length) (b := 24) rfl rfl rfl) ?_
 refine wF ([u1, undef, (Value.slice none 0 0)] ++ (us 6 ++ [u1, (eN la.length), (Value.bool (!decide (la.length = 24)))] ++ (us 48))) ?_
 refine wpL.done ?_
 refine then_n ?_
 refine cond_un rfl (fun c0 => ?_) (fun c0 => ?_)
 ·
  refine wpIn_seq ?_
  refine plain ?_
  refine wI (d_assign rfl) ?_
  refine wF ([u1, undef, (Value.slice none 0 0)] ++ (us 6 ++ [u1, (eN la.length), (Value.bool (!decide (la.length = 24)))] ++ (us 48))) ?_
  refine wpL.done ?_
  refine then_n ?_
  refine wpIn_ret ?_
  refine then_r ?_
  refine leave0 (v := (Value.slice none 0 0)) (res1 Try.results42 rfl) ?_
  exact ROw.nil ((encR_no c0).symm) oW
 refine wpIn_skip ?_
 refine then_n ?_
 refine wpIn_seq ?_
 refine plain ?_
 refine wO (d_make1 (n := 4) Try.underlying22 s_ti5 rfl rfl (by omega) (by omega) rfl) ?_
 rintro _ w12 ⟨b11, rfl, g13, a14, o15⟩
 replace a14 : Arr 5 b11 ((List.replicate 4 0).map eB) w12 := by rw [List.map_replicate]; exact a14
 have l_b11 : (List.replicate 4 0 : List UInt8).length = 4 := by simp
 have g_oW_b11 : W.heap.size ≤ b11 := Nat.le_trans oW.size g13
 replace h1 := h1.new o15 g13
 replace oW := oW.tail0 o15
 refine wI (d_move rfl) ?_
 have a16 := Ow.of_map2 a14 l_b11
 have q_oW_out : Fr (some b11) none W.heap.size := Fr.new g_oW_b11
 replace h1 := h1.less (Y := (Orq (some b11) No)) (xx_br xx_id)
 refine wO (d_append Try.underlying22 Try.underlying22 s_ti5 rfl rfl rfl a16 (SrcV.of_seq h1 (fun _ => rfl)) (by simp; omega) (by simp; omega) rfl) ?_
 rintro u17 w18 ⟨bo19, a20, o21, q22⟩
 replace a20 : Ow 5 1 bo19 u17 ((List.replicate 4 0) ++ la).length (((List.replicate 4 0) ++ la).map eB) w18 := by rw [List.length_append, List.map_append]; exact a20
 replace h1 := h1.gr o21 (fun k e => (.inl e)) (xx_re (Fr.of_or q22) xx_id)
 have tq := oW.size
 replace oW := oW.tailr o21 q_oW_out (fun _ e => by cases e)
 replace q_oW_out := qtr (Fr.of_or q22) q_oW_out tq
 clear tq
 refine wF ([u1, undef, (Value.slice none 0 0)] ++ (us 6 ++ [u1, (eN la.length), (Value.bool (!decide (la.length = 24))), (sli b11 0 4 4), u1, u17] ++ (us 45))) ?_
 refine wI (d_assign rfl) ?_
 refine wF ([u1, undef, (Value.slice none 0 0), u17] ++ (us 5 ++ [u1, (eN la.length), (Value.bool (!decide (la.length = 24))), (sli b11 0 4 4), u1, u17] ++ (us 45))) ?_
 refine wpL.done ?_
 replace a20 : Ow 5 1 bo19 u17 (pad4 la).length ((pad4 la).map eB) w18 := a20
 refine then_n ?_
 refine forget (fun zf23 => ([(zf23 0), (zf23 1), (zf23 2), u17, (zf23 4), (zf23 5), undef, undef] ++ (zs zf23 8 29 ++ (us 18 ++ (zs zf23 55 5))))) (by kernel_rfl) (fun zf23 => ?_)
 refine wpIn_seq ?_
 refine plain ?_
 refine wO (d_buildL (cs := []) Try.underlying22 s_ti5 rfl (nb rfl) parts_nil rfl) ?_
 rintro _ w25 ⟨b24, rfl, g26, a27, o28⟩
 replace a27 : Arr 5 b24 (([] : List UInt8).map eB) w25 := a27
 have l_b24 : ([] : List UInt8).length = 0 := rfl
 have nq_out_b24 : ∀ x, bo19 = some x → ¬ x = b24 := fun x hx e => by have := a20.lts x hx; omega
 have g_oW_b24 : W.heap.size ≤ b24 := Nat.le_trans oW.size g26
 replace h1 := h1.new o28 g26
 replace a20 := a20.step0 o28
 replace oW := oW.tail0 o28
 refine wI (d_move rfl) ?_
 have a29 := Ow.of_map2 a27 l_b24
 have nqq_out_rest := nqq_b1 nq_out_b24
 have q_oW_rest : Fr (some b24) none W.heap.size := Fr.new g_oW_b24
 replace h1 := h1.less (Y := (Orq (some b24) (Orq bo19 No))) (xx_br (xx_orq xx_id))
 refine wO (d_append Try.underlying22 Try.underlying22 s_ti5 rfl rfl rfl a29 (SrcV.of_seq (a20.seq (X := No) (fun _ _ h => h)) (fun _ => rfl)) (by have := pad4_length c0; simp only [List.length_nil]; omega) (by have := pad4_length c0; simp only [List.length_nil]; omega) rfl) ?_
 rintro u30 w31 ⟨bo32, a33, o34, q35⟩
 replace a33 : Ow 5 1 bo32 u30 (pad4 la).length ((pad4 la).map eB) w31 := by simpa using a33
 replace h1 := h1.gr o34 (fun k e => (.inl e)) (xx_re (Fr.of_or q35) (xx_orq xx_id))
 have lt2 := a20.lts
 replace a20 := a20.step o34 (fun x hx e => nqq_out_rest x hx e)
 replace nqq_out_rest := nqq_step nqq_out_rest (Fr.of_or q35) lt2
 clear lt2
 have tq := oW.size
 replace oW := oW.tailr o34 q_oW_rest (fun _ e => by cases e)
 replace q_oW_rest := qtr (Fr.of_or q35) q_oW_rest tq
 clear tq
 refine wF ([(zf23 0), (zf23 1), (zf23 2), u17, (zf23 4), (zf23 5), undef, undef] ++ (zs zf23 8 7 ++ [(sli b24 0 0 0), u17, u30] ++ (zs zf23 18 19 ++ (us 18 ++ (zs zf23 55 5))))) ?_
 refine wI (d_assign rfl) ?_
 refine wF ([(zf23 0), (zf23 1), (zf23 2), u17, u30, (zf23 5), undef, undef] ++ (zs zf23 8 7 ++ [(sli b24 0 0 0), u17, u30] ++ (zs zf23 18 19 ++ (us 18 ++ (zs zf23 55 5))))) ?_
 refine wpL.done ?_
 refine then_n ?_
 refine wpIn_seq ?_
 refine plain ?_
 refine wO (d_call (xl := []) (al := []) Try.func67 (by kernel_rfl) rfl rfl rfl (ref4Gen_ok _)) ?_
 rintro u38 w36 f39
 replace f39 := f39.ps
 obtain ⟨f39, o37⟩ := f39
 replace f39 := f39.less (Y := (Orq bo32 (Orq bo19 (Old W.heap.size)))) (orq_old a33.lts (orq_old a20.lts (old_old oW.size)))
 replace h1 := h1.step0 o37
 replace a20 := a20.step0 o37
 replace a33 := a33.step0 o37
 replace oW := oW.tail0 o37
 refine wI (d_assign rfl) ?_
 refine wF ([(zf23 0), (zf23 1), (zf23 2), u17, u30, u38, undef, undef] ++ (zs zf23 8 7 ++ [(sli b24 0 0 0), u17, u30, u38] ++ (zs zf23 19 18 ++ (us 18 ++ (zs zf23 55 5))))) ?_
 refine wpL.done ?_
 refine then_n ?_
 refine wpIn_seq ?_
 refine wpIn_seq ?_
 have hpl_ := pad4_length c0
 refine plain ?_
 refine wI (d_assign rfl) ?_
 refine wF ([(zf23 0), (zf23 1), (zf23 2), u17, u30, u38, (eN 223), undef] ++ (zs zf23 8 7 ++ [(sli b24 0 0 0), u17, u30, u38] ++ (zs zf23 19 18 ++ (us 18 ++ (zs zf23 55 5))))) ?_
 refine wpL.done ?_
 refine then_n ?_
 refine wpIn_block ?_
 refine loop2 (fun (s_ : (Nat) × (List UInt8)) => match s_ with | ⟨k, rl⟩ => fun (z : Nat → Value) => (([(zf23 0), (zf23 1), (zf23 2), u17, u30, u38, (eN k), (z 7), (z 8)] ++ (zs zf23 9 6 ++ [(sli b24 0 0 0), u17, u30, u38] ++ (zs z 19 36 ++ (zs zf23 55 5)))) : List Value)) (fun (s_ : (Nat) × (List UInt8)) => match s_ with | ⟨k, rl⟩ => fun (w_ : World) => (31 ≤ k ∧ k ≤ 223) ∧ (Rest4 la rl k) ∧ Only (Orq bo32 (Orq bo19 No)) w36 w_ ∧ Ow 5 1 bo19 u17 (pad4 la).length ((pad4 la).map eB) w_ ∧ Ow 5 1 bo32 u30 (rl).length ((rl).map eB) w_) (fun (s_ : (Nat) × (List UInt8)) => match s_ with | ⟨k, rl⟩ => k) ⟨223, pad4 la⟩ rfl ?_ ?_
 ·
  refine ⟨?_, ?_, ?_, ?_, ?_⟩
  ·
   (try dsimp only)
   all_goals (omega)
  ·
   exact Rest4.init c0
  ·
   exact Only.refl _ _
  ·
   exact a20
  ·
   exact a33
 rintro ⟨k, rl⟩ z w41 ⟨hk, hR, o40, a20, a33⟩
 (try dsimp only)
 replace h1 := h1.step o40 (orq_mono (orq_mono no_any))
 replace f39 := f39.step o40 (orq_mono (orq_mono no_any))
 replace oW := oW.tail o40 (tl_q q_oW_rest (fun _ e => by cases e) (tl_q q_oW_out (fun _ e => by cases e) tl_no))
 have q_o40_out : Fr bo19 bo19 w36.heap.size := Fr.same
 have q_o40_rest : Fr bo32 bo32 w36.heap.size := Fr.same
 refine wpIn_seq ?_
 refine wpIn_seq ?_
 refine plain ?_
 refine wI (d_move rfl) ?_
 refine wI (n_geq (a := k) (b := 32) rfl rfl rfl) ?_
 refine wF ([(zf23 0), (zf23 1), (zf23 2), u17, u30, u38, (eN k), (z 7), (z 8)] ++ (zs zf23 9 6 ++ [(sli b24 0 0 0), u17, u30, u38, (eN k), (Value.bool (decide (32 ≤ k)))] ++ (zs z 21 34 ++ (zs zf23 55 5)))) ?_
 refine wpL.done ?_
 refine then_n ?_
 refine cond_if rfl (fun c1 => ?_) (fun c1 => ?_)
 ·
  have hrl_ := hR.len
  refine wpIn_skip ?_
  refine then_n ?_
  refine wpIn_seq ?_
  refine wpIn_block ?_
  refine wpIn_seq ?_
  refine wpIn_seq ?_
  refine plain ?_
  refine wI (d_move rfl) ?_
  refine wI (d_move rfl) ?_
  refine wO (d_call (xl := [.tmp 23, .tmp 24]) (al := [u30, (eN k)]) Try.func68 (by kernel_rfl) rfl rfl rfl (ref4Bit_ok rl k u30 _ (Ps.no (a33.seq (X := No) (fun _ _ h => h))) (by first | omega | (simp; done) | (simp; omega)) (by first | omega | (simp; done) | (simp; omega)))) ?_
  rintro _ w42 ⟨rfl, o43⟩
  replace h1 := h1.step0 o43
  replace f39 := f39.step0 o43
  replace a20 := a20.step0 o43
  replace a33 := a33.step0 o43
  replace oW := oW.tail0 o43
  replace o40 := o40.tail0 o43
  refine wF ([(zf23 0), (zf23 1), (zf23 2), u17, u30, u38, (eN k), (z 7), (z 8)] ++ (zs zf23 9 6 ++ [(sli b24 0 0 0), u17, u30, u38, (eN k), (Value.bool (decide (32 ≤ k))), (z 21), (z 22), u30, (eN k), (eB (btB rl k))] ++ (zs z 26 29 ++ (zs zf23 55 5)))) ?_
  refine wI (b_eql (c := (btB rl k)) (e := 0) rfl rfl rfl) ?_
  refine wF ([(zf23 0), (zf23 1), (zf23 2), u17, u30, u38, (eN k), (z 7), (z 8)] ++ (zs zf23 9 6 ++ [(sli b24 0 0 0), u17, u30, u38, (eN k), (Value.bool (decide (32 ≤ k))), (z 21), (z 22), u30, (eN k), (eB (btB rl k)), (Value.bool (decide (((btB rl k) : UInt8) = (0 : UInt8))))] ++ (zs z 27 28 ++ (zs zf23 55 5)))) ?_
  refine wpL.done ?_
  refine then_n ?_
  refine cond_if rfl (fun c2 => ?_) (fun c2 => ?_)
  ·
   have hb_ : bt rl k = false := btB_no.1 c2
   refine wpIn_exit ?_
   refine then_x (inb_e ?_)
   refine then_n ?_
   refine plain ?_
   refine wI (d_move rfl) ?_
   refine wI (n_sub (a := k) (b := 1) rfl rfl (by omega) (by omega)) ?_
   refine wI (d_assign rfl) ?_
   refine wF ([(zf23 0), (zf23 1), (zf23 2), u17, u30, u38, (eN (k - 1)), (z 7), (z 8)] ++ (zs zf23 9 6 ++ [(sli b24 0 0 0), u17, u30, u38, (eN k), (Value.bool (decide (32 ≤ k))), (eN k), (eN (k - 1)), u30, (eN k), (eB (btB rl k)), (Value.bool (decide (((btB rl k) : UInt8) = (0 : UInt8))))] ++ (zs z 27 28 ++ (zs zf23 55 5)))) ?_
   refine wpL.done ?_
   refine then_n ?_
   refine ⟨_, ⟨k - 1, rl⟩, rfl, rfl, ⟨?_, ?_, ?_, ?_, ?_⟩, ?_⟩
   ·
    (try dsimp only)
    all_goals (omega)
   ·
    exact hR.skip (by omega) hb_
   ·
    exact o40
   ·
    exact a20
   ·
    exact a33
   ·
    (try dsimp only)
    all_goals (omega)
  have hb_ : bt rl k = true := by cases h__ : bt rl k with | true => rfl | false => exact absurd (btB_no.2 h__) c2
  refine wpIn_skip ?_
  refine then_n ?_
  refine wpIn_seq ?_
  refine plain ?_
  refine wI (d_assign rfl) ?_
  refine wF ([(zf23 0), (zf23 1), (zf23 2), u17, u30, u38, (eN k), (eN 0), (z 8)] ++ (zs zf23 9 6 ++ [(sli b24 0 0 0), u17, u30, u38, (eN k), (Value.bool (decide (32 ≤ k))), (z 21), (z 22), u30, (eN k), (eB (btB rl k)), (Value.bool (decide (((btB rl k) : UInt8) = (0 : UInt8))))] ++ (zs z 27 28 ++ (zs zf23 55 5)))) ?_
  refine wpL.done ?_
  refine then_n ?_
  refine wpIn_block ?_
  refine loop2 (fun (i : (Nat)) => fun (z : Nat → Value) => (([(zf23 0), (zf23 1), (zf23 2), u17, u30, u38, (eN k), (eN i), (z 8)] ++ (zs zf23 9 6 ++ [(sli b24 0 0 0), u17, u30, u38, (eN k), (Value.bool (decide (32 ≤ k))), (z 21), (z 22), u30, (eN k), (eB (btB rl k)), (Value.bool (decide (((btB rl k) : UInt8) = (0 : UInt8))))] ++ (zs z 27 28 ++ (zs zf23 55 5)))) : List Value)) (fun (i : (Nat)) => fun (w_ : World) => (i ≤ 33) ∧ Only (Orq bo32 (Orq bo19 No)) w42 w_ ∧ Ow 5 1 bo19 u17 (pad4 la).length ((pad4 la).map eB) w_ ∧ Ow 5 1 bo32 u30 (xorG rl (k - 32) i).length ((xorG rl (k - 32) i).map eB) w_) (fun (i : (Nat)) => 33 - i) 0 rfl ?_ ?_
  ·
   refine ⟨?_, ?_, ?_, ?_⟩
   ·
    (try dsimp only)
    all_goals (omega)
   ·
    exact Only.refl _ _
   ·
    exact a20
   ·
    (try dsimp only)
    all_goals (rw [← xorG_zero hrl_]; exact a33)
  rintro i z w45 ⟨hi, o44, a20, a33⟩
  (try dsimp only)
  replace h1 := h1.step o44 (orq_mono (orq_mono no_any))
  replace f39 := f39.step o44 (orq_mono (orq_mono no_any))
  replace oW := oW.tail o44 (tl_q q_oW_rest (fun _ e => by cases e) (tl_q q_oW_out (fun _ e => by cases e) tl_no))
  replace o40 := o40.tail o44 (tl_q q_o40_rest (fun k e => (.inl e)) (tl_q q_o40_out (fun k e => (.inr (.inl e))) tl_no))
  have q_o44_out : Fr bo19 bo19 w42.heap.size := Fr.same
  have q_o44_rest : Fr bo32 bo32 w42.heap.size := Fr.same
  refine wpIn_seq ?_
  refine wpIn_seq ?_
  refine plain ?_
  refine wI (d_move rfl) ?_
  refine wI (d_move rfl) ?_
  refine wI (d_lenS rfl Try.underlying22 rfl f39) ?_
  refine wF ([(zf23 0), (zf23 1), (zf23 2), u17, u30, u38, (eN k), (eN i), (z 8)] ++ (zs zf23 9 6 ++ [(sli b24 0 0 0), u17, u30, u38, (eN k), (Value.bool (decide (32 ≤ k))), (z 21), (z 22), u30, (eN k), (eB (btB rl k)), (Value.bool (decide (((btB rl k) : UInt8) = (0 : UInt8)))), (eN i), u38, (eN genP.length)] ++ (zs z 30 25 ++ (zs zf23 55 5)))) ?_
  refine wI (n_lss (a := i) (b := genP.length) rfl rfl rfl) ?_
  refine wF ([(zf23 0), (zf23 1), (zf23 2), u17, u30, u38, (eN k), (eN i), (z 8)] ++ (zs zf23 9 6 ++ [(sli b24 0 0 0), u17, u30, u38, (eN k), (Value.bool (decide (32 ≤ k))), (z 21), (z 22), u30, (eN k), (eB (btB rl k)), (Value.bool (decide (((btB rl k) : UInt8) = (0 : UInt8)))), (eN i), u38, (eN genP.length), (Value.bool (decide (i < genP.length)))] ++ (zs z 31 24 ++ (zs zf23 55 5)))) ?_
  refine wpL.done ?_
  refine then_n ?_
  refine cond_if rfl (fun c3 => ?_) (fun c3 => ?_)
  ·
   have hxl_ := xorG_length rl (k - 32) i; have hgl_ := genP_facts.1
   refine wpIn_skip ?_
   refine then_n ?_
   refine wpIn_seq ?_
   refine wpIn_block ?_
   refine wpIn_seq ?_
   refine plain ?_
   refine wI (d_move rfl) ?_
   refine wI (n_sub (a := k) (b := 32) rfl rfl (by omega) (by omega)) ?_
   refine wI (d_move rfl) ?_
   refine wF ([(zf23 0), (zf23 1), (zf23 2), u17, u30, u38, (eN k), (eN i), (z 8)] ++ (zs zf23 9 6 ++ [(sli b24 0 0 0), u17, u30, u38, (eN k), (Value.bool (decide (32 ≤ k))), (z 21), (z 22), u30, (eN k), (eB (btB rl k)), (Value.bool (decide (((btB rl k) : UInt8) = (0 : UInt8)))), (eN i), u38, (eN genP.length), (Value.bool (decide (i < genP.length))), (z 31), (z 32), (eN k), (eN (k - 32)), (eN i)] ++ (zs z 36 19 ++ (zs zf23 55 5)))) ?_
   refine wI (n_add (a := (k - 32)) (b := i) rfl rfl (by omega)) ?_
   refine wI (d_assign rfl) ?_
   refine wF ([(zf23 0), (zf23 1), (zf23 2), u17, u30, u38, (eN k), (eN i), (eN (k - 32 + i))] ++ (zs zf23 9 6 ++ [(sli b24 0 0 0), u17, u30, u38, (eN k), (Value.bool (decide (32 ≤ k))), (z 21), (z 22), u30, (eN k), (eB (btB rl k)), (Value.bool (decide (((btB rl k) : UInt8) = (0 : UInt8)))), (eN i), u38, (eN genP.length), (Value.bool (decide (i < genP.length))), (z 31), (z 32), (eN k), (eN (k - 32)), (eN i), (eN (k - 32 + i))] ++ (zs z 37 18 ++ (zs zf23 55 5)))) ?_
   refine wpL.done ?_
   refine then_n ?_
   refine forget (fun zf46 => ([(zf23 0), (zf23 1), (zf23 2), u17, u30, u38, (eN k), (eN i), (eN (k - 32 + i))] ++ (zs zf23 9 6 ++ [(sli b24 0 0 0), u17, u30, u38, (eN k), (Value.bool (decide (32 ≤ k))), (z 21), (z 22), u30, (eN k), (eB (btB rl k)), (Value.bool (decide (((btB rl k) : UInt8) = (0 : UInt8))))] ++ (zs zf46 27 10 ++ (zs z 37 18 ++ (zs zf23 55 5)))))) (by kernel_rfl) (fun zf46 => ?_)
   refine drawn_last (O := (Isq bo32)) (m := 18) (R := fun w_ => Ow 5 1 bo32 u30 ((xorG rl (k - 32) i).set ((k - 32 + i) / 8) (((xorG rl (k - 32) i).getD ((k - 32 + i) / 8) 0) ^^^ (shlB (genP.getD i 0) ((k - 32 + i) % 8)))).length (((xorG rl (k - 32) i).set ((k - 32 + i) / 8) (((xorG rl (k - 32) i).getD ((k - 32 + i) / 8) 0) ^^^ (shlB (genP.getD i 0) ((k - 32 + i) % 8)))).map eB) w_) [0, 0, 2, 0, 0, 16, 56, 120, 0, 0, 768, 1792, 0, 4096, 12288, 32512, 65528, 131071, 262143] [(0, 37), (1, 38), (2, 39), (3, 40), (4, 41), (5, 42), (6, 43), (7, 44), (8, 45), (9, 46), (10, 47), (11, 48), (12, 49), (13, 50), (14, 51), (15, 52), (16, 53), (17, 54)] [u30, (eN (k - 32 + i)), (eN ((k - 32 + i) / 8)), u30, (eN (k - 32 + i)), (eN ((k - 32 + i) / 8)), (ixp u30 ((k - 32 + i) / 8)), (eB ((xorG rl (k - 32) i).getD ((k - 32 + i) / 8) 0)), u38, (eN i), (ixp u38 i), (eB (genP.getD i 0)), (eN (k - 32 + i)), (eN ((k - 32 + i) % 8)), (Value.int .u64 (((k - 32 + i) % 8 : Nat) : Int)), (eB (shlB (genP.getD i 0) ((k - 32 + i) % 8))), (eB (((xorG rl (k - 32) i).getD ((k - 32 + i) / 8) 0) ^^^ (shlB (genP.getD i 0) ((k - 32 + i) % 8)))), (ixp u30 ((k - 32 + i) / 8))] ([(zf23 0), (zf23 1), (zf23 2), u17, u30, u38, (eN k), (eN i), (eN (k - 32 + i))] ++ (zs zf23 9 6 ++ [(sli b24 0 0 0), u17, u30, u38, (eN k), (Value.bool (decide (32 ≤ k))), (z 21), (z 22), u30, (eN k), (eB (btB rl k)), (Value.bool (decide (((btB rl k) : UInt8) = (0 : UInt8))))] ++ (zs zf46 27 10 ++ [u30, (eN (k - 32 + i)), (eN ((k - 32 + i) / 8)), u30, (eN (k - 32 + i)), (eN ((k - 32 + i) / 8)), (ixp u30 ((k - 32 + i) / 8)), (eB ((xorG rl (k - 32) i).getD ((k - 32 + i) / 8) 0)), u38, (eN i), (ixp u38 i), (eB (genP.getD i 0)), (eN (k - 32 + i)), (eN ((k - 32 + i) % 8)), (Value.int .u64 (((k - 32 + i) % 8 : Nat) : Int)), (eB (shlB (genP.getD i 0) ((k - 32 + i) % 8))), (eB (((xorG rl (k - 32) i).getD ((k - 32 + i) / 8) 0) ^^^ (shlB (genP.getD i 0) ((k - 32 + i) % 8)))), (ixp u30 ((k - 32 + i) / 8))] ++ (zs zf23 55 5)))) s_mx (by kernel_rfl) (by kernel_rfl) rfl rfl (by decide) (by kernel_rfl) (by kernel_rfl) ?_ (fun _ _ h_ ho_ => h_.step0 ho_) ⟨_, rfl, rfl, fun w_ hO_ => gd rfl ((d_stx (i := ((k - 32 + i) / 8)) (xs := (xorG rl (k - 32) i)) (enc := eB) (v := (((xorG rl (k - 32) i).getD ((k - 32 + i) / 8) 0) ^^^ (shlB (genP.getD i 0) ((k - 32 + i) % 8)))) s_ti5 rfl rfl rfl (a33.step0 hO_) (by omega) rfl).mono fun u_ w2_ h_ => ⟨h_.2, h_.1⟩)⟩ ?_
   ·
    intro w_ hO_
    refine AllG.cons (gi rfl (d_move rfl)) ?_
    refine AllG.cons (gi rfl (d_move rfl)) ?_
    refine AllG.cons (gi rfl (n_quo (a := (k - 32 + i)) (b := 8) rfl rfl (by decide) (by omega))) ?_
    refine AllG.cons (gi rfl (d_move rfl)) ?_
    refine AllG.cons (gi rfl (d_move rfl)) ?_
    refine AllG.cons (gi rfl (n_quo (a := (k - 32 + i)) (b := 8) rfl rfl (by decide) (by omega))) ?_
    refine AllG.cons (gi rfl (d_ix (i := ((k - 32 + i) / 8)) (xs := (xorG rl (k - 32) i)) Try.underlying22 s_ti5 rfl ((a33.step0 hO_).seq (X := No) (fun _ _ h => h)) (show _ = Value.int _ (((k - 32 + i) / 8 : Nat) : Int) from rfl) (by have := xorG_length rl (k - 32) i; first | omega | (simp; done) | (simp; omega)))) ?_
    refine AllG.cons (gi rfl (d_ldx (i := ((k - 32 + i) / 8)) (xs := (xorG rl (k - 32) i)) (enc := eB) (v := ((xorG rl (k - 32) i).getD ((k - 32 + i) / 8) 0)) ⟨_, Try.underlying5, rfl⟩ rfl ((a33.step0 hO_).seq (X := No) (fun _ _ h => h)) (g_at (by have := xorG_length rl (k - 32) i; first | omega | (simp; done) | (simp; omega))))) ?_
    refine AllG.cons (gi rfl (d_move rfl)) ?_
    refine AllG.cons (gi rfl (d_move rfl)) ?_
    refine AllG.cons (gi rfl (d_ix (i := i) (xs := genP) Try.underlying22 s_ti5 rfl (f39.step0 hO_) (show _ = Value.int _ ((i : Nat) : Int) from rfl) (by have := genP_facts.1; first | omega | (simp; done) | (simp; omega)))) ?_
    refine AllG.cons (gi rfl (d_ldx (i := i) (xs := genP) (enc := eB) (v := (genP.getD i 0)) ⟨_, Try.underlying5, rfl⟩ rfl (f39.step0 hO_) (g_at (by have := genP_facts.1; first | omega | (simp; done) | (simp; omega))))) ?_
    refine AllG.cons (gi rfl (d_move rfl)) ?_
    refine AllG.cons (gi rfl (n_rem (a := (k - 32 + i)) (b := 8) rfl rfl (by decide))) ?_
    refine AllG.cons (gi rfl (n_toU Try.underlying3 Try.underlying66 rfl (by omega))) ?_
    refine AllG.cons (gi rfl (b_shl (a := ((k - 32 + i) % 8)) rfl rfl (by omega))) ?_
    refine AllG.cons (gi rfl (b_xor (c := ((xorG rl (k - 32) i).getD ((k - 32 + i) / 8) 0)) (e := (shlB (genP.getD i 0) ((k - 32 + i) % 8))) rfl rfl)) ?_
    refine AllG.cons (gi rfl (d_ix (i := ((k - 32 + i) / 8)) (xs := (xorG rl (k - 32) i)) Try.underlying22 s_ti5 rfl ((a33.step0 hO_).seq (X := No) (fun _ _ h => h)) (show _ = Value.int _ (((k - 32 + i) / 8 : Nat) : Int) from rfl) (by have := xorG_length rl (k - 32) i; first | omega | (simp; done) | (simp; omega)))) ?_
    exact AllG.nil
   intro w47 o48 a49
   replace h1 := h1.gr o48 (fun k e => (.inl e)) (xx_re Fr.same (xx_orq xx_id))
   replace f39 := f39.gr o48 (fun k e => (.inl e)) (xx_re Fr.same (xx_orq xx_id))
   have lt2 := a20.lts
   replace a20 := a20.step o48 (fun x hx e => nqq_out_rest x hx e)
   replace nqq_out_rest := nqq_step nqq_out_rest Fr.same lt2
   clear lt2
   have tq := oW.size
   replace oW := oW.tailr o48 q_oW_rest (fun _ e => by cases e)
   replace q_oW_rest := qtr Fr.same q_oW_rest tq
   clear tq
   have tq := o40.size
   replace o40 := o40.tailr o48 q_o40_rest (fun k e => (.inl e))
   replace q_o40_rest := qtr Fr.same q_o40_rest tq
   clear tq
   have tq := o44.size
   replace o44 := o44.tailr o48 q_o44_rest (fun k e => (.inl e))
   replace q_o44_rest := qtr Fr.same q_o44_rest tq
   clear tq
   refine inb_n (then_n ?_)
   refine plain ?_
   refine wI (d_move rfl) ?_
   refine wI (n_add (a := i) (b := 1) rfl rfl (by omega)) ?_
   refine wI (d_assign rfl) ?_
   refine wF ([(zf23 0), (zf23 1), (zf23 2), u17, u30, u38, (eN k), (eN (i + 1)), (eN (k - 32 + i))] ++ (zs zf23 9 6 ++ [(sli b24 0 0 0), u17, u30, u38, (eN k), (Value.bool (decide (32 ≤ k))), (z 21), (z 22), u30, (eN k), (eB (btB rl k)), (Value.bool (decide (((btB rl k) : UInt8) = (0 : UInt8)))), (zf46 27), (zf46 28), (zf46 29), (zf46 30), (eN i), (eN (i + 1)), (zf46 33), (zf46 34), (zf46 35), (zf46 36), u30, (eN (k - 32 + i)), (eN ((k - 32 + i) / 8)), u30, (eN (k - 32 + i)), (eN ((k - 32 + i) / 8)), (ixp u30 ((k - 32 + i) / 8)), (eB ((xorG rl (k - 32) i).getD ((k - 32 + i) / 8) 0)), u38, (eN i), (ixp u38 i), (eB (genP.getD i 0)), (eN (k - 32 + i)), (eN ((k - 32 + i) % 8)), (Value.int .u64 (((k - 32 + i) % 8 : Nat) : Int)), (eB (shlB (genP.getD i 0) ((k - 32 + i) % 8))), (eB (((xorG rl (k - 32) i).getD ((k - 32 + i) / 8) 0) ^^^ (shlB (genP.getD i 0) ((k - 32 + i) % 8)))), (ixp u30 ((k - 32 + i) / 8))] ++ (zs zf23 55 5))) ?_
   refine wpL.done ?_
   refine then_n ?_
   refine ⟨_, (i + 1), rfl, rfl, ⟨?_, ?_, ?_, ?_⟩, ?_⟩
   ·
    (try dsimp only)
    all_goals (omega)
   ·
    exact o44
   ·
    exact a20
   ·
    (try dsimp only)
    all_goals (rw [xorG_step (by omega)] at a49; exact a49)
   ·
    (try dsimp only)
    all_goals (omega)
  have hgl_ := genP_facts.1
  refine wpIn_exit ?_
  refine then_x (then_x (inb_e ?_))
  refine inb_n (then_n ?_)
  refine forget (fun zf50 => ([(zf23 0), (zf23 1), (zf23 2), u17, u30, u38, (eN k), (eN i), (zf50 8)] ++ (zs zf23 9 6 ++ [(sli b24 0 0 0), u17, u30, u38] ++ (zs zf50 19 18 ++ (zs z 37 18 ++ (zs zf23 55 5)))))) (by kernel_rfl) (fun zf50 => ?_)
  refine plain ?_
  refine wI (d_move rfl) ?_
  refine wI (n_sub (a := k) (b := 1) rfl rfl (by omega) (by omega)) ?_
  refine wI (d_assign rfl) ?_
  refine wF ([(zf23 0), (zf23 1), (zf23 2), u17, u30, u38, (eN (k - 1)), (eN i), (zf50 8)] ++ (zs zf23 9 6 ++ [(sli b24 0 0 0), u17, u30, u38, (zf50 19), (zf50 20), (eN k), (eN (k - 1))] ++ (zs zf50 23 14 ++ (zs z 37 18 ++ (zs zf23 55 5))))) ?_
  refine wpL.done ?_
  refine then_n ?_
  refine ⟨_, ⟨k - 1, xorG rl (k - 32) i⟩, rfl, rfl, ⟨?_, ?_, ?_, ?_, ?_⟩, ?_⟩
  ·
   (try dsimp only)
   all_goals (omega)
  ·
   exact hR.take (by omega) (by omega) hb_ (by omega)
  ·
   exact o40
  ·
   exact a20
  ·
   exact a33
  ·
   (try dsimp only)
   all_goals (omega)
 have hrl_ := hR.len
 refine wpIn_exit ?_
 refine then_x (then_x (inb_e ?_))
 refine then_n ?_
 refine wpIn_seq ?_
 have f51 : Ps (Orq bo19 (Old W.heap.size)) (Seq kB rl u30) w41 := Ow.seq a33 (fun b_ hb_ => (not_orq (fun x_ hx_ e_ => nqq_out_rest x_ hx_ (e_ ▸ hb_)) (old_q q_oW_rest b_ hb_)))
 replace h1 := Ps.less (Y := (Orq bo19 No)) h1 (xx_skip (xx_orq xx_id))
 replace f39 := Ps.less (Y := (Orq bo19 (Old W.heap.size))) f39 (xx_skip (xx_orq xx_id))
 refine plain ?_
 refine wI (d_move rfl) ?_
 refine wI (d_move rfl) ?_
 refine wO (d_sliceS (xs := rl) (ys := (rl.take 4)) (l := 0) (h := 4) Try.underlying22 s_ti5 rfl f51 Bd.none (Bd.some (l := 4) (k := .i64) rfl) (by omega) (by omega) (by simp)) ?_
 rintro u52 _ ⟨f53, rfl⟩
 refine wF ([(zf23 0), (zf23 1), (zf23 2), u17, u30, u38, (eN k), (z 7), (z 8)] ++ (zs zf23 9 6 ++ [(sli b24 0 0 0), u17, u30, u38, (eN k), (Value.bool (decide (32 ≤ k)))] ++ (zs z 21 34 ++ [u17, u30, u52, (zf23 58), (zf23 59)]))) ?_
 refine wO (d_copyOw (xs := (pad4 la)) (zs := ((rl.take 4).take 4 ++ (pad4 la).drop 4)) (j := 4) rfl Try.underlying22 s_ti5 rfl rfl a20 f53 (fun _ => rfl) (by omega) (by rw [List.length_take, hrl_, hpl_]; rfl) rfl) ?_
 rintro _ w54 ⟨rfl, a55, o56⟩
 replace h1 := h1.gr o56 (fun k e => (.inl e)) (xx_re Fr.same xx_id)
 replace f39 := f39.gr o56 (fun k e => (.inl e)) (xx_re Fr.same xx_id)
 replace f51 := f51.gr o56 (fun k e => (.inl e)) (xx_re Fr.same xx_id)
 replace f53 := f53.gr o56 (fun k e => (.inl e)) (xx_re Fr.same xx_id)
 have tq := oW.size
 replace oW := oW.tailr o56 q_oW_out (fun _ e => by cases e)
 replace q_oW_out := qtr Fr.same q_oW_out tq
 clear tq
 have tq := o40.size
 replace o40 := o40.tailr o56 q_o40_out (fun k e => (.inr (.inl e)))
 replace q_o40_out := qtr Fr.same q_o40_out tq
 clear tq
 refine wF ([(zf23 0), (zf23 1), (zf23 2), u17, u30, u38, (eN k), (z 7), (z 8)] ++ (zs zf23 9 6 ++ [(sli b24 0 0 0), u17, u30, u38, (eN k), (Value.bool (decide (32 ≤ k)))] ++ (zs z 21 34 ++ [u17, u30, u52, (eN 4), (zf23 59)]))) ?_
 refine wpL.done ?_
 refine then_n ?_
 refine forget (fun zf57 => ([(zf57 0), (zf57 1), (zf57 2), u17, (zf57 4), (zf57 5), (eN k), (z 7)] ++ (zs zf57 8 52))) (by kernel_rfl) (fun zf57 => ?_)
 refine wpIn_seq ?_
 refine plain ?_
 refine wI (d_move rfl) ?_
 refine wI (d_assign rfl) ?_
 refine wF ([(zf57 0), (zf57 1), u17, u17, (zf57 4), (zf57 5), (eN k), (z 7)] ++ (zs zf57 8 51 ++ [u17])) ?_
 refine wpL.done ?_
 refine then_n ?_
 refine wpIn_ret ?_
 refine leave0 (v := u17) (res1 Try.results42 rfl) ?_
 exact ROw.mk_ a55 (by rw [encR_yes c0]; exact hR.done c0 (by omega)) q_oW_out oW

set_option maxRecDepth 20000 in
set_option maxHeartbeats 4000000 in
theorem ref4Places_ok (la : List UInt8) (u1 : Value) (W : World) (h1 : Ps No (Seq kB la u1) W) (g8 : la.length = 8) :
    CW Try.prog 76 #[u1] W (Rt (fun u w => ∃ L b, PlacesOk la L b ∧ RTb kN L b W u w)) := by
 have oW : Only No W W := Only.refl _ _
 refine enter (al := [u1]) (k := 112) (l := ([u1] ++ (us 112))) Try.func76 rfl Try.ntmps76 rfl rfl ?_
 refine wpIn_seq ?_
 refine plain ?_
 refine wI (d_assign rfl) ?_
 refine wI (d_assign rfl) ?_
 refine wF ([u1, undef, (Value.slice none 0 0), (Value.bool false)] ++ (us 109)) ?_
 refine wpL.done ?_
 refine then_n ?_
 refine wpIn_seq ?_
 refine wpIn_seq ?_
 refine plain ?_
 refine wI (d_move rfl) ?_
 refine wO (d_call (xl := [.tmp 13]) (al := [u1]) Try.func101 (by kernel_rfl) rfl rfl rfl (ref4Zero_ok la u1 _ (Ps.no h1) (by first | omega | (simp; done) | (simp; omega)))) ?_
 rintro _ w11 ⟨rfl, o12⟩
 replace h1 := h1.step0 o12
 replace oW := oW.tail0 o12
 refine wF ([u1, undef, (Value.slice none 0 0), (Value.bool false)] ++ (us 9 ++ [u1, (Value.bool (whole la))] ++ (us 98))) ?_
 refine wpL.done ?_
 refine then_n ?_
 refine cond_b rfl (fun c0 => ?_) (fun c0 => ?_)
 ·
  refine wpIn_seq ?_
  refine plain ?_
  refine wI (d_assign rfl) ?_
  refine wI (d_assign rfl) ?_
  refine wF ([u1, undef, (Value.slice none 0 0), (Value.bool true)] ++ (us 9 ++ [u1, (Value.bool (whole la))] ++ (us 98))) ?_
  refine wpL.done ?_
  refine then_n ?_
  refine wpIn_ret ?_
  refine then_r ?_
  refine leave0 (v := (Value.tuple #[(Value.slice none 0 0), (Value.bool true)])) (res2 Try.results76 rfl rfl) ?_
  exact ⟨[], true, PlacesOk.nil g8 c0, RTb.of rfl rfl seq_nil oW⟩
 refine wpIn_skip ?_
 refine then_n ?_
 refine wpIn_seq ?_
 refine plain ?_
 refine wO (d_call (xl := []) (al := []) Try.func102 (by kernel_rfl) rfl rfl rfl (ref2Powers_ok _)) ?_
 rintro _ w13 ⟨rfl, o14⟩
 replace h1 := h1.step0 o14
 replace oW := oW.tail0 o14
 refine wO (d_alloc s_ti132 (by simp [Value.cells]; rfl)) ?_
 rintro _ w15 ⟨pw, rfl, g16, a17, o18⟩
 replace a17 : Arr 132 pw ((List.replicate 255 0).map eB) w15 := by rw [List.map_replicate]; exact a17
 have l_pw : (List.replicate 255 0 : List UInt8).length = 255 := by simp
 have g_oW_pw : W.heap.size ≤ pw := Nat.le_trans oW.size g16
 replace h1 := h1.new o18 g16
 replace oW := oW.tail0 o18
 refine wO (d_storeAg s_ti132 rfl rfl (map_len (pwT_length 255)) (oneC (fun _ => rfl) _) a17 (by rw [map_len l_pw]; omega) (put_all (map_len l_pw))) ?_
 rintro _ w19 ⟨a20, o21⟩
 replace h1 := h1.stepb o21 in1
 replace oW := oW.tailb o21 g_oW_pw
 replace l_pw : ((pwT 255) : List UInt8).length = 255 := pwT_length 255
 refine wF ([u1, undef, (Value.slice none 0 0), (Value.bool false), (ptr pw 0)] ++ (us 8 ++ [u1, (Value.bool (whole la)), (Value.agg ((pwT 255).map eB).toArray)] ++ (us 97))) ?_
 refine wpL.done ?_
 refine then_n ?_
 refine wpIn_seq ?_
 refine plain ?_
 refine wO (d_alloc s_ti134 (by simp [Value.cells]; rfl)) ?_
 rintro _ w22 ⟨lg, rfl, g23, a24, o25⟩
 replace a24 : Arr 134 lg ((List.replicate 256 0).map eN) w22 := by rw [List.map_replicate]; exact a24
 have l_lg : (List.replicate 256 0 : List Nat).length = 256 := by simp
 have n_pw_lg : pw ≠ lg := a20.ne g23
 have g_oW_lg : W.heap.size ≤ lg := Nat.le_trans oW.size g23
 replace h1 := h1.new o25 g23
 replace a20 := a20.step0 o25
 replace oW := oW.tail0 o25
 refine wF ([u1, undef, (Value.slice none 0 0), (Value.bool false), (ptr pw 0), (ptr lg 0)] ++ (us 7 ++ [u1, (Value.bool (whole la)), (Value.agg ((pwT 255).map eB).toArray)] ++ (us 97))) ?_
 refine wpL.done ?_
 refine then_n ?_
 refine wpIn_seq ?_
 refine wpIn_seq ?_
 refine plain ?_
 refine wI (d_assign rfl) ?_
 refine wF ([u1, undef, (Value.slice none 0 0), (Value.bool false), (ptr pw 0), (ptr lg 0), (eN 0)] ++ (us 6 ++ [u1, (Value.bool (whole la)), (Value.agg ((pwT 255).map eB).toArray)] ++ (us 97))) ?_
 refine wpL.done ?_
 refine then_n ?_
 refine wpIn_block ?_
 refine loop2 (fun (i : (Nat)) => fun (z : Nat → Value) => (([u1, undef, (Value.slice none 0 0), (Value.bool false), (ptr pw 0), (ptr lg 0), (eN i)] ++ (us 6 ++ [u1, (Value.bool (whole la)), (Value.agg ((pwT 255).map eB).toArray)] ++ (zs z 16 9 ++ (us 88)))) : List Value)) (fun (i : (Nat)) => fun (w_ : World) => (i ≤ 255) ∧ Only (Or1 lg (Or1 pw No)) w22 w_ ∧ Arr 132 pw ((pwT 255).map eB) w_ ∧ (logT i).length = 256 ∧ Arr 134 lg ((logT i).map eN) w_) (fun (i : (Nat)) => 255 - i) 0 rfl ?_ ?_
 ·
  refine ⟨?_, ?_, ?_, ?_, ?_⟩
  ·
   (try dsimp only)
   all_goals (omega)
  ·
   exact Only.refl _ _
  ·
   exact a20
  ·
   exact logT_length 0
  ·
   (try dsimp only)
   all_goals (rw [← logT_zero]; exact a24)
 rintro i z w27 ⟨hi, o26, a20, l_lg, a24⟩
 (try dsimp only)
 replace h1 := h1.step o26 (or1_mono (or1_mono no_any))
 replace oW := oW.tail o26 (tl_new g_oW_lg (tl_new g_oW_pw tl_no))
 refine wpIn_seq ?_
 refine wpIn_seq ?_
 refine plain ?_
 refine wI (d_move rfl) ?_
 refine wI (n_lss (a := i) (b := 255) rfl rfl rfl) ?_
 refine wF ([u1, undef, (Value.slice none 0 0), (Value.bool false), (ptr pw 0), (ptr lg 0), (eN i)] ++ (us 6 ++ [u1, (Value.bool (whole la)), (Value.agg ((pwT 255).map eB).toArray), (eN i), (Value.bool (decide (i < 255)))] ++ (zs z 18 7 ++ (us 88)))) ?_
 refine wpL.done ?_
 refine then_n ?_
 refine cond_if rfl (fun c1 => ?_) (fun c1 => ?_)
 ·
  refine wpIn_skip ?_
  refine then_n ?_
  refine wpIn_seq ?_
  refine wpIn_block ?_
  refine plain ?_
  refine wI (d_move rfl) ?_
  refine wI (d_indexArr1 (i := i) Try.underlying132 s_ti5 rfl (show _ = Value.int _ ((i : Nat) : Int) from rfl) (by omega)) ?_
  refine wI (d_load ⟨_, Try.underlying5, rfl⟩ rfl a20 (m_at (d := 0) (by rw [l_pw]; omega))) ?_
  refine wF ([u1, undef, (Value.slice none 0 0), (Value.bool false), (ptr pw 0), (ptr lg 0), (eN i)] ++ (us 6 ++ [u1, (Value.bool (whole la)), (Value.agg ((pwT 255).map eB).toArray), (eN i), (Value.bool (decide (i < 255))), (z 18), (z 19), (eN i), (ptr pw i), (eB ((pwT 255).getD i 0)), (z 23), (z 24)] ++ (us 88))) ?_
  refine wI (d_move rfl) ?_
  refine wI (d_indexArr1 (i := (((pwT 255).getD i 0).toNat)) Try.underlying134 s_ti3 rfl (show _ = Value.int _ ((((pwT 255).getD i 0) : UInt8).toNat : Int) from rfl) (by have h__ := UInt8.toNat_lt ((pwT 255).getD i 0); omega)) ?_
  refine wO (d_store (b := lg) (i := (((pwT 255).getD i 0).toNat)) (v := (eN i)) s_ti3 rfl rfl rfl a24 (by rw [List.length_map, l_lg]; exact UInt8.toNat_lt _) (m_put (logT i) (((pwT 255).getD i 0).toNat) i eN)) ?_
  rintro _ w28 ⟨a29, o30⟩
  replace h1 := h1.stepb o30 in1
  replace a20 := a20.step o30 (fun e => absurd e n_pw_lg)
  replace oW := oW.tailb o30 g_oW_lg
  replace o26 := o26.tail o30 (fun k _ e => by have : k = lg := e; rw [this]; exact in1)
  replace l_lg : ((logT i).set (((pwT 255).getD i 0).toNat) i : List Nat).length = 256 := (List.length_set ..).trans l_lg
  refine wF ([u1, undef, (Value.slice none 0 0), (Value.bool false), (ptr pw 0), (ptr lg 0), (eN i)] ++ (us 6 ++ [u1, (Value.bool (whole la)), (Value.agg ((pwT 255).map eB).toArray), (eN i), (Value.bool (decide (i < 255))), (z 18), (z 19), (eN i), (ptr pw i), (eB ((pwT 255).getD i 0)), (eN i), (ptr lg (((pwT 255).getD i 0).toNat))] ++ (us 88))) ?_
  refine wpL.done ?_
  refine inb_n (then_n ?_)
  refine plain ?_
  refine wI (d_move rfl) ?_
  refine wI (n_add (a := i) (b := 1) rfl rfl (by omega)) ?_
  refine wI (d_assign rfl) ?_
  refine wF ([u1, undef, (Value.slice none 0 0), (Value.bool false), (ptr pw 0), (ptr lg 0), (eN (i + 1))] ++ (us 6 ++ [u1, (Value.bool (whole la)), (Value.agg ((pwT 255).map eB).toArray), (eN i), (Value.bool (decide (i < 255))), (eN i), (eN (i + 1)), (eN i), (ptr pw i), (eB ((pwT 255).getD i 0)), (eN i), (ptr lg (((pwT 255).getD i 0).toNat))] ++ (us 88))) ?_
  refine wpL.done ?_
  refine then_n ?_
  refine ⟨_, (i + 1), rfl, rfl, ⟨?_, ?_, ?_, ?_, ?_⟩, ?_⟩
  ·
   (try dsimp only)
   all_goals (omega)
  ·
   exact o26
  ·
   exact a20
  ·
   exact logT_length _
  ·
   (try dsimp only)
   all_goals (rw [pwT_at c1, logT_step c1] at a29; exact a29)
  ·
   (try dsimp only)
   all_goals (omega)
 refine wpIn_exit ?_
 refine then_x (then_x (inb_e ?_))
 refine then_n ?_
 refine wpIn_seq ?_
 obtain rfl : i = 255 := by omega
 refine wp_eq (l' := ([u1, undef, (Value.slice none 0 0), (Value.bool false), (ptr pw 0), (ptr lg 0), (eN 255)] ++ (us 6 ++ [u1, (Value.bool (whole la)), (Value.agg ((pwT 255).map eB).toArray), (eN 255), (Value.bool (decide (255 < 255)))] ++ (zs z 18 7 ++ (us 88))))) rfl ?_
 refine plain ?_
 refine wI (d_move rfl) ?_
 refine wI (d_loadAg (vs := ((pwT 255).map eB)) ⟨_, Try.underlying132, rfl⟩ s_ti132 rfl a20 (take_all l_pw) (map_len l_pw)) ?_
 refine wI (d_loadAg (vs := ((logT 255).map eN)) ⟨_, Try.underlying134, rfl⟩ s_ti134 rfl a24 (take_all l_lg) (map_len l_lg)) ?_
 refine wF ([u1, undef, (Value.slice none 0 0), (Value.bool false), (ptr pw 0), (ptr lg 0), (eN 255)] ++ (us 6 ++ [u1, (Value.bool (whole la)), (Value.agg ((pwT 255).map eB).toArray), (eN 255), (Value.bool (decide (255 < 255)))] ++ (zs z 18 7 ++ [u1, (Value.agg ((pwT 255).map eB).toArray), (Value.agg ((logT 255).map eN).toArray)] ++ (us 85)))) ?_
 refine wO (d_call (xl := [.tmp 25, .tmp 26, .tmp 27]) (al := [u1, (Value.agg ((pwT 255).map eB).toArray), (Value.agg ((logT 255).map eN).toArray)]) Try.func103 (by kernel_rfl) rfl rfl rfl (ref4Single_ok la u1 _ (Ps.no h1) (by first | omega | (simp; done) | (simp; omega)))) ?_
 rintro _ w31 ⟨rfl, o32⟩
 replace h1 := h1.step0 o32
 replace a20 := a20.step0 o32
 replace a24 := a24.step0 o32
 replace oW := oW.tail0 o32
 replace o26 := o26.tail0 o32
 refine wI (d_assign rfl) ?_
 refine wF ([u1, undef, (Value.slice none 0 0), (Value.bool false), (ptr pw 0), (ptr lg 0), (eN 255), (eI (sing la))] ++ (us 5 ++ [u1, (Value.bool (whole la)), (Value.agg ((pwT 255).map eB).toArray), (eN 255), (Value.bool (decide (255 < 255)))] ++ (zs z 18 7 ++ [u1, (Value.agg ((pwT 255).map eB).toArray), (Value.agg ((logT 255).map eN).toArray), (eI (sing la))] ++ (us 84)))) ?_
 refine wpL.done ?_
 refine then_n ?_
 refine forget (fun zf33 => ([u1, (zf33 1), (zf33 2), (zf33 3), (ptr pw 0), (ptr lg 0), (eN 255), (eI (sing la)), undef, undef, (zf33 10), undef] ++ (zs zf33 12 25 ++ (us 7 ++ (zs zf33 44 19 ++ (us 37 ++ [(zf33 100)] ++ (us 7 ++ (zs zf33 108 5)))))))) (by kernel_rfl) (fun zf33 => ?_)
 refine wpIn_seq ?_
 refine wpIn_seq ?_
 refine plain ?_
 refine wI (d_move rfl) ?_
 refine wI (d_geq (k := .i64) (m := sing la) (n := 0) rfl rfl rfl) ?_
 refine wF ([u1, (zf33 1), (zf33 2), (zf33 3), (ptr pw 0), (ptr lg 0), (eN 255), (eI (sing la)), undef, undef, (zf33 10), undef] ++ (zs zf33 12 17 ++ [(eI (sing la)), (Value.bool (decide (0 ≤ sing la)))] ++ (zs zf33 31 6 ++ (us 7 ++ (zs zf33 44 19 ++ (us 37 ++ [(zf33 100)] ++ (us 7 ++ (zs zf33 108 5)))))))) ?_
 refine wpL.done ?_
 refine then_n ?_
 refine cond_if rfl (fun c2 => ?_) (fun c2 => ?_)
 ·
  obtain ⟨k_, hk_, hk1_, hk2_⟩ := sing_yes g8 c2
  refine wp_eq (l' := ([u1, (zf33 1), (zf33 2), (zf33 3), (ptr pw 0), (ptr lg 0), (eN 255), (eN k_), undef, undef, (zf33 10), undef] ++ (zs zf33 12 17 ++ [(eI (sing la)), (Value.bool (decide (0 ≤ sing la)))] ++ (zs zf33 31 6 ++ (us 7 ++ (zs zf33 44 19 ++ (us 37 ++ [(zf33 100)] ++ (us 7 ++ (zs zf33 108 5))))))))) (show (([u1, (zf33 1), (zf33 2), (zf33 3), (ptr pw 0), (ptr lg 0), (eN 255), (eI (sing la)), undef, undef, (zf33 10), undef] ++ (zs zf33 12 17 ++ [(eI (sing la)), (Value.bool (decide (0 ≤ sing la)))] ++ (zs zf33 31 6 ++ (us 7 ++ (zs zf33 44 19 ++ (us 37 ++ [(zf33 100)] ++ (us 7 ++ (zs zf33 108 5)))))))) : List Value) = ([u1, (zf33 1), (zf33 2), (zf33 3), (ptr pw 0), (ptr lg 0), (eN 255), (eN k_), undef, undef, (zf33 10), undef] ++ (zs zf33 12 17 ++ [(eI (sing la)), (Value.bool (decide (0 ≤ sing la)))] ++ (zs zf33 31 6 ++ (us 7 ++ (zs zf33 44 19 ++ (us 37 ++ [(zf33 100)] ++ (us 7 ++ (zs zf33 108 5)))))))) from reslot ([u1, (zf33 1), (zf33 2), (zf33 3), (ptr pw 0), (ptr lg 0), (eN 255), (eI (sing la)), undef, undef, (zf33 10), undef] ++ (zs zf33 12 17 ++ [(eI (sing la)), (Value.bool (decide (0 ≤ sing la)))] ++ (zs zf33 31 6 ++ (us 7 ++ (zs zf33 44 19 ++ (us 37 ++ [(zf33 100)] ++ (us 7 ++ (zs zf33 108 5)))))))) 7 (congrArg eI hk_)) ?_
  refine wpIn_seq ?_
  refine plain ?_
  refine wI (d_move rfl) ?_
  refine wO (d_buildL (cs := [(eN k_)]) Try.underlying23 s_ti3 rfl (nb rfl) (parts_cons (vs := [(eN k_)]) (cells_of (v := (eN k_)) rfl rfl) parts_nil) rfl) ?_
  rintro _ w35 ⟨b34, rfl, g36, a37, o38⟩
  replace a37 : Arr 3 b34 (([k_] : List Nat).map eN) w35 := a37
  have l_b34 : ([k_] : List Nat).length = 1 := rfl
  have n_pw_b34 : pw ≠ b34 := a20.ne g36
  have n_lg_b34 : lg ≠ b34 := a24.ne g36
  have g_oW_b34 : W.heap.size ≤ b34 := Nat.le_trans oW.size g36
  have g_o26_b34 : w22.heap.size ≤ b34 := Nat.le_trans o26.size g36
  replace h1 := h1.new o38 g36
  replace a20 := a20.step0 o38
  replace a24 := a24.step0 o38
  replace oW := oW.tail0 o38
  replace o26 := o26.tail0 o38
  refine wI (d_assign rfl) ?_
  refine wF ([u1, (zf33 1), (sli b34 0 1 1), (zf33 3), (ptr pw 0), (ptr lg 0), (eN 255), (eN k_), undef, undef, (zf33 10), undef] ++ (zs zf33 12 17 ++ [(eI (sing la)), (Value.bool (decide (0 ≤ sing la))), (eN k_), (sli b34 0 1 1), (zf33 33), (zf33 34), (zf33 35), (zf33 36)] ++ (us 7 ++ (zs zf33 44 19 ++ (us 37 ++ [(zf33 100)] ++ (us 7 ++ (zs zf33 108 5))))))) ?_
  refine wI (d_assign rfl) ?_
  refine wF ([u1, (zf33 1), (sli b34 0 1 1), (Value.bool true), (ptr pw 0), (ptr lg 0), (eN 255), (eN k_), undef, undef, (zf33 10), undef] ++ (zs zf33 12 17 ++ [(eI (sing la)), (Value.bool (decide (0 ≤ sing la))), (eN k_), (sli b34 0 1 1), (zf33 33), (zf33 34), (zf33 35), (zf33 36)] ++ (us 7 ++ (zs zf33 44 19 ++ (us 37 ++ [(zf33 100)] ++ (us 7 ++ (zs zf33 108 5))))))) ?_
  refine wpL.done ?_
  refine then_n ?_
  refine forget (fun zf39 => ([(zf39 0), (zf39 1), (sli b34 0 1 1), (Value.bool true), (zf39 4), (zf39 5), (eN 255), (zf39 7), undef, undef, (zf39 10), undef] ++ (zs zf39 12 101))) (by kernel_rfl) (fun zf39 => ?_)
  refine wpIn_ret ?_
  refine then_r ?_
  refine leave0 (v := (Value.tuple #[(sli b34 0 1 1), (Value.bool true)])) (res2 Try.results76 rfl rfl) ?_
  exact ⟨[k_], true, PlacesOk.one hk1_ hk2_, RTb.of rfl rfl (arr_keep a37 l_b34 (Nat.le_refl _) (old_ne g_oW_b34)) oW⟩
 have hno1 := sing_no g8 c2
 refine wpIn_skip ?_
 refine then_n ?_
 refine wpIn_seq ?_
 refine wpIn_seq ?_
 refine plain ?_
 refine wI (d_assign rfl) ?_
 refine wF ([u1, (zf33 1), (zf33 2), (zf33 3), (ptr pw 0), (ptr lg 0), (eN 255), (eI (sing la)), (eN 0), undef, (zf33 10), undef] ++ (zs zf33 12 17 ++ [(eI (sing la)), (Value.bool (decide (0 ≤ sing la)))] ++ (zs zf33 31 6 ++ (us 7 ++ (zs zf33 44 19 ++ (us 37 ++ [(zf33 100)] ++ (us 7 ++ (zs zf33 108 5)))))))) ?_
 refine wpL.done ?_
 refine then_n ?_
 refine wpIn_block ?_
 refine loop2 (fun (a : (Nat)) => fun (z : Nat → Value) => (([u1, (zf33 1), (z 2), (z 3), (ptr pw 0), (ptr lg 0), (eN 255), (z 7), (eN a), undef, (zf33 10), undef] ++ (zs zf33 12 17 ++ [(eI (sing la)), (Value.bool (decide (0 ≤ sing la))), (zf33 31), (zf33 32)] ++ (zs z 33 16 ++ (zs zf33 49 14 ++ (us 37 ++ [(zf33 100)] ++ (us 7 ++ (zs zf33 108 5))))))) : List Value)) (fun (a : (Nat)) => fun (w_ : World) => (a ≤ 224) ∧ (∀ i, i < a → ∀ k, k < 224 → ¬ SynEq la [i, k]) ∧ Only (Or1 lg (Or1 pw No)) w31 w_ ∧ Arr 132 pw ((pwT 255).map eB) w_ ∧ Arr 134 lg ((logT 255).map eN) w_) (fun (a : (Nat)) => 224 - a) 0 rfl ?_ ?_
 ·
  refine ⟨?_, ?_, ?_, ?_, ?_⟩
  ·
   (try dsimp only)
   all_goals (omega)
  ·
   exact fun i hi => absurd hi (Nat.not_lt_zero _)
  ·
   exact Only.refl _ _
  ·
   exact a20
  ·
   exact a24
 rintro a z w41 ⟨ha, h2, o40, a20, a24⟩
 (try dsimp only)
 replace h1 := h1.step o40 (or1_mono (or1_mono no_any))
 replace oW := oW.tail o40 (tl_new g_oW_lg (tl_new g_oW_pw tl_no))
 replace o26 := o26.tail o40 (tl_in in1 (tl_in (in2 in1) tl_no))
 refine wpIn_seq ?_
 refine wpIn_seq ?_
 refine plain ?_
 refine wI (d_move rfl) ?_
 refine wI (n_lss (a := a) (b := 224) rfl rfl rfl) ?_
 refine wF ([u1, (zf33 1), (z 2), (z 3), (ptr pw 0), (ptr lg 0), (eN 255), (z 7), (eN a), undef, (zf33 10), undef] ++ (zs zf33 12 17 ++ [(eI (sing la)), (Value.bool (decide (0 ≤ sing la))), (zf33 31), (zf33 32), (eN a), (Value.bool (decide (a < 224)))] ++ (zs z 35 14 ++ (zs zf33 49 14 ++ (us 37 ++ [(zf33 100)] ++ (us 7 ++ (zs zf33 108 5))))))) ?_
 refine wpL.done ?_
 refine then_n ?_
 refine cond_if rfl (fun c3 => ?_) (fun c3 => ?_)
 ·
  refine wpIn_skip ?_
  refine then_n ?_
  refine wpIn_seq ?_
  refine wpIn_block ?_
  refine wpIn_seq ?_
  refine drawn' (O := (Or1 lg (Or1 pw No))) (n := 8) [0, 0, 0, 7, 0, 0, 63, 127] [(0, 37), (1, 38), (2, 39), (3, 40), (4, 41), (5, 42), (6, 43), (7, 7)] [0, 1, 2, 3, 4, 5, 6, 7] [] (fun i_ => ([RF.is (Or1 lg (Or1 pw No)) u1, RF.is (Or1 lg (Or1 pw No)) (eN a), RF.is (Or1 lg (Or1 pw No)) (Value.agg ((pwT 255).map eB).toArray), RF.ps (Or1 lg (Or1 pw No)) (Or1 lg (Or1 pw (Old W.heap.size))) (Seq kB (turnL la a)) (or1_mono (or1_mono no_any)), RF.is (Or1 lg (Or1 pw No)) (Value.agg ((pwT 255).map eB).toArray), RF.is (Or1 lg (Or1 pw No)) (Value.agg ((logT 255).map eN).toArray), RF.is (Or1 lg (Or1 pw No)) (eI (sing (turnL la a))), RF.is (Or1 lg (Or1 pw No)) (eI (sing (turnL la a)))] : List (RF (Or1 lg (Or1 pw No)))).getD i_ (RF.any (Or1 lg (Or1 pw No)))) (fun _ w_ => Arr 132 pw ((pwT 255).map eB) w_ ∧ Arr 134 lg ((logT 255).map eN) w_) (fun v42 => ([u1, (zf33 1), (z 2), (z 3), (ptr pw 0), (ptr lg 0), (eN 255), (v42 7), (eN a), undef, (zf33 10), undef] ++ (zs zf33 12 17 ++ [(eI (sing la)), (Value.bool (decide (0 ≤ sing la))), (zf33 31), (zf33 32), (eN a), (Value.bool (decide (a < 224))), (z 35), (z 36), (v42 0), (v42 1), (v42 2), (v42 3), (v42 4), (v42 5), (v42 6)] ++ (zs z 44 5 ++ (zs zf33 49 14 ++ (us 37 ++ [(zf33 100)] ++ (us 7 ++ (zs zf33 108 5)))))))) s_mx (by kernel_rfl) rfl (by kernel_rfl) (by rfl) (fun v_ => by kernel_rfl) (fun _ => fun w_ w2_ h ho => by obtain ⟨r_a20, r_a24⟩ := h; exact ⟨r_a20.step0 ho, r_a24.step0 ho⟩) ⟨a20, a24⟩ ?_ ?_ ?_
  ·
   refine ls_cons ?_ ?_
   ·
    intro v42 lo hi w_ k_ hO hd _ _ hk_ _ hR hold
    obtain ⟨r_a20, r_a24⟩ := hR
    clear hd hold
    refine ⟨_, rfl, gd rfl ?_⟩
    exact Does.is (d_move rfl)
   refine ls_cons ?_ ?_
   ·
    intro v42 lo hi w_ k_ hO hd _ _ hk_ _ hR hold
    obtain ⟨r_a20, r_a24⟩ := hR
    clear hd hold
    refine ⟨_, rfl, gd rfl ?_⟩
    exact Does.is (d_move rfl)
   refine ls_cons ?_ ?_
   ·
    intro v42 lo hi w_ k_ hO hd _ _ hk_ _ hR hold
    obtain ⟨r_a20, r_a24⟩ := hR
    clear hd hold
    refine ⟨_, rfl, gd rfl ?_⟩
    exact Does.is (d_loadAg (vs := ((pwT 255).map eB)) ⟨_, Try.underlying132, rfl⟩ s_ti132 rfl r_a20 (take_all l_pw) (map_len l_pw))
   refine ls_cons ?_ ?_
   ·
    intro v42 lo hi w_ k_ hO hd _ _ hk_ _ hR hold
    obtain ⟨r_a20, r_a24⟩ := hR
    have e0 : v42 0 = u1 := hd 0 (by kernel_rfl)
    have e1 : v42 1 = (eN a) := hd 1 (by kernel_rfl)
    have e2 : v42 2 = (Value.agg ((pwT 255).map eB).toArray) := hd 2 (by kernel_rfl)
    clear hd hold
    refine ⟨_, rfl, gd rfl ?_⟩
    refine Does.mono (R := ROw 5 eB (turnL la a) w_) ?_ (fun u w' h => ⟨(h.ps).1.less (or1_old r_a24.lt (or1_old r_a20.lt (old_old (Nat.le_trans oW.size hO.size)))), (h.ps).2⟩)
    exact d_call (xl := [.tmp 37, .tmp 38, .tmp 39]) (al := [u1, (eN a), (Value.agg ((pwT 255).map eB).toArray)]) Try.func104 (by kernel_rfl) rfl (show ([(v42 0), (v42 1), (v42 2)] : List Value) = [u1, (eN a), (Value.agg ((pwT 255).map eB).toArray)] from by rw [e0, e1, e2]) rfl (ref4Turned_ok la a u1 _ (Ps.no (h1.step hO (or1_mono (or1_mono no_any)))) (by first | omega | (simp; done) | (simp; omega)) (by first | omega | (exact lgZ_lt _)))
   refine ls_cons ?_ ?_
   ·
    intro v42 lo hi w_ k_ hO hd _ _ hk_ _ hR hold
    obtain ⟨r_a20, r_a24⟩ := hR
    clear hd hold
    refine ⟨_, rfl, gd rfl ?_⟩
    exact Does.is (d_loadAg (vs := ((pwT 255).map eB)) ⟨_, Try.underlying132, rfl⟩ s_ti132 rfl r_a20 (take_all l_pw) (map_len l_pw))
   refine ls_cons ?_ ?_
   ·
    intro v42 lo hi w_ k_ hO hd _ _ hk_ _ hR hold
    obtain ⟨r_a20, r_a24⟩ := hR
    clear hd hold
    refine ⟨_, rfl, gd rfl ?_⟩
    exact Does.is (d_loadAg (vs := ((logT 255).map eN)) ⟨_, Try.underlying134, rfl⟩ s_ti134 rfl r_a24 (take_all l_lg) (map_len l_lg))
   refine ls_cons ?_ ?_
   ·
    intro v42 lo hi w_ k_ hO hd _ _ hk_ _ hR hold
    obtain ⟨r_a20, r_a24⟩ := hR
    have d3 : Ps (Or1 lg (Or1 pw (Old W.heap.size))) (Seq kB (turnL la a) (v42 3)) w_ := hd 3 (by kernel_rfl)
    have e4 : v42 4 = (Value.agg ((pwT 255).map eB).toArray) := hd 4 (by kernel_rfl)
    have e5 : v42 5 = (Value.agg ((logT 255).map eN).toArray) := hd 5 (by kernel_rfl)
    clear hd hold
    refine ⟨_, rfl, gd rfl ?_⟩
    exact d_call (xl := [.tmp 40, .tmp 41, .tmp 42]) (al := [(v42 3), (Value.agg ((pwT 255).map eB).toArray), (Value.agg ((logT 255).map eN).toArray)]) Try.func103 (by kernel_rfl) rfl (show ([(v42 3), (v42 4), (v42 5)] : List Value) = [(v42 3), (Value.agg ((pwT 255).map eB).toArray), (Value.agg ((logT 255).map eN).toArray)] from by rw [e4, e5]) rfl (ref4Single_ok (turnL la a) (v42 3) _ (Ps.no d3) (by have := turnL_length la a; first | omega | (simp; done) | (simp; omega)))
   refine ls_cons ?_ ?_
   ·
    intro v42 lo hi w_ k_ hO hd _ _ hk_ _ hR hold
    obtain ⟨r_a20, r_a24⟩ := hR
    have e6 : v42 6 = (eI (sing (turnL la a))) := hd 6 (by kernel_rfl)
    clear hd hold
    refine ⟨_, rfl, gd rfl ?_⟩
    exact Does.is (d_assign (v := (eI (sing (turnL la a)))) e6)
   exact ls_nil
  ·
   exact ms_nil
  intro v42 lo_ hi_ w43 o44 hd iv_ hR
  have e0 : v42 0 = u1 := hd 0 (by decide)
  have e1 : v42 1 = (eN a) := hd 1 (by decide)
  have e2 : v42 2 = (Value.agg ((pwT 255).map eB).toArray) := hd 2 (by decide)
  have e4 : v42 4 = (Value.agg ((pwT 255).map eB).toArray) := hd 4 (by decide)
  have e5 : v42 5 = (Value.agg ((logT 255).map eN).toArray) := hd 5 (by decide)
  have e6 : v42 6 = (eI (sing (turnL la a))) := hd 6 (by decide)
  have e7 : v42 7 = (eI (sing (turnL la a))) := hd 7 (by decide)
  have f_v42_3 : Ps (Or1 lg (Or1 pw (Old W.heap.size))) (Seq kB (turnL la a) (v42 3)) w43 := hd 3 (by decide)
  clear hd iv_ lo_ hi_
  refine fr_eq (l' := ([u1, (zf33 1), (z 2), (z 3), (ptr pw 0), (ptr lg 0), (eN 255), (eI (sing (turnL la a))), (eN a), undef, (zf33 10), undef] ++ (zs zf33 12 17 ++ [(eI (sing la)), (Value.bool (decide (0 ≤ sing la))), (zf33 31), (zf33 32), (eN a), (Value.bool (decide (a < 224))), (z 35), (z 36), u1, (eN a), (Value.agg ((pwT 255).map eB).toArray), (v42 3), (Value.agg ((pwT 255).map eB).toArray), (Value.agg ((logT 255).map eN).toArray), (eI (sing (turnL la a)))] ++ (zs z 44 5 ++ (zs zf33 49 14 ++ (us 37 ++ [(zf33 100)] ++ (us 7 ++ (zs zf33 108 5)))))))) (by rw [e0, e1, e2, e4, e5, e6, e7] <;> rfl) ?_
  clear e0 e1 e2 e4 e5 e6 e7
  replace h1 := h1.step o44 (or1_mono (or1_mono no_any))
  obtain ⟨xr_a20, xr_a24⟩ := hR
  replace a20 : Arr 132 pw ((pwT 255).map eB) w43 := xr_a20
  replace a24 : Arr 134 lg ((logT 255).map eN) w43 := xr_a24
  clear xr_a20 xr_a24
  replace oW := oW.tail o44 (tl_new g_oW_lg (tl_new g_oW_pw tl_no))
  replace o26 := o26.tail o44 (tl_in in1 (tl_in (in2 in1) tl_no))
  replace o40 := o40.tail o44 (tl_in in1 (tl_in (in2 in1) tl_no))
  refine then_n ?_
  refine wpIn_seq ?_
  refine plain ?_
  refine wI (d_move rfl) ?_
  refine wI (d_geq (k := .i64) (m := sing (turnL la a)) (n := 0) rfl rfl rfl) ?_
  refine wF ([u1, (zf33 1), (z 2), (z 3), (ptr pw 0), (ptr lg 0), (eN 255), (eI (sing (turnL la a))), (eN a), undef, (zf33 10), undef] ++ (zs zf33 12 17 ++ [(eI (sing la)), (Value.bool (decide (0 ≤ sing la))), (zf33 31), (zf33 32), (eN a), (Value.bool (decide (a < 224))), (z 35), (z 36), u1, (eN a), (Value.agg ((pwT 255).map eB).toArray), (v42 3), (Value.agg ((pwT 255).map eB).toArray), (Value.agg ((logT 255).map eN).toArray), (eI (sing (turnL la a))), (eI (sing (turnL la a))), (Value.bool (decide (0 ≤ sing (turnL la a)))), (z 46), (z 47), (z 48)] ++ (zs zf33 49 14 ++ (us 37 ++ [(zf33 100)] ++ (us 7 ++ (zs zf33 108 5)))))) ?_
  refine wpL.done ?_
  refine then_n ?_
  refine cond_if rfl (fun c4 => ?_) (fun c4 => ?_)
  ·
   obtain ⟨k_, hk_, hk1_, hk2_⟩ := sing_yes (by rw [turnL_length]; exact g8) c4
   refine wp_eq (l' := ([u1, (zf33 1), (z 2), (z 3), (ptr pw 0), (ptr lg 0), (eN 255), (eN k_), (eN a), undef, (zf33 10), undef] ++ (zs zf33 12 17 ++ [(eI (sing la)), (Value.bool (decide (0 ≤ sing la))), (zf33 31), (zf33 32), (eN a), (Value.bool (decide (a < 224))), (z 35), (z 36), u1, (eN a), (Value.agg ((pwT 255).map eB).toArray), (v42 3), (Value.agg ((pwT 255).map eB).toArray), (Value.agg ((logT 255).map eN).toArray), (eI (sing (turnL la a))), (eI (sing (turnL la a))), (Value.bool (decide (0 ≤ sing (turnL la a)))), (z 46), (z 47), (z 48)] ++ (zs zf33 49 14 ++ (us 37 ++ [(zf33 100)] ++ (us 7 ++ (zs zf33 108 5))))))) (show (([u1, (zf33 1), (z 2), (z 3), (ptr pw 0), (ptr lg 0), (eN 255), (eI (sing (turnL la a))), (eN a), undef, (zf33 10), undef] ++ (zs zf33 12 17 ++ [(eI (sing la)), (Value.bool (decide (0 ≤ sing la))), (zf33 31), (zf33 32), (eN a), (Value.bool (decide (a < 224))), (z 35), (z 36), u1, (eN a), (Value.agg ((pwT 255).map eB).toArray), (v42 3), (Value.agg ((pwT 255).map eB).toArray), (Value.agg ((logT 255).map eN).toArray), (eI (sing (turnL la a))), (eI (sing (turnL la a))), (Value.bool (decide (0 ≤ sing (turnL la a)))), (z 46), (z 47), (z 48)] ++ (zs zf33 49 14 ++ (us 37 ++ [(zf33 100)] ++ (us 7 ++ (zs zf33 108 5)))))) : List Value) = ([u1, (zf33 1), (z 2), (z 3), (ptr pw 0), (ptr lg 0), (eN 255), (eN k_), (eN a), undef, (zf33 10), undef] ++ (zs zf33 12 17 ++ [(eI (sing la)), (Value.bool (decide (0 ≤ sing la))), (zf33 31), (zf33 32), (eN a), (Value.bool (decide (a < 224))), (z 35), (z 36), u1, (eN a), (Value.agg ((pwT 255).map eB).toArray), (v42 3), (Value.agg ((pwT 255).map eB).toArray), (Value.agg ((logT 255).map eN).toArray), (eI (sing (turnL la a))), (eI (sing (turnL la a))), (Value.bool (decide (0 ≤ sing (turnL la a)))), (z 46), (z 47), (z 48)] ++ (zs zf33 49 14 ++ (us 37 ++ [(zf33 100)] ++ (us 7 ++ (zs zf33 108 5)))))) from reslot ([u1, (zf33 1), (z 2), (z 3), (ptr pw 0), (ptr lg 0), (eN 255), (eI (sing (turnL la a))), (eN a), undef, (zf33 10), undef] ++ (zs zf33 12 17 ++ [(eI (sing la)), (Value.bool (decide (0 ≤ sing la))), (zf33 31), (zf33 32), (eN a), (Value.bool (decide (a < 224))), (z 35), (z 36), u1, (eN a), (Value.agg ((pwT 255).map eB).toArray), (v42 3), (Value.agg ((pwT 255).map eB).toArray), (Value.agg ((logT 255).map eN).toArray), (eI (sing (turnL la a))), (eI (sing (turnL la a))), (Value.bool (decide (0 ≤ sing (turnL la a)))), (z 46), (z 47), (z 48)] ++ (zs zf33 49 14 ++ (us 37 ++ [(zf33 100)] ++ (us 7 ++ (zs zf33 108 5)))))) 7 (congrArg eI hk_)) ?_
   refine wpIn_seq ?_
   refine plain ?_
   refine wI (d_move rfl) ?_
   refine wI (d_move rfl) ?_
   refine wO (d_buildL (cs := [(eN a), (eN k_)]) Try.underlying23 s_ti3 rfl (nb rfl) (parts_cons (vs := [(eN a)]) (cells_of (v := (eN a)) rfl rfl) (parts_cons (vs := [(eN k_)]) (cells_of (v := (eN k_)) rfl rfl) parts_nil)) rfl) ?_
   rintro _ w46 ⟨b45, rfl, g47, a48, o49⟩
   replace a48 : Arr 3 b45 (([a, k_] : List Nat).map eN) w46 := a48
   have l_b45 : ([a, k_] : List Nat).length = 2 := rfl
   have n_pw_b45 : pw ≠ b45 := a20.ne g47
   have n_lg_b45 : lg ≠ b45 := a24.ne g47
   have g_oW_b45 : W.heap.size ≤ b45 := Nat.le_trans oW.size g47
   have g_o26_b45 : w22.heap.size ≤ b45 := Nat.le_trans o26.size g47
   have g_o40_b45 : w31.heap.size ≤ b45 := Nat.le_trans o40.size g47
   replace h1 := h1.new o49 g47
   replace f_v42_3 := f_v42_3.new o49 g47
   replace a20 := a20.step0 o49
   replace a24 := a24.step0 o49
   replace oW := oW.tail0 o49
   replace o26 := o26.tail0 o49
   replace o40 := o40.tail0 o49
   refine wF ([u1, (zf33 1), (z 2), (z 3), (ptr pw 0), (ptr lg 0), (eN 255), (eN k_), (eN a), undef, (zf33 10), undef] ++ (zs zf33 12 17 ++ [(eI (sing la)), (Value.bool (decide (0 ≤ sing la))), (zf33 31), (zf33 32), (eN a), (Value.bool (decide (a < 224))), (z 35), (z 36), u1, (eN a), (Value.agg ((pwT 255).map eB).toArray), (v42 3), (Value.agg ((pwT 255).map eB).toArray), (Value.agg ((logT 255).map eN).toArray), (eI (sing (turnL la a))), (eI (sing (turnL la a))), (Value.bool (decide (0 ≤ sing (turnL la a)))), (eN a), (eN k_), (sli b45 0 2 2)] ++ (zs zf33 49 14 ++ (us 37 ++ [(zf33 100)] ++ (us 7 ++ (zs zf33 108 5)))))) ?_
   refine wI (d_assign rfl) ?_
   refine wI (d_assign rfl) ?_
   refine wF ([u1, (zf33 1), (sli b45 0 2 2), (Value.bool true), (ptr pw 0), (ptr lg 0), (eN 255), (eN k_), (eN a), undef, (zf33 10), undef] ++ (zs zf33 12 17 ++ [(eI (sing la)), (Value.bool (decide (0 ≤ sing la))), (zf33 31), (zf33 32), (eN a), (Value.bool (decide (a < 224))), (z 35), (z 36), u1, (eN a), (Value.agg ((pwT 255).map eB).toArray), (v42 3), (Value.agg ((pwT 255).map eB).toArray), (Value.agg ((logT 255).map eN).toArray), (eI (sing (turnL la a))), (eI (sing (turnL la a))), (Value.bool (decide (0 ≤ sing (turnL la a)))), (eN a), (eN k_), (sli b45 0 2 2)] ++ (zs zf33 49 14 ++ (us 37 ++ [(zf33 100)] ++ (us 7 ++ (zs zf33 108 5)))))) ?_
   refine wpL.done ?_
   refine then_n ?_
   refine forget (fun zf50 => ([u1, (zf33 1), (sli b45 0 2 2), (Value.bool true), (ptr pw 0), (ptr lg 0), (eN 255), (zf50 7), (eN a), undef, (zf33 10), undef] ++ (zs zf33 12 17 ++ [(eI (sing la)), (Value.bool (decide (0 ≤ sing la))), (zf33 31), (zf33 32)] ++ (zs zf50 33 16 ++ (zs zf33 49 14 ++ (us 37 ++ [(zf33 100)] ++ (us 7 ++ (zs zf33 108 5)))))))) (by kernel_rfl) (fun zf50 => ?_)
   refine wpIn_ret ?_
   refine inb_r (then_r (then_r (inb_r (then_r ?_))))
   refine leave0 (v := (Value.tuple #[(sli b45 0 2 2), (Value.bool true)])) (res2 Try.results76 rfl rfl) ?_
   exact ⟨[a, k_], true, PlacesOk.two g8 (by simp [c0]) (by omega) hk1_ ((syneq_turn g8 a [k_]).1 hk2_), RTb.of rfl rfl (arr_keep a48 l_b45 (Nat.le_refl _) (old_ne g_oW_b45)) oW⟩
  refine wpIn_skip ?_
  refine inb_n (then_n ?_)
  refine plain ?_
  refine wI (d_move rfl) ?_
  refine wI (n_add (a := a) (b := 1) rfl rfl (by omega)) ?_
  refine wI (d_assign rfl) ?_
  refine wF ([u1, (zf33 1), (z 2), (z 3), (ptr pw 0), (ptr lg 0), (eN 255), (eI (sing (turnL la a))), (eN (a + 1)), undef, (zf33 10), undef] ++ (zs zf33 12 17 ++ [(eI (sing la)), (Value.bool (decide (0 ≤ sing la))), (zf33 31), (zf33 32), (eN a), (Value.bool (decide (a < 224))), (eN a), (eN (a + 1)), u1, (eN a), (Value.agg ((pwT 255).map eB).toArray), (v42 3), (Value.agg ((pwT 255).map eB).toArray), (Value.agg ((logT 255).map eN).toArray), (eI (sing (turnL la a))), (eI (sing (turnL la a))), (Value.bool (decide (0 ≤ sing (turnL la a)))), (z 46), (z 47), (z 48)] ++ (zs zf33 49 14 ++ (us 37 ++ [(zf33 100)] ++ (us 7 ++ (zs zf33 108 5)))))) ?_
  refine wpL.done ?_
  refine then_n ?_
  refine ⟨_, (a + 1), rfl, rfl, ⟨?_, ?_, ?_, ?_, ?_⟩, ?_⟩
  ·
   (try dsimp only)
   all_goals (omega)
  ·
   (try dsimp only)
   all_goals (exact fun i hi k hk h => (Nat.lt_succ_iff_lt_or_eq.1 hi).elim (fun h' => h2 i h' k hk h) (fun e_ => by subst e_; exact sing_no (by rw [turnL_length]; exact g8) c4 k hk ((syneq_turn g8 _ [k]).2 h)))
  ·
   exact o40
  ·
   exact a20
  ·
   exact a24
  ·
   (try dsimp only)
   all_goals (omega)
 refine wpIn_exit ?_
 refine then_x (then_x (inb_e ?_))
 refine then_n ?_
 refine wpIn_seq ?_
 refine wpIn_seq ?_
 refine plain ?_
 refine wI (d_assign rfl) ?_
 refine wF ([u1, (zf33 1), (z 2), (z 3), (ptr pw 0), (ptr lg 0), (eN 255), (z 7), (eN a), (eN 0), (zf33 10), undef] ++ (zs zf33 12 17 ++ [(eI (sing la)), (Value.bool (decide (0 ≤ sing la))), (zf33 31), (zf33 32), (eN a), (Value.bool (decide (a < 224)))] ++ (zs z 35 14 ++ (zs zf33 49 14 ++ (us 37 ++ [(zf33 100)] ++ (us 7 ++ (zs zf33 108 5))))))) ?_
 refine wpL.done ?_
 refine then_n ?_
 refine wpIn_block ?_
 refine loop2 (fun (bb : (Nat)) => fun (z : Nat → Value) => (([u1, (zf33 1), (z 2), (z 3), (ptr pw 0), (ptr lg 0), (eN 255), (z 7), (eN a), (eN bb), (z 10), (z 11), (z 12)] ++ (zs zf33 13 16 ++ [(eI (sing la)), (Value.bool (decide (0 ≤ sing la))), (zf33 31), (zf33 32), (eN a), (Value.bool (decide (a < 224)))] ++ (zs z 35 78))) : List Value)) (fun (bb : (Nat)) => fun (w_ : World) => (bb ≤ 224) ∧ (∀ i, i < bb → ∀ j, i < j → j < 224 → ∀ x, x < 224 → ¬ SynEq la [i, j, x]) ∧ Only (Or1 lg (Or1 pw No)) w41 w_ ∧ Arr 132 pw ((pwT 255).map eB) w_ ∧ Arr 134 lg ((logT 255).map eN) w_) (fun (bb : (Nat)) => 224 - bb) 0 rfl ?_ ?_
 ·
  refine ⟨?_, ?_, ?_, ?_, ?_⟩
  ·
   (try dsimp only)
   all_goals (omega)
  ·
   exact fun i hi => absurd hi (Nat.not_lt_zero _)
  ·
   exact Only.refl _ _
  ·
   exact a20
  ·
   exact a24
 rintro bb z w52 ⟨hb, h3, o51, a20, a24⟩
 (try dsimp only)
 replace h1 := h1.step o51 (or1_mono (or1_mono no_any))
 replace oW := oW.tail o51 (tl_new g_oW_lg (tl_new g_oW_pw tl_no))
 replace o26 := o26.tail o51 (tl_in in1 (tl_in (in2 in1) tl_no))
 replace o40 := o40.tail o51 (tl_in in1 (tl_in (in2 in1) tl_no))
 refine wpIn_seq ?_
 refine wpIn_seq ?_
 refine plain ?_
 refine wI (d_move rfl) ?_
 refine wI (n_lss (a := bb) (b := 224) rfl rfl rfl) ?_
 refine wF ([u1, (zf33 1), (z 2), (z 3), (ptr pw 0), (ptr lg 0), (eN 255), (z 7), (eN a), (eN bb), (z 10), (z 11), (z 12)] ++ (zs zf33 13 16 ++ [(eI (sing la)), (Value.bool (decide (0 ≤ sing la))), (zf33 31), (zf33 32), (eN a), (Value.bool (decide (a < 224)))] ++ (zs z 35 14 ++ [(eN bb), (Value.bool (decide (bb < 224)))] ++ (zs z 51 62)))) ?_
 refine wpL.done ?_
 refine then_n ?_
 refine cond_if rfl (fun c7 => ?_) (fun c7 => ?_)
 ·
  refine wpIn_skip ?_
  refine then_n ?_
  refine wpIn_seq ?_
  refine wpIn_block ?_
  refine wpIn_seq ?_
  refine plain ?_
  refine wI (d_move rfl) ?_
  refine wI (d_move rfl) ?_
  refine wI (d_loadAg (vs := ((pwT 255).map eB)) ⟨_, Try.underlying132, rfl⟩ s_ti132 rfl a20 (take_all l_pw) (map_len l_pw)) ?_
  refine wF ([u1, (zf33 1), (z 2), (z 3), (ptr pw 0), (ptr lg 0), (eN 255), (z 7), (eN a), (eN bb), (z 10), (z 11), (z 12)] ++ (zs zf33 13 16 ++ [(eI (sing la)), (Value.bool (decide (0 ≤ sing la))), (zf33 31), (zf33 32), (eN a), (Value.bool (decide (a < 224)))] ++ (zs z 35 14 ++ [(eN bb), (Value.bool (decide (bb < 224))), (z 51), (z 52), u1, (eN bb), (Value.agg ((pwT 255).map eB).toArray)] ++ (zs z 56 57)))) ?_
  refine wO (d_call (xl := [.tmp 53, .tmp 54, .tmp 55]) (al := [u1, (eN bb), (Value.agg ((pwT 255).map eB).toArray)]) Try.func104 (by kernel_rfl) rfl rfl rfl (ref4Turned_ok la bb u1 _ (Ps.no h1) (by first | omega | (simp; done) | (simp; omega)) (by first | omega | (exact lgZ_lt _)))) ?_
  rintro u55 w53 f56
  replace f56 := f56.ps
  obtain ⟨f56, o54⟩ := f56
  replace f56 := f56.less (Y := (Or1 lg (Or1 pw (Old W.heap.size)))) (or1_old a24.lt (or1_old a20.lt (old_old oW.size)))
  replace h1 := h1.step0 o54
  replace a20 := a20.step0 o54
  replace a24 := a24.step0 o54
  replace oW := oW.tail0 o54
  replace o26 := o26.tail0 o54
  replace o40 := o40.tail0 o54
  replace o51 := o51.tail0 o54
  refine wI (d_assign rfl) ?_
  refine wF ([u1, (zf33 1), (z 2), (z 3), (ptr pw 0), (ptr lg 0), (eN 255), (z 7), (eN a), (eN bb), u55, (z 11), (z 12)] ++ (zs zf33 13 16 ++ [(eI (sing la)), (Value.bool (decide (0 ≤ sing la))), (zf33 31), (zf33 32), (eN a), (Value.bool (decide (a < 224)))] ++ (zs z 35 14 ++ [(eN bb), (Value.bool (decide (bb < 224))), (z 51), (z 52), u1, (eN bb), (Value.agg ((pwT 255).map eB).toArray), u55] ++ (zs z 57 56)))) ?_
  refine wpL.done ?_
  refine then_n ?_
  refine wpIn_seq ?_
  refine plain ?_
  refine wI (d_move rfl) ?_
  refine wI (n_add (a := bb) (b := 1) rfl rfl (by omega)) ?_
  refine wI (d_assign rfl) ?_
  refine wF ([u1, (zf33 1), (z 2), (z 3), (ptr pw 0), (ptr lg 0), (eN 255), (z 7), (eN a), (eN bb), u55, (eN (bb + 1)), (z 12)] ++ (zs zf33 13 16 ++ [(eI (sing la)), (Value.bool (decide (0 ≤ sing la))), (zf33 31), (zf33 32), (eN a), (Value.bool (decide (a < 224)))] ++ (zs z 35 14 ++ [(eN bb), (Value.bool (decide (bb < 224))), (z 51), (z 52), u1, (eN bb), (Value.agg ((pwT 255).map eB).toArray), u55, (eN bb), (eN (bb + 1))] ++ (zs z 59 54)))) ?_
  refine wpL.done ?_
  refine then_n ?_
  refine forget (fun zf57 => ([u1, (zf33 1), (zf57 2), (zf57 3), (ptr pw 0), (ptr lg 0), (eN 255), (z 7), (eN a), (eN bb), u55, (eN (bb + 1)), (zf57 12)] ++ (zs zf33 13 16 ++ [(eI (sing la)), (Value.bool (decide (0 ≤ sing la))), (zf33 31), (zf33 32), (eN a), (Value.bool (decide (a < 224)))] ++ (zs z 35 14 ++ (zs zf57 49 14 ++ (zs z 63 37 ++ [(zf57 100)] ++ (zs z 101 7 ++ (zs zf57 108 5)))))))) (by kernel_rfl) (fun zf57 => ?_)
  refine wpIn_block ?_
  refine loop2 (fun (j : (Nat)) => fun (z : Nat → Value) => (([u1, (zf33 1), (z 2), (z 3), (ptr pw 0), (ptr lg 0), (eN 255), (z 7), (eN a), (eN bb), u55, (eN j), (z 12)] ++ (zs zf33 13 16 ++ [(eI (sing la)), (Value.bool (decide (0 ≤ sing la))), (zf33 31), (zf33 32), (eN a), (Value.bool (decide (a < 224)))] ++ (zs z 35 14 ++ (zs zf57 49 10 ++ (zs z 59 54))))) : List Value)) (fun (j : (Nat)) => fun (w_ : World) => (bb < j ∧ j ≤ 224) ∧ (∀ j', bb < j' → j' < j → ∀ x, x < 224 → ¬ SynEq la [bb, j', x]) ∧ Only (Or1 lg (Or1 pw No)) w53 w_ ∧ Arr 132 pw ((pwT 255).map eB) w_ ∧ Arr 134 lg ((logT 255).map eN) w_) (fun (j : (Nat)) => 224 - j) (bb + 1) rfl ?_ ?_
  ·
   refine ⟨?_, ?_, ?_, ?_, ?_⟩
   ·
    (try dsimp only)
    all_goals (omega)
   ·
    exact fun j' h1_ h2_ => absurd h1_ (by omega)
   ·
    exact Only.refl _ _
   ·
    exact a20
   ·
    exact a24
  rintro j z w59 ⟨hj, h3j, o58, a20, a24⟩
  (try dsimp only)
  replace h1 := h1.step o58 (or1_mono (or1_mono no_any))
  replace f56 := f56.step o58 (or1_mono (or1_mono no_any))
  replace oW := oW.tail o58 (tl_new g_oW_lg (tl_new g_oW_pw tl_no))
  replace o26 := o26.tail o58 (tl_in in1 (tl_in (in2 in1) tl_no))
  replace o40 := o40.tail o58 (tl_in in1 (tl_in (in2 in1) tl_no))
  replace o51 := o51.tail o58 (tl_in in1 (tl_in (in2 in1) tl_no))
  refine wpIn_seq ?_
  refine wpIn_seq ?_
  refine plain ?_
  refine wI (d_move rfl) ?_
  refine wI (n_lss (a := j) (b := 224) rfl rfl rfl) ?_
  refine wF ([u1, (zf33 1), (z 2), (z 3), (ptr pw 0), (ptr lg 0), (eN 255), (z 7), (eN a), (eN bb), u55, (eN j), (z 12)] ++ (zs zf33 13 16 ++ [(eI (sing la)), (Value.bool (decide (0 ≤ sing la))), (zf33 31), (zf33 32), (eN a), (Value.bool (decide (a < 224)))] ++ (zs z 35 14 ++ (zs zf57 49 10 ++ [(eN j), (Value.bool (decide (j < 224)))] ++ (zs z 61 52))))) ?_
  refine wpL.done ?_
  refine then_n ?_
  refine cond_if rfl (fun c8 => ?_) (fun c8 => ?_)
  ·
   have htl_ := turnL_length la bb
   have htm_ := turnL_length (turnL la bb) j
   refine wpIn_skip ?_
   refine then_n ?_
   refine wpIn_seq ?_
   refine wpIn_block ?_
   refine wpIn_seq ?_
   refine drawn_pure [0, 1, 3, 0, 8, 24, 63, 127, 255, 511] [(0, 63), (1, 64), (2, 65), (3, 66), (4, 67), (5, 68), (6, 69), (7, 70), (8, 71), (9, 12)] [u55, (ixp u55 0), (eB ((turnL la bb).getD 0 0)), (eN j), (ptr pw j), (eB ((pwT 255).getD j 0)), (eB (((turnL la bb).getD 0 0) ^^^ ((pwT 255).getD j 0))), (ptr lg ((((turnL la bb).getD 0 0) ^^^ ((pwT 255).getD j 0)).toNat)), (eN ((logT 255).getD ((((turnL la bb).getD 0 0) ^^^ ((pwT 255).getD j 0)).toNat) 0)), (eN ((logT 255).getD ((((turnL la bb).getD 0 0) ^^^ ((pwT 255).getD j 0)).toNat) 0))] ([u1, (zf33 1), (z 2), (z 3), (ptr pw 0), (ptr lg 0), (eN 255), (z 7), (eN a), (eN bb), u55, (eN j), (eN ((logT 255).getD ((((turnL la bb).getD 0 0) ^^^ ((pwT 255).getD j 0)).toNat) 0))] ++ (zs zf33 13 16 ++ [(eI (sing la)), (Value.bool (decide (0 ≤ sing la))), (zf33 31), (zf33 32), (eN a), (Value.bool (decide (a < 224)))] ++ (zs z 35 14 ++ (zs zf57 49 10 ++ [(eN j), (Value.bool (decide (j < 224))), (z 61), (z 62), u55, (ixp u55 0), (eB ((turnL la bb).getD 0 0)), (eN j), (ptr pw j), (eB ((pwT 255).getD j 0)), (eB (((turnL la bb).getD 0 0) ^^^ ((pwT 255).getD j 0))), (ptr lg ((((turnL la bb).getD 0 0) ^^^ ((pwT 255).getD j 0)).toNat)), (eN ((logT 255).getD ((((turnL la bb).getD 0 0) ^^^ ((pwT 255).getD j 0)).toNat) 0))] ++ (zs z 72 41))))) s_mx (by kernel_rfl) (by kernel_rfl) rfl (by kernel_rfl) (by kernel_rfl) ?_ ?_
   ·
    intro w_ hO_
    refine AllG.cons (gi rfl (d_move rfl)) ?_
    refine AllG.cons (gi rfl (d_ix (i := 0) (xs := (turnL la bb)) Try.underlying22 s_ti5 rfl (f56.step0 hO_) (show _ = Value.int _ ((0 : Nat) : Int) from rfl) (by have := turnL_length la bb; first | omega | (simp; done) | (simp; omega)))) ?_
    refine AllG.cons (gi rfl (d_ldx (i := 0) (xs := (turnL la bb)) (enc := eB) (v := ((turnL la bb).getD 0 0)) ⟨_, Try.underlying5, rfl⟩ rfl (f56.step0 hO_) (g_at (by have := turnL_length la bb; first | omega | (simp; done) | (simp; omega))))) ?_
    refine AllG.cons (gi rfl (d_move rfl)) ?_
    refine AllG.cons (gi rfl (d_indexArr1 (i := j) Try.underlying132 s_ti5 rfl (show _ = Value.int _ ((j : Nat) : Int) from rfl) (by omega))) ?_
    refine AllG.cons (gi rfl (d_load ⟨_, Try.underlying5, rfl⟩ rfl (a20.step0 hO_) (m_at (d := 0) (by rw [l_pw]; omega)))) ?_
    refine AllG.cons (gi rfl (b_xor (c := ((turnL la bb).getD 0 0)) (e := ((pwT 255).getD j 0)) rfl rfl)) ?_
    refine AllG.cons (gi rfl (d_indexArr1 (i := ((((turnL la bb).getD 0 0) ^^^ ((pwT 255).getD j 0)).toNat)) Try.underlying134 s_ti3 rfl (show _ = Value.int _ (((((turnL la bb).getD 0 0) ^^^ ((pwT 255).getD j 0)) : UInt8).toNat : Int) from rfl) (by have h__ := UInt8.toNat_lt (((turnL la bb).getD 0 0) ^^^ ((pwT 255).getD j 0)); omega))) ?_
    refine AllG.cons (gi rfl (d_load ⟨_, Try.underlying3, rfl⟩ rfl (a24.step0 hO_) (m_at (d := 0) (by rw [l_lg]; exact UInt8.toNat_lt _)))) ?_
    refine AllG.cons (gi rfl (d_assign rfl)) ?_
    exact AllG.nil
   intro w60 o61
   replace h1 := h1.step0 o61
   replace f56 := f56.step0 o61
   replace a20 := a20.step0 o61
   replace a24 := a24.step0 o61
   replace oW := oW.tail0 o61
   replace o26 := o26.tail0 o61
   replace o40 := o40.tail0 o61
   replace o51 := o51.tail0 o61
   replace o58 := o58.tail0 o61
   refine then_n ?_
   refine wpIn_seq ?_
   refine wpIn_seq ?_
   by_cases z0 : (((turnL la bb).getD 0 0) : UInt8) = (((pwT 255).getD j 0) : UInt8)
   ·
    refine drawn_pure [0, 1, 3, 0, 8, 24, 63, 127, 255, 511, 1023, 2047, 4095, 8191, 16383, 4095, 36863, 102399, 233471, 495615, 1048575, 4095, 2101247, 6295551, 14684159, 31461375, 67108863, 134217727, 268435455] [(0, 72), (1, 73), (2, 74), (3, 75), (4, 76), (5, 77), (6, 78), (7, 79), (8, 80), (9, 81), (10, 82), (11, 83), (12, 84), (13, 85), (14, 86), (15, 87), (16, 88), (17, 89), (18, 90), (19, 91), (20, 92), (21, 93), (22, 94), (23, 95), (24, 96), (25, 97), (26, 98), (27, 99), (28, 100)] [u55, (ixp u55 0), (eB ((turnL la bb).getD 0 0)), (eN j), (ptr pw j), (eB ((pwT 255).getD j 0)), (Value.bool true), (Value.bool true), undef, undef, (Value.bool true), (Value.bool true), undef, undef, undef, undef, undef, undef, undef, undef, undef, undef, undef, undef, undef, undef, undef, undef, (Value.bool true)] ([u1, (zf33 1), (z 2), (z 3), (ptr pw 0), (ptr lg 0), (eN 255), (z 7), (eN a), (eN bb), u55, (eN j), (eN ((logT 255).getD ((((turnL la bb).getD 0 0) ^^^ ((pwT 255).getD j 0)).toNat) 0))] ++ (zs zf33 13 16 ++ [(eI (sing la)), (Value.bool (decide (0 ≤ sing la))), (zf33 31), (zf33 32), (eN a), (Value.bool (decide (a < 224)))] ++ (zs z 35 14 ++ (zs zf57 49 10 ++ [(eN j), (Value.bool (decide (j < 224))), (z 61), (z 62), u55, (ixp u55 0), (eB ((turnL la bb).getD 0 0)), (eN j), (ptr pw j), (eB ((pwT 255).getD j 0)), (eB (((turnL la bb).getD 0 0) ^^^ ((pwT 255).getD j 0))), (ptr lg ((((turnL la bb).getD 0 0) ^^^ ((pwT 255).getD j 0)).toNat)), (eN ((logT 255).getD ((((turnL la bb).getD 0 0) ^^^ ((pwT 255).getD j 0)).toNat) 0)), u55, (ixp u55 0), (eB ((turnL la bb).getD 0 0)), (eN j), (ptr pw j), (eB ((pwT 255).getD j 0)), (Value.bool true), (Value.bool true), undef, undef, (Value.bool true), (Value.bool true)] ++ (us 16 ++ [(Value.bool true)] ++ (zs z 101 12)))))) s_mx (by kernel_rfl) (by kernel_rfl) rfl (by kernel_rfl) (by kernel_rfl) ?_ ?_
    ·
     intro w_ hO_
     refine AllG.cons (gi rfl (d_move rfl)) ?_
     refine AllG.cons (gi rfl (d_ix (i := 0) (xs := (turnL la bb)) Try.underlying22 s_ti5 rfl (f56.step0 hO_) (show _ = Value.int _ ((0 : Nat) : Int) from rfl) (by have := turnL_length la bb; first | omega | (simp; done) | (simp; omega)))) ?_
     refine AllG.cons (gi rfl (d_ldx (i := 0) (xs := (turnL la bb)) (enc := eB) (v := ((turnL la bb).getD 0 0)) ⟨_, Try.underlying5, rfl⟩ rfl (f56.step0 hO_) (g_at (by have := turnL_length la bb; first | omega | (simp; done) | (simp; omega))))) ?_
     refine AllG.cons (gi rfl (d_move rfl)) ?_
     refine AllG.cons (gi rfl (d_indexArr1 (i := j) Try.underlying132 s_ti5 rfl (show _ = Value.int _ ((j : Nat) : Int) from rfl) (by omega))) ?_
     refine AllG.cons (gi rfl (d_load ⟨_, Try.underlying5, rfl⟩ rfl (a20.step0 hO_) (m_at (d := 0) (by rw [l_pw]; omega)))) ?_
     refine AllG.cons (gi rfl (b_eql (c := ((turnL la bb).getD 0 0)) (e := ((pwT 255).getD j 0)) rfl rfl (decide_eq_true z0))) ?_
     refine AllG.cons (gi rfl (d_move rfl)) ?_
     refine AllG.cons (gf rfl rfl rfl (nb rfl) rfl) ?_
     refine AllG.cons (gf rfl rfl rfl (nb rfl) rfl) ?_
     refine AllG.cons (gi rfl (d_pick (b := true) (v := (Value.bool true)) rfl rfl)) ?_
     refine AllG.cons (gi rfl (d_move rfl)) ?_
     refine AllG.cons (gf rfl rfl rfl (nb rfl) rfl) ?_
     refine AllG.cons (gf rfl rfl rfl (nb rfl) rfl) ?_
     refine AllG.cons (gf rfl rfl rfl (nb rfl) rfl) ?_
     refine AllG.cons (gf rfl rfl rfl (nb rfl) rfl) ?_
     refine AllG.cons (gf rfl rfl rfl (nb rfl) rfl) ?_
     refine AllG.cons (gf rfl rfl rfl (nb rfl) rfl) ?_
     refine AllG.cons (gf rfl rfl rfl (nb rfl) rfl) ?_
     refine AllG.cons (gf rfl rfl rfl (nb rfl) rfl) ?_
     refine AllG.cons (gf rfl rfl rfl (nb rfl) rfl) ?_
     refine AllG.cons (gf rfl rfl rfl (nb rfl) rfl) ?_
     refine AllG.cons (gf rfl rfl rfl (nb rfl) rfl) ?_
     refine AllG.cons (gf rfl rfl rfl (nb rfl) rfl) ?_
     refine AllG.cons (gf rfl rfl rfl (nb rfl) rfl) ?_
     refine AllG.cons (gf rfl rfl rfl (nb rfl) rfl) ?_
     refine AllG.cons (gf rfl rfl rfl (nb rfl) rfl) ?_
     refine AllG.cons (gf rfl rfl rfl (nb rfl) rfl) ?_
     refine AllG.cons (gi rfl (d_pick (b := true) (v := (Value.bool true)) rfl rfl)) ?_
     exact AllG.nil
    intro w62 o63
    replace h1 := h1.step0 o63
    replace f56 := f56.step0 o63
    replace a20 := a20.step0 o63
    replace a24 := a24.step0 o63
    replace oW := oW.tail0 o63
    replace o26 := o26.tail0 o63
    replace o40 := o40.tail0 o63
    replace o51 := o51.tail0 o63
    replace o58 := o58.tail0 o63
    refine then_n ?_
    refine cond_t rfl ?_
    refine wpIn_exit ?_
    refine then_x (inb_e ?_)
    refine then_n ?_
    refine plain ?_
    refine wI (d_move rfl) ?_
    refine wI (n_add (a := j) (b := 1) rfl rfl (by omega)) ?_
    refine wI (d_assign rfl) ?_
    refine wF ([u1, (zf33 1), (z 2), (z 3), (ptr pw 0), (ptr lg 0), (eN 255), (z 7), (eN a), (eN bb), u55, (eN (j + 1)), (eN ((logT 255).getD ((((turnL la bb).getD 0 0) ^^^ ((pwT 255).getD j 0)).toNat) 0))] ++ (zs zf33 13 16 ++ [(eI (sing la)), (Value.bool (decide (0 ≤ sing la))), (zf33 31), (zf33 32), (eN a), (Value.bool (decide (a < 224)))] ++ (zs z 35 14 ++ (zs zf57 49 10 ++ [(eN j), (Value.bool (decide (j < 224))), (eN j), (eN (j + 1)), u55, (ixp u55 0), (eB ((turnL la bb).getD 0 0)), (eN j), (ptr pw j), (eB ((pwT 255).getD j 0)), (eB (((turnL la bb).getD 0 0) ^^^ ((pwT 255).getD j 0))), (ptr lg ((((turnL la bb).getD 0 0) ^^^ ((pwT 255).getD j 0)).toNat)), (eN ((logT 255).getD ((((turnL la bb).getD 0 0) ^^^ ((pwT 255).getD j 0)).toNat) 0)), u55, (ixp u55 0), (eB ((turnL la bb).getD 0 0)), (eN j), (ptr pw j), (eB ((pwT 255).getD j 0)), (Value.bool true), (Value.bool true), undef, undef, (Value.bool true), (Value.bool true)] ++ (us 16 ++ [(Value.bool true)] ++ (zs z 101 12)))))) ?_
    refine wpL.done ?_
    refine then_n ?_
    refine ⟨_, (j + 1), rfl, rfl, ⟨?_, ?_, ?_, ?_, ?_⟩, ?_⟩
    ·
     (try dsimp only)
     all_goals (omega)
    ·
     (try dsimp only)
     all_goals (exact fun j' h1_ h2_ x hx h => (Nat.lt_succ_iff_lt_or_eq.1 h2_).elim (fun h' => h3j j' h1_ h' x hx h) (fun e_ => by subst e_; exact third_no g8 (fun k hk he => .inl z0) (by omega) x hx h))
    ·
     exact o58
    ·
     exact a20
    ·
     exact a24
    ·
     (try dsimp only)
     all_goals (omega)
   by_cases z1 : 224 ≤ ((logT 255).getD ((((turnL la bb).getD 0 0) ^^^ ((pwT 255).getD j 0)).toNat) 0)
   ·
    refine drawn_pure [0, 1, 3, 0, 8, 24, 63, 127, 255, 511, 1023, 2047, 4095, 8191, 16383, 4095, 36863, 102399, 233471, 495615, 1048575, 4095, 2101247, 6295551, 14684159, 31461375, 67108863, 134217727, 268435455] [(0, 72), (1, 73), (2, 74), (3, 75), (4, 76), (5, 77), (6, 78), (7, 79), (8, 80), (9, 81), (10, 82), (11, 83), (12, 84), (13, 85), (14, 86), (15, 87), (16, 88), (17, 89), (18, 90), (19, 91), (20, 92), (21, 93), (22, 94), (23, 95), (24, 96), (25, 97), (26, 98), (27, 99), (28, 100)] [u55, (ixp u55 0), (eB ((turnL la bb).getD 0 0)), (eN j), (ptr pw j), (eB ((pwT 255).getD j 0)), (Value.bool false), (Value.bool false), (eN ((logT 255).getD ((((turnL la bb).getD 0 0) ^^^ ((pwT 255).getD j 0)).toNat) 0)), (Value.bool true), (Value.bool true), (Value.bool true), undef, undef, undef, undef, undef, undef, undef, undef, undef, undef, undef, undef, undef, undef, undef, undef, (Value.bool true)] ([u1, (zf33 1), (z 2), (z 3), (ptr pw 0), (ptr lg 0), (eN 255), (z 7), (eN a), (eN bb), u55, (eN j), (eN ((logT 255).getD ((((turnL la bb).getD 0 0) ^^^ ((pwT 255).getD j 0)).toNat) 0))] ++ (zs zf33 13 16 ++ [(eI (sing la)), (Value.bool (decide (0 ≤ sing la))), (zf33 31), (zf33 32), (eN a), (Value.bool (decide (a < 224)))] ++ (zs z 35 14 ++ (zs zf57 49 10 ++ [(eN j), (Value.bool (decide (j < 224))), (z 61), (z 62), u55, (ixp u55 0), (eB ((turnL la bb).getD 0 0)), (eN j), (ptr pw j), (eB ((pwT 255).getD j 0)), (eB (((turnL la bb).getD 0 0) ^^^ ((pwT 255).getD j 0))), (ptr lg ((((turnL la bb).getD 0 0) ^^^ ((pwT 255).getD j 0)).toNat)), (eN ((logT 255).getD ((((turnL la bb).getD 0 0) ^^^ ((pwT 255).getD j 0)).toNat) 0)), u55, (ixp u55 0), (eB ((turnL la bb).getD 0 0)), (eN j), (ptr pw j), (eB ((pwT 255).getD j 0)), (Value.bool false), (Value.bool false), (eN ((logT 255).getD ((((turnL la bb).getD 0 0) ^^^ ((pwT 255).getD j 0)).toNat) 0)), (Value.bool true), (Value.bool true), (Value.bool true)] ++ (us 16 ++ [(Value.bool true)] ++ (zs z 101 12)))))) s_mx (by kernel_rfl) (by kernel_rfl) rfl (by kernel_rfl) (by kernel_rfl) ?_ ?_
    ·
     intro w_ hO_
     refine AllG.cons (gi rfl (d_move rfl)) ?_
     refine AllG.cons (gi rfl (d_ix (i := 0) (xs := (turnL la bb)) Try.underlying22 s_ti5 rfl (f56.step0 hO_) (show _ = Value.int _ ((0 : Nat) : Int) from rfl) (by have := turnL_length la bb; first | omega | (simp; done) | (simp; omega)))) ?_
     refine AllG.cons (gi rfl (d_ldx (i := 0) (xs := (turnL la bb)) (enc := eB) (v := ((turnL la bb).getD 0 0)) ⟨_, Try.underlying5, rfl⟩ rfl (f56.step0 hO_) (g_at (by have := turnL_length la bb; first | omega | (simp; done) | (simp; omega))))) ?_
     refine AllG.cons (gi rfl (d_move rfl)) ?_
     refine AllG.cons (gi rfl (d_indexArr1 (i := j) Try.underlying132 s_ti5 rfl (show _ = Value.int _ ((j : Nat) : Int) from rfl) (by omega))) ?_
     refine AllG.cons (gi rfl (d_load ⟨_, Try.underlying5, rfl⟩ rfl (a20.step0 hO_) (m_at (d := 0) (by rw [l_pw]; omega)))) ?_
     refine AllG.cons (gi rfl (b_eql (c := ((turnL la bb).getD 0 0)) (e := ((pwT 255).getD j 0)) rfl rfl (decide_eq_false z0))) ?_
     refine AllG.cons (gi rfl (d_move rfl)) ?_
     refine AllG.cons (gi_on rfl rfl rfl (nb rfl) rfl (d_move rfl)) ?_
     refine AllG.cons (gi_on rfl rfl rfl (nb rfl) rfl (n_geq (a := ((logT 255).getD ((((turnL la bb).getD 0 0) ^^^ ((pwT 255).getD j 0)).toNat) 0)) (b := 224) rfl rfl (decide_eq_true z1))) ?_
     refine AllG.cons (gi rfl (d_pick (b := false) (v := (Value.bool true)) rfl rfl)) ?_
     refine AllG.cons (gi rfl (d_move rfl)) ?_
     refine AllG.cons (gf rfl rfl rfl (nb rfl) rfl) ?_
     refine AllG.cons (gf rfl rfl rfl (nb rfl) rfl) ?_
     refine AllG.cons (gf rfl rfl rfl (nb rfl) rfl) ?_
     refine AllG.cons (gf rfl rfl rfl (nb rfl) rfl) ?_
     refine AllG.cons (gf rfl rfl rfl (nb rfl) rfl) ?_
     refine AllG.cons (gf rfl rfl rfl (nb rfl) rfl) ?_
     refine AllG.cons (gf rfl rfl rfl (nb rfl) rfl) ?_
     refine AllG.cons (gf rfl rfl rfl (nb rfl) rfl) ?_
     refine AllG.cons (gf rfl rfl rfl (nb rfl) rfl) ?_
     refine AllG.cons (gf rfl rfl rfl (nb rfl) rfl) ?_
     refine AllG.cons (gf rfl rfl rfl (nb rfl) rfl) ?_
     refine AllG.cons (gf rfl rfl rfl (nb rfl) rfl) ?_
     refine AllG.cons (gf rfl rfl rfl (nb rfl) rfl) ?_
     refine AllG.cons (gf rfl rfl rfl (nb rfl) rfl) ?_
     refine AllG.cons (gf rfl rfl rfl (nb rfl) rfl) ?_
     refine AllG.cons (gf rfl rfl rfl (nb rfl) rfl) ?_
     refine AllG.cons (gi rfl (d_pick (b := true) (v := (Value.bool true)) rfl rfl)) ?_
     exact AllG.nil
    intro w64 o65
    replace h1 := h1.step0 o65
    replace f56 := f56.step0 o65
    replace a20 := a20.step0 o65
    replace a24 := a24.step0 o65
    replace oW := oW.tail0 o65
    replace o26 := o26.tail0 o65
    replace o40 := o40.tail0 o65
    replace o51 := o51.tail0 o65
    replace o58 := o58.tail0 o65
    refine then_n ?_
    refine cond_t rfl ?_
    refine wpIn_exit ?_
    refine then_x (inb_e ?_)
    refine then_n ?_
    refine plain ?_
    refine wI (d_move rfl) ?_
    refine wI (n_add (a := j) (b := 1) rfl rfl (by omega)) ?_
    refine wI (d_assign rfl) ?_
    refine wF ([u1, (zf33 1), (z 2), (z 3), (ptr pw 0), (ptr lg 0), (eN 255), (z 7), (eN a), (eN bb), u55, (eN (j + 1)), (eN ((logT 255).getD ((((turnL la bb).getD 0 0) ^^^ ((pwT 255).getD j 0)).toNat) 0))] ++ (zs zf33 13 16 ++ [(eI (sing la)), (Value.bool (decide (0 ≤ sing la))), (zf33 31), (zf33 32), (eN a), (Value.bool (decide (a < 224)))] ++ (zs z 35 14 ++ (zs zf57 49 10 ++ [(eN j), (Value.bool (decide (j < 224))), (eN j), (eN (j + 1)), u55, (ixp u55 0), (eB ((turnL la bb).getD 0 0)), (eN j), (ptr pw j), (eB ((pwT 255).getD j 0)), (eB (((turnL la bb).getD 0 0) ^^^ ((pwT 255).getD j 0))), (ptr lg ((((turnL la bb).getD 0 0) ^^^ ((pwT 255).getD j 0)).toNat)), (eN ((logT 255).getD ((((turnL la bb).getD 0 0) ^^^ ((pwT 255).getD j 0)).toNat) 0)), u55, (ixp u55 0), (eB ((turnL la bb).getD 0 0)), (eN j), (ptr pw j), (eB ((pwT 255).getD j 0)), (Value.bool false), (Value.bool false), (eN ((logT 255).getD ((((turnL la bb).getD 0 0) ^^^ ((pwT 255).getD j 0)).toNat) 0)), (Value.bool true), (Value.bool true), (Value.bool true)] ++ (us 16 ++ [(Value.bool true)] ++ (zs z 101 12)))))) ?_
    refine wpL.done ?_
    refine then_n ?_
    refine ⟨_, (j + 1), rfl, rfl, ⟨?_, ?_, ?_, ?_, ?_⟩, ?_⟩
    ·
     (try dsimp only)
     all_goals (omega)
    ·
     (try dsimp only)
     all_goals (exact fun j' h1_ h2_ x hx h => (Nat.lt_succ_iff_lt_or_eq.1 h2_).elim (fun h' => h3j j' h1_ h' x hx h) (fun e_ => by subst e_; exact third_no g8 (fun k hk he => .inr (.inl z1)) (by omega) x hx h))
    ·
     exact o58
    ·
     exact a20
    ·
     exact a24
    ·
     (try dsimp only)
     all_goals (omega)
   refine drawn_pure [0, 1, 3, 0, 8, 24, 63, 127, 255, 511, 1023, 2047, 4095, 8191, 16383, 4095, 36863, 102399, 233471, 495615, 1048575, 4095, 2101247, 6295551, 14684159, 31461375, 67108863, 134217727, 268435455] [(0, 72), (1, 73), (2, 74), (3, 75), (4, 76), (5, 77), (6, 78), (7, 79), (8, 80), (9, 81), (10, 82), (11, 83), (12, 84), (13, 85), (14, 86), (15, 87), (16, 88), (17, 89), (18, 90), (19, 91), (20, 92), (21, 93), (22, 94), (23, 95), (24, 96), (25, 97), (26, 98), (27, 99), (28, 100)] [u55, (ixp u55 0), (eB ((turnL la bb).getD 0 0)), (eN j), (ptr pw j), (eB ((pwT 255).getD j 0)), (Value.bool false), (Value.bool false), (eN ((logT 255).getD ((((turnL la bb).getD 0 0) ^^^ ((pwT 255).getD j 0)).toNat) 0)), (Value.bool false), (Value.bool false), (Value.bool false), u55, (ixp u55 2), (eB ((turnL la bb).getD 2 0)), (eN j), (eN (3 * j)), (eN ((3 * j) % 255)), (ptr pw ((3 * j) % 255)), (eB ((pwT 255).getD ((3 * j) % 255) 0)), (eB (((turnL la bb).getD 2 0) ^^^ ((pwT 255).getD ((3 * j) % 255) 0))), (eN ((logT 255).getD ((((turnL la bb).getD 0 0) ^^^ ((pwT 255).getD j 0)).toNat) 0)), (eN (3 * ((logT 255).getD ((((turnL la bb).getD 0 0) ^^^ ((pwT 255).getD j 0)).toNat) 0))), (eN ((3 * ((logT 255).getD ((((turnL la bb).getD 0 0) ^^^ ((pwT 255).getD j 0)).toNat) 0)) % 255)), (ptr pw ((3 * ((logT 255).getD ((((turnL la bb).getD 0 0) ^^^ ((pwT 255).getD j 0)).toNat) 0)) % 255)), (eB ((pwT 255).getD ((3 * ((logT 255).getD ((((turnL la bb).getD 0 0) ^^^ ((pwT 255).getD j 0)).toNat) 0)) % 255) 0)), (eB ((((turnL la bb).getD 2 0) ^^^ ((pwT 255).getD ((3 * j) % 255) 0)) ^^^ ((pwT 255).getD ((3 * ((logT 255).getD ((((turnL la bb).getD 0 0) ^^^ ((pwT 255).getD j 0)).toNat) 0)) % 255) 0))), (Value.bool (!decide ((((((turnL la bb).getD 2 0) ^^^ ((pwT 255).getD ((3 * j) % 255) 0)) ^^^ ((pwT 255).getD ((3 * ((logT 255).getD ((((turnL la bb).getD 0 0) ^^^ ((pwT 255).getD j 0)).toNat) 0)) % 255) 0)) : UInt8) = (0 : UInt8)))), (Value.bool (!decide ((((((turnL la bb).getD 2 0) ^^^ ((pwT 255).getD ((3 * j) % 255) 0)) ^^^ ((pwT 255).getD ((3 * ((logT 255).getD ((((turnL la bb).getD 0 0) ^^^ ((pwT 255).getD j 0)).toNat) 0)) % 255) 0)) : UInt8) = (0 : UInt8))))] ([u1, (zf33 1), (z 2), (z 3), (ptr pw 0), (ptr lg 0), (eN 255), (z 7), (eN a), (eN bb), u55, (eN j), (eN ((logT 255).getD ((((turnL la bb).getD 0 0) ^^^ ((pwT 255).getD j 0)).toNat) 0))] ++ (zs zf33 13 16 ++ [(eI (sing la)), (Value.bool (decide (0 ≤ sing la))), (zf33 31), (zf33 32), (eN a), (Value.bool (decide (a < 224)))] ++ (zs z 35 14 ++ (zs zf57 49 10 ++ [(eN j), (Value.bool (decide (j < 224))), (z 61), (z 62), u55, (ixp u55 0), (eB ((turnL la bb).getD 0 0)), (eN j), (ptr pw j), (eB ((pwT 255).getD j 0)), (eB (((turnL la bb).getD 0 0) ^^^ ((pwT 255).getD j 0))), (ptr lg ((((turnL la bb).getD 0 0) ^^^ ((pwT 255).getD j 0)).toNat)), (eN ((logT 255).getD ((((turnL la bb).getD 0 0) ^^^ ((pwT 255).getD j 0)).toNat) 0)), u55, (ixp u55 0), (eB ((turnL la bb).getD 0 0)), (eN j), (ptr pw j), (eB ((pwT 255).getD j 0)), (Value.bool false), (Value.bool false), (eN ((logT 255).getD ((((turnL la bb).getD 0 0) ^^^ ((pwT 255).getD j 0)).toNat) 0)), (Value.bool false), (Value.bool false), (Value.bool false), u55, (ixp u55 2), (eB ((turnL la bb).getD 2 0)), (eN j), (eN (3 * j)), (eN ((3 * j) % 255)), (ptr pw ((3 * j) % 255)), (eB ((pwT 255).getD ((3 * j) % 255) 0)), (eB (((turnL la bb).getD 2 0) ^^^ ((pwT 255).getD ((3 * j) % 255) 0))), (eN ((logT 255).getD ((((turnL la bb).getD 0 0) ^^^ ((pwT 255).getD j 0)).toNat) 0)), (eN (3 * ((logT 255).getD ((((turnL la bb).getD 0 0) ^^^ ((pwT 255).getD j 0)).toNat) 0))), (eN ((3 * ((logT 255).getD ((((turnL la bb).getD 0 0) ^^^ ((pwT 255).getD j 0)).toNat) 0)) % 255)), (ptr pw ((3 * ((logT 255).getD ((((turnL la bb).getD 0 0) ^^^ ((pwT 255).getD j 0)).toNat) 0)) % 255)), (eB ((pwT 255).getD ((3 * ((logT 255).getD ((((turnL la bb).getD 0 0) ^^^ ((pwT 255).getD j 0)).toNat) 0)) % 255) 0)), (eB ((((turnL la bb).getD 2 0) ^^^ ((pwT 255).getD ((3 * j) % 255) 0)) ^^^ ((pwT 255).getD ((3 * ((logT 255).getD ((((turnL la bb).getD 0 0) ^^^ ((pwT 255).getD j 0)).toNat) 0)) % 255) 0))), (Value.bool (!decide ((((((turnL la bb).getD 2 0) ^^^ ((pwT 255).getD ((3 * j) % 255) 0)) ^^^ ((pwT 255).getD ((3 * ((logT 255).getD ((((turnL la bb).getD 0 0) ^^^ ((pwT 255).getD j 0)).toNat) 0)) % 255) 0)) : UInt8) = (0 : UInt8)))), (Value.bool (!decide ((((((turnL la bb).getD 2 0) ^^^ ((pwT 255).getD ((3 * j) % 255) 0)) ^^^ ((pwT 255).getD ((3 * ((logT 255).getD ((((turnL la bb).getD 0 0) ^^^ ((pwT 255).getD j 0)).toNat) 0)) % 255) 0)) : UInt8) = (0 : UInt8))))] ++ (zs z 101 12))))) s_mx (by kernel_rfl) (by kernel_rfl) rfl (by kernel_rfl) (by kernel_rfl) ?_ ?_
   ·
    intro w_ hO_
    refine AllG.cons (gi rfl (d_move rfl)) ?_
    refine AllG.cons (gi rfl (d_ix (i := 0) (xs := (turnL la bb)) Try.underlying22 s_ti5 rfl (f56.step0 hO_) (show _ = Value.int _ ((0 : Nat) : Int) from rfl) (by have := turnL_length la bb; first | omega | (simp; done) | (simp; omega)))) ?_
    refine AllG.cons (gi rfl (d_ldx (i := 0) (xs := (turnL la bb)) (enc := eB) (v := ((turnL la bb).getD 0 0)) ⟨_, Try.underlying5, rfl⟩ rfl (f56.step0 hO_) (g_at (by have := turnL_length la bb; first | omega | (simp; done) | (simp; omega))))) ?_
    refine AllG.cons (gi rfl (d_move rfl)) ?_
    refine AllG.cons (gi rfl (d_indexArr1 (i := j) Try.underlying132 s_ti5 rfl (show _ = Value.int _ ((j : Nat) : Int) from rfl) (by omega))) ?_
    refine AllG.cons (gi rfl (d_load ⟨_, Try.underlying5, rfl⟩ rfl (a20.step0 hO_) (m_at (d := 0) (by rw [l_pw]; omega)))) ?_
    refine AllG.cons (gi rfl (b_eql (c := ((turnL la bb).getD 0 0)) (e := ((pwT 255).getD j 0)) rfl rfl (decide_eq_false z0))) ?_
    refine AllG.cons (gi rfl (d_move rfl)) ?_
    refine AllG.cons (gi_on rfl rfl rfl (nb rfl) rfl (d_move rfl)) ?_
    refine AllG.cons (gi_on rfl rfl rfl (nb rfl) rfl (n_geq (a := ((logT 255).getD ((((turnL la bb).getD 0 0) ^^^ ((pwT 255).getD j 0)).toNat) 0)) (b := 224) rfl rfl (decide_eq_false z1))) ?_
    refine AllG.cons (gi rfl (d_pick (b := false) (v := (Value.bool false)) rfl rfl)) ?_
    refine AllG.cons (gi rfl (d_move rfl)) ?_
    refine AllG.cons (gi_on rfl rfl rfl (nb rfl) rfl (d_move rfl)) ?_
    refine AllG.cons (gi_on rfl rfl rfl (nb rfl) rfl (d_ix (i := 2) (xs := (turnL la bb)) Try.underlying22 s_ti5 rfl (f56.step0 hO_) (show _ = Value.int _ ((2 : Nat) : Int) from rfl) (by have := turnL_length la bb; first | omega | (simp; done) | (simp; omega)))) ?_
    refine AllG.cons (gi_on rfl rfl rfl (nb rfl) rfl (d_ldx (i := 2) (xs := (turnL la bb)) (enc := eB) (v := ((turnL la bb).getD 2 0)) ⟨_, Try.underlying5, rfl⟩ rfl (f56.step0 hO_) (g_at (by have := turnL_length la bb; first | omega | (simp; done) | (simp; omega))))) ?_
    refine AllG.cons (gi_on rfl rfl rfl (nb rfl) rfl (d_move rfl)) ?_
    refine AllG.cons (gi_on rfl rfl rfl (nb rfl) rfl (n_mul (a := 3) (b := j) rfl rfl (by omega))) ?_
    refine AllG.cons (gi_on rfl rfl rfl (nb rfl) rfl (n_rem (a := (3 * j)) (b := 255) rfl rfl (by decide))) ?_
    refine AllG.cons (gi_on rfl rfl rfl (nb rfl) rfl (d_indexArr1 (i := ((3 * j) % 255)) Try.underlying132 s_ti5 rfl (show _ = Value.int _ (((3 * j) % 255 : Nat) : Int) from rfl) (Nat.mod_lt _ (by decide)))) ?_
    refine AllG.cons (gi_on rfl rfl rfl (nb rfl) rfl (d_load ⟨_, Try.underlying5, rfl⟩ rfl (a20.step0 hO_) (m_at (d := 0) (by rw [l_pw]; exact Nat.mod_lt _ (by decide))))) ?_
    refine AllG.cons (gi_on rfl rfl rfl (nb rfl) rfl (b_xor (c := ((turnL la bb).getD 2 0)) (e := ((pwT 255).getD ((3 * j) % 255) 0)) rfl rfl)) ?_
    refine AllG.cons (gi_on rfl rfl rfl (nb rfl) rfl (d_move rfl)) ?_
    refine AllG.cons (gi_on rfl rfl rfl (nb rfl) rfl (n_mul (a := 3) (b := ((logT 255).getD ((((turnL la bb).getD 0 0) ^^^ ((pwT 255).getD j 0)).toNat) 0)) rfl rfl (by omega))) ?_
    refine AllG.cons (gi_on rfl rfl rfl (nb rfl) rfl (n_rem (a := (3 * ((logT 255).getD ((((turnL la bb).getD 0 0) ^^^ ((pwT 255).getD j 0)).toNat) 0))) (b := 255) rfl rfl (by decide))) ?_
    refine AllG.cons (gi_on rfl rfl rfl (nb rfl) rfl (d_indexArr1 (i := ((3 * ((logT 255).getD ((((turnL la bb).getD 0 0) ^^^ ((pwT 255).getD j 0)).toNat) 0)) % 255)) Try.underlying132 s_ti5 rfl (show _ = Value.int _ (((3 * ((logT 255).getD ((((turnL la bb).getD 0 0) ^^^ ((pwT 255).getD j 0)).toNat) 0)) % 255 : Nat) : Int) from rfl) (Nat.mod_lt _ (by decide)))) ?_
    refine AllG.cons (gi_on rfl rfl rfl (nb rfl) rfl (d_load ⟨_, Try.underlying5, rfl⟩ rfl (a20.step0 hO_) (m_at (d := 0) (by rw [l_pw]; exact Nat.mod_lt _ (by decide))))) ?_
    refine AllG.cons (gi_on rfl rfl rfl (nb rfl) rfl (b_xor (c := (((turnL la bb).getD 2 0) ^^^ ((pwT 255).getD ((3 * j) % 255) 0))) (e := ((pwT 255).getD ((3 * ((logT 255).getD ((((turnL la bb).getD 0 0) ^^^ ((pwT 255).getD j 0)).toNat) 0)) % 255) 0)) rfl rfl)) ?_
    refine AllG.cons (gi_on rfl rfl rfl (nb rfl) rfl (b_neq (c := ((((turnL la bb).getD 2 0) ^^^ ((pwT 255).getD ((3 * j) % 255) 0)) ^^^ ((pwT 255).getD ((3 * ((logT 255).getD ((((turnL la bb).getD 0 0) ^^^ ((pwT 255).getD j 0)).toNat) 0)) % 255) 0))) (e := 0) rfl rfl rfl)) ?_
    refine AllG.cons (gi rfl (d_pick (b := false) (v := (Value.bool (!decide ((((((turnL la bb).getD 2 0) ^^^ ((pwT 255).getD ((3 * j) % 255) 0)) ^^^ ((pwT 255).getD ((3 * ((logT 255).getD ((((turnL la bb).getD 0 0) ^^^ ((pwT 255).getD j 0)).toNat) 0)) % 255) 0)) : UInt8) = (0 : UInt8))))) rfl rfl)) ?_
    exact AllG.nil
   intro w66 o67
   replace h1 := h1.step0 o67
   replace f56 := f56.step0 o67
   replace a20 := a20.step0 o67
   replace a24 := a24.step0 o67
   replace oW := oW.tail0 o67
   replace o26 := o26.tail0 o67
   replace o40 := o40.tail0 o67
   replace o51 := o51.tail0 o67
   replace o58 := o58.tail0 o67
   refine then_n ?_
   refine cond_un rfl (fun c5 => ?_) (fun c5 => ?_)
   ·
    refine wpIn_exit ?_
    refine then_x (inb_e ?_)
    refine then_n ?_
    refine plain ?_
    refine wI (d_move rfl) ?_
    refine wI (n_add (a := j) (b := 1) rfl rfl (by omega)) ?_
    refine wI (d_assign rfl) ?_
    refine wF ([u1, (zf33 1), (z 2), (z 3), (ptr pw 0), (ptr lg 0), (eN 255), (z 7), (eN a), (eN bb), u55, (eN (j + 1)), (eN ((logT 255).getD ((((turnL la bb).getD 0 0) ^^^ ((pwT 255).getD j 0)).toNat) 0))] ++ (zs zf33 13 16 ++ [(eI (sing la)), (Value.bool (decide (0 ≤ sing la))), (zf33 31), (zf33 32), (eN a), (Value.bool (decide (a < 224)))] ++ (zs z 35 14 ++ (zs zf57 49 10 ++ [(eN j), (Value.bool (decide (j < 224))), (eN j), (eN (j + 1)), u55, (ixp u55 0), (eB ((turnL la bb).getD 0 0)), (eN j), (ptr pw j), (eB ((pwT 255).getD j 0)), (eB (((turnL la bb).getD 0 0) ^^^ ((pwT 255).getD j 0))), (ptr lg ((((turnL la bb).getD 0 0) ^^^ ((pwT 255).getD j 0)).toNat)), (eN ((logT 255).getD ((((turnL la bb).getD 0 0) ^^^ ((pwT 255).getD j 0)).toNat) 0)), u55, (ixp u55 0), (eB ((turnL la bb).getD 0 0)), (eN j), (ptr pw j), (eB ((pwT 255).getD j 0)), (Value.bool false), (Value.bool false), (eN ((logT 255).getD ((((turnL la bb).getD 0 0) ^^^ ((pwT 255).getD j 0)).toNat) 0)), (Value.bool false), (Value.bool false), (Value.bool false), u55, (ixp u55 2), (eB ((turnL la bb).getD 2 0)), (eN j), (eN (3 * j)), (eN ((3 * j) % 255)), (ptr pw ((3 * j) % 255)), (eB ((pwT 255).getD ((3 * j) % 255) 0)), (eB (((turnL la bb).getD 2 0) ^^^ ((pwT 255).getD ((3 * j) % 255) 0))), (eN ((logT 255).getD ((((turnL la bb).getD 0 0) ^^^ ((pwT 255).getD j 0)).toNat) 0)), (eN (3 * ((logT 255).getD ((((turnL la bb).getD 0 0) ^^^ ((pwT 255).getD j 0)).toNat) 0))), (eN ((3 * ((logT 255).getD ((((turnL la bb).getD 0 0) ^^^ ((pwT 255).getD j 0)).toNat) 0)) % 255)), (ptr pw ((3 * ((logT 255).getD ((((turnL la bb).getD 0 0) ^^^ ((pwT 255).getD j 0)).toNat) 0)) % 255)), (eB ((pwT 255).getD ((3 * ((logT 255).getD ((((turnL la bb).getD 0 0) ^^^ ((pwT 255).getD j 0)).toNat) 0)) % 255) 0)), (eB ((((turnL la bb).getD 2 0) ^^^ ((pwT 255).getD ((3 * j) % 255) 0)) ^^^ ((pwT 255).getD ((3 * ((logT 255).getD ((((turnL la bb).getD 0 0) ^^^ ((pwT 255).getD j 0)).toNat) 0)) % 255) 0))), (Value.bool (!decide ((((((turnL la bb).getD 2 0) ^^^ ((pwT 255).getD ((3 * j) % 255) 0)) ^^^ ((pwT 255).getD ((3 * ((logT 255).getD ((((turnL la bb).getD 0 0) ^^^ ((pwT 255).getD j 0)).toNat) 0)) % 255) 0)) : UInt8) = (0 : UInt8)))), (Value.bool (!decide ((((((turnL la bb).getD 2 0) ^^^ ((pwT 255).getD ((3 * j) % 255) 0)) ^^^ ((pwT 255).getD ((3 * ((logT 255).getD ((((turnL la bb).getD 0 0) ^^^ ((pwT 255).getD j 0)).toNat) 0)) % 255) 0)) : UInt8) = (0 : UInt8))))] ++ (zs z 101 12))))) ?_
    refine wpL.done ?_
    refine then_n ?_
    refine ⟨_, (j + 1), rfl, rfl, ⟨?_, ?_, ?_, ?_, ?_⟩, ?_⟩
    ·
     (try dsimp only)
     all_goals (omega)
    ·
     (try dsimp only)
     all_goals (exact fun j' h1_ h2_ x hx h => (Nat.lt_succ_iff_lt_or_eq.1 h2_).elim (fun h' => h3j j' h1_ h' x hx h) (fun e_ => by subst e_; exact third_no g8 (fun k hk he => .inr (.inr (.inl c5))) (by omega) x hx h))
    ·
     exact o58
    ·
     exact a20
    ·
     exact a24
    ·
     (try dsimp only)
     all_goals (omega)
   refine wpIn_skip ?_
   refine then_n ?_
   refine wpIn_seq ?_
   refine drawn' (O := (Or1 lg (Or1 pw No))) (n := 8) [0, 0, 0, 7, 0, 0, 63, 127] [(0, 101), (1, 102), (2, 103), (3, 104), (4, 105), (5, 106), (6, 107), (7, 108)] [0, 1, 2, 3, 4, 5, 6, 7] [] (fun i_ => ([RF.is (Or1 lg (Or1 pw No)) u55, RF.is (Or1 lg (Or1 pw No)) (eN j), RF.is (Or1 lg (Or1 pw No)) (Value.agg ((pwT 255).map eB).toArray), RF.ps (Or1 lg (Or1 pw No)) (Or1 lg (Or1 pw (Old W.heap.size))) (Seq kB (turnL (turnL la bb) j)) (or1_mono (or1_mono no_any)), RF.is (Or1 lg (Or1 pw No)) (eN ((logT 255).getD ((((turnL la bb).getD 0 0) ^^^ ((pwT 255).getD j 0)).toNat) 0)), RF.is (Or1 lg (Or1 pw No)) (Value.agg ((pwT 255).map eB).toArray), RF.ps (Or1 lg (Or1 pw No)) (Or1 lg (Or1 pw (Old W.heap.size))) (Seq kB (turnL (turnL (turnL la bb) j) ((logT 255).getD ((((turnL la bb).getD 0 0) ^^^ ((pwT 255).getD j 0)).toNat) 0))) (or1_mono (or1_mono no_any)), RF.is (Or1 lg (Or1 pw No)) (Value.bool (whole (turnL (turnL (turnL la bb) j) ((logT 255).getD ((((turnL la bb).getD 0 0) ^^^ ((pwT 255).getD j 0)).toNat) 0))))] : List (RF (Or1 lg (Or1 pw No)))).getD i_ (RF.any (Or1 lg (Or1 pw No)))) (fun _ w_ => Arr 132 pw ((pwT 255).map eB) w_ ∧ Arr 134 lg ((logT 255).map eN) w_) (fun v68 => ([u1, (zf33 1), (z 2), (z 3), (ptr pw 0), (ptr lg 0), (eN 255), (z 7), (eN a), (eN bb), u55, (eN j), (eN ((logT 255).getD ((((turnL la bb).getD 0 0) ^^^ ((pwT 255).getD j 0)).toNat) 0))] ++ (zs zf33 13 16 ++ [(eI (sing la)), (Value.bool (decide (0 ≤ sing la))), (zf33 31), (zf33 32), (eN a), (Value.bool (decide (a < 224)))] ++ (zs z 35 14 ++ (zs zf57 49 10 ++ [(eN j), (Value.bool (decide (j < 224))), (z 61), (z 62), u55, (ixp u55 0), (eB ((turnL la bb).getD 0 0)), (eN j), (ptr pw j), (eB ((pwT 255).getD j 0)), (eB (((turnL la bb).getD 0 0) ^^^ ((pwT 255).getD j 0))), (ptr lg ((((turnL la bb).getD 0 0) ^^^ ((pwT 255).getD j 0)).toNat)), (eN ((logT 255).getD ((((turnL la bb).getD 0 0) ^^^ ((pwT 255).getD j 0)).toNat) 0)), u55, (ixp u55 0), (eB ((turnL la bb).getD 0 0)), (eN j), (ptr pw j), (eB ((pwT 255).getD j 0)), (Value.bool false), (Value.bool false), (eN ((logT 255).getD ((((turnL la bb).getD 0 0) ^^^ ((pwT 255).getD j 0)).toNat) 0)), (Value.bool false), (Value.bool false), (Value.bool false), u55, (ixp u55 2), (eB ((turnL la bb).getD 2 0)), (eN j), (eN (3 * j)), (eN ((3 * j) % 255)), (ptr pw ((3 * j) % 255)), (eB ((pwT 255).getD ((3 * j) % 255) 0)), (eB (((turnL la bb).getD 2 0) ^^^ ((pwT 255).getD ((3 * j) % 255) 0))), (eN ((logT 255).getD ((((turnL la bb).getD 0 0) ^^^ ((pwT 255).getD j 0)).toNat) 0)), (eN (3 * ((logT 255).getD ((((turnL la bb).getD 0 0) ^^^ ((pwT 255).getD j 0)).toNat) 0))), (eN ((3 * ((logT 255).getD ((((turnL la bb).getD 0 0) ^^^ ((pwT 255).getD j 0)).toNat) 0)) % 255)), (ptr pw ((3 * ((logT 255).getD ((((turnL la bb).getD 0 0) ^^^ ((pwT 255).getD j 0)).toNat) 0)) % 255)), (eB ((pwT 255).getD ((3 * ((logT 255).getD ((((turnL la bb).getD 0 0) ^^^ ((pwT 255).getD j 0)).toNat) 0)) % 255) 0)), (eB ((((turnL la bb).getD 2 0) ^^^ ((pwT 255).getD ((3 * j) % 255) 0)) ^^^ ((pwT 255).getD ((3 * ((logT 255).getD ((((turnL la bb).getD 0 0) ^^^ ((pwT 255).getD j 0)).toNat) 0)) % 255) 0))), (Value.bool (!decide ((((((turnL la bb).getD 2 0) ^^^ ((pwT 255).getD ((3 * j) % 255) 0)) ^^^ ((pwT 255).getD ((3 * ((logT 255).getD ((((turnL la bb).getD 0 0) ^^^ ((pwT 255).getD j 0)).toNat) 0)) % 255) 0)) : UInt8) = (0 : UInt8)))), (Value.bool (!decide ((((((turnL la bb).getD 2 0) ^^^ ((pwT 255).getD ((3 * j) % 255) 0)) ^^^ ((pwT 255).getD ((3 * ((logT 255).getD ((((turnL la bb).getD 0 0) ^^^ ((pwT 255).getD j 0)).toNat) 0)) % 255) 0)) : UInt8) = (0 : UInt8)))), (v68 0), (v68 1), (v68 2), (v68 3), (v68 4), (v68 5), (v68 6), (v68 7), (z 109), (z 110), (z 111), (z 112)]))))) s_mx (by kernel_rfl) rfl (by kernel_rfl) (by rfl) (fun v_ => by kernel_rfl) (fun _ => fun w_ w2_ h ho => by obtain ⟨r_a20, r_a24⟩ := h; exact ⟨r_a20.step0 ho, r_a24.step0 ho⟩) ⟨a20, a24⟩ ?_ ?_ ?_
   ·
    refine ls_cons ?_ ?_
    ·
     intro v68 lo hi w_ k_ hO hd _ _ hk_ _ hR hold
     obtain ⟨r_a20, r_a24⟩ := hR
     clear hd hold
     refine ⟨_, rfl, gd rfl ?_⟩
     exact Does.is (d_move rfl)
    refine ls_cons ?_ ?_
    ·
     intro v68 lo hi w_ k_ hO hd _ _ hk_ _ hR hold
     obtain ⟨r_a20, r_a24⟩ := hR
     clear hd hold
     refine ⟨_, rfl, gd rfl ?_⟩
     exact Does.is (d_move rfl)
    refine ls_cons ?_ ?_
    ·
     intro v68 lo hi w_ k_ hO hd _ _ hk_ _ hR hold
     obtain ⟨r_a20, r_a24⟩ := hR
     clear hd hold
     refine ⟨_, rfl, gd rfl ?_⟩
     exact Does.is (d_loadAg (vs := ((pwT 255).map eB)) ⟨_, Try.underlying132, rfl⟩ s_ti132 rfl r_a20 (take_all l_pw) (map_len l_pw))
    refine ls_cons ?_ ?_
    ·
     intro v68 lo hi w_ k_ hO hd _ _ hk_ _ hR hold
     obtain ⟨r_a20, r_a24⟩ := hR
     have e0 : v68 0 = u55 := hd 0 (by kernel_rfl)
     have e1 : v68 1 = (eN j) := hd 1 (by kernel_rfl)
     have e2 : v68 2 = (Value.agg ((pwT 255).map eB).toArray) := hd 2 (by kernel_rfl)
     clear hd hold
     refine ⟨_, rfl, gd rfl ?_⟩
     refine Does.mono (R := ROw 5 eB (turnL (turnL la bb) j) w_) ?_ (fun u w' h => ⟨(h.ps).1.less (or1_old r_a24.lt (or1_old r_a20.lt (old_old (Nat.le_trans oW.size hO.size)))), (h.ps).2⟩)
     exact d_call (xl := [.tmp 101, .tmp 102, .tmp 103]) (al := [u55, (eN j), (Value.agg ((pwT 255).map eB).toArray)]) Try.func104 (by kernel_rfl) rfl (show ([(v68 0), (v68 1), (v68 2)] : List Value) = [u55, (eN j), (Value.agg ((pwT 255).map eB).toArray)] from by rw [e0, e1, e2]) rfl (ref4Turned_ok (turnL la bb) j u55 _ (Ps.no (f56.step hO (or1_mono (or1_mono no_any)))) (by have := turnL_length la bb; first | omega | (simp; done) | (simp; omega)) (by first | omega | (exact lgZ_lt _)))
    refine ls_cons ?_ ?_
    ·
     intro v68 lo hi w_ k_ hO hd _ _ hk_ _ hR hold
     obtain ⟨r_a20, r_a24⟩ := hR
     clear hd hold
     refine ⟨_, rfl, gd rfl ?_⟩
     exact Does.is (d_move rfl)
    refine ls_cons ?_ ?_
    ·
     intro v68 lo hi w_ k_ hO hd _ _ hk_ _ hR hold
     obtain ⟨r_a20, r_a24⟩ := hR
     clear hd hold
     refine ⟨_, rfl, gd rfl ?_⟩
     exact Does.is (d_loadAg (vs := ((pwT 255).map eB)) ⟨_, Try.underlying132, rfl⟩ s_ti132 rfl r_a20 (take_all l_pw) (map_len l_pw))
    refine ls_cons ?_ ?_
    ·
     intro v68 lo hi w_ k_ hO hd _ _ hk_ _ hR hold
     obtain ⟨r_a20, r_a24⟩ := hR
     have d3 : Ps (Or1 lg (Or1 pw (Old W.heap.size))) (Seq kB (turnL (turnL la bb) j) (v68 3)) w_ := hd 3 (by kernel_rfl)
     have e4 : v68 4 = (eN ((logT 255).getD ((((turnL la bb).getD 0 0) ^^^ ((pwT 255).getD j 0)).toNat) 0)) := hd 4 (by kernel_rfl)
     have e5 : v68 5 = (Value.agg ((pwT 255).map eB).toArray) := hd 5 (by kernel_rfl)
     clear hd hold
     refine ⟨_, rfl, gd rfl ?_⟩
     refine Does.mono (R := ROw 5 eB (turnL (turnL (turnL la bb) j) ((logT 255).getD ((((turnL la bb).getD 0 0) ^^^ ((pwT 255).getD j 0)).toNat) 0)) w_) ?_ (fun u w' h => ⟨(h.ps).1.less (or1_old r_a24.lt (or1_old r_a20.lt (old_old (Nat.le_trans oW.size hO.size)))), (h.ps).2⟩)
     exact d_call (xl := [.tmp 104, .tmp 105, .tmp 106]) (al := [(v68 3), (eN ((logT 255).getD ((((turnL la bb).getD 0 0) ^^^ ((pwT 255).getD j 0)).toNat) 0)), (Value.agg ((pwT 255).map eB).toArray)]) Try.func104 (by kernel_rfl) rfl (show ([(v68 3), (v68 4), (v68 5)] : List Value) = [(v68 3), (eN ((logT 255).getD ((((turnL la bb).getD 0 0) ^^^ ((pwT 255).getD j 0)).toNat) 0)), (Value.agg ((pwT 255).map eB).toArray)] from by rw [e4, e5]) rfl (ref4Turned_ok (turnL (turnL la bb) j) ((logT 255).getD ((((turnL la bb).getD 0 0) ^^^ ((pwT 255).getD j 0)).toNat) 0) (v68 3) _ (Ps.no d3) (by have := turnL_length (turnL la bb) j; have := turnL_length la bb; first | omega | (simp; done) | (simp; omega)) (by first | omega | (exact lgZ_lt _)))
    refine ls_cons ?_ ?_
    ·
     intro v68 lo hi w_ k_ hO hd _ _ hk_ _ hR hold
     obtain ⟨r_a20, r_a24⟩ := hR
     have d6 : Ps (Or1 lg (Or1 pw (Old W.heap.size))) (Seq kB (turnL (turnL (turnL la bb) j) ((logT 255).getD ((((turnL la bb).getD 0 0) ^^^ ((pwT 255).getD j 0)).toNat) 0)) (v68 6)) w_ := hd 6 (by kernel_rfl)
     clear hd hold
     refine ⟨_, rfl, gd rfl ?_⟩
     exact d_call (xl := [.tmp 107]) (al := [(v68 6)]) Try.func101 (by kernel_rfl) rfl rfl rfl (ref4Zero_ok (turnL (turnL (turnL la bb) j) ((logT 255).getD ((((turnL la bb).getD 0 0) ^^^ ((pwT 255).getD j 0)).toNat) 0)) (v68 6) _ (Ps.no d6) (by have := pwT_length 255; have := logT_length 255; have := turnL_length (turnL (turnL la bb) j) ((logT 255).getD ((((turnL la bb).getD 0 0) ^^^ ((pwT 255).getD j 0)).toNat) 0); have := turnL_length (turnL la bb) j; have := turnL_length la bb; first | omega | (simp; done) | (simp; omega)))
    exact ls_nil
   ·
    exact ms_nil
   intro v68 lo_ hi_ w69 o70 hd iv_ hR
   have e0 : v68 0 = u55 := hd 0 (by decide)
   have e1 : v68 1 = (eN j) := hd 1 (by decide)
   have e2 : v68 2 = (Value.agg ((pwT 255).map eB).toArray) := hd 2 (by decide)
   have e4 : v68 4 = (eN ((logT 255).getD ((((turnL la bb).getD 0 0) ^^^ ((pwT 255).getD j 0)).toNat) 0)) := hd 4 (by decide)
   have e5 : v68 5 = (Value.agg ((pwT 255).map eB).toArray) := hd 5 (by decide)
   have e7 : v68 7 = (Value.bool (whole (turnL (turnL (turnL la bb) j) ((logT 255).getD ((((turnL la bb).getD 0 0) ^^^ ((pwT 255).getD j 0)).toNat) 0)))) := hd 7 (by decide)
   have f_v68_3 : Ps (Or1 lg (Or1 pw (Old W.heap.size))) (Seq kB (turnL (turnL la bb) j) (v68 3)) w69 := hd 3 (by decide)
   have f_v68_6 : Ps (Or1 lg (Or1 pw (Old W.heap.size))) (Seq kB (turnL (turnL (turnL la bb) j) ((logT 255).getD ((((turnL la bb).getD 0 0) ^^^ ((pwT 255).getD j 0)).toNat) 0)) (v68 6)) w69 := hd 6 (by decide)
   clear hd iv_ lo_ hi_
   refine fr_eq (l' := ([u1, (zf33 1), (z 2), (z 3), (ptr pw 0), (ptr lg 0), (eN 255), (z 7), (eN a), (eN bb), u55, (eN j), (eN ((logT 255).getD ((((turnL la bb).getD 0 0) ^^^ ((pwT 255).getD j 0)).toNat) 0))] ++ (zs zf33 13 16 ++ [(eI (sing la)), (Value.bool (decide (0 ≤ sing la))), (zf33 31), (zf33 32), (eN a), (Value.bool (decide (a < 224)))] ++ (zs z 35 14 ++ (zs zf57 49 10 ++ [(eN j), (Value.bool (decide (j < 224))), (z 61), (z 62), u55, (ixp u55 0), (eB ((turnL la bb).getD 0 0)), (eN j), (ptr pw j), (eB ((pwT 255).getD j 0)), (eB (((turnL la bb).getD 0 0) ^^^ ((pwT 255).getD j 0))), (ptr lg ((((turnL la bb).getD 0 0) ^^^ ((pwT 255).getD j 0)).toNat)), (eN ((logT 255).getD ((((turnL la bb).getD 0 0) ^^^ ((pwT 255).getD j 0)).toNat) 0)), u55, (ixp u55 0), (eB ((turnL la bb).getD 0 0)), (eN j), (ptr pw j), (eB ((pwT 255).getD j 0)), (Value.bool false), (Value.bool false), (eN ((logT 255).getD ((((turnL la bb).getD 0 0) ^^^ ((pwT 255).getD j 0)).toNat) 0)), (Value.bool false), (Value.bool false), (Value.bool false), u55, (ixp u55 2), (eB ((turnL la bb).getD 2 0)), (eN j), (eN (3 * j)), (eN ((3 * j) % 255)), (ptr pw ((3 * j) % 255)), (eB ((pwT 255).getD ((3 * j) % 255) 0)), (eB (((turnL la bb).getD 2 0) ^^^ ((pwT 255).getD ((3 * j) % 255) 0))), (eN ((logT 255).getD ((((turnL la bb).getD 0 0) ^^^ ((pwT 255).getD j 0)).toNat) 0)), (eN (3 * ((logT 255).getD ((((turnL la bb).getD 0 0) ^^^ ((pwT 255).getD j 0)).toNat) 0))), (eN ((3 * ((logT 255).getD ((((turnL la bb).getD 0 0) ^^^ ((pwT 255).getD j 0)).toNat) 0)) % 255)), (ptr pw ((3 * ((logT 255).getD ((((turnL la bb).getD 0 0) ^^^ ((pwT 255).getD j 0)).toNat) 0)) % 255)), (eB ((pwT 255).getD ((3 * ((logT 255).getD ((((turnL la bb).getD 0 0) ^^^ ((pwT 255).getD j 0)).toNat) 0)) % 255) 0)), (eB ((((turnL la bb).getD 2 0) ^^^ ((pwT 255).getD ((3 * j) % 255) 0)) ^^^ ((pwT 255).getD ((3 * ((logT 255).getD ((((turnL la bb).getD 0 0) ^^^ ((pwT 255).getD j 0)).toNat) 0)) % 255) 0))), (Value.bool (!decide ((((((turnL la bb).getD 2 0) ^^^ ((pwT 255).getD ((3 * j) % 255) 0)) ^^^ ((pwT 255).getD ((3 * ((logT 255).getD ((((turnL la bb).getD 0 0) ^^^ ((pwT 255).getD j 0)).toNat) 0)) % 255) 0)) : UInt8) = (0 : UInt8)))), (Value.bool (!decide ((((((turnL la bb).getD 2 0) ^^^ ((pwT 255).getD ((3 * j) % 255) 0)) ^^^ ((pwT 255).getD ((3 * ((logT 255).getD ((((turnL la bb).getD 0 0) ^^^ ((pwT 255).getD j 0)).toNat) 0)) % 255) 0)) : UInt8) = (0 : UInt8)))), u55, (eN j), (Value.agg ((pwT 255).map eB).toArray), (v68 3), (eN ((logT 255).getD ((((turnL la bb).getD 0 0) ^^^ ((pwT 255).getD j 0)).toNat) 0)), (Value.agg ((pwT 255).map eB).toArray), (v68 6), (Value.bool (whole (turnL (turnL (turnL la bb) j) ((logT 255).getD ((((turnL la bb).getD 0 0) ^^^ ((pwT 255).getD j 0)).toNat) 0)))), (z 109), (z 110), (z 111), (z 112)]))))) (by rw [e0, e1, e2, e4, e5, e7] <;> rfl) ?_
   clear e0 e1 e2 e4 e5 e7
   replace h1 := h1.step o70 (or1_mono (or1_mono no_any))
   replace f56 := f56.step o70 (or1_mono (or1_mono no_any))
   obtain ⟨xr_a20, xr_a24⟩ := hR
   replace a20 : Arr 132 pw ((pwT 255).map eB) w69 := xr_a20
   replace a24 : Arr 134 lg ((logT 255).map eN) w69 := xr_a24
   clear xr_a20 xr_a24
   replace oW := oW.tail o70 (tl_new g_oW_lg (tl_new g_oW_pw tl_no))
   replace o26 := o26.tail o70 (tl_in in1 (tl_in (in2 in1) tl_no))
   replace o40 := o40.tail o70 (tl_in in1 (tl_in (in2 in1) tl_no))
   replace o51 := o51.tail o70 (tl_in in1 (tl_in (in2 in1) tl_no))
   replace o58 := o58.tail o70 (tl_in in1 (tl_in (in2 in1) tl_no))
   refine then_n ?_
   refine cond_b rfl (fun c6 => ?_) (fun c6 => ?_)
   ·
    refine wpIn_seq ?_
    refine plain ?_
    refine wI (d_move rfl) ?_
    refine wI (d_move rfl) ?_
    refine wI (d_move rfl) ?_
    refine wF ([u1, (zf33 1), (z 2), (z 3), (ptr pw 0), (ptr lg 0), (eN 255), (z 7), (eN a), (eN bb), u55, (eN j), (eN ((logT 255).getD ((((turnL la bb).getD 0 0) ^^^ ((pwT 255).getD j 0)).toNat) 0))] ++ (zs zf33 13 16 ++ [(eI (sing la)), (Value.bool (decide (0 ≤ sing la))), (zf33 31), (zf33 32), (eN a), (Value.bool (decide (a < 224)))] ++ (zs z 35 14 ++ (zs zf57 49 10 ++ [(eN j), (Value.bool (decide (j < 224))), (z 61), (z 62), u55, (ixp u55 0), (eB ((turnL la bb).getD 0 0)), (eN j), (ptr pw j), (eB ((pwT 255).getD j 0)), (eB (((turnL la bb).getD 0 0) ^^^ ((pwT 255).getD j 0))), (ptr lg ((((turnL la bb).getD 0 0) ^^^ ((pwT 255).getD j 0)).toNat)), (eN ((logT 255).getD ((((turnL la bb).getD 0 0) ^^^ ((pwT 255).getD j 0)).toNat) 0)), u55, (ixp u55 0), (eB ((turnL la bb).getD 0 0)), (eN j), (ptr pw j), (eB ((pwT 255).getD j 0)), (Value.bool false), (Value.bool false), (eN ((logT 255).getD ((((turnL la bb).getD 0 0) ^^^ ((pwT 255).getD j 0)).toNat) 0)), (Value.bool false), (Value.bool false), (Value.bool false), u55, (ixp u55 2), (eB ((turnL la bb).getD 2 0)), (eN j), (eN (3 * j)), (eN ((3 * j) % 255)), (ptr pw ((3 * j) % 255)), (eB ((pwT 255).getD ((3 * j) % 255) 0)), (eB (((turnL la bb).getD 2 0) ^^^ ((pwT 255).getD ((3 * j) % 255) 0))), (eN ((logT 255).getD ((((turnL la bb).getD 0 0) ^^^ ((pwT 255).getD j 0)).toNat) 0)), (eN (3 * ((logT 255).getD ((((turnL la bb).getD 0 0) ^^^ ((pwT 255).getD j 0)).toNat) 0))), (eN ((3 * ((logT 255).getD ((((turnL la bb).getD 0 0) ^^^ ((pwT 255).getD j 0)).toNat) 0)) % 255)), (ptr pw ((3 * ((logT 255).getD ((((turnL la bb).getD 0 0) ^^^ ((pwT 255).getD j 0)).toNat) 0)) % 255)), (eB ((pwT 255).getD ((3 * ((logT 255).getD ((((turnL la bb).getD 0 0) ^^^ ((pwT 255).getD j 0)).toNat) 0)) % 255) 0)), (eB ((((turnL la bb).getD 2 0) ^^^ ((pwT 255).getD ((3 * j) % 255) 0)) ^^^ ((pwT 255).getD ((3 * ((logT 255).getD ((((turnL la bb).getD 0 0) ^^^ ((pwT 255).getD j 0)).toNat) 0)) % 255) 0))), (Value.bool (!decide ((((((turnL la bb).getD 2 0) ^^^ ((pwT 255).getD ((3 * j) % 255) 0)) ^^^ ((pwT 255).getD ((3 * ((logT 255).getD ((((turnL la bb).getD 0 0) ^^^ ((pwT 255).getD j 0)).toNat) 0)) % 255) 0)) : UInt8) = (0 : UInt8)))), (Value.bool (!decide ((((((turnL la bb).getD 2 0) ^^^ ((pwT 255).getD ((3 * j) % 255) 0)) ^^^ ((pwT 255).getD ((3 * ((logT 255).getD ((((turnL la bb).getD 0 0) ^^^ ((pwT 255).getD j 0)).toNat) 0)) % 255) 0)) : UInt8) = (0 : UInt8)))), u55, (eN j), (Value.agg ((pwT 255).map eB).toArray), (v68 3), (eN ((logT 255).getD ((((turnL la bb).getD 0 0) ^^^ ((pwT 255).getD j 0)).toNat) 0)), (Value.agg ((pwT 255).map eB).toArray), (v68 6), (Value.bool (whole (turnL (turnL (turnL la bb) j) ((logT 255).getD ((((turnL la bb).getD 0 0) ^^^ ((pwT 255).getD j 0)).toNat) 0)))), (eN bb), (eN j), (eN ((logT 255).getD ((((turnL la bb).getD 0 0) ^^^ ((pwT 255).getD j 0)).toNat) 0)), (z 112)])))) ?_
    refine wO (d_buildL (cs := [(eN bb), (eN j), (eN ((logT 255).getD ((((turnL la bb).getD 0 0) ^^^ ((pwT 255).getD j 0)).toNat) 0))]) Try.underlying23 s_ti3 rfl (nb rfl) (parts_cons (vs := [(eN bb)]) (cells_of (v := (eN bb)) rfl rfl) (parts_cons (vs := [(eN j)]) (cells_of (v := (eN j)) rfl rfl) (parts_cons (vs := [(eN ((logT 255).getD ((((turnL la bb).getD 0 0) ^^^ ((pwT 255).getD j 0)).toNat) 0))]) (cells_of (v := (eN ((logT 255).getD ((((turnL la bb).getD 0 0) ^^^ ((pwT 255).getD j 0)).toNat) 0))) rfl rfl) parts_nil))) rfl) ?_
    rintro _ w72 ⟨b71, rfl, g73, a74, o75⟩
    replace a74 : Arr 3 b71 (([bb, j, ((logT 255).getD ((((turnL la bb).getD 0 0) ^^^ ((pwT 255).getD j 0)).toNat) 0)] : List Nat).map eN) w72 := a74
    have l_b71 : ([bb, j, ((logT 255).getD ((((turnL la bb).getD 0 0) ^^^ ((pwT 255).getD j 0)).toNat) 0)] : List Nat).length = 3 := rfl
    have n_pw_b71 : pw ≠ b71 := a20.ne g73
    have n_lg_b71 : lg ≠ b71 := a24.ne g73
    have g_oW_b71 : W.heap.size ≤ b71 := Nat.le_trans oW.size g73
    have g_o26_b71 : w22.heap.size ≤ b71 := Nat.le_trans o26.size g73
    have g_o40_b71 : w31.heap.size ≤ b71 := Nat.le_trans o40.size g73
    have g_o51_b71 : w41.heap.size ≤ b71 := Nat.le_trans o51.size g73
    have g_o58_b71 : w53.heap.size ≤ b71 := Nat.le_trans o58.size g73
    replace h1 := h1.new o75 g73
    replace f56 := f56.new o75 g73
    replace f_v68_3 := f_v68_3.new o75 g73
    replace f_v68_6 := f_v68_6.new o75 g73
    replace a20 := a20.step0 o75
    replace a24 := a24.step0 o75
    replace oW := oW.tail0 o75
    replace o26 := o26.tail0 o75
    replace o40 := o40.tail0 o75
    replace o51 := o51.tail0 o75
    replace o58 := o58.tail0 o75
    refine wI (d_assign rfl) ?_
    refine wI (d_assign rfl) ?_
    refine wF ([u1, (zf33 1), (sli b71 0 3 3), (Value.bool true), (ptr pw 0), (ptr lg 0), (eN 255), (z 7), (eN a), (eN bb), u55, (eN j), (eN ((logT 255).getD ((((turnL la bb).getD 0 0) ^^^ ((pwT 255).getD j 0)).toNat) 0))] ++ (zs zf33 13 16 ++ [(eI (sing la)), (Value.bool (decide (0 ≤ sing la))), (zf33 31), (zf33 32), (eN a), (Value.bool (decide (a < 224)))] ++ (zs z 35 14 ++ (zs zf57 49 10 ++ [(eN j), (Value.bool (decide (j < 224))), (z 61), (z 62), u55, (ixp u55 0), (eB ((turnL la bb).getD 0 0)), (eN j), (ptr pw j), (eB ((pwT 255).getD j 0)), (eB (((turnL la bb).getD 0 0) ^^^ ((pwT 255).getD j 0))), (ptr lg ((((turnL la bb).getD 0 0) ^^^ ((pwT 255).getD j 0)).toNat)), (eN ((logT 255).getD ((((turnL la bb).getD 0 0) ^^^ ((pwT 255).getD j 0)).toNat) 0)), u55, (ixp u55 0), (eB ((turnL la bb).getD 0 0)), (eN j), (ptr pw j), (eB ((pwT 255).getD j 0)), (Value.bool false), (Value.bool false), (eN ((logT 255).getD ((((turnL la bb).getD 0 0) ^^^ ((pwT 255).getD j 0)).toNat) 0)), (Value.bool false), (Value.bool false), (Value.bool false), u55, (ixp u55 2), (eB ((turnL la bb).getD 2 0)), (eN j), (eN (3 * j)), (eN ((3 * j) % 255)), (ptr pw ((3 * j) % 255)), (eB ((pwT 255).getD ((3 * j) % 255) 0)), (eB (((turnL la bb).getD 2 0) ^^^ ((pwT 255).getD ((3 * j) % 255) 0))), (eN ((logT 255).getD ((((turnL la bb).getD 0 0) ^^^ ((pwT 255).getD j 0)).toNat) 0)), (eN (3 * ((logT 255).getD ((((turnL la bb).getD 0 0) ^^^ ((pwT 255).getD j 0)).toNat) 0))), (eN ((3 * ((logT 255).getD ((((turnL la bb).getD 0 0) ^^^ ((pwT 255).getD j 0)).toNat) 0)) % 255)), (ptr pw ((3 * ((logT 255).getD ((((turnL la bb).getD 0 0) ^^^ ((pwT 255).getD j 0)).toNat) 0)) % 255)), (eB ((pwT 255).getD ((3 * ((logT 255).getD ((((turnL la bb).getD 0 0) ^^^ ((pwT 255).getD j 0)).toNat) 0)) % 255) 0)), (eB ((((turnL la bb).getD 2 0) ^^^ ((pwT 255).getD ((3 * j) % 255) 0)) ^^^ ((pwT 255).getD ((3 * ((logT 255).getD ((((turnL la bb).getD 0 0) ^^^ ((pwT 255).getD j 0)).toNat) 0)) % 255) 0))), (Value.bool (!decide ((((((turnL la bb).getD 2 0) ^^^ ((pwT 255).getD ((3 * j) % 255) 0)) ^^^ ((pwT 255).getD ((3 * ((logT 255).getD ((((turnL la bb).getD 0 0) ^^^ ((pwT 255).getD j 0)).toNat) 0)) % 255) 0)) : UInt8) = (0 : UInt8)))), (Value.bool (!decide ((((((turnL la bb).getD 2 0) ^^^ ((pwT 255).getD ((3 * j) % 255) 0)) ^^^ ((pwT 255).getD ((3 * ((logT 255).getD ((((turnL la bb).getD 0 0) ^^^ ((pwT 255).getD j 0)).toNat) 0)) % 255) 0)) : UInt8) = (0 : UInt8)))), u55, (eN j), (Value.agg ((pwT 255).map eB).toArray), (v68 3), (eN ((logT 255).getD ((((turnL la bb).getD 0 0) ^^^ ((pwT 255).getD j 0)).toNat) 0)), (Value.agg ((pwT 255).map eB).toArray), (v68 6), (Value.bool (whole (turnL (turnL (turnL la bb) j) ((logT 255).getD ((((turnL la bb).getD 0 0) ^^^ ((pwT 255).getD j 0)).toNat) 0)))), (eN bb), (eN j), (eN ((logT 255).getD ((((turnL la bb).getD 0 0) ^^^ ((pwT 255).getD j 0)).toNat) 0)), (sli b71 0 3 3)])))) ?_
    refine wpL.done ?_
    refine then_n ?_
    refine forget (fun zf76 => ([u1, (zf33 1), (sli b71 0 3 3), (Value.bool true), (ptr pw 0), (ptr lg 0), (eN 255), (z 7), (eN a), (eN bb), u55, (eN j), (zf76 12)] ++ (zs zf33 13 16 ++ [(eI (sing la)), (Value.bool (decide (0 ≤ sing la))), (zf33 31), (zf33 32), (eN a), (Value.bool (decide (a < 224)))] ++ (zs z 35 14 ++ (zs zf57 49 10 ++ (zs zf76 59 54)))))) (by kernel_rfl) (fun zf76 => ?_)
    refine wpIn_ret ?_
    refine inb_r (then_r (then_r (inb_r (inb_r (then_r (then_r (inb_r (then_r ?_))))))))
    refine leave0 (v := (Value.tuple #[(sli b71 0 3 3), (Value.bool true)])) (res2 Try.results76 rfl rfl) ?_
    exact ⟨[bb, j, ((logT 255).getD ((((turnL la bb).getD 0 0) ^^^ ((pwT 255).getD j 0)).toNat) 0)], true, PlacesOk.three (by omega) (by omega) (by omega) (by omega) hno1 (third_yes g8 c6), RTb.of rfl rfl (arr_keep a74 l_b71 (Nat.le_refl _) (old_ne g_oW_b71)) oW⟩
   refine wpIn_skip ?_
   refine inb_n (then_n ?_)
   refine plain ?_
   refine wI (d_move rfl) ?_
   refine wI (n_add (a := j) (b := 1) rfl rfl (by omega)) ?_
   refine wI (d_assign rfl) ?_
   refine wF ([u1, (zf33 1), (z 2), (z 3), (ptr pw 0), (ptr lg 0), (eN 255), (z 7), (eN a), (eN bb), u55, (eN (j + 1)), (eN ((logT 255).getD ((((turnL la bb).getD 0 0) ^^^ ((pwT 255).getD j 0)).toNat) 0))] ++ (zs zf33 13 16 ++ [(eI (sing la)), (Value.bool (decide (0 ≤ sing la))), (zf33 31), (zf33 32), (eN a), (Value.bool (decide (a < 224)))] ++ (zs z 35 14 ++ (zs zf57 49 10 ++ [(eN j), (Value.bool (decide (j < 224))), (eN j), (eN (j + 1)), u55, (ixp u55 0), (eB ((turnL la bb).getD 0 0)), (eN j), (ptr pw j), (eB ((pwT 255).getD j 0)), (eB (((turnL la bb).getD 0 0) ^^^ ((pwT 255).getD j 0))), (ptr lg ((((turnL la bb).getD 0 0) ^^^ ((pwT 255).getD j 0)).toNat)), (eN ((logT 255).getD ((((turnL la bb).getD 0 0) ^^^ ((pwT 255).getD j 0)).toNat) 0)), u55, (ixp u55 0), (eB ((turnL la bb).getD 0 0)), (eN j), (ptr pw j), (eB ((pwT 255).getD j 0)), (Value.bool false), (Value.bool false), (eN ((logT 255).getD ((((turnL la bb).getD 0 0) ^^^ ((pwT 255).getD j 0)).toNat) 0)), (Value.bool false), (Value.bool false), (Value.bool false), u55, (ixp u55 2), (eB ((turnL la bb).getD 2 0)), (eN j), (eN (3 * j)), (eN ((3 * j) % 255)), (ptr pw ((3 * j) % 255)), (eB ((pwT 255).getD ((3 * j) % 255) 0)), (eB (((turnL la bb).getD 2 0) ^^^ ((pwT 255).getD ((3 * j) % 255) 0))), (eN ((logT 255).getD ((((turnL la bb).getD 0 0) ^^^ ((pwT 255).getD j 0)).toNat) 0)), (eN (3 * ((logT 255).getD ((((turnL la bb).getD 0 0) ^^^ ((pwT 255).getD j 0)).toNat) 0))), (eN ((3 * ((logT 255).getD ((((turnL la bb).getD 0 0) ^^^ ((pwT 255).getD j 0)).toNat) 0)) % 255)), (ptr pw ((3 * ((logT 255).getD ((((turnL la bb).getD 0 0) ^^^ ((pwT 255).getD j 0)).toNat) 0)) % 255)), (eB ((pwT 255).getD ((3 * ((logT 255).getD ((((turnL la bb).getD 0 0) ^^^ ((pwT 255).getD j 0)).toNat) 0)) % 255) 0)), (eB ((((turnL la bb).getD 2 0) ^^^ ((pwT 255).getD ((3 * j) % 255) 0)) ^^^ ((pwT 255).getD ((3 * ((logT 255).getD ((((turnL la bb).getD 0 0) ^^^ ((pwT 255).getD j 0)).toNat) 0)) % 255) 0))), (Value.bool (!decide ((((((turnL la bb).getD 2 0) ^^^ ((pwT 255).getD ((3 * j) % 255) 0)) ^^^ ((pwT 255).getD ((3 * ((logT 255).getD ((((turnL la bb).getD 0 0) ^^^ ((pwT 255).getD j 0)).toNat) 0)) % 255) 0)) : UInt8) = (0 : UInt8)))), (Value.bool (!decide ((((((turnL la bb).getD 2 0) ^^^ ((pwT 255).getD ((3 * j) % 255) 0)) ^^^ ((pwT 255).getD ((3 * ((logT 255).getD ((((turnL la bb).getD 0 0) ^^^ ((pwT 255).getD j 0)).toNat) 0)) % 255) 0)) : UInt8) = (0 : UInt8)))), u55, (eN j), (Value.agg ((pwT 255).map eB).toArray), (v68 3), (eN ((logT 255).getD ((((turnL la bb).getD 0 0) ^^^ ((pwT 255).getD j 0)).toNat) 0)), (Value.agg ((pwT 255).map eB).toArray), (v68 6), (Value.bool (whole (turnL (turnL (turnL la bb) j) ((logT 255).getD ((((turnL la bb).getD 0 0) ^^^ ((pwT 255).getD j 0)).toNat) 0)))), (z 109), (z 110), (z 111), (z 112)])))) ?_
   refine wpL.done ?_
   refine then_n ?_
   refine ⟨_, (j + 1), rfl, rfl, ⟨?_, ?_, ?_, ?_, ?_⟩, ?_⟩
   ·
    (try dsimp only)
    all_goals (omega)
   ·
    (try dsimp only)
    all_goals (exact fun j' h1_ h2_ x hx h => (Nat.lt_succ_iff_lt_or_eq.1 h2_).elim (fun h' => h3j j' h1_ h' x hx h) (fun e_ => by subst e_; exact third_no g8 (fun k hk he => .inr (.inr (.inr (Bool.eq_false_iff.1 c6)))) (by omega) x hx h))
   ·
    exact o58
   ·
    exact a20
   ·
    exact a24
   ·
    (try dsimp only)
    all_goals (omega)
  refine wpIn_exit ?_
  refine then_x (then_x (inb_e ?_))
  refine inb_n (then_n ?_)
  refine plain ?_
  refine wI (d_move rfl) ?_
  refine wI (n_add (a := bb) (b := 1) rfl rfl (by omega)) ?_
  refine wI (d_assign rfl) ?_
  refine wF ([u1, (zf33 1), (z 2), (z 3), (ptr pw 0), (ptr lg 0), (eN 255), (z 7), (eN a), (eN (bb + 1)), u55, (eN j), (z 12)] ++ (zs zf33 13 16 ++ [(eI (sing la)), (Value.bool (decide (0 ≤ sing la))), (zf33 31), (zf33 32), (eN a), (Value.bool (decide (a < 224)))] ++ (zs z 35 14 ++ [(zf57 49), (zf57 50), (eN bb), (eN (bb + 1))] ++ (zs zf57 53 6 ++ [(eN j), (Value.bool (decide (j < 224)))] ++ (zs z 61 52))))) ?_
  refine wpL.done ?_
  refine then_n ?_
  refine ⟨_, (bb + 1), rfl, rfl, ⟨?_, ?_, ?_, ?_, ?_⟩, ?_⟩
  ·
   (try dsimp only)
   all_goals (omega)
  ·
   (try dsimp only)
   all_goals (exact fun i hi j' h1_ h2_ x hx h => (Nat.lt_succ_iff_lt_or_eq.1 hi).elim (fun h' => h3 i h' j' h1_ h2_ x hx h) (fun e_ => by subst e_; exact h3j j' h1_ (by omega) x hx h))
  ·
   exact o51
  ·
   exact a20
  ·
   exact a24
  ·
   (try dsimp only)
   all_goals (omega)
 refine wpIn_exit ?_
 refine then_x (then_x (inb_e ?_))
 refine then_n ?_
 refine forget (fun zf77 => (zs zf77 0 6 ++ [(eN 255), (zf77 7), (eN a), (eN bb), (zf77 10), (z 11)] ++ (zs zf77 12 101))) (by kernel_rfl) (fun zf77 => ?_)
 refine wpIn_seq ?_
 refine plain ?_
 refine wI (d_assign rfl) ?_
 refine wI (d_assign rfl) ?_
 refine wF ([(zf77 0), (zf77 1), (Value.slice none 0 0), (Value.bool false), (zf77 4), (zf77 5), (eN 255), (zf77 7), (eN a), (eN bb), (zf77 10), (z 11)] ++ (zs zf77 12 101)) ?_
 refine wpL.done ?_
 refine then_n ?_
 refine wpIn_ret ?_
 refine leave0 (v := (Value.tuple #[(Value.slice none 0 0), (Value.bool false)])) (res2 Try.results76 rfl rfl) ?_
 exact ⟨[], false, PlacesOk.none g8 (by simp [c0]) hno1 (fun i hi => h2 i (by omega)) (fun i hi j h1_ h2_ x hx => h3 i (by omega) j h1_ h2_ x hx), RTb.of rfl rfl seq_nil oW⟩

set_option maxRecDepth 20000 in
set_option maxHeartbeats 1000000 in
theorem ref4Decode_ok (la : List UInt8) (u1 : Value) (W : World) (h1 : Ps No (Seq kB la u1) W) (g1 : la.length ≤ 1048576) :
    CW Try.prog 46 #[u1] W (Rt (RDec (decD la) (decN la) (decB la) W)) := by
 have oW : Only No W W := Only.refl _ _
 refine enter (al := [u1]) (k := 55) (l := ([u1] ++ (us 55))) Try.func46 rfl Try.ntmps46 rfl rfl ?_
 refine wpIn_seq ?_
 refine plain ?_
 refine wI (d_assign rfl) ?_
 refine wI (d_assign rfl) ?_
 refine wI (d_assign rfl) ?_
 refine wF ([u1, undef, (Value.slice none 0 0), (eN 0), (Value.bool false)] ++ (us 51)) ?_
 refine wpL.done ?_
 refine then_n ?_
 refine wpIn_seq ?_
 refine wpIn_seq ?_
 refine plain ?_
 refine wI (d_move rfl) ?_
 refine wI (d_lenS rfl Try.underlying22 rfl h1) ?_
 refine wI (n_neq (a := la.length) (b := 28) rfl rfl rfl) ?_
 refine wF ([u1, undef, (Value.slice none 0 0), (eN 0), (Value.bool false), undef, undef, undef, undef, u1, (eN la.length), (Value.bool (!decide (la.length = 28)))] ++ (us 44)) ?_
 refine wpL.done ?_
 refine then_n ?_
 refine cond_un rfl (fun c0 => ?_) (fun c0 => ?_)
 ·
  refine wpIn_seq ?_
  refine plain ?_
  refine wI (d_assign rfl) ?_
  refine wI (d_assign rfl) ?_
  refine wI (d_assign rfl) ?_
  refine wF ([u1, undef, (Value.slice none 0 0), (eN 0), (Value.bool false), undef, undef, undef, undef, u1, (eN la.length), (Value.bool (!decide (la.length = 28)))] ++ (us 44)) ?_
  refine wpL.done ?_
  refine then_n ?_
  refine wpIn_ret ?_
  refine then_r ?_
  refine leave0 (v := (Value.tuple #[(Value.slice none 0 0), (eN 0), (Value.bool false)])) (res3 Try.results46 rfl rfl rfl) ?_
  exact RDec.of (dec_bad c0) seq_nil oW
 refine wpIn_skip ?_
 refine then_n ?_
 refine wpIn_seq ?_
 refine plain ?_
 refine wI (d_move rfl) ?_
 refine wO (d_call (xl := [.tmp 13]) (al := [u1]) Try.func77 (by kernel_rfl) rfl rfl rfl (ref4Syn_ok la u1 _ (Ps.no h1) (by first | omega | (simp; done) | (simp; omega)))) ?_
 rintro u13 w11 f14
 replace f14 := f14.ps
 obtain ⟨f14, o12⟩ := f14
 replace f14 := f14.less (Y := (Old W.heap.size)) (old_old oW.size)
 replace h1 := h1.step0 o12
 replace oW := oW.tail0 o12
 refine wO (d_call (xl := [.tmp 14]) (al := [u13]) Try.func76 (by kernel_rfl) rfl rfl rfl (ref4Places_ok (synR la) u13 _ (Ps.no f14) (by rw [synR_yes c0, sumsL_length]))) ?_
 rintro _ w15 ⟨L_, b_, hP_, a_, rfl, f17, o16⟩
 replace f17 := f17.less (Y := (Old W.heap.size)) (old_old oW.size)
 replace h1 := h1.step0 o16
 replace f14 := f14.step0 o16
 replace oW := oW.tail0 o16
 refine wF ([u1, undef, (Value.slice none 0 0), (eN 0), (Value.bool false), undef, undef, undef, undef, u1, (eN la.length), (Value.bool (!decide (la.length = 28))), undef, u1, u13, (Value.tuple #[a_, (Value.bool b_)])] ++ (us 40)) ?_
 refine wI (d_move rfl) ?_
 refine wI (d_extract (v := a_) rfl rfl) ?_
 refine wI (d_extract (v := (Value.bool b_)) rfl rfl) ?_
 refine wF ([u1, undef, (Value.slice none 0 0), (eN 0), (Value.bool false), undef, undef, undef, undef, u1, (eN la.length), (Value.bool (!decide (la.length = 28))), (Value.tuple #[a_, (Value.bool b_)]), u1, u13, (Value.tuple #[a_, (Value.bool b_)]), a_, (Value.bool b_)] ++ (us 38)) ?_
 refine wI (d_assign rfl) ?_
 refine wI (d_assign rfl) ?_
 refine wF ([u1, undef, (Value.slice none 0 0), (eN 0), (Value.bool false), a_, (Value.bool b_), undef, undef, u1, (eN la.length), (Value.bool (!decide (la.length = 28))), (Value.tuple #[a_, (Value.bool b_)]), u1, u13, (Value.tuple #[a_, (Value.bool b_)]), a_, (Value.bool b_)] ++ (us 38)) ?_
 refine wpL.done ?_
 rw [synR_yes c0] at hP_
 have hL_ := places_lt hP_
 refine then_n ?_
 refine forget (fun zf18 => ([u1, (zf18 1), (zf18 2), (zf18 3), (zf18 4), a_, (Value.bool b_), (zf18 7), undef] ++ (zs zf18 9 20 ++ (us 23 ++ [(zf18 52), (zf18 53), (zf18 54), (zf18 55)])))) (by kernel_rfl) (fun zf18 => ?_)
 refine wpIn_seq ?_
 refine wpIn_seq ?_
 refine plain ?_
 refine wI (d_move rfl) ?_
 refine wI (d_not rfl rfl) ?_
 refine wF ([u1, (zf18 1), (zf18 2), (zf18 3), (zf18 4), a_, (Value.bool b_), (zf18 7), undef] ++ (zs zf18 9 9 ++ [(Value.bool b_), (Value.bool (!b_))] ++ (zs zf18 20 9 ++ (us 23 ++ [(zf18 52), (zf18 53), (zf18 54), (zf18 55)])))) ?_
 refine wpL.done ?_
 refine then_n ?_
 refine cond_b rfl (fun c1 => ?_) (fun c1 => ?_)
 ·
  refine wpIn_seq ?_
  refine plain ?_
  refine wI (d_assign rfl) ?_
  refine wI (d_assign rfl) ?_
  refine wI (d_assign rfl) ?_
  refine wF ([u1, (zf18 1), (Value.slice none 0 0), (eN 0), (Value.bool false), a_, (Value.bool b_), (zf18 7), undef] ++ (zs zf18 9 9 ++ [(Value.bool b_), (Value.bool (!b_))] ++ (zs zf18 20 9 ++ (us 23 ++ [(zf18 52), (zf18 53), (zf18 54), (zf18 55)])))) ?_
  refine wpL.done ?_
  refine then_n ?_
  refine wpIn_ret ?_
  refine then_r ?_
  refine leave0 (v := (Value.tuple #[(Value.slice none 0 0), (eN 0), (Value.bool false)])) (res3 Try.results46 rfl rfl rfl) ?_
  have hf_ : b_ = false := by simpa using c1
  rw [hf_] at hP_
  exact RDec.of (places_no c0 hP_) seq_nil oW
 have hb_ : b_ = true := by simpa using c1
 rw [hb_] at hP_
 refine wpIn_skip ?_
 refine then_n ?_
 refine wpIn_seq ?_
 refine plain ?_
 refine wO (d_buildL (cs := []) Try.underlying22 s_ti5 rfl (nb rfl) parts_nil rfl) ?_
 rintro _ w20 ⟨b19, rfl, g21, a22, o23⟩
 replace a22 : Arr 5 b19 (([] : List UInt8).map eB) w20 := a22
 have l_b19 : ([] : List UInt8).length = 0 := rfl
 have g_oW_b19 : W.heap.size ≤ b19 := Nat.le_trans oW.size g21
 replace h1 := h1.new o23 g21
 replace f14 := f14.new o23 g21
 replace f17 := f17.new o23 g21
 replace oW := oW.tail0 o23
 refine wI (d_move rfl) ?_
 have a24 := Ow.of_map2 a22 l_b19
 have q_oW_o : Fr (some b19) none W.heap.size := Fr.new g_oW_b19
 replace h1 := h1.less (Y := (Orq (some b19) No)) (xx_br xx_id)
 replace f14 := f14.less (Y := (Orq (some b19) (Old W.heap.size))) (xx_br xx_id)
 replace f17 := f17.less (Y := (Orq (some b19) (Old W.heap.size))) (xx_br xx_id)
 refine wO (d_append Try.underlying22 Try.underlying22 s_ti5 rfl rfl rfl a24 (SrcV.of_seq h1 (fun _ => rfl)) (by simp; omega) (by simp; omega) rfl) ?_
 rintro u25 w26 ⟨bo27, a28, o29, q30⟩
 replace a28 : Ow 5 1 bo27 u25 (la).length ((la).map eB) w26 := by simpa using a28
 replace h1 := h1.gr o29 (fun k e => (.inl e)) (xx_re (Fr.of_or q30) xx_id)
 replace f14 := f14.gr o29 (fun k e => (.inl e)) (xx_re (Fr.of_or q30) xx_id)
 replace f17 := f17.gr o29 (fun k e => (.inl e)) (xx_re (Fr.of_or q30) xx_id)
 have tq := oW.size
 replace oW := oW.tailr o29 q_oW_o (fun _ e => by cases e)
 replace q_oW_o := qtr (Fr.of_or q30) q_oW_o tq
 clear tq
 refine wF ([u1, (zf18 1), (zf18 2), (zf18 3), (zf18 4), a_, (Value.bool b_), (zf18 7), undef] ++ (zs zf18 9 9 ++ [(Value.bool b_), (Value.bool (!b_)), (sli b19 0 0 0), u1, u25] ++ (zs zf18 23 6 ++ (us 23 ++ [(zf18 52), (zf18 53), (zf18 54), (zf18 55)])))) ?_
 refine wI (d_assign rfl) ?_
 refine wF ([u1, (zf18 1), (zf18 2), (zf18 3), (zf18 4), a_, (Value.bool b_), u25, undef] ++ (zs zf18 9 9 ++ [(Value.bool b_), (Value.bool (!b_)), (sli b19 0 0 0), u1, u25] ++ (zs zf18 23 6 ++ (us 23 ++ [(zf18 52), (zf18 53), (zf18 54), (zf18 55)])))) ?_
 refine wpL.done ?_
 refine then_n ?_
 refine wpIn_seq ?_
 refine wpIn_seq ?_
 refine plain ?_
 refine wI (d_assign rfl) ?_
 refine wF ([u1, (zf18 1), (zf18 2), (zf18 3), (zf18 4), a_, (Value.bool b_), u25, (eN 0)] ++ (zs zf18 9 9 ++ [(Value.bool b_), (Value.bool (!b_)), (sli b19 0 0 0), u1, u25] ++ (zs zf18 23 6 ++ (us 23 ++ [(zf18 52), (zf18 53), (zf18 54), (zf18 55)])))) ?_
 refine wpL.done ?_
 refine then_n ?_
 refine wpIn_block ?_
 refine loop2 (fun (i : (Nat)) => fun (z : Nat → Value) => (([u1, (zf18 1), (zf18 2), (zf18 3), (zf18 4), a_, (Value.bool b_), u25, (eN i)] ++ (zs zf18 9 9 ++ [(Value.bool b_), (Value.bool (!b_)), (sli b19 0 0 0), u1, u25] ++ (zs z 23 29 ++ [(zf18 52), (zf18 53), (zf18 54), (zf18 55)]))) : List Value)) (fun (i : (Nat)) => fun (w_ : World) => (i ≤ L_.length) ∧ Only (Orq bo27 No) w26 w_ ∧ Ow 5 1 bo27 u25 (flipL la (L_.take i)).length ((flipL la (L_.take i)).map eB) w_) (fun (i : (Nat)) => L_.length - i) 0 rfl ?_ ?_
 ·
  refine ⟨?_, ?_, ?_⟩
  ·
   exact Nat.zero_le _
  ·
   exact Only.refl _ _
  ·
   exact a28
 rintro i z w32 ⟨hi, o31, a28⟩
 (try dsimp only)
 replace h1 := h1.step o31 (orq_mono no_any)
 replace f14 := f14.step o31 (orq_mono no_any)
 replace f17 := f17.step o31 (orq_mono no_any)
 replace oW := oW.tail o31 (tl_q q_oW_o (fun _ e => by cases e) tl_no)
 have q_o31_o : Fr bo27 bo27 w26.heap.size := Fr.same
 refine wpIn_seq ?_
 refine wpIn_seq ?_
 refine plain ?_
 refine wI (d_move rfl) ?_
 refine wI (d_move rfl) ?_
 refine wI (d_lenS rfl Try.underlying23 rfl f17) ?_
 refine wF ([u1, (zf18 1), (zf18 2), (zf18 3), (zf18 4), a_, (Value.bool b_), u25, (eN i)] ++ (zs zf18 9 9 ++ [(Value.bool b_), (Value.bool (!b_)), (sli b19 0 0 0), u1, u25, (eN i), a_, (eN L_.length)] ++ (zs z 26 26 ++ [(zf18 52), (zf18 53), (zf18 54), (zf18 55)]))) ?_
 refine wI (n_lss (a := i) (b := L_.length) rfl rfl rfl) ?_
 refine wF ([u1, (zf18 1), (zf18 2), (zf18 3), (zf18 4), a_, (Value.bool b_), u25, (eN i)] ++ (zs zf18 9 9 ++ [(Value.bool b_), (Value.bool (!b_)), (sli b19 0 0 0), u1, u25, (eN i), a_, (eN L_.length), (Value.bool (decide (i < L_.length)))] ++ (zs z 27 25 ++ [(zf18 52), (zf18 53), (zf18 54), (zf18 55)]))) ?_
 refine wpL.done ?_
 refine then_n ?_
 refine cond_if rfl (fun c2 => ?_) (fun c2 => ?_)
 ·
  refine wpIn_skip ?_
  refine then_n ?_
  refine wpIn_seq ?_
  refine wpIn_block ?_
  have hx_ := getD_lt hL_.1 c2
  have hl_ := flipL_length la (L_.take i)
  refine drawn_last (O := (Isq bo27)) (m := 23) (R := fun w_ => Ow 5 1 bo27 u25 ((flipL la (L_.take i)).set ((L_.getD i 0) / 8) (((flipL la (L_.take i)).getD ((L_.getD i 0) / 8) 0) ^^^ (shlB 1 ((L_.getD i 0) % 8)))).length (((flipL la (L_.take i)).set ((L_.getD i 0) / 8) (((flipL la (L_.take i)).getD ((L_.getD i 0) / 8) 0) ^^^ (shlB 1 ((L_.getD i 0) % 8)))).map eB) w_) [0, 0, 0, 6, 14, 30, 0, 0, 0, 384, 896, 1920, 4032, 8128, 0, 0, 49152, 114688, 245760, 507904, 1032192, 2097088, 4194303, 8388607] [(0, 29), (1, 30), (2, 31), (3, 32), (4, 33), (5, 34), (6, 35), (7, 36), (8, 37), (9, 38), (10, 39), (11, 40), (12, 41), (13, 42), (14, 43), (15, 44), (16, 45), (17, 46), (18, 47), (19, 48), (20, 49), (21, 50), (22, 51)] [u25, a_, (eN i), (ixp a_ i), (eN (L_.getD i 0)), (eN ((L_.getD i 0) / 8)), u25, a_, (eN i), (ixp a_ i), (eN (L_.getD i 0)), (eN ((L_.getD i 0) / 8)), (ixp u25 ((L_.getD i 0) / 8)), (eB ((flipL la (L_.take i)).getD ((L_.getD i 0) / 8) 0)), a_, (eN i), (ixp a_ i), (eN (L_.getD i 0)), (eN ((L_.getD i 0) % 8)), (Value.int .u64 (((L_.getD i 0) % 8 : Nat) : Int)), (eB (shlB 1 ((L_.getD i 0) % 8))), (eB (((flipL la (L_.take i)).getD ((L_.getD i 0) / 8) 0) ^^^ (shlB 1 ((L_.getD i 0) % 8)))), (ixp u25 ((L_.getD i 0) / 8))] ([u1, (zf18 1), (zf18 2), (zf18 3), (zf18 4), a_, (Value.bool b_), u25, (eN i)] ++ (zs zf18 9 9 ++ [(Value.bool b_), (Value.bool (!b_)), (sli b19 0 0 0), u1, u25, (eN i), a_, (eN L_.length), (Value.bool (decide (i < L_.length))), (z 27), (z 28), u25, a_, (eN i), (ixp a_ i), (eN (L_.getD i 0)), (eN ((L_.getD i 0) / 8)), u25, a_, (eN i), (ixp a_ i), (eN (L_.getD i 0)), (eN ((L_.getD i 0) / 8)), (ixp u25 ((L_.getD i 0) / 8)), (eB ((flipL la (L_.take i)).getD ((L_.getD i 0) / 8) 0)), a_, (eN i), (ixp a_ i), (eN (L_.getD i 0)), (eN ((L_.getD i 0) % 8)), (Value.int .u64 (((L_.getD i 0) % 8 : Nat) : Int)), (eB (shlB 1 ((L_.getD i 0) % 8))), (eB (((flipL la (L_.take i)).getD ((L_.getD i 0) / 8) 0) ^^^ (shlB 1 ((L_.getD i 0) % 8)))), (ixp u25 ((L_.getD i 0) / 8)), (zf18 52), (zf18 53), (zf18 54), (zf18 55)])) s_mx (by kernel_rfl) (by kernel_rfl) rfl rfl (by decide) (by kernel_rfl) (by kernel_rfl) ?_ (fun _ _ h_ ho_ => h_.step0 ho_) ⟨_, rfl, rfl, fun w_ hO_ => gd rfl ((d_stx (i := ((L_.getD i 0) / 8)) (xs := (flipL la (L_.take i))) (enc := eB) (v := (((flipL la (L_.take i)).getD ((L_.getD i 0) / 8) 0) ^^^ (shlB 1 ((L_.getD i 0) % 8)))) s_ti5 rfl rfl rfl (a28.step0 hO_) (by have := flipL_length la (L_.take i); first | omega | (simp; done) | (simp; omega)) rfl).mono fun u_ w2_ h_ => ⟨h_.2, h_.1⟩)⟩ ?_
  ·
   intro w_ hO_
   refine AllG.cons (gi rfl (d_move rfl)) ?_
   refine AllG.cons (gi rfl (d_move rfl)) ?_
   refine AllG.cons (gi rfl (d_move rfl)) ?_
   refine AllG.cons (gi rfl (d_ix (i := i) (xs := L_) Try.underlying23 s_ti3 rfl (f17.step0 hO_) (show _ = Value.int _ ((i : Nat) : Int) from rfl) (by first | omega | (simp; done) | (simp; omega)))) ?_
   refine AllG.cons (gi rfl (d_ldx (i := i) (xs := L_) (enc := eN) (v := (L_.getD i 0)) ⟨_, Try.underlying3, rfl⟩ rfl (f17.step0 hO_) (g_at (by first | omega | (simp; done) | (simp; omega))))) ?_
   refine AllG.cons (gi rfl (n_quo (a := (L_.getD i 0)) (b := 8) rfl rfl (by decide) (by omega))) ?_
   refine AllG.cons (gi rfl (d_move rfl)) ?_
   refine AllG.cons (gi rfl (d_move rfl)) ?_
   refine AllG.cons (gi rfl (d_move rfl)) ?_
   refine AllG.cons (gi rfl (d_ix (i := i) (xs := L_) Try.underlying23 s_ti3 rfl (f17.step0 hO_) (show _ = Value.int _ ((i : Nat) : Int) from rfl) (by first | omega | (simp; done) | (simp; omega)))) ?_
   refine AllG.cons (gi rfl (d_ldx (i := i) (xs := L_) (enc := eN) (v := (L_.getD i 0)) ⟨_, Try.underlying3, rfl⟩ rfl (f17.step0 hO_) (g_at (by first | omega | (simp; done) | (simp; omega))))) ?_
   refine AllG.cons (gi rfl (n_quo (a := (L_.getD i 0)) (b := 8) rfl rfl (by decide) (by omega))) ?_
   refine AllG.cons (gi rfl (d_ix (i := ((L_.getD i 0) / 8)) (xs := (flipL la (L_.take i))) Try.underlying22 s_ti5 rfl ((a28.step0 hO_).seq (X := No) (fun _ _ h => h)) (show _ = Value.int _ (((L_.getD i 0) / 8 : Nat) : Int) from rfl) (by have := flipL_length la (L_.take i); first | omega | (simp; done) | (simp; omega)))) ?_
   refine AllG.cons (gi rfl (d_ldx (i := ((L_.getD i 0) / 8)) (xs := (flipL la (L_.take i))) (enc := eB) (v := ((flipL la (L_.take i)).getD ((L_.getD i 0) / 8) 0)) ⟨_, Try.underlying5, rfl⟩ rfl ((a28.step0 hO_).seq (X := No) (fun _ _ h => h)) (g_at (by have := flipL_length la (L_.take i); first | omega | (simp; done) | (simp; omega))))) ?_
   refine AllG.cons (gi rfl (d_move rfl)) ?_
   refine AllG.cons (gi rfl (d_move rfl)) ?_
   refine AllG.cons (gi rfl (d_ix (i := i) (xs := L_) Try.underlying23 s_ti3 rfl (f17.step0 hO_) (show _ = Value.int _ ((i : Nat) : Int) from rfl) (by first | omega | (simp; done) | (simp; omega)))) ?_
   refine AllG.cons (gi rfl (d_ldx (i := i) (xs := L_) (enc := eN) (v := (L_.getD i 0)) ⟨_, Try.underlying3, rfl⟩ rfl (f17.step0 hO_) (g_at (by first | omega | (simp; done) | (simp; omega))))) ?_
   refine AllG.cons (gi rfl (n_rem (a := (L_.getD i 0)) (b := 8) rfl rfl (by decide))) ?_
   refine AllG.cons (gi rfl (n_toU Try.underlying3 Try.underlying66 rfl (by omega))) ?_
   refine AllG.cons (gi rfl (b_shl (a := ((L_.getD i 0) % 8)) rfl rfl (by omega))) ?_
   refine AllG.cons (gi rfl (b_xor (c := ((flipL la (L_.take i)).getD ((L_.getD i 0) / 8) 0)) (e := (shlB 1 ((L_.getD i 0) % 8))) rfl rfl)) ?_
   refine AllG.cons (gi rfl (d_ix (i := ((L_.getD i 0) / 8)) (xs := (flipL la (L_.take i))) Try.underlying22 s_ti5 rfl ((a28.step0 hO_).seq (X := No) (fun _ _ h => h)) (show _ = Value.int _ (((L_.getD i 0) / 8 : Nat) : Int) from rfl) (by have := flipL_length la (L_.take i); first | omega | (simp; done) | (simp; omega)))) ?_
   exact AllG.nil
  intro w33 o34 a35
  replace h1 := h1.gr o34 (fun k e => (.inl e)) (xx_re Fr.same xx_id)
  replace f14 := f14.gr o34 (fun k e => (.inl e)) (xx_re Fr.same xx_id)
  replace f17 := f17.gr o34 (fun k e => (.inl e)) (xx_re Fr.same xx_id)
  have tq := oW.size
  replace oW := oW.tailr o34 q_oW_o (fun _ e => by cases e)
  replace q_oW_o := qtr Fr.same q_oW_o tq
  clear tq
  have tq := o31.size
  replace o31 := o31.tailr o34 q_o31_o (fun k e => (.inl e))
  replace q_o31_o := qtr Fr.same q_o31_o tq
  clear tq
  refine inb_n (then_n ?_)
  refine plain ?_
  refine wI (d_move rfl) ?_
  refine wI (n_add (a := i) (b := 1) rfl rfl (by omega)) ?_
  refine wI (d_assign rfl) ?_
  refine wF ([u1, (zf18 1), (zf18 2), (zf18 3), (zf18 4), a_, (Value.bool b_), u25, (eN (i + 1))] ++ (zs zf18 9 9 ++ [(Value.bool b_), (Value.bool (!b_)), (sli b19 0 0 0), u1, u25, (eN i), a_, (eN L_.length), (Value.bool (decide (i < L_.length))), (eN i), (eN (i + 1)), u25, a_, (eN i), (ixp a_ i), (eN (L_.getD i 0)), (eN ((L_.getD i 0) / 8)), u25, a_, (eN i), (ixp a_ i), (eN (L_.getD i 0)), (eN ((L_.getD i 0) / 8)), (ixp u25 ((L_.getD i 0) / 8)), (eB ((flipL la (L_.take i)).getD ((L_.getD i 0) / 8) 0)), a_, (eN i), (ixp a_ i), (eN (L_.getD i 0)), (eN ((L_.getD i 0) % 8)), (Value.int .u64 (((L_.getD i 0) % 8 : Nat) : Int)), (eB (shlB 1 ((L_.getD i 0) % 8))), (eB (((flipL la (L_.take i)).getD ((L_.getD i 0) / 8) 0) ^^^ (shlB 1 ((L_.getD i 0) % 8)))), (ixp u25 ((L_.getD i 0) / 8)), (zf18 52), (zf18 53), (zf18 54), (zf18 55)])) ?_
  refine wpL.done ?_
  refine then_n ?_
  refine ⟨_, (i + 1), rfl, rfl, ⟨?_, ?_, ?_⟩, ?_⟩
  ·
   (try dsimp only)
   all_goals (omega)
  ·
   exact o31
  ·
   (try dsimp only)
   all_goals (rw [flip_next la c2] at a35; exact a35)
  ·
   (try dsimp only)
   all_goals (omega)
 refine wpIn_exit ?_
 refine then_x (then_x (inb_e ?_))
 refine then_n ?_
 refine forget (fun zf36 => (zs zf36 0 5 ++ [a_, (zf36 6), u25, (eN i)] ++ (zs zf36 9 47))) (by kernel_rfl) (fun zf36 => ?_)
 refine wpIn_seq ?_
 have hl_ := flipL_length la (L_.take i)
 have f37 : Ps (Old W.heap.size) (Seq kB (flipL la (L_.take i)) u25) w32 := Ow.seq a28 (fun b_ hb_ => (old_q q_oW_o b_ hb_))
 replace h1 := Ps.less (Y := No) h1 (xx_skip xx_id)
 replace f14 := Ps.less (Y := (Old W.heap.size)) f14 (xx_skip xx_id)
 replace f17 := Ps.less (Y := (Old W.heap.size)) f17 (xx_skip xx_id)
 refine plain ?_
 refine wI (d_move rfl) ?_
 refine wO (d_sliceS (xs := (flipL la (L_.take i))) (ys := ((flipL la (L_.take i)).drop 4)) (l := 4) (h := ((flipL la (L_.take i)).length)) Try.underlying22 s_ti5 rfl f37 (Bd.some (l := 4) (k := .i64) rfl) Bd.none (by omega) (by omega) (by simp)) ?_
 rintro u38 _ ⟨f39, rfl⟩
 refine wI (d_move rfl) ?_
 refine wF (zs zf36 0 5 ++ [a_, (zf36 6), u25, (eN i)] ++ (zs zf36 9 43 ++ [u25, u38, a_, (zf36 55)])) ?_
 refine wI (d_lenS rfl Try.underlying23 rfl f17) ?_
 refine wI (d_assign rfl) ?_
 refine wI (d_assign rfl) ?_
 refine wF ([(zf36 0), (zf36 1), u38, (eN L_.length), (zf36 4), a_, (zf36 6), u25, (eN i)] ++ (zs zf36 9 43 ++ [u25, u38, a_, (eN L_.length)])) ?_
 refine wI (d_assign rfl) ?_
 refine wF ([(zf36 0), (zf36 1), u38, (eN L_.length), (Value.bool true), a_, (zf36 6), u25, (eN i)] ++ (zs zf36 9 43 ++ [u25, u38, a_, (eN L_.length)])) ?_
 refine wpL.done ?_
 refine then_n ?_
 refine wpIn_ret ?_
 refine leave0 (v := (Value.tuple #[u38, (eN L_.length), (Value.bool true)])) (res3 Try.results46 rfl rfl rfl) ?_
 have ht_ : L_.take i = L_ := by rw [show i = L_.length by omega]; exact List.take_length
 rw [ht_] at f39
 exact RDec.of (places_yes c0 hP_) (f39.less xx_id) oW

end Go.Proofs.YtgalehapmdabeaaF
