import Derived.Test.YtpamdlnobekihaaFp
import Derived.Test.YtpamdlnobekihaaTy
import Derived.Test.YtpamdlnobekihaaHnand
import Derived.Test.YtpamdlnobekihaaNn
set_option linter.unusedVariables false
set_option linter.unusedSimpArgs false
namespace Go.Proofs.YtpamdlnobekihaaF
open Go Go.Shelf Go.Proofs.YtpamdlnobekihaaS Ram
set_option maxRecDepth 20000 in
set_option maxHeartbeats 1000000 in
theorem law7Within_ok (a : Int) (m : Nat) (W : World) (hm : 0 < m) (hm2 : m ≤ 1000000) :
    CW Try.prog 12 #[(eI a), (eN m)] W (Rt (RIs (eN (a % (m : Int)).toNat) W)) := by
 have oW : Only No W W := Only.refl _ _
 refine enter (al := [(eI a), (eN m)]) (k := 13) (l := ([(eI a), (eN m)] ++ (us 13))) Try.func12 rfl Try.ntmps12 rfl rfl ?_
 refine wpIn_seq ?_
 refine plain ?_
 refine wI (d_assign rfl) ?_
 refine wF ([(eI a), (eN m), undef, undef, (eN 0)] ++ (us 10)) ?_
 refine wpL.done ?_
 refine then_n ?_
 refine wpIn_seq ?_
 refine plain ?_
 refine wI (d_move rfl) ?_
 refine wI (d_move rfl) ?_
 refine wI (d_rem (k := .i64) (m := a) (n := ((m : Nat) : Int)) rfl rfl (by omega) (r := Int.tmod a (m : Int)) rfl) ?_
 refine wF ([(eI a), (eN m), undef, undef, (eN 0), undef, (eI a), (eN m), (eI (Int.tmod a (m : Int)))] ++ (us 6)) ?_
 refine wI (d_assign rfl) ?_
 refine wF ([(eI a), (eN m), undef, undef, (eN 0), (eI (Int.tmod a (m : Int))), (eI a), (eN m), (eI (Int.tmod a (m : Int)))] ++ (us 6)) ?_
 refine wpL.done ?_
 refine then_n ?_
 refine wpIn_seq ?_
 refine wpIn_seq ?_
 refine plain ?_
 refine wI (d_move rfl) ?_
 refine wI (d_lss (k := .i64) (m := Int.tmod a (m : Int)) (n := 0) rfl rfl rfl) ?_
 refine wF [(eI a), (eN m), undef, undef, (eN 0), (eI (Int.tmod a (m : Int))), (eI a), (eN m), (eI (Int.tmod a (m : Int))), (eI (Int.tmod a (m : Int))), (Value.bool (decide (Int.tmod a (m : Int) < 0))), undef, undef, undef, undef] ?_
 refine wpL.done ?_
 refine then_n ?_
 refine cond_if rfl (fun k1 => ?_) (fun k1 => ?_)
 ·
  refine plain ?_
  refine wI (d_move rfl) ?_
  refine wI (d_move rfl) ?_
  refine wI (d_add (k := .i64) (m := Int.tmod a (m : Int)) (n := ((m : Nat) : Int)) rfl rfl (r := (((a % (m : Int)).toNat : Nat) : Int)) (tmm_neg hm hm2 k1)) ?_
  refine wF [(eI a), (eN m), undef, undef, (eN 0), (eI (Int.tmod a (m : Int))), (eI a), (eN m), (eI (Int.tmod a (m : Int))), (eI (Int.tmod a (m : Int))), (Value.bool (decide (Int.tmod a (m : Int) < 0))), (eI (Int.tmod a (m : Int))), (eN m), (eN ((a % (m : Int)).toNat)), undef] ?_
  refine wI (d_assign rfl) ?_
  refine wF [(eI a), (eN m), undef, undef, (eN 0), (eN ((a % (m : Int)).toNat)), (eI a), (eN m), (eI (Int.tmod a (m : Int))), (eI (Int.tmod a (m : Int))), (Value.bool (decide (Int.tmod a (m : Int) < 0))), (eI (Int.tmod a (m : Int))), (eN m), (eN ((a % (m : Int)).toNat)), undef] ?_
  refine wpL.done ?_
  refine then_n ?_
  refine wpIn_seq ?_
  refine plain ?_
  refine wI (d_move rfl) ?_
  refine wI (d_assign rfl) ?_
  refine wF [(eI a), (eN m), undef, undef, (eN ((a % (m : Int)).toNat)), (eN ((a % (m : Int)).toNat)), (eI a), (eN m), (eI (Int.tmod a (m : Int))), (eI (Int.tmod a (m : Int))), (Value.bool (decide (Int.tmod a (m : Int) < 0))), (eI (Int.tmod a (m : Int))), (eN m), (eN ((a % (m : Int)).toNat)), (eN ((a % (m : Int)).toNat))] ?_
  refine wpL.done ?_
  refine then_n ?_
  refine wpIn_ret ?_
  refine leave0 (v := (eN ((a % (m : Int)).toNat))) (res1 Try.results12 rfl) ?_
  exact ⟨rfl, oW⟩
 refine wp_eq (l' := [(eI a), (eN m), undef, undef, (eN 0), (eN ((a % (m : Int)).toNat)), (eI a), (eN m), (eN ((a % (m : Int)).toNat)), (eN ((a % (m : Int)).toNat)), (Value.bool (decide (Int.tmod a (m : Int) < 0))), undef, undef, undef, undef]) (Eq.trans (Eq.trans (show ([(eI a), (eN m), undef, undef, (eN 0), (eI (Int.tmod a (m : Int))), (eI a), (eN m), (eI (Int.tmod a (m : Int))), (eI (Int.tmod a (m : Int))), (Value.bool (decide (Int.tmod a (m : Int) < 0))), undef, undef, undef, undef] : List Value) = [(eI a), (eN m), undef, undef, (eN 0), (eN ((a % (m : Int)).toNat)), (eI a), (eN m), (eI (Int.tmod a (m : Int))), (eI (Int.tmod a (m : Int))), (Value.bool (decide (Int.tmod a (m : Int) < 0))), undef, undef, undef, undef] from reslot [(eI a), (eN m), undef, undef, (eN 0), (eI (Int.tmod a (m : Int))), (eI a), (eN m), (eI (Int.tmod a (m : Int))), (eI (Int.tmod a (m : Int))), (Value.bool (decide (Int.tmod a (m : Int) < 0))), undef, undef, undef, undef] 5 (tmm_pos hm k1)) (show ([(eI a), (eN m), undef, undef, (eN 0), (eN ((a % (m : Int)).toNat)), (eI a), (eN m), (eI (Int.tmod a (m : Int))), (eI (Int.tmod a (m : Int))), (Value.bool (decide (Int.tmod a (m : Int) < 0))), undef, undef, undef, undef] : List Value) = [(eI a), (eN m), undef, undef, (eN 0), (eN ((a % (m : Int)).toNat)), (eI a), (eN m), (eN ((a % (m : Int)).toNat)), (eI (Int.tmod a (m : Int))), (Value.bool (decide (Int.tmod a (m : Int) < 0))), undef, undef, undef, undef] from reslot [(eI a), (eN m), undef, undef, (eN 0), (eN ((a % (m : Int)).toNat)), (eI a), (eN m), (eI (Int.tmod a (m : Int))), (eI (Int.tmod a (m : Int))), (Value.bool (decide (Int.tmod a (m : Int) < 0))), undef, undef, undef, undef] 8 (tmm_pos hm k1))) (show ([(eI a), (eN m), undef, undef, (eN 0), (eN ((a % (m : Int)).toNat)), (eI a), (eN m), (eN ((a % (m : Int)).toNat)), (eI (Int.tmod a (m : Int))), (Value.bool (decide (Int.tmod a (m : Int) < 0))), undef, undef, undef, undef] : List Value) = [(eI a), (eN m), undef, undef, (eN 0), (eN ((a % (m : Int)).toNat)), (eI a), (eN m), (eN ((a % (m : Int)).toNat)), (eN ((a % (m : Int)).toNat)), (Value.bool (decide (Int.tmod a (m : Int) < 0))), undef, undef, undef, undef] from reslot [(eI a), (eN m), undef, undef, (eN 0), (eN ((a % (m : Int)).toNat)), (eI a), (eN m), (eN ((a % (m : Int)).toNat)), (eI (Int.tmod a (m : Int))), (Value.bool (decide (Int.tmod a (m : Int) < 0))), undef, undef, undef, undef] 9 (tmm_pos hm k1))) ?_
 refine wpIn_skip ?_
 refine then_n ?_
 refine wpIn_seq ?_
 refine plain ?_
 refine wI (d_move rfl) ?_
 refine wI (d_assign rfl) ?_
 refine wF [(eI a), (eN m), undef, undef, (eN ((a % (m : Int)).toNat)), (eN ((a % (m : Int)).toNat)), (eI a), (eN m), (eN ((a % (m : Int)).toNat)), (eN ((a % (m : Int)).toNat)), (Value.bool (decide (Int.tmod a (m : Int) < 0))), undef, undef, undef, (eN ((a % (m : Int)).toNat))] ?_
 refine wpL.done ?_
 refine then_n ?_
 refine wpIn_ret ?_
 refine leave0 (v := (eN ((a % (m : Int)).toNat))) (res1 Try.results12 rfl) ?_
 exact ⟨rfl, oW⟩

set_option maxRecDepth 20000 in
set_option maxHeartbeats 1000000 in
theorem law7Known_ok (W : World) :
    CW Try.prog 11 #[] W (Rt (RIs (.bool true) W)) := by
 have oW : Only No W W := Only.refl _ _
 refine enter (al := []) (k := 47) (l := (us 47)) Try.func11 rfl Try.ntmps11 rfl rfl ?_
 refine wpIn_seq ?_
 refine plain ?_
 refine wI (d_assign rfl) ?_
 refine wF ([(Value.bool false)] ++ (us 46)) ?_
 refine wpL.done ?_
 refine then_n ?_
 refine wpIn_seq ?_
 refine plain ?_
 refine wI (d_buildS (pl := [(0, 1), (1, 1), (2, 1)]) (zs := [(eN 0), (eN 0), (eN 0)]) (cs := [(eN 6), (eN 8), (eN 4)]) Try.underlying23 s_ti23 ⟨_, _, _, _, rfl, s_ti3, ⟨_, _, _, _, rfl, s_ti3, ⟨_, _, _, _, rfl, s_ti3, rfl⟩⟩⟩ rfl (parts_cons (vs := [(eN 6)]) (cells_of (v := (eN 6)) rfl rfl) (parts_cons (vs := [(eN 8)]) (cells_of (v := (eN 8)) rfl rfl) (parts_cons (vs := [(eN 4)]) (cells_of (v := (eN 4)) rfl rfl) parts_nil))) rfl) ?_
 refine wO (d_call (xl := [.tmp 7, .const (.slice none 0 0)]) (al := [(Value.agg #[(eN 6), (eN 8), (eN 4)]), (Value.slice none 0 0)]) Try.func13 (by kernel_rfl) rfl rfl rfl (new0_ok 6 8 4 _ (by omega) (by omega) (by omega))) ?_
 rintro _ w11 ⟨L13, rfl, ⟨a14, g15⟩, o12⟩
 have g_oW_L13 : ∀ k, L13.S k → W.heap.size ≤ k := fun k hk => Nat.le_trans oW.size (g15 k hk)
 replace a14 := a14.less (Y := No) no_old
 replace oW := oW.tail0 o12
 refine wI (d_move rfl) ?_
 refine wF ([(Value.bool false)] ++ (us 5 ++ [(Value.tuple #[(ptr L13.bN 0), (eN 0)]), (Value.agg #[(eN 6), (eN 8), (eN 4)]), (Value.tuple #[(ptr L13.bN 0), (eN 0)])] ++ (us 38))) ?_
 refine wI (d_extract (v := (ptr L13.bN 0)) rfl rfl) ?_
 refine wI (d_extract (v := (eN 0)) rfl rfl) ?_
 refine wI (d_assign rfl) ?_
 refine wF ([(Value.bool false), (ptr L13.bN 0), undef, undef, undef, undef, (Value.tuple #[(ptr L13.bN 0), (eN 0)]), (Value.agg #[(eN 6), (eN 8), (eN 4)]), (Value.tuple #[(ptr L13.bN 0), (eN 0)]), (ptr L13.bN 0), (eN 0)] ++ (us 36)) ?_
 refine wI (d_assign rfl) ?_
 refine wF ([(Value.bool false), (ptr L13.bN 0), (eN 0), undef, undef, undef, (Value.tuple #[(ptr L13.bN 0), (eN 0)]), (Value.agg #[(eN 6), (eN 8), (eN 4)]), (Value.tuple #[(ptr L13.bN 0), (eN 0)]), (ptr L13.bN 0), (eN 0)] ++ (us 36)) ?_
 refine wpL.done ?_
 refine then_n ?_
 refine wpIn_seq ?_
 refine wpIn_seq ?_
 refine plain ?_
 refine wI (d_move rfl) ?_
 refine wI (n_neq (a := 0) (b := 0) rfl rfl (by rw [decide_eq_true rfl] <;> rfl)) ?_
 refine wI (d_move rfl) ?_
 refine wF ([(Value.bool false), (ptr L13.bN 0), (eN 0), undef, undef, undef, (Value.tuple #[(ptr L13.bN 0), (eN 0)]), (Value.agg #[(eN 6), (eN 8), (eN 4)]), (Value.tuple #[(ptr L13.bN 0), (eN 0)]), (ptr L13.bN 0), (eN 0), (eN 0), (Value.bool false), (Value.bool false)] ++ (us 33)) ?_
 refine wpL.onis rfl rfl rfl (nb rfl) rfl (d_move rfl) ?_
 refine wpL.onis rfl rfl rfl (nb rfl) rfl (d_peql (b := L13.bN) (o := 0) Try.underlying27 rfl rfl) ?_
 refine wI (d_pick (b := false) (v := (Value.bool false)) rfl rfl) ?_
 refine wF ([(Value.bool false), (ptr L13.bN 0), (eN 0), undef, undef, undef, (Value.tuple #[(ptr L13.bN 0), (eN 0)]), (Value.agg #[(eN 6), (eN 8), (eN 4)]), (Value.tuple #[(ptr L13.bN 0), (eN 0)]), (ptr L13.bN 0), (eN 0), (eN 0), (Value.bool false), (Value.bool false), (ptr L13.bN 0), (Value.bool false), (Value.bool false)] ++ (us 30)) ?_
 refine wpL.done ?_
 refine then_n ?_
 refine forget (fun zf16 => ([(zf16 0), (ptr L13.bN 0)] ++ (zs zf16 2 14 ++ [(Value.bool false)] ++ (zs zf16 17 30)))) (by kernel_rfl) (fun zf16 => ?_)
 refine cond_f rfl ?_
 refine wpIn_skip ?_
 refine then_n ?_
 refine wpIn_seq ?_
 refine plain ?_
 refine wI (d_move rfl) ?_
 refine wO (d_make1 (n := 60) Try.underlying36 s_ti5 rfl rfl (by omega) (by omega) rfl) ?_
 rintro _ w17 ⟨o, rfl, g18, a19, o20⟩
 replace a19 : Arr 5 o ((List.replicate 60 0).map eB) w17 := by rw [List.map_replicate]; exact a19
 have l_o : (List.replicate 60 0 : List UInt8).length = 60 := by simp
 have g_oW_o : W.heap.size ≤ o := Nat.le_trans oW.size g18
 replace a14 := a14.new o20 g18
 replace oW := oW.tail0 o20
 refine wO (d_call (xl := [.tmp 17, .const (.int .i64 0), .const (.int .i64 0), .const (.int .i64 1), .tmp 18]) (al := [(ptr L13.bN 0), (eN 0), (eN 0), (eN 1), (sli o 0 60 60)]) Try.func20 (by kernel_rfl) rfl rfl rfl (prog_ok L13 (NS.new 6 8 4 (fun _ _ => false)) _ a14 ((0 : Nat) : Int) ((0 : Nat) : Int) ((1 : Nat) : Int) (List.replicate 60 0) (sli o 0 60 60) (lt_or1 a19.lt lt_no) (arr_keep a19 l_o (Nat.le_refl _) (nx_ors (a14.dis _ in1) (fun _ _ t => t.elim))) (by have := rep_len 60 0; first | omega | (simp; done) | (simp; omega)))) ?_
 rintro _ w21 ⟨rfl, a23, o22⟩
 replace a19 := a19.step o22 (a14.dis _ in1)
 replace oW := oW.tail o22 (fun k hk e => by have := g_oW_L13 k e; omega)
 replace a14 := a23
 refine wF ([(zf16 0), (ptr L13.bN 0)] ++ (zs zf16 2 14 ++ [(Value.bool false), (ptr L13.bN 0), (sli o 0 60 60), (eN ((NS.new 6 8 4 (fun _ _ => false)).progR ((0 : Nat) : Int) ((0 : Nat) : Int) ((1 : Nat) : Int) (List.replicate 60 0)))] ++ (zs zf16 20 27))) ?_
 refine wI (d_assign rfl) ?_
 refine wF ([(zf16 0), (ptr L13.bN 0), (zf16 2), (eN ((NS.new 6 8 4 (fun _ _ => false)).progR ((0 : Nat) : Int) ((0 : Nat) : Int) ((1 : Nat) : Int) (List.replicate 60 0)))] ++ (zs zf16 4 12 ++ [(Value.bool false), (ptr L13.bN 0), (sli o 0 60 60), (eN ((NS.new 6 8 4 (fun _ _ => false)).progR ((0 : Nat) : Int) ((0 : Nat) : Int) ((1 : Nat) : Int) (List.replicate 60 0)))] ++ (zs zf16 20 27))) ?_
 refine wpL.done ?_
 refine then_n ?_
 refine wpIn_seq ?_
 refine plain ?_
 refine wI (d_move rfl) ?_
 refine wO (d_call (xl := [.tmp 21, .const (.int .i64 0), .const (.int .i64 0), .const (.int .i64 0)]) (al := [(ptr L13.bN 0), (eN 0), (eN 0), (eN 0)]) Try.func21 (by kernel_rfl) rfl rfl rfl (read_ok L13 ((NS.new 6 8 4 (fun _ _ => false)).prog ((0 : Nat) : Int) ((0 : Nat) : Int) ((1 : Nat) : Int) (List.replicate 60 0)) _ a14 ((0 : Nat) : Int) ((0 : Nat) : Int) ((0 : Nat) : Int) (lt_or1 a19.lt lt_no))) ?_
 rintro _ w24 ⟨u26, rfl, f27, a28, o25⟩
 replace f27 := f27.less (Y := (Or1 o (Ors L13.S (Old W.heap.size)))) (or1_old a19.lt (ors_old a14.lt (old_old oW.size)))
 replace a19 := a19.step o25 (a14.dis _ in1)
 replace oW := oW.tail o25 (fun k hk e => by have := g_oW_L13 k e; omega)
 replace a14 := a28
 refine wI (d_move rfl) ?_
 refine wF ([(zf16 0), (ptr L13.bN 0), (zf16 2), (eN ((NS.new 6 8 4 (fun _ _ => false)).progR ((0 : Nat) : Int) ((0 : Nat) : Int) ((1 : Nat) : Int) (List.replicate 60 0)))] ++ (zs zf16 4 12 ++ [(Value.bool false), (ptr L13.bN 0), (sli o 0 60 60), (eN ((NS.new 6 8 4 (fun _ _ => false)).progR ((0 : Nat) : Int) ((0 : Nat) : Int) ((1 : Nat) : Int) (List.replicate 60 0))), (Value.tuple #[u26, (eN (((NS.new 6 8 4 (fun _ _ => false)).prog ((0 : Nat) : Int) ((0 : Nat) : Int) ((1 : Nat) : Int) (List.replicate 60 0)).askR (((NS.new 6 8 4 (fun _ _ => false)).prog ((0 : Nat) : Int) ((0 : Nat) : Int) ((1 : Nat) : Int) (List.replicate 60 0)).readOk ((0 : Nat) : Int) ((0 : Nat) : Int) ((0 : Nat) : Int))))]), (ptr L13.bN 0), (Value.tuple #[u26, (eN (((NS.new 6 8 4 (fun _ _ => false)).prog ((0 : Nat) : Int) ((0 : Nat) : Int) ((1 : Nat) : Int) (List.replicate 60 0)).askR (((NS.new 6 8 4 (fun _ _ => false)).prog ((0 : Nat) : Int) ((0 : Nat) : Int) ((1 : Nat) : Int) (List.replicate 60 0)).readOk ((0 : Nat) : Int) ((0 : Nat) : Int) ((0 : Nat) : Int))))])] ++ (zs zf16 23 24))) ?_
 refine wI (d_extract (v := u26) rfl rfl) ?_
 refine wI (d_extract (v := (eN (((NS.new 6 8 4 (fun _ _ => false)).prog ((0 : Nat) : Int) ((0 : Nat) : Int) ((1 : Nat) : Int) (List.replicate 60 0)).askR (((NS.new 6 8 4 (fun _ _ => false)).prog ((0 : Nat) : Int) ((0 : Nat) : Int) ((1 : Nat) : Int) (List.replicate 60 0)).readOk ((0 : Nat) : Int) ((0 : Nat) : Int) ((0 : Nat) : Int))))) rfl rfl) ?_
 refine wI (d_assign rfl) ?_
 refine wF ([(zf16 0), (ptr L13.bN 0), (zf16 2), (eN ((NS.new 6 8 4 (fun _ _ => false)).progR ((0 : Nat) : Int) ((0 : Nat) : Int) ((1 : Nat) : Int) (List.replicate 60 0))), u26] ++ (zs zf16 5 11 ++ [(Value.bool false), (ptr L13.bN 0), (sli o 0 60 60), (eN ((NS.new 6 8 4 (fun _ _ => false)).progR ((0 : Nat) : Int) ((0 : Nat) : Int) ((1 : Nat) : Int) (List.replicate 60 0))), (Value.tuple #[u26, (eN (((NS.new 6 8 4 (fun _ _ => false)).prog ((0 : Nat) : Int) ((0 : Nat) : Int) ((1 : Nat) : Int) (List.replicate 60 0)).askR (((NS.new 6 8 4 (fun _ _ => false)).prog ((0 : Nat) : Int) ((0 : Nat) : Int) ((1 : Nat) : Int) (List.replicate 60 0)).readOk ((0 : Nat) : Int) ((0 : Nat) : Int) ((0 : Nat) : Int))))]), (ptr L13.bN 0), (Value.tuple #[u26, (eN (((NS.new 6 8 4 (fun _ _ => false)).prog ((0 : Nat) : Int) ((0 : Nat) : Int) ((1 : Nat) : Int) (List.replicate 60 0)).askR (((NS.new 6 8 4 (fun _ _ => false)).prog ((0 : Nat) : Int) ((0 : Nat) : Int) ((1 : Nat) : Int) (List.replicate 60 0)).readOk ((0 : Nat) : Int) ((0 : Nat) : Int) ((0 : Nat) : Int))))]), u26, (eN (((NS.new 6 8 4 (fun _ _ => false)).prog ((0 : Nat) : Int) ((0 : Nat) : Int) ((1 : Nat) : Int) (List.replicate 60 0)).askR (((NS.new 6 8 4 (fun _ _ => false)).prog ((0 : Nat) : Int) ((0 : Nat) : Int) ((1 : Nat) : Int) (List.replicate 60 0)).readOk ((0 : Nat) : Int) ((0 : Nat) : Int) ((0 : Nat) : Int))))] ++ (zs zf16 25 22))) ?_
 refine wI (d_assign rfl) ?_
 refine wF ([(zf16 0), (ptr L13.bN 0), (zf16 2), (eN ((NS.new 6 8 4 (fun _ _ => false)).progR ((0 : Nat) : Int) ((0 : Nat) : Int) ((1 : Nat) : Int) (List.replicate 60 0))), u26, (eN (((NS.new 6 8 4 (fun _ _ => false)).prog ((0 : Nat) : Int) ((0 : Nat) : Int) ((1 : Nat) : Int) (List.replicate 60 0)).askR (((NS.new 6 8 4 (fun _ _ => false)).prog ((0 : Nat) : Int) ((0 : Nat) : Int) ((1 : Nat) : Int) (List.replicate 60 0)).readOk ((0 : Nat) : Int) ((0 : Nat) : Int) ((0 : Nat) : Int))))] ++ (zs zf16 6 10 ++ [(Value.bool false), (ptr L13.bN 0), (sli o 0 60 60), (eN ((NS.new 6 8 4 (fun _ _ => false)).progR ((0 : Nat) : Int) ((0 : Nat) : Int) ((1 : Nat) : Int) (List.replicate 60 0))), (Value.tuple #[u26, (eN (((NS.new 6 8 4 (fun _ _ => false)).prog ((0 : Nat) : Int) ((0 : Nat) : Int) ((1 : Nat) : Int) (List.replicate 60 0)).askR (((NS.new 6 8 4 (fun _ _ => false)).prog ((0 : Nat) : Int) ((0 : Nat) : Int) ((1 : Nat) : Int) (List.replicate 60 0)).readOk ((0 : Nat) : Int) ((0 : Nat) : Int) ((0 : Nat) : Int))))]), (ptr L13.bN 0), (Value.tuple #[u26, (eN (((NS.new 6 8 4 (fun _ _ => false)).prog ((0 : Nat) : Int) ((0 : Nat) : Int) ((1 : Nat) : Int) (List.replicate 60 0)).askR (((NS.new 6 8 4 (fun _ _ => false)).prog ((0 : Nat) : Int) ((0 : Nat) : Int) ((1 : Nat) : Int) (List.replicate 60 0)).readOk ((0 : Nat) : Int) ((0 : Nat) : Int) ((0 : Nat) : Int))))]), u26, (eN (((NS.new 6 8 4 (fun _ _ => false)).prog ((0 : Nat) : Int) ((0 : Nat) : Int) ((1 : Nat) : Int) (List.replicate 60 0)).askR (((NS.new 6 8 4 (fun _ _ => false)).prog ((0 : Nat) : Int) ((0 : Nat) : Int) ((1 : Nat) : Int) (List.replicate 60 0)).readOk ((0 : Nat) : Int) ((0 : Nat) : Int) ((0 : Nat) : Int))))] ++ (zs zf16 25 22))) ?_
 refine wpL.done ?_
 refine then_n ?_
 refine forget (fun zf29 => ([(zf29 0), (ptr L13.bN 0), (zf29 2), (eN ((NS.new 6 8 4 (fun _ _ => false)).progR ((0 : Nat) : Int) ((0 : Nat) : Int) ((1 : Nat) : Int) (List.replicate 60 0))), u26, (eN (((NS.new 6 8 4 (fun _ _ => false)).prog ((0 : Nat) : Int) ((0 : Nat) : Int) ((1 : Nat) : Int) (List.replicate 60 0)).askR (((NS.new 6 8 4 (fun _ _ => false)).prog ((0 : Nat) : Int) ((0 : Nat) : Int) ((1 : Nat) : Int) (List.replicate 60 0)).readOk ((0 : Nat) : Int) ((0 : Nat) : Int) ((0 : Nat) : Int))))] ++ (zs zf29 6 41))) (by kernel_rfl) (fun zf29 => ?_)
 refine wpIn_seq ?_
 refine plain ?_
 refine wI (d_move rfl) ?_
 refine wI (n_eql (a := ((NS.new 6 8 4 (fun _ _ => false)).progR ((0 : Nat) : Int) ((0 : Nat) : Int) ((1 : Nat) : Int) (List.replicate 60 0))) (b := 1) rfl rfl (decide_eq_true kn_prog)) ?_
 refine wI (d_move rfl) ?_
 refine wF ([(zf29 0), (ptr L13.bN 0), (zf29 2), (eN ((NS.new 6 8 4 (fun _ _ => false)).progR ((0 : Nat) : Int) ((0 : Nat) : Int) ((1 : Nat) : Int) (List.replicate 60 0))), u26, (eN (((NS.new 6 8 4 (fun _ _ => false)).prog ((0 : Nat) : Int) ((0 : Nat) : Int) ((1 : Nat) : Int) (List.replicate 60 0)).askR (((NS.new 6 8 4 (fun _ _ => false)).prog ((0 : Nat) : Int) ((0 : Nat) : Int) ((1 : Nat) : Int) (List.replicate 60 0)).readOk ((0 : Nat) : Int) ((0 : Nat) : Int) ((0 : Nat) : Int))))] ++ (zs zf29 6 19 ++ [(eN ((NS.new 6 8 4 (fun _ _ => false)).progR ((0 : Nat) : Int) ((0 : Nat) : Int) ((1 : Nat) : Int) (List.replicate 60 0))), (Value.bool true), (Value.bool true)] ++ (zs zf29 28 19))) ?_
 refine wpL.onis rfl rfl rfl (nb rfl) rfl (d_move rfl) ?_
 refine wpL.onis rfl rfl rfl (nb rfl) rfl (n_eql (a := (((NS.new 6 8 4 (fun _ _ => false)).prog ((0 : Nat) : Int) ((0 : Nat) : Int) ((1 : Nat) : Int) (List.replicate 60 0)).askR (((NS.new 6 8 4 (fun _ _ => false)).prog ((0 : Nat) : Int) ((0 : Nat) : Int) ((1 : Nat) : Int) (List.replicate 60 0)).readOk ((0 : Nat) : Int) ((0 : Nat) : Int) ((0 : Nat) : Int)))) (b := 0) rfl rfl (decide_eq_true kn_read)) ?_
 refine wI (d_pick (b := true) (v := (Value.bool true)) rfl rfl) ?_
 refine wF ([(zf29 0), (ptr L13.bN 0), (zf29 2), (eN ((NS.new 6 8 4 (fun _ _ => false)).progR ((0 : Nat) : Int) ((0 : Nat) : Int) ((1 : Nat) : Int) (List.replicate 60 0))), u26, (eN (((NS.new 6 8 4 (fun _ _ => false)).prog ((0 : Nat) : Int) ((0 : Nat) : Int) ((1 : Nat) : Int) (List.replicate 60 0)).askR (((NS.new 6 8 4 (fun _ _ => false)).prog ((0 : Nat) : Int) ((0 : Nat) : Int) ((1 : Nat) : Int) (List.replicate 60 0)).readOk ((0 : Nat) : Int) ((0 : Nat) : Int) ((0 : Nat) : Int))))] ++ (zs zf29 6 19 ++ [(eN ((NS.new 6 8 4 (fun _ _ => false)).progR ((0 : Nat) : Int) ((0 : Nat) : Int) ((1 : Nat) : Int) (List.replicate 60 0))), (Value.bool true), (Value.bool true), (eN (((NS.new 6 8 4 (fun _ _ => false)).prog ((0 : Nat) : Int) ((0 : Nat) : Int) ((1 : Nat) : Int) (List.replicate 60 0)).askR (((NS.new 6 8 4 (fun _ _ => false)).prog ((0 : Nat) : Int) ((0 : Nat) : Int) ((1 : Nat) : Int) (List.replicate 60 0)).readOk ((0 : Nat) : Int) ((0 : Nat) : Int) ((0 : Nat) : Int)))), (Value.bool true), (Value.bool true)] ++ (zs zf29 31 16))) ?_
 refine wI (d_move rfl) ?_
 refine wpL.onis rfl rfl rfl (nb rfl) rfl (d_move rfl) ?_
 refine wpL.onis rfl rfl rfl (nb rfl) rfl (d_lenS rfl Try.underlying36 rfl f27) ?_
 refine wF ([(zf29 0), (ptr L13.bN 0), (zf29 2), (eN ((NS.new 6 8 4 (fun _ _ => false)).progR ((0 : Nat) : Int) ((0 : Nat) : Int) ((1 : Nat) : Int) (List.replicate 60 0))), u26, (eN (((NS.new 6 8 4 (fun _ _ => false)).prog ((0 : Nat) : Int) ((0 : Nat) : Int) ((1 : Nat) : Int) (List.replicate 60 0)).askR (((NS.new 6 8 4 (fun _ _ => false)).prog ((0 : Nat) : Int) ((0 : Nat) : Int) ((1 : Nat) : Int) (List.replicate 60 0)).readOk ((0 : Nat) : Int) ((0 : Nat) : Int) ((0 : Nat) : Int))))] ++ (zs zf29 6 19 ++ [(eN ((NS.new 6 8 4 (fun _ _ => false)).progR ((0 : Nat) : Int) ((0 : Nat) : Int) ((1 : Nat) : Int) (List.replicate 60 0))), (Value.bool true), (Value.bool true), (eN (((NS.new 6 8 4 (fun _ _ => false)).prog ((0 : Nat) : Int) ((0 : Nat) : Int) ((1 : Nat) : Int) (List.replicate 60 0)).askR (((NS.new 6 8 4 (fun _ _ => false)).prog ((0 : Nat) : Int) ((0 : Nat) : Int) ((1 : Nat) : Int) (List.replicate 60 0)).readOk ((0 : Nat) : Int) ((0 : Nat) : Int) ((0 : Nat) : Int)))), (Value.bool true), (Value.bool true), (Value.bool true), u26, (eN ((((NS.new 6 8 4 (fun _ _ => false)).prog ((0 : Nat) : Int) ((0 : Nat) : Int) ((1 : Nat) : Int) (List.replicate 60 0)).readL ((0 : Nat) : Int) ((0 : Nat) : Int) ((0 : Nat) : Int)).length))] ++ (zs zf29 34 13))) ?_
 refine wpL.onis rfl rfl rfl (nb rfl) rfl (n_eql (a := ((((NS.new 6 8 4 (fun _ _ => false)).prog ((0 : Nat) : Int) ((0 : Nat) : Int) ((1 : Nat) : Int) (List.replicate 60 0)).readL ((0 : Nat) : Int) ((0 : Nat) : Int) ((0 : Nat) : Int)).length)) (b := 60) rfl rfl (decide_eq_true kn_len)) ?_
 refine wI (d_pick (b := true) (v := (Value.bool true)) rfl rfl) ?_
 refine wI (d_move rfl) ?_
 refine wF ([(zf29 0), (ptr L13.bN 0), (zf29 2), (eN ((NS.new 6 8 4 (fun _ _ => false)).progR ((0 : Nat) : Int) ((0 : Nat) : Int) ((1 : Nat) : Int) (List.replicate 60 0))), u26, (eN (((NS.new 6 8 4 (fun _ _ => false)).prog ((0 : Nat) : Int) ((0 : Nat) : Int) ((1 : Nat) : Int) (List.replicate 60 0)).askR (((NS.new 6 8 4 (fun _ _ => false)).prog ((0 : Nat) : Int) ((0 : Nat) : Int) ((1 : Nat) : Int) (List.replicate 60 0)).readOk ((0 : Nat) : Int) ((0 : Nat) : Int) ((0 : Nat) : Int))))] ++ (zs zf29 6 19 ++ [(eN ((NS.new 6 8 4 (fun _ _ => false)).progR ((0 : Nat) : Int) ((0 : Nat) : Int) ((1 : Nat) : Int) (List.replicate 60 0))), (Value.bool true), (Value.bool true), (eN (((NS.new 6 8 4 (fun _ _ => false)).prog ((0 : Nat) : Int) ((0 : Nat) : Int) ((1 : Nat) : Int) (List.replicate 60 0)).askR (((NS.new 6 8 4 (fun _ _ => false)).prog ((0 : Nat) : Int) ((0 : Nat) : Int) ((1 : Nat) : Int) (List.replicate 60 0)).readOk ((0 : Nat) : Int) ((0 : Nat) : Int) ((0 : Nat) : Int)))), (Value.bool true), (Value.bool true), (Value.bool true), u26, (eN ((((NS.new 6 8 4 (fun _ _ => false)).prog ((0 : Nat) : Int) ((0 : Nat) : Int) ((1 : Nat) : Int) (List.replicate 60 0)).readL ((0 : Nat) : Int) ((0 : Nat) : Int) ((0 : Nat) : Int)).length)), (Value.bool true), (Value.bool true), (Value.bool true)] ++ (zs zf29 37 10))) ?_
 refine wpL.onis rfl rfl rfl (nb rfl) rfl (d_move rfl) ?_
 refine wpL.onis rfl rfl rfl (nb rfl) rfl (d_ix (i := 0) (xs := (((NS.new 6 8 4 (fun _ _ => false)).prog ((0 : Nat) : Int) ((0 : Nat) : Int) ((1 : Nat) : Int) (List.replicate 60 0)).readL ((0 : Nat) : Int) ((0 : Nat) : Int) ((0 : Nat) : Int))) Try.underlying36 s_ti5 rfl f27 (show _ = Value.int _ ((0 : Nat) : Int) from rfl) kn_pos) ?_
 refine wpL.onis rfl rfl rfl (nb rfl) rfl (d_ldx (i := 0) (xs := (((NS.new 6 8 4 (fun _ _ => false)).prog ((0 : Nat) : Int) ((0 : Nat) : Int) ((1 : Nat) : Int) (List.replicate 60 0)).readL ((0 : Nat) : Int) ((0 : Nat) : Int) ((0 : Nat) : Int))) (enc := eB) (v := ((((NS.new 6 8 4 (fun _ _ => false)).prog ((0 : Nat) : Int) ((0 : Nat) : Int) ((1 : Nat) : Int) (List.replicate 60 0)).readL ((0 : Nat) : Int) ((0 : Nat) : Int) ((0 : Nat) : Int)).getD 0 0)) ⟨_, Try.underlying5, rfl⟩ rfl f27 (g_at kn_pos)) ?_
 refine wF ([(zf29 0), (ptr L13.bN 0), (zf29 2), (eN ((NS.new 6 8 4 (fun _ _ => false)).progR ((0 : Nat) : Int) ((0 : Nat) : Int) ((1 : Nat) : Int) (List.replicate 60 0))), u26, (eN (((NS.new 6 8 4 (fun _ _ => false)).prog ((0 : Nat) : Int) ((0 : Nat) : Int) ((1 : Nat) : Int) (List.replicate 60 0)).askR (((NS.new 6 8 4 (fun _ _ => false)).prog ((0 : Nat) : Int) ((0 : Nat) : Int) ((1 : Nat) : Int) (List.replicate 60 0)).readOk ((0 : Nat) : Int) ((0 : Nat) : Int) ((0 : Nat) : Int))))] ++ (zs zf29 6 19 ++ [(eN ((NS.new 6 8 4 (fun _ _ => false)).progR ((0 : Nat) : Int) ((0 : Nat) : Int) ((1 : Nat) : Int) (List.replicate 60 0))), (Value.bool true), (Value.bool true), (eN (((NS.new 6 8 4 (fun _ _ => false)).prog ((0 : Nat) : Int) ((0 : Nat) : Int) ((1 : Nat) : Int) (List.replicate 60 0)).askR (((NS.new 6 8 4 (fun _ _ => false)).prog ((0 : Nat) : Int) ((0 : Nat) : Int) ((1 : Nat) : Int) (List.replicate 60 0)).readOk ((0 : Nat) : Int) ((0 : Nat) : Int) ((0 : Nat) : Int)))), (Value.bool true), (Value.bool true), (Value.bool true), u26, (eN ((((NS.new 6 8 4 (fun _ _ => false)).prog ((0 : Nat) : Int) ((0 : Nat) : Int) ((1 : Nat) : Int) (List.replicate 60 0)).readL ((0 : Nat) : Int) ((0 : Nat) : Int) ((0 : Nat) : Int)).length)), (Value.bool true), (Value.bool true), (Value.bool true), u26, (ixp u26 0), (eB ((((NS.new 6 8 4 (fun _ _ => false)).prog ((0 : Nat) : Int) ((0 : Nat) : Int) ((1 : Nat) : Int) (List.replicate 60 0)).readL ((0 : Nat) : Int) ((0 : Nat) : Int) ((0 : Nat) : Int)).getD 0 0))] ++ (zs zf29 40 7))) ?_
 refine wpL.onis rfl rfl rfl (nb rfl) rfl (b_eql (c := ((((NS.new 6 8 4 (fun _ _ => false)).prog ((0 : Nat) : Int) ((0 : Nat) : Int) ((1 : Nat) : Int) (List.replicate 60 0)).readL ((0 : Nat) : Int) ((0 : Nat) : Int) ((0 : Nat) : Int)).getD 0 0)) (e := 255) rfl rfl (decide_eq_true kn_at)) ?_
 refine wI (d_pick (b := true) (v := (Value.bool true)) rfl rfl) ?_
 refine wI (d_move rfl) ?_
 refine wF ([(zf29 0), (ptr L13.bN 0), (zf29 2), (eN ((NS.new 6 8 4 (fun _ _ => false)).progR ((0 : Nat) : Int) ((0 : Nat) : Int) ((1 : Nat) : Int) (List.replicate 60 0))), u26, (eN (((NS.new 6 8 4 (fun _ _ => false)).prog ((0 : Nat) : Int) ((0 : Nat) : Int) ((1 : Nat) : Int) (List.replicate 60 0)).askR (((NS.new 6 8 4 (fun _ _ => false)).prog ((0 : Nat) : Int) ((0 : Nat) : Int) ((1 : Nat) : Int) (List.replicate 60 0)).readOk ((0 : Nat) : Int) ((0 : Nat) : Int) ((0 : Nat) : Int))))] ++ (zs zf29 6 19 ++ [(eN ((NS.new 6 8 4 (fun _ _ => false)).progR ((0 : Nat) : Int) ((0 : Nat) : Int) ((1 : Nat) : Int) (List.replicate 60 0))), (Value.bool true), (Value.bool true), (eN (((NS.new 6 8 4 (fun _ _ => false)).prog ((0 : Nat) : Int) ((0 : Nat) : Int) ((1 : Nat) : Int) (List.replicate 60 0)).askR (((NS.new 6 8 4 (fun _ _ => false)).prog ((0 : Nat) : Int) ((0 : Nat) : Int) ((1 : Nat) : Int) (List.replicate 60 0)).readOk ((0 : Nat) : Int) ((0 : Nat) : Int) ((0 : Nat) : Int)))), (Value.bool true), (Value.bool true), (Value.bool true), u26, (eN ((((NS.new 6 8 4 (fun _ _ => false)).prog ((0 : Nat) : Int) ((0 : Nat) : Int) ((1 : Nat) : Int) (List.replicate 60 0)).readL ((0 : Nat) : Int) ((0 : Nat) : Int) ((0 : Nat) : Int)).length)), (Value.bool true), (Value.bool true), (Value.bool true), u26, (ixp u26 0), (eB ((((NS.new 6 8 4 (fun _ _ => false)).prog ((0 : Nat) : Int) ((0 : Nat) : Int) ((1 : Nat) : Int) (List.replicate 60 0)).readL ((0 : Nat) : Int) ((0 : Nat) : Int) ((0 : Nat) : Int)).getD 0 0)), (Value.bool true), (Value.bool true), (Value.bool true), (zf29 43), (zf29 44), (zf29 45), (zf29 46)])) ?_
 refine wpL.onis rfl rfl rfl (nb rfl) rfl (d_move rfl) ?_
 refine wpL.on rfl rfl rfl (nb rfl) rfl (d_call (xl := [.tmp 43]) (al := [(ptr L13.bN 0)]) Try.func18 (by kernel_rfl) rfl rfl rfl (nandWrong_ok L13 (((NS.new 6 8 4 (fun _ _ => false)).prog ((0 : Nat) : Int) ((0 : Nat) : Int) ((1 : Nat) : Int) (List.replicate 60 0)).ask (((NS.new 6 8 4 (fun _ _ => false)).prog ((0 : Nat) : Int) ((0 : Nat) : Int) ((1 : Nat) : Int) (List.replicate 60 0)).readOk ((0 : Nat) : Int) ((0 : Nat) : Int) ((0 : Nat) : Int))) _ a14)) ?_
 rintro _ w30 ⟨rfl, o31⟩
 replace a14 := a14.step0 o31
 replace f27 := f27.step0 o31
 replace a19 := a19.step0 o31
 replace oW := oW.tail0 o31
 refine wpL.onis rfl rfl rfl (nb rfl) rfl (d_eql (k := .i64) (m := (((NS.new 6 8 4 (fun _ _ => false)).prog ((0 : Nat) : Int) ((0 : Nat) : Int) ((1 : Nat) : Int) (List.replicate 60 0)).ask (((NS.new 6 8 4 (fun _ _ => false)).prog ((0 : Nat) : Int) ((0 : Nat) : Int) ((1 : Nat) : Int) (List.replicate 60 0)).readOk ((0 : Nat) : Int) ((0 : Nat) : Int) ((0 : Nat) : Int))).wrong) (n := 1) rfl rfl (decide_eq_true kn_wrong)) ?_
 refine wF ([(zf29 0), (ptr L13.bN 0), (zf29 2), (eN ((NS.new 6 8 4 (fun _ _ => false)).progR ((0 : Nat) : Int) ((0 : Nat) : Int) ((1 : Nat) : Int) (List.replicate 60 0))), u26, (eN (((NS.new 6 8 4 (fun _ _ => false)).prog ((0 : Nat) : Int) ((0 : Nat) : Int) ((1 : Nat) : Int) (List.replicate 60 0)).askR (((NS.new 6 8 4 (fun _ _ => false)).prog ((0 : Nat) : Int) ((0 : Nat) : Int) ((1 : Nat) : Int) (List.replicate 60 0)).readOk ((0 : Nat) : Int) ((0 : Nat) : Int) ((0 : Nat) : Int))))] ++ (zs zf29 6 19 ++ [(eN ((NS.new 6 8 4 (fun _ _ => false)).progR ((0 : Nat) : Int) ((0 : Nat) : Int) ((1 : Nat) : Int) (List.replicate 60 0))), (Value.bool true), (Value.bool true), (eN (((NS.new 6 8 4 (fun _ _ => false)).prog ((0 : Nat) : Int) ((0 : Nat) : Int) ((1 : Nat) : Int) (List.replicate 60 0)).askR (((NS.new 6 8 4 (fun _ _ => false)).prog ((0 : Nat) : Int) ((0 : Nat) : Int) ((1 : Nat) : Int) (List.replicate 60 0)).readOk ((0 : Nat) : Int) ((0 : Nat) : Int) ((0 : Nat) : Int)))), (Value.bool true), (Value.bool true), (Value.bool true), u26, (eN ((((NS.new 6 8 4 (fun _ _ => false)).prog ((0 : Nat) : Int) ((0 : Nat) : Int) ((1 : Nat) : Int) (List.replicate 60 0)).readL ((0 : Nat) : Int) ((0 : Nat) : Int) ((0 : Nat) : Int)).length)), (Value.bool true), (Value.bool true), (Value.bool true), u26, (ixp u26 0), (eB ((((NS.new 6 8 4 (fun _ _ => false)).prog ((0 : Nat) : Int) ((0 : Nat) : Int) ((1 : Nat) : Int) (List.replicate 60 0)).readL ((0 : Nat) : Int) ((0 : Nat) : Int) ((0 : Nat) : Int)).getD 0 0)), (Value.bool true), (Value.bool true), (Value.bool true), (ptr L13.bN 0), (eI ((((NS.new 6 8 4 (fun _ _ => false)).prog ((0 : Nat) : Int) ((0 : Nat) : Int) ((1 : Nat) : Int) (List.replicate 60 0)).ask (((NS.new 6 8 4 (fun _ _ => false)).prog ((0 : Nat) : Int) ((0 : Nat) : Int) ((1 : Nat) : Int) (List.replicate 60 0)).readOk ((0 : Nat) : Int) ((0 : Nat) : Int) ((0 : Nat) : Int))).wrong)), (Value.bool true), (zf29 46)])) ?_
 refine wI (d_pick (b := true) (v := (Value.bool true)) rfl rfl) ?_
 refine wI (d_assign rfl) ?_
 refine wF ([(Value.bool true), (ptr L13.bN 0), (zf29 2), (eN ((NS.new 6 8 4 (fun _ _ => false)).progR ((0 : Nat) : Int) ((0 : Nat) : Int) ((1 : Nat) : Int) (List.replicate 60 0))), u26, (eN (((NS.new 6 8 4 (fun _ _ => false)).prog ((0 : Nat) : Int) ((0 : Nat) : Int) ((1 : Nat) : Int) (List.replicate 60 0)).askR (((NS.new 6 8 4 (fun _ _ => false)).prog ((0 : Nat) : Int) ((0 : Nat) : Int) ((1 : Nat) : Int) (List.replicate 60 0)).readOk ((0 : Nat) : Int) ((0 : Nat) : Int) ((0 : Nat) : Int))))] ++ (zs zf29 6 19 ++ [(eN ((NS.new 6 8 4 (fun _ _ => false)).progR ((0 : Nat) : Int) ((0 : Nat) : Int) ((1 : Nat) : Int) (List.replicate 60 0))), (Value.bool true), (Value.bool true), (eN (((NS.new 6 8 4 (fun _ _ => false)).prog ((0 : Nat) : Int) ((0 : Nat) : Int) ((1 : Nat) : Int) (List.replicate 60 0)).askR (((NS.new 6 8 4 (fun _ _ => false)).prog ((0 : Nat) : Int) ((0 : Nat) : Int) ((1 : Nat) : Int) (List.replicate 60 0)).readOk ((0 : Nat) : Int) ((0 : Nat) : Int) ((0 : Nat) : Int)))), (Value.bool true), (Value.bool true), (Value.bool true), u26, (eN ((((NS.new 6 8 4 (fun _ _ => false)).prog ((0 : Nat) : Int) ((0 : Nat) : Int) ((1 : Nat) : Int) (List.replicate 60 0)).readL ((0 : Nat) : Int) ((0 : Nat) : Int) ((0 : Nat) : Int)).length)), (Value.bool true), (Value.bool true), (Value.bool true), u26, (ixp u26 0), (eB ((((NS.new 6 8 4 (fun _ _ => false)).prog ((0 : Nat) : Int) ((0 : Nat) : Int) ((1 : Nat) : Int) (List.replicate 60 0)).readL ((0 : Nat) : Int) ((0 : Nat) : Int) ((0 : Nat) : Int)).getD 0 0)), (Value.bool true), (Value.bool true), (Value.bool true), (ptr L13.bN 0), (eI ((((NS.new 6 8 4 (fun _ _ => false)).prog ((0 : Nat) : Int) ((0 : Nat) : Int) ((1 : Nat) : Int) (List.replicate 60 0)).ask (((NS.new 6 8 4 (fun _ _ => false)).prog ((0 : Nat) : Int) ((0 : Nat) : Int) ((1 : Nat) : Int) (List.replicate 60 0)).readOk ((0 : Nat) : Int) ((0 : Nat) : Int) ((0 : Nat) : Int))).wrong)), (Value.bool true), (Value.bool true)])) ?_
 refine wpL.done ?_
 refine then_n ?_
 refine forget (fun zf32 => ([(Value.bool true)] ++ (zs zf32 1 46))) (by kernel_rfl) (fun zf32 => ?_)
 refine wpIn_ret ?_
 refine leave0 (v := (Value.bool true)) (res1 Try.results11 rfl) ?_
 exact ⟨rfl, oW⟩

set_option maxRecDepth 20000 in
set_option maxHeartbeats 1000000 in
theorem law7Make_ok (a b c : Int) (W : World) :
    CW Try.prog 15 #[(Value.agg #[(eI a), (eI b), (eI c)])] W (Rt (RIs (.agg #[eN (6 + (a % ((3 : Nat) : Int)).toNat), eN (8 + (b % ((5 : Nat) : Int)).toNat), eN (4 + (c % ((5 : Nat) : Int)).toNat)]) W)) := by
 have oW : Only No W W := Only.refl _ _
 refine enter (al := [(Value.agg #[(eI a), (eI b), (eI c)])]) (k := 15) (l := ([(Value.agg #[(eI a), (eI b), (eI c)])] ++ (us 15))) Try.func15 rfl Try.ntmps15 rfl rfl ?_
 refine wpIn_seq ?_
 refine plain ?_
 refine wO (d_box rfl rfl) ?_
 rintro _ w11 ⟨g, rfl, g12, a13, o14⟩
 have g_oW_g : W.heap.size ≤ g := Nat.le_trans oW.size g12
 replace oW := oW.tail0 o14
 refine wO (d_alloc s_ti23 rfl) ?_
 rintro _ w15 ⟨r, rfl, g16, a17, o18⟩
 have n_g_r : g ≠ r := a13.ne g16
 have g_oW_r : W.heap.size ≤ r := Nat.le_trans oW.size g16
 replace a13 := a13.step0 o18
 replace oW := oW.tail0 o18
 refine wF ([(Value.agg #[(eI a), (eI b), (eI c)]), (ptr g 0), (ptr r 0)] ++ (us 13)) ?_
 refine wpL.done ?_
 refine then_n ?_
 refine wpIn_seq ?_
 refine drawn_last (O := (Is1 r)) (m := 13) (R := fun w_ => Arr 23 r [(eN (6 + ((a % ((3 : Nat) : Int)).toNat))), (eN (8 + ((b % ((5 : Nat) : Int)).toNat))), (eN (4 + ((c % ((5 : Nat) : Int)).toNat)))] w_) [0, 1, 3, 7, 0, 16, 55, 119, 0, 256, 887, 1911, 4095, 8191] [(0, 3), (1, 4), (2, 5), (3, 6), (4, 7), (5, 8), (6, 9), (7, 10), (8, 11), (9, 12), (10, 13), (11, 14), (12, 15)] [(ptr g 0), (eI a), (eN ((a % ((3 : Nat) : Int)).toNat)), (eN (6 + ((a % ((3 : Nat) : Int)).toNat))), (ptr g 1), (eI b), (eN ((b % ((5 : Nat) : Int)).toNat)), (eN (8 + ((b % ((5 : Nat) : Int)).toNat))), (ptr g 2), (eI c), (eN ((c % ((5 : Nat) : Int)).toNat)), (eN (4 + ((c % ((5 : Nat) : Int)).toNat))), (Value.agg #[(eN (6 + ((a % ((3 : Nat) : Int)).toNat))), (eN (8 + ((b % ((5 : Nat) : Int)).toNat))), (eN (4 + ((c % ((5 : Nat) : Int)).toNat)))])] [(Value.agg #[(eI a), (eI b), (eI c)]), (ptr g 0), (ptr r 0), (ptr g 0), (eI a), (eN ((a % ((3 : Nat) : Int)).toNat)), (eN (6 + ((a % ((3 : Nat) : Int)).toNat))), (ptr g 1), (eI b), (eN ((b % ((5 : Nat) : Int)).toNat)), (eN (8 + ((b % ((5 : Nat) : Int)).toNat))), (ptr g 2), (eI c), (eN ((c % ((5 : Nat) : Int)).toNat)), (eN (4 + ((c % ((5 : Nat) : Int)).toNat))), (Value.agg #[(eN (6 + ((a % ((3 : Nat) : Int)).toNat))), (eN (8 + ((b % ((5 : Nat) : Int)).toNat))), (eN (4 + ((c % ((5 : Nat) : Int)).toNat)))])] s_mx (by kernel_rfl) (by kernel_rfl) rfl rfl (by decide) (by kernel_rfl) (by kernel_rfl) ?_ (fun _ _ h_ ho_ => h_.step0 ho_) ⟨_, rfl, rfl, fun w_ hO_ => gd rfl ((d_storeAg (cs' := [(eN (6 + ((a % ((3 : Nat) : Int)).toNat))), (eN (8 + ((b % ((5 : Nat) : Int)).toNat))), (eN (4 + ((c % ((5 : Nat) : Int)).toNat)))]) s_ti23 rfl rfl rfl (oc_cons rfl (oc_cons rfl (oc_cons rfl oc_nil))) (a17.step0 hO_) (by decide) rfl).mono fun u_ w2_ h_ => ⟨h_.2, h_.1⟩)⟩ ?_
 ·
  intro w_ hO_
  refine AllG.cons (gi rfl (d_fieldAddr (j := 0) Try.underlying23 rfl s_ti3 (by decide) rfl rfl)) ?_
  refine AllG.cons (gi rfl (d_load (v := (eI a)) ⟨_, Try.underlying3, rfl⟩ rfl (a13.step0 hO_) rfl)) ?_
  refine AllG.cons (gc rfl (d_call (xl := [.tmp 4, .const (.int .i64 3)]) (al := [(eI a), (eN 3)]) Try.func12 (by kernel_rfl) rfl rfl rfl (law7Within_ok a 3 _ (by omega) (by omega)))) ?_
  refine AllG.cons (gi rfl (n_add (a := 6) (b := ((a % ((3 : Nat) : Int)).toNat)) rfl rfl (by omega))) ?_
  refine AllG.cons (gi rfl (d_fieldAddr (j := 1) Try.underlying23 rfl s_ti3 (by decide) rfl rfl)) ?_
  refine AllG.cons (gi rfl (d_load (v := (eI b)) ⟨_, Try.underlying3, rfl⟩ rfl (a13.step0 hO_) rfl)) ?_
  refine AllG.cons (gc rfl (d_call (xl := [.tmp 8, .const (.int .i64 5)]) (al := [(eI b), (eN 5)]) Try.func12 (by kernel_rfl) rfl rfl rfl (law7Within_ok b 5 _ (by omega) (by omega)))) ?_
  refine AllG.cons (gi rfl (n_add (a := 8) (b := ((b % ((5 : Nat) : Int)).toNat)) rfl rfl (by omega))) ?_
  refine AllG.cons (gi rfl (d_fieldAddr (j := 2) Try.underlying23 rfl s_ti3 (by decide) rfl rfl)) ?_
  refine AllG.cons (gi rfl (d_load (v := (eI c)) ⟨_, Try.underlying3, rfl⟩ rfl (a13.step0 hO_) rfl)) ?_
  refine AllG.cons (gc rfl (d_call (xl := [.tmp 12, .const (.int .i64 5)]) (al := [(eI c), (eN 5)]) Try.func12 (by kernel_rfl) rfl rfl rfl (law7Within_ok c 5 _ (by omega) (by omega)))) ?_
  refine AllG.cons (gi rfl (n_add (a := 4) (b := ((c % ((5 : Nat) : Int)).toNat)) rfl rfl (by omega))) ?_
  refine AllG.cons (gi rfl (d_buildS (pl := [(0, 1), (1, 1), (2, 1)]) (zs := [(eN 0), (eN 0), (eN 0)]) (cs := [(eN (6 + ((a % ((3 : Nat) : Int)).toNat))), (eN (8 + ((b % ((5 : Nat) : Int)).toNat))), (eN (4 + ((c % ((5 : Nat) : Int)).toNat)))]) Try.underlying23 s_ti23 ⟨_, _, _, _, rfl, s_ti3, ⟨_, _, _, _, rfl, s_ti3, ⟨_, _, _, _, rfl, s_ti3, rfl⟩⟩⟩ rfl (parts_cons (vs := [(eN (6 + ((a % ((3 : Nat) : Int)).toNat)))]) (cells_of (v := (eN (6 + ((a % ((3 : Nat) : Int)).toNat)))) rfl rfl) (parts_cons (vs := [(eN (8 + ((b % ((5 : Nat) : Int)).toNat)))]) (cells_of (v := (eN (8 + ((b % ((5 : Nat) : Int)).toNat)))) rfl rfl) (parts_cons (vs := [(eN (4 + ((c % ((5 : Nat) : Int)).toNat)))]) (cells_of (v := (eN (4 + ((c % ((5 : Nat) : Int)).toNat)))) rfl rfl) parts_nil))) rfl)) ?_
  exact AllG.nil
 intro w19 o20 a21
 replace a13 := a13.step o20 (fun e => absurd e n_g_r)
 replace oW := oW.tailb o20 g_oW_r
 refine then_n ?_
 refine wpIn_ret ?_
 refine leave0 (v := (Value.agg #[(eN (6 + ((a % ((3 : Nat) : Int)).toNat))), (eN (8 + ((b % ((5 : Nat) : Int)).toNat))), (eN (4 + ((c % ((5 : Nat) : Int)).toNat)))])) (resC Try.results15 ⟨_, Try.underlying23, rfl⟩ s_ti23 rfl a21 rfl) ?_
 exact ⟨rfl, oW⟩

end Go.Proofs.YtpamdlnobekihaaF
