import Derived.Test.YtlbaacellnlpfaaFl
import Derived.Test.YtlbaacellnlpfaaTy
import Derived.Test.YtlbaacellnlpfaaHgf
import Derived.Test.YtlbaacellnlpfaaMo
set_option linter.unusedVariables false
set_option linter.unusedSimpArgs false
namespace Go.Proofs.YtlbaacellnlpfaaF
open Go Go.Shelf Go.Proofs.YtlbaacellnlpfaaS Ram

theorem gfTwice_ok (a : UInt8) (W : World) : CW Try.prog 25 #[eB a] W (Rt (RIs (eB (xtB a)) W)) :=
  CallsIn.mono (callsIn_wide.2 (twice_calls a.toNat a.toNat_lt W)) fun e w' h => ⟨_, h.1, by show Value.int _ _ = Value.int _ _; rw [xtB_nat], h.2 ▸ Only.refl _ _⟩
theorem tmm (a : Int) {m : Nat} (hm : 0 < m) : (Int.tmod a m < 0 ∧ Int.tmod a m + m = ((a % m).toNat : Int)) ∨ (0 ≤ Int.tmod a m ∧ Int.tmod a m = ((a % m).toNat : Int)) := by
  have h1 := Int.emod_nonneg a (show (m : Int) ≠ 0 by omega)
  have h2 := Int.emod_lt_of_pos a (show (0 : Int) < m by omega)
  have h3 := Int.tmod_eq_emod (a := a) (b := (m : Int))
  have h4 : ((m : Int).natAbs : Int) = m := by omega
  by_cases h : 0 ≤ a ∨ (m : Int) ∣ a
  · rw [if_pos h] at h3; right; omega
  · rw [if_neg h, h4] at h3; left; omega
theorem tmm_neg {a : Int} {m : Nat} (hm : 0 < m) (hm2 : m ≤ 1000000) (h : Int.tmod a m < 0) : IntKind.i64.wrap (Int.tmod a m + m) = ((a % m).toNat : Int) := by
  have h2 := Int.emod_lt_of_pos a (show (0 : Int) < m by omega)
  rcases tmm a hm with h1 | h1
  · rw [IntWalk.i64_in _ (by omega)]; exact h1.2
  · omega
theorem tmm_pos {a : Int} {m : Nat} (hm : 0 < m) (h : ¬ Int.tmod a m < 0) : eI (Int.tmod a m) = eN (a % m).toNat := by
  rcases tmm a hm with h1 | h1
  · omega
  · exact congrArg eI h1.2
set_option maxRecDepth 20000 in
set_option maxHeartbeats 1000000 in
theorem gfLog_ok (a : UInt8) (W : World) :
    CW Try.prog 19 #[(eB a)] W (Rt (RIs (eI (lgI a)) W)) := by
 have oW : Only No W W := Only.refl _ _
 refine enter (al := [(eB a)]) (k := 14) (l := ([(eB a)] ++ (us 14))) Try.func19 rfl Try.ntmps19 rfl rfl ?_
 refine wpIn_seq ?_
 refine plain ?_
 refine wpL.is rfl (d_assign rfl) ?_
 refine wpL.flat ([(eB a), undef, (eN 0)] ++ (us 12)) (by kernel_rfl) ?_
 refine wpL.done ?_
 refine then_n ?_
 refine wpIn_seq ?_
 refine plain ?_
 refine wpL.is rfl (d_assign rfl) ?_
 refine wpL.flat ([(eB a), undef, (eN 0), (eB 1)] ++ (us 11)) (by kernel_rfl) ?_
 refine wpL.done ?_
 refine then_n ?_
 refine wpIn_seq ?_
 refine wpIn_seq ?_
 refine plain ?_
 refine wpL.is rfl (d_move rfl) ?_
 refine wpL.flat ([(eB a), undef, (eN 0), (eB 1), undef, (eN 0)] ++ (us 9)) (by kernel_rfl) ?_
 refine wpL.done ?_
 refine then_n ?_
 refine wpIn_block ?_
 refine loop2 (fun (i : (Nat)) => fun (z : Nat → Value) => (([(eB a), undef, (z 2), (eB (exB i)), (z 4), (eN i)] ++ (zs z 6 9)) : List Value)) (fun (i : (Nat)) => fun (w_ : World) => (i ≤ 255) ∧ (∀ j, j < i → exB j ≠ a) ∧ Only No W w_) (fun (i : (Nat)) => 255 - i) 0 rfl ?_ ?_
 ·
  refine ⟨?_, ?_, ?_⟩
  ·
   (try dsimp only)
   all_goals (exact Nat.zero_le _)
  ·
   (try dsimp only)
   all_goals (exact fun j hj => absurd hj (Nat.not_lt_zero _))
  ·
   (try dsimp only)
   all_goals (exact Only.refl _ _)
 ·
  rintro i z w12 ⟨hi, hno, o11⟩
  (try dsimp only)
  replace oW := oW.tail o11 tl_no
  refine wpIn_seq ?_
  refine plain ?_
  refine wpL.is rfl (n_lss (a := i) (b := 255) rfl rfl rfl) ?_
  refine wpL.flat ([(eB a), undef, (z 2), (eB (exB i)), (z 4), (eN i), (Value.bool (decide (i < 255)))] ++ (zs z 7 8)) (by kernel_rfl) ?_
  refine wpL.done ?_
  refine then_n ?_
  refine wpIn_seq ?_
  refine cond_if rfl (fun c0 => ?_) (fun c0 => ?_)
  ·
   refine wpIn_skip ?_
   refine then_n ?_
   refine wpIn_seq ?_
   refine wpIn_block ?_
   refine wpIn_seq ?_
   refine plain ?_
   refine wpL.is rfl (d_move rfl) ?_
   refine wpL.is rfl (d_assign rfl) ?_
   refine wpL.flat ([(eB a), undef, (z 2), (eB (exB i)), (eN i), (eN i), (Value.bool (decide (i < 255))), (eN i)] ++ (zs z 8 7)) (by kernel_rfl) ?_
   refine wpL.done ?_
   refine then_n ?_
   refine wpIn_seq ?_
   refine wpIn_seq ?_
   refine plain ?_
   refine wpL.is rfl (d_move rfl) ?_
   refine wpL.is rfl (d_move rfl) ?_
   refine wpL.is rfl (b_eql (c := (exB i)) (e := a) rfl rfl rfl) ?_
   refine wpL.flat [(eB a), undef, (z 2), (eB (exB i)), (eN i), (eN i), (Value.bool (decide (i < 255))), (eN i), (eB (exB i)), (eB a), (Value.bool (decide (((exB i) : UInt8) = (a : UInt8)))), (z 11), (z 12), (z 13), (z 14)] (by kernel_rfl) ?_
   refine wpL.done ?_
   refine then_n ?_
   refine cond_if rfl (fun k1 => ?_) (fun k1 => ?_)
   ·
    refine wpIn_seq ?_
    refine plain ?_
    refine wpL.is rfl (d_move rfl) ?_
    refine wpL.is rfl (d_assign rfl) ?_
    refine wpL.flat [(eB a), undef, (eN i), (eB (exB i)), (eN i), (eN i), (Value.bool (decide (i < 255))), (eN i), (eB (exB i)), (eB a), (Value.bool (decide (((exB i) : UInt8) = (a : UInt8)))), (eN i), (z 12), (z 13), (z 14)] (by kernel_rfl) ?_
    refine wpL.done ?_
    refine then_n ?_
    refine wpIn_ret ?_
    refine then_r (inb_r (then_r (then_r (inb_r (then_r ?_)))))
    refine leave0 (v := (eN i)) (res1 Try.results19 rfl) ?_
    exact ⟨lgI_at c0 k1, oW⟩
   ·
    refine wpIn_skip ?_
    refine then_n ?_
    refine plain ?_
    refine wpL.is rfl (d_move rfl) ?_
    refine wpL.op rfl (d_call (xl := [.tmp 12]) (al := [(eB (exB i))]) Try.func25 (by kernel_rfl) rfl rfl rfl (gfTwice_ok (exB i) _)) ?_
    rintro _ w13 ⟨rfl, o14⟩
    replace oW := oW.tail0 o14
    replace o11 := o11.tail0 o14
    refine wpL.is rfl (d_assign rfl) ?_
    refine wpL.flat [(eB a), undef, (z 2), (eB (xtB (exB i))), (eN i), (eN i), (Value.bool (decide (i < 255))), (eN i), (eB (exB i)), (eB a), (Value.bool (decide (((exB i) : UInt8) = (a : UInt8)))), (z 11), (eB (exB i)), (eB (xtB (exB i))), (z 14)] (by kernel_rfl) ?_
    refine wpL.done ?_
    refine inb_n (then_n ?_)
    refine plain ?_
    refine wpL.is rfl (n_add (a := i) (b := 1) rfl rfl (by omega)) ?_
    refine wpL.is rfl (d_move rfl) ?_
    refine wpL.flat [(eB a), undef, (z 2), (eB (xtB (exB i))), (eN i), (eN (i + 1)), (Value.bool (decide (i < 255))), (eN i), (eB (exB i)), (eB a), (Value.bool (decide (((exB i) : UInt8) = (a : UInt8)))), (z 11), (eB (exB i)), (eB (xtB (exB i))), (eN (i + 1))] (by kernel_rfl) ?_
    refine wpL.done ?_
    refine then_n ?_
    refine ⟨[(eB a), undef, (z 2), (eB (exB (i + 1))), (eN i), (eN (i + 1)), (Value.bool (decide (i < 255))), (eN i), (eB (exB i)), (eB a), (Value.bool (decide (((exB i) : UInt8) = (a : UInt8)))), (z 11), (eB (exB i)), (eB (xtB (exB i))), (eN (i + 1))], (i + 1), (congrArg (fun l_ => fr l_ _) (show ([(eB a), undef, (z 2), (eB (xtB (exB i))), (eN i), (eN (i + 1)), (Value.bool (decide (i < 255))), (eN i), (eB (exB i)), (eB a), (Value.bool (decide (((exB i) : UInt8) = (a : UInt8)))), (z 11), (eB (exB i)), (eB (xtB (exB i))), (eN (i + 1))] : List Value) = [(eB a), undef, (z 2), (eB (exB (i + 1))), (eN i), (eN (i + 1)), (Value.bool (decide (i < 255))), (eN i), (eB (exB i)), (eB a), (Value.bool (decide (((exB i) : UInt8) = (a : UInt8)))), (z 11), (eB (exB i)), (eB (xtB (exB i))), (eN (i + 1))] from reslot [(eB a), undef, (z 2), (eB (xtB (exB i))), (eN i), (eN (i + 1)), (Value.bool (decide (i < 255))), (eN i), (eB (exB i)), (eB a), (Value.bool (decide (((exB i) : UInt8) = (a : UInt8)))), (z 11), (eB (exB i)), (eB (xtB (exB i))), (eN (i + 1))] 3 (congrArg eB (exB_succ i).symm))), rfl, ⟨?_, ?_, ?_⟩, ?_⟩
    ·
     (try dsimp only)
     all_goals (omega)
    ·
     (try dsimp only)
     all_goals (exact fun j hj => (Nat.lt_succ_iff_lt_or_eq.1 hj).elim (hno j) (fun h => by rw [h]; exact k1))
    ·
     (try dsimp only)
     all_goals (exact o11)
    ·
     (try dsimp only)
     all_goals (omega)
  ·
   refine wpIn_exit ?_
   refine then_x (then_x (inb_e ?_))
   refine then_n ?_
   refine wpIn_seq ?_
   refine plain ?_
   refine wpL.is rfl (d_assign rfl) ?_
   refine wpL.flat ([(eB a), undef, (eI (-1)), (eB (exB i)), (z 4), (eN i), (Value.bool (decide (i < 255)))] ++ (zs z 7 8)) (by kernel_rfl) ?_
   refine wpL.done ?_
   refine then_n ?_
   refine wpIn_ret ?_
   refine leave0 (v := (eI (-1))) (res1 Try.results19 rfl) ?_
   exact ⟨by rw [lgI_no (fun j hj => hno j (by omega))]; rfl, oW⟩

set_option maxRecDepth 20000 in
set_option maxHeartbeats 1000000 in
theorem l2within_ok (a : Int) (m : Nat) (W : World) (hm : 0 < m) (hm2 : m ≤ 1000000) :
    CW Try.prog 16 #[(eI a), (eN m)] W (Rt (RIs (eN (a % (m : Int)).toNat) W)) := by
 have oW : Only No W W := Only.refl _ _
 refine enter (al := [(eI a), (eN m)]) (k := 13) (l := ([(eI a), (eN m)] ++ (us 13))) Try.func16 rfl Try.ntmps16 rfl rfl ?_
 refine wpIn_seq ?_
 refine plain ?_
 refine wpL.is rfl (d_assign rfl) ?_
 refine wpL.flat ([(eI a), (eN m), undef, undef, (eN 0)] ++ (us 10)) (by kernel_rfl) ?_
 refine wpL.done ?_
 refine then_n ?_
 refine wpIn_seq ?_
 refine plain ?_
 refine wpL.is rfl (d_move rfl) ?_
 refine wpL.is rfl (d_move rfl) ?_
 refine wpL.is rfl (d_rem (k := .i64) (m := a) (n := ((m : Nat) : Int)) rfl rfl (by omega) (r := Int.tmod a (m : Int)) rfl) ?_
 refine wpL.flat ([(eI a), (eN m), undef, undef, (eN 0), undef, (eI a), (eN m), (eI (Int.tmod a (m : Int)))] ++ (us 6)) (by kernel_rfl) ?_
 refine wpL.is rfl (d_assign rfl) ?_
 refine wpL.flat ([(eI a), (eN m), undef, undef, (eN 0), (eI (Int.tmod a (m : Int))), (eI a), (eN m), (eI (Int.tmod a (m : Int)))] ++ (us 6)) (by kernel_rfl) ?_
 refine wpL.done ?_
 refine then_n ?_
 refine wpIn_seq ?_
 refine wpIn_seq ?_
 refine plain ?_
 refine wpL.is rfl (d_move rfl) ?_
 refine wpL.is rfl (d_lss (k := .i64) (m := Int.tmod a (m : Int)) (n := 0) rfl rfl rfl) ?_
 refine wpL.flat [(eI a), (eN m), undef, undef, (eN 0), (eI (Int.tmod a (m : Int))), (eI a), (eN m), (eI (Int.tmod a (m : Int))), (eI (Int.tmod a (m : Int))), (Value.bool (decide (Int.tmod a (m : Int) < 0))), undef, undef, undef, undef] (by kernel_rfl) ?_
 refine wpL.done ?_
 refine then_n ?_
 refine cond_if rfl (fun k1 => ?_) (fun k1 => ?_)
 ·
  refine plain ?_
  refine wpL.is rfl (d_move rfl) ?_
  refine wpL.is rfl (d_move rfl) ?_
  refine wpL.is rfl (d_add (k := .i64) (m := Int.tmod a (m : Int)) (n := ((m : Nat) : Int)) rfl rfl (r := (((a % (m : Int)).toNat : Nat) : Int)) (tmm_neg hm hm2 k1)) ?_
  refine wpL.flat [(eI a), (eN m), undef, undef, (eN 0), (eI (Int.tmod a (m : Int))), (eI a), (eN m), (eI (Int.tmod a (m : Int))), (eI (Int.tmod a (m : Int))), (Value.bool (decide (Int.tmod a (m : Int) < 0))), (eI (Int.tmod a (m : Int))), (eN m), (eN ((a % (m : Int)).toNat)), undef] (by kernel_rfl) ?_
  refine wpL.is rfl (d_assign rfl) ?_
  refine wpL.flat [(eI a), (eN m), undef, undef, (eN 0), (eN ((a % (m : Int)).toNat)), (eI a), (eN m), (eI (Int.tmod a (m : Int))), (eI (Int.tmod a (m : Int))), (Value.bool (decide (Int.tmod a (m : Int) < 0))), (eI (Int.tmod a (m : Int))), (eN m), (eN ((a % (m : Int)).toNat)), undef] (by kernel_rfl) ?_
  refine wpL.done ?_
  refine then_n ?_
  refine wpIn_seq ?_
  refine plain ?_
  refine wpL.is rfl (d_move rfl) ?_
  refine wpL.is rfl (d_assign rfl) ?_
  refine wpL.flat [(eI a), (eN m), undef, undef, (eN ((a % (m : Int)).toNat)), (eN ((a % (m : Int)).toNat)), (eI a), (eN m), (eI (Int.tmod a (m : Int))), (eI (Int.tmod a (m : Int))), (Value.bool (decide (Int.tmod a (m : Int) < 0))), (eI (Int.tmod a (m : Int))), (eN m), (eN ((a % (m : Int)).toNat)), (eN ((a % (m : Int)).toNat))] (by kernel_rfl) ?_
  refine wpL.done ?_
  refine then_n ?_
  refine wpIn_ret ?_
  refine leave0 (v := (eN ((a % (m : Int)).toNat))) (res1 Try.results16 rfl) ?_
  exact ⟨rfl, oW⟩
 ·
  refine wp_eq (l' := [(eI a), (eN m), undef, undef, (eN 0), (eN ((a % (m : Int)).toNat)), (eI a), (eN m), (eN ((a % (m : Int)).toNat)), (eN ((a % (m : Int)).toNat)), (Value.bool (decide (Int.tmod a (m : Int) < 0))), undef, undef, undef, undef]) (Eq.trans (Eq.trans (show ([(eI a), (eN m), undef, undef, (eN 0), (eI (Int.tmod a (m : Int))), (eI a), (eN m), (eI (Int.tmod a (m : Int))), (eI (Int.tmod a (m : Int))), (Value.bool (decide (Int.tmod a (m : Int) < 0))), undef, undef, undef, undef] : List Value) = [(eI a), (eN m), undef, undef, (eN 0), (eN ((a % (m : Int)).toNat)), (eI a), (eN m), (eI (Int.tmod a (m : Int))), (eI (Int.tmod a (m : Int))), (Value.bool (decide (Int.tmod a (m : Int) < 0))), undef, undef, undef, undef] from reslot [(eI a), (eN m), undef, undef, (eN 0), (eI (Int.tmod a (m : Int))), (eI a), (eN m), (eI (Int.tmod a (m : Int))), (eI (Int.tmod a (m : Int))), (Value.bool (decide (Int.tmod a (m : Int) < 0))), undef, undef, undef, undef] 5 (tmm_pos hm k1)) (show ([(eI a), (eN m), undef, undef, (eN 0), (eN ((a % (m : Int)).toNat)), (eI a), (eN m), (eI (Int.tmod a (m : Int))), (eI (Int.tmod a (m : Int))), (Value.bool (decide (Int.tmod a (m : Int) < 0))), undef, undef, undef, undef] : List Value) = [(eI a), (eN m), undef, undef, (eN 0), (eN ((a % (m : Int)).toNat)), (eI a), (eN m), (eN ((a % (m : Int)).toNat)), (eI (Int.tmod a (m : Int))), (Value.bool (decide (Int.tmod a (m : Int) < 0))), undef, undef, undef, undef] from reslot [(eI a), (eN m), undef, undef, (eN 0), (eN ((a % (m : Int)).toNat)), (eI a), (eN m), (eI (Int.tmod a (m : Int))), (eI (Int.tmod a (m : Int))), (Value.bool (decide (Int.tmod a (m : Int) < 0))), undef, undef, undef, undef] 8 (tmm_pos hm k1))) (show ([(eI a), (eN m), undef, undef, (eN 0), (eN ((a % (m : Int)).toNat)), (eI a), (eN m), (eN ((a % (m : Int)).toNat)), (eI (Int.tmod a (m : Int))), (Value.bool (decide (Int.tmod a (m : Int) < 0))), undef, undef, undef, undef] : List Value) = [(eI a), (eN m), undef, undef, (eN 0), (eN ((a % (m : Int)).toNat)), (eI a), (eN m), (eN ((a % (m : Int)).toNat)), (eN ((a % (m : Int)).toNat)), (Value.bool (decide (Int.tmod a (m : Int) < 0))), undef, undef, undef, undef] from reslot [(eI a), (eN m), undef, undef, (eN 0), (eN ((a % (m : Int)).toNat)), (eI a), (eN m), (eN ((a % (m : Int)).toNat)), (eI (Int.tmod a (m : Int))), (Value.bool (decide (Int.tmod a (m : Int) < 0))), undef, undef, undef, undef] 9 (tmm_pos hm k1))) ?_
  refine wpIn_skip ?_
  refine then_n ?_
  refine wpIn_seq ?_
  refine plain ?_
  refine wpL.is rfl (d_move rfl) ?_
  refine wpL.is rfl (d_assign rfl) ?_
  refine wpL.flat [(eI a), (eN m), undef, undef, (eN ((a % (m : Int)).toNat)), (eN ((a % (m : Int)).toNat)), (eI a), (eN m), (eN ((a % (m : Int)).toNat)), (eN ((a % (m : Int)).toNat)), (Value.bool (decide (Int.tmod a (m : Int) < 0))), undef, undef, undef, (eN ((a % (m : Int)).toNat))] (by kernel_rfl) ?_
  refine wpL.done ?_
  refine then_n ?_
  refine wpIn_ret ?_
  refine leave0 (v := (eN ((a % (m : Int)).toNat))) (res1 Try.results16 rfl) ?_
  exact ⟨rfl, oW⟩

set_option maxRecDepth 20000 in
set_option maxHeartbeats 1000000 in
theorem l2known_ok (W : World) :
    CW Try.prog 12 #[] W (Rt (RIs (.bool true) W)) := by
 have oW : Only No W W := Only.refl _ _
 refine enter (al := []) (k := 3) (l := [undef, undef, undef]) Try.func12 rfl Try.ntmps12 rfl rfl ?_
 refine wpIn_seq ?_
 refine plain ?_
 refine wpL.is rfl (d_assign rfl) ?_
 refine wpL.flat [(Value.bool false), undef, undef] (by kernel_rfl) ?_
 refine wpL.done ?_
 refine then_n ?_
 refine wpIn_seq ?_
 refine plain ?_
 refine wpL.op rfl (d_call (xl := [.const (.int .u8 2), .const (.int .u8 128)]) (al := [(eB 2), (eB 128)]) Try.func13 (by kernel_rfl) rfl rfl rfl (gfMul_ok 2 128 _)) ?_
 rintro _ w11 ⟨rfl, o12⟩
 replace oW := oW.tail0 o12
 refine wpL.is rfl (b_eql (c := (gm 2 128)) (e := 29) rfl rfl (decide_eq_true (by decide))) ?_
 refine wpL.is rfl (d_assign rfl) ?_
 refine wpL.flat [(Value.bool true), (eB (gm 2 128)), (Value.bool true)] (by kernel_rfl) ?_
 refine wpL.done ?_
 refine then_n ?_
 refine wpIn_ret ?_
 refine leave0 (v := (Value.bool true)) (res1 Try.results12 rfl) ?_
 exact ⟨rfl, oW⟩

set_option maxRecDepth 20000 in
set_option maxHeartbeats 1000000 in
theorem gfOnce_law (n : Int) (W : World) :
    CW Try.prog 9 #[(eI n)] W (Rt (RIs (.bool true) W)) := by
 have oW : Only No W W := Only.refl _ _
 refine enter (al := [(eI n)]) (k := 38) (l := ([(eI n)] ++ (us 38))) Try.func9 rfl Try.ntmps9 rfl rfl ?_
 refine wpIn_seq ?_
 refine plain ?_
 refine wpL.is rfl (d_assign rfl) ?_
 refine wpL.flat ([(eI n), undef, (Value.bool false)] ++ (us 36)) (by kernel_rfl) ?_
 refine wpL.done ?_
 refine then_n ?_
 refine wpIn_seq ?_
 refine wpIn_seq ?_
 refine plain ?_
 refine wpL.op rfl (d_call (xl := []) (al := []) Try.func12 (by kernel_rfl) rfl rfl rfl (l2known_ok _)) ?_
 rintro _ w11 ⟨rfl, o12⟩
 replace oW := oW.tail0 o12
 refine wpL.is rfl (d_not rfl rfl) ?_
 refine wpL.flat ([(eI n), undef, (Value.bool false), undef, undef, undef, (Value.bool true), (Value.bool false)] ++ (us 31)) (by kernel_rfl) ?_
 refine wpL.done ?_
 refine then_n ?_
 refine cond_f rfl ?_
 refine wpIn_skip ?_
 refine then_n ?_
 refine wpIn_seq ?_
 have hz8 := Int.emod_lt_of_pos n (show (0 : Int) < ((1000 : Nat) : Int) by omega)
 have hz9 := Int.emod_nonneg n (show ((1000 : Nat) : Int) ≠ 0 by omega)
 refine plain ?_
 refine wpL.is rfl (d_move rfl) ?_
 refine wpL.op rfl (d_call (xl := [.tmp 8, .const (.int .i64 1000)]) (al := [(eI n), (eN 1000)]) Try.func16 (by kernel_rfl) rfl rfl rfl (l2within_ok n 1000 _ (by omega) (by omega))) ?_
 rintro _ w13 ⟨rfl, o14⟩
 replace oW := oW.tail0 o14
 refine wpL.is rfl (d_sub (k := .i64) (m := (((n % ((1000 : Nat) : Int)).toNat : Nat) : Int)) (n := 500) rfl rfl (r := (((n % ((1000 : Nat) : Int)).toNat : Nat) : Int) - 500) (IntWalk.i64_in _ (by omega))) ?_
 refine wpL.flat ([(eI n), undef, (Value.bool false), undef, undef, undef, (Value.bool true), (Value.bool false), (eI n), (eN ((n % ((1000 : Nat) : Int)).toNat)), (eI ((((n % ((1000 : Nat) : Int)).toNat : Nat) : Int) - 500))] ++ (us 28)) (by kernel_rfl) ?_
 refine wpL.is rfl (d_assign rfl) ?_
 refine wpL.flat ([(eI ((((n % ((1000 : Nat) : Int)).toNat : Nat) : Int) - 500)), undef, (Value.bool false), undef, undef, undef, (Value.bool true), (Value.bool false), (eI n), (eN ((n % ((1000 : Nat) : Int)).toNat)), (eI ((((n % ((1000 : Nat) : Int)).toNat : Nat) : Int) - 500))] ++ (us 28)) (by kernel_rfl) ?_
 refine wpL.done ?_
 refine then_n ?_
 refine wpIn_seq ?_
 refine plain ?_
 refine wpL.op rfl (d_alloc s_ti36 (by simp [Value.cells]; rfl)) ?_
 rintro _ w15 ⟨b, rfl, g16, a17, o18⟩
 replace a17 : Arr 36 b ((List.replicate 256 0).map eN) w15 := by rw [List.map_replicate]; exact a17
 have l_b : (List.replicate 256 0 : List Nat).length = 256 := by simp
 have g_oW_b : W.heap.size ≤ b := Nat.le_trans oW.size g16
 replace oW := oW.tail0 o18
 refine wpL.flat ([(eI ((((n % ((1000 : Nat) : Int)).toNat : Nat) : Int) - 500)), undef, (Value.bool false), (ptr b 0), undef, undef, (Value.bool true), (Value.bool false), (eI n), (eN ((n % ((1000 : Nat) : Int)).toNat)), (eI ((((n % ((1000 : Nat) : Int)).toNat : Nat) : Int) - 500))] ++ (us 28)) (by kernel_rfl) ?_
 refine wpL.done ?_
 refine then_n ?_
 refine wpIn_seq ?_
 refine wpIn_seq ?_
 refine plain ?_
 refine wpL.is rfl (d_assign rfl) ?_
 refine wpL.flat ([(eI ((((n % ((1000 : Nat) : Int)).toNat : Nat) : Int) - 500)), undef, (Value.bool false), (ptr b 0), (eN 0), undef, (Value.bool true), (Value.bool false), (eI n), (eN ((n % ((1000 : Nat) : Int)).toNat)), (eI ((((n % ((1000 : Nat) : Int)).toNat : Nat) : Int) - 500))] ++ (us 28)) (by kernel_rfl) ?_
 refine wpL.done ?_
 refine then_n ?_
 refine wpIn_block ?_
 refine loop2 (fun (i : (Nat)) => fun (z : Nat → Value) => (([(eI ((((n % ((1000 : Nat) : Int)).toNat : Nat) : Int) - 500)), undef, (z 2), (ptr b 0), (eN i), (z 5), (Value.bool true), (Value.bool false), (eI n), (eN ((n % ((1000 : Nat) : Int)).toNat)), (eI ((((n % ((1000 : Nat) : Int)).toNat : Nat) : Int) - 500))] ++ (zs z 11 28)) : List Value)) (fun (i : (Nat)) => fun (w_ : World) => (i ≤ 255) ∧ Only (Or1 b No) w15 w_ ∧ (seenTo ((((n % ((1000 : Nat) : Int)).toNat : Nat) : Int) - 500) i).length = 256 ∧ Arr 36 b ((seenTo ((((n % ((1000 : Nat) : Int)).toNat : Nat) : Int) - 500) i).map eN) w_) (fun (i : (Nat)) => 255 - i) 0 rfl ?_ ?_
 ·
  refine ⟨?_, ?_, ?_, ?_⟩
  ·
   (try dsimp only)
   all_goals (omega)
  ·
   (try dsimp only)
   all_goals (exact Only.refl _ _)
  ·
   (try dsimp only)
   all_goals (exact seenTo_length _ 0)
  ·
   (try dsimp only)
   all_goals (rw [← seenTo_zero ((((n % ((1000 : Nat) : Int)).toNat : Nat) : Int) - 500)]; exact a17)
 ·
  rintro i z w20 ⟨hi, o19, l_b, a17⟩
  (try dsimp only)
  replace oW := oW.tail o19 (tl_new g_oW_b tl_no)
  refine wpIn_seq ?_
  refine wpIn_seq ?_
  refine plain ?_
  refine wpL.is rfl (d_move rfl) ?_
  refine wpL.is rfl (n_lss (a := i) (b := 255) rfl rfl rfl) ?_
  refine wpL.flat ([(eI ((((n % ((1000 : Nat) : Int)).toNat : Nat) : Int) - 500)), undef, (z 2), (ptr b 0), (eN i), (z 5), (Value.bool true), (Value.bool false), (eI n), (eN ((n % ((1000 : Nat) : Int)).toNat)), (eI ((((n % ((1000 : Nat) : Int)).toNat : Nat) : Int) - 500)), (eN i), (Value.bool (decide (i < 255)))] ++ (zs z 13 26)) (by kernel_rfl) ?_
  refine wpL.done ?_
  refine then_n ?_
  refine cond_if rfl (fun c0 => ?_) (fun c0 => ?_)
  ·
   refine wpIn_skip ?_
   refine then_n ?_
   refine wpIn_seq ?_
   refine wpIn_block ?_
   refine wpIn_seq ?_
   refine plain ?_
   refine wpL.is rfl (d_move rfl) ?_
   refine wpL.is rfl (d_move rfl) ?_
   refine wpL.is rfl (d_add (k := .i64) (m := (((n % ((1000 : Nat) : Int)).toNat : Nat) : Int) - 500) (n := ((i : Nat) : Int)) rfl rfl (r := ((((n % ((1000 : Nat) : Int)).toNat : Nat) : Int) - 500) + ((i : Nat) : Int)) (IntWalk.i64_in _ (by omega))) ?_
   refine wpL.flat ([(eI ((((n % ((1000 : Nat) : Int)).toNat : Nat) : Int) - 500)), undef, (z 2), (ptr b 0), (eN i), (z 5), (Value.bool true), (Value.bool false), (eI n), (eN ((n % ((1000 : Nat) : Int)).toNat)), (eI ((((n % ((1000 : Nat) : Int)).toNat : Nat) : Int) - 500)), (eN i), (Value.bool (decide (i < 255))), (z 13), (z 14), (eI ((((n % ((1000 : Nat) : Int)).toNat : Nat) : Int) - 500)), (eN i), (eI (((((n % ((1000 : Nat) : Int)).toNat : Nat) : Int) - 500) + ((i : Nat) : Int)))] ++ (zs z 18 21)) (by kernel_rfl) ?_
   refine wpL.op rfl (d_call (xl := [.tmp 17]) (al := [(eI (((((n % ((1000 : Nat) : Int)).toNat : Nat) : Int) - 500) + ((i : Nat) : Int)))]) Try.func17 (by kernel_rfl) rfl rfl rfl (gfExp_ok (((((n % ((1000 : Nat) : Int)).toNat : Nat) : Int) - 500) + ((i : Nat) : Int)) _)) ?_
   rintro _ w21 ⟨rfl, o22⟩
   replace a17 := a17.step0 o22
   replace oW := oW.tail0 o22
   replace o19 := o19.tail0 o22
   refine wpL.is rfl (d_assign rfl) ?_
   refine wpL.flat ([(eI ((((n % ((1000 : Nat) : Int)).toNat : Nat) : Int) - 500)), undef, (z 2), (ptr b 0), (eN i), (eB (exI (((((n % ((1000 : Nat) : Int)).toNat : Nat) : Int) - 500) + ((i : Nat) : Int)))), (Value.bool true), (Value.bool false), (eI n), (eN ((n % ((1000 : Nat) : Int)).toNat)), (eI ((((n % ((1000 : Nat) : Int)).toNat : Nat) : Int) - 500)), (eN i), (Value.bool (decide (i < 255))), (z 13), (z 14), (eI ((((n % ((1000 : Nat) : Int)).toNat : Nat) : Int) - 500)), (eN i), (eI (((((n % ((1000 : Nat) : Int)).toNat : Nat) : Int) - 500) + ((i : Nat) : Int))), (eB (exI (((((n % ((1000 : Nat) : Int)).toNat : Nat) : Int) - 500) + ((i : Nat) : Int))))] ++ (zs z 19 20)) (by kernel_rfl) ?_
   refine wpL.done ?_
   refine then_n ?_
   refine wpIn_seq ?_
   refine plain ?_
   refine wpL.is rfl (d_move rfl) ?_
   refine wpL.is rfl (d_indexArr1 (i := ((exI (((((n % ((1000 : Nat) : Int)).toNat : Nat) : Int) - 500) + ((i : Nat) : Int))).toNat)) Try.underlying36 s_ti3 rfl (show _ = Value.int _ (((exI (((((n % ((1000 : Nat) : Int)).toNat : Nat) : Int) - 500) + ((i : Nat) : Int))) : UInt8).toNat : Int) from rfl) (by have h__ := UInt8.toNat_lt (exI (((((n % ((1000 : Nat) : Int)).toNat : Nat) : Int) - 500) + ((i : Nat) : Int))); omega)) ?_
   refine wpL.is rfl (d_load ⟨_, Try.underlying3, rfl⟩ rfl a17 (m_at (d := 0) (by rw [l_b]; exact UInt8.toNat_lt _))) ?_
   refine wpL.flat ([(eI ((((n % ((1000 : Nat) : Int)).toNat : Nat) : Int) - 500)), undef, (z 2), (ptr b 0), (eN i), (eB (exI (((((n % ((1000 : Nat) : Int)).toNat : Nat) : Int) - 500) + ((i : Nat) : Int)))), (Value.bool true), (Value.bool false), (eI n), (eN ((n % ((1000 : Nat) : Int)).toNat)), (eI ((((n % ((1000 : Nat) : Int)).toNat : Nat) : Int) - 500)), (eN i), (Value.bool (decide (i < 255))), (z 13), (z 14), (eI ((((n % ((1000 : Nat) : Int)).toNat : Nat) : Int) - 500)), (eN i), (eI (((((n % ((1000 : Nat) : Int)).toNat : Nat) : Int) - 500) + ((i : Nat) : Int))), (eB (exI (((((n % ((1000 : Nat) : Int)).toNat : Nat) : Int) - 500) + ((i : Nat) : Int)))), (eB (exI (((((n % ((1000 : Nat) : Int)).toNat : Nat) : Int) - 500) + ((i : Nat) : Int)))), (ptr b ((exI (((((n % ((1000 : Nat) : Int)).toNat : Nat) : Int) - 500) + ((i : Nat) : Int))).toNat)), (eN ((seenTo ((((n % ((1000 : Nat) : Int)).toNat : Nat) : Int) - 500) i).getD ((exI (((((n % ((1000 : Nat) : Int)).toNat : Nat) : Int) - 500) + ((i : Nat) : Int))).toNat) 0))] ++ (zs z 22 17)) (by kernel_rfl) ?_
   refine wpL.is rfl (n_add (a := ((seenTo ((((n % ((1000 : Nat) : Int)).toNat : Nat) : Int) - 500) i).getD ((exI (((((n % ((1000 : Nat) : Int)).toNat : Nat) : Int) - 500) + ((i : Nat) : Int))).toNat) 0)) (b := 1) rfl rfl (by rw [seen_none ((((n % ((1000 : Nat) : Int)).toNat : Nat) : Int) - 500) c0]; decide)) ?_
   refine wpL.is rfl (d_indexArr1 (i := ((exI (((((n % ((1000 : Nat) : Int)).toNat : Nat) : Int) - 500) + ((i : Nat) : Int))).toNat)) Try.underlying36 s_ti3 rfl (show _ = Value.int _ (((exI (((((n % ((1000 : Nat) : Int)).toNat : Nat) : Int) - 500) + ((i : Nat) : Int))) : UInt8).toNat : Int) from rfl) (by have h__ := UInt8.toNat_lt (exI (((((n % ((1000 : Nat) : Int)).toNat : Nat) : Int) - 500) + ((i : Nat) : Int))); omega)) ?_
   refine wpL.op rfl (d_store (b := b) (i := ((exI (((((n % ((1000 : Nat) : Int)).toNat : Nat) : Int) - 500) + ((i : Nat) : Int))).toNat)) (v := (eN (((seenTo ((((n % ((1000 : Nat) : Int)).toNat : Nat) : Int) - 500) i).getD ((exI (((((n % ((1000 : Nat) : Int)).toNat : Nat) : Int) - 500) + ((i : Nat) : Int))).toNat) 0) + 1))) s_ti3 rfl rfl rfl a17 (by rw [List.length_map, l_b]; exact UInt8.toNat_lt _) (m_put (seenTo ((((n % ((1000 : Nat) : Int)).toNat : Nat) : Int) - 500) i) ((exI (((((n % ((1000 : Nat) : Int)).toNat : Nat) : Int) - 500) + ((i : Nat) : Int))).toNat) (((seenTo ((((n % ((1000 : Nat) : Int)).toNat : Nat) : Int) - 500) i).getD ((exI (((((n % ((1000 : Nat) : Int)).toNat : Nat) : Int) - 500) + ((i : Nat) : Int))).toNat) 0) + 1) eN)) ?_
   rintro _ w23 ⟨a24, o25⟩
   replace oW := oW.tailb o25 g_oW_b
   replace o19 := o19.tail o25 (fun k _ e => by have : k = b := e; rw [this]; exact in1)
   replace l_b : ((seenTo ((((n % ((1000 : Nat) : Int)).toNat : Nat) : Int) - 500) i).set ((exI (((((n % ((1000 : Nat) : Int)).toNat : Nat) : Int) - 500) + ((i : Nat) : Int))).toNat) (((seenTo ((((n % ((1000 : Nat) : Int)).toNat : Nat) : Int) - 500) i).getD ((exI (((((n % ((1000 : Nat) : Int)).toNat : Nat) : Int) - 500) + ((i : Nat) : Int))).toNat) 0) + 1) : List Nat).length = 256 := (List.length_set ..).trans l_b
   refine wpL.flat ([(eI ((((n % ((1000 : Nat) : Int)).toNat : Nat) : Int) - 500)), undef, (z 2), (ptr b 0), (eN i), (eB (exI (((((n % ((1000 : Nat) : Int)).toNat : Nat) : Int) - 500) + ((i : Nat) : Int)))), (Value.bool true), (Value.bool false), (eI n), (eN ((n % ((1000 : Nat) : Int)).toNat)), (eI ((((n % ((1000 : Nat) : Int)).toNat : Nat) : Int) - 500)), (eN i), (Value.bool (decide (i < 255))), (z 13), (z 14), (eI ((((n % ((1000 : Nat) : Int)).toNat : Nat) : Int) - 500)), (eN i), (eI (((((n % ((1000 : Nat) : Int)).toNat : Nat) : Int) - 500) + ((i : Nat) : Int))), (eB (exI (((((n % ((1000 : Nat) : Int)).toNat : Nat) : Int) - 500) + ((i : Nat) : Int)))), (eB (exI (((((n % ((1000 : Nat) : Int)).toNat : Nat) : Int) - 500) + ((i : Nat) : Int)))), (ptr b ((exI (((((n % ((1000 : Nat) : Int)).toNat : Nat) : Int) - 500) + ((i : Nat) : Int))).toNat)), (eN ((seenTo ((((n % ((1000 : Nat) : Int)).toNat : Nat) : Int) - 500) i).getD ((exI (((((n % ((1000 : Nat) : Int)).toNat : Nat) : Int) - 500) + ((i : Nat) : Int))).toNat) 0)), (eN (((seenTo ((((n % ((1000 : Nat) : Int)).toNat : Nat) : Int) - 500) i).getD ((exI (((((n % ((1000 : Nat) : Int)).toNat : Nat) : Int) - 500) + ((i : Nat) : Int))).toNat) 0) + 1)), (ptr b ((exI (((((n % ((1000 : Nat) : Int)).toNat : Nat) : Int) - 500) + ((i : Nat) : Int))).toNat))] ++ (zs z 24 15)) (by kernel_rfl) ?_
   refine wpL.done ?_
   replace a24 : Arr 36 b ((seenTo ((((n % ((1000 : Nat) : Int)).toNat : Nat) : Int) - 500) (i + 1)).map eN) w23 := by rw [← (seen_step ((((n % ((1000 : Nat) : Int)).toNat : Nat) : Int) - 500) c0)]; exact a24
   replace l_b : (seenTo ((((n % ((1000 : Nat) : Int)).toNat : Nat) : Int) - 500) (i + 1) : List Nat).length = 256 := seenTo_length _ _
   refine then_n ?_
   refine forget (fun zf26 => ([(eI ((((n % ((1000 : Nat) : Int)).toNat : Nat) : Int) - 500)), undef, (zf26 2), (ptr b 0), (eN i), (eB (exI (((((n % ((1000 : Nat) : Int)).toNat : Nat) : Int) - 500) + ((i : Nat) : Int)))), (Value.bool true), (Value.bool false), (eI n), (eN ((n % ((1000 : Nat) : Int)).toNat)), (eI ((((n % ((1000 : Nat) : Int)).toNat : Nat) : Int) - 500))] ++ (zs zf26 11 28))) (by kernel_rfl) (fun zf26 => ?_)
   refine wpIn_seq ?_
   refine plain ?_
   refine wpL.is rfl (d_move rfl) ?_
   refine wpL.is rfl (d_indexArr1 (i := ((exI (((((n % ((1000 : Nat) : Int)).toNat : Nat) : Int) - 500) + ((i : Nat) : Int))).toNat)) Try.underlying36 s_ti3 rfl (show _ = Value.int _ (((exI (((((n % ((1000 : Nat) : Int)).toNat : Nat) : Int) - 500) + ((i : Nat) : Int))) : UInt8).toNat : Int) from rfl) (by have h__ := UInt8.toNat_lt (exI (((((n % ((1000 : Nat) : Int)).toNat : Nat) : Int) - 500) + ((i : Nat) : Int))); omega)) ?_
   refine wpL.is rfl (d_load ⟨_, Try.underlying3, rfl⟩ rfl a24 (m_at (d := 0) (by rw [l_b]; exact UInt8.toNat_lt _))) ?_
   refine wpL.flat ([(eI ((((n % ((1000 : Nat) : Int)).toNat : Nat) : Int) - 500)), undef, (zf26 2), (ptr b 0), (eN i), (eB (exI (((((n % ((1000 : Nat) : Int)).toNat : Nat) : Int) - 500) + ((i : Nat) : Int)))), (Value.bool true), (Value.bool false), (eI n), (eN ((n % ((1000 : Nat) : Int)).toNat)), (eI ((((n % ((1000 : Nat) : Int)).toNat : Nat) : Int) - 500))] ++ (zs zf26 11 13 ++ [(eB (exI (((((n % ((1000 : Nat) : Int)).toNat : Nat) : Int) - 500) + ((i : Nat) : Int)))), (ptr b ((exI (((((n % ((1000 : Nat) : Int)).toNat : Nat) : Int) - 500) + ((i : Nat) : Int))).toNat)), (eN ((seenTo ((((n % ((1000 : Nat) : Int)).toNat : Nat) : Int) - 500) (i + 1)).getD ((exI (((((n % ((1000 : Nat) : Int)).toNat : Nat) : Int) - 500) + ((i : Nat) : Int))).toNat) 0))] ++ (zs zf26 27 12))) (by kernel_rfl) ?_
   refine wpL.is rfl (n_gtr (a := ((seenTo ((((n % ((1000 : Nat) : Int)).toNat : Nat) : Int) - 500) (i + 1)).getD ((exI (((((n % ((1000 : Nat) : Int)).toNat : Nat) : Int) - 500) + ((i : Nat) : Int))).toNat) 0)) (b := 1) rfl rfl (decide_eq_false (by rw [seen_one ((((n % ((1000 : Nat) : Int)).toNat : Nat) : Int) - 500) c0]; decide))) ?_
   refine wpL.is rfl (d_move rfl) ?_
   refine wpL.onis rfl rfl rfl (Nat.le_of_ble_eq_true rfl) rfl (d_move rfl) ?_
   refine wpL.flat ([(eI ((((n % ((1000 : Nat) : Int)).toNat : Nat) : Int) - 500)), undef, (zf26 2), (ptr b 0), (eN i), (eB (exI (((((n % ((1000 : Nat) : Int)).toNat : Nat) : Int) - 500) + ((i : Nat) : Int)))), (Value.bool true), (Value.bool false), (eI n), (eN ((n % ((1000 : Nat) : Int)).toNat)), (eI ((((n % ((1000 : Nat) : Int)).toNat : Nat) : Int) - 500))] ++ (zs zf26 11 13 ++ [(eB (exI (((((n % ((1000 : Nat) : Int)).toNat : Nat) : Int) - 500) + ((i : Nat) : Int)))), (ptr b ((exI (((((n % ((1000 : Nat) : Int)).toNat : Nat) : Int) - 500) + ((i : Nat) : Int))).toNat)), (eN ((seenTo ((((n % ((1000 : Nat) : Int)).toNat : Nat) : Int) - 500) (i + 1)).getD ((exI (((((n % ((1000 : Nat) : Int)).toNat : Nat) : Int) - 500) + ((i : Nat) : Int))).toNat) 0)), (Value.bool false), (Value.bool false), (eB (exI (((((n % ((1000 : Nat) : Int)).toNat : Nat) : Int) - 500) + ((i : Nat) : Int))))] ++ (zs zf26 30 9))) (by kernel_rfl) ?_
   refine wpL.onis rfl rfl rfl (Nat.le_of_ble_eq_true rfl) rfl (b_eql (c := (exI (((((n % ((1000 : Nat) : Int)).toNat : Nat) : Int) - 500) + ((i : Nat) : Int)))) (e := 0) rfl rfl (decide_eq_false (exI_ne0 _))) ?_
   refine wpL.is rfl (d_pick (b := false) (v := (Value.bool false)) rfl rfl) ?_
   refine wpL.is rfl (d_move rfl) ?_
   refine wpL.flat ([(eI ((((n % ((1000 : Nat) : Int)).toNat : Nat) : Int) - 500)), undef, (zf26 2), (ptr b 0), (eN i), (eB (exI (((((n % ((1000 : Nat) : Int)).toNat : Nat) : Int) - 500) + ((i : Nat) : Int)))), (Value.bool true), (Value.bool false), (eI n), (eN ((n % ((1000 : Nat) : Int)).toNat)), (eI ((((n % ((1000 : Nat) : Int)).toNat : Nat) : Int) - 500))] ++ (zs zf26 11 13 ++ [(eB (exI (((((n % ((1000 : Nat) : Int)).toNat : Nat) : Int) - 500) + ((i : Nat) : Int)))), (ptr b ((exI (((((n % ((1000 : Nat) : Int)).toNat : Nat) : Int) - 500) + ((i : Nat) : Int))).toNat)), (eN ((seenTo ((((n % ((1000 : Nat) : Int)).toNat : Nat) : Int) - 500) (i + 1)).getD ((exI (((((n % ((1000 : Nat) : Int)).toNat : Nat) : Int) - 500) + ((i : Nat) : Int))).toNat) 0)), (Value.bool false), (Value.bool false), (eB (exI (((((n % ((1000 : Nat) : Int)).toNat : Nat) : Int) - 500) + ((i : Nat) : Int)))), (Value.bool false), (Value.bool false), (Value.bool false)] ++ (zs zf26 33 6))) (by kernel_rfl) ?_
   refine wpL.onis rfl rfl rfl (Nat.le_of_ble_eq_true rfl) rfl (d_move rfl) ?_
   refine wpL.on rfl rfl rfl (Nat.le_of_ble_eq_true rfl) rfl (d_call (xl := [.tmp 33]) (al := [(eB (exI (((((n % ((1000 : Nat) : Int)).toNat : Nat) : Int) - 500) + ((i : Nat) : Int))))]) Try.func19 (by kernel_rfl) rfl rfl rfl (gfLog_ok (exI (((((n % ((1000 : Nat) : Int)).toNat : Nat) : Int) - 500) + ((i : Nat) : Int))) _)) ?_
   rintro _ w27 ⟨rfl, o28⟩
   replace a24 := a24.step0 o28
   replace oW := oW.tail0 o28
   replace o19 := o19.tail0 o28
   refine wpL.onis rfl rfl rfl (Nat.le_of_ble_eq_true rfl) rfl (d_move rfl) ?_
   refine wpL.flat ([(eI ((((n % ((1000 : Nat) : Int)).toNat : Nat) : Int) - 500)), undef, (zf26 2), (ptr b 0), (eN i), (eB (exI (((((n % ((1000 : Nat) : Int)).toNat : Nat) : Int) - 500) + ((i : Nat) : Int)))), (Value.bool true), (Value.bool false), (eI n), (eN ((n % ((1000 : Nat) : Int)).toNat)), (eI ((((n % ((1000 : Nat) : Int)).toNat : Nat) : Int) - 500))] ++ (zs zf26 11 13 ++ [(eB (exI (((((n % ((1000 : Nat) : Int)).toNat : Nat) : Int) - 500) + ((i : Nat) : Int)))), (ptr b ((exI (((((n % ((1000 : Nat) : Int)).toNat : Nat) : Int) - 500) + ((i : Nat) : Int))).toNat)), (eN ((seenTo ((((n % ((1000 : Nat) : Int)).toNat : Nat) : Int) - 500) (i + 1)).getD ((exI (((((n % ((1000 : Nat) : Int)).toNat : Nat) : Int) - 500) + ((i : Nat) : Int))).toNat) 0)), (Value.bool false), (Value.bool false), (eB (exI (((((n % ((1000 : Nat) : Int)).toNat : Nat) : Int) - 500) + ((i : Nat) : Int)))), (Value.bool false), (Value.bool false), (Value.bool false), (eB (exI (((((n % ((1000 : Nat) : Int)).toNat : Nat) : Int) - 500) + ((i : Nat) : Int)))), (eI (lgI (exI (((((n % ((1000 : Nat) : Int)).toNat : Nat) : Int) - 500) + ((i : Nat) : Int))))), (eB (exI (((((n % ((1000 : Nat) : Int)).toNat : Nat) : Int) - 500) + ((i : Nat) : Int)))), (zf26 36), (zf26 37), (zf26 38)])) (by kernel_rfl) ?_
   refine wpL.on rfl rfl rfl (Nat.le_of_ble_eq_true rfl) rfl (d_call (xl := [.tmp 35]) (al := [(eB (exI (((((n % ((1000 : Nat) : Int)).toNat : Nat) : Int) - 500) + ((i : Nat) : Int))))]) Try.func20 (by kernel_rfl) rfl rfl rfl (ref2Log_ok (exI (((((n % ((1000 : Nat) : Int)).toNat : Nat) : Int) - 500) + ((i : Nat) : Int))) _)) ?_
   rintro _ w29 ⟨rfl, o30⟩
   replace a24 := a24.step0 o30
   replace oW := oW.tail0 o30
   replace o19 := o19.tail0 o30
   refine wpL.onis rfl rfl rfl (Nat.le_of_ble_eq_true rfl) rfl (d_neq (k := .i64) (m := lgI (exI (((((n % ((1000 : Nat) : Int)).toNat : Nat) : Int) - 500) + ((i : Nat) : Int)))) (n := lgI (exI (((((n % ((1000 : Nat) : Int)).toNat : Nat) : Int) - 500) + ((i : Nat) : Int)))) rfl rfl (by rw [decide_eq_true rfl] <;> rfl)) ?_
   refine wpL.is rfl (d_pick (b := false) (v := (Value.bool false)) rfl rfl) ?_
   refine wpL.flat ([(eI ((((n % ((1000 : Nat) : Int)).toNat : Nat) : Int) - 500)), undef, (zf26 2), (ptr b 0), (eN i), (eB (exI (((((n % ((1000 : Nat) : Int)).toNat : Nat) : Int) - 500) + ((i : Nat) : Int)))), (Value.bool true), (Value.bool false), (eI n), (eN ((n % ((1000 : Nat) : Int)).toNat)), (eI ((((n % ((1000 : Nat) : Int)).toNat : Nat) : Int) - 500))] ++ (zs zf26 11 13 ++ [(eB (exI (((((n % ((1000 : Nat) : Int)).toNat : Nat) : Int) - 500) + ((i : Nat) : Int)))), (ptr b ((exI (((((n % ((1000 : Nat) : Int)).toNat : Nat) : Int) - 500) + ((i : Nat) : Int))).toNat)), (eN ((seenTo ((((n % ((1000 : Nat) : Int)).toNat : Nat) : Int) - 500) (i + 1)).getD ((exI (((((n % ((1000 : Nat) : Int)).toNat : Nat) : Int) - 500) + ((i : Nat) : Int))).toNat) 0)), (Value.bool false), (Value.bool false), (eB (exI (((((n % ((1000 : Nat) : Int)).toNat : Nat) : Int) - 500) + ((i : Nat) : Int)))), (Value.bool false), (Value.bool false), (Value.bool false), (eB (exI (((((n % ((1000 : Nat) : Int)).toNat : Nat) : Int) - 500) + ((i : Nat) : Int)))), (eI (lgI (exI (((((n % ((1000 : Nat) : Int)).toNat : Nat) : Int) - 500) + ((i : Nat) : Int))))), (eB (exI (((((n % ((1000 : Nat) : Int)).toNat : Nat) : Int) - 500) + ((i : Nat) : Int)))), (eI (lgI (exI (((((n % ((1000 : Nat) : Int)).toNat : Nat) : Int) - 500) + ((i : Nat) : Int))))), (Value.bool false), (Value.bool false)])) (by kernel_rfl) ?_
   refine wpL.done ?_
   refine then_n ?_
   refine forget (fun zf31 => ([(eI ((((n % ((1000 : Nat) : Int)).toNat : Nat) : Int) - 500)), undef, (zf31 2), (ptr b 0), (eN i), (zf31 5), (Value.bool true), (Value.bool false), (eI n), (eN ((n % ((1000 : Nat) : Int)).toNat)), (eI ((((n % ((1000 : Nat) : Int)).toNat : Nat) : Int) - 500))] ++ (zs zf31 11 27 ++ [(Value.bool false)]))) (by kernel_rfl) (fun zf31 => ?_)
   refine cond_f rfl ?_
   refine wpIn_skip ?_
   refine inb_n (then_n ?_)
   refine plain ?_
   refine wpL.is rfl (d_move rfl) ?_
   refine wpL.is rfl (n_add (a := i) (b := 1) rfl rfl (by omega)) ?_
   refine wpL.is rfl (d_assign rfl) ?_
   refine wpL.flat ([(eI ((((n % ((1000 : Nat) : Int)).toNat : Nat) : Int) - 500)), undef, (zf31 2), (ptr b 0), (eN (i + 1)), (zf31 5), (Value.bool true), (Value.bool false), (eI n), (eN ((n % ((1000 : Nat) : Int)).toNat)), (eI ((((n % ((1000 : Nat) : Int)).toNat : Nat) : Int) - 500)), (zf31 11), (zf31 12), (eN i), (eN (i + 1))] ++ (zs zf31 15 23 ++ [(Value.bool false)])) (by kernel_rfl) ?_
   refine wpL.done ?_
   refine then_n ?_
   refine ⟨_, (i + 1), rfl, rfl, ⟨?_, ?_, ?_, ?_⟩, ?_⟩
   ·
    (try dsimp only)
    all_goals (omega)
   ·
    (try dsimp only)
    all_goals (exact o19)
   ·
    (try dsimp only)
    all_goals (exact seenTo_length _ _)
   ·
    (try dsimp only)
    all_goals (exact a24)
   ·
    (try dsimp only)
    all_goals (omega)
  ·
   refine wpIn_exit ?_
   refine then_x (then_x (inb_e ?_))
   refine then_n ?_
   refine forget (fun zf32 => ([(zf32 0), (zf32 1), (zf32 2), (zf32 3), (eN i)] ++ (zs zf32 5 34))) (by kernel_rfl) (fun zf32 => ?_)
   refine wpIn_seq ?_
   refine plain ?_
   refine wpL.is rfl (d_assign rfl) ?_
   refine wpL.flat ([(zf32 0), (zf32 1), (Value.bool true), (zf32 3), (eN i)] ++ (zs zf32 5 34)) (by kernel_rfl) ?_
   refine wpL.done ?_
   refine then_n ?_
   refine wpIn_ret ?_
   refine leave0 (v := (Value.bool true)) (res1 Try.results9 rfl) ?_
   exact ⟨rfl, oW⟩

end Go.Proofs.YtlbaacellnlpfaaF
