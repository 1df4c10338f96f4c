import Derived.Test.YtgalehapmdabeaaFz
import Derived.Test.YtgalehapmdabeaaTy
import Derived.Test.YtgalehapmdabeaaHpgu
set_option linter.unusedVariables false
set_option linter.unusedSimpArgs false
namespace Go.Proofs.YtgalehapmdabeaaF
open Go Go.Shelf Go.Proofs.YtgalehapmdabeaaS Ram
set_option maxRecDepth 20000 in
set_option maxHeartbeats 4000000 in
theorem pageMends_law (la : List UInt8) (ll : List Int) (lm : List Int) (bh : Bool) (u1 : Value) (u2 : Value) (u3 : Value) (W : World) (h1 : Ps No (Seq kB la u1) W) (h2 : Ps No (Seq kI ll u2) W) (h3 : Ps No (Seq kI lm u3) W) (g1 : la.length ≤ 140737488351232) (g2 : ll.length ≤ 17592186043904) (g3 : lm.length ≤ 17592186043904) :
    CW Try.prog 4 #[u1, u2, u3, (Value.bool bh)] W (Rt (RIs (.bool true) W)) := by
 have oW : Only No W W := Only.refl _ _
 refine enter (al := [u1, u2, u3, (Value.bool bh)]) (k := 69) (l := ([u1, u2, u3, (Value.bool bh)] ++ (us 69))) Try.func4 rfl Try.ntmps4 rfl rfl ?_
 refine wpIn_seq ?_
 refine plain ?_
 refine wI (d_assign rfl) ?_
 refine wF ([u1, u2, u3, (Value.bool bh), undef, undef, undef, undef, (Value.bool false)] ++ (us 64)) ?_
 refine wpL.done ?_
 refine then_n ?_
 refine wpIn_seq ?_
 refine wpIn_seq ?_
 refine plain ?_
 refine wO (d_call (xl := []) (al := []) Try.func14 (by kernel_rfl) rfl rfl rfl (l8known_ok _)) ?_
 rintro _ w11 ⟨rfl, o12⟩
 replace h1 := h1.step0 o12
 replace h2 := h2.step0 o12
 replace h3 := h3.step0 o12
 replace oW := oW.tail0 o12
 refine wI (d_not rfl rfl) ?_
 refine wF ([u1, u2, u3, (Value.bool bh), undef, undef, undef, undef, (Value.bool false)] ++ (us 7 ++ [(Value.bool true), (Value.bool false)] ++ (us 55))) ?_
 refine wpL.done ?_
 refine then_n ?_
 refine cond_f rfl ?_
 refine wpIn_skip ?_
 refine then_n ?_
 refine wpIn_seq ?_
 refine plain ?_
 refine wI (d_move rfl) ?_
 refine wO (d_call (xl := [.tmp 18, .const (.int .i64 48)]) (al := [u1, (eN 48)]) Try.func15 (by kernel_rfl) rfl rfl rfl (l4Data_ok la 48 u1 _ (Ps.no h1) (by omega))) ?_
 rintro u15 w13 f16
 replace f16 := f16.ps
 obtain ⟨f16, o14⟩ := f16
 replace f16 := f16.less (Y := (Old W.heap.size)) (old_old oW.size)
 replace h1 := h1.step0 o14
 replace h2 := h2.step0 o14
 replace h3 := h3.step0 o14
 replace oW := oW.tail0 o14
 refine wI (d_assign rfl) ?_
 refine wF ([u1, u2, u3, (Value.bool bh), undef, undef, undef, undef, (Value.bool false), u15] ++ (us 6 ++ [(Value.bool true), (Value.bool false), u1, u15] ++ (us 53))) ?_
 refine wpL.done ?_
 refine then_n ?_
 refine wpIn_seq ?_
 refine plain ?_
 refine wI (d_assign rfl) ?_
 refine wF ([u1, u2, u3, (Value.bool bh), undef, undef, undef, undef, (Value.bool false), u15, (eN 3)] ++ (us 5 ++ [(Value.bool true), (Value.bool false), u1, u15] ++ (us 53))) ?_
 refine wpL.done ?_
 refine then_n ?_
 refine wpIn_seq ?_
 refine wpIn_seq ?_
 refine plain ?_
 refine wI (d_move rfl) ?_
 refine wF ([u1, u2, u3, (Value.bool bh), undef, undef, undef, undef, (Value.bool false), u15, (eN 3)] ++ (us 5 ++ [(Value.bool true), (Value.bool false), u1, u15, (Value.bool bh)] ++ (us 52))) ?_
 refine wpL.done ?_
 refine then_n ?_
 refine cond_b rfl (fun hv => ?_) (fun hv => ?_)
 ·
  refine plain ?_
  refine wI (d_assign rfl) ?_
  refine wF ([u1, u2, u3, (Value.bool bh), undef, undef, undef, undef, (Value.bool false), u15, (eN 5)] ++ (us 5 ++ [(Value.bool true), (Value.bool false), u1, u15, (Value.bool bh)] ++ (us 52))) ?_
  refine wpL.done ?_
  refine then_n ?_
  refine wpIn_seq ?_
  refine plain ?_
  refine wI (d_move rfl) ?_
  refine wI (d_move rfl) ?_
  refine wO (d_call (xl := [.tmp 21, .tmp 22]) (al := [u2, (eN 5)]) Try.func23 (by kernel_rfl) rfl rfl rfl (l8noise_ok ll 5 u2 _ (Ps.no h2) (by omega) (by omega))) ?_
  rintro u19 w17 f20
  obtain ⟨bo21, f20, g22, o18⟩ := f20
  have q_oW_at := qnew g22 oW.size
  replace h1 := h1.newq o18 g22
  replace h2 := h2.newq o18 g22
  replace h3 := h3.newq o18 g22
  replace f16 := f16.newq o18 g22
  replace oW := oW.tail0 o18
  refine wF ([u1, u2, u3, (Value.bool bh), undef, undef, undef, undef, (Value.bool false), u15, (eN 5)] ++ (us 5 ++ [(Value.bool true), (Value.bool false), u1, u15, (Value.bool bh), u2, (eN 5), u19] ++ (us 49))) ?_
  refine wI (d_assign rfl) ?_
  refine wF ([u1, u2, u3, (Value.bool bh), undef, undef, undef, undef, (Value.bool false), u15, (eN 5), u19, undef, undef, undef, undef, (Value.bool true), (Value.bool false), u1, u15, (Value.bool bh), u2, (eN 5), u19] ++ (us 49)) ?_
  refine wpL.done ?_
  refine then_n ?_
  refine wpIn_seq ?_
  refine plain ?_
  refine wI (d_assign rfl) ?_
  refine wI (d_assign rfl) ?_
  refine wF ([u1, u2, u3, (Value.bool bh), undef, undef, undef, undef, (Value.bool false), u15, (eN 5), u19, (eN 0), (eN 0), undef, undef, (Value.bool true), (Value.bool false), u1, u15, (Value.bool bh), u2, (eN 5), u19] ++ (us 49)) ?_
  refine wpL.done ?_
  refine then_n ?_
  refine wpIn_seq ?_
  refine wpIn_seq ?_
  refine plain ?_
  refine wI (d_assign rfl) ?_
  refine wF ([u1, u2, u3, (Value.bool bh), undef, undef, undef, undef, (Value.bool false), u15, (eN 5), u19, (eN 0), (eN 0), (eN 0), undef, (Value.bool true), (Value.bool false), u1, u15, (Value.bool bh), u2, (eN 5), u19] ++ (us 49)) ?_
  refine wpL.done ?_
  refine then_n ?_
  refine wpIn_block ?_
  refine loop2 (fun (i : (Nat)) => fun (z : Nat → Value) => (([u1, u2, u3, (Value.bool bh), undef, undef, undef, undef, (Value.bool false), u15, (eN 5), u19, (eN ((((noiseL ll 5).take i).filter fun k => decide (k < 256)).length)), (eN (i - (((noiseL ll 5).take i).filter fun k => decide (k < 256)).length)), (eN i), undef, (Value.bool true), (Value.bool false), u1, u15, (Value.bool bh), u2, (eN 5), u19] ++ (zs z 24 15 ++ (us 34))) : List Value)) (fun (i : (Nat)) => fun (w_ : World) => (i ≤ (noiseL ll 5).length) ∧ Only (Orq bo21 No) w17 w_ ∧ Ow 3 1 bo21 u19 (noiseL ll 5).length ((noiseL ll 5).map eN) w_) (fun (i : (Nat)) => (noiseL ll 5).length - i) 0 rfl ?_ ?_
  ·
   refine ⟨?_, ?_, ?_⟩
   ·
    exact Nat.zero_le _
   ·
    exact Only.refl _ _
   ·
    exact f20
  rintro i z w24 ⟨hi, o23, f20⟩
  (try dsimp only)
  replace h1 := h1.step o23 (orq_mono no_any)
  replace h2 := h2.step o23 (orq_mono no_any)
  replace h3 := h3.step o23 (orq_mono no_any)
  replace f16 := f16.step o23 (orq_mono no_any)
  replace oW := oW.tail o23 (tl_q q_oW_at (fun _ e => by cases e) tl_no)
  have q_o23_at : Fr bo21 bo21 w17.heap.size := Fr.same
  refine wpIn_seq ?_
  refine wpIn_seq ?_
  refine plain ?_
  refine wI (d_move rfl) ?_
  refine wI (d_move rfl) ?_
  refine wI (d_lenS rfl Try.underlying23 rfl (f20.seq (X := No) (fun _ _ h => h))) ?_
  refine wF ([u1, u2, u3, (Value.bool bh), undef, undef, undef, undef, (Value.bool false), u15, (eN 5), u19, (eN ((((noiseL ll 5).take i).filter fun k => decide (k < 256)).length)), (eN (i - (((noiseL ll 5).take i).filter fun k => decide (k < 256)).length)), (eN i), undef, (Value.bool true), (Value.bool false), u1, u15, (Value.bool bh), u2, (eN 5), u19, (eN i), u19, (eN ((noiseL ll 5).length))] ++ (zs z 27 12 ++ (us 34))) ?_
  refine wI (n_lss (a := i) (b := ((noiseL ll 5).length)) rfl rfl rfl) ?_
  refine wF ([u1, u2, u3, (Value.bool bh), undef, undef, undef, undef, (Value.bool false), u15, (eN 5), u19, (eN ((((noiseL ll 5).take i).filter fun k => decide (k < 256)).length)), (eN (i - (((noiseL ll 5).take i).filter fun k => decide (k < 256)).length)), (eN i), undef, (Value.bool true), (Value.bool false), u1, u15, (Value.bool bh), u2, (eN 5), u19, (eN i), u19, (eN ((noiseL ll 5).length)), (Value.bool (decide (i < ((noiseL ll 5).length))))] ++ (zs z 28 11 ++ (us 34))) ?_
  refine wpL.done ?_
  refine then_n ?_
  refine cond_if rfl (fun c2 => ?_) (fun c2 => ?_)
  ·
   refine wpIn_skip ?_
   refine then_n ?_
   refine wpIn_seq ?_
   refine wpIn_block ?_
   refine wpIn_seq ?_
   refine plain ?_
   refine wI (d_move rfl) ?_
   refine wI (d_move rfl) ?_
   refine wI (d_ix (i := i) (xs := (noiseL ll 5)) Try.underlying23 s_ti3 rfl (f20.seq (X := No) (fun _ _ h => h)) (show _ = Value.int _ ((i : Nat) : Int) from rfl) (by have := noise_len ll 5; first | omega | (simp; done) | (simp; omega))) ?_
   refine wF ([u1, u2, u3, (Value.bool bh), undef, undef, undef, undef, (Value.bool false), u15, (eN 5), u19, (eN ((((noiseL ll 5).take i).filter fun k => decide (k < 256)).length)), (eN (i - (((noiseL ll 5).take i).filter fun k => decide (k < 256)).length)), (eN i), undef, (Value.bool true), (Value.bool false), u1, u15, (Value.bool bh), u2, (eN 5), u19, (eN i), u19, (eN ((noiseL ll 5).length)), (Value.bool (decide (i < ((noiseL ll 5).length)))), (z 28), (z 29), u19, (eN i), (ixp u19 i)] ++ (zs z 33 6 ++ (us 34))) ?_
   refine wI (d_ldx (i := i) (xs := (noiseL ll 5)) (enc := eN) (v := ((noiseL ll 5).getD i 0)) ⟨_, Try.underlying3, rfl⟩ rfl (f20.seq (X := No) (fun _ _ h => h)) (g_at (by have := noise_len ll 5; first | omega | (simp; done) | (simp; omega)))) ?_
   refine wI (n_lss (a := ((noiseL ll 5).getD i 0)) (b := 256) rfl rfl rfl) ?_
   refine wF ([u1, u2, u3, (Value.bool bh), undef, undef, undef, undef, (Value.bool false), u15, (eN 5), u19, (eN ((((noiseL ll 5).take i).filter fun k => decide (k < 256)).length)), (eN (i - (((noiseL ll 5).take i).filter fun k => decide (k < 256)).length)), (eN i), undef, (Value.bool true), (Value.bool false), u1, u15, (Value.bool bh), u2, (eN 5), u19, (eN i), u19, (eN ((noiseL ll 5).length)), (Value.bool (decide (i < ((noiseL ll 5).length)))), (z 28), (z 29), u19, (eN i), (ixp u19 i), (eN ((noiseL ll 5).getD i 0)), (Value.bool (decide (((noiseL ll 5).getD i 0) < 256))), (z 35), (z 36), (z 37), (z 38)] ++ (us 34)) ?_
   refine wpL.done ?_
   refine then_n ?_
   refine cond_if rfl (fun c3 => ?_) (fun c3 => ?_)
   ·
    refine plain ?_
    refine wI (d_move rfl) ?_
    refine wI (n_add (a := ((((noiseL ll 5).take i).filter fun k => decide (k < 256)).length)) (b := 1) rfl rfl (by have hl_ := low_le (noiseL ll 5) i; have hl2_ := low_le (noiseL ll 3) i; have := noise_len ll 5; have := noise_len ll 3; omega)) ?_
    refine wI (d_assign rfl) ?_
    refine wF ([u1, u2, u3, (Value.bool bh), undef, undef, undef, undef, (Value.bool false), u15, (eN 5), u19, (eN ((((noiseL ll 5).take i).filter fun k => decide (k < 256)).length + 1)), (eN (i - (((noiseL ll 5).take i).filter fun k => decide (k < 256)).length)), (eN i), undef, (Value.bool true), (Value.bool false), u1, u15, (Value.bool bh), u2, (eN 5), u19, (eN i), u19, (eN ((noiseL ll 5).length)), (Value.bool (decide (i < ((noiseL ll 5).length)))), (z 28), (z 29), u19, (eN i), (ixp u19 i), (eN ((noiseL ll 5).getD i 0)), (Value.bool (decide (((noiseL ll 5).getD i 0) < 256))), (eN ((((noiseL ll 5).take i).filter fun k => decide (k < 256)).length)), (eN ((((noiseL ll 5).take i).filter fun k => decide (k < 256)).length + 1)), (z 37), (z 38)] ++ (us 34)) ?_
    refine wpL.done ?_
    refine inb_n (then_n ?_)
    refine plain ?_
    refine wI (d_move rfl) ?_
    refine wI (n_add (a := i) (b := 1) rfl rfl (by have := noise_len ll 5; have := noise_len ll 3; omega)) ?_
    refine wI (d_assign rfl) ?_
    refine wF ([u1, u2, u3, (Value.bool bh), undef, undef, undef, undef, (Value.bool false), u15, (eN 5), u19, (eN ((((noiseL ll 5).take i).filter fun k => decide (k < 256)).length + 1)), (eN (i - (((noiseL ll 5).take i).filter fun k => decide (k < 256)).length)), (eN (i + 1)), undef, (Value.bool true), (Value.bool false), u1, u15, (Value.bool bh), u2, (eN 5), u19, (eN i), u19, (eN ((noiseL ll 5).length)), (Value.bool (decide (i < ((noiseL ll 5).length)))), (eN i), (eN (i + 1)), u19, (eN i), (ixp u19 i), (eN ((noiseL ll 5).getD i 0)), (Value.bool (decide (((noiseL ll 5).getD i 0) < 256))), (eN ((((noiseL ll 5).take i).filter fun k => decide (k < 256)).length)), (eN ((((noiseL ll 5).take i).filter fun k => decide (k < 256)).length + 1)), (z 37), (z 38)] ++ (us 34)) ?_
    refine wpL.done ?_
    refine then_n ?_
    have hl_ := low_le (noiseL ll 5) i
    refine ⟨([u1, u2, u3, (Value.bool bh), undef, undef, undef, undef, (Value.bool false), u15, (eN 5), u19, (eN ((((noiseL ll 5).take (i + 1)).filter fun k => decide (k < 256)).length)), (eN (i + 1 - (((noiseL ll 5).take (i + 1)).filter fun k => decide (k < 256)).length)), (eN (i + 1)), undef, (Value.bool true), (Value.bool false), u1, u15, (Value.bool bh), u2, (eN 5), u19, (eN i), u19, (eN ((noiseL ll 5).length)), (Value.bool (decide (i < ((noiseL ll 5).length)))), (eN i), (eN (i + 1)), u19, (eN i), (ixp u19 i), (eN ((noiseL ll 5).getD i 0)), (Value.bool (decide (((noiseL ll 5).getD i 0) < 256))), (eN ((((noiseL ll 5).take i).filter fun k => decide (k < 256)).length)), (eN ((((noiseL ll 5).take i).filter fun k => decide (k < 256)).length + 1)), (z 37), (z 38)] ++ (us 34)), (i + 1), (congrArg (fun l_ => fr l_ _) (Eq.trans (show (([u1, u2, u3, (Value.bool bh), undef, undef, undef, undef, (Value.bool false), u15, (eN 5), u19, (eN ((((noiseL ll 5).take i).filter fun k => decide (k < 256)).length + 1)), (eN (i - (((noiseL ll 5).take i).filter fun k => decide (k < 256)).length)), (eN (i + 1)), undef, (Value.bool true), (Value.bool false), u1, u15, (Value.bool bh), u2, (eN 5), u19, (eN i), u19, (eN ((noiseL ll 5).length)), (Value.bool (decide (i < ((noiseL ll 5).length)))), (eN i), (eN (i + 1)), u19, (eN i), (ixp u19 i), (eN ((noiseL ll 5).getD i 0)), (Value.bool (decide (((noiseL ll 5).getD i 0) < 256))), (eN ((((noiseL ll 5).take i).filter fun k => decide (k < 256)).length)), (eN ((((noiseL ll 5).take i).filter fun k => decide (k < 256)).length + 1)), (z 37), (z 38)] ++ (us 34)) : List Value) = ([u1, u2, u3, (Value.bool bh), undef, undef, undef, undef, (Value.bool false), u15, (eN 5), u19, (eN ((((noiseL ll 5).take (i + 1)).filter fun k => decide (k < 256)).length)), (eN (i - (((noiseL ll 5).take i).filter fun k => decide (k < 256)).length)), (eN (i + 1)), undef, (Value.bool true), (Value.bool false), u1, u15, (Value.bool bh), u2, (eN 5), u19, (eN i), u19, (eN ((noiseL ll 5).length)), (Value.bool (decide (i < ((noiseL ll 5).length)))), (eN i), (eN (i + 1)), u19, (eN i), (ixp u19 i), (eN ((noiseL ll 5).getD i 0)), (Value.bool (decide (((noiseL ll 5).getD i 0) < 256))), (eN ((((noiseL ll 5).take i).filter fun k => decide (k < 256)).length)), (eN ((((noiseL ll 5).take i).filter fun k => decide (k < 256)).length + 1)), (z 37), (z 38)] ++ (us 34)) from reslot ([u1, u2, u3, (Value.bool bh), undef, undef, undef, undef, (Value.bool false), u15, (eN 5), u19, (eN ((((noiseL ll 5).take i).filter fun k => decide (k < 256)).length + 1)), (eN (i - (((noiseL ll 5).take i).filter fun k => decide (k < 256)).length)), (eN (i + 1)), undef, (Value.bool true), (Value.bool false), u1, u15, (Value.bool bh), u2, (eN 5), u19, (eN i), u19, (eN ((noiseL ll 5).length)), (Value.bool (decide (i < ((noiseL ll 5).length)))), (eN i), (eN (i + 1)), u19, (eN i), (ixp u19 i), (eN ((noiseL ll 5).getD i 0)), (Value.bool (decide (((noiseL ll 5).getD i 0) < 256))), (eN ((((noiseL ll 5).take i).filter fun k => decide (k < 256)).length)), (eN ((((noiseL ll 5).take i).filter fun k => decide (k < 256)).length + 1)), (z 37), (z 38)] ++ (us 34)) 12 (congrArg eN (low_yes c2 c3).symm)) (show (([u1, u2, u3, (Value.bool bh), undef, undef, undef, undef, (Value.bool false), u15, (eN 5), u19, (eN ((((noiseL ll 5).take (i + 1)).filter fun k => decide (k < 256)).length)), (eN (i - (((noiseL ll 5).take i).filter fun k => decide (k < 256)).length)), (eN (i + 1)), undef, (Value.bool true), (Value.bool false), u1, u15, (Value.bool bh), u2, (eN 5), u19, (eN i), u19, (eN ((noiseL ll 5).length)), (Value.bool (decide (i < ((noiseL ll 5).length)))), (eN i), (eN (i + 1)), u19, (eN i), (ixp u19 i), (eN ((noiseL ll 5).getD i 0)), (Value.bool (decide (((noiseL ll 5).getD i 0) < 256))), (eN ((((noiseL ll 5).take i).filter fun k => decide (k < 256)).length)), (eN ((((noiseL ll 5).take i).filter fun k => decide (k < 256)).length + 1)), (z 37), (z 38)] ++ (us 34)) : List Value) = ([u1, u2, u3, (Value.bool bh), undef, undef, undef, undef, (Value.bool false), u15, (eN 5), u19, (eN ((((noiseL ll 5).take (i + 1)).filter fun k => decide (k < 256)).length)), (eN (i + 1 - (((noiseL ll 5).take (i + 1)).filter fun k => decide (k < 256)).length)), (eN (i + 1)), undef, (Value.bool true), (Value.bool false), u1, u15, (Value.bool bh), u2, (eN 5), u19, (eN i), u19, (eN ((noiseL ll 5).length)), (Value.bool (decide (i < ((noiseL ll 5).length)))), (eN i), (eN (i + 1)), u19, (eN i), (ixp u19 i), (eN ((noiseL ll 5).getD i 0)), (Value.bool (decide (((noiseL ll 5).getD i 0) < 256))), (eN ((((noiseL ll 5).take i).filter fun k => decide (k < 256)).length)), (eN ((((noiseL ll 5).take i).filter fun k => decide (k < 256)).length + 1)), (z 37), (z 38)] ++ (us 34)) from reslot ([u1, u2, u3, (Value.bool bh), undef, undef, undef, undef, (Value.bool false), u15, (eN 5), u19, (eN ((((noiseL ll 5).take (i + 1)).filter fun k => decide (k < 256)).length)), (eN (i - (((noiseL ll 5).take i).filter fun k => decide (k < 256)).length)), (eN (i + 1)), undef, (Value.bool true), (Value.bool false), u1, u15, (Value.bool bh), u2, (eN 5), u19, (eN i), u19, (eN ((noiseL ll 5).length)), (Value.bool (decide (i < ((noiseL ll 5).length)))), (eN i), (eN (i + 1)), u19, (eN i), (ixp u19 i), (eN ((noiseL ll 5).getD i 0)), (Value.bool (decide (((noiseL ll 5).getD i 0) < 256))), (eN ((((noiseL ll 5).take i).filter fun k => decide (k < 256)).length)), (eN ((((noiseL ll 5).take i).filter fun k => decide (k < 256)).length + 1)), (z 37), (z 38)] ++ (us 34)) 13 (congrArg eN (by rw [low_yes c2 c3]; omega))))), rfl, ⟨?_, ?_, ?_⟩, ?_⟩
    ·
     (try dsimp only)
     all_goals (omega)
    ·
     exact o23
    ·
     exact f20
    ·
     (try dsimp only)
     all_goals (omega)
   refine plain ?_
   refine wI (d_move rfl) ?_
   refine wI (n_add (a := (i - (((noiseL ll 5).take i).filter fun k => decide (k < 256)).length)) (b := 1) rfl rfl (by have hl_ := low_le (noiseL ll 5) i; have hl2_ := low_le (noiseL ll 3) i; have := noise_len ll 5; have := noise_len ll 3; omega)) ?_
   refine wI (d_assign rfl) ?_
   refine wF ([u1, u2, u3, (Value.bool bh), undef, undef, undef, undef, (Value.bool false), u15, (eN 5), u19, (eN ((((noiseL ll 5).take i).filter fun k => decide (k < 256)).length)), (eN (i - (((noiseL ll 5).take i).filter fun k => decide (k < 256)).length + 1)), (eN i), undef, (Value.bool true), (Value.bool false), u1, u15, (Value.bool bh), u2, (eN 5), u19, (eN i), u19, (eN ((noiseL ll 5).length)), (Value.bool (decide (i < ((noiseL ll 5).length)))), (z 28), (z 29), u19, (eN i), (ixp u19 i), (eN ((noiseL ll 5).getD i 0)), (Value.bool (decide (((noiseL ll 5).getD i 0) < 256))), (z 35), (z 36), (eN (i - (((noiseL ll 5).take i).filter fun k => decide (k < 256)).length)), (eN (i - (((noiseL ll 5).take i).filter fun k => decide (k < 256)).length + 1))] ++ (us 34)) ?_
   refine wpL.done ?_
   refine inb_n (then_n ?_)
   refine plain ?_
   refine wI (d_move rfl) ?_
   refine wI (n_add (a := i) (b := 1) rfl rfl (by have := noise_len ll 5; have := noise_len ll 3; omega)) ?_
   refine wI (d_assign rfl) ?_
   refine wF ([u1, u2, u3, (Value.bool bh), undef, undef, undef, undef, (Value.bool false), u15, (eN 5), u19, (eN ((((noiseL ll 5).take i).filter fun k => decide (k < 256)).length)), (eN (i - (((noiseL ll 5).take i).filter fun k => decide (k < 256)).length + 1)), (eN (i + 1)), undef, (Value.bool true), (Value.bool false), u1, u15, (Value.bool bh), u2, (eN 5), u19, (eN i), u19, (eN ((noiseL ll 5).length)), (Value.bool (decide (i < ((noiseL ll 5).length)))), (eN i), (eN (i + 1)), u19, (eN i), (ixp u19 i), (eN ((noiseL ll 5).getD i 0)), (Value.bool (decide (((noiseL ll 5).getD i 0) < 256))), (z 35), (z 36), (eN (i - (((noiseL ll 5).take i).filter fun k => decide (k < 256)).length)), (eN (i - (((noiseL ll 5).take i).filter fun k => decide (k < 256)).length + 1))] ++ (us 34)) ?_
   refine wpL.done ?_
   refine then_n ?_
   have hl_ := low_le (noiseL ll 5) i
   refine ⟨([u1, u2, u3, (Value.bool bh), undef, undef, undef, undef, (Value.bool false), u15, (eN 5), u19, (eN ((((noiseL ll 5).take (i + 1)).filter fun k => decide (k < 256)).length)), (eN (i + 1 - (((noiseL ll 5).take (i + 1)).filter fun k => decide (k < 256)).length)), (eN (i + 1)), undef, (Value.bool true), (Value.bool false), u1, u15, (Value.bool bh), u2, (eN 5), u19, (eN i), u19, (eN ((noiseL ll 5).length)), (Value.bool (decide (i < ((noiseL ll 5).length)))), (eN i), (eN (i + 1)), u19, (eN i), (ixp u19 i), (eN ((noiseL ll 5).getD i 0)), (Value.bool (decide (((noiseL ll 5).getD i 0) < 256))), (z 35), (z 36), (eN (i - (((noiseL ll 5).take i).filter fun k => decide (k < 256)).length)), (eN (i - (((noiseL ll 5).take i).filter fun k => decide (k < 256)).length + 1))] ++ (us 34)), (i + 1), (congrArg (fun l_ => fr l_ _) (Eq.trans (show (([u1, u2, u3, (Value.bool bh), undef, undef, undef, undef, (Value.bool false), u15, (eN 5), u19, (eN ((((noiseL ll 5).take i).filter fun k => decide (k < 256)).length)), (eN (i - (((noiseL ll 5).take i).filter fun k => decide (k < 256)).length + 1)), (eN (i + 1)), undef, (Value.bool true), (Value.bool false), u1, u15, (Value.bool bh), u2, (eN 5), u19, (eN i), u19, (eN ((noiseL ll 5).length)), (Value.bool (decide (i < ((noiseL ll 5).length)))), (eN i), (eN (i + 1)), u19, (eN i), (ixp u19 i), (eN ((noiseL ll 5).getD i 0)), (Value.bool (decide (((noiseL ll 5).getD i 0) < 256))), (z 35), (z 36), (eN (i - (((noiseL ll 5).take i).filter fun k => decide (k < 256)).length)), (eN (i - (((noiseL ll 5).take i).filter fun k => decide (k < 256)).length + 1))] ++ (us 34)) : List Value) = ([u1, u2, u3, (Value.bool bh), undef, undef, undef, undef, (Value.bool false), u15, (eN 5), u19, (eN ((((noiseL ll 5).take (i + 1)).filter fun k => decide (k < 256)).length)), (eN (i - (((noiseL ll 5).take i).filter fun k => decide (k < 256)).length + 1)), (eN (i + 1)), undef, (Value.bool true), (Value.bool false), u1, u15, (Value.bool bh), u2, (eN 5), u19, (eN i), u19, (eN ((noiseL ll 5).length)), (Value.bool (decide (i < ((noiseL ll 5).length)))), (eN i), (eN (i + 1)), u19, (eN i), (ixp u19 i), (eN ((noiseL ll 5).getD i 0)), (Value.bool (decide (((noiseL ll 5).getD i 0) < 256))), (z 35), (z 36), (eN (i - (((noiseL ll 5).take i).filter fun k => decide (k < 256)).length)), (eN (i - (((noiseL ll 5).take i).filter fun k => decide (k < 256)).length + 1))] ++ (us 34)) from reslot ([u1, u2, u3, (Value.bool bh), undef, undef, undef, undef, (Value.bool false), u15, (eN 5), u19, (eN ((((noiseL ll 5).take i).filter fun k => decide (k < 256)).length)), (eN (i - (((noiseL ll 5).take i).filter fun k => decide (k < 256)).length + 1)), (eN (i + 1)), undef, (Value.bool true), (Value.bool false), u1, u15, (Value.bool bh), u2, (eN 5), u19, (eN i), u19, (eN ((noiseL ll 5).length)), (Value.bool (decide (i < ((noiseL ll 5).length)))), (eN i), (eN (i + 1)), u19, (eN i), (ixp u19 i), (eN ((noiseL ll 5).getD i 0)), (Value.bool (decide (((noiseL ll 5).getD i 0) < 256))), (z 35), (z 36), (eN (i - (((noiseL ll 5).take i).filter fun k => decide (k < 256)).length)), (eN (i - (((noiseL ll 5).take i).filter fun k => decide (k < 256)).length + 1))] ++ (us 34)) 12 (congrArg eN (low_no c2 c3).symm)) (show (([u1, u2, u3, (Value.bool bh), undef, undef, undef, undef, (Value.bool false), u15, (eN 5), u19, (eN ((((noiseL ll 5).take (i + 1)).filter fun k => decide (k < 256)).length)), (eN (i - (((noiseL ll 5).take i).filter fun k => decide (k < 256)).length + 1)), (eN (i + 1)), undef, (Value.bool true), (Value.bool false), u1, u15, (Value.bool bh), u2, (eN 5), u19, (eN i), u19, (eN ((noiseL ll 5).length)), (Value.bool (decide (i < ((noiseL ll 5).length)))), (eN i), (eN (i + 1)), u19, (eN i), (ixp u19 i), (eN ((noiseL ll 5).getD i 0)), (Value.bool (decide (((noiseL ll 5).getD i 0) < 256))), (z 35), (z 36), (eN (i - (((noiseL ll 5).take i).filter fun k => decide (k < 256)).length)), (eN (i - (((noiseL ll 5).take i).filter fun k => decide (k < 256)).length + 1))] ++ (us 34)) : List Value) = ([u1, u2, u3, (Value.bool bh), undef, undef, undef, undef, (Value.bool false), u15, (eN 5), u19, (eN ((((noiseL ll 5).take (i + 1)).filter fun k => decide (k < 256)).length)), (eN (i + 1 - (((noiseL ll 5).take (i + 1)).filter fun k => decide (k < 256)).length)), (eN (i + 1)), undef, (Value.bool true), (Value.bool false), u1, u15, (Value.bool bh), u2, (eN 5), u19, (eN i), u19, (eN ((noiseL ll 5).length)), (Value.bool (decide (i < ((noiseL ll 5).length)))), (eN i), (eN (i + 1)), u19, (eN i), (ixp u19 i), (eN ((noiseL ll 5).getD i 0)), (Value.bool (decide (((noiseL ll 5).getD i 0) < 256))), (z 35), (z 36), (eN (i - (((noiseL ll 5).take i).filter fun k => decide (k < 256)).length)), (eN (i - (((noiseL ll 5).take i).filter fun k => decide (k < 256)).length + 1))] ++ (us 34)) from reslot ([u1, u2, u3, (Value.bool bh), undef, undef, undef, undef, (Value.bool false), u15, (eN 5), u19, (eN ((((noiseL ll 5).take (i + 1)).filter fun k => decide (k < 256)).length)), (eN (i - (((noiseL ll 5).take i).filter fun k => decide (k < 256)).length + 1)), (eN (i + 1)), undef, (Value.bool true), (Value.bool false), u1, u15, (Value.bool bh), u2, (eN 5), u19, (eN i), u19, (eN ((noiseL ll 5).length)), (Value.bool (decide (i < ((noiseL ll 5).length)))), (eN i), (eN (i + 1)), u19, (eN i), (ixp u19 i), (eN ((noiseL ll 5).getD i 0)), (Value.bool (decide (((noiseL ll 5).getD i 0) < 256))), (z 35), (z 36), (eN (i - (((noiseL ll 5).take i).filter fun k => decide (k < 256)).length)), (eN (i - (((noiseL ll 5).take i).filter fun k => decide (k < 256)).length + 1))] ++ (us 34)) 13 (congrArg eN (by rw [low_no c2 c3]; omega))))), rfl, ⟨?_, ?_, ?_⟩, ?_⟩
   ·
    (try dsimp only)
    all_goals (omega)
   ·
    exact o23
   ·
    exact f20
   ·
    (try dsimp only)
    all_goals (omega)
  refine wpIn_exit ?_
  refine then_x (then_x (inb_e ?_))
  refine then_n ?_
  refine wpIn_seq ?_
  refine plain ?_
  refine wI (d_move rfl) ?_
  refine wO (d_call (xl := [.tmp 39]) (al := [u15]) Try.func18 (by kernel_rfl) rfl rfl rfl (ref8Encode_ok (dataL la 48) u15 _ (Ps.no f16) (by have := dataL_length la 48; first | omega | (simp; done) | (simp; omega)))) ?_
  rintro u27 w25 f28
  replace f28 := f28.ps
  obtain ⟨f28, o26⟩ := f28
  replace f28 := f28.less (Y := (Orq bo21 (Old W.heap.size))) (orq_old f20.lts (old_old oW.size))
  replace h1 := h1.step0 o26
  replace h2 := h2.step0 o26
  replace h3 := h3.step0 o26
  replace f16 := f16.step0 o26
  replace f20 := f20.step0 o26
  replace oW := oW.tail0 o26
  replace o23 := o23.tail0 o26
  refine wI (d_move rfl) ?_
  refine wF ([u1, u2, u3, (Value.bool bh), undef, undef, undef, undef, (Value.bool false), u15, (eN 5), u19, (eN ((((noiseL ll 5).take i).filter fun k => decide (k < 256)).length)), (eN (i - (((noiseL ll 5).take i).filter fun k => decide (k < 256)).length)), (eN i), undef, (Value.bool true), (Value.bool false), u1, u15, (Value.bool bh), u2, (eN 5), u19, (eN i), u19, (eN ((noiseL ll 5).length)), (Value.bool (decide (i < ((noiseL ll 5).length))))] ++ (zs z 28 11 ++ [u15, u27, u19] ++ (us 31))) ?_
  refine wI (d_move rfl) ?_
  refine wO (d_call (xl := [.tmp 42, .const (.int .i64 32), .const (.int .i64 16)]) (al := [u3, (eN 32), (eN 16)]) Try.func19 (by kernel_rfl) rfl rfl rfl (l4Places_ok lm 32 16 u3 _ (Ps.no h3) (by omega) (by omega) (by omega) (by omega))) ?_
  rintro u31 w29 f32
  replace f32 := f32.ps
  obtain ⟨f32, o30⟩ := f32
  replace f32 := f32.less (Y := (Orq bo21 (Old W.heap.size))) (orq_old f20.lts (old_old oW.size))
  replace h1 := h1.step0 o30
  replace h2 := h2.step0 o30
  replace h3 := h3.step0 o30
  replace f16 := f16.step0 o30
  replace f28 := f28.step0 o30
  replace f20 := f20.step0 o30
  replace oW := oW.tail0 o30
  replace o23 := o23.tail0 o30
  refine wO (d_append Try.underlying23 Try.underlying23 s_ti3 rfl rfl rfl f20 (SrcV.of_seq f32 (fun _ => rfl)) (by have := noise_len ll 5; have := noise_len ll 3; have := places_le lm 32 16; simp; omega) (by have := noise_len ll 5; have := noise_len ll 3; have := places_le lm 32 16; simp; omega) rfl) ?_
  rintro u33 w34 ⟨bo35, a36, o37, q38⟩
  replace a36 : Ow 3 1 bo35 u33 ((noiseL ll 5) ++ (placesL lm 32 16)).length (((noiseL ll 5) ++ (placesL lm 32 16)).map eN) w34 := by rw [List.length_append, List.map_append]; exact a36
  replace h1 := h1.gr o37 (fun k e => (.inl e)) (xx_re (Fr.of_or q38) xx_id)
  replace h2 := h2.gr o37 (fun k e => (.inl e)) (xx_re (Fr.of_or q38) xx_id)
  replace h3 := h3.gr o37 (fun k e => (.inl e)) (xx_re (Fr.of_or q38) xx_id)
  replace f16 := f16.gr o37 (fun k e => (.inl e)) (xx_re (Fr.of_or q38) xx_id)
  replace f28 := f28.gr o37 (fun k e => (.inl e)) (xx_re (Fr.of_or q38) xx_id)
  replace f32 := f32.gr o37 (fun k e => (.inl e)) (xx_re (Fr.of_or q38) xx_id)
  have tq := oW.size
  replace oW := oW.tailr o37 q_oW_at (fun _ e => by cases e)
  replace q_oW_at := qtr (Fr.of_or q38) q_oW_at tq
  clear tq
  have tq := o23.size
  replace o23 := o23.tailr o37 q_o23_at (fun k e => (.inl e))
  replace q_o23_at := qtr (Fr.of_or q38) q_o23_at tq
  clear tq
  refine wF ([u1, u2, u3, (Value.bool bh), undef, undef, undef, undef, (Value.bool false), u15, (eN 5), u19, (eN ((((noiseL ll 5).take i).filter fun k => decide (k < 256)).length)), (eN (i - (((noiseL ll 5).take i).filter fun k => decide (k < 256)).length)), (eN i), undef, (Value.bool true), (Value.bool false), u1, u15, (Value.bool bh), u2, (eN 5), u19, (eN i), u19, (eN ((noiseL ll 5).length)), (Value.bool (decide (i < ((noiseL ll 5).length))))] ++ (zs z 28 11 ++ [u15, u27, u19, u3, u31, u33] ++ (us 28))) ?_
  refine wO (d_call (xl := [.tmp 40, .tmp 44]) (al := [u27, u33]) Try.func17 (by kernel_rfl) rfl rfl rfl (ref6Flip_ok (pgE (dataL la 48)) ((noiseL ll 5) ++ (placesL lm 32 16)) u27 u33 _ (Ps.no f28) (Ps.no (a36.seq (X := No) (fun _ _ h => h))) (by have := dataL_length la 48; have := pgE_len (dataL la 48); first | omega | (simp; done) | (simp; omega)) (by have := places_le lm 32 16; have := noise_len ll 5; first | omega | (simp; done) | (simp; omega)) (pg_flip_in (dataL_length la 48) (fun k hk => (List.mem_append.1 hk).elim (fun h => (noise_in ll _ k h).2) (fun h => by have := places_in lm 16 (show 0 < 32 by decide) k h; omega))))) ?_
  rintro u41 w39 f42
  replace f42 := f42.ps
  obtain ⟨f42, o40⟩ := f42
  replace f42 := f42.less (Y := (Orq bo35 (Old W.heap.size))) (orq_old a36.lts (old_old oW.size))
  replace h1 := h1.step0 o40
  replace h2 := h2.step0 o40
  replace h3 := h3.step0 o40
  replace f16 := f16.step0 o40
  replace f28 := f28.step0 o40
  replace f32 := f32.step0 o40
  replace a36 := a36.step0 o40
  replace oW := oW.tail0 o40
  replace o23 := o23.tail0 o40
  refine wO (d_call (xl := [.tmp 45]) (al := [u41]) Try.func21 (by kernel_rfl) rfl rfl rfl (pageDecode_ok (flipL (pgE (dataL la 48)) ((noiseL ll 5) ++ (placesL lm 32 16))) u41 _ (Ps.no f42) (by have := flipL_length (pgE (dataL la 48)) ((noiseL ll 5) ++ (placesL lm 32 16)); have := places_le lm 32 16; have := dataL_length la 48; have := pgE_len (dataL la 48); have := noise_len ll 5; first | omega | (simp; done) | (simp; omega)))) ?_
  rintro _ w43 ⟨u45, rfl, f46, o44⟩
  replace f46 := f46.less (Y := (Orq bo35 (Old W.heap.size))) (orq_old a36.lts (old_old oW.size))
  replace h1 := h1.step0 o44
  replace h2 := h2.step0 o44
  replace h3 := h3.step0 o44
  replace f16 := f16.step0 o44
  replace f28 := f28.step0 o44
  replace f32 := f32.step0 o44
  replace f42 := f42.step0 o44
  replace a36 := a36.step0 o44
  replace oW := oW.tail0 o44
  replace o23 := o23.tail0 o44
  refine wO (d_alloc s_ti32 rfl) ?_
  rintro _ w48 ⟨b47, rfl, g49, a50, o51⟩
  have nq_at_b47 : ∀ x, bo35 = some x → ¬ x = b47 := fun x hx e => by have := a36.lts x hx; omega
  have g_oW_b47 : W.heap.size ≤ b47 := Nat.le_trans oW.size g49
  have g_o23_b47 : w17.heap.size ≤ b47 := Nat.le_trans o23.size g49
  replace h1 := h1.new o51 g49
  replace h2 := h2.new o51 g49
  replace h3 := h3.new o51 g49
  replace f16 := f16.new o51 g49
  replace f28 := f28.new o51 g49
  replace f32 := f32.new o51 g49
  replace f42 := f42.new o51 g49
  replace f46 := f46.new o51 g49
  replace a36 := a36.step0 o51
  replace oW := oW.tail0 o51
  replace o23 := o23.tail0 o51
  refine wF ([u1, u2, u3, (Value.bool bh), undef, undef, undef, undef, (Value.bool false), u15, (eN 5), u19, (eN ((((noiseL ll 5).take i).filter fun k => decide (k < 256)).length)), (eN (i - (((noiseL ll 5).take i).filter fun k => decide (k < 256)).length)), (eN i), (ptr b47 0), (Value.bool true), (Value.bool false), u1, u15, (Value.bool bh), u2, (eN 5), u19, (eN i), u19, (eN ((noiseL ll 5).length)), (Value.bool (decide (i < ((noiseL ll 5).length))))] ++ (zs z 28 11 ++ [u15, u27, u19, u3, u31, u33, u41, (Value.agg #[(eN ((pgD (flipL (pgE (dataL la 48)) ((noiseL ll 5) ++ (placesL lm 32 16)))).1)), u45])] ++ (us 26))) ?_
  refine wO (d_storeAg (cs' := [(eN ((pgD (flipL (pgE (dataL la 48)) ((noiseL ll 5) ++ (placesL lm 32 16)))).1)), u45]) s_ti32 rfl rfl rfl (oc_cons rfl (oc_cons (Seq.one f46) oc_nil)) a50 (by decide) rfl) ?_
  rintro _ w52 ⟨a53, o54⟩
  replace h1 := h1.stepb o54 in1
  replace h2 := h2.stepb o54 in1
  replace h3 := h3.stepb o54 in1
  replace f16 := f16.stepb o54 in1
  replace f28 := f28.stepb o54 in1
  replace f32 := f32.stepb o54 in1
  replace f42 := f42.stepb o54 in1
  replace f46 := f46.stepb o54 in1
  replace a36 := a36.step o54 (fun x hx e => nq_at_b47 x hx e)
  replace oW := oW.tailb o54 g_oW_b47
  replace o23 := o23.tailb o54 g_o23_b47
  refine wF ([u1, u2, u3, (Value.bool bh), undef, undef, undef, undef, (Value.bool false), u15, (eN 5), u19, (eN ((((noiseL ll 5).take i).filter fun k => decide (k < 256)).length)), (eN (i - (((noiseL ll 5).take i).filter fun k => decide (k < 256)).length)), (eN i), (ptr b47 0), (Value.bool true), (Value.bool false), u1, u15, (Value.bool bh), u2, (eN 5), u19, (eN i), u19, (eN ((noiseL ll 5).length)), (Value.bool (decide (i < ((noiseL ll 5).length))))] ++ (zs z 28 11 ++ [u15, u27, u19, u3, u31, u33, u41, (Value.agg #[(eN ((pgD (flipL (pgE (dataL la 48)) ((noiseL ll 5) ++ (placesL lm 32 16)))).1)), u45])] ++ (us 26))) ?_
  refine wpL.done ?_
  refine then_n ?_
  refine wpIn_seq ?_
  refine wpIn_seq ?_
  have ht_ : (noiseL ll 5).take i = (noiseL ll 5) := List.take_of_length_le (by omega)
  have hf_ : (((noiseL ll 5).take i).filter fun k => decide (k < 256)).length = (placesL ll 224 5).length := by rw [ht_]; exact noise_low ll 5
  have hg_ : i - (((noiseL ll 5).take i).filter fun k => decide (k < 256)).length = (placesL (hfL ll) 224 5).length := by have := noise_total ll 5; omega
  refine wp_eq (l' := ([u1, u2, u3, (Value.bool bh), undef, undef, undef, undef, (Value.bool false), u15, (eN 5), u19, (eN ((placesL ll 224 5).length)), (eN ((placesL (hfL ll) 224 5).length)), (eN i), (ptr b47 0), (Value.bool true), (Value.bool false), u1, u15, (Value.bool bh), u2, (eN 5), u19, (eN i), u19, (eN ((noiseL ll 5).length)), (Value.bool (decide (i < ((noiseL ll 5).length))))] ++ (zs z 28 11 ++ [u15, u27, u19, u3, u31, u33, u41, (Value.agg #[(eN ((pgD (flipL (pgE (dataL la 48)) ((noiseL ll 5) ++ (placesL lm 32 16)))).1)), u45])] ++ (us 26)))) (Eq.trans (show (([u1, u2, u3, (Value.bool bh), undef, undef, undef, undef, (Value.bool false), u15, (eN 5), u19, (eN ((((noiseL ll 5).take i).filter fun k => decide (k < 256)).length)), (eN (i - (((noiseL ll 5).take i).filter fun k => decide (k < 256)).length)), (eN i), (ptr b47 0), (Value.bool true), (Value.bool false), u1, u15, (Value.bool bh), u2, (eN 5), u19, (eN i), u19, (eN ((noiseL ll 5).length)), (Value.bool (decide (i < ((noiseL ll 5).length))))] ++ (zs z 28 11 ++ [u15, u27, u19, u3, u31, u33, u41, (Value.agg #[(eN ((pgD (flipL (pgE (dataL la 48)) ((noiseL ll 5) ++ (placesL lm 32 16)))).1)), u45])] ++ (us 26))) : List Value) = ([u1, u2, u3, (Value.bool bh), undef, undef, undef, undef, (Value.bool false), u15, (eN 5), u19, (eN ((placesL ll 224 5).length)), (eN (i - (((noiseL ll 5).take i).filter fun k => decide (k < 256)).length)), (eN i), (ptr b47 0), (Value.bool true), (Value.bool false), u1, u15, (Value.bool bh), u2, (eN 5), u19, (eN i), u19, (eN ((noiseL ll 5).length)), (Value.bool (decide (i < ((noiseL ll 5).length))))] ++ (zs z 28 11 ++ [u15, u27, u19, u3, u31, u33, u41, (Value.agg #[(eN ((pgD (flipL (pgE (dataL la 48)) ((noiseL ll 5) ++ (placesL lm 32 16)))).1)), u45])] ++ (us 26))) from reslot ([u1, u2, u3, (Value.bool bh), undef, undef, undef, undef, (Value.bool false), u15, (eN 5), u19, (eN ((((noiseL ll 5).take i).filter fun k => decide (k < 256)).length)), (eN (i - (((noiseL ll 5).take i).filter fun k => decide (k < 256)).length)), (eN i), (ptr b47 0), (Value.bool true), (Value.bool false), u1, u15, (Value.bool bh), u2, (eN 5), u19, (eN i), u19, (eN ((noiseL ll 5).length)), (Value.bool (decide (i < ((noiseL ll 5).length))))] ++ (zs z 28 11 ++ [u15, u27, u19, u3, u31, u33, u41, (Value.agg #[(eN ((pgD (flipL (pgE (dataL la 48)) ((noiseL ll 5) ++ (placesL lm 32 16)))).1)), u45])] ++ (us 26))) 12 (congrArg eN hf_)) (show (([u1, u2, u3, (Value.bool bh), undef, undef, undef, undef, (Value.bool false), u15, (eN 5), u19, (eN ((placesL ll 224 5).length)), (eN (i - (((noiseL ll 5).take i).filter fun k => decide (k < 256)).length)), (eN i), (ptr b47 0), (Value.bool true), (Value.bool false), u1, u15, (Value.bool bh), u2, (eN 5), u19, (eN i), u19, (eN ((noiseL ll 5).length)), (Value.bool (decide (i < ((noiseL ll 5).length))))] ++ (zs z 28 11 ++ [u15, u27, u19, u3, u31, u33, u41, (Value.agg #[(eN ((pgD (flipL (pgE (dataL la 48)) ((noiseL ll 5) ++ (placesL lm 32 16)))).1)), u45])] ++ (us 26))) : List Value) = ([u1, u2, u3, (Value.bool bh), undef, undef, undef, undef, (Value.bool false), u15, (eN 5), u19, (eN ((placesL ll 224 5).length)), (eN ((placesL (hfL ll) 224 5).length)), (eN i), (ptr b47 0), (Value.bool true), (Value.bool false), u1, u15, (Value.bool bh), u2, (eN 5), u19, (eN i), u19, (eN ((noiseL ll 5).length)), (Value.bool (decide (i < ((noiseL ll 5).length))))] ++ (zs z 28 11 ++ [u15, u27, u19, u3, u31, u33, u41, (Value.agg #[(eN ((pgD (flipL (pgE (dataL la 48)) ((noiseL ll 5) ++ (placesL lm 32 16)))).1)), u45])] ++ (us 26))) from reslot ([u1, u2, u3, (Value.bool bh), undef, undef, undef, undef, (Value.bool false), u15, (eN 5), u19, (eN ((placesL ll 224 5).length)), (eN (i - (((noiseL ll 5).take i).filter fun k => decide (k < 256)).length)), (eN i), (ptr b47 0), (Value.bool true), (Value.bool false), u1, u15, (Value.bool bh), u2, (eN 5), u19, (eN i), u19, (eN ((noiseL ll 5).length)), (Value.bool (decide (i < ((noiseL ll 5).length))))] ++ (zs z 28 11 ++ [u15, u27, u19, u3, u31, u33, u41, (Value.agg #[(eN ((pgD (flipL (pgE (dataL la 48)) ((noiseL ll 5) ++ (placesL lm 32 16)))).1)), u45])] ++ (us 26))) 13 (congrArg eN hg_))) ?_
  by_cases d0 : 3 < ((placesL ll 224 5).length)
  ·
   refine plain ?_
   refine wI (d_move rfl) ?_
   refine wI (n_gtr (a := ((placesL ll 224 5).length)) (b := 3) rfl rfl (decide_eq_true d0)) ?_
   refine wI (d_move rfl) ?_
   refine wF ([u1, u2, u3, (Value.bool bh), undef, undef, undef, undef, (Value.bool false), u15, (eN 5), u19, (eN ((placesL ll 224 5).length)), (eN ((placesL (hfL ll) 224 5).length)), (eN i), (ptr b47 0), (Value.bool true), (Value.bool false), u1, u15, (Value.bool bh), u2, (eN 5), u19, (eN i), u19, (eN ((noiseL ll 5).length)), (Value.bool (decide (i < ((noiseL ll 5).length))))] ++ (zs z 28 11 ++ [u15, u27, u19, u3, u31, u33, u41, (Value.agg #[(eN ((pgD (flipL (pgE (dataL la 48)) ((noiseL ll 5) ++ (placesL lm 32 16)))).1)), u45]), (eN ((placesL ll 224 5).length)), (Value.bool true), (Value.bool true)] ++ (us 23))) ?_
   refine wpL.off rfl rfl rfl (nb rfl) rfl ?_
   refine wpL.off rfl rfl rfl (nb rfl) rfl ?_
   refine wI (d_pick (b := true) (v := (Value.bool true)) rfl rfl) ?_
   refine wF ([u1, u2, u3, (Value.bool bh), undef, undef, undef, undef, (Value.bool false), u15, (eN 5), u19, (eN ((placesL ll 224 5).length)), (eN ((placesL (hfL ll) 224 5).length)), (eN i), (ptr b47 0), (Value.bool true), (Value.bool false), u1, u15, (Value.bool bh), u2, (eN 5), u19, (eN i), u19, (eN ((noiseL ll 5).length)), (Value.bool (decide (i < ((noiseL ll 5).length))))] ++ (zs z 28 11 ++ [u15, u27, u19, u3, u31, u33, u41, (Value.agg #[(eN ((pgD (flipL (pgE (dataL la 48)) ((noiseL ll 5) ++ (placesL lm 32 16)))).1)), u45]), (eN ((placesL ll 224 5).length)), (Value.bool true), (Value.bool true), undef, undef, (Value.bool true)] ++ (us 20))) ?_
   refine wpL.done ?_
   refine then_n ?_
   refine cond_t rfl ?_
   refine wpIn_seq ?_
   refine plain ?_
   refine wI (d_fieldAddr (j := 0) Try.underlying32 rfl s_ti3 (by decide) rfl rfl) ?_
   refine wI (d_load (v := (eN ((pgD (flipL (pgE (dataL la 48)) ((noiseL ll 5) ++ (placesL lm 32 16)))).1))) ⟨_, Try.underlying3, rfl⟩ rfl a53 rfl) ?_
   refine wI (n_eql (a := ((pgD (flipL (pgE (dataL la 48)) ((noiseL ll 5) ++ (placesL lm 32 16)))).1)) (b := 1) rfl rfl (decide_eq_true (by rw [pg_mends (dataL_length la 48) ll lm (most := 5) (by decide), if_pos (.inl d0)]))) ?_
   refine wF ([u1, u2, u3, (Value.bool bh), undef, undef, undef, undef, (Value.bool false), u15, (eN 5), u19, (eN ((placesL ll 224 5).length)), (eN ((placesL (hfL ll) 224 5).length)), (eN i), (ptr b47 0), (Value.bool true), (Value.bool false), u1, u15, (Value.bool bh), u2, (eN 5), u19, (eN i), u19, (eN ((noiseL ll 5).length)), (Value.bool (decide (i < ((noiseL ll 5).length))))] ++ (zs z 28 11 ++ [u15, u27, u19, u3, u31, u33, u41, (Value.agg #[(eN ((pgD (flipL (pgE (dataL la 48)) ((noiseL ll 5) ++ (placesL lm 32 16)))).1)), u45]), (eN ((placesL ll 224 5).length)), (Value.bool true), (Value.bool true), undef, undef, (Value.bool true), (ptr b47 0), (eN ((pgD (flipL (pgE (dataL la 48)) ((noiseL ll 5) ++ (placesL lm 32 16)))).1)), (Value.bool true)] ++ (us 17))) ?_
   refine wI (d_move rfl) ?_
   refine wpL.onis rfl rfl rfl (nb rfl) rfl (d_fieldAddr (j := 1) Try.underlying32 rfl s_ti22 (by decide) rfl rfl) ?_
   refine wpL.onis rfl rfl rfl (nb rfl) rfl (d_load (v := u45) ⟨_, Try.underlying22, rfl⟩ rfl a53 rfl) ?_
   refine wF ([u1, u2, u3, (Value.bool bh), undef, undef, undef, undef, (Value.bool false), u15, (eN 5), u19, (eN ((placesL ll 224 5).length)), (eN ((placesL (hfL ll) 224 5).length)), (eN i), (ptr b47 0), (Value.bool true), (Value.bool false), u1, u15, (Value.bool bh), u2, (eN 5), u19, (eN i), u19, (eN ((noiseL ll 5).length)), (Value.bool (decide (i < ((noiseL ll 5).length))))] ++ (zs z 28 11 ++ [u15, u27, u19, u3, u31, u33, u41, (Value.agg #[(eN ((pgD (flipL (pgE (dataL la 48)) ((noiseL ll 5) ++ (placesL lm 32 16)))).1)), u45]), (eN ((placesL ll 224 5).length)), (Value.bool true), (Value.bool true), undef, undef, (Value.bool true), (ptr b47 0), (eN ((pgD (flipL (pgE (dataL la 48)) ((noiseL ll 5) ++ (placesL lm 32 16)))).1)), (Value.bool true), (Value.bool true), (ptr b47 1), u45] ++ (us 14))) ?_
   refine wpL.onis rfl rfl rfl (nb rfl) rfl (d_lenS rfl Try.underlying22 rfl f46) ?_
   refine wpL.onis rfl rfl rfl (nb rfl) rfl (n_eql (a := (((pgD (flipL (pgE (dataL la 48)) ((noiseL ll 5) ++ (placesL lm 32 16)))).2).length)) (b := 0) rfl rfl (decide_eq_true (by rw [pg_mends (dataL_length la 48) ll lm (most := 5) (by decide), if_pos (.inl d0)]; rfl))) ?_
   refine wI (d_pick (b := true) (v := (Value.bool true)) rfl rfl) ?_
   refine wF ([u1, u2, u3, (Value.bool bh), undef, undef, undef, undef, (Value.bool false), u15, (eN 5), u19, (eN ((placesL ll 224 5).length)), (eN ((placesL (hfL ll) 224 5).length)), (eN i), (ptr b47 0), (Value.bool true), (Value.bool false), u1, u15, (Value.bool bh), u2, (eN 5), u19, (eN i), u19, (eN ((noiseL ll 5).length)), (Value.bool (decide (i < ((noiseL ll 5).length))))] ++ (zs z 28 11 ++ [u15, u27, u19, u3, u31, u33, u41, (Value.agg #[(eN ((pgD (flipL (pgE (dataL la 48)) ((noiseL ll 5) ++ (placesL lm 32 16)))).1)), u45]), (eN ((placesL ll 224 5).length)), (Value.bool true), (Value.bool true), undef, undef, (Value.bool true), (ptr b47 0), (eN ((pgD (flipL (pgE (dataL la 48)) ((noiseL ll 5) ++ (placesL lm 32 16)))).1)), (Value.bool true), (Value.bool true), (ptr b47 1), u45, (eN (((pgD (flipL (pgE (dataL la 48)) ((noiseL ll 5) ++ (placesL lm 32 16)))).2).length)), (Value.bool true), (Value.bool true)] ++ (us 11))) ?_
   refine wI (d_assign rfl) ?_
   refine wF ([u1, u2, u3, (Value.bool bh), undef, undef, undef, undef, (Value.bool true), u15, (eN 5), u19, (eN ((placesL ll 224 5).length)), (eN ((placesL (hfL ll) 224 5).length)), (eN i), (ptr b47 0), (Value.bool true), (Value.bool false), u1, u15, (Value.bool bh), u2, (eN 5), u19, (eN i), u19, (eN ((noiseL ll 5).length)), (Value.bool (decide (i < ((noiseL ll 5).length))))] ++ (zs z 28 11 ++ [u15, u27, u19, u3, u31, u33, u41, (Value.agg #[(eN ((pgD (flipL (pgE (dataL la 48)) ((noiseL ll 5) ++ (placesL lm 32 16)))).1)), u45]), (eN ((placesL ll 224 5).length)), (Value.bool true), (Value.bool true), undef, undef, (Value.bool true), (ptr b47 0), (eN ((pgD (flipL (pgE (dataL la 48)) ((noiseL ll 5) ++ (placesL lm 32 16)))).1)), (Value.bool true), (Value.bool true), (ptr b47 1), u45, (eN (((pgD (flipL (pgE (dataL la 48)) ((noiseL ll 5) ++ (placesL lm 32 16)))).2).length)), (Value.bool true), (Value.bool true)] ++ (us 11))) ?_
   refine wpL.done ?_
   refine then_n ?_
   refine wpIn_ret ?_
   refine then_r ?_
   refine leave0 (v := (Value.bool true)) (res1 Try.results4 rfl) ?_
   exact ⟨rfl, oW⟩
  by_cases d1 : 3 < ((placesL (hfL ll) 224 5).length)
  ·
   refine plain ?_
   refine wI (d_move rfl) ?_
   refine wI (n_gtr (a := ((placesL ll 224 5).length)) (b := 3) rfl rfl (decide_eq_false d0)) ?_
   refine wI (d_move rfl) ?_
   refine wF ([u1, u2, u3, (Value.bool bh), undef, undef, undef, undef, (Value.bool false), u15, (eN 5), u19, (eN ((placesL ll 224 5).length)), (eN ((placesL (hfL ll) 224 5).length)), (eN i), (ptr b47 0), (Value.bool true), (Value.bool false), u1, u15, (Value.bool bh), u2, (eN 5), u19, (eN i), u19, (eN ((noiseL ll 5).length)), (Value.bool (decide (i < ((noiseL ll 5).length))))] ++ (zs z 28 11 ++ [u15, u27, u19, u3, u31, u33, u41, (Value.agg #[(eN ((pgD (flipL (pgE (dataL la 48)) ((noiseL ll 5) ++ (placesL lm 32 16)))).1)), u45]), (eN ((placesL ll 224 5).length)), (Value.bool false), (Value.bool false)] ++ (us 23))) ?_
   refine wpL.onis rfl rfl rfl (nb rfl) rfl (d_move rfl) ?_
   refine wpL.onis rfl rfl rfl (nb rfl) rfl (n_gtr (a := ((placesL (hfL ll) 224 5).length)) (b := 3) rfl rfl (decide_eq_true d1)) ?_
   refine wI (d_pick (b := false) (v := (Value.bool true)) rfl rfl) ?_
   refine wF ([u1, u2, u3, (Value.bool bh), undef, undef, undef, undef, (Value.bool false), u15, (eN 5), u19, (eN ((placesL ll 224 5).length)), (eN ((placesL (hfL ll) 224 5).length)), (eN i), (ptr b47 0), (Value.bool true), (Value.bool false), u1, u15, (Value.bool bh), u2, (eN 5), u19, (eN i), u19, (eN ((noiseL ll 5).length)), (Value.bool (decide (i < ((noiseL ll 5).length))))] ++ (zs z 28 11 ++ [u15, u27, u19, u3, u31, u33, u41, (Value.agg #[(eN ((pgD (flipL (pgE (dataL la 48)) ((noiseL ll 5) ++ (placesL lm 32 16)))).1)), u45]), (eN ((placesL ll 224 5).length)), (Value.bool false), (Value.bool false), (eN ((placesL (hfL ll) 224 5).length)), (Value.bool true), (Value.bool true)] ++ (us 20))) ?_
   refine wpL.done ?_
   refine then_n ?_
   refine cond_t rfl ?_
   refine wpIn_seq ?_
   refine plain ?_
   refine wI (d_fieldAddr (j := 0) Try.underlying32 rfl s_ti3 (by decide) rfl rfl) ?_
   refine wI (d_load (v := (eN ((pgD (flipL (pgE (dataL la 48)) ((noiseL ll 5) ++ (placesL lm 32 16)))).1))) ⟨_, Try.underlying3, rfl⟩ rfl a53 rfl) ?_
   refine wI (n_eql (a := ((pgD (flipL (pgE (dataL la 48)) ((noiseL ll 5) ++ (placesL lm 32 16)))).1)) (b := 1) rfl rfl (decide_eq_true (by rw [pg_mends (dataL_length la 48) ll lm (most := 5) (by decide), if_pos (.inr d1)]))) ?_
   refine wF ([u1, u2, u3, (Value.bool bh), undef, undef, undef, undef, (Value.bool false), u15, (eN 5), u19, (eN ((placesL ll 224 5).length)), (eN ((placesL (hfL ll) 224 5).length)), (eN i), (ptr b47 0), (Value.bool true), (Value.bool false), u1, u15, (Value.bool bh), u2, (eN 5), u19, (eN i), u19, (eN ((noiseL ll 5).length)), (Value.bool (decide (i < ((noiseL ll 5).length))))] ++ (zs z 28 11 ++ [u15, u27, u19, u3, u31, u33, u41, (Value.agg #[(eN ((pgD (flipL (pgE (dataL la 48)) ((noiseL ll 5) ++ (placesL lm 32 16)))).1)), u45]), (eN ((placesL ll 224 5).length)), (Value.bool false), (Value.bool false), (eN ((placesL (hfL ll) 224 5).length)), (Value.bool true), (Value.bool true), (ptr b47 0), (eN ((pgD (flipL (pgE (dataL la 48)) ((noiseL ll 5) ++ (placesL lm 32 16)))).1)), (Value.bool true)] ++ (us 17))) ?_
   refine wI (d_move rfl) ?_
   refine wpL.onis rfl rfl rfl (nb rfl) rfl (d_fieldAddr (j := 1) Try.underlying32 rfl s_ti22 (by decide) rfl rfl) ?_
   refine wpL.onis rfl rfl rfl (nb rfl) rfl (d_load (v := u45) ⟨_, Try.underlying22, rfl⟩ rfl a53 rfl) ?_
   refine wF ([u1, u2, u3, (Value.bool bh), undef, undef, undef, undef, (Value.bool false), u15, (eN 5), u19, (eN ((placesL ll 224 5).length)), (eN ((placesL (hfL ll) 224 5).length)), (eN i), (ptr b47 0), (Value.bool true), (Value.bool false), u1, u15, (Value.bool bh), u2, (eN 5), u19, (eN i), u19, (eN ((noiseL ll 5).length)), (Value.bool (decide (i < ((noiseL ll 5).length))))] ++ (zs z 28 11 ++ [u15, u27, u19, u3, u31, u33, u41, (Value.agg #[(eN ((pgD (flipL (pgE (dataL la 48)) ((noiseL ll 5) ++ (placesL lm 32 16)))).1)), u45]), (eN ((placesL ll 224 5).length)), (Value.bool false), (Value.bool false), (eN ((placesL (hfL ll) 224 5).length)), (Value.bool true), (Value.bool true), (ptr b47 0), (eN ((pgD (flipL (pgE (dataL la 48)) ((noiseL ll 5) ++ (placesL lm 32 16)))).1)), (Value.bool true), (Value.bool true), (ptr b47 1), u45] ++ (us 14))) ?_
   refine wpL.onis rfl rfl rfl (nb rfl) rfl (d_lenS rfl Try.underlying22 rfl f46) ?_
   refine wpL.onis rfl rfl rfl (nb rfl) rfl (n_eql (a := (((pgD (flipL (pgE (dataL la 48)) ((noiseL ll 5) ++ (placesL lm 32 16)))).2).length)) (b := 0) rfl rfl (decide_eq_true (by rw [pg_mends (dataL_length la 48) ll lm (most := 5) (by decide), if_pos (.inr d1)]; rfl))) ?_
   refine wI (d_pick (b := true) (v := (Value.bool true)) rfl rfl) ?_
   refine wF ([u1, u2, u3, (Value.bool bh), undef, undef, undef, undef, (Value.bool false), u15, (eN 5), u19, (eN ((placesL ll 224 5).length)), (eN ((placesL (hfL ll) 224 5).length)), (eN i), (ptr b47 0), (Value.bool true), (Value.bool false), u1, u15, (Value.bool bh), u2, (eN 5), u19, (eN i), u19, (eN ((noiseL ll 5).length)), (Value.bool (decide (i < ((noiseL ll 5).length))))] ++ (zs z 28 11 ++ [u15, u27, u19, u3, u31, u33, u41, (Value.agg #[(eN ((pgD (flipL (pgE (dataL la 48)) ((noiseL ll 5) ++ (placesL lm 32 16)))).1)), u45]), (eN ((placesL ll 224 5).length)), (Value.bool false), (Value.bool false), (eN ((placesL (hfL ll) 224 5).length)), (Value.bool true), (Value.bool true), (ptr b47 0), (eN ((pgD (flipL (pgE (dataL la 48)) ((noiseL ll 5) ++ (placesL lm 32 16)))).1)), (Value.bool true), (Value.bool true), (ptr b47 1), u45, (eN (((pgD (flipL (pgE (dataL la 48)) ((noiseL ll 5) ++ (placesL lm 32 16)))).2).length)), (Value.bool true), (Value.bool true)] ++ (us 11))) ?_
   refine wI (d_assign rfl) ?_
   refine wF ([u1, u2, u3, (Value.bool bh), undef, undef, undef, undef, (Value.bool true), u15, (eN 5), u19, (eN ((placesL ll 224 5).length)), (eN ((placesL (hfL ll) 224 5).length)), (eN i), (ptr b47 0), (Value.bool true), (Value.bool false), u1, u15, (Value.bool bh), u2, (eN 5), u19, (eN i), u19, (eN ((noiseL ll 5).length)), (Value.bool (decide (i < ((noiseL ll 5).length))))] ++ (zs z 28 11 ++ [u15, u27, u19, u3, u31, u33, u41, (Value.agg #[(eN ((pgD (flipL (pgE (dataL la 48)) ((noiseL ll 5) ++ (placesL lm 32 16)))).1)), u45]), (eN ((placesL ll 224 5).length)), (Value.bool false), (Value.bool false), (eN ((placesL (hfL ll) 224 5).length)), (Value.bool true), (Value.bool true), (ptr b47 0), (eN ((pgD (flipL (pgE (dataL la 48)) ((noiseL ll 5) ++ (placesL lm 32 16)))).1)), (Value.bool true), (Value.bool true), (ptr b47 1), u45, (eN (((pgD (flipL (pgE (dataL la 48)) ((noiseL ll 5) ++ (placesL lm 32 16)))).2).length)), (Value.bool true), (Value.bool true)] ++ (us 11))) ?_
   refine wpL.done ?_
   refine then_n ?_
   refine wpIn_ret ?_
   refine then_r ?_
   refine leave0 (v := (Value.bool true)) (res1 Try.results4 rfl) ?_
   exact ⟨rfl, oW⟩
  refine plain ?_
  refine wI (d_move rfl) ?_
  refine wI (n_gtr (a := ((placesL ll 224 5).length)) (b := 3) rfl rfl (decide_eq_false d0)) ?_
  refine wI (d_move rfl) ?_
  refine wF ([u1, u2, u3, (Value.bool bh), undef, undef, undef, undef, (Value.bool false), u15, (eN 5), u19, (eN ((placesL ll 224 5).length)), (eN ((placesL (hfL ll) 224 5).length)), (eN i), (ptr b47 0), (Value.bool true), (Value.bool false), u1, u15, (Value.bool bh), u2, (eN 5), u19, (eN i), u19, (eN ((noiseL ll 5).length)), (Value.bool (decide (i < ((noiseL ll 5).length))))] ++ (zs z 28 11 ++ [u15, u27, u19, u3, u31, u33, u41, (Value.agg #[(eN ((pgD (flipL (pgE (dataL la 48)) ((noiseL ll 5) ++ (placesL lm 32 16)))).1)), u45]), (eN ((placesL ll 224 5).length)), (Value.bool false), (Value.bool false)] ++ (us 23))) ?_
  refine wpL.onis rfl rfl rfl (nb rfl) rfl (d_move rfl) ?_
  refine wpL.onis rfl rfl rfl (nb rfl) rfl (n_gtr (a := ((placesL (hfL ll) 224 5).length)) (b := 3) rfl rfl (decide_eq_false d1)) ?_
  refine wI (d_pick (b := false) (v := (Value.bool false)) rfl rfl) ?_
  refine wF ([u1, u2, u3, (Value.bool bh), undef, undef, undef, undef, (Value.bool false), u15, (eN 5), u19, (eN ((placesL ll 224 5).length)), (eN ((placesL (hfL ll) 224 5).length)), (eN i), (ptr b47 0), (Value.bool true), (Value.bool false), u1, u15, (Value.bool bh), u2, (eN 5), u19, (eN i), u19, (eN ((noiseL ll 5).length)), (Value.bool (decide (i < ((noiseL ll 5).length))))] ++ (zs z 28 11 ++ [u15, u27, u19, u3, u31, u33, u41, (Value.agg #[(eN ((pgD (flipL (pgE (dataL la 48)) ((noiseL ll 5) ++ (placesL lm 32 16)))).1)), u45]), (eN ((placesL ll 224 5).length)), (Value.bool false), (Value.bool false), (eN ((placesL (hfL ll) 224 5).length)), (Value.bool false), (Value.bool false)] ++ (us 20))) ?_
  refine wpL.done ?_
  refine then_n ?_
  refine cond_f rfl ?_
  refine wpIn_skip ?_
  refine then_n ?_
  refine wpIn_seq ?_
  refine plain ?_
  refine wI (d_fieldAddr (j := 0) Try.underlying32 rfl s_ti3 (by decide) rfl rfl) ?_
  refine wI (d_load (v := (eN ((pgD (flipL (pgE (dataL la 48)) ((noiseL ll 5) ++ (placesL lm 32 16)))).1))) ⟨_, Try.underlying3, rfl⟩ rfl a53 rfl) ?_
  refine wI (n_eql (a := ((pgD (flipL (pgE (dataL la 48)) ((noiseL ll 5) ++ (placesL lm 32 16)))).1)) (b := 2) rfl rfl (decide_eq_true (by rw [pg_mends (dataL_length la 48) ll lm (most := 5) (by decide), if_neg (by rintro (h | h); exact d0 h; exact d1 h)]))) ?_
  refine wF ([u1, u2, u3, (Value.bool bh), undef, undef, undef, undef, (Value.bool false), u15, (eN 5), u19, (eN ((placesL ll 224 5).length)), (eN ((placesL (hfL ll) 224 5).length)), (eN i), (ptr b47 0), (Value.bool true), (Value.bool false), u1, u15, (Value.bool bh), u2, (eN 5), u19, (eN i), u19, (eN ((noiseL ll 5).length)), (Value.bool (decide (i < ((noiseL ll 5).length))))] ++ (zs z 28 11 ++ [u15, u27, u19, u3, u31, u33, u41, (Value.agg #[(eN ((pgD (flipL (pgE (dataL la 48)) ((noiseL ll 5) ++ (placesL lm 32 16)))).1)), u45]), (eN ((placesL ll 224 5).length)), (Value.bool false), (Value.bool false), (eN ((placesL (hfL ll) 224 5).length)), (Value.bool false), (Value.bool false)] ++ (us 9 ++ [(ptr b47 0), (eN ((pgD (flipL (pgE (dataL la 48)) ((noiseL ll 5) ++ (placesL lm 32 16)))).1)), (Value.bool true)] ++ (us 8)))) ?_
  refine wI (d_move rfl) ?_
  refine wpL.onis rfl rfl rfl (nb rfl) rfl (d_fieldAddr (j := 1) Try.underlying32 rfl s_ti22 (by decide) rfl rfl) ?_
  refine wpL.onis rfl rfl rfl (nb rfl) rfl (d_load (v := u45) ⟨_, Try.underlying22, rfl⟩ rfl a53 rfl) ?_
  refine wF ([u1, u2, u3, (Value.bool bh), undef, undef, undef, undef, (Value.bool false), u15, (eN 5), u19, (eN ((placesL ll 224 5).length)), (eN ((placesL (hfL ll) 224 5).length)), (eN i), (ptr b47 0), (Value.bool true), (Value.bool false), u1, u15, (Value.bool bh), u2, (eN 5), u19, (eN i), u19, (eN ((noiseL ll 5).length)), (Value.bool (decide (i < ((noiseL ll 5).length))))] ++ (zs z 28 11 ++ [u15, u27, u19, u3, u31, u33, u41, (Value.agg #[(eN ((pgD (flipL (pgE (dataL la 48)) ((noiseL ll 5) ++ (placesL lm 32 16)))).1)), u45]), (eN ((placesL ll 224 5).length)), (Value.bool false), (Value.bool false), (eN ((placesL (hfL ll) 224 5).length)), (Value.bool false), (Value.bool false)] ++ (us 9 ++ [(ptr b47 0), (eN ((pgD (flipL (pgE (dataL la 48)) ((noiseL ll 5) ++ (placesL lm 32 16)))).1)), (Value.bool true), (Value.bool true), (ptr b47 1), u45] ++ (us 5)))) ?_
  refine wpL.onis rfl rfl rfl (nb rfl) rfl (d_str Try.underlying22 Try.underlying5 Try.underlying9 rfl f46) ?_
  refine wpL.onis rfl rfl rfl (nb rfl) rfl (d_move rfl) ?_
  refine wpL.onis rfl rfl rfl (nb rfl) rfl (d_str Try.underlying22 Try.underlying5 Try.underlying9 rfl f16) ?_
  refine wF ([u1, u2, u3, (Value.bool bh), undef, undef, undef, undef, (Value.bool false), u15, (eN 5), u19, (eN ((placesL ll 224 5).length)), (eN ((placesL (hfL ll) 224 5).length)), (eN i), (ptr b47 0), (Value.bool true), (Value.bool false), u1, u15, (Value.bool bh), u2, (eN 5), u19, (eN i), u19, (eN ((noiseL ll 5).length)), (Value.bool (decide (i < ((noiseL ll 5).length))))] ++ (zs z 28 11 ++ [u15, u27, u19, u3, u31, u33, u41, (Value.agg #[(eN ((pgD (flipL (pgE (dataL la 48)) ((noiseL ll 5) ++ (placesL lm 32 16)))).1)), u45]), (eN ((placesL ll 224 5).length)), (Value.bool false), (Value.bool false), (eN ((placesL (hfL ll) 224 5).length)), (Value.bool false), (Value.bool false)] ++ (us 9 ++ [(ptr b47 0), (eN ((pgD (flipL (pgE (dataL la 48)) ((noiseL ll 5) ++ (placesL lm 32 16)))).1)), (Value.bool true), (Value.bool true), (ptr b47 1), u45, (Value.string (strOf ((pgD (flipL (pgE (dataL la 48)) ((noiseL ll 5) ++ (placesL lm 32 16)))).2))), u15, (Value.string (strOf (dataL la 48))), undef, undef]))) ?_
  refine wpL.onis rfl rfl rfl (nb rfl) rfl (d_seql (a := ((pgD (flipL (pgE (dataL la 48)) ((noiseL ll 5) ++ (placesL lm 32 16)))).2)) (c := (dataL la 48)) rfl rfl (decide_eq_true (by rw [pg_mends (dataL_length la 48) ll lm (most := 5) (by decide), if_neg (by rintro (h | h); exact d0 h; exact d1 h)]))) ?_
  refine wI (d_pick (b := true) (v := (Value.bool true)) rfl rfl) ?_
  refine wI (d_assign rfl) ?_
  refine wF ([u1, u2, u3, (Value.bool bh), undef, undef, undef, undef, (Value.bool true), u15, (eN 5), u19, (eN ((placesL ll 224 5).length)), (eN ((placesL (hfL ll) 224 5).length)), (eN i), (ptr b47 0), (Value.bool true), (Value.bool false), u1, u15, (Value.bool bh), u2, (eN 5), u19, (eN i), u19, (eN ((noiseL ll 5).length)), (Value.bool (decide (i < ((noiseL ll 5).length))))] ++ (zs z 28 11 ++ [u15, u27, u19, u3, u31, u33, u41, (Value.agg #[(eN ((pgD (flipL (pgE (dataL la 48)) ((noiseL ll 5) ++ (placesL lm 32 16)))).1)), u45]), (eN ((placesL ll 224 5).length)), (Value.bool false), (Value.bool false), (eN ((placesL (hfL ll) 224 5).length)), (Value.bool false), (Value.bool false)] ++ (us 9 ++ [(ptr b47 0), (eN ((pgD (flipL (pgE (dataL la 48)) ((noiseL ll 5) ++ (placesL lm 32 16)))).1)), (Value.bool true), (Value.bool true), (ptr b47 1), u45, (Value.string (strOf ((pgD (flipL (pgE (dataL la 48)) ((noiseL ll 5) ++ (placesL lm 32 16)))).2))), u15, (Value.string (strOf (dataL la 48))), (Value.bool true), (Value.bool true)]))) ?_
  refine wpL.done ?_
  refine then_n ?_
  refine wpIn_ret ?_
  refine leave0 (v := (Value.bool true)) (res1 Try.results4 rfl) ?_
  exact ⟨rfl, oW⟩
 refine wpIn_skip ?_
 refine then_n ?_
 refine wpIn_seq ?_
 refine plain ?_
 refine wI (d_move rfl) ?_
 refine wI (d_move rfl) ?_
 refine wO (d_call (xl := [.tmp 21, .tmp 22]) (al := [u2, (eN 3)]) Try.func23 (by kernel_rfl) rfl rfl rfl (l8noise_ok ll 3 u2 _ (Ps.no h2) (by omega) (by omega))) ?_
 rintro u57 w55 f58
 obtain ⟨bo59, f58, g60, o56⟩ := f58
 have q_oW_at := qnew g60 oW.size
 replace h1 := h1.newq o56 g60
 replace h2 := h2.newq o56 g60
 replace h3 := h3.newq o56 g60
 replace f16 := f16.newq o56 g60
 replace oW := oW.tail0 o56
 refine wF ([u1, u2, u3, (Value.bool bh), undef, undef, undef, undef, (Value.bool false), u15, (eN 3)] ++ (us 5 ++ [(Value.bool true), (Value.bool false), u1, u15, (Value.bool bh), u2, (eN 3), u57] ++ (us 49))) ?_
 refine wI (d_assign rfl) ?_
 refine wF ([u1, u2, u3, (Value.bool bh), undef, undef, undef, undef, (Value.bool false), u15, (eN 3), u57, undef, undef, undef, undef, (Value.bool true), (Value.bool false), u1, u15, (Value.bool bh), u2, (eN 3), u57] ++ (us 49)) ?_
 refine wpL.done ?_
 refine then_n ?_
 refine wpIn_seq ?_
 refine plain ?_
 refine wI (d_assign rfl) ?_
 refine wI (d_assign rfl) ?_
 refine wF ([u1, u2, u3, (Value.bool bh), undef, undef, undef, undef, (Value.bool false), u15, (eN 3), u57, (eN 0), (eN 0), undef, undef, (Value.bool true), (Value.bool false), u1, u15, (Value.bool bh), u2, (eN 3), u57] ++ (us 49)) ?_
 refine wpL.done ?_
 refine then_n ?_
 refine wpIn_seq ?_
 refine wpIn_seq ?_
 refine plain ?_
 refine wI (d_assign rfl) ?_
 refine wF ([u1, u2, u3, (Value.bool bh), undef, undef, undef, undef, (Value.bool false), u15, (eN 3), u57, (eN 0), (eN 0), (eN 0), undef, (Value.bool true), (Value.bool false), u1, u15, (Value.bool bh), u2, (eN 3), u57] ++ (us 49)) ?_
 refine wpL.done ?_
 refine then_n ?_
 refine wpIn_block ?_
 refine loop2 (fun (i : (Nat)) => fun (z : Nat → Value) => (([u1, u2, u3, (Value.bool bh), undef, undef, undef, undef, (Value.bool false), u15, (eN 3), u57, (eN ((((noiseL ll 3).take i).filter fun k => decide (k < 256)).length)), (eN (i - (((noiseL ll 3).take i).filter fun k => decide (k < 256)).length)), (eN i), undef, (Value.bool true), (Value.bool false), u1, u15, (Value.bool bh), u2, (eN 3), u57] ++ (zs z 24 15 ++ (us 34))) : List Value)) (fun (i : (Nat)) => fun (w_ : World) => (i ≤ (noiseL ll 3).length) ∧ Only (Orq bo59 No) w55 w_ ∧ Ow 3 1 bo59 u57 (noiseL ll 3).length ((noiseL ll 3).map eN) w_) (fun (i : (Nat)) => (noiseL ll 3).length - i) 0 rfl ?_ ?_
 ·
  refine ⟨?_, ?_, ?_⟩
  ·
   exact Nat.zero_le _
  ·
   exact Only.refl _ _
  ·
   exact f58
 rintro i z w62 ⟨hi, o61, f58⟩
 (try dsimp only)
 replace h1 := h1.step o61 (orq_mono no_any)
 replace h2 := h2.step o61 (orq_mono no_any)
 replace h3 := h3.step o61 (orq_mono no_any)
 replace f16 := f16.step o61 (orq_mono no_any)
 replace oW := oW.tail o61 (tl_q q_oW_at (fun _ e => by cases e) tl_no)
 have q_o61_at : Fr bo59 bo59 w55.heap.size := Fr.same
 refine wpIn_seq ?_
 refine wpIn_seq ?_
 refine plain ?_
 refine wI (d_move rfl) ?_
 refine wI (d_move rfl) ?_
 refine wI (d_lenS rfl Try.underlying23 rfl (f58.seq (X := No) (fun _ _ h => h))) ?_
 refine wF ([u1, u2, u3, (Value.bool bh), undef, undef, undef, undef, (Value.bool false), u15, (eN 3), u57, (eN ((((noiseL ll 3).take i).filter fun k => decide (k < 256)).length)), (eN (i - (((noiseL ll 3).take i).filter fun k => decide (k < 256)).length)), (eN i), undef, (Value.bool true), (Value.bool false), u1, u15, (Value.bool bh), u2, (eN 3), u57, (eN i), u57, (eN ((noiseL ll 3).length))] ++ (zs z 27 12 ++ (us 34))) ?_
 refine wI (n_lss (a := i) (b := ((noiseL ll 3).length)) rfl rfl rfl) ?_
 refine wF ([u1, u2, u3, (Value.bool bh), undef, undef, undef, undef, (Value.bool false), u15, (eN 3), u57, (eN ((((noiseL ll 3).take i).filter fun k => decide (k < 256)).length)), (eN (i - (((noiseL ll 3).take i).filter fun k => decide (k < 256)).length)), (eN i), undef, (Value.bool true), (Value.bool false), u1, u15, (Value.bool bh), u2, (eN 3), u57, (eN i), u57, (eN ((noiseL ll 3).length)), (Value.bool (decide (i < ((noiseL ll 3).length))))] ++ (zs z 28 11 ++ (us 34))) ?_
 refine wpL.done ?_
 refine then_n ?_
 refine cond_if rfl (fun c2 => ?_) (fun c2 => ?_)
 ·
  refine wpIn_skip ?_
  refine then_n ?_
  refine wpIn_seq ?_
  refine wpIn_block ?_
  refine wpIn_seq ?_
  refine plain ?_
  refine wI (d_move rfl) ?_
  refine wI (d_move rfl) ?_
  refine wI (d_ix (i := i) (xs := (noiseL ll 3)) Try.underlying23 s_ti3 rfl (f58.seq (X := No) (fun _ _ h => h)) (show _ = Value.int _ ((i : Nat) : Int) from rfl) (by have := noise_len ll 3; first | omega | (simp; done) | (simp; omega))) ?_
  refine wF ([u1, u2, u3, (Value.bool bh), undef, undef, undef, undef, (Value.bool false), u15, (eN 3), u57, (eN ((((noiseL ll 3).take i).filter fun k => decide (k < 256)).length)), (eN (i - (((noiseL ll 3).take i).filter fun k => decide (k < 256)).length)), (eN i), undef, (Value.bool true), (Value.bool false), u1, u15, (Value.bool bh), u2, (eN 3), u57, (eN i), u57, (eN ((noiseL ll 3).length)), (Value.bool (decide (i < ((noiseL ll 3).length)))), (z 28), (z 29), u57, (eN i), (ixp u57 i)] ++ (zs z 33 6 ++ (us 34))) ?_
  refine wI (d_ldx (i := i) (xs := (noiseL ll 3)) (enc := eN) (v := ((noiseL ll 3).getD i 0)) ⟨_, Try.underlying3, rfl⟩ rfl (f58.seq (X := No) (fun _ _ h => h)) (g_at (by have := noise_len ll 3; first | omega | (simp; done) | (simp; omega)))) ?_
  refine wI (n_lss (a := ((noiseL ll 3).getD i 0)) (b := 256) rfl rfl rfl) ?_
  refine wF ([u1, u2, u3, (Value.bool bh), undef, undef, undef, undef, (Value.bool false), u15, (eN 3), u57, (eN ((((noiseL ll 3).take i).filter fun k => decide (k < 256)).length)), (eN (i - (((noiseL ll 3).take i).filter fun k => decide (k < 256)).length)), (eN i), undef, (Value.bool true), (Value.bool false), u1, u15, (Value.bool bh), u2, (eN 3), u57, (eN i), u57, (eN ((noiseL ll 3).length)), (Value.bool (decide (i < ((noiseL ll 3).length)))), (z 28), (z 29), u57, (eN i), (ixp u57 i), (eN ((noiseL ll 3).getD i 0)), (Value.bool (decide (((noiseL ll 3).getD i 0) < 256))), (z 35), (z 36), (z 37), (z 38)] ++ (us 34)) ?_
  refine wpL.done ?_
  refine then_n ?_
  refine cond_if rfl (fun c3 => ?_) (fun c3 => ?_)
  ·
   refine plain ?_
   refine wI (d_move rfl) ?_
   refine wI (n_add (a := ((((noiseL ll 3).take i).filter fun k => decide (k < 256)).length)) (b := 1) rfl rfl (by have hl_ := low_le (noiseL ll 5) i; have hl2_ := low_le (noiseL ll 3) i; have := noise_len ll 5; have := noise_len ll 3; omega)) ?_
   refine wI (d_assign rfl) ?_
   refine wF ([u1, u2, u3, (Value.bool bh), undef, undef, undef, undef, (Value.bool false), u15, (eN 3), u57, (eN ((((noiseL ll 3).take i).filter fun k => decide (k < 256)).length + 1)), (eN (i - (((noiseL ll 3).take i).filter fun k => decide (k < 256)).length)), (eN i), undef, (Value.bool true), (Value.bool false), u1, u15, (Value.bool bh), u2, (eN 3), u57, (eN i), u57, (eN ((noiseL ll 3).length)), (Value.bool (decide (i < ((noiseL ll 3).length)))), (z 28), (z 29), u57, (eN i), (ixp u57 i), (eN ((noiseL ll 3).getD i 0)), (Value.bool (decide (((noiseL ll 3).getD i 0) < 256))), (eN ((((noiseL ll 3).take i).filter fun k => decide (k < 256)).length)), (eN ((((noiseL ll 3).take i).filter fun k => decide (k < 256)).length + 1)), (z 37), (z 38)] ++ (us 34)) ?_
   refine wpL.done ?_
   refine inb_n (then_n ?_)
   refine plain ?_
   refine wI (d_move rfl) ?_
   refine wI (n_add (a := i) (b := 1) rfl rfl (by have := noise_len ll 5; have := noise_len ll 3; omega)) ?_
   refine wI (d_assign rfl) ?_
   refine wF ([u1, u2, u3, (Value.bool bh), undef, undef, undef, undef, (Value.bool false), u15, (eN 3), u57, (eN ((((noiseL ll 3).take i).filter fun k => decide (k < 256)).length + 1)), (eN (i - (((noiseL ll 3).take i).filter fun k => decide (k < 256)).length)), (eN (i + 1)), undef, (Value.bool true), (Value.bool false), u1, u15, (Value.bool bh), u2, (eN 3), u57, (eN i), u57, (eN ((noiseL ll 3).length)), (Value.bool (decide (i < ((noiseL ll 3).length)))), (eN i), (eN (i + 1)), u57, (eN i), (ixp u57 i), (eN ((noiseL ll 3).getD i 0)), (Value.bool (decide (((noiseL ll 3).getD i 0) < 256))), (eN ((((noiseL ll 3).take i).filter fun k => decide (k < 256)).length)), (eN ((((noiseL ll 3).take i).filter fun k => decide (k < 256)).length + 1)), (z 37), (z 38)] ++ (us 34)) ?_
   refine wpL.done ?_
   refine then_n ?_
   have hl_ := low_le (noiseL ll 3) i
   refine ⟨([u1, u2, u3, (Value.bool bh), undef, undef, undef, undef, (Value.bool false), u15, (eN 3), u57, (eN ((((noiseL ll 3).take (i + 1)).filter fun k => decide (k < 256)).length)), (eN (i + 1 - (((noiseL ll 3).take (i + 1)).filter fun k => decide (k < 256)).length)), (eN (i + 1)), undef, (Value.bool true), (Value.bool false), u1, u15, (Value.bool bh), u2, (eN 3), u57, (eN i), u57, (eN ((noiseL ll 3).length)), (Value.bool (decide (i < ((noiseL ll 3).length)))), (eN i), (eN (i + 1)), u57, (eN i), (ixp u57 i), (eN ((noiseL ll 3).getD i 0)), (Value.bool (decide (((noiseL ll 3).getD i 0) < 256))), (eN ((((noiseL ll 3).take i).filter fun k => decide (k < 256)).length)), (eN ((((noiseL ll 3).take i).filter fun k => decide (k < 256)).length + 1)), (z 37), (z 38)] ++ (us 34)), (i + 1), (congrArg (fun l_ => fr l_ _) (Eq.trans (show (([u1, u2, u3, (Value.bool bh), undef, undef, undef, undef, (Value.bool false), u15, (eN 3), u57, (eN ((((noiseL ll 3).take i).filter fun k => decide (k < 256)).length + 1)), (eN (i - (((noiseL ll 3).take i).filter fun k => decide (k < 256)).length)), (eN (i + 1)), undef, (Value.bool true), (Value.bool false), u1, u15, (Value.bool bh), u2, (eN 3), u57, (eN i), u57, (eN ((noiseL ll 3).length)), (Value.bool (decide (i < ((noiseL ll 3).length)))), (eN i), (eN (i + 1)), u57, (eN i), (ixp u57 i), (eN ((noiseL ll 3).getD i 0)), (Value.bool (decide (((noiseL ll 3).getD i 0) < 256))), (eN ((((noiseL ll 3).take i).filter fun k => decide (k < 256)).length)), (eN ((((noiseL ll 3).take i).filter fun k => decide (k < 256)).length + 1)), (z 37), (z 38)] ++ (us 34)) : List Value) = ([u1, u2, u3, (Value.bool bh), undef, undef, undef, undef, (Value.bool false), u15, (eN 3), u57, (eN ((((noiseL ll 3).take (i + 1)).filter fun k => decide (k < 256)).length)), (eN (i - (((noiseL ll 3).take i).filter fun k => decide (k < 256)).length)), (eN (i + 1)), undef, (Value.bool true), (Value.bool false), u1, u15, (Value.bool bh), u2, (eN 3), u57, (eN i), u57, (eN ((noiseL ll 3).length)), (Value.bool (decide (i < ((noiseL ll 3).length)))), (eN i), (eN (i + 1)), u57, (eN i), (ixp u57 i), (eN ((noiseL ll 3).getD i 0)), (Value.bool (decide (((noiseL ll 3).getD i 0) < 256))), (eN ((((noiseL ll 3).take i).filter fun k => decide (k < 256)).length)), (eN ((((noiseL ll 3).take i).filter fun k => decide (k < 256)).length + 1)), (z 37), (z 38)] ++ (us 34)) from reslot ([u1, u2, u3, (Value.bool bh), undef, undef, undef, undef, (Value.bool false), u15, (eN 3), u57, (eN ((((noiseL ll 3).take i).filter fun k => decide (k < 256)).length + 1)), (eN (i - (((noiseL ll 3).take i).filter fun k => decide (k < 256)).length)), (eN (i + 1)), undef, (Value.bool true), (Value.bool false), u1, u15, (Value.bool bh), u2, (eN 3), u57, (eN i), u57, (eN ((noiseL ll 3).length)), (Value.bool (decide (i < ((noiseL ll 3).length)))), (eN i), (eN (i + 1)), u57, (eN i), (ixp u57 i), (eN ((noiseL ll 3).getD i 0)), (Value.bool (decide (((noiseL ll 3).getD i 0) < 256))), (eN ((((noiseL ll 3).take i).filter fun k => decide (k < 256)).length)), (eN ((((noiseL ll 3).take i).filter fun k => decide (k < 256)).length + 1)), (z 37), (z 38)] ++ (us 34)) 12 (congrArg eN (low_yes c2 c3).symm)) (show (([u1, u2, u3, (Value.bool bh), undef, undef, undef, undef, (Value.bool false), u15, (eN 3), u57, (eN ((((noiseL ll 3).take (i + 1)).filter fun k => decide (k < 256)).length)), (eN (i - (((noiseL ll 3).take i).filter fun k => decide (k < 256)).length)), (eN (i + 1)), undef, (Value.bool true), (Value.bool false), u1, u15, (Value.bool bh), u2, (eN 3), u57, (eN i), u57, (eN ((noiseL ll 3).length)), (Value.bool (decide (i < ((noiseL ll 3).length)))), (eN i), (eN (i + 1)), u57, (eN i), (ixp u57 i), (eN ((noiseL ll 3).getD i 0)), (Value.bool (decide (((noiseL ll 3).getD i 0) < 256))), (eN ((((noiseL ll 3).take i).filter fun k => decide (k < 256)).length)), (eN ((((noiseL ll 3).take i).filter fun k => decide (k < 256)).length + 1)), (z 37), (z 38)] ++ (us 34)) : List Value) = ([u1, u2, u3, (Value.bool bh), undef, undef, undef, undef, (Value.bool false), u15, (eN 3), u57, (eN ((((noiseL ll 3).take (i + 1)).filter fun k => decide (k < 256)).length)), (eN (i + 1 - (((noiseL ll 3).take (i + 1)).filter fun k => decide (k < 256)).length)), (eN (i + 1)), undef, (Value.bool true), (Value.bool false), u1, u15, (Value.bool bh), u2, (eN 3), u57, (eN i), u57, (eN ((noiseL ll 3).length)), (Value.bool (decide (i < ((noiseL ll 3).length)))), (eN i), (eN (i + 1)), u57, (eN i), (ixp u57 i), (eN ((noiseL ll 3).getD i 0)), (Value.bool (decide (((noiseL ll 3).getD i 0) < 256))), (eN ((((noiseL ll 3).take i).filter fun k => decide (k < 256)).length)), (eN ((((noiseL ll 3).take i).filter fun k => decide (k < 256)).length + 1)), (z 37), (z 38)] ++ (us 34)) from reslot ([u1, u2, u3, (Value.bool bh), undef, undef, undef, undef, (Value.bool false), u15, (eN 3), u57, (eN ((((noiseL ll 3).take (i + 1)).filter fun k => decide (k < 256)).length)), (eN (i - (((noiseL ll 3).take i).filter fun k => decide (k < 256)).length)), (eN (i + 1)), undef, (Value.bool true), (Value.bool false), u1, u15, (Value.bool bh), u2, (eN 3), u57, (eN i), u57, (eN ((noiseL ll 3).length)), (Value.bool (decide (i < ((noiseL ll 3).length)))), (eN i), (eN (i + 1)), u57, (eN i), (ixp u57 i), (eN ((noiseL ll 3).getD i 0)), (Value.bool (decide (((noiseL ll 3).getD i 0) < 256))), (eN ((((noiseL ll 3).take i).filter fun k => decide (k < 256)).length)), (eN ((((noiseL ll 3).take i).filter fun k => decide (k < 256)).length + 1)), (z 37), (z 38)] ++ (us 34)) 13 (congrArg eN (by rw [low_yes c2 c3]; omega))))), rfl, ⟨?_, ?_, ?_⟩, ?_⟩
   ·
    (try dsimp only)
    all_goals (omega)
   ·
    exact o61
   ·
    exact f58
   ·
    (try dsimp only)
    all_goals (omega)
  refine plain ?_
  refine wI (d_move rfl) ?_
  refine wI (n_add (a := (i - (((noiseL ll 3).take i).filter fun k => decide (k < 256)).length)) (b := 1) rfl rfl (by have hl_ := low_le (noiseL ll 5) i; have hl2_ := low_le (noiseL ll 3) i; have := noise_len ll 5; have := noise_len ll 3; omega)) ?_
  refine wI (d_assign rfl) ?_
  refine wF ([u1, u2, u3, (Value.bool bh), undef, undef, undef, undef, (Value.bool false), u15, (eN 3), u57, (eN ((((noiseL ll 3).take i).filter fun k => decide (k < 256)).length)), (eN (i - (((noiseL ll 3).take i).filter fun k => decide (k < 256)).length + 1)), (eN i), undef, (Value.bool true), (Value.bool false), u1, u15, (Value.bool bh), u2, (eN 3), u57, (eN i), u57, (eN ((noiseL ll 3).length)), (Value.bool (decide (i < ((noiseL ll 3).length)))), (z 28), (z 29), u57, (eN i), (ixp u57 i), (eN ((noiseL ll 3).getD i 0)), (Value.bool (decide (((noiseL ll 3).getD i 0) < 256))), (z 35), (z 36), (eN (i - (((noiseL ll 3).take i).filter fun k => decide (k < 256)).length)), (eN (i - (((noiseL ll 3).take i).filter fun k => decide (k < 256)).length + 1))] ++ (us 34)) ?_
  refine wpL.done ?_
  refine inb_n (then_n ?_)
  refine plain ?_
  refine wI (d_move rfl) ?_
  refine wI (n_add (a := i) (b := 1) rfl rfl (by have := noise_len ll 5; have := noise_len ll 3; omega)) ?_
  refine wI (d_assign rfl) ?_
  refine wF ([u1, u2, u3, (Value.bool bh), undef, undef, undef, undef, (Value.bool false), u15, (eN 3), u57, (eN ((((noiseL ll 3).take i).filter fun k => decide (k < 256)).length)), (eN (i - (((noiseL ll 3).take i).filter fun k => decide (k < 256)).length + 1)), (eN (i + 1)), undef, (Value.bool true), (Value.bool false), u1, u15, (Value.bool bh), u2, (eN 3), u57, (eN i), u57, (eN ((noiseL ll 3).length)), (Value.bool (decide (i < ((noiseL ll 3).length)))), (eN i), (eN (i + 1)), u57, (eN i), (ixp u57 i), (eN ((noiseL ll 3).getD i 0)), (Value.bool (decide (((noiseL ll 3).getD i 0) < 256))), (z 35), (z 36), (eN (i - (((noiseL ll 3).take i).filter fun k => decide (k < 256)).length)), (eN (i - (((noiseL ll 3).take i).filter fun k => decide (k < 256)).length + 1))] ++ (us 34)) ?_
  refine wpL.done ?_
  refine then_n ?_
  have hl_ := low_le (noiseL ll 3) i
  refine ⟨([u1, u2, u3, (Value.bool bh), undef, undef, undef, undef, (Value.bool false), u15, (eN 3), u57, (eN ((((noiseL ll 3).take (i + 1)).filter fun k => decide (k < 256)).length)), (eN (i + 1 - (((noiseL ll 3).take (i + 1)).filter fun k => decide (k < 256)).length)), (eN (i + 1)), undef, (Value.bool true), (Value.bool false), u1, u15, (Value.bool bh), u2, (eN 3), u57, (eN i), u57, (eN ((noiseL ll 3).length)), (Value.bool (decide (i < ((noiseL ll 3).length)))), (eN i), (eN (i + 1)), u57, (eN i), (ixp u57 i), (eN ((noiseL ll 3).getD i 0)), (Value.bool (decide (((noiseL ll 3).getD i 0) < 256))), (z 35), (z 36), (eN (i - (((noiseL ll 3).take i).filter fun k => decide (k < 256)).length)), (eN (i - (((noiseL ll 3).take i).filter fun k => decide (k < 256)).length + 1))] ++ (us 34)), (i + 1), (congrArg (fun l_ => fr l_ _) (Eq.trans (show (([u1, u2, u3, (Value.bool bh), undef, undef, undef, undef, (Value.bool false), u15, (eN 3), u57, (eN ((((noiseL ll 3).take i).filter fun k => decide (k < 256)).length)), (eN (i - (((noiseL ll 3).take i).filter fun k => decide (k < 256)).length + 1)), (eN (i + 1)), undef, (Value.bool true), (Value.bool false), u1, u15, (Value.bool bh), u2, (eN 3), u57, (eN i), u57, (eN ((noiseL ll 3).length)), (Value.bool (decide (i < ((noiseL ll 3).length)))), (eN i), (eN (i + 1)), u57, (eN i), (ixp u57 i), (eN ((noiseL ll 3).getD i 0)), (Value.bool (decide (((noiseL ll 3).getD i 0) < 256))), (z 35), (z 36), (eN (i - (((noiseL ll 3).take i).filter fun k => decide (k < 256)).length)), (eN (i - (((noiseL ll 3).take i).filter fun k => decide (k < 256)).length + 1))] ++ (us 34)) : List Value) = ([u1, u2, u3, (Value.bool bh), undef, undef, undef, undef, (Value.bool false), u15, (eN 3), u57, (eN ((((noiseL ll 3).take (i + 1)).filter fun k => decide (k < 256)).length)), (eN (i - (((noiseL ll 3).take i).filter fun k => decide (k < 256)).length + 1)), (eN (i + 1)), undef, (Value.bool true), (Value.bool false), u1, u15, (Value.bool bh), u2, (eN 3), u57, (eN i), u57, (eN ((noiseL ll 3).length)), (Value.bool (decide (i < ((noiseL ll 3).length)))), (eN i), (eN (i + 1)), u57, (eN i), (ixp u57 i), (eN ((noiseL ll 3).getD i 0)), (Value.bool (decide (((noiseL ll 3).getD i 0) < 256))), (z 35), (z 36), (eN (i - (((noiseL ll 3).take i).filter fun k => decide (k < 256)).length)), (eN (i - (((noiseL ll 3).take i).filter fun k => decide (k < 256)).length + 1))] ++ (us 34)) from reslot ([u1, u2, u3, (Value.bool bh), undef, undef, undef, undef, (Value.bool false), u15, (eN 3), u57, (eN ((((noiseL ll 3).take i).filter fun k => decide (k < 256)).length)), (eN (i - (((noiseL ll 3).take i).filter fun k => decide (k < 256)).length + 1)), (eN (i + 1)), undef, (Value.bool true), (Value.bool false), u1, u15, (Value.bool bh), u2, (eN 3), u57, (eN i), u57, (eN ((noiseL ll 3).length)), (Value.bool (decide (i < ((noiseL ll 3).length)))), (eN i), (eN (i + 1)), u57, (eN i), (ixp u57 i), (eN ((noiseL ll 3).getD i 0)), (Value.bool (decide (((noiseL ll 3).getD i 0) < 256))), (z 35), (z 36), (eN (i - (((noiseL ll 3).take i).filter fun k => decide (k < 256)).length)), (eN (i - (((noiseL ll 3).take i).filter fun k => decide (k < 256)).length + 1))] ++ (us 34)) 12 (congrArg eN (low_no c2 c3).symm)) (show (([u1, u2, u3, (Value.bool bh), undef, undef, undef, undef, (Value.bool false), u15, (eN 3), u57, (eN ((((noiseL ll 3).take (i + 1)).filter fun k => decide (k < 256)).length)), (eN (i - (((noiseL ll 3).take i).filter fun k => decide (k < 256)).length + 1)), (eN (i + 1)), undef, (Value.bool true), (Value.bool false), u1, u15, (Value.bool bh), u2, (eN 3), u57, (eN i), u57, (eN ((noiseL ll 3).length)), (Value.bool (decide (i < ((noiseL ll 3).length)))), (eN i), (eN (i + 1)), u57, (eN i), (ixp u57 i), (eN ((noiseL ll 3).getD i 0)), (Value.bool (decide (((noiseL ll 3).getD i 0) < 256))), (z 35), (z 36), (eN (i - (((noiseL ll 3).take i).filter fun k => decide (k < 256)).length)), (eN (i - (((noiseL ll 3).take i).filter fun k => decide (k < 256)).length + 1))] ++ (us 34)) : List Value) = ([u1, u2, u3, (Value.bool bh), undef, undef, undef, undef, (Value.bool false), u15, (eN 3), u57, (eN ((((noiseL ll 3).take (i + 1)).filter fun k => decide (k < 256)).length)), (eN (i + 1 - (((noiseL ll 3).take (i + 1)).filter fun k => decide (k < 256)).length)), (eN (i + 1)), undef, (Value.bool true), (Value.bool false), u1, u15, (Value.bool bh), u2, (eN 3), u57, (eN i), u57, (eN ((noiseL ll 3).length)), (Value.bool (decide (i < ((noiseL ll 3).length)))), (eN i), (eN (i + 1)), u57, (eN i), (ixp u57 i), (eN ((noiseL ll 3).getD i 0)), (Value.bool (decide (((noiseL ll 3).getD i 0) < 256))), (z 35), (z 36), (eN (i - (((noiseL ll 3).take i).filter fun k => decide (k < 256)).length)), (eN (i - (((noiseL ll 3).take i).filter fun k => decide (k < 256)).length + 1))] ++ (us 34)) from reslot ([u1, u2, u3, (Value.bool bh), undef, undef, undef, undef, (Value.bool false), u15, (eN 3), u57, (eN ((((noiseL ll 3).take (i + 1)).filter fun k => decide (k < 256)).length)), (eN (i - (((noiseL ll 3).take i).filter fun k => decide (k < 256)).length + 1)), (eN (i + 1)), undef, (Value.bool true), (Value.bool false), u1, u15, (Value.bool bh), u2, (eN 3), u57, (eN i), u57, (eN ((noiseL ll 3).length)), (Value.bool (decide (i < ((noiseL ll 3).length)))), (eN i), (eN (i + 1)), u57, (eN i), (ixp u57 i), (eN ((noiseL ll 3).getD i 0)), (Value.bool (decide (((noiseL ll 3).getD i 0) < 256))), (z 35), (z 36), (eN (i - (((noiseL ll 3).take i).filter fun k => decide (k < 256)).length)), (eN (i - (((noiseL ll 3).take i).filter fun k => decide (k < 256)).length + 1))] ++ (us 34)) 13 (congrArg eN (by rw [low_no c2 c3]; omega))))), rfl, ⟨?_, ?_, ?_⟩, ?_⟩
  ·
   (try dsimp only)
   all_goals (omega)
  ·
   exact o61
  ·
   exact f58
  ·
   (try dsimp only)
   all_goals (omega)
 refine wpIn_exit ?_
 refine then_x (then_x (inb_e ?_))
 refine then_n ?_
 refine wpIn_seq ?_
 refine plain ?_
 refine wI (d_move rfl) ?_
 refine wO (d_call (xl := [.tmp 39]) (al := [u15]) Try.func18 (by kernel_rfl) rfl rfl rfl (ref8Encode_ok (dataL la 48) u15 _ (Ps.no f16) (by have := dataL_length la 48; first | omega | (simp; done) | (simp; omega)))) ?_
 rintro u65 w63 f66
 replace f66 := f66.ps
 obtain ⟨f66, o64⟩ := f66
 replace f66 := f66.less (Y := (Orq bo59 (Old W.heap.size))) (orq_old f58.lts (old_old oW.size))
 replace h1 := h1.step0 o64
 replace h2 := h2.step0 o64
 replace h3 := h3.step0 o64
 replace f16 := f16.step0 o64
 replace f58 := f58.step0 o64
 replace oW := oW.tail0 o64
 replace o61 := o61.tail0 o64
 refine wI (d_move rfl) ?_
 refine wF ([u1, u2, u3, (Value.bool bh), undef, undef, undef, undef, (Value.bool false), u15, (eN 3), u57, (eN ((((noiseL ll 3).take i).filter fun k => decide (k < 256)).length)), (eN (i - (((noiseL ll 3).take i).filter fun k => decide (k < 256)).length)), (eN i), undef, (Value.bool true), (Value.bool false), u1, u15, (Value.bool bh), u2, (eN 3), u57, (eN i), u57, (eN ((noiseL ll 3).length)), (Value.bool (decide (i < ((noiseL ll 3).length))))] ++ (zs z 28 11 ++ [u15, u65, u57] ++ (us 31))) ?_
 refine wI (d_move rfl) ?_
 refine wO (d_call (xl := [.tmp 42, .const (.int .i64 32), .const (.int .i64 16)]) (al := [u3, (eN 32), (eN 16)]) Try.func19 (by kernel_rfl) rfl rfl rfl (l4Places_ok lm 32 16 u3 _ (Ps.no h3) (by omega) (by omega) (by omega) (by omega))) ?_
 rintro u69 w67 f70
 replace f70 := f70.ps
 obtain ⟨f70, o68⟩ := f70
 replace f70 := f70.less (Y := (Orq bo59 (Old W.heap.size))) (orq_old f58.lts (old_old oW.size))
 replace h1 := h1.step0 o68
 replace h2 := h2.step0 o68
 replace h3 := h3.step0 o68
 replace f16 := f16.step0 o68
 replace f66 := f66.step0 o68
 replace f58 := f58.step0 o68
 replace oW := oW.tail0 o68
 replace o61 := o61.tail0 o68
 refine wO (d_append Try.underlying23 Try.underlying23 s_ti3 rfl rfl rfl f58 (SrcV.of_seq f70 (fun _ => rfl)) (by have := noise_len ll 5; have := noise_len ll 3; have := places_le lm 32 16; simp; omega) (by have := noise_len ll 5; have := noise_len ll 3; have := places_le lm 32 16; simp; omega) rfl) ?_
 rintro u71 w72 ⟨bo73, a74, o75, q76⟩
 replace a74 : Ow 3 1 bo73 u71 ((noiseL ll 3) ++ (placesL lm 32 16)).length (((noiseL ll 3) ++ (placesL lm 32 16)).map eN) w72 := by rw [List.length_append, List.map_append]; exact a74
 replace h1 := h1.gr o75 (fun k e => (.inl e)) (xx_re (Fr.of_or q76) xx_id)
 replace h2 := h2.gr o75 (fun k e => (.inl e)) (xx_re (Fr.of_or q76) xx_id)
 replace h3 := h3.gr o75 (fun k e => (.inl e)) (xx_re (Fr.of_or q76) xx_id)
 replace f16 := f16.gr o75 (fun k e => (.inl e)) (xx_re (Fr.of_or q76) xx_id)
 replace f66 := f66.gr o75 (fun k e => (.inl e)) (xx_re (Fr.of_or q76) xx_id)
 replace f70 := f70.gr o75 (fun k e => (.inl e)) (xx_re (Fr.of_or q76) xx_id)
 have tq := oW.size
 replace oW := oW.tailr o75 q_oW_at (fun _ e => by cases e)
 replace q_oW_at := qtr (Fr.of_or q76) q_oW_at tq
 clear tq
 have tq := o61.size
 replace o61 := o61.tailr o75 q_o61_at (fun k e => (.inl e))
 replace q_o61_at := qtr (Fr.of_or q76) q_o61_at tq
 clear tq
 refine wF ([u1, u2, u3, (Value.bool bh), undef, undef, undef, undef, (Value.bool false), u15, (eN 3), u57, (eN ((((noiseL ll 3).take i).filter fun k => decide (k < 256)).length)), (eN (i - (((noiseL ll 3).take i).filter fun k => decide (k < 256)).length)), (eN i), undef, (Value.bool true), (Value.bool false), u1, u15, (Value.bool bh), u2, (eN 3), u57, (eN i), u57, (eN ((noiseL ll 3).length)), (Value.bool (decide (i < ((noiseL ll 3).length))))] ++ (zs z 28 11 ++ [u15, u65, u57, u3, u69, u71] ++ (us 28))) ?_
 refine wO (d_call (xl := [.tmp 40, .tmp 44]) (al := [u65, u71]) Try.func17 (by kernel_rfl) rfl rfl rfl (ref6Flip_ok (pgE (dataL la 48)) ((noiseL ll 3) ++ (placesL lm 32 16)) u65 u71 _ (Ps.no f66) (Ps.no (a74.seq (X := No) (fun _ _ h => h))) (by have := dataL_length la 48; have := pgE_len (dataL la 48); first | omega | (simp; done) | (simp; omega)) (by have := places_le lm 32 16; have := noise_len ll 3; first | omega | (simp; done) | (simp; omega)) (pg_flip_in (dataL_length la 48) (fun k hk => (List.mem_append.1 hk).elim (fun h => (noise_in ll _ k h).2) (fun h => by have := places_in lm 16 (show 0 < 32 by decide) k h; omega))))) ?_
 rintro u79 w77 f80
 replace f80 := f80.ps
 obtain ⟨f80, o78⟩ := f80
 replace f80 := f80.less (Y := (Orq bo73 (Old W.heap.size))) (orq_old a74.lts (old_old oW.size))
 replace h1 := h1.step0 o78
 replace h2 := h2.step0 o78
 replace h3 := h3.step0 o78
 replace f16 := f16.step0 o78
 replace f66 := f66.step0 o78
 replace f70 := f70.step0 o78
 replace a74 := a74.step0 o78
 replace oW := oW.tail0 o78
 replace o61 := o61.tail0 o78
 refine wO (d_call (xl := [.tmp 45]) (al := [u79]) Try.func21 (by kernel_rfl) rfl rfl rfl (pageDecode_ok (flipL (pgE (dataL la 48)) ((noiseL ll 3) ++ (placesL lm 32 16))) u79 _ (Ps.no f80) (by have := flipL_length (pgE (dataL la 48)) ((noiseL ll 3) ++ (placesL lm 32 16)); have := places_le lm 32 16; have := dataL_length la 48; have := pgE_len (dataL la 48); have := noise_len ll 3; first | omega | (simp; done) | (simp; omega)))) ?_
 rintro _ w81 ⟨u83, rfl, f84, o82⟩
 replace f84 := f84.less (Y := (Orq bo73 (Old W.heap.size))) (orq_old a74.lts (old_old oW.size))
 replace h1 := h1.step0 o82
 replace h2 := h2.step0 o82
 replace h3 := h3.step0 o82
 replace f16 := f16.step0 o82
 replace f66 := f66.step0 o82
 replace f70 := f70.step0 o82
 replace f80 := f80.step0 o82
 replace a74 := a74.step0 o82
 replace oW := oW.tail0 o82
 replace o61 := o61.tail0 o82
 refine wO (d_alloc s_ti32 rfl) ?_
 rintro _ w86 ⟨b85, rfl, g87, a88, o89⟩
 have nq_at_b85 : ∀ x, bo73 = some x → ¬ x = b85 := fun x hx e => by have := a74.lts x hx; omega
 have g_oW_b85 : W.heap.size ≤ b85 := Nat.le_trans oW.size g87
 have g_o61_b85 : w55.heap.size ≤ b85 := Nat.le_trans o61.size g87
 replace h1 := h1.new o89 g87
 replace h2 := h2.new o89 g87
 replace h3 := h3.new o89 g87
 replace f16 := f16.new o89 g87
 replace f66 := f66.new o89 g87
 replace f70 := f70.new o89 g87
 replace f80 := f80.new o89 g87
 replace f84 := f84.new o89 g87
 replace a74 := a74.step0 o89
 replace oW := oW.tail0 o89
 replace o61 := o61.tail0 o89
 refine wF ([u1, u2, u3, (Value.bool bh), undef, undef, undef, undef, (Value.bool false), u15, (eN 3), u57, (eN ((((noiseL ll 3).take i).filter fun k => decide (k < 256)).length)), (eN (i - (((noiseL ll 3).take i).filter fun k => decide (k < 256)).length)), (eN i), (ptr b85 0), (Value.bool true), (Value.bool false), u1, u15, (Value.bool bh), u2, (eN 3), u57, (eN i), u57, (eN ((noiseL ll 3).length)), (Value.bool (decide (i < ((noiseL ll 3).length))))] ++ (zs z 28 11 ++ [u15, u65, u57, u3, u69, u71, u79, (Value.agg #[(eN ((pgD (flipL (pgE (dataL la 48)) ((noiseL ll 3) ++ (placesL lm 32 16)))).1)), u83])] ++ (us 26))) ?_
 refine wO (d_storeAg (cs' := [(eN ((pgD (flipL (pgE (dataL la 48)) ((noiseL ll 3) ++ (placesL lm 32 16)))).1)), u83]) s_ti32 rfl rfl rfl (oc_cons rfl (oc_cons (Seq.one f84) oc_nil)) a88 (by decide) rfl) ?_
 rintro _ w90 ⟨a91, o92⟩
 replace h1 := h1.stepb o92 in1
 replace h2 := h2.stepb o92 in1
 replace h3 := h3.stepb o92 in1
 replace f16 := f16.stepb o92 in1
 replace f66 := f66.stepb o92 in1
 replace f70 := f70.stepb o92 in1
 replace f80 := f80.stepb o92 in1
 replace f84 := f84.stepb o92 in1
 replace a74 := a74.step o92 (fun x hx e => nq_at_b85 x hx e)
 replace oW := oW.tailb o92 g_oW_b85
 replace o61 := o61.tailb o92 g_o61_b85
 refine wF ([u1, u2, u3, (Value.bool bh), undef, undef, undef, undef, (Value.bool false), u15, (eN 3), u57, (eN ((((noiseL ll 3).take i).filter fun k => decide (k < 256)).length)), (eN (i - (((noiseL ll 3).take i).filter fun k => decide (k < 256)).length)), (eN i), (ptr b85 0), (Value.bool true), (Value.bool false), u1, u15, (Value.bool bh), u2, (eN 3), u57, (eN i), u57, (eN ((noiseL ll 3).length)), (Value.bool (decide (i < ((noiseL ll 3).length))))] ++ (zs z 28 11 ++ [u15, u65, u57, u3, u69, u71, u79, (Value.agg #[(eN ((pgD (flipL (pgE (dataL la 48)) ((noiseL ll 3) ++ (placesL lm 32 16)))).1)), u83])] ++ (us 26))) ?_
 refine wpL.done ?_
 refine then_n ?_
 refine wpIn_seq ?_
 refine wpIn_seq ?_
 have ht_ : (noiseL ll 3).take i = (noiseL ll 3) := List.take_of_length_le (by omega)
 have hf_ : (((noiseL ll 3).take i).filter fun k => decide (k < 256)).length = (placesL ll 224 3).length := by rw [ht_]; exact noise_low ll 3
 have hg_ : i - (((noiseL ll 3).take i).filter fun k => decide (k < 256)).length = (placesL (hfL ll) 224 3).length := by have := noise_total ll 3; omega
 refine wp_eq (l' := ([u1, u2, u3, (Value.bool bh), undef, undef, undef, undef, (Value.bool false), u15, (eN 3), u57, (eN ((placesL ll 224 3).length)), (eN ((placesL (hfL ll) 224 3).length)), (eN i), (ptr b85 0), (Value.bool true), (Value.bool false), u1, u15, (Value.bool bh), u2, (eN 3), u57, (eN i), u57, (eN ((noiseL ll 3).length)), (Value.bool (decide (i < ((noiseL ll 3).length))))] ++ (zs z 28 11 ++ [u15, u65, u57, u3, u69, u71, u79, (Value.agg #[(eN ((pgD (flipL (pgE (dataL la 48)) ((noiseL ll 3) ++ (placesL lm 32 16)))).1)), u83])] ++ (us 26)))) (Eq.trans (show (([u1, u2, u3, (Value.bool bh), undef, undef, undef, undef, (Value.bool false), u15, (eN 3), u57, (eN ((((noiseL ll 3).take i).filter fun k => decide (k < 256)).length)), (eN (i - (((noiseL ll 3).take i).filter fun k => decide (k < 256)).length)), (eN i), (ptr b85 0), (Value.bool true), (Value.bool false), u1, u15, (Value.bool bh), u2, (eN 3), u57, (eN i), u57, (eN ((noiseL ll 3).length)), (Value.bool (decide (i < ((noiseL ll 3).length))))] ++ (zs z 28 11 ++ [u15, u65, u57, u3, u69, u71, u79, (Value.agg #[(eN ((pgD (flipL (pgE (dataL la 48)) ((noiseL ll 3) ++ (placesL lm 32 16)))).1)), u83])] ++ (us 26))) : List Value) = ([u1, u2, u3, (Value.bool bh), undef, undef, undef, undef, (Value.bool false), u15, (eN 3), u57, (eN ((placesL ll 224 3).length)), (eN (i - (((noiseL ll 3).take i).filter fun k => decide (k < 256)).length)), (eN i), (ptr b85 0), (Value.bool true), (Value.bool false), u1, u15, (Value.bool bh), u2, (eN 3), u57, (eN i), u57, (eN ((noiseL ll 3).length)), (Value.bool (decide (i < ((noiseL ll 3).length))))] ++ (zs z 28 11 ++ [u15, u65, u57, u3, u69, u71, u79, (Value.agg #[(eN ((pgD (flipL (pgE (dataL la 48)) ((noiseL ll 3) ++ (placesL lm 32 16)))).1)), u83])] ++ (us 26))) from reslot ([u1, u2, u3, (Value.bool bh), undef, undef, undef, undef, (Value.bool false), u15, (eN 3), u57, (eN ((((noiseL ll 3).take i).filter fun k => decide (k < 256)).length)), (eN (i - (((noiseL ll 3).take i).filter fun k => decide (k < 256)).length)), (eN i), (ptr b85 0), (Value.bool true), (Value.bool false), u1, u15, (Value.bool bh), u2, (eN 3), u57, (eN i), u57, (eN ((noiseL ll 3).length)), (Value.bool (decide (i < ((noiseL ll 3).length))))] ++ (zs z 28 11 ++ [u15, u65, u57, u3, u69, u71, u79, (Value.agg #[(eN ((pgD (flipL (pgE (dataL la 48)) ((noiseL ll 3) ++ (placesL lm 32 16)))).1)), u83])] ++ (us 26))) 12 (congrArg eN hf_)) (show (([u1, u2, u3, (Value.bool bh), undef, undef, undef, undef, (Value.bool false), u15, (eN 3), u57, (eN ((placesL ll 224 3).length)), (eN (i - (((noiseL ll 3).take i).filter fun k => decide (k < 256)).length)), (eN i), (ptr b85 0), (Value.bool true), (Value.bool false), u1, u15, (Value.bool bh), u2, (eN 3), u57, (eN i), u57, (eN ((noiseL ll 3).length)), (Value.bool (decide (i < ((noiseL ll 3).length))))] ++ (zs z 28 11 ++ [u15, u65, u57, u3, u69, u71, u79, (Value.agg #[(eN ((pgD (flipL (pgE (dataL la 48)) ((noiseL ll 3) ++ (placesL lm 32 16)))).1)), u83])] ++ (us 26))) : List Value) = ([u1, u2, u3, (Value.bool bh), undef, undef, undef, undef, (Value.bool false), u15, (eN 3), u57, (eN ((placesL ll 224 3).length)), (eN ((placesL (hfL ll) 224 3).length)), (eN i), (ptr b85 0), (Value.bool true), (Value.bool false), u1, u15, (Value.bool bh), u2, (eN 3), u57, (eN i), u57, (eN ((noiseL ll 3).length)), (Value.bool (decide (i < ((noiseL ll 3).length))))] ++ (zs z 28 11 ++ [u15, u65, u57, u3, u69, u71, u79, (Value.agg #[(eN ((pgD (flipL (pgE (dataL la 48)) ((noiseL ll 3) ++ (placesL lm 32 16)))).1)), u83])] ++ (us 26))) from reslot ([u1, u2, u3, (Value.bool bh), undef, undef, undef, undef, (Value.bool false), u15, (eN 3), u57, (eN ((placesL ll 224 3).length)), (eN (i - (((noiseL ll 3).take i).filter fun k => decide (k < 256)).length)), (eN i), (ptr b85 0), (Value.bool true), (Value.bool false), u1, u15, (Value.bool bh), u2, (eN 3), u57, (eN i), u57, (eN ((noiseL ll 3).length)), (Value.bool (decide (i < ((noiseL ll 3).length))))] ++ (zs z 28 11 ++ [u15, u65, u57, u3, u69, u71, u79, (Value.agg #[(eN ((pgD (flipL (pgE (dataL la 48)) ((noiseL ll 3) ++ (placesL lm 32 16)))).1)), u83])] ++ (us 26))) 13 (congrArg eN hg_))) ?_
 by_cases d0 : 3 < ((placesL ll 224 3).length)
 ·
  refine plain ?_
  refine wI (d_move rfl) ?_
  refine wI (n_gtr (a := ((placesL ll 224 3).length)) (b := 3) rfl rfl (decide_eq_true d0)) ?_
  refine wI (d_move rfl) ?_
  refine wF ([u1, u2, u3, (Value.bool bh), undef, undef, undef, undef, (Value.bool false), u15, (eN 3), u57, (eN ((placesL ll 224 3).length)), (eN ((placesL (hfL ll) 224 3).length)), (eN i), (ptr b85 0), (Value.bool true), (Value.bool false), u1, u15, (Value.bool bh), u2, (eN 3), u57, (eN i), u57, (eN ((noiseL ll 3).length)), (Value.bool (decide (i < ((noiseL ll 3).length))))] ++ (zs z 28 11 ++ [u15, u65, u57, u3, u69, u71, u79, (Value.agg #[(eN ((pgD (flipL (pgE (dataL la 48)) ((noiseL ll 3) ++ (placesL lm 32 16)))).1)), u83]), (eN ((placesL ll 224 3).length)), (Value.bool true), (Value.bool true)] ++ (us 23))) ?_
  refine wpL.off rfl rfl rfl (nb rfl) rfl ?_
  refine wpL.off rfl rfl rfl (nb rfl) rfl ?_
  refine wI (d_pick (b := true) (v := (Value.bool true)) rfl rfl) ?_
  refine wF ([u1, u2, u3, (Value.bool bh), undef, undef, undef, undef, (Value.bool false), u15, (eN 3), u57, (eN ((placesL ll 224 3).length)), (eN ((placesL (hfL ll) 224 3).length)), (eN i), (ptr b85 0), (Value.bool true), (Value.bool false), u1, u15, (Value.bool bh), u2, (eN 3), u57, (eN i), u57, (eN ((noiseL ll 3).length)), (Value.bool (decide (i < ((noiseL ll 3).length))))] ++ (zs z 28 11 ++ [u15, u65, u57, u3, u69, u71, u79, (Value.agg #[(eN ((pgD (flipL (pgE (dataL la 48)) ((noiseL ll 3) ++ (placesL lm 32 16)))).1)), u83]), (eN ((placesL ll 224 3).length)), (Value.bool true), (Value.bool true), undef, undef, (Value.bool true)] ++ (us 20))) ?_
  refine wpL.done ?_
  refine then_n ?_
  refine cond_t rfl ?_
  refine wpIn_seq ?_
  refine plain ?_
  refine wI (d_fieldAddr (j := 0) Try.underlying32 rfl s_ti3 (by decide) rfl rfl) ?_
  refine wI (d_load (v := (eN ((pgD (flipL (pgE (dataL la 48)) ((noiseL ll 3) ++ (placesL lm 32 16)))).1))) ⟨_, Try.underlying3, rfl⟩ rfl a91 rfl) ?_
  refine wI (n_eql (a := ((pgD (flipL (pgE (dataL la 48)) ((noiseL ll 3) ++ (placesL lm 32 16)))).1)) (b := 1) rfl rfl (decide_eq_true (by rw [pg_mends (dataL_length la 48) ll lm (most := 3) (by decide), if_pos (.inl d0)]))) ?_
  refine wF ([u1, u2, u3, (Value.bool bh), undef, undef, undef, undef, (Value.bool false), u15, (eN 3), u57, (eN ((placesL ll 224 3).length)), (eN ((placesL (hfL ll) 224 3).length)), (eN i), (ptr b85 0), (Value.bool true), (Value.bool false), u1, u15, (Value.bool bh), u2, (eN 3), u57, (eN i), u57, (eN ((noiseL ll 3).length)), (Value.bool (decide (i < ((noiseL ll 3).length))))] ++ (zs z 28 11 ++ [u15, u65, u57, u3, u69, u71, u79, (Value.agg #[(eN ((pgD (flipL (pgE (dataL la 48)) ((noiseL ll 3) ++ (placesL lm 32 16)))).1)), u83]), (eN ((placesL ll 224 3).length)), (Value.bool true), (Value.bool true), undef, undef, (Value.bool true), (ptr b85 0), (eN ((pgD (flipL (pgE (dataL la 48)) ((noiseL ll 3) ++ (placesL lm 32 16)))).1)), (Value.bool true)] ++ (us 17))) ?_
  refine wI (d_move rfl) ?_
  refine wpL.onis rfl rfl rfl (nb rfl) rfl (d_fieldAddr (j := 1) Try.underlying32 rfl s_ti22 (by decide) rfl rfl) ?_
  refine wpL.onis rfl rfl rfl (nb rfl) rfl (d_load (v := u83) ⟨_, Try.underlying22, rfl⟩ rfl a91 rfl) ?_
  refine wF ([u1, u2, u3, (Value.bool bh), undef, undef, undef, undef, (Value.bool false), u15, (eN 3), u57, (eN ((placesL ll 224 3).length)), (eN ((placesL (hfL ll) 224 3).length)), (eN i), (ptr b85 0), (Value.bool true), (Value.bool false), u1, u15, (Value.bool bh), u2, (eN 3), u57, (eN i), u57, (eN ((noiseL ll 3).length)), (Value.bool (decide (i < ((noiseL ll 3).length))))] ++ (zs z 28 11 ++ [u15, u65, u57, u3, u69, u71, u79, (Value.agg #[(eN ((pgD (flipL (pgE (dataL la 48)) ((noiseL ll 3) ++ (placesL lm 32 16)))).1)), u83]), (eN ((placesL ll 224 3).length)), (Value.bool true), (Value.bool true), undef, undef, (Value.bool true), (ptr b85 0), (eN ((pgD (flipL (pgE (dataL la 48)) ((noiseL ll 3) ++ (placesL lm 32 16)))).1)), (Value.bool true), (Value.bool true), (ptr b85 1), u83] ++ (us 14))) ?_
  refine wpL.onis rfl rfl rfl (nb rfl) rfl (d_lenS rfl Try.underlying22 rfl f84) ?_
  refine wpL.onis rfl rfl rfl (nb rfl) rfl (n_eql (a := (((pgD (flipL (pgE (dataL la 48)) ((noiseL ll 3) ++ (placesL lm 32 16)))).2).length)) (b := 0) rfl rfl (decide_eq_true (by rw [pg_mends (dataL_length la 48) ll lm (most := 3) (by decide), if_pos (.inl d0)]; rfl))) ?_
  refine wI (d_pick (b := true) (v := (Value.bool true)) rfl rfl) ?_
  refine wF ([u1, u2, u3, (Value.bool bh), undef, undef, undef, undef, (Value.bool false), u15, (eN 3), u57, (eN ((placesL ll 224 3).length)), (eN ((placesL (hfL ll) 224 3).length)), (eN i), (ptr b85 0), (Value.bool true), (Value.bool false), u1, u15, (Value.bool bh), u2, (eN 3), u57, (eN i), u57, (eN ((noiseL ll 3).length)), (Value.bool (decide (i < ((noiseL ll 3).length))))] ++ (zs z 28 11 ++ [u15, u65, u57, u3, u69, u71, u79, (Value.agg #[(eN ((pgD (flipL (pgE (dataL la 48)) ((noiseL ll 3) ++ (placesL lm 32 16)))).1)), u83]), (eN ((placesL ll 224 3).length)), (Value.bool true), (Value.bool true), undef, undef, (Value.bool true), (ptr b85 0), (eN ((pgD (flipL (pgE (dataL la 48)) ((noiseL ll 3) ++ (placesL lm 32 16)))).1)), (Value.bool true), (Value.bool true), (ptr b85 1), u83, (eN (((pgD (flipL (pgE (dataL la 48)) ((noiseL ll 3) ++ (placesL lm 32 16)))).2).length)), (Value.bool true), (Value.bool true)] ++ (us 11))) ?_
  refine wI (d_assign rfl) ?_
  refine wF ([u1, u2, u3, (Value.bool bh), undef, undef, undef, undef, (Value.bool true), u15, (eN 3), u57, (eN ((placesL ll 224 3).length)), (eN ((placesL (hfL ll) 224 3).length)), (eN i), (ptr b85 0), (Value.bool true), (Value.bool false), u1, u15, (Value.bool bh), u2, (eN 3), u57, (eN i), u57, (eN ((noiseL ll 3).length)), (Value.bool (decide (i < ((noiseL ll 3).length))))] ++ (zs z 28 11 ++ [u15, u65, u57, u3, u69, u71, u79, (Value.agg #[(eN ((pgD (flipL (pgE (dataL la 48)) ((noiseL ll 3) ++ (placesL lm 32 16)))).1)), u83]), (eN ((placesL ll 224 3).length)), (Value.bool true), (Value.bool true), undef, undef, (Value.bool true), (ptr b85 0), (eN ((pgD (flipL (pgE (dataL la 48)) ((noiseL ll 3) ++ (placesL lm 32 16)))).1)), (Value.bool true), (Value.bool true), (ptr b85 1), u83, (eN (((pgD (flipL (pgE (dataL la 48)) ((noiseL ll 3) ++ (placesL lm 32 16)))).2).length)), (Value.bool true), (Value.bool true)] ++ (us 11))) ?_
  refine wpL.done ?_
  refine then_n ?_
  refine wpIn_ret ?_
  refine then_r ?_
  refine leave0 (v := (Value.bool true)) (res1 Try.results4 rfl) ?_
  exact ⟨rfl, oW⟩
 by_cases d1 : 3 < ((placesL (hfL ll) 224 3).length)
 ·
  refine plain ?_
  refine wI (d_move rfl) ?_
  refine wI (n_gtr (a := ((placesL ll 224 3).length)) (b := 3) rfl rfl (decide_eq_false d0)) ?_
  refine wI (d_move rfl) ?_
  refine wF ([u1, u2, u3, (Value.bool bh), undef, undef, undef, undef, (Value.bool false), u15, (eN 3), u57, (eN ((placesL ll 224 3).length)), (eN ((placesL (hfL ll) 224 3).length)), (eN i), (ptr b85 0), (Value.bool true), (Value.bool false), u1, u15, (Value.bool bh), u2, (eN 3), u57, (eN i), u57, (eN ((noiseL ll 3).length)), (Value.bool (decide (i < ((noiseL ll 3).length))))] ++ (zs z 28 11 ++ [u15, u65, u57, u3, u69, u71, u79, (Value.agg #[(eN ((pgD (flipL (pgE (dataL la 48)) ((noiseL ll 3) ++ (placesL lm 32 16)))).1)), u83]), (eN ((placesL ll 224 3).length)), (Value.bool false), (Value.bool false)] ++ (us 23))) ?_
  refine wpL.onis rfl rfl rfl (nb rfl) rfl (d_move rfl) ?_
  refine wpL.onis rfl rfl rfl (nb rfl) rfl (n_gtr (a := ((placesL (hfL ll) 224 3).length)) (b := 3) rfl rfl (decide_eq_true d1)) ?_
  refine wI (d_pick (b := false) (v := (Value.bool true)) rfl rfl) ?_
  refine wF ([u1, u2, u3, (Value.bool bh), undef, undef, undef, undef, (Value.bool false), u15, (eN 3), u57, (eN ((placesL ll 224 3).length)), (eN ((placesL (hfL ll) 224 3).length)), (eN i), (ptr b85 0), (Value.bool true), (Value.bool false), u1, u15, (Value.bool bh), u2, (eN 3), u57, (eN i), u57, (eN ((noiseL ll 3).length)), (Value.bool (decide (i < ((noiseL ll 3).length))))] ++ (zs z 28 11 ++ [u15, u65, u57, u3, u69, u71, u79, (Value.agg #[(eN ((pgD (flipL (pgE (dataL la 48)) ((noiseL ll 3) ++ (placesL lm 32 16)))).1)), u83]), (eN ((placesL ll 224 3).length)), (Value.bool false), (Value.bool false), (eN ((placesL (hfL ll) 224 3).length)), (Value.bool true), (Value.bool true)] ++ (us 20))) ?_
  refine wpL.done ?_
  refine then_n ?_
  refine cond_t rfl ?_
  refine wpIn_seq ?_
  refine plain ?_
  refine wI (d_fieldAddr (j := 0) Try.underlying32 rfl s_ti3 (by decide) rfl rfl) ?_
  refine wI (d_load (v := (eN ((pgD (flipL (pgE (dataL la 48)) ((noiseL ll 3) ++ (placesL lm 32 16)))).1))) ⟨_, Try.underlying3, rfl⟩ rfl a91 rfl) ?_
  refine wI (n_eql (a := ((pgD (flipL (pgE (dataL la 48)) ((noiseL ll 3) ++ (placesL lm 32 16)))).1)) (b := 1) rfl rfl (decide_eq_true (by rw [pg_mends (dataL_length la 48) ll lm (most := 3) (by decide), if_pos (.inr d1)]))) ?_
  refine wF ([u1, u2, u3, (Value.bool bh), undef, undef, undef, undef, (Value.bool false), u15, (eN 3), u57, (eN ((placesL ll 224 3).length)), (eN ((placesL (hfL ll) 224 3).length)), (eN i), (ptr b85 0), (Value.bool true), (Value.bool false), u1, u15, (Value.bool bh), u2, (eN 3), u57, (eN i), u57, (eN ((noiseL ll 3).length)), (Value.bool (decide (i < ((noiseL ll 3).length))))] ++ (zs z 28 11 ++ [u15, u65, u57, u3, u69, u71, u79, (Value.agg #[(eN ((pgD (flipL (pgE (dataL la 48)) ((noiseL ll 3) ++ (placesL lm 32 16)))).1)), u83]), (eN ((placesL ll 224 3).length)), (Value.bool false), (Value.bool false), (eN ((placesL (hfL ll) 224 3).length)), (Value.bool true), (Value.bool true), (ptr b85 0), (eN ((pgD (flipL (pgE (dataL la 48)) ((noiseL ll 3) ++ (placesL lm 32 16)))).1)), (Value.bool true)] ++ (us 17))) ?_
  refine wI (d_move rfl) ?_
  refine wpL.onis rfl rfl rfl (nb rfl) rfl (d_fieldAddr (j := 1) Try.underlying32 rfl s_ti22 (by decide) rfl rfl) ?_
  refine wpL.onis rfl rfl rfl (nb rfl) rfl (d_load (v := u83) ⟨_, Try.underlying22, rfl⟩ rfl a91 rfl) ?_
  refine wF ([u1, u2, u3, (Value.bool bh), undef, undef, undef, undef, (Value.bool false), u15, (eN 3), u57, (eN ((placesL ll 224 3).length)), (eN ((placesL (hfL ll) 224 3).length)), (eN i), (ptr b85 0), (Value.bool true), (Value.bool false), u1, u15, (Value.bool bh), u2, (eN 3), u57, (eN i), u57, (eN ((noiseL ll 3).length)), (Value.bool (decide (i < ((noiseL ll 3).length))))] ++ (zs z 28 11 ++ [u15, u65, u57, u3, u69, u71, u79, (Value.agg #[(eN ((pgD (flipL (pgE (dataL la 48)) ((noiseL ll 3) ++ (placesL lm 32 16)))).1)), u83]), (eN ((placesL ll 224 3).length)), (Value.bool false), (Value.bool false), (eN ((placesL (hfL ll) 224 3).length)), (Value.bool true), (Value.bool true), (ptr b85 0), (eN ((pgD (flipL (pgE (dataL la 48)) ((noiseL ll 3) ++ (placesL lm 32 16)))).1)), (Value.bool true), (Value.bool true), (ptr b85 1), u83] ++ (us 14))) ?_
  refine wpL.onis rfl rfl rfl (nb rfl) rfl (d_lenS rfl Try.underlying22 rfl f84) ?_
  refine wpL.onis rfl rfl rfl (nb rfl) rfl (n_eql (a := (((pgD (flipL (pgE (dataL la 48)) ((noiseL ll 3) ++ (placesL lm 32 16)))).2).length)) (b := 0) rfl rfl (decide_eq_true (by rw [pg_mends (dataL_length la 48) ll lm (most := 3) (by decide), if_pos (.inr d1)]; rfl))) ?_
  refine wI (d_pick (b := true) (v := (Value.bool true)) rfl rfl) ?_
  refine wF ([u1, u2, u3, (Value.bool bh), undef, undef, undef, undef, (Value.bool false), u15, (eN 3), u57, (eN ((placesL ll 224 3).length)), (eN ((placesL (hfL ll) 224 3).length)), (eN i), (ptr b85 0), (Value.bool true), (Value.bool false), u1, u15, (Value.bool bh), u2, (eN 3), u57, (eN i), u57, (eN ((noiseL ll 3).length)), (Value.bool (decide (i < ((noiseL ll 3).length))))] ++ (zs z 28 11 ++ [u15, u65, u57, u3, u69, u71, u79, (Value.agg #[(eN ((pgD (flipL (pgE (dataL la 48)) ((noiseL ll 3) ++ (placesL lm 32 16)))).1)), u83]), (eN ((placesL ll 224 3).length)), (Value.bool false), (Value.bool false), (eN ((placesL (hfL ll) 224 3).length)), (Value.bool true), (Value.bool true), (ptr b85 0), (eN ((pgD (flipL (pgE (dataL la 48)) ((noiseL ll 3) ++ (placesL lm 32 16)))).1)), (Value.bool true), (Value.bool true), (ptr b85 1), u83, (eN (((pgD (flipL (pgE (dataL la 48)) ((noiseL ll 3) ++ (placesL lm 32 16)))).2).length)), (Value.bool true), (Value.bool true)] ++ (us 11))) ?_
  refine wI (d_assign rfl) ?_
  refine wF ([u1, u2, u3, (Value.bool bh), undef, undef, undef, undef, (Value.bool true), u15, (eN 3), u57, (eN ((placesL ll 224 3).length)), (eN ((placesL (hfL ll) 224 3).length)), (eN i), (ptr b85 0), (Value.bool true), (Value.bool false), u1, u15, (Value.bool bh), u2, (eN 3), u57, (eN i), u57, (eN ((noiseL ll 3).length)), (Value.bool (decide (i < ((noiseL ll 3).length))))] ++ (zs z 28 11 ++ [u15, u65, u57, u3, u69, u71, u79, (Value.agg #[(eN ((pgD (flipL (pgE (dataL la 48)) ((noiseL ll 3) ++ (placesL lm 32 16)))).1)), u83]), (eN ((placesL ll 224 3).length)), (Value.bool false), (Value.bool false), (eN ((placesL (hfL ll) 224 3).length)), (Value.bool true), (Value.bool true), (ptr b85 0), (eN ((pgD (flipL (pgE (dataL la 48)) ((noiseL ll 3) ++ (placesL lm 32 16)))).1)), (Value.bool true), (Value.bool true), (ptr b85 1), u83, (eN (((pgD (flipL (pgE (dataL la 48)) ((noiseL ll 3) ++ (placesL lm 32 16)))).2).length)), (Value.bool true), (Value.bool true)] ++ (us 11))) ?_
  refine wpL.done ?_
  refine then_n ?_
  refine wpIn_ret ?_
  refine then_r ?_
  refine leave0 (v := (Value.bool true)) (res1 Try.results4 rfl) ?_
  exact ⟨rfl, oW⟩
 refine plain ?_
 refine wI (d_move rfl) ?_
 refine wI (n_gtr (a := ((placesL ll 224 3).length)) (b := 3) rfl rfl (decide_eq_false d0)) ?_
 refine wI (d_move rfl) ?_
 refine wF ([u1, u2, u3, (Value.bool bh), undef, undef, undef, undef, (Value.bool false), u15, (eN 3), u57, (eN ((placesL ll 224 3).length)), (eN ((placesL (hfL ll) 224 3).length)), (eN i), (ptr b85 0), (Value.bool true), (Value.bool false), u1, u15, (Value.bool bh), u2, (eN 3), u57, (eN i), u57, (eN ((noiseL ll 3).length)), (Value.bool (decide (i < ((noiseL ll 3).length))))] ++ (zs z 28 11 ++ [u15, u65, u57, u3, u69, u71, u79, (Value.agg #[(eN ((pgD (flipL (pgE (dataL la 48)) ((noiseL ll 3) ++ (placesL lm 32 16)))).1)), u83]), (eN ((placesL ll 224 3).length)), (Value.bool false), (Value.bool false)] ++ (us 23))) ?_
 refine wpL.onis rfl rfl rfl (nb rfl) rfl (d_move rfl) ?_
 refine wpL.onis rfl rfl rfl (nb rfl) rfl (n_gtr (a := ((placesL (hfL ll) 224 3).length)) (b := 3) rfl rfl (decide_eq_false d1)) ?_
 refine wI (d_pick (b := false) (v := (Value.bool false)) rfl rfl) ?_
 refine wF ([u1, u2, u3, (Value.bool bh), undef, undef, undef, undef, (Value.bool false), u15, (eN 3), u57, (eN ((placesL ll 224 3).length)), (eN ((placesL (hfL ll) 224 3).length)), (eN i), (ptr b85 0), (Value.bool true), (Value.bool false), u1, u15, (Value.bool bh), u2, (eN 3), u57, (eN i), u57, (eN ((noiseL ll 3).length)), (Value.bool (decide (i < ((noiseL ll 3).length))))] ++ (zs z 28 11 ++ [u15, u65, u57, u3, u69, u71, u79, (Value.agg #[(eN ((pgD (flipL (pgE (dataL la 48)) ((noiseL ll 3) ++ (placesL lm 32 16)))).1)), u83]), (eN ((placesL ll 224 3).length)), (Value.bool false), (Value.bool false), (eN ((placesL (hfL ll) 224 3).length)), (Value.bool false), (Value.bool false)] ++ (us 20))) ?_
 refine wpL.done ?_
 refine then_n ?_
 refine cond_f rfl ?_
 refine wpIn_skip ?_
 refine then_n ?_
 refine wpIn_seq ?_
 refine plain ?_
 refine wI (d_fieldAddr (j := 0) Try.underlying32 rfl s_ti3 (by decide) rfl rfl) ?_
 refine wI (d_load (v := (eN ((pgD (flipL (pgE (dataL la 48)) ((noiseL ll 3) ++ (placesL lm 32 16)))).1))) ⟨_, Try.underlying3, rfl⟩ rfl a91 rfl) ?_
 refine wI (n_eql (a := ((pgD (flipL (pgE (dataL la 48)) ((noiseL ll 3) ++ (placesL lm 32 16)))).1)) (b := 2) rfl rfl (decide_eq_true (by rw [pg_mends (dataL_length la 48) ll lm (most := 3) (by decide), if_neg (by rintro (h | h); exact d0 h; exact d1 h)]))) ?_
 refine wF ([u1, u2, u3, (Value.bool bh), undef, undef, undef, undef, (Value.bool false), u15, (eN 3), u57, (eN ((placesL ll 224 3).length)), (eN ((placesL (hfL ll) 224 3).length)), (eN i), (ptr b85 0), (Value.bool true), (Value.bool false), u1, u15, (Value.bool bh), u2, (eN 3), u57, (eN i), u57, (eN ((noiseL ll 3).length)), (Value.bool (decide (i < ((noiseL ll 3).length))))] ++ (zs z 28 11 ++ [u15, u65, u57, u3, u69, u71, u79, (Value.agg #[(eN ((pgD (flipL (pgE (dataL la 48)) ((noiseL ll 3) ++ (placesL lm 32 16)))).1)), u83]), (eN ((placesL ll 224 3).length)), (Value.bool false), (Value.bool false), (eN ((placesL (hfL ll) 224 3).length)), (Value.bool false), (Value.bool false)] ++ (us 9 ++ [(ptr b85 0), (eN ((pgD (flipL (pgE (dataL la 48)) ((noiseL ll 3) ++ (placesL lm 32 16)))).1)), (Value.bool true)] ++ (us 8)))) ?_
 refine wI (d_move rfl) ?_
 refine wpL.onis rfl rfl rfl (nb rfl) rfl (d_fieldAddr (j := 1) Try.underlying32 rfl s_ti22 (by decide) rfl rfl) ?_
 refine wpL.onis rfl rfl rfl (nb rfl) rfl (d_load (v := u83) ⟨_, Try.underlying22, rfl⟩ rfl a91 rfl) ?_
 refine wF ([u1, u2, u3, (Value.bool bh), undef, undef, undef, undef, (Value.bool false), u15, (eN 3), u57, (eN ((placesL ll 224 3).length)), (eN ((placesL (hfL ll) 224 3).length)), (eN i), (ptr b85 0), (Value.bool true), (Value.bool false), u1, u15, (Value.bool bh), u2, (eN 3), u57, (eN i), u57, (eN ((noiseL ll 3).length)), (Value.bool (decide (i < ((noiseL ll 3).length))))] ++ (zs z 28 11 ++ [u15, u65, u57, u3, u69, u71, u79, (Value.agg #[(eN ((pgD (flipL (pgE (dataL la 48)) ((noiseL ll 3) ++ (placesL lm 32 16)))).1)), u83]), (eN ((placesL ll 224 3).length)), (Value.bool false), (Value.bool false), (eN ((placesL (hfL ll) 224 3).length)), (Value.bool false), (Value.bool false)] ++ (us 9 ++ [(ptr b85 0), (eN ((pgD (flipL (pgE (dataL la 48)) ((noiseL ll 3) ++ (placesL lm 32 16)))).1)), (Value.bool true), (Value.bool true), (ptr b85 1), u83] ++ (us 5)))) ?_
 refine wpL.onis rfl rfl rfl (nb rfl) rfl (d_str Try.underlying22 Try.underlying5 Try.underlying9 rfl f84) ?_
 refine wpL.onis rfl rfl rfl (nb rfl) rfl (d_move rfl) ?_
 refine wpL.onis rfl rfl rfl (nb rfl) rfl (d_str Try.underlying22 Try.underlying5 Try.underlying9 rfl f16) ?_
 refine wF ([u1, u2, u3, (Value.bool bh), undef, undef, undef, undef, (Value.bool false), u15, (eN 3), u57, (eN ((placesL ll 224 3).length)), (eN ((placesL (hfL ll) 224 3).length)), (eN i), (ptr b85 0), (Value.bool true), (Value.bool false), u1, u15, (Value.bool bh), u2, (eN 3), u57, (eN i), u57, (eN ((noiseL ll 3).length)), (Value.bool (decide (i < ((noiseL ll 3).length))))] ++ (zs z 28 11 ++ [u15, u65, u57, u3, u69, u71, u79, (Value.agg #[(eN ((pgD (flipL (pgE (dataL la 48)) ((noiseL ll 3) ++ (placesL lm 32 16)))).1)), u83]), (eN ((placesL ll 224 3).length)), (Value.bool false), (Value.bool false), (eN ((placesL (hfL ll) 224 3).length)), (Value.bool false), (Value.bool false)] ++ (us 9 ++ [(ptr b85 0), (eN ((pgD (flipL (pgE (dataL la 48)) ((noiseL ll 3) ++ (placesL lm 32 16)))).1)), (Value.bool true), (Value.bool true), (ptr b85 1), u83, (Value.string (strOf ((pgD (flipL (pgE (dataL la 48)) ((noiseL ll 3) ++ (placesL lm 32 16)))).2))), u15, (Value.string (strOf (dataL la 48))), undef, undef]))) ?_
 refine wpL.onis rfl rfl rfl (nb rfl) rfl (d_seql (a := ((pgD (flipL (pgE (dataL la 48)) ((noiseL ll 3) ++ (placesL lm 32 16)))).2)) (c := (dataL la 48)) rfl rfl (decide_eq_true (by rw [pg_mends (dataL_length la 48) ll lm (most := 3) (by decide), if_neg (by rintro (h | h); exact d0 h; exact d1 h)]))) ?_
 refine wI (d_pick (b := true) (v := (Value.bool true)) rfl rfl) ?_
 refine wI (d_assign rfl) ?_
 refine wF ([u1, u2, u3, (Value.bool bh), undef, undef, undef, undef, (Value.bool true), u15, (eN 3), u57, (eN ((placesL ll 224 3).length)), (eN ((placesL (hfL ll) 224 3).length)), (eN i), (ptr b85 0), (Value.bool true), (Value.bool false), u1, u15, (Value.bool bh), u2, (eN 3), u57, (eN i), u57, (eN ((noiseL ll 3).length)), (Value.bool (decide (i < ((noiseL ll 3).length))))] ++ (zs z 28 11 ++ [u15, u65, u57, u3, u69, u71, u79, (Value.agg #[(eN ((pgD (flipL (pgE (dataL la 48)) ((noiseL ll 3) ++ (placesL lm 32 16)))).1)), u83]), (eN ((placesL ll 224 3).length)), (Value.bool false), (Value.bool false), (eN ((placesL (hfL ll) 224 3).length)), (Value.bool false), (Value.bool false)] ++ (us 9 ++ [(ptr b85 0), (eN ((pgD (flipL (pgE (dataL la 48)) ((noiseL ll 3) ++ (placesL lm 32 16)))).1)), (Value.bool true), (Value.bool true), (ptr b85 1), u83, (Value.string (strOf ((pgD (flipL (pgE (dataL la 48)) ((noiseL ll 3) ++ (placesL lm 32 16)))).2))), u15, (Value.string (strOf (dataL la 48))), (Value.bool true), (Value.bool true)]))) ?_
 refine wpL.done ?_
 refine then_n ?_
 refine wpIn_ret ?_
 refine leave0 (v := (Value.bool true)) (res1 Try.results4 rfl) ?_
 exact ⟨rfl, oW⟩

end Go.Proofs.YtgalehapmdabeaaF
