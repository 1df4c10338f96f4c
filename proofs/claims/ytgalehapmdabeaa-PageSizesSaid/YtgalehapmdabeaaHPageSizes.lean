import Derived.Test.YtgalehapmdabeaaFz
import Derived.Test.YtgalehapmdabeaaTy
import Derived.Test.YtgalehapmdabeaaHpgu
set_option linter.unusedVariables false
set_option linter.unusedSimpArgs false
namespace Go.Proofs.YtgalehapmdabeaaF
open Go Go.Shelf Go.Proofs.YtgalehapmdabeaaS Ram
set_option maxRecDepth 20000 in
set_option maxHeartbeats 4000000 in
theorem pageSizes_law (la : List UInt8) (n : Int) (u1 : Value) (W : World) (h1 : Ps No (Seq kB la u1) W) (g1 : la.length ≤ 140737488351232) :
    CW Try.prog 8 #[u1, (eI n)] W (Rt (RIs (.bool true) W)) := by
 have oW : Only No W W := Only.refl _ _
 refine enter (al := [u1, (eI n)]) (k := 48) (l := ([u1, (eI n)] ++ (us 48))) Try.func8 rfl Try.ntmps8 rfl rfl ?_
 refine wpIn_seq ?_
 refine plain ?_
 refine wI (d_assign rfl) ?_
 refine wF ([u1, (eI n), undef, undef, (Value.bool false)] ++ (us 45)) ?_
 refine wpL.done ?_
 refine then_n ?_
 refine wpIn_seq ?_
 refine wpIn_seq ?_
 refine plain ?_
 refine wO (d_call (xl := []) (al := []) Try.func14 (by kernel_rfl) rfl rfl rfl (l8known_ok _)) ?_
 rintro _ w11 ⟨rfl, o12⟩
 replace h1 := h1.step0 o12
 replace oW := oW.tail0 o12
 refine wI (d_not rfl rfl) ?_
 refine wF ([u1, (eI n), undef, undef, (Value.bool false), undef, undef, (Value.bool true), (Value.bool false)] ++ (us 41)) ?_
 refine wpL.done ?_
 refine then_n ?_
 refine cond_f rfl ?_
 refine wpIn_skip ?_
 refine then_n ?_
 refine wpIn_seq ?_
 refine plain ?_
 refine wI (d_move rfl) ?_
 refine wO (d_call (xl := [.tmp 9, .const (.int .i64 80)]) (al := [(eI n), (eN 80)]) Try.func25 (by kernel_rfl) rfl rfl rfl (l8within_ok n 80 _ (by omega) (by omega))) ?_
 rintro _ w13 ⟨rfl, o14⟩
 replace h1 := h1.step0 o14
 replace oW := oW.tail0 o14
 refine wI (d_assign rfl) ?_
 refine wF ([u1, (eN ((n % ((80 : Nat) : Int)).toNat)), undef, undef, (Value.bool false), undef, undef, (Value.bool true), (Value.bool false), (eI n), (eN ((n % ((80 : Nat) : Int)).toNat))] ++ (us 39)) ?_
 refine wpL.done ?_
 have hk_ : ((n % ((80 : Nat) : Int)).toNat) < 80 := by have h__ := Int.emod_lt_of_pos n (show (0 : Int) < ((80 : Nat) : Int) by decide); omega
 refine then_n ?_
 refine wpIn_seq ?_
 refine plain ?_
 refine wI (d_move rfl) ?_
 refine wO (d_make1 (n := (n % ((80 : Nat) : Int)).toNat) Try.underlying22 s_ti5 rfl rfl (by omega) (by omega) rfl) ?_
 rintro _ w15 ⟨d, rfl, g16, a17, o18⟩
 replace a17 : Arr 5 d ((List.replicate ((n % ((80 : Nat) : Int)).toNat) 0).map eB) w15 := by rw [List.map_replicate]; exact a17
 have l_d : (List.replicate ((n % ((80 : Nat) : Int)).toNat) 0 : List UInt8).length = (n % ((80 : Nat) : Int)).toNat := by simp
 have g_oW_d : W.heap.size ≤ d := Nat.le_trans oW.size g16
 replace h1 := h1.new o18 g16
 replace oW := oW.tail0 o18
 refine wI (d_assign rfl) ?_
 refine wF ([u1, (eN ((n % ((80 : Nat) : Int)).toNat)), undef, undef, (Value.bool false), (sli d 0 ((n % ((80 : Nat) : Int)).toNat) ((n % ((80 : Nat) : Int)).toNat)), undef, (Value.bool true), (Value.bool false), (eI n), (eN ((n % ((80 : Nat) : Int)).toNat)), (eN ((n % ((80 : Nat) : Int)).toNat)), (sli d 0 ((n % ((80 : Nat) : Int)).toNat) ((n % ((80 : Nat) : Int)).toNat))] ++ (us 37)) ?_
 refine wpL.done ?_
 refine then_n ?_
 refine wpIn_seq ?_
 refine plain ?_
 refine wI (d_move rfl) ?_
 refine wI (d_move rfl) ?_
 refine wO (d_copy (b := d) (o := 0) (n := ((n % ((80 : Nat) : Int)).toNat)) (c := ((n % ((80 : Nat) : Int)).toNat)) (zs := (la.take (min la.length ((n % ((80 : Nat) : Int)).toNat)) ++ (List.replicate ((n % ((80 : Nat) : Int)).toNat) 0).drop (min la.length ((n % ((80 : Nat) : Int)).toNat)))) (j := (min la.length ((n % ((80 : Nat) : Int)).toNat))) rfl Try.underlying22 s_ti5 rfl rfl a17 h1 (fun _ => rfl) (by rw [l_d]; omega) rfl (by simp)) ?_
 rintro _ w19 ⟨rfl, a20, o21⟩
 replace h1 := h1.stepb o21 in1
 replace oW := oW.tailb o21 g_oW_d
 replace l_d : (la.take (min la.length ((n % ((80 : Nat) : Int)).toNat)) ++ (List.replicate ((n % ((80 : Nat) : Int)).toNat) 0).drop (min la.length ((n % ((80 : Nat) : Int)).toNat)) : List UInt8).length = (n % ((80 : Nat) : Int)).toNat := (by simp; omega)
 refine wF ([u1, (eN ((n % ((80 : Nat) : Int)).toNat)), undef, undef, (Value.bool false), (sli d 0 ((n % ((80 : Nat) : Int)).toNat) ((n % ((80 : Nat) : Int)).toNat)), undef, (Value.bool true), (Value.bool false), (eI n), (eN ((n % ((80 : Nat) : Int)).toNat)), (eN ((n % ((80 : Nat) : Int)).toNat)), (sli d 0 ((n % ((80 : Nat) : Int)).toNat) ((n % ((80 : Nat) : Int)).toNat)), (sli d 0 ((n % ((80 : Nat) : Int)).toNat) ((n % ((80 : Nat) : Int)).toNat)), u1, (eN (min la.length ((n % ((80 : Nat) : Int)).toNat)))] ++ (us 34)) ?_
 refine wpL.done ?_
 obtain ⟨D, hD_⟩ : ∃ D, la.take (min la.length ((n % ((80 : Nat) : Int)).toNat)) ++ (List.replicate ((n % ((80 : Nat) : Int)).toNat) 0).drop (min la.length ((n % ((80 : Nat) : Int)).toNat)) = D := ⟨_, rfl⟩
 have hl_ : D.length = ((n % ((80 : Nat) : Int)).toNat) := by rw [← hD_]; exact l_d
 replace a20 : Arr 5 d (D.map eB) w19 := by rw [← (hD_)]; exact a20
 replace l_d : (D : List UInt8).length = (n % ((80 : Nat) : Int)).toNat := hl_
 refine then_n ?_
 refine forget (fun zf22 => ([(zf22 0), (eN ((n % ((80 : Nat) : Int)).toNat)), (zf22 2), (zf22 3), (zf22 4), (sli d 0 ((n % ((80 : Nat) : Int)).toNat) ((n % ((80 : Nat) : Int)).toNat))] ++ (zs zf22 6 44))) (by kernel_rfl) (fun zf22 => ?_)
 refine wpIn_seq ?_
 refine plain ?_
 refine wI (d_move rfl) ?_
 refine wO (d_call (xl := [.tmp 16]) (al := [(sli d 0 ((n % ((80 : Nat) : Int)).toNat) ((n % ((80 : Nat) : Int)).toNat))]) Try.func21 (by kernel_rfl) rfl rfl rfl (pageDecode_ok D (sli d 0 ((n % ((80 : Nat) : Int)).toNat) ((n % ((80 : Nat) : Int)).toNat)) _ (Ps.no (arr_seq a20 l_d (Nat.le_refl _))) (by first | omega | (simp; done) | (simp; omega)))) ?_
 rintro _ w23 ⟨u25, rfl, f26, o24⟩
 replace f26 := f26.less (Y := (Or1 d (Old W.heap.size))) (or1_old a20.lt (old_old oW.size))
 replace h1 := h1.step0 o24
 replace a20 := a20.step0 o24
 replace oW := oW.tail0 o24
 refine wO (d_alloc s_ti32 rfl) ?_
 rintro _ w28 ⟨b27, rfl, g29, a30, o31⟩
 have n_d_b27 : d ≠ b27 := a20.ne g29
 have g_oW_b27 : W.heap.size ≤ b27 := Nat.le_trans oW.size g29
 replace h1 := h1.new o31 g29
 replace f26 := f26.new o31 g29
 replace a20 := a20.step0 o31
 replace oW := oW.tail0 o31
 refine wF ([(zf22 0), (eN ((n % ((80 : Nat) : Int)).toNat)), (zf22 2), (zf22 3), (zf22 4), (sli d 0 ((n % ((80 : Nat) : Int)).toNat) ((n % ((80 : Nat) : Int)).toNat)), (ptr b27 0)] ++ (zs zf22 7 9 ++ [(sli d 0 ((n % ((80 : Nat) : Int)).toNat) ((n % ((80 : Nat) : Int)).toNat)), (Value.agg #[(eN ((pgD D).1)), u25])] ++ (zs zf22 18 32))) ?_
 refine wO (d_storeAg (cs' := [(eN ((pgD D).1)), u25]) s_ti32 rfl rfl rfl (oc_cons rfl (oc_cons (Seq.one f26) oc_nil)) a30 (by decide) rfl) ?_
 rintro _ w32 ⟨a33, o34⟩
 replace h1 := h1.stepb o34 in1
 replace f26 := f26.stepb o34 in1
 replace a20 := a20.step o34 (fun e => absurd e n_d_b27)
 replace oW := oW.tailb o34 g_oW_b27
 refine wF ([(zf22 0), (eN ((n % ((80 : Nat) : Int)).toNat)), (zf22 2), (zf22 3), (zf22 4), (sli d 0 ((n % ((80 : Nat) : Int)).toNat) ((n % ((80 : Nat) : Int)).toNat)), (ptr b27 0)] ++ (zs zf22 7 9 ++ [(sli d 0 ((n % ((80 : Nat) : Int)).toNat) ((n % ((80 : Nat) : Int)).toNat)), (Value.agg #[(eN ((pgD D).1)), u25])] ++ (zs zf22 18 32))) ?_
 refine wpL.done ?_
 refine then_n ?_
 refine wpIn_seq ?_
 by_cases k0 : ((n % ((80 : Nat) : Int)).toNat) = 48
 ·
  refine plain ?_
  refine wI (d_move rfl) ?_
  refine wO (d_call (xl := [.tmp 18]) (al := [(sli d 0 ((n % ((80 : Nat) : Int)).toNat) ((n % ((80 : Nat) : Int)).toNat))]) Try.func16 (by kernel_rfl) rfl rfl rfl (pageEncode_ok D (sli d 0 ((n % ((80 : Nat) : Int)).toNat) ((n % ((80 : Nat) : Int)).toNat)) _ (Ps.no (arr_seq a20 l_d (Nat.le_refl _))) (by first | omega | (simp; done) | (simp; omega)))) ?_
  rintro u37 w35 f38
  replace f38 := f38.ps
  obtain ⟨f38, o36⟩ := f38
  replace f38 := f38.less (Y := (Or1 b27 (Or1 d (Old W.heap.size)))) (or1_old a33.lt (or1_old a20.lt (old_old oW.size)))
  replace h1 := h1.step0 o36
  replace f26 := f26.step0 o36
  replace a20 := a20.step0 o36
  replace a33 := a33.step0 o36
  replace oW := oW.tail0 o36
  refine wI (d_lenS rfl Try.underlying22 rfl f38) ?_
  refine wF ([(zf22 0), (eN ((n % ((80 : Nat) : Int)).toNat)), (zf22 2), (zf22 3), (zf22 4), (sli d 0 ((n % ((80 : Nat) : Int)).toNat) ((n % ((80 : Nat) : Int)).toNat)), (ptr b27 0)] ++ (zs zf22 7 9 ++ [(sli d 0 ((n % ((80 : Nat) : Int)).toNat) ((n % ((80 : Nat) : Int)).toNat)), (Value.agg #[(eN ((pgD D).1)), u25]), (sli d 0 ((n % ((80 : Nat) : Int)).toNat) ((n % ((80 : Nat) : Int)).toNat)), u37, (eN ((pgE D).length))] ++ (zs zf22 21 29))) ?_
  refine wI (n_eql (a := ((pgE D).length)) (b := 60) rfl rfl (decide_eq_true (pgE_length (hl_.trans k0)))) ?_
  refine wI (d_move rfl) ?_
  refine wI (n_eql (a := ((n % ((80 : Nat) : Int)).toNat)) (b := 48) rfl rfl (decide_eq_true k0)) ?_
  refine wF ([(zf22 0), (eN ((n % ((80 : Nat) : Int)).toNat)), (zf22 2), (zf22 3), (zf22 4), (sli d 0 ((n % ((80 : Nat) : Int)).toNat) ((n % ((80 : Nat) : Int)).toNat)), (ptr b27 0)] ++ (zs zf22 7 9 ++ [(sli d 0 ((n % ((80 : Nat) : Int)).toNat) ((n % ((80 : Nat) : Int)).toNat)), (Value.agg #[(eN ((pgD D).1)), u25]), (sli d 0 ((n % ((80 : Nat) : Int)).toNat) ((n % ((80 : Nat) : Int)).toNat)), u37, (eN ((pgE D).length)), (Value.bool true), (eN ((n % ((80 : Nat) : Int)).toNat)), (Value.bool true)] ++ (zs zf22 24 26))) ?_
  refine wI (d_beql Try.underlying4 rfl rfl rfl) ?_
  refine wI (d_move rfl) ?_
  refine wpL.onis rfl rfl rfl (nb rfl) rfl (d_move rfl) ?_
  refine wF ([(zf22 0), (eN ((n % ((80 : Nat) : Int)).toNat)), (zf22 2), (zf22 3), (zf22 4), (sli d 0 ((n % ((80 : Nat) : Int)).toNat) ((n % ((80 : Nat) : Int)).toNat)), (ptr b27 0)] ++ (zs zf22 7 9 ++ [(sli d 0 ((n % ((80 : Nat) : Int)).toNat) ((n % ((80 : Nat) : Int)).toNat)), (Value.agg #[(eN ((pgD D).1)), u25]), (sli d 0 ((n % ((80 : Nat) : Int)).toNat) ((n % ((80 : Nat) : Int)).toNat)), u37, (eN ((pgE D).length)), (Value.bool true), (eN ((n % ((80 : Nat) : Int)).toNat)), (Value.bool true), (Value.bool true), (Value.bool true), (eN ((n % ((80 : Nat) : Int)).toNat))] ++ (zs zf22 27 23))) ?_
  refine wpL.onis rfl rfl rfl (nb rfl) rfl (n_eql (a := ((n % ((80 : Nat) : Int)).toNat)) (b := 48) rfl rfl (decide_eq_true k0)) ?_
  refine wpL.onis rfl rfl rfl (nb rfl) rfl (d_move rfl) ?_
  refine wF ([(zf22 0), (eN ((n % ((80 : Nat) : Int)).toNat)), (zf22 2), (zf22 3), (zf22 4), (sli d 0 ((n % ((80 : Nat) : Int)).toNat) ((n % ((80 : Nat) : Int)).toNat)), (ptr b27 0)] ++ (zs zf22 7 9 ++ [(sli d 0 ((n % ((80 : Nat) : Int)).toNat) ((n % ((80 : Nat) : Int)).toNat)), (Value.agg #[(eN ((pgD D).1)), u25]), (sli d 0 ((n % ((80 : Nat) : Int)).toNat) ((n % ((80 : Nat) : Int)).toNat)), u37, (eN ((pgE D).length)), (Value.bool true), (eN ((n % ((80 : Nat) : Int)).toNat)), (Value.bool true), (Value.bool true), (Value.bool true), (eN ((n % ((80 : Nat) : Int)).toNat)), (Value.bool true), (Value.bool true)] ++ (zs zf22 29 21))) ?_
  refine wpL.off rfl rfl rfl (nb rfl) rfl ?_
  refine wpL.off rfl rfl rfl (nb rfl) rfl ?_
  refine wpL.off rfl rfl rfl (nb rfl) rfl ?_
  refine wF ([(zf22 0), (eN ((n % ((80 : Nat) : Int)).toNat)), (zf22 2), (zf22 3), (zf22 4), (sli d 0 ((n % ((80 : Nat) : Int)).toNat) ((n % ((80 : Nat) : Int)).toNat)), (ptr b27 0)] ++ (zs zf22 7 9 ++ [(sli d 0 ((n % ((80 : Nat) : Int)).toNat) ((n % ((80 : Nat) : Int)).toNat)), (Value.agg #[(eN ((pgD D).1)), u25]), (sli d 0 ((n % ((80 : Nat) : Int)).toNat) ((n % ((80 : Nat) : Int)).toNat)), u37, (eN ((pgE D).length)), (Value.bool true), (eN ((n % ((80 : Nat) : Int)).toNat)), (Value.bool true), (Value.bool true), (Value.bool true), (eN ((n % ((80 : Nat) : Int)).toNat)), (Value.bool true), (Value.bool true), undef, undef, undef] ++ (zs zf22 32 18))) ?_
  refine wpL.off rfl rfl rfl (nb rfl) rfl ?_
  refine wpL.onis rfl rfl rfl (nb rfl) rfl (d_pick (b := true) (v := (Value.bool true)) rfl rfl) ?_
  refine wI (d_pick (b := true) (v := (Value.bool true)) rfl rfl) ?_
  refine wI (d_move rfl) ?_
  refine wF ([(zf22 0), (eN ((n % ((80 : Nat) : Int)).toNat)), (zf22 2), (zf22 3), (zf22 4), (sli d 0 ((n % ((80 : Nat) : Int)).toNat) ((n % ((80 : Nat) : Int)).toNat)), (ptr b27 0)] ++ (zs zf22 7 9 ++ [(sli d 0 ((n % ((80 : Nat) : Int)).toNat) ((n % ((80 : Nat) : Int)).toNat)), (Value.agg #[(eN ((pgD D).1)), u25]), (sli d 0 ((n % ((80 : Nat) : Int)).toNat) ((n % ((80 : Nat) : Int)).toNat)), u37, (eN ((pgE D).length)), (Value.bool true), (eN ((n % ((80 : Nat) : Int)).toNat)), (Value.bool true), (Value.bool true), (Value.bool true), (eN ((n % ((80 : Nat) : Int)).toNat)), (Value.bool true), (Value.bool true), undef, undef, undef, undef, (Value.bool true), (Value.bool true), (Value.bool true)] ++ (zs zf22 36 14))) ?_
  refine wpL.onis rfl rfl rfl (nb rfl) rfl (d_move rfl) ?_
  refine wpL.onis rfl rfl rfl (nb rfl) rfl (n_eql (a := ((n % ((80 : Nat) : Int)).toNat)) (b := 60) rfl rfl (decide_eq_false (by omega : ¬ ((n % ((80 : Nat) : Int)).toNat) = 60))) ?_
  refine wpL.onis rfl rfl rfl (nb rfl) rfl (d_move rfl) ?_
  refine wF ([(zf22 0), (eN ((n % ((80 : Nat) : Int)).toNat)), (zf22 2), (zf22 3), (zf22 4), (sli d 0 ((n % ((80 : Nat) : Int)).toNat) ((n % ((80 : Nat) : Int)).toNat)), (ptr b27 0)] ++ (zs zf22 7 9 ++ [(sli d 0 ((n % ((80 : Nat) : Int)).toNat) ((n % ((80 : Nat) : Int)).toNat)), (Value.agg #[(eN ((pgD D).1)), u25]), (sli d 0 ((n % ((80 : Nat) : Int)).toNat) ((n % ((80 : Nat) : Int)).toNat)), u37, (eN ((pgE D).length)), (Value.bool true), (eN ((n % ((80 : Nat) : Int)).toNat)), (Value.bool true), (Value.bool true), (Value.bool true), (eN ((n % ((80 : Nat) : Int)).toNat)), (Value.bool true), (Value.bool true), undef, undef, undef, undef, (Value.bool true), (Value.bool true), (Value.bool true), (eN ((n % ((80 : Nat) : Int)).toNat)), (Value.bool false), (Value.bool false)] ++ (zs zf22 39 11))) ?_
  refine wpL.onis rfl rfl rfl (nb rfl) rfl (d_fieldAddr (j := 0) Try.underlying32 rfl s_ti3 (by decide) rfl rfl) ?_
  refine wpL.onis rfl rfl rfl (nb rfl) rfl (d_load (v := (eN ((pgD D).1))) ⟨_, Try.underlying3, rfl⟩ rfl a33 rfl) ?_
  refine wpL.onis rfl rfl rfl (nb rfl) rfl (n_eql (a := ((pgD D).1)) (b := 1) rfl rfl (decide_eq_true (by rw [pgD_size (by omega : ¬ D.length = 60)]))) ?_
  refine wF ([(zf22 0), (eN ((n % ((80 : Nat) : Int)).toNat)), (zf22 2), (zf22 3), (zf22 4), (sli d 0 ((n % ((80 : Nat) : Int)).toNat) ((n % ((80 : Nat) : Int)).toNat)), (ptr b27 0)] ++ (zs zf22 7 9 ++ [(sli d 0 ((n % ((80 : Nat) : Int)).toNat) ((n % ((80 : Nat) : Int)).toNat)), (Value.agg #[(eN ((pgD D).1)), u25]), (sli d 0 ((n % ((80 : Nat) : Int)).toNat) ((n % ((80 : Nat) : Int)).toNat)), u37, (eN ((pgE D).length)), (Value.bool true), (eN ((n % ((80 : Nat) : Int)).toNat)), (Value.bool true), (Value.bool true), (Value.bool true), (eN ((n % ((80 : Nat) : Int)).toNat)), (Value.bool true), (Value.bool true), undef, undef, undef, undef, (Value.bool true), (Value.bool true), (Value.bool true), (eN ((n % ((80 : Nat) : Int)).toNat)), (Value.bool false), (Value.bool false), (ptr b27 0), (eN ((pgD D).1)), (Value.bool true)] ++ (zs zf22 42 8))) ?_
  refine wpL.onis rfl rfl rfl (nb rfl) rfl (d_move rfl) ?_
  refine wpL.onis rfl rfl rfl (nb rfl) rfl (d_fieldAddr (j := 1) Try.underlying32 rfl s_ti22 (by decide) rfl rfl) ?_
  refine wpL.onis rfl rfl rfl (nb rfl) rfl (d_load (v := u25) ⟨_, Try.underlying22, rfl⟩ rfl a33 rfl) ?_
  refine wF ([(zf22 0), (eN ((n % ((80 : Nat) : Int)).toNat)), (zf22 2), (zf22 3), (zf22 4), (sli d 0 ((n % ((80 : Nat) : Int)).toNat) ((n % ((80 : Nat) : Int)).toNat)), (ptr b27 0)] ++ (zs zf22 7 9 ++ [(sli d 0 ((n % ((80 : Nat) : Int)).toNat) ((n % ((80 : Nat) : Int)).toNat)), (Value.agg #[(eN ((pgD D).1)), u25]), (sli d 0 ((n % ((80 : Nat) : Int)).toNat) ((n % ((80 : Nat) : Int)).toNat)), u37, (eN ((pgE D).length)), (Value.bool true), (eN ((n % ((80 : Nat) : Int)).toNat)), (Value.bool true), (Value.bool true), (Value.bool true), (eN ((n % ((80 : Nat) : Int)).toNat)), (Value.bool true), (Value.bool true), undef, undef, undef, undef, (Value.bool true), (Value.bool true), (Value.bool true), (eN ((n % ((80 : Nat) : Int)).toNat)), (Value.bool false), (Value.bool false), (ptr b27 0), (eN ((pgD D).1)), (Value.bool true), (Value.bool true), (ptr b27 1), u25] ++ (zs zf22 45 5))) ?_
  refine wpL.onis rfl rfl rfl (nb rfl) rfl (d_lenS rfl Try.underlying22 rfl f26) ?_
  refine wpL.onis rfl rfl rfl (nb rfl) rfl (n_eql (a := (((pgD D).2).length)) (b := 0) rfl rfl (decide_eq_true (by rw [pgD_size (by omega : ¬ D.length = 60)]; rfl))) ?_
  refine wpL.onis rfl rfl rfl (nb rfl) rfl (d_pick (b := true) (v := (Value.bool true)) rfl rfl) ?_
  refine wF ([(zf22 0), (eN ((n % ((80 : Nat) : Int)).toNat)), (zf22 2), (zf22 3), (zf22 4), (sli d 0 ((n % ((80 : Nat) : Int)).toNat) ((n % ((80 : Nat) : Int)).toNat)), (ptr b27 0)] ++ (zs zf22 7 9 ++ [(sli d 0 ((n % ((80 : Nat) : Int)).toNat) ((n % ((80 : Nat) : Int)).toNat)), (Value.agg #[(eN ((pgD D).1)), u25]), (sli d 0 ((n % ((80 : Nat) : Int)).toNat) ((n % ((80 : Nat) : Int)).toNat)), u37, (eN ((pgE D).length)), (Value.bool true), (eN ((n % ((80 : Nat) : Int)).toNat)), (Value.bool true), (Value.bool true), (Value.bool true), (eN ((n % ((80 : Nat) : Int)).toNat)), (Value.bool true), (Value.bool true), undef, undef, undef, undef, (Value.bool true), (Value.bool true), (Value.bool true), (eN ((n % ((80 : Nat) : Int)).toNat)), (Value.bool false), (Value.bool false), (ptr b27 0), (eN ((pgD D).1)), (Value.bool true), (Value.bool true), (ptr b27 1), u25, (eN (((pgD D).2).length)), (Value.bool true), (Value.bool true), (zf22 48), (zf22 49)])) ?_
  refine wpL.onis rfl rfl rfl (nb rfl) rfl (d_pick (b := false) (v := (Value.bool true)) rfl rfl) ?_
  refine wI (d_pick (b := true) (v := (Value.bool true)) rfl rfl) ?_
  refine wI (d_assign rfl) ?_
  refine wF ([(zf22 0), (eN ((n % ((80 : Nat) : Int)).toNat)), (zf22 2), (zf22 3), (Value.bool true), (sli d 0 ((n % ((80 : Nat) : Int)).toNat) ((n % ((80 : Nat) : Int)).toNat)), (ptr b27 0)] ++ (zs zf22 7 9 ++ [(sli d 0 ((n % ((80 : Nat) : Int)).toNat) ((n % ((80 : Nat) : Int)).toNat)), (Value.agg #[(eN ((pgD D).1)), u25]), (sli d 0 ((n % ((80 : Nat) : Int)).toNat) ((n % ((80 : Nat) : Int)).toNat)), u37, (eN ((pgE D).length)), (Value.bool true), (eN ((n % ((80 : Nat) : Int)).toNat)), (Value.bool true), (Value.bool true), (Value.bool true), (eN ((n % ((80 : Nat) : Int)).toNat)), (Value.bool true), (Value.bool true), undef, undef, undef, undef, (Value.bool true), (Value.bool true), (Value.bool true), (eN ((n % ((80 : Nat) : Int)).toNat)), (Value.bool false), (Value.bool false), (ptr b27 0), (eN ((pgD D).1)), (Value.bool true), (Value.bool true), (ptr b27 1), u25, (eN (((pgD D).2).length)), (Value.bool true), (Value.bool true), (Value.bool true), (Value.bool true)])) ?_
  refine wpL.done ?_
  refine then_n ?_
  refine forget (fun zf39 => ([(zf39 0), (zf39 1), (zf39 2), (zf39 3), (Value.bool true)] ++ (zs zf39 5 45))) (by kernel_rfl) (fun zf39 => ?_)
  refine wpIn_ret ?_
  refine leave0 (v := (Value.bool true)) (res1 Try.results8 rfl) ?_
  exact ⟨rfl, oW⟩
 by_cases k1 : ((n % ((80 : Nat) : Int)).toNat) = 60
 ·
  refine plain ?_
  refine wI (d_move rfl) ?_
  refine wO (d_call (xl := [.tmp 18]) (al := [(sli d 0 ((n % ((80 : Nat) : Int)).toNat) ((n % ((80 : Nat) : Int)).toNat))]) Try.func16 (by kernel_rfl) rfl rfl rfl (pageEncode_ok D (sli d 0 ((n % ((80 : Nat) : Int)).toNat) ((n % ((80 : Nat) : Int)).toNat)) _ (Ps.no (arr_seq a20 l_d (Nat.le_refl _))) (by first | omega | (simp; done) | (simp; omega)))) ?_
  rintro u42 w40 f43
  replace f43 := f43.ps
  obtain ⟨f43, o41⟩ := f43
  replace f43 := f43.less (Y := (Or1 b27 (Or1 d (Old W.heap.size)))) (or1_old a33.lt (or1_old a20.lt (old_old oW.size)))
  replace h1 := h1.step0 o41
  replace f26 := f26.step0 o41
  replace a20 := a20.step0 o41
  replace a33 := a33.step0 o41
  replace oW := oW.tail0 o41
  refine wI (d_lenS rfl Try.underlying22 rfl f43) ?_
  refine wF ([(zf22 0), (eN ((n % ((80 : Nat) : Int)).toNat)), (zf22 2), (zf22 3), (zf22 4), (sli d 0 ((n % ((80 : Nat) : Int)).toNat) ((n % ((80 : Nat) : Int)).toNat)), (ptr b27 0)] ++ (zs zf22 7 9 ++ [(sli d 0 ((n % ((80 : Nat) : Int)).toNat) ((n % ((80 : Nat) : Int)).toNat)), (Value.agg #[(eN ((pgD D).1)), u25]), (sli d 0 ((n % ((80 : Nat) : Int)).toNat) ((n % ((80 : Nat) : Int)).toNat)), u42, (eN ((pgE D).length))] ++ (zs zf22 21 29))) ?_
  refine wI (n_eql (a := ((pgE D).length)) (b := 60) rfl rfl (decide_eq_false (fun h => k0 (hl_.symm.trans ((pgE_iff D).1 h))))) ?_
  refine wI (d_move rfl) ?_
  refine wI (n_eql (a := ((n % ((80 : Nat) : Int)).toNat)) (b := 48) rfl rfl (decide_eq_false k0)) ?_
  refine wF ([(zf22 0), (eN ((n % ((80 : Nat) : Int)).toNat)), (zf22 2), (zf22 3), (zf22 4), (sli d 0 ((n % ((80 : Nat) : Int)).toNat) ((n % ((80 : Nat) : Int)).toNat)), (ptr b27 0)] ++ (zs zf22 7 9 ++ [(sli d 0 ((n % ((80 : Nat) : Int)).toNat) ((n % ((80 : Nat) : Int)).toNat)), (Value.agg #[(eN ((pgD D).1)), u25]), (sli d 0 ((n % ((80 : Nat) : Int)).toNat) ((n % ((80 : Nat) : Int)).toNat)), u42, (eN ((pgE D).length)), (Value.bool false), (eN ((n % ((80 : Nat) : Int)).toNat)), (Value.bool false)] ++ (zs zf22 24 26))) ?_
  refine wI (d_beql Try.underlying4 rfl rfl rfl) ?_
  refine wI (d_move rfl) ?_
  refine wpL.onis rfl rfl rfl (nb rfl) rfl (d_move rfl) ?_
  refine wF ([(zf22 0), (eN ((n % ((80 : Nat) : Int)).toNat)), (zf22 2), (zf22 3), (zf22 4), (sli d 0 ((n % ((80 : Nat) : Int)).toNat) ((n % ((80 : Nat) : Int)).toNat)), (ptr b27 0)] ++ (zs zf22 7 9 ++ [(sli d 0 ((n % ((80 : Nat) : Int)).toNat) ((n % ((80 : Nat) : Int)).toNat)), (Value.agg #[(eN ((pgD D).1)), u25]), (sli d 0 ((n % ((80 : Nat) : Int)).toNat) ((n % ((80 : Nat) : Int)).toNat)), u42, (eN ((pgE D).length)), (Value.bool false), (eN ((n % ((80 : Nat) : Int)).toNat)), (Value.bool false), (Value.bool true), (Value.bool true), (eN ((n % ((80 : Nat) : Int)).toNat))] ++ (zs zf22 27 23))) ?_
  refine wpL.onis rfl rfl rfl (nb rfl) rfl (n_eql (a := ((n % ((80 : Nat) : Int)).toNat)) (b := 48) rfl rfl (decide_eq_false k0)) ?_
  refine wpL.onis rfl rfl rfl (nb rfl) rfl (d_move rfl) ?_
  refine wpL.onis rfl rfl rfl (nb rfl) rfl (d_move rfl) ?_
  refine wF ([(zf22 0), (eN ((n % ((80 : Nat) : Int)).toNat)), (zf22 2), (zf22 3), (zf22 4), (sli d 0 ((n % ((80 : Nat) : Int)).toNat) ((n % ((80 : Nat) : Int)).toNat)), (ptr b27 0)] ++ (zs zf22 7 9 ++ [(sli d 0 ((n % ((80 : Nat) : Int)).toNat) ((n % ((80 : Nat) : Int)).toNat)), (Value.agg #[(eN ((pgD D).1)), u25]), (sli d 0 ((n % ((80 : Nat) : Int)).toNat) ((n % ((80 : Nat) : Int)).toNat)), u42, (eN ((pgE D).length)), (Value.bool false), (eN ((n % ((80 : Nat) : Int)).toNat)), (Value.bool false), (Value.bool true), (Value.bool true), (eN ((n % ((80 : Nat) : Int)).toNat)), (Value.bool false), (Value.bool false), (sli d 0 ((n % ((80 : Nat) : Int)).toNat) ((n % ((80 : Nat) : Int)).toNat))] ++ (zs zf22 30 20))) ?_
  refine wpL.on rfl rfl rfl (nb rfl) rfl (d_call (xl := [.tmp 29]) (al := [(sli d 0 ((n % ((80 : Nat) : Int)).toNat) ((n % ((80 : Nat) : Int)).toNat))]) Try.func16 (by kernel_rfl) rfl rfl rfl (pageEncode_ok D (sli d 0 ((n % ((80 : Nat) : Int)).toNat) ((n % ((80 : Nat) : Int)).toNat)) _ (Ps.no (arr_seq a20 l_d (Nat.le_refl _))) (by first | omega | (simp; done) | (simp; omega)))) ?_
  rintro u46 w44 f47
  replace f47 := f47.ps
  obtain ⟨f47, o45⟩ := f47
  replace f47 := f47.less (Y := (Or1 b27 (Or1 d (Old W.heap.size)))) (or1_old a33.lt (or1_old a20.lt (old_old oW.size)))
  replace h1 := h1.step0 o45
  replace f26 := f26.step0 o45
  replace f43 := f43.step0 o45
  replace a20 := a20.step0 o45
  replace a33 := a33.step0 o45
  replace oW := oW.tail0 o45
  refine wpL.onis rfl rfl rfl (nb rfl) rfl (d_lenS rfl Try.underlying22 rfl f47) ?_
  refine wpL.onis rfl rfl rfl (nb rfl) rfl (n_eql (a := ((pgE D).length)) (b := 0) rfl rfl (decide_eq_true (by rw [pgE_no (fun h => k0 (hl_.symm.trans h))]; rfl))) ?_
  refine wF ([(zf22 0), (eN ((n % ((80 : Nat) : Int)).toNat)), (zf22 2), (zf22 3), (zf22 4), (sli d 0 ((n % ((80 : Nat) : Int)).toNat) ((n % ((80 : Nat) : Int)).toNat)), (ptr b27 0)] ++ (zs zf22 7 9 ++ [(sli d 0 ((n % ((80 : Nat) : Int)).toNat) ((n % ((80 : Nat) : Int)).toNat)), (Value.agg #[(eN ((pgD D).1)), u25]), (sli d 0 ((n % ((80 : Nat) : Int)).toNat) ((n % ((80 : Nat) : Int)).toNat)), u42, (eN ((pgE D).length)), (Value.bool false), (eN ((n % ((80 : Nat) : Int)).toNat)), (Value.bool false), (Value.bool true), (Value.bool true), (eN ((n % ((80 : Nat) : Int)).toNat)), (Value.bool false), (Value.bool false), (sli d 0 ((n % ((80 : Nat) : Int)).toNat) ((n % ((80 : Nat) : Int)).toNat)), u46, (eN ((pgE D).length)), (Value.bool true)] ++ (zs zf22 33 17))) ?_
  refine wpL.onis rfl rfl rfl (nb rfl) rfl (d_pick (b := false) (v := (Value.bool true)) rfl rfl) ?_
  refine wI (d_pick (b := true) (v := (Value.bool true)) rfl rfl) ?_
  refine wI (d_move rfl) ?_
  refine wF ([(zf22 0), (eN ((n % ((80 : Nat) : Int)).toNat)), (zf22 2), (zf22 3), (zf22 4), (sli d 0 ((n % ((80 : Nat) : Int)).toNat) ((n % ((80 : Nat) : Int)).toNat)), (ptr b27 0)] ++ (zs zf22 7 9 ++ [(sli d 0 ((n % ((80 : Nat) : Int)).toNat) ((n % ((80 : Nat) : Int)).toNat)), (Value.agg #[(eN ((pgD D).1)), u25]), (sli d 0 ((n % ((80 : Nat) : Int)).toNat) ((n % ((80 : Nat) : Int)).toNat)), u42, (eN ((pgE D).length)), (Value.bool false), (eN ((n % ((80 : Nat) : Int)).toNat)), (Value.bool false), (Value.bool true), (Value.bool true), (eN ((n % ((80 : Nat) : Int)).toNat)), (Value.bool false), (Value.bool false), (sli d 0 ((n % ((80 : Nat) : Int)).toNat) ((n % ((80 : Nat) : Int)).toNat)), u46, (eN ((pgE D).length)), (Value.bool true), (Value.bool true), (Value.bool true), (Value.bool true)] ++ (zs zf22 36 14))) ?_
  refine wpL.onis rfl rfl rfl (nb rfl) rfl (d_move rfl) ?_
  refine wpL.onis rfl rfl rfl (nb rfl) rfl (n_eql (a := ((n % ((80 : Nat) : Int)).toNat)) (b := 60) rfl rfl (decide_eq_true k1)) ?_
  refine wpL.onis rfl rfl rfl (nb rfl) rfl (d_move rfl) ?_
  refine wF ([(zf22 0), (eN ((n % ((80 : Nat) : Int)).toNat)), (zf22 2), (zf22 3), (zf22 4), (sli d 0 ((n % ((80 : Nat) : Int)).toNat) ((n % ((80 : Nat) : Int)).toNat)), (ptr b27 0)] ++ (zs zf22 7 9 ++ [(sli d 0 ((n % ((80 : Nat) : Int)).toNat) ((n % ((80 : Nat) : Int)).toNat)), (Value.agg #[(eN ((pgD D).1)), u25]), (sli d 0 ((n % ((80 : Nat) : Int)).toNat) ((n % ((80 : Nat) : Int)).toNat)), u42, (eN ((pgE D).length)), (Value.bool false), (eN ((n % ((80 : Nat) : Int)).toNat)), (Value.bool false), (Value.bool true), (Value.bool true), (eN ((n % ((80 : Nat) : Int)).toNat)), (Value.bool false), (Value.bool false), (sli d 0 ((n % ((80 : Nat) : Int)).toNat) ((n % ((80 : Nat) : Int)).toNat)), u46, (eN ((pgE D).length)), (Value.bool true), (Value.bool true), (Value.bool true), (Value.bool true), (eN ((n % ((80 : Nat) : Int)).toNat)), (Value.bool true), (Value.bool true)] ++ (zs zf22 39 11))) ?_
  refine wpL.off rfl rfl rfl (nb rfl) rfl ?_
  refine wpL.off rfl rfl rfl (nb rfl) rfl ?_
  refine wF ([(zf22 0), (eN ((n % ((80 : Nat) : Int)).toNat)), (zf22 2), (zf22 3), (zf22 4), (sli d 0 ((n % ((80 : Nat) : Int)).toNat) ((n % ((80 : Nat) : Int)).toNat)), (ptr b27 0)] ++ (zs zf22 7 9 ++ [(sli d 0 ((n % ((80 : Nat) : Int)).toNat) ((n % ((80 : Nat) : Int)).toNat)), (Value.agg #[(eN ((pgD D).1)), u25]), (sli d 0 ((n % ((80 : Nat) : Int)).toNat) ((n % ((80 : Nat) : Int)).toNat)), u42, (eN ((pgE D).length)), (Value.bool false), (eN ((n % ((80 : Nat) : Int)).toNat)), (Value.bool false), (Value.bool true), (Value.bool true), (eN ((n % ((80 : Nat) : Int)).toNat)), (Value.bool false), (Value.bool false), (sli d 0 ((n % ((80 : Nat) : Int)).toNat) ((n % ((80 : Nat) : Int)).toNat)), u46, (eN ((pgE D).length)), (Value.bool true), (Value.bool true), (Value.bool true), (Value.bool true), (eN ((n % ((80 : Nat) : Int)).toNat)), (Value.bool true), (Value.bool true), undef, undef] ++ (zs zf22 41 9))) ?_
  refine wpL.off rfl rfl rfl (nb rfl) rfl ?_
  refine wpL.off rfl rfl rfl (nb rfl) rfl ?_
  refine wpL.offu rfl rfl rfl (nb rfl) rfl ?_
  refine wF ([(zf22 0), (eN ((n % ((80 : Nat) : Int)).toNat)), (zf22 2), (zf22 3), (zf22 4), (sli d 0 ((n % ((80 : Nat) : Int)).toNat) ((n % ((80 : Nat) : Int)).toNat)), (ptr b27 0)] ++ (zs zf22 7 9 ++ [(sli d 0 ((n % ((80 : Nat) : Int)).toNat) ((n % ((80 : Nat) : Int)).toNat)), (Value.agg #[(eN ((pgD D).1)), u25]), (sli d 0 ((n % ((80 : Nat) : Int)).toNat) ((n % ((80 : Nat) : Int)).toNat)), u42, (eN ((pgE D).length)), (Value.bool false), (eN ((n % ((80 : Nat) : Int)).toNat)), (Value.bool false), (Value.bool true), (Value.bool true), (eN ((n % ((80 : Nat) : Int)).toNat)), (Value.bool false), (Value.bool false), (sli d 0 ((n % ((80 : Nat) : Int)).toNat) ((n % ((80 : Nat) : Int)).toNat)), u46, (eN ((pgE D).length)), (Value.bool true), (Value.bool true), (Value.bool true), (Value.bool true), (eN ((n % ((80 : Nat) : Int)).toNat)), (Value.bool true), (Value.bool true)] ++ (us 5 ++ (zs zf22 44 6)))) ?_
  refine wpL.offu rfl rfl rfl (nb rfl) rfl ?_
  refine wpL.offu rfl rfl rfl (nb rfl) rfl ?_
  refine wpL.offu rfl rfl rfl (nb rfl) rfl ?_
  refine wF ([(zf22 0), (eN ((n % ((80 : Nat) : Int)).toNat)), (zf22 2), (zf22 3), (zf22 4), (sli d 0 ((n % ((80 : Nat) : Int)).toNat) ((n % ((80 : Nat) : Int)).toNat)), (ptr b27 0)] ++ (zs zf22 7 9 ++ [(sli d 0 ((n % ((80 : Nat) : Int)).toNat) ((n % ((80 : Nat) : Int)).toNat)), (Value.agg #[(eN ((pgD D).1)), u25]), (sli d 0 ((n % ((80 : Nat) : Int)).toNat) ((n % ((80 : Nat) : Int)).toNat)), u42, (eN ((pgE D).length)), (Value.bool false), (eN ((n % ((80 : Nat) : Int)).toNat)), (Value.bool false), (Value.bool true), (Value.bool true), (eN ((n % ((80 : Nat) : Int)).toNat)), (Value.bool false), (Value.bool false), (sli d 0 ((n % ((80 : Nat) : Int)).toNat) ((n % ((80 : Nat) : Int)).toNat)), u46, (eN ((pgE D).length)), (Value.bool true), (Value.bool true), (Value.bool true), (Value.bool true), (eN ((n % ((80 : Nat) : Int)).toNat)), (Value.bool true), (Value.bool true)] ++ (us 8 ++ [(zf22 47), (zf22 48), (zf22 49)]))) ?_
  refine wpL.off rfl rfl rfl (nb rfl) rfl ?_
  refine wpL.onis rfl rfl rfl (nb rfl) rfl (d_pick (b := true) (v := (Value.bool true)) rfl rfl) ?_
  refine wI (d_pick (b := true) (v := (Value.bool true)) rfl rfl) ?_
  refine wI (d_assign rfl) ?_
  refine wF ([(zf22 0), (eN ((n % ((80 : Nat) : Int)).toNat)), (zf22 2), (zf22 3), (Value.bool true), (sli d 0 ((n % ((80 : Nat) : Int)).toNat) ((n % ((80 : Nat) : Int)).toNat)), (ptr b27 0)] ++ (zs zf22 7 9 ++ [(sli d 0 ((n % ((80 : Nat) : Int)).toNat) ((n % ((80 : Nat) : Int)).toNat)), (Value.agg #[(eN ((pgD D).1)), u25]), (sli d 0 ((n % ((80 : Nat) : Int)).toNat) ((n % ((80 : Nat) : Int)).toNat)), u42, (eN ((pgE D).length)), (Value.bool false), (eN ((n % ((80 : Nat) : Int)).toNat)), (Value.bool false), (Value.bool true), (Value.bool true), (eN ((n % ((80 : Nat) : Int)).toNat)), (Value.bool false), (Value.bool false), (sli d 0 ((n % ((80 : Nat) : Int)).toNat) ((n % ((80 : Nat) : Int)).toNat)), u46, (eN ((pgE D).length)), (Value.bool true), (Value.bool true), (Value.bool true), (Value.bool true), (eN ((n % ((80 : Nat) : Int)).toNat)), (Value.bool true), (Value.bool true)] ++ (us 9 ++ [(Value.bool true), (Value.bool true)]))) ?_
  refine wpL.done ?_
  refine then_n ?_
  refine forget (fun zf48 => ([(zf48 0), (zf48 1), (zf48 2), (zf48 3), (Value.bool true)] ++ (zs zf48 5 45))) (by kernel_rfl) (fun zf48 => ?_)
  refine wpIn_ret ?_
  refine leave0 (v := (Value.bool true)) (res1 Try.results8 rfl) ?_
  exact ⟨rfl, oW⟩
 refine plain ?_
 refine wI (d_move rfl) ?_
 refine wO (d_call (xl := [.tmp 18]) (al := [(sli d 0 ((n % ((80 : Nat) : Int)).toNat) ((n % ((80 : Nat) : Int)).toNat))]) Try.func16 (by kernel_rfl) rfl rfl rfl (pageEncode_ok D (sli d 0 ((n % ((80 : Nat) : Int)).toNat) ((n % ((80 : Nat) : Int)).toNat)) _ (Ps.no (arr_seq a20 l_d (Nat.le_refl _))) (by first | omega | (simp; done) | (simp; omega)))) ?_
 rintro u51 w49 f52
 replace f52 := f52.ps
 obtain ⟨f52, o50⟩ := f52
 replace f52 := f52.less (Y := (Or1 b27 (Or1 d (Old W.heap.size)))) (or1_old a33.lt (or1_old a20.lt (old_old oW.size)))
 replace h1 := h1.step0 o50
 replace f26 := f26.step0 o50
 replace a20 := a20.step0 o50
 replace a33 := a33.step0 o50
 replace oW := oW.tail0 o50
 refine wI (d_lenS rfl Try.underlying22 rfl f52) ?_
 refine wF ([(zf22 0), (eN ((n % ((80 : Nat) : Int)).toNat)), (zf22 2), (zf22 3), (zf22 4), (sli d 0 ((n % ((80 : Nat) : Int)).toNat) ((n % ((80 : Nat) : Int)).toNat)), (ptr b27 0)] ++ (zs zf22 7 9 ++ [(sli d 0 ((n % ((80 : Nat) : Int)).toNat) ((n % ((80 : Nat) : Int)).toNat)), (Value.agg #[(eN ((pgD D).1)), u25]), (sli d 0 ((n % ((80 : Nat) : Int)).toNat) ((n % ((80 : Nat) : Int)).toNat)), u51, (eN ((pgE D).length))] ++ (zs zf22 21 29))) ?_
 refine wI (n_eql (a := ((pgE D).length)) (b := 60) rfl rfl (decide_eq_false (fun h => k0 (hl_.symm.trans ((pgE_iff D).1 h))))) ?_
 refine wI (d_move rfl) ?_
 refine wI (n_eql (a := ((n % ((80 : Nat) : Int)).toNat)) (b := 48) rfl rfl (decide_eq_false k0)) ?_
 refine wF ([(zf22 0), (eN ((n % ((80 : Nat) : Int)).toNat)), (zf22 2), (zf22 3), (zf22 4), (sli d 0 ((n % ((80 : Nat) : Int)).toNat) ((n % ((80 : Nat) : Int)).toNat)), (ptr b27 0)] ++ (zs zf22 7 9 ++ [(sli d 0 ((n % ((80 : Nat) : Int)).toNat) ((n % ((80 : Nat) : Int)).toNat)), (Value.agg #[(eN ((pgD D).1)), u25]), (sli d 0 ((n % ((80 : Nat) : Int)).toNat) ((n % ((80 : Nat) : Int)).toNat)), u51, (eN ((pgE D).length)), (Value.bool false), (eN ((n % ((80 : Nat) : Int)).toNat)), (Value.bool false)] ++ (zs zf22 24 26))) ?_
 refine wI (d_beql Try.underlying4 rfl rfl rfl) ?_
 refine wI (d_move rfl) ?_
 refine wpL.onis rfl rfl rfl (nb rfl) rfl (d_move rfl) ?_
 refine wF ([(zf22 0), (eN ((n % ((80 : Nat) : Int)).toNat)), (zf22 2), (zf22 3), (zf22 4), (sli d 0 ((n % ((80 : Nat) : Int)).toNat) ((n % ((80 : Nat) : Int)).toNat)), (ptr b27 0)] ++ (zs zf22 7 9 ++ [(sli d 0 ((n % ((80 : Nat) : Int)).toNat) ((n % ((80 : Nat) : Int)).toNat)), (Value.agg #[(eN ((pgD D).1)), u25]), (sli d 0 ((n % ((80 : Nat) : Int)).toNat) ((n % ((80 : Nat) : Int)).toNat)), u51, (eN ((pgE D).length)), (Value.bool false), (eN ((n % ((80 : Nat) : Int)).toNat)), (Value.bool false), (Value.bool true), (Value.bool true), (eN ((n % ((80 : Nat) : Int)).toNat))] ++ (zs zf22 27 23))) ?_
 refine wpL.onis rfl rfl rfl (nb rfl) rfl (n_eql (a := ((n % ((80 : Nat) : Int)).toNat)) (b := 48) rfl rfl (decide_eq_false k0)) ?_
 refine wpL.onis rfl rfl rfl (nb rfl) rfl (d_move rfl) ?_
 refine wpL.onis rfl rfl rfl (nb rfl) rfl (d_move rfl) ?_
 refine wF ([(zf22 0), (eN ((n % ((80 : Nat) : Int)).toNat)), (zf22 2), (zf22 3), (zf22 4), (sli d 0 ((n % ((80 : Nat) : Int)).toNat) ((n % ((80 : Nat) : Int)).toNat)), (ptr b27 0)] ++ (zs zf22 7 9 ++ [(sli d 0 ((n % ((80 : Nat) : Int)).toNat) ((n % ((80 : Nat) : Int)).toNat)), (Value.agg #[(eN ((pgD D).1)), u25]), (sli d 0 ((n % ((80 : Nat) : Int)).toNat) ((n % ((80 : Nat) : Int)).toNat)), u51, (eN ((pgE D).length)), (Value.bool false), (eN ((n % ((80 : Nat) : Int)).toNat)), (Value.bool false), (Value.bool true), (Value.bool true), (eN ((n % ((80 : Nat) : Int)).toNat)), (Value.bool false), (Value.bool false), (sli d 0 ((n % ((80 : Nat) : Int)).toNat) ((n % ((80 : Nat) : Int)).toNat))] ++ (zs zf22 30 20))) ?_
 refine wpL.on rfl rfl rfl (nb rfl) rfl (d_call (xl := [.tmp 29]) (al := [(sli d 0 ((n % ((80 : Nat) : Int)).toNat) ((n % ((80 : Nat) : Int)).toNat))]) Try.func16 (by kernel_rfl) rfl rfl rfl (pageEncode_ok D (sli d 0 ((n % ((80 : Nat) : Int)).toNat) ((n % ((80 : Nat) : Int)).toNat)) _ (Ps.no (arr_seq a20 l_d (Nat.le_refl _))) (by first | omega | (simp; done) | (simp; omega)))) ?_
 rintro u55 w53 f56
 replace f56 := f56.ps
 obtain ⟨f56, o54⟩ := f56
 replace f56 := f56.less (Y := (Or1 b27 (Or1 d (Old W.heap.size)))) (or1_old a33.lt (or1_old a20.lt (old_old oW.size)))
 replace h1 := h1.step0 o54
 replace f26 := f26.step0 o54
 replace f52 := f52.step0 o54
 replace a20 := a20.step0 o54
 replace a33 := a33.step0 o54
 replace oW := oW.tail0 o54
 refine wpL.onis rfl rfl rfl (nb rfl) rfl (d_lenS rfl Try.underlying22 rfl f56) ?_
 refine wpL.onis rfl rfl rfl (nb rfl) rfl (n_eql (a := ((pgE D).length)) (b := 0) rfl rfl (decide_eq_true (by rw [pgE_no (fun h => k0 (hl_.symm.trans h))]; rfl))) ?_
 refine wF ([(zf22 0), (eN ((n % ((80 : Nat) : Int)).toNat)), (zf22 2), (zf22 3), (zf22 4), (sli d 0 ((n % ((80 : Nat) : Int)).toNat) ((n % ((80 : Nat) : Int)).toNat)), (ptr b27 0)] ++ (zs zf22 7 9 ++ [(sli d 0 ((n % ((80 : Nat) : Int)).toNat) ((n % ((80 : Nat) : Int)).toNat)), (Value.agg #[(eN ((pgD D).1)), u25]), (sli d 0 ((n % ((80 : Nat) : Int)).toNat) ((n % ((80 : Nat) : Int)).toNat)), u51, (eN ((pgE D).length)), (Value.bool false), (eN ((n % ((80 : Nat) : Int)).toNat)), (Value.bool false), (Value.bool true), (Value.bool true), (eN ((n % ((80 : Nat) : Int)).toNat)), (Value.bool false), (Value.bool false), (sli d 0 ((n % ((80 : Nat) : Int)).toNat) ((n % ((80 : Nat) : Int)).toNat)), u55, (eN ((pgE D).length)), (Value.bool true)] ++ (zs zf22 33 17))) ?_
 refine wpL.onis rfl rfl rfl (nb rfl) rfl (d_pick (b := false) (v := (Value.bool true)) rfl rfl) ?_
 refine wI (d_pick (b := true) (v := (Value.bool true)) rfl rfl) ?_
 refine wI (d_move rfl) ?_
 refine wF ([(zf22 0), (eN ((n % ((80 : Nat) : Int)).toNat)), (zf22 2), (zf22 3), (zf22 4), (sli d 0 ((n % ((80 : Nat) : Int)).toNat) ((n % ((80 : Nat) : Int)).toNat)), (ptr b27 0)] ++ (zs zf22 7 9 ++ [(sli d 0 ((n % ((80 : Nat) : Int)).toNat) ((n % ((80 : Nat) : Int)).toNat)), (Value.agg #[(eN ((pgD D).1)), u25]), (sli d 0 ((n % ((80 : Nat) : Int)).toNat) ((n % ((80 : Nat) : Int)).toNat)), u51, (eN ((pgE D).length)), (Value.bool false), (eN ((n % ((80 : Nat) : Int)).toNat)), (Value.bool false), (Value.bool true), (Value.bool true), (eN ((n % ((80 : Nat) : Int)).toNat)), (Value.bool false), (Value.bool false), (sli d 0 ((n % ((80 : Nat) : Int)).toNat) ((n % ((80 : Nat) : Int)).toNat)), u55, (eN ((pgE D).length)), (Value.bool true), (Value.bool true), (Value.bool true), (Value.bool true)] ++ (zs zf22 36 14))) ?_
 refine wpL.onis rfl rfl rfl (nb rfl) rfl (d_move rfl) ?_
 refine wpL.onis rfl rfl rfl (nb rfl) rfl (n_eql (a := ((n % ((80 : Nat) : Int)).toNat)) (b := 60) rfl rfl (decide_eq_false k1)) ?_
 refine wpL.onis rfl rfl rfl (nb rfl) rfl (d_move rfl) ?_
 refine wF ([(zf22 0), (eN ((n % ((80 : Nat) : Int)).toNat)), (zf22 2), (zf22 3), (zf22 4), (sli d 0 ((n % ((80 : Nat) : Int)).toNat) ((n % ((80 : Nat) : Int)).toNat)), (ptr b27 0)] ++ (zs zf22 7 9 ++ [(sli d 0 ((n % ((80 : Nat) : Int)).toNat) ((n % ((80 : Nat) : Int)).toNat)), (Value.agg #[(eN ((pgD D).1)), u25]), (sli d 0 ((n % ((80 : Nat) : Int)).toNat) ((n % ((80 : Nat) : Int)).toNat)), u51, (eN ((pgE D).length)), (Value.bool false), (eN ((n % ((80 : Nat) : Int)).toNat)), (Value.bool false), (Value.bool true), (Value.bool true), (eN ((n % ((80 : Nat) : Int)).toNat)), (Value.bool false), (Value.bool false), (sli d 0 ((n % ((80 : Nat) : Int)).toNat) ((n % ((80 : Nat) : Int)).toNat)), u55, (eN ((pgE D).length)), (Value.bool true), (Value.bool true), (Value.bool true), (Value.bool true), (eN ((n % ((80 : Nat) : Int)).toNat)), (Value.bool false), (Value.bool false)] ++ (zs zf22 39 11))) ?_
 refine wpL.onis rfl rfl rfl (nb rfl) rfl (d_fieldAddr (j := 0) Try.underlying32 rfl s_ti3 (by decide) rfl rfl) ?_
 refine wpL.onis rfl rfl rfl (nb rfl) rfl (d_load (v := (eN ((pgD D).1))) ⟨_, Try.underlying3, rfl⟩ rfl a33 rfl) ?_
 refine wpL.onis rfl rfl rfl (nb rfl) rfl (n_eql (a := ((pgD D).1)) (b := 1) rfl rfl (decide_eq_true (by rw [pgD_size (by omega : ¬ D.length = 60)]))) ?_
 refine wF ([(zf22 0), (eN ((n % ((80 : Nat) : Int)).toNat)), (zf22 2), (zf22 3), (zf22 4), (sli d 0 ((n % ((80 : Nat) : Int)).toNat) ((n % ((80 : Nat) : Int)).toNat)), (ptr b27 0)] ++ (zs zf22 7 9 ++ [(sli d 0 ((n % ((80 : Nat) : Int)).toNat) ((n % ((80 : Nat) : Int)).toNat)), (Value.agg #[(eN ((pgD D).1)), u25]), (sli d 0 ((n % ((80 : Nat) : Int)).toNat) ((n % ((80 : Nat) : Int)).toNat)), u51, (eN ((pgE D).length)), (Value.bool false), (eN ((n % ((80 : Nat) : Int)).toNat)), (Value.bool false), (Value.bool true), (Value.bool true), (eN ((n % ((80 : Nat) : Int)).toNat)), (Value.bool false), (Value.bool false), (sli d 0 ((n % ((80 : Nat) : Int)).toNat) ((n % ((80 : Nat) : Int)).toNat)), u55, (eN ((pgE D).length)), (Value.bool true), (Value.bool true), (Value.bool true), (Value.bool true), (eN ((n % ((80 : Nat) : Int)).toNat)), (Value.bool false), (Value.bool false), (ptr b27 0), (eN ((pgD D).1)), (Value.bool true)] ++ (zs zf22 42 8))) ?_
 refine wpL.onis rfl rfl rfl (nb rfl) rfl (d_move rfl) ?_
 refine wpL.onis rfl rfl rfl (nb rfl) rfl (d_fieldAddr (j := 1) Try.underlying32 rfl s_ti22 (by decide) rfl rfl) ?_
 refine wpL.onis rfl rfl rfl (nb rfl) rfl (d_load (v := u25) ⟨_, Try.underlying22, rfl⟩ rfl a33 rfl) ?_
 refine wF ([(zf22 0), (eN ((n % ((80 : Nat) : Int)).toNat)), (zf22 2), (zf22 3), (zf22 4), (sli d 0 ((n % ((80 : Nat) : Int)).toNat) ((n % ((80 : Nat) : Int)).toNat)), (ptr b27 0)] ++ (zs zf22 7 9 ++ [(sli d 0 ((n % ((80 : Nat) : Int)).toNat) ((n % ((80 : Nat) : Int)).toNat)), (Value.agg #[(eN ((pgD D).1)), u25]), (sli d 0 ((n % ((80 : Nat) : Int)).toNat) ((n % ((80 : Nat) : Int)).toNat)), u51, (eN ((pgE D).length)), (Value.bool false), (eN ((n % ((80 : Nat) : Int)).toNat)), (Value.bool false), (Value.bool true), (Value.bool true), (eN ((n % ((80 : Nat) : Int)).toNat)), (Value.bool false), (Value.bool false), (sli d 0 ((n % ((80 : Nat) : Int)).toNat) ((n % ((80 : Nat) : Int)).toNat)), u55, (eN ((pgE D).length)), (Value.bool true), (Value.bool true), (Value.bool true), (Value.bool true), (eN ((n % ((80 : Nat) : Int)).toNat)), (Value.bool false), (Value.bool false), (ptr b27 0), (eN ((pgD D).1)), (Value.bool true), (Value.bool true), (ptr b27 1), u25] ++ (zs zf22 45 5))) ?_
 refine wpL.onis rfl rfl rfl (nb rfl) rfl (d_lenS rfl Try.underlying22 rfl f26) ?_
 refine wpL.onis rfl rfl rfl (nb rfl) rfl (n_eql (a := (((pgD D).2).length)) (b := 0) rfl rfl (decide_eq_true (by rw [pgD_size (by omega : ¬ D.length = 60)]; rfl))) ?_
 refine wpL.onis rfl rfl rfl (nb rfl) rfl (d_pick (b := true) (v := (Value.bool true)) rfl rfl) ?_
 refine wF ([(zf22 0), (eN ((n % ((80 : Nat) : Int)).toNat)), (zf22 2), (zf22 3), (zf22 4), (sli d 0 ((n % ((80 : Nat) : Int)).toNat) ((n % ((80 : Nat) : Int)).toNat)), (ptr b27 0)] ++ (zs zf22 7 9 ++ [(sli d 0 ((n % ((80 : Nat) : Int)).toNat) ((n % ((80 : Nat) : Int)).toNat)), (Value.agg #[(eN ((pgD D).1)), u25]), (sli d 0 ((n % ((80 : Nat) : Int)).toNat) ((n % ((80 : Nat) : Int)).toNat)), u51, (eN ((pgE D).length)), (Value.bool false), (eN ((n % ((80 : Nat) : Int)).toNat)), (Value.bool false), (Value.bool true), (Value.bool true), (eN ((n % ((80 : Nat) : Int)).toNat)), (Value.bool false), (Value.bool false), (sli d 0 ((n % ((80 : Nat) : Int)).toNat) ((n % ((80 : Nat) : Int)).toNat)), u55, (eN ((pgE D).length)), (Value.bool true), (Value.bool true), (Value.bool true), (Value.bool true), (eN ((n % ((80 : Nat) : Int)).toNat)), (Value.bool false), (Value.bool false), (ptr b27 0), (eN ((pgD D).1)), (Value.bool true), (Value.bool true), (ptr b27 1), u25, (eN (((pgD D).2).length)), (Value.bool true), (Value.bool true), (zf22 48), (zf22 49)])) ?_
 refine wpL.onis rfl rfl rfl (nb rfl) rfl (d_pick (b := false) (v := (Value.bool true)) rfl rfl) ?_
 refine wI (d_pick (b := true) (v := (Value.bool true)) rfl rfl) ?_
 refine wI (d_assign rfl) ?_
 refine wF ([(zf22 0), (eN ((n % ((80 : Nat) : Int)).toNat)), (zf22 2), (zf22 3), (Value.bool true), (sli d 0 ((n % ((80 : Nat) : Int)).toNat) ((n % ((80 : Nat) : Int)).toNat)), (ptr b27 0)] ++ (zs zf22 7 9 ++ [(sli d 0 ((n % ((80 : Nat) : Int)).toNat) ((n % ((80 : Nat) : Int)).toNat)), (Value.agg #[(eN ((pgD D).1)), u25]), (sli d 0 ((n % ((80 : Nat) : Int)).toNat) ((n % ((80 : Nat) : Int)).toNat)), u51, (eN ((pgE D).length)), (Value.bool false), (eN ((n % ((80 : Nat) : Int)).toNat)), (Value.bool false), (Value.bool true), (Value.bool true), (eN ((n % ((80 : Nat) : Int)).toNat)), (Value.bool false), (Value.bool false), (sli d 0 ((n % ((80 : Nat) : Int)).toNat) ((n % ((80 : Nat) : Int)).toNat)), u55, (eN ((pgE D).length)), (Value.bool true), (Value.bool true), (Value.bool true), (Value.bool true), (eN ((n % ((80 : Nat) : Int)).toNat)), (Value.bool false), (Value.bool false), (ptr b27 0), (eN ((pgD D).1)), (Value.bool true), (Value.bool true), (ptr b27 1), u25, (eN (((pgD D).2).length)), (Value.bool true), (Value.bool true), (Value.bool true), (Value.bool true)])) ?_
 refine wpL.done ?_
 refine then_n ?_
 refine forget (fun zf57 => ([(zf57 0), (zf57 1), (zf57 2), (zf57 3), (Value.bool true)] ++ (zs zf57 5 45))) (by kernel_rfl) (fun zf57 => ?_)
 refine wpIn_ret ?_
 refine leave0 (v := (Value.bool true)) (res1 Try.results8 rfl) ?_
 exact ⟨rfl, oW⟩

end Go.Proofs.YtgalehapmdabeaaF
