import Derived.Test.YtpamdlnobekihaaFp
import Derived.Test.YtpamdlnobekihaaTy
import Derived.Test.YtpamdlnobekihaaHnandu
set_option linter.unusedVariables false
set_option linter.unusedSimpArgs false
namespace Go.Proofs.YtpamdlnobekihaaF
open Go Go.Shelf Go.Proofs.YtpamdlnobekihaaS Ram
set_option maxRecDepth 20000 in
set_option maxHeartbeats 4000000 in
theorem nandBad_law (a b_ c die block nn_ : Int) (W : World) :
    CW Try.prog 8 #[(Value.agg #[(eI a), (eI b_), (eI c)]), (eI die), (eI block), (eI nn_)] W (Rt (RIs (.bool true) W)) := by
 have oW : Only No W W := Only.refl _ _
 refine enter (al := [(Value.agg #[(eI a), (eI b_), (eI c)]), (eI die), (eI block), (eI nn_)]) (k := 137) (l := ([(Value.agg #[(eI a), (eI b_), (eI c)]), (eI die), (eI block), (eI nn_)] ++ (us 137))) Try.func8 rfl Try.ntmps8 rfl rfl ?_
 refine wpIn_seq ?_
 refine plain ?_
 refine wO (d_box rfl rfl) ?_
 rintro _ w12 ⟨b11, rfl, g13, a14, o15⟩
 have g_oW_b11 : W.heap.size ≤ b11 := Nat.le_trans oW.size g13
 replace oW := oW.tail0 o15
 refine wI (d_assign rfl) ?_
 refine wF ([(Value.agg #[(eI a), (eI b_), (eI c)]), (eI die), (eI block), (eI nn_), (ptr b11 0), undef, undef, undef, (Value.bool false)] ++ (us 132)) ?_
 refine wpL.done ?_
 refine then_n ?_
 refine wpIn_seq ?_
 refine wpIn_seq ?_
 refine plain ?_
 refine wO (d_call (xl := []) (al := []) Try.func11 (by kernel_rfl) rfl rfl rfl (law7Known_ok _)) ?_
 rintro _ w16 ⟨rfl, o17⟩
 replace a14 := a14.step0 o17
 replace oW := oW.tail0 o17
 refine wI (d_not rfl rfl) ?_
 refine wF ([(Value.agg #[(eI a), (eI b_), (eI c)]), (eI die), (eI block), (eI nn_), (ptr b11 0), undef, undef, undef, (Value.bool false)] ++ (us 9 ++ [(Value.bool true), (Value.bool false)] ++ (us 121))) ?_
 refine wpL.done ?_
 refine then_n ?_
 refine cond_f rfl ?_
 refine wpIn_skip ?_
 refine then_n ?_
 refine wpIn_seq ?_
 refine plain ?_
 refine wI (d_loadAg (vs := [(eI a), (eI b_), (eI c)]) ⟨_, Try.underlying23, rfl⟩ s_ti23 rfl a14 rfl rfl) ?_
 refine wO (d_call (xl := [.tmp 20]) (al := [(Value.agg #[(eI a), (eI b_), (eI c)])]) Try.func15 (by kernel_rfl) rfl rfl rfl (law7Make_ok a b_ c _)) ?_
 rintro _ w18 ⟨rfl, o19⟩
 replace a14 := a14.step0 o19
 replace oW := oW.tail0 o19
 refine wO (d_alloc s_ti23 rfl) ?_
 rintro _ w21 ⟨b20, rfl, g22, a23, o24⟩
 have n_b11_b20 : b11 ≠ b20 := a14.ne g22
 have g_oW_b20 : W.heap.size ≤ b20 := Nat.le_trans oW.size g22
 replace a14 := a14.step0 o24
 replace oW := oW.tail0 o24
 refine wF ([(Value.agg #[(eI a), (eI b_), (eI c)]), (eI die), (eI block), (eI nn_), (ptr b11 0), undef, undef, undef, (Value.bool false), (ptr b20 0)] ++ (us 8 ++ [(Value.bool true), (Value.bool false), (Value.agg #[(eI a), (eI b_), (eI c)]), (Value.agg #[(eN (6 + (a % ((3 : Nat) : Int)).toNat)), (eN (8 + (b_ % ((5 : Nat) : Int)).toNat)), (eN (4 + (c % ((5 : Nat) : Int)).toNat))])] ++ (us 119))) ?_
 refine wO (d_storeAg (cs' := [(eN (6 + (a % ((3 : Nat) : Int)).toNat)), (eN (8 + (b_ % ((5 : Nat) : Int)).toNat)), (eN (4 + (c % ((5 : Nat) : Int)).toNat))]) s_ti23 rfl rfl rfl (oc_cons rfl (oc_cons rfl (oc_cons rfl oc_nil))) a23 (by decide) rfl) ?_
 rintro _ w25 ⟨a26, o27⟩
 replace a14 := a14.step o27 (fun e => absurd e n_b11_b20)
 replace oW := oW.tailb o27 g_oW_b20
 refine wF ([(Value.agg #[(eI a), (eI b_), (eI c)]), (eI die), (eI block), (eI nn_), (ptr b11 0), undef, undef, undef, (Value.bool false), (ptr b20 0)] ++ (us 8 ++ [(Value.bool true), (Value.bool false), (Value.agg #[(eI a), (eI b_), (eI c)]), (Value.agg #[(eN (6 + (a % ((3 : Nat) : Int)).toNat)), (eN (8 + (b_ % ((5 : Nat) : Int)).toNat)), (eN (4 + (c % ((5 : Nat) : Int)).toNat))])] ++ (us 119))) ?_
 refine wpL.done ?_
 refine then_n ?_
 refine wpIn_seq ?_
 obtain ⟨D, hD, qD⟩ : ∃ D, (6 ≤ D ∧ D ≤ 8) ∧ 6 + (a % ((3 : Nat) : Int)).toNat = D := ⟨_, by omega, rfl⟩
 obtain ⟨B, hB, qB⟩ : ∃ B, (8 ≤ B ∧ B ≤ 12) ∧ 8 + (b_ % ((5 : Nat) : Int)).toNat = B := ⟨_, by omega, rfl⟩
 obtain ⟨Q, hQ, qQ⟩ : ∃ Q, (4 ≤ Q ∧ Q ≤ 8) ∧ 4 + (c % ((5 : Nat) : Int)).toNat = Q := ⟨_, by omega, rfl⟩
 replace a26 : Arr 23 b20 [eN D, eN B, eN Q] w25 := by rw [← qD, ← qB, ← qQ]; exact a26
 refine drawn_pure [0, 0, 2, 7, 0, 0, 32, 127, 255, 511] [(0, 22), (1, 23), (2, 24), (3, 25), (4, 26), (5, 27), (6, 28), (7, 29), (8, 10), (9, 11)] [(eI die), (ptr b20 0), (eN D), (eN ((die % ((D : Nat) : Int)).toNat)), (eI block), (ptr b20 1), (eN B), (eN ((block % ((B : Nat) : Int)).toNat)), (eN ((die % ((D : Nat) : Int)).toNat)), (eN ((block % ((B : Nat) : Int)).toNat))] ([(Value.agg #[(eI a), (eI b_), (eI c)]), (eI die), (eI block), (eI nn_), (ptr b11 0), undef, undef, undef, (Value.bool false), (ptr b20 0), (eN ((die % ((D : Nat) : Int)).toNat)), (eN ((block % ((B : Nat) : Int)).toNat))] ++ (us 6 ++ [(Value.bool true), (Value.bool false), (Value.agg #[(eI a), (eI b_), (eI c)]), (Value.agg #[(eN (6 + (a % ((3 : Nat) : Int)).toNat)), (eN (8 + (b_ % ((5 : Nat) : Int)).toNat)), (eN (4 + (c % ((5 : Nat) : Int)).toNat))]), (eI die), (ptr b20 0), (eN D), (eN ((die % ((D : Nat) : Int)).toNat)), (eI block), (ptr b20 1), (eN B), (eN ((block % ((B : Nat) : Int)).toNat))] ++ (us 111))) s_mx (by kernel_rfl) (by kernel_rfl) rfl (by kernel_rfl) (by kernel_rfl) ?_ ?_
 ·
  intro w_ hO_
  refine AllG.cons (gi rfl (d_move rfl)) ?_
  refine AllG.cons (gi rfl (d_fieldAddr (j := 0) Try.underlying23 rfl s_ti3 (by decide) rfl rfl)) ?_
  refine AllG.cons (gi rfl (d_load (v := (eN D)) ⟨_, Try.underlying3, rfl⟩ rfl (a26.step0 hO_) rfl)) ?_
  refine AllG.cons (gc rfl (d_call (xl := [.tmp 22, .tmp 24]) (al := [(eI die), (eN D)]) Try.func12 (by kernel_rfl) rfl rfl rfl (law7Within_ok die D _ (by omega) (by omega)))) ?_
  refine AllG.cons (gi rfl (d_move rfl)) ?_
  refine AllG.cons (gi rfl (d_fieldAddr (j := 1) Try.underlying23 rfl s_ti3 (by decide) rfl rfl)) ?_
  refine AllG.cons (gi rfl (d_load (v := (eN B)) ⟨_, Try.underlying3, rfl⟩ rfl (a26.step0 hO_) rfl)) ?_
  refine AllG.cons (gc rfl (d_call (xl := [.tmp 26, .tmp 28]) (al := [(eI block), (eN B)]) Try.func12 (by kernel_rfl) rfl rfl rfl (law7Within_ok block B _ (by omega) (by omega)))) ?_
  refine AllG.cons (gi rfl (d_assign rfl)) ?_
  refine AllG.cons (gi rfl (d_assign rfl)) ?_
  exact AllG.nil
 intro w28 o29
 replace a14 := a14.step0 o29
 replace a26 := a26.step0 o29
 replace oW := oW.tail0 o29
 refine then_n ?_
 refine wpIn_seq ?_
 obtain ⟨d, hd, ed⟩ : ∃ d, d < D ∧ (die % ((D : Nat) : Int)).toNat = d := ⟨_, by have := Int.emod_lt_of_pos die (show (0 : Int) < ((D : Nat) : Int) by omega); have := Int.emod_nonneg die (show ((D : Nat) : Int) ≠ 0 by omega); omega, rfl⟩
 obtain ⟨b, hb, eb⟩ : ∃ b, b < B ∧ (block % ((B : Nat) : Int)).toNat = b := ⟨_, by have := Int.emod_lt_of_pos block (show (0 : Int) < ((B : Nat) : Int) by omega); have := Int.emod_nonneg block (show ((B : Nat) : Int) ≠ 0 by omega); omega, rfl⟩
 refine wp_eq (l' := ([(Value.agg #[(eI a), (eI b_), (eI c)]), (eI die), (eI block), (eI nn_), (ptr b11 0), undef, undef, undef, (Value.bool false), (ptr b20 0), (eN d), (eN b)] ++ (us 6 ++ [(Value.bool true), (Value.bool false), (Value.agg #[(eI a), (eI b_), (eI c)]), (Value.agg #[(eN (6 + (a % ((3 : Nat) : Int)).toNat)), (eN (8 + (b_ % ((5 : Nat) : Int)).toNat)), (eN (4 + (c % ((5 : Nat) : Int)).toNat))]), (eI die), (ptr b20 0), (eN D), (eN ((die % ((D : Nat) : Int)).toNat)), (eI block), (ptr b20 1), (eN B), (eN ((block % ((B : Nat) : Int)).toNat))] ++ (us 111)))) (Eq.trans (show (([(Value.agg #[(eI a), (eI b_), (eI c)]), (eI die), (eI block), (eI nn_), (ptr b11 0), undef, undef, undef, (Value.bool false), (ptr b20 0), (eN ((die % ((D : Nat) : Int)).toNat)), (eN ((block % ((B : Nat) : Int)).toNat))] ++ (us 6 ++ [(Value.bool true), (Value.bool false), (Value.agg #[(eI a), (eI b_), (eI c)]), (Value.agg #[(eN (6 + (a % ((3 : Nat) : Int)).toNat)), (eN (8 + (b_ % ((5 : Nat) : Int)).toNat)), (eN (4 + (c % ((5 : Nat) : Int)).toNat))]), (eI die), (ptr b20 0), (eN D), (eN ((die % ((D : Nat) : Int)).toNat)), (eI block), (ptr b20 1), (eN B), (eN ((block % ((B : Nat) : Int)).toNat))] ++ (us 111))) : List Value) = ([(Value.agg #[(eI a), (eI b_), (eI c)]), (eI die), (eI block), (eI nn_), (ptr b11 0), undef, undef, undef, (Value.bool false), (ptr b20 0), (eN d), (eN ((block % ((B : Nat) : Int)).toNat))] ++ (us 6 ++ [(Value.bool true), (Value.bool false), (Value.agg #[(eI a), (eI b_), (eI c)]), (Value.agg #[(eN (6 + (a % ((3 : Nat) : Int)).toNat)), (eN (8 + (b_ % ((5 : Nat) : Int)).toNat)), (eN (4 + (c % ((5 : Nat) : Int)).toNat))]), (eI die), (ptr b20 0), (eN D), (eN ((die % ((D : Nat) : Int)).toNat)), (eI block), (ptr b20 1), (eN B), (eN ((block % ((B : Nat) : Int)).toNat))] ++ (us 111))) from reslot ([(Value.agg #[(eI a), (eI b_), (eI c)]), (eI die), (eI block), (eI nn_), (ptr b11 0), undef, undef, undef, (Value.bool false), (ptr b20 0), (eN ((die % ((D : Nat) : Int)).toNat)), (eN ((block % ((B : Nat) : Int)).toNat))] ++ (us 6 ++ [(Value.bool true), (Value.bool false), (Value.agg #[(eI a), (eI b_), (eI c)]), (Value.agg #[(eN (6 + (a % ((3 : Nat) : Int)).toNat)), (eN (8 + (b_ % ((5 : Nat) : Int)).toNat)), (eN (4 + (c % ((5 : Nat) : Int)).toNat))]), (eI die), (ptr b20 0), (eN D), (eN ((die % ((D : Nat) : Int)).toNat)), (eI block), (ptr b20 1), (eN B), (eN ((block % ((B : Nat) : Int)).toNat))] ++ (us 111))) 10 (congrArg eN ed)) (show (([(Value.agg #[(eI a), (eI b_), (eI c)]), (eI die), (eI block), (eI nn_), (ptr b11 0), undef, undef, undef, (Value.bool false), (ptr b20 0), (eN d), (eN ((block % ((B : Nat) : Int)).toNat))] ++ (us 6 ++ [(Value.bool true), (Value.bool false), (Value.agg #[(eI a), (eI b_), (eI c)]), (Value.agg #[(eN (6 + (a % ((3 : Nat) : Int)).toNat)), (eN (8 + (b_ % ((5 : Nat) : Int)).toNat)), (eN (4 + (c % ((5 : Nat) : Int)).toNat))]), (eI die), (ptr b20 0), (eN D), (eN ((die % ((D : Nat) : Int)).toNat)), (eI block), (ptr b20 1), (eN B), (eN ((block % ((B : Nat) : Int)).toNat))] ++ (us 111))) : List Value) = ([(Value.agg #[(eI a), (eI b_), (eI c)]), (eI die), (eI block), (eI nn_), (ptr b11 0), undef, undef, undef, (Value.bool false), (ptr b20 0), (eN d), (eN b)] ++ (us 6 ++ [(Value.bool true), (Value.bool false), (Value.agg #[(eI a), (eI b_), (eI c)]), (Value.agg #[(eN (6 + (a % ((3 : Nat) : Int)).toNat)), (eN (8 + (b_ % ((5 : Nat) : Int)).toNat)), (eN (4 + (c % ((5 : Nat) : Int)).toNat))]), (eI die), (ptr b20 0), (eN D), (eN ((die % ((D : Nat) : Int)).toNat)), (eI block), (ptr b20 1), (eN B), (eN ((block % ((B : Nat) : Int)).toNat))] ++ (us 111))) from reslot ([(Value.agg #[(eI a), (eI b_), (eI c)]), (eI die), (eI block), (eI nn_), (ptr b11 0), undef, undef, undef, (Value.bool false), (ptr b20 0), (eN d), (eN ((block % ((B : Nat) : Int)).toNat))] ++ (us 6 ++ [(Value.bool true), (Value.bool false), (Value.agg #[(eI a), (eI b_), (eI c)]), (Value.agg #[(eN (6 + (a % ((3 : Nat) : Int)).toNat)), (eN (8 + (b_ % ((5 : Nat) : Int)).toNat)), (eN (4 + (c % ((5 : Nat) : Int)).toNat))]), (eI die), (ptr b20 0), (eN D), (eN ((die % ((D : Nat) : Int)).toNat)), (eI block), (ptr b20 1), (eN B), (eN ((block % ((B : Nat) : Int)).toNat))] ++ (us 111))) 11 (congrArg eN eb))) ?_
 refine plain ?_
 refine wI (d_loadAg (vs := [(eN D), (eN B), (eN Q)]) ⟨_, Try.underlying23, rfl⟩ s_ti23 rfl a26 rfl rfl) ?_
 refine wI (d_move rfl) ?_
 refine wI (d_move rfl) ?_
 refine wF ([(Value.agg #[(eI a), (eI b_), (eI c)]), (eI die), (eI block), (eI nn_), (ptr b11 0), undef, undef, undef, (Value.bool false), (ptr b20 0), (eN d), (eN b)] ++ (us 6 ++ [(Value.bool true), (Value.bool false), (Value.agg #[(eI a), (eI b_), (eI c)]), (Value.agg #[(eN (6 + (a % ((3 : Nat) : Int)).toNat)), (eN (8 + (b_ % ((5 : Nat) : Int)).toNat)), (eN (4 + (c % ((5 : Nat) : Int)).toNat))]), (eI die), (ptr b20 0), (eN D), (eN ((die % ((D : Nat) : Int)).toNat)), (eI block), (ptr b20 1), (eN B), (eN ((block % ((B : Nat) : Int)).toNat)), undef, (Value.agg #[(eN D), (eN B), (eN Q)]), (eN d), (eN b)] ++ (us 107))) ?_
 refine wI (d_buildA (zs := [(eN 0), (eN 0)]) (cs := [(eN d), (eN b)]) Try.underlying51 s_ti51 s_ti3 rfl (parts_cons (vs := [(eN d)]) (cells_of (v := (eN d)) rfl rfl) (parts_cons (vs := [(eN b)]) (cells_of (v := (eN b)) rfl rfl) parts_nil)) rfl) ?_
 refine wI (d_move rfl) ?_
 refine wI (d_move rfl) ?_
 refine wF ([(Value.agg #[(eI a), (eI b_), (eI c)]), (eI die), (eI block), (eI nn_), (ptr b11 0), undef, undef, undef, (Value.bool false), (ptr b20 0), (eN d), (eN b)] ++ (us 6 ++ [(Value.bool true), (Value.bool false), (Value.agg #[(eI a), (eI b_), (eI c)]), (Value.agg #[(eN (6 + (a % ((3 : Nat) : Int)).toNat)), (eN (8 + (b_ % ((5 : Nat) : Int)).toNat)), (eN (4 + (c % ((5 : Nat) : Int)).toNat))]), (eI die), (ptr b20 0), (eN D), (eN ((die % ((D : Nat) : Int)).toNat)), (eI block), (ptr b20 1), (eN B), (eN ((block % ((B : Nat) : Int)).toNat)), undef, (Value.agg #[(eN D), (eN B), (eN Q)]), (eN d), (eN b), (Value.agg #[(eN d), (eN b)]), (eN d), (eN b)] ++ (us 104))) ?_
 refine wI (d_buildA (zs := [(eN 0), (eN 0)]) (cs := [(eN d), (eN b)]) Try.underlying51 s_ti51 s_ti3 rfl (parts_cons (vs := [(eN d)]) (cells_of (v := (eN d)) rfl rfl) (parts_cons (vs := [(eN b)]) (cells_of (v := (eN b)) rfl rfl) parts_nil)) rfl) ?_
 refine wO (d_buildL2 (zs := [(eN 0), (eN 0), (eN 0), (eN 0)]) (cs := [(eN d), (eN b), (eN d), (eN b)]) Try.underlying24 s_ti51 made_two (nb rfl) (parts_cons (vs := [(eN d), (eN b)]) (cells_of (v := (Value.agg #[(eN d), (eN b)])) rfl rfl) (parts_cons (vs := [(eN d), (eN b)]) (cells_of (v := (Value.agg #[(eN d), (eN b)])) rfl rfl) parts_nil)) rfl) ?_
 rintro _ w31 ⟨b30, rfl, g32, a33, o34⟩
 have n_b11_b30 : b11 ≠ b30 := a14.ne g32
 have n_b20_b30 : b20 ≠ b30 := a26.ne g32
 have g_oW_b30 : W.heap.size ≤ b30 := Nat.le_trans oW.size g32
 replace a14 := a14.step0 o34
 replace a26 := a26.step0 o34
 replace oW := oW.tail0 o34
 refine wO (d_call (xl := [.tmp 31, .tmp 38]) (al := [(Value.agg #[(eN D), (eN B), (eN Q)]), (sli b30 0 2 2)]) Try.func13 (by kernel_rfl) rfl rfl rfl (newB_ok D B Q [(d, b), (d, b)] (sli b30 0 2 2) _ (arr_two (x := (d, b)) (y := (d, b)) a33 (fun _ _ t => t.elim)) (by simp) (fun i hi => by rcases i with _ | _ | i; exact ⟨hd, hb⟩; exact ⟨hd, hb⟩; simp at hi; omega) (by omega) (by omega) (by omega))) ?_
 rintro _ w35 ⟨L37, s38, rfl, ⟨a39, g40⟩, n41, o36⟩
 have g_oW_L37 : ∀ k, L37.S k → W.heap.size ≤ k := fun k hk => Nat.le_trans oW.size (g40 k hk)
 replace a39 := a39.less (Y := (Or1 b30 (Or1 b20 (Or1 b11 No)))) (or1_old a33.lt (or1_old a26.lt (or1_old a14.lt no_old)))
 replace a14 := a14.step0 o36
 replace a26 := a26.step0 o36
 replace a33 := a33.step0 o36
 replace oW := oW.tail0 o36
 refine wF ([(Value.agg #[(eI a), (eI b_), (eI c)]), (eI die), (eI block), (eI nn_), (ptr b11 0), undef, undef, undef, (Value.bool false), (ptr b20 0), (eN d), (eN b)] ++ (us 6 ++ [(Value.bool true), (Value.bool false), (Value.agg #[(eI a), (eI b_), (eI c)]), (Value.agg #[(eN (6 + (a % ((3 : Nat) : Int)).toNat)), (eN (8 + (b_ % ((5 : Nat) : Int)).toNat)), (eN (4 + (c % ((5 : Nat) : Int)).toNat))]), (eI die), (ptr b20 0), (eN D), (eN ((die % ((D : Nat) : Int)).toNat)), (eI block), (ptr b20 1), (eN B), (eN ((block % ((B : Nat) : Int)).toNat)), undef, (Value.agg #[(eN D), (eN B), (eN Q)]), (eN d), (eN b), (Value.agg #[(eN d), (eN b)]), (eN d), (eN b), (Value.agg #[(eN d), (eN b)]), (sli b30 0 2 2), (Value.tuple #[(ptr L37.bN 0), (eN 0)])] ++ (us 101))) ?_
 refine wI (d_move rfl) ?_
 refine wI (d_extract (v := (ptr L37.bN 0)) rfl rfl) ?_
 refine wI (d_extract (v := (eN 0)) rfl rfl) ?_
 refine wF ([(Value.agg #[(eI a), (eI b_), (eI c)]), (eI die), (eI block), (eI nn_), (ptr b11 0), undef, undef, undef, (Value.bool false), (ptr b20 0), (eN d), (eN b)] ++ (us 6 ++ [(Value.bool true), (Value.bool false), (Value.agg #[(eI a), (eI b_), (eI c)]), (Value.agg #[(eN (6 + (a % ((3 : Nat) : Int)).toNat)), (eN (8 + (b_ % ((5 : Nat) : Int)).toNat)), (eN (4 + (c % ((5 : Nat) : Int)).toNat))]), (eI die), (ptr b20 0), (eN D), (eN ((die % ((D : Nat) : Int)).toNat)), (eI block), (ptr b20 1), (eN B), (eN ((block % ((B : Nat) : Int)).toNat)), (Value.tuple #[(ptr L37.bN 0), (eN 0)]), (Value.agg #[(eN D), (eN B), (eN Q)]), (eN d), (eN b), (Value.agg #[(eN d), (eN b)]), (eN d), (eN b), (Value.agg #[(eN d), (eN b)]), (sli b30 0 2 2), (Value.tuple #[(ptr L37.bN 0), (eN 0)]), (ptr L37.bN 0), (eN 0)] ++ (us 99))) ?_
 refine wI (d_assign rfl) ?_
 refine wI (d_assign rfl) ?_
 refine wF ([(Value.agg #[(eI a), (eI b_), (eI c)]), (eI die), (eI block), (eI nn_), (ptr b11 0), undef, undef, undef, (Value.bool false), (ptr b20 0), (eN d), (eN b), (ptr L37.bN 0), (eN 0), undef, undef, undef, undef, (Value.bool true), (Value.bool false), (Value.agg #[(eI a), (eI b_), (eI c)]), (Value.agg #[(eN (6 + (a % ((3 : Nat) : Int)).toNat)), (eN (8 + (b_ % ((5 : Nat) : Int)).toNat)), (eN (4 + (c % ((5 : Nat) : Int)).toNat))]), (eI die), (ptr b20 0), (eN D), (eN ((die % ((D : Nat) : Int)).toNat)), (eI block), (ptr b20 1), (eN B), (eN ((block % ((B : Nat) : Int)).toNat)), (Value.tuple #[(ptr L37.bN 0), (eN 0)]), (Value.agg #[(eN D), (eN B), (eN Q)]), (eN d), (eN b), (Value.agg #[(eN d), (eN b)]), (eN d), (eN b), (Value.agg #[(eN d), (eN b)]), (sli b30 0 2 2), (Value.tuple #[(ptr L37.bN 0), (eN 0)]), (ptr L37.bN 0), (eN 0)] ++ (us 99)) ?_
 refine wpL.done ?_
 refine then_n ?_
 refine wpIn_seq ?_
 refine wpIn_seq ?_
 refine plain ?_
 refine wI (d_move rfl) ?_
 refine wI (n_neq (a := 0) (b := 0) rfl rfl (by rw [decide_eq_true rfl] <;> rfl)) ?_
 refine wF ([(Value.agg #[(eI a), (eI b_), (eI c)]), (eI die), (eI block), (eI nn_), (ptr b11 0), undef, undef, undef, (Value.bool false), (ptr b20 0), (eN d), (eN b), (ptr L37.bN 0), (eN 0), undef, undef, undef, undef, (Value.bool true), (Value.bool false), (Value.agg #[(eI a), (eI b_), (eI c)]), (Value.agg #[(eN (6 + (a % ((3 : Nat) : Int)).toNat)), (eN (8 + (b_ % ((5 : Nat) : Int)).toNat)), (eN (4 + (c % ((5 : Nat) : Int)).toNat))]), (eI die), (ptr b20 0), (eN D), (eN ((die % ((D : Nat) : Int)).toNat)), (eI block), (ptr b20 1), (eN B), (eN ((block % ((B : Nat) : Int)).toNat)), (Value.tuple #[(ptr L37.bN 0), (eN 0)]), (Value.agg #[(eN D), (eN B), (eN Q)]), (eN d), (eN b), (Value.agg #[(eN d), (eN b)]), (eN d), (eN b), (Value.agg #[(eN d), (eN b)]), (sli b30 0 2 2), (Value.tuple #[(ptr L37.bN 0), (eN 0)]), (ptr L37.bN 0), (eN 0), (eN 0), (Value.bool false)] ++ (us 97)) ?_
 refine wpL.done ?_
 refine then_n ?_
 refine cond_f rfl ?_
 refine wpIn_skip ?_
 refine then_n ?_
 refine wpIn_seq ?_
 refine plain ?_
 refine wI (d_move rfl) ?_
 refine wO (d_call (xl := [.tmp 44, .const (.int .i64 9)]) (al := [(eI nn_), (eN 9)]) Try.func12 (by kernel_rfl) rfl rfl rfl (law7Within_ok nn_ 9 _ (by omega) (by omega))) ?_
 rintro _ w42 ⟨rfl, o43⟩
 replace a39 := a39.step0 o43
 replace a14 := a14.step0 o43
 replace a26 := a26.step0 o43
 replace a33 := a33.step0 o43
 replace oW := oW.tail0 o43
 refine wI (d_assign rfl) ?_
 refine wF ([(Value.agg #[(eI a), (eI b_), (eI c)]), (eI die), (eI block), (eN ((nn_ % ((9 : Nat) : Int)).toNat)), (ptr b11 0), undef, undef, undef, (Value.bool false), (ptr b20 0), (eN d), (eN b), (ptr L37.bN 0), (eN 0), undef, undef, undef, undef, (Value.bool true), (Value.bool false), (Value.agg #[(eI a), (eI b_), (eI c)]), (Value.agg #[(eN (6 + (a % ((3 : Nat) : Int)).toNat)), (eN (8 + (b_ % ((5 : Nat) : Int)).toNat)), (eN (4 + (c % ((5 : Nat) : Int)).toNat))]), (eI die), (ptr b20 0), (eN D), (eN ((die % ((D : Nat) : Int)).toNat)), (eI block), (ptr b20 1), (eN B), (eN ((block % ((B : Nat) : Int)).toNat)), (Value.tuple #[(ptr L37.bN 0), (eN 0)]), (Value.agg #[(eN D), (eN B), (eN Q)]), (eN d), (eN b), (Value.agg #[(eN d), (eN b)]), (eN d), (eN b), (Value.agg #[(eN d), (eN b)]), (sli b30 0 2 2), (Value.tuple #[(ptr L37.bN 0), (eN 0)]), (ptr L37.bN 0), (eN 0), (eN 0), (Value.bool false), (eI nn_), (eN ((nn_ % ((9 : Nat) : Int)).toNat))] ++ (us 95)) ?_
 refine wpL.done ?_
 refine then_n ?_
 refine wpIn_seq ?_
 refine wpIn_seq ?_
 obtain ⟨nn, hnn, enn⟩ : ∃ nn, (nn < 9) ∧ (nn_ % ((9 : Nat) : Int)).toNat = nn := ⟨_, by omega, rfl⟩
 refine wp_eq (l' := ([(Value.agg #[(eI a), (eI b_), (eI c)]), (eI die), (eI block), (eN nn), (ptr b11 0), undef, undef, undef, (Value.bool false), (ptr b20 0), (eN d), (eN b), (ptr L37.bN 0), (eN 0), undef, undef, undef, undef, (Value.bool true), (Value.bool false), (Value.agg #[(eI a), (eI b_), (eI c)]), (Value.agg #[(eN (6 + (a % ((3 : Nat) : Int)).toNat)), (eN (8 + (b_ % ((5 : Nat) : Int)).toNat)), (eN (4 + (c % ((5 : Nat) : Int)).toNat))]), (eI die), (ptr b20 0), (eN D), (eN ((die % ((D : Nat) : Int)).toNat)), (eI block), (ptr b20 1), (eN B), (eN ((block % ((B : Nat) : Int)).toNat)), (Value.tuple #[(ptr L37.bN 0), (eN 0)]), (Value.agg #[(eN D), (eN B), (eN Q)]), (eN d), (eN b), (Value.agg #[(eN d), (eN b)]), (eN d), (eN b), (Value.agg #[(eN d), (eN b)]), (sli b30 0 2 2), (Value.tuple #[(ptr L37.bN 0), (eN 0)]), (ptr L37.bN 0), (eN 0), (eN 0), (Value.bool false), (eI nn_), (eN ((nn_ % ((9 : Nat) : Int)).toNat))] ++ (us 95))) (show (([(Value.agg #[(eI a), (eI b_), (eI c)]), (eI die), (eI block), (eN ((nn_ % ((9 : Nat) : Int)).toNat)), (ptr b11 0), undef, undef, undef, (Value.bool false), (ptr b20 0), (eN d), (eN b), (ptr L37.bN 0), (eN 0), undef, undef, undef, undef, (Value.bool true), (Value.bool false), (Value.agg #[(eI a), (eI b_), (eI c)]), (Value.agg #[(eN (6 + (a % ((3 : Nat) : Int)).toNat)), (eN (8 + (b_ % ((5 : Nat) : Int)).toNat)), (eN (4 + (c % ((5 : Nat) : Int)).toNat))]), (eI die), (ptr b20 0), (eN D), (eN ((die % ((D : Nat) : Int)).toNat)), (eI block), (ptr b20 1), (eN B), (eN ((block % ((B : Nat) : Int)).toNat)), (Value.tuple #[(ptr L37.bN 0), (eN 0)]), (Value.agg #[(eN D), (eN B), (eN Q)]), (eN d), (eN b), (Value.agg #[(eN d), (eN b)]), (eN d), (eN b), (Value.agg #[(eN d), (eN b)]), (sli b30 0 2 2), (Value.tuple #[(ptr L37.bN 0), (eN 0)]), (ptr L37.bN 0), (eN 0), (eN 0), (Value.bool false), (eI nn_), (eN ((nn_ % ((9 : Nat) : Int)).toNat))] ++ (us 95)) : List Value) = ([(Value.agg #[(eI a), (eI b_), (eI c)]), (eI die), (eI block), (eN nn), (ptr b11 0), undef, undef, undef, (Value.bool false), (ptr b20 0), (eN d), (eN b), (ptr L37.bN 0), (eN 0), undef, undef, undef, undef, (Value.bool true), (Value.bool false), (Value.agg #[(eI a), (eI b_), (eI c)]), (Value.agg #[(eN (6 + (a % ((3 : Nat) : Int)).toNat)), (eN (8 + (b_ % ((5 : Nat) : Int)).toNat)), (eN (4 + (c % ((5 : Nat) : Int)).toNat))]), (eI die), (ptr b20 0), (eN D), (eN ((die % ((D : Nat) : Int)).toNat)), (eI block), (ptr b20 1), (eN B), (eN ((block % ((B : Nat) : Int)).toNat)), (Value.tuple #[(ptr L37.bN 0), (eN 0)]), (Value.agg #[(eN D), (eN B), (eN Q)]), (eN d), (eN b), (Value.agg #[(eN d), (eN b)]), (eN d), (eN b), (Value.agg #[(eN d), (eN b)]), (sli b30 0 2 2), (Value.tuple #[(ptr L37.bN 0), (eN 0)]), (ptr L37.bN 0), (eN 0), (eN 0), (Value.bool false), (eI nn_), (eN ((nn_ % ((9 : Nat) : Int)).toNat))] ++ (us 95)) from reslot ([(Value.agg #[(eI a), (eI b_), (eI c)]), (eI die), (eI block), (eN ((nn_ % ((9 : Nat) : Int)).toNat)), (ptr b11 0), undef, undef, undef, (Value.bool false), (ptr b20 0), (eN d), (eN b), (ptr L37.bN 0), (eN 0), undef, undef, undef, undef, (Value.bool true), (Value.bool false), (Value.agg #[(eI a), (eI b_), (eI c)]), (Value.agg #[(eN (6 + (a % ((3 : Nat) : Int)).toNat)), (eN (8 + (b_ % ((5 : Nat) : Int)).toNat)), (eN (4 + (c % ((5 : Nat) : Int)).toNat))]), (eI die), (ptr b20 0), (eN D), (eN ((die % ((D : Nat) : Int)).toNat)), (eI block), (ptr b20 1), (eN B), (eN ((block % ((B : Nat) : Int)).toNat)), (Value.tuple #[(ptr L37.bN 0), (eN 0)]), (Value.agg #[(eN D), (eN B), (eN Q)]), (eN d), (eN b), (Value.agg #[(eN d), (eN b)]), (eN d), (eN b), (Value.agg #[(eN d), (eN b)]), (sli b30 0 2 2), (Value.tuple #[(ptr L37.bN 0), (eN 0)]), (ptr L37.bN 0), (eN 0), (eN 0), (Value.bool false), (eI nn_), (eN ((nn_ % ((9 : Nat) : Int)).toNat))] ++ (us 95)) 3 (congrArg eN enn)) ?_
 refine plain ?_
 refine wI (d_assign rfl) ?_
 refine wF ([(Value.agg #[(eI a), (eI b_), (eI c)]), (eI die), (eI block), (eN nn), (ptr b11 0), undef, undef, undef, (Value.bool false), (ptr b20 0), (eN d), (eN b), (ptr L37.bN 0), (eN 0), (eN 0), undef, undef, undef, (Value.bool true), (Value.bool false), (Value.agg #[(eI a), (eI b_), (eI c)]), (Value.agg #[(eN (6 + (a % ((3 : Nat) : Int)).toNat)), (eN (8 + (b_ % ((5 : Nat) : Int)).toNat)), (eN (4 + (c % ((5 : Nat) : Int)).toNat))]), (eI die), (ptr b20 0), (eN D), (eN ((die % ((D : Nat) : Int)).toNat)), (eI block), (ptr b20 1), (eN B), (eN ((block % ((B : Nat) : Int)).toNat)), (Value.tuple #[(ptr L37.bN 0), (eN 0)]), (Value.agg #[(eN D), (eN B), (eN Q)]), (eN d), (eN b), (Value.agg #[(eN d), (eN b)]), (eN d), (eN b), (Value.agg #[(eN d), (eN b)]), (sli b30 0 2 2), (Value.tuple #[(ptr L37.bN 0), (eN 0)]), (ptr L37.bN 0), (eN 0), (eN 0), (Value.bool false), (eI nn_), (eN ((nn_ % ((9 : Nat) : Int)).toNat))] ++ (us 95)) ?_
 refine wpL.done ?_
 refine then_n ?_
 refine wpIn_block ?_
 refine loop2 (fun (s_ : (Nat) × (NS)) => match s_ with | ⟨i, s⟩ => fun (z : Nat → Value) => (([(Value.agg #[(eI a), (eI b_), (eI c)]), (eI die), (eI block), (eN nn), (ptr b11 0), undef, undef, undef, (z 8), (ptr b20 0), (eN d), (eN b), (ptr L37.bN 0), (eN 0), (eN i), (z 15), (z 16), undef, (Value.bool true), (Value.bool false), (Value.agg #[(eI a), (eI b_), (eI c)]), (Value.agg #[(eN (6 + (a % ((3 : Nat) : Int)).toNat)), (eN (8 + (b_ % ((5 : Nat) : Int)).toNat)), (eN (4 + (c % ((5 : Nat) : Int)).toNat))]), (eI die), (ptr b20 0), (eN D), (eN ((die % ((D : Nat) : Int)).toNat)), (eI block), (ptr b20 1), (eN B), (eN ((block % ((B : Nat) : Int)).toNat)), (Value.tuple #[(ptr L37.bN 0), (eN 0)]), (Value.agg #[(eN D), (eN B), (eN Q)]), (eN d), (eN b), (Value.agg #[(eN d), (eN b)]), (eN d), (eN b), (Value.agg #[(eN d), (eN b)]), (sli b30 0 2 2), (Value.tuple #[(ptr L37.bN 0), (eN 0)]), (ptr L37.bN 0), (eN 0), (eN 0), (Value.bool false), (eI nn_), (eN ((nn_ % ((9 : Nat) : Int)).toNat))] ++ (zs z 46 29 ++ (us 66))) : List Value)) (fun (s_ : (Nat) × (NS)) => match s_ with | ⟨i, s⟩ => fun (w_ : World) => (i ≤ nn) ∧ (BadI s D B Q d b (3 * i)) ∧ Only (Ors L37.S (Or1 b30 (Or1 b20 (Or1 b11 No)))) w42 w_ ∧ Arr 23 b11 [(eI a), (eI b_), (eI c)] w_ ∧ Arr 23 b20 [(eN D), (eN B), (eN Q)] w_ ∧ Arr 51 b30 [(eN d), (eN b), (eN d), (eN b)] w_ ∧ Nd L37 s (Or1 b30 (Or1 b20 (Or1 b11 No))) w_) (fun (s_ : (Nat) × (NS)) => match s_ with | ⟨i, s⟩ => nn - i) ⟨0, (s38)⟩ rfl ?_ ?_
 ·
  refine ⟨?_, ?_, ?_, ?_, ?_, ?_, ?_⟩
  ·
   (try dsimp only)
   all_goals (omega)
  ·
   exact bad_new n41
  ·
   exact Only.refl _ _
  ·
   exact a14
  ·
   exact a26
  ·
   exact a33
  ·
   exact a39
 rintro ⟨i, s⟩ z w45 ⟨hi, hI, o44, a14, a26, a33, a39⟩
 (try dsimp only)
 replace oW := oW.tail o44 (tl_snew g_oW_L37 (tl_new g_oW_b30 (tl_new g_oW_b20 (tl_new g_oW_b11 tl_no))))
 refine wpIn_seq ?_
 refine wpIn_seq ?_
 refine plain ?_
 refine wI (d_move rfl) ?_
 refine wI (d_move rfl) ?_
 refine wI (n_lss (a := i) (b := nn) rfl rfl rfl) ?_
 refine wF ([(Value.agg #[(eI a), (eI b_), (eI c)]), (eI die), (eI block), (eN nn), (ptr b11 0), undef, undef, undef, (z 8), (ptr b20 0), (eN d), (eN b), (ptr L37.bN 0), (eN 0), (eN i), (z 15), (z 16), undef, (Value.bool true), (Value.bool false), (Value.agg #[(eI a), (eI b_), (eI c)]), (Value.agg #[(eN (6 + (a % ((3 : Nat) : Int)).toNat)), (eN (8 + (b_ % ((5 : Nat) : Int)).toNat)), (eN (4 + (c % ((5 : Nat) : Int)).toNat))]), (eI die), (ptr b20 0), (eN D), (eN ((die % ((D : Nat) : Int)).toNat)), (eI block), (ptr b20 1), (eN B), (eN ((block % ((B : Nat) : Int)).toNat)), (Value.tuple #[(ptr L37.bN 0), (eN 0)]), (Value.agg #[(eN D), (eN B), (eN Q)]), (eN d), (eN b), (Value.agg #[(eN d), (eN b)]), (eN d), (eN b), (Value.agg #[(eN d), (eN b)]), (sli b30 0 2 2), (Value.tuple #[(ptr L37.bN 0), (eN 0)]), (ptr L37.bN 0), (eN 0), (eN 0), (Value.bool false), (eI nn_), (eN ((nn_ % ((9 : Nat) : Int)).toNat)), (eN i), (eN nn), (Value.bool (decide (i < nn)))] ++ (zs z 49 26 ++ (us 66))) ?_
 refine wpL.done ?_
 refine then_n ?_
 refine cond_if rfl (fun c46 => ?_) (fun c46 => ?_)
 ·
  refine wpIn_skip ?_
  refine then_n ?_
  refine wpIn_seq ?_
  refine wpIn_block ?_
  refine wpIn_seq ?_
  refine plain ?_
  refine wI (d_move rfl) ?_
  refine wI (d_move rfl) ?_
  refine wI (d_move rfl) ?_
  refine wF ([(Value.agg #[(eI a), (eI b_), (eI c)]), (eI die), (eI block), (eN nn), (ptr b11 0), undef, undef, undef, (z 8), (ptr b20 0), (eN d), (eN b), (ptr L37.bN 0), (eN 0), (eN i), (z 15), (z 16), undef, (Value.bool true), (Value.bool false), (Value.agg #[(eI a), (eI b_), (eI c)]), (Value.agg #[(eN (6 + (a % ((3 : Nat) : Int)).toNat)), (eN (8 + (b_ % ((5 : Nat) : Int)).toNat)), (eN (4 + (c % ((5 : Nat) : Int)).toNat))]), (eI die), (ptr b20 0), (eN D), (eN ((die % ((D : Nat) : Int)).toNat)), (eI block), (ptr b20 1), (eN B), (eN ((block % ((B : Nat) : Int)).toNat)), (Value.tuple #[(ptr L37.bN 0), (eN 0)]), (Value.agg #[(eN D), (eN B), (eN Q)]), (eN d), (eN b), (Value.agg #[(eN d), (eN b)]), (eN d), (eN b), (Value.agg #[(eN d), (eN b)]), (sli b30 0 2 2), (Value.tuple #[(ptr L37.bN 0), (eN 0)]), (ptr L37.bN 0), (eN 0), (eN 0), (Value.bool false), (eI nn_), (eN ((nn_ % ((9 : Nat) : Int)).toNat)), (eN i), (eN nn), (Value.bool (decide (i < nn))), (z 49), (z 50), (z 51), (ptr L37.bN 0), (eN d), (eN b)] ++ (zs z 55 20 ++ (us 66))) ?_
  refine wO (d_call (xl := [.tmp 52, .tmp 53, .tmp 54, .const (.int .i64 0)]) (al := [(ptr L37.bN 0), (eN d), (eN b), (eN 0)]) Try.func21 (by kernel_rfl) rfl rfl rfl (read_ok L37 s _ a39 ((d : Nat) : Int) ((b : Nat) : Int) ((0 : Nat) : Int) (lt_or1 a33.lt (lt_or1 a26.lt (lt_or1 a14.lt lt_no))))) ?_
  rintro _ w47 ⟨u49, rfl, f50, a51, o48⟩
  replace f50 := f50.less (Y := (Ors L37.S (Or1 b30 (Or1 b20 (Or1 b11 (Old W.heap.size)))))) (ors_old a39.lt (or1_old a33.lt (or1_old a26.lt (or1_old a14.lt (old_old oW.size)))))
  replace a14 := a14.step o48 (a39.dis _ (in2 (in2 in1)))
  replace a26 := a26.step o48 (a39.dis _ (in2 in1))
  replace a33 := a33.step o48 (a39.dis _ in1)
  replace oW := oW.tail o48 (fun k hk e => by have := g_oW_L37 k e; omega)
  replace o44 := o44.tail o48 (fun k _ e => sub1 k e)
  replace a39 := a51
  refine wI (d_move rfl) ?_
  refine wI (d_extract (v := u49) rfl rfl) ?_
  refine wF ([(Value.agg #[(eI a), (eI b_), (eI c)]), (eI die), (eI block), (eN nn), (ptr b11 0), undef, undef, undef, (z 8), (ptr b20 0), (eN d), (eN b), (ptr L37.bN 0), (eN 0), (eN i), (z 15), (z 16), undef, (Value.bool true), (Value.bool false), (Value.agg #[(eI a), (eI b_), (eI c)]), (Value.agg #[(eN (6 + (a % ((3 : Nat) : Int)).toNat)), (eN (8 + (b_ % ((5 : Nat) : Int)).toNat)), (eN (4 + (c % ((5 : Nat) : Int)).toNat))]), (eI die), (ptr b20 0), (eN D), (eN ((die % ((D : Nat) : Int)).toNat)), (eI block), (ptr b20 1), (eN B), (eN ((block % ((B : Nat) : Int)).toNat)), (Value.tuple #[(ptr L37.bN 0), (eN 0)]), (Value.agg #[(eN D), (eN B), (eN Q)]), (eN d), (eN b), (Value.agg #[(eN d), (eN b)]), (eN d), (eN b), (Value.agg #[(eN d), (eN b)]), (sli b30 0 2 2), (Value.tuple #[(ptr L37.bN 0), (eN 0)]), (ptr L37.bN 0), (eN 0), (eN 0), (Value.bool false), (eI nn_), (eN ((nn_ % ((9 : Nat) : Int)).toNat)), (eN i), (eN nn), (Value.bool (decide (i < nn))), (z 49), (z 50), (Value.tuple #[u49, (eN (s.askR (s.readOk ((d : Nat) : Int) ((b : Nat) : Int) ((0 : Nat) : Int))))]), (ptr L37.bN 0), (eN d), (eN b), (Value.tuple #[u49, (eN (s.askR (s.readOk ((d : Nat) : Int) ((b : Nat) : Int) ((0 : Nat) : Int))))]), u49] ++ (zs z 57 18 ++ (us 66))) ?_
  refine wI (d_extract (v := (eN (s.askR (s.readOk ((d : Nat) : Int) ((b : Nat) : Int) ((0 : Nat) : Int))))) rfl rfl) ?_
  refine wI (d_assign rfl) ?_
  refine wI (d_assign rfl) ?_
  refine wF ([(Value.agg #[(eI a), (eI b_), (eI c)]), (eI die), (eI block), (eN nn), (ptr b11 0), undef, undef, undef, (z 8), (ptr b20 0), (eN d), (eN b), (ptr L37.bN 0), (eN 0), (eN i), u49, (eN (s.askR (s.readOk ((d : Nat) : Int) ((b : Nat) : Int) ((0 : Nat) : Int)))), undef, (Value.bool true), (Value.bool false), (Value.agg #[(eI a), (eI b_), (eI c)]), (Value.agg #[(eN (6 + (a % ((3 : Nat) : Int)).toNat)), (eN (8 + (b_ % ((5 : Nat) : Int)).toNat)), (eN (4 + (c % ((5 : Nat) : Int)).toNat))]), (eI die), (ptr b20 0), (eN D), (eN ((die % ((D : Nat) : Int)).toNat)), (eI block), (ptr b20 1), (eN B), (eN ((block % ((B : Nat) : Int)).toNat)), (Value.tuple #[(ptr L37.bN 0), (eN 0)]), (Value.agg #[(eN D), (eN B), (eN Q)]), (eN d), (eN b), (Value.agg #[(eN d), (eN b)]), (eN d), (eN b), (Value.agg #[(eN d), (eN b)]), (sli b30 0 2 2), (Value.tuple #[(ptr L37.bN 0), (eN 0)]), (ptr L37.bN 0), (eN 0), (eN 0), (Value.bool false), (eI nn_), (eN ((nn_ % ((9 : Nat) : Int)).toNat)), (eN i), (eN nn), (Value.bool (decide (i < nn))), (z 49), (z 50), (Value.tuple #[u49, (eN (s.askR (s.readOk ((d : Nat) : Int) ((b : Nat) : Int) ((0 : Nat) : Int))))]), (ptr L37.bN 0), (eN d), (eN b), (Value.tuple #[u49, (eN (s.askR (s.readOk ((d : Nat) : Int) ((b : Nat) : Int) ((0 : Nat) : Int))))]), u49, (eN (s.askR (s.readOk ((d : Nat) : Int) ((b : Nat) : Int) ((0 : Nat) : Int))))] ++ (zs z 58 17 ++ (us 66))) ?_
  refine wpL.done ?_
  refine then_n ?_
  refine wpIn_seq ?_
  refine plain ?_
  refine wI (d_move rfl) ?_
  refine wI (n_neq (a := (s.askR (s.readOk ((d : Nat) : Int) ((b : Nat) : Int) ((0 : Nat) : Int)))) (b := 1) rfl rfl (by rw [decide_eq_true ((bad_read hI hd hb (by omega) 0).1)] <;> rfl)) ?_
  refine wI (d_move rfl) ?_
  refine wF ([(Value.agg #[(eI a), (eI b_), (eI c)]), (eI die), (eI block), (eN nn), (ptr b11 0), undef, undef, undef, (z 8), (ptr b20 0), (eN d), (eN b), (ptr L37.bN 0), (eN 0), (eN i), u49, (eN (s.askR (s.readOk ((d : Nat) : Int) ((b : Nat) : Int) ((0 : Nat) : Int)))), undef, (Value.bool true), (Value.bool false), (Value.agg #[(eI a), (eI b_), (eI c)]), (Value.agg #[(eN (6 + (a % ((3 : Nat) : Int)).toNat)), (eN (8 + (b_ % ((5 : Nat) : Int)).toNat)), (eN (4 + (c % ((5 : Nat) : Int)).toNat))]), (eI die), (ptr b20 0), (eN D), (eN ((die % ((D : Nat) : Int)).toNat)), (eI block), (ptr b20 1), (eN B), (eN ((block % ((B : Nat) : Int)).toNat)), (Value.tuple #[(ptr L37.bN 0), (eN 0)]), (Value.agg #[(eN D), (eN B), (eN Q)]), (eN d), (eN b), (Value.agg #[(eN d), (eN b)]), (eN d), (eN b), (Value.agg #[(eN d), (eN b)]), (sli b30 0 2 2), (Value.tuple #[(ptr L37.bN 0), (eN 0)]), (ptr L37.bN 0), (eN 0), (eN 0), (Value.bool false), (eI nn_), (eN ((nn_ % ((9 : Nat) : Int)).toNat)), (eN i), (eN nn), (Value.bool (decide (i < nn))), (z 49), (z 50), (Value.tuple #[u49, (eN (s.askR (s.readOk ((d : Nat) : Int) ((b : Nat) : Int) ((0 : Nat) : Int))))]), (ptr L37.bN 0), (eN d), (eN b), (Value.tuple #[u49, (eN (s.askR (s.readOk ((d : Nat) : Int) ((b : Nat) : Int) ((0 : Nat) : Int))))]), u49, (eN (s.askR (s.readOk ((d : Nat) : Int) ((b : Nat) : Int) ((0 : Nat) : Int)))), (eN (s.askR (s.readOk ((d : Nat) : Int) ((b : Nat) : Int) ((0 : Nat) : Int)))), (Value.bool false), (Value.bool false)] ++ (zs z 61 14 ++ (us 66))) ?_
  refine wpL.onis rfl rfl rfl (nb rfl) rfl (d_move rfl) ?_
  refine wpL.onis rfl rfl rfl (nb rfl) rfl (d_move rfl) ?_
  refine wpL.onis rfl rfl rfl (nb rfl) rfl (d_move rfl) ?_
  refine wF ([(Value.agg #[(eI a), (eI b_), (eI c)]), (eI die), (eI block), (eN nn), (ptr b11 0), undef, undef, undef, (z 8), (ptr b20 0), (eN d), (eN b), (ptr L37.bN 0), (eN 0), (eN i), u49, (eN (s.askR (s.readOk ((d : Nat) : Int) ((b : Nat) : Int) ((0 : Nat) : Int)))), undef, (Value.bool true), (Value.bool false), (Value.agg #[(eI a), (eI b_), (eI c)]), (Value.agg #[(eN (6 + (a % ((3 : Nat) : Int)).toNat)), (eN (8 + (b_ % ((5 : Nat) : Int)).toNat)), (eN (4 + (c % ((5 : Nat) : Int)).toNat))]), (eI die), (ptr b20 0), (eN D), (eN ((die % ((D : Nat) : Int)).toNat)), (eI block), (ptr b20 1), (eN B), (eN ((block % ((B : Nat) : Int)).toNat)), (Value.tuple #[(ptr L37.bN 0), (eN 0)]), (Value.agg #[(eN D), (eN B), (eN Q)]), (eN d), (eN b), (Value.agg #[(eN d), (eN b)]), (eN d), (eN b), (Value.agg #[(eN d), (eN b)]), (sli b30 0 2 2), (Value.tuple #[(ptr L37.bN 0), (eN 0)]), (ptr L37.bN 0), (eN 0), (eN 0), (Value.bool false), (eI nn_), (eN ((nn_ % ((9 : Nat) : Int)).toNat)), (eN i), (eN nn), (Value.bool (decide (i < nn))), (z 49), (z 50), (Value.tuple #[u49, (eN (s.askR (s.readOk ((d : Nat) : Int) ((b : Nat) : Int) ((0 : Nat) : Int))))]), (ptr L37.bN 0), (eN d), (eN b), (Value.tuple #[u49, (eN (s.askR (s.readOk ((d : Nat) : Int) ((b : Nat) : Int) ((0 : Nat) : Int))))]), u49, (eN (s.askR (s.readOk ((d : Nat) : Int) ((b : Nat) : Int) ((0 : Nat) : Int)))), (eN (s.askR (s.readOk ((d : Nat) : Int) ((b : Nat) : Int) ((0 : Nat) : Int)))), (Value.bool false), (Value.bool false), (ptr L37.bN 0), (eN d), (eN b)] ++ (zs z 64 11 ++ (us 66))) ?_
  refine wpL.on rfl rfl rfl (nb rfl) rfl (d_make1 (n := 60) Try.underlying36 s_ti5 rfl rfl (by omega) (by omega) rfl) ?_
  rintro _ w53 ⟨b52, rfl, g54, a55, o56⟩
  replace a55 : Arr 5 b52 ((List.replicate 60 0).map eB) w53 := by rw [List.map_replicate]; exact a55
  have l_b52 : (List.replicate 60 0 : List UInt8).length = 60 := by simp
  have n_b11_b52 : b11 ≠ b52 := a14.ne g54
  have n_b20_b52 : b20 ≠ b52 := a26.ne g54
  have n_b30_b52 : b30 ≠ b52 := a33.ne g54
  have g_oW_b52 : W.heap.size ≤ b52 := Nat.le_trans oW.size g54
  have g_o44_b52 : w42.heap.size ≤ b52 := Nat.le_trans o44.size g54
  replace a39 := a39.new o56 g54
  replace f50 := f50.new o56 g54
  replace a14 := a14.step0 o56
  replace a26 := a26.step0 o56
  replace a33 := a33.step0 o56
  replace oW := oW.tail0 o56
  replace o44 := o44.tail0 o56
  refine wpL.on rfl rfl rfl (nb rfl) rfl (d_call (xl := [.tmp 61, .tmp 62, .tmp 63, .const (.int .i64 0), .tmp 64]) (al := [(ptr L37.bN 0), (eN d), (eN b), (eN 0), (sli b52 0 60 60)]) Try.func20 (by kernel_rfl) rfl rfl rfl (prog_ok L37 (s.ask (s.readOk ((d : Nat) : Int) ((b : Nat) : Int) ((0 : Nat) : Int))) _ a39 ((d : Nat) : Int) ((b : Nat) : Int) ((0 : Nat) : Int) (List.replicate 60 0) (sli b52 0 60 60) (lt_or1 a55.lt (lt_or1 a33.lt (lt_or1 a26.lt (lt_or1 a14.lt lt_no)))) (arr_keep a55 l_b52 (Nat.le_refl _) (nx_ors (a39.dis _ in1) (fun _ _ t => t.elim))) (by have := rep_len 60 0; first | omega | (simp; done) | (simp; omega)))) ?_
  rintro _ w57 ⟨rfl, a59, o58⟩
  replace a14 := a14.step o58 (a39.dis _ (in2 (in2 (in2 in1))))
  replace a26 := a26.step o58 (a39.dis _ (in2 (in2 in1)))
  replace a33 := a33.step o58 (a39.dis _ (in2 in1))
  replace a55 := a55.step o58 (a39.dis _ in1)
  replace f50 := f50.step o58 (sub2 sub1)
  replace oW := oW.tail o58 (fun k hk e => by have := g_oW_L37 k e; omega)
  replace o44 := o44.tail o58 (fun k _ e => sub1 k e)
  replace a39 := a59
  refine wpL.onis rfl rfl rfl (nb rfl) rfl (n_neq (a := ((s.ask (s.readOk ((d : Nat) : Int) ((b : Nat) : Int) ((0 : Nat) : Int))).progR ((d : Nat) : Int) ((b : Nat) : Int) ((0 : Nat) : Int) (List.replicate 60 0))) (b := 1) rfl rfl (by rw [decide_eq_true ((bad_prog (bad_read hI hd hb (by omega) 0).2 hd hb (by omega) 0 (List.replicate 60 0)).1)] <;> rfl)) ?_
  refine wF ([(Value.agg #[(eI a), (eI b_), (eI c)]), (eI die), (eI block), (eN nn), (ptr b11 0), undef, undef, undef, (z 8), (ptr b20 0), (eN d), (eN b), (ptr L37.bN 0), (eN 0), (eN i), u49, (eN (s.askR (s.readOk ((d : Nat) : Int) ((b : Nat) : Int) ((0 : Nat) : Int)))), undef, (Value.bool true), (Value.bool false), (Value.agg #[(eI a), (eI b_), (eI c)]), (Value.agg #[(eN (6 + (a % ((3 : Nat) : Int)).toNat)), (eN (8 + (b_ % ((5 : Nat) : Int)).toNat)), (eN (4 + (c % ((5 : Nat) : Int)).toNat))]), (eI die), (ptr b20 0), (eN D), (eN ((die % ((D : Nat) : Int)).toNat)), (eI block), (ptr b20 1), (eN B), (eN ((block % ((B : Nat) : Int)).toNat)), (Value.tuple #[(ptr L37.bN 0), (eN 0)]), (Value.agg #[(eN D), (eN B), (eN Q)]), (eN d), (eN b), (Value.agg #[(eN d), (eN b)]), (eN d), (eN b), (Value.agg #[(eN d), (eN b)]), (sli b30 0 2 2), (Value.tuple #[(ptr L37.bN 0), (eN 0)]), (ptr L37.bN 0), (eN 0), (eN 0), (Value.bool false), (eI nn_), (eN ((nn_ % ((9 : Nat) : Int)).toNat)), (eN i), (eN nn), (Value.bool (decide (i < nn))), (z 49), (z 50), (Value.tuple #[u49, (eN (s.askR (s.readOk ((d : Nat) : Int) ((b : Nat) : Int) ((0 : Nat) : Int))))]), (ptr L37.bN 0), (eN d), (eN b), (Value.tuple #[u49, (eN (s.askR (s.readOk ((d : Nat) : Int) ((b : Nat) : Int) ((0 : Nat) : Int))))]), u49, (eN (s.askR (s.readOk ((d : Nat) : Int) ((b : Nat) : Int) ((0 : Nat) : Int)))), (eN (s.askR (s.readOk ((d : Nat) : Int) ((b : Nat) : Int) ((0 : Nat) : Int)))), (Value.bool false), (Value.bool false), (ptr L37.bN 0), (eN d), (eN b), (sli b52 0 60 60), (eN ((s.ask (s.readOk ((d : Nat) : Int) ((b : Nat) : Int) ((0 : Nat) : Int))).progR ((d : Nat) : Int) ((b : Nat) : Int) ((0 : Nat) : Int) (List.replicate 60 0))), (Value.bool false)] ++ (zs z 67 8 ++ (us 66))) ?_
  refine wI (d_pick (b := false) (v := (Value.bool false)) rfl rfl) ?_
  refine wI (d_move rfl) ?_
  refine wpL.onis rfl rfl rfl (nb rfl) rfl (d_move rfl) ?_
  refine wF ([(Value.agg #[(eI a), (eI b_), (eI c)]), (eI die), (eI block), (eN nn), (ptr b11 0), undef, undef, undef, (z 8), (ptr b20 0), (eN d), (eN b), (ptr L37.bN 0), (eN 0), (eN i), u49, (eN (s.askR (s.readOk ((d : Nat) : Int) ((b : Nat) : Int) ((0 : Nat) : Int)))), undef, (Value.bool true), (Value.bool false), (Value.agg #[(eI a), (eI b_), (eI c)]), (Value.agg #[(eN (6 + (a % ((3 : Nat) : Int)).toNat)), (eN (8 + (b_ % ((5 : Nat) : Int)).toNat)), (eN (4 + (c % ((5 : Nat) : Int)).toNat))]), (eI die), (ptr b20 0), (eN D), (eN ((die % ((D : Nat) : Int)).toNat)), (eI block), (ptr b20 1), (eN B), (eN ((block % ((B : Nat) : Int)).toNat)), (Value.tuple #[(ptr L37.bN 0), (eN 0)]), (Value.agg #[(eN D), (eN B), (eN Q)]), (eN d), (eN b), (Value.agg #[(eN d), (eN b)]), (eN d), (eN b), (Value.agg #[(eN d), (eN b)]), (sli b30 0 2 2), (Value.tuple #[(ptr L37.bN 0), (eN 0)]), (ptr L37.bN 0), (eN 0), (eN 0), (Value.bool false), (eI nn_), (eN ((nn_ % ((9 : Nat) : Int)).toNat)), (eN i), (eN nn), (Value.bool (decide (i < nn))), (z 49), (z 50), (Value.tuple #[u49, (eN (s.askR (s.readOk ((d : Nat) : Int) ((b : Nat) : Int) ((0 : Nat) : Int))))]), (ptr L37.bN 0), (eN d), (eN b), (Value.tuple #[u49, (eN (s.askR (s.readOk ((d : Nat) : Int) ((b : Nat) : Int) ((0 : Nat) : Int))))]), u49, (eN (s.askR (s.readOk ((d : Nat) : Int) ((b : Nat) : Int) ((0 : Nat) : Int)))), (eN (s.askR (s.readOk ((d : Nat) : Int) ((b : Nat) : Int) ((0 : Nat) : Int)))), (Value.bool false), (Value.bool false), (ptr L37.bN 0), (eN d), (eN b), (sli b52 0 60 60), (eN ((s.ask (s.readOk ((d : Nat) : Int) ((b : Nat) : Int) ((0 : Nat) : Int))).progR ((d : Nat) : Int) ((b : Nat) : Int) ((0 : Nat) : Int) (List.replicate 60 0))), (Value.bool false), (Value.bool false), (Value.bool false), (ptr L37.bN 0)] ++ (zs z 70 5 ++ (us 66))) ?_
  refine wpL.onis rfl rfl rfl (nb rfl) rfl (d_move rfl) ?_
  refine wpL.onis rfl rfl rfl (nb rfl) rfl (d_move rfl) ?_
  refine wpL.on rfl rfl rfl (nb rfl) rfl (d_call (xl := [.tmp 69, .tmp 70, .tmp 71]) (al := [(ptr L37.bN 0), (eN d), (eN b)]) Try.func23 (by kernel_rfl) rfl rfl rfl (erase_ok L37 ((s.ask (s.readOk ((d : Nat) : Int) ((b : Nat) : Int) ((0 : Nat) : Int))).prog ((d : Nat) : Int) ((b : Nat) : Int) ((0 : Nat) : Int) (List.replicate 60 0)) _ a39 ((d : Nat) : Int) ((b : Nat) : Int) (lt_or1 a55.lt (lt_or1 a33.lt (lt_or1 a26.lt (lt_or1 a14.lt lt_no)))))) ?_
  rintro _ w60 ⟨rfl, a62, o61⟩
  replace a14 := a14.step o61 (a39.dis _ (in2 (in2 (in2 in1))))
  replace a26 := a26.step o61 (a39.dis _ (in2 (in2 in1)))
  replace a33 := a33.step o61 (a39.dis _ (in2 in1))
  replace a55 := a55.step o61 (a39.dis _ in1)
  replace f50 := f50.step o61 (sub2 sub1)
  replace oW := oW.tail o61 (fun k hk e => by have := g_oW_L37 k e; omega)
  replace o44 := o44.tail o61 (fun k _ e => sub1 k e)
  replace a39 := a62
  refine wF ([(Value.agg #[(eI a), (eI b_), (eI c)]), (eI die), (eI block), (eN nn), (ptr b11 0), undef, undef, undef, (z 8), (ptr b20 0), (eN d), (eN b), (ptr L37.bN 0), (eN 0), (eN i), u49, (eN (s.askR (s.readOk ((d : Nat) : Int) ((b : Nat) : Int) ((0 : Nat) : Int)))), undef, (Value.bool true), (Value.bool false), (Value.agg #[(eI a), (eI b_), (eI c)]), (Value.agg #[(eN (6 + (a % ((3 : Nat) : Int)).toNat)), (eN (8 + (b_ % ((5 : Nat) : Int)).toNat)), (eN (4 + (c % ((5 : Nat) : Int)).toNat))]), (eI die), (ptr b20 0), (eN D), (eN ((die % ((D : Nat) : Int)).toNat)), (eI block), (ptr b20 1), (eN B), (eN ((block % ((B : Nat) : Int)).toNat)), (Value.tuple #[(ptr L37.bN 0), (eN 0)]), (Value.agg #[(eN D), (eN B), (eN Q)]), (eN d), (eN b), (Value.agg #[(eN d), (eN b)]), (eN d), (eN b), (Value.agg #[(eN d), (eN b)]), (sli b30 0 2 2), (Value.tuple #[(ptr L37.bN 0), (eN 0)]), (ptr L37.bN 0), (eN 0), (eN 0), (Value.bool false), (eI nn_), (eN ((nn_ % ((9 : Nat) : Int)).toNat)), (eN i), (eN nn), (Value.bool (decide (i < nn))), (z 49), (z 50), (Value.tuple #[u49, (eN (s.askR (s.readOk ((d : Nat) : Int) ((b : Nat) : Int) ((0 : Nat) : Int))))]), (ptr L37.bN 0), (eN d), (eN b), (Value.tuple #[u49, (eN (s.askR (s.readOk ((d : Nat) : Int) ((b : Nat) : Int) ((0 : Nat) : Int))))]), u49, (eN (s.askR (s.readOk ((d : Nat) : Int) ((b : Nat) : Int) ((0 : Nat) : Int)))), (eN (s.askR (s.readOk ((d : Nat) : Int) ((b : Nat) : Int) ((0 : Nat) : Int)))), (Value.bool false), (Value.bool false), (ptr L37.bN 0), (eN d), (eN b), (sli b52 0 60 60), (eN ((s.ask (s.readOk ((d : Nat) : Int) ((b : Nat) : Int) ((0 : Nat) : Int))).progR ((d : Nat) : Int) ((b : Nat) : Int) ((0 : Nat) : Int) (List.replicate 60 0))), (Value.bool false), (Value.bool false), (Value.bool false), (ptr L37.bN 0), (eN d), (eN b), (eN (((s.ask (s.readOk ((d : Nat) : Int) ((b : Nat) : Int) ((0 : Nat) : Int))).prog ((d : Nat) : Int) ((b : Nat) : Int) ((0 : Nat) : Int) (List.replicate 60 0)).eraseR ((d : Nat) : Int) ((b : Nat) : Int))), (z 73), (z 74)] ++ (us 66)) ?_
  refine wpL.onis rfl rfl rfl (nb rfl) rfl (n_neq (a := (((s.ask (s.readOk ((d : Nat) : Int) ((b : Nat) : Int) ((0 : Nat) : Int))).prog ((d : Nat) : Int) ((b : Nat) : Int) ((0 : Nat) : Int) (List.replicate 60 0)).eraseR ((d : Nat) : Int) ((b : Nat) : Int))) (b := 1) rfl rfl (by rw [decide_eq_true ((bad_erase (bad_prog (bad_read hI hd hb (by omega) 0).2 hd hb (by omega) 0 (List.replicate 60 0)).2 hd hb (by omega)).1)] <;> rfl)) ?_
  refine wI (d_pick (b := false) (v := (Value.bool false)) rfl rfl) ?_
  refine wF ([(Value.agg #[(eI a), (eI b_), (eI c)]), (eI die), (eI block), (eN nn), (ptr b11 0), undef, undef, undef, (z 8), (ptr b20 0), (eN d), (eN b), (ptr L37.bN 0), (eN 0), (eN i), u49, (eN (s.askR (s.readOk ((d : Nat) : Int) ((b : Nat) : Int) ((0 : Nat) : Int)))), undef, (Value.bool true), (Value.bool false), (Value.agg #[(eI a), (eI b_), (eI c)]), (Value.agg #[(eN (6 + (a % ((3 : Nat) : Int)).toNat)), (eN (8 + (b_ % ((5 : Nat) : Int)).toNat)), (eN (4 + (c % ((5 : Nat) : Int)).toNat))]), (eI die), (ptr b20 0), (eN D), (eN ((die % ((D : Nat) : Int)).toNat)), (eI block), (ptr b20 1), (eN B), (eN ((block % ((B : Nat) : Int)).toNat)), (Value.tuple #[(ptr L37.bN 0), (eN 0)]), (Value.agg #[(eN D), (eN B), (eN Q)]), (eN d), (eN b), (Value.agg #[(eN d), (eN b)]), (eN d), (eN b), (Value.agg #[(eN d), (eN b)]), (sli b30 0 2 2), (Value.tuple #[(ptr L37.bN 0), (eN 0)]), (ptr L37.bN 0), (eN 0), (eN 0), (Value.bool false), (eI nn_), (eN ((nn_ % ((9 : Nat) : Int)).toNat)), (eN i), (eN nn), (Value.bool (decide (i < nn))), (z 49), (z 50), (Value.tuple #[u49, (eN (s.askR (s.readOk ((d : Nat) : Int) ((b : Nat) : Int) ((0 : Nat) : Int))))]), (ptr L37.bN 0), (eN d), (eN b), (Value.tuple #[u49, (eN (s.askR (s.readOk ((d : Nat) : Int) ((b : Nat) : Int) ((0 : Nat) : Int))))]), u49, (eN (s.askR (s.readOk ((d : Nat) : Int) ((b : Nat) : Int) ((0 : Nat) : Int)))), (eN (s.askR (s.readOk ((d : Nat) : Int) ((b : Nat) : Int) ((0 : Nat) : Int)))), (Value.bool false), (Value.bool false), (ptr L37.bN 0), (eN d), (eN b), (sli b52 0 60 60), (eN ((s.ask (s.readOk ((d : Nat) : Int) ((b : Nat) : Int) ((0 : Nat) : Int))).progR ((d : Nat) : Int) ((b : Nat) : Int) ((0 : Nat) : Int) (List.replicate 60 0))), (Value.bool false), (Value.bool false), (Value.bool false), (ptr L37.bN 0), (eN d), (eN b), (eN (((s.ask (s.readOk ((d : Nat) : Int) ((b : Nat) : Int) ((0 : Nat) : Int))).prog ((d : Nat) : Int) ((b : Nat) : Int) ((0 : Nat) : Int) (List.replicate 60 0)).eraseR ((d : Nat) : Int) ((b : Nat) : Int))), (Value.bool false), (Value.bool false)] ++ (us 66)) ?_
  refine wpL.done ?_
  refine then_n ?_
  refine cond_f rfl ?_
  refine wpIn_skip ?_
  refine inb_n (then_n ?_)
  refine plain ?_
  refine wI (d_move rfl) ?_
  refine wI (n_add (a := i) (b := 1) rfl rfl (by omega)) ?_
  refine wI (d_assign rfl) ?_
  refine wF ([(Value.agg #[(eI a), (eI b_), (eI c)]), (eI die), (eI block), (eN nn), (ptr b11 0), undef, undef, undef, (z 8), (ptr b20 0), (eN d), (eN b), (ptr L37.bN 0), (eN 0), (eN (i + 1)), u49, (eN (s.askR (s.readOk ((d : Nat) : Int) ((b : Nat) : Int) ((0 : Nat) : Int)))), undef, (Value.bool true), (Value.bool false), (Value.agg #[(eI a), (eI b_), (eI c)]), (Value.agg #[(eN (6 + (a % ((3 : Nat) : Int)).toNat)), (eN (8 + (b_ % ((5 : Nat) : Int)).toNat)), (eN (4 + (c % ((5 : Nat) : Int)).toNat))]), (eI die), (ptr b20 0), (eN D), (eN ((die % ((D : Nat) : Int)).toNat)), (eI block), (ptr b20 1), (eN B), (eN ((block % ((B : Nat) : Int)).toNat)), (Value.tuple #[(ptr L37.bN 0), (eN 0)]), (Value.agg #[(eN D), (eN B), (eN Q)]), (eN d), (eN b), (Value.agg #[(eN d), (eN b)]), (eN d), (eN b), (Value.agg #[(eN d), (eN b)]), (sli b30 0 2 2), (Value.tuple #[(ptr L37.bN 0), (eN 0)]), (ptr L37.bN 0), (eN 0), (eN 0), (Value.bool false), (eI nn_), (eN ((nn_ % ((9 : Nat) : Int)).toNat)), (eN i), (eN nn), (Value.bool (decide (i < nn))), (eN i), (eN (i + 1)), (Value.tuple #[u49, (eN (s.askR (s.readOk ((d : Nat) : Int) ((b : Nat) : Int) ((0 : Nat) : Int))))]), (ptr L37.bN 0), (eN d), (eN b), (Value.tuple #[u49, (eN (s.askR (s.readOk ((d : Nat) : Int) ((b : Nat) : Int) ((0 : Nat) : Int))))]), u49, (eN (s.askR (s.readOk ((d : Nat) : Int) ((b : Nat) : Int) ((0 : Nat) : Int)))), (eN (s.askR (s.readOk ((d : Nat) : Int) ((b : Nat) : Int) ((0 : Nat) : Int)))), (Value.bool false), (Value.bool false), (ptr L37.bN 0), (eN d), (eN b), (sli b52 0 60 60), (eN ((s.ask (s.readOk ((d : Nat) : Int) ((b : Nat) : Int) ((0 : Nat) : Int))).progR ((d : Nat) : Int) ((b : Nat) : Int) ((0 : Nat) : Int) (List.replicate 60 0))), (Value.bool false), (Value.bool false), (Value.bool false), (ptr L37.bN 0), (eN d), (eN b), (eN (((s.ask (s.readOk ((d : Nat) : Int) ((b : Nat) : Int) ((0 : Nat) : Int))).prog ((d : Nat) : Int) ((b : Nat) : Int) ((0 : Nat) : Int) (List.replicate 60 0)).eraseR ((d : Nat) : Int) ((b : Nat) : Int))), (Value.bool false), (Value.bool false)] ++ (us 66)) ?_
  refine wpL.done ?_
  refine then_n ?_
  refine ⟨_, ⟨i + 1, (((s.ask (s.readOk ((d : Nat) : Int) ((b : Nat) : Int) ((0 : Nat) : Int))).prog ((d : Nat) : Int) ((b : Nat) : Int) ((0 : Nat) : Int) (List.replicate 60 0)).erase ((d : Nat) : Int) ((b : Nat) : Int))⟩, rfl, rfl, ⟨?_, ?_, ?_, ?_, ?_, ?_, ?_⟩, ?_⟩
  ·
   (try dsimp only)
   all_goals (omega)
  ·
   exact (bad_erase (bad_prog (bad_read hI hd hb (by omega) 0).2 hd hb (by omega) 0 (List.replicate 60 0)).2 hd hb (by omega)).2
  ·
   exact o44
  ·
   exact a14
  ·
   exact a26
  ·
   exact a33
  ·
   exact a39.less (xx_skip (xx_or1 (xx_or1 (xx_or1 xx_id))))
  ·
   (try dsimp only)
   all_goals (omega)
 refine wpIn_exit ?_
 refine then_x (then_x (inb_e ?_))
 refine then_n ?_
 refine wpIn_seq ?_
 have hin : i = nn := by omega
 obtain ⟨mb1, mb2⟩ := mod_ne hb (show 2 ≤ B by omega)
 obtain ⟨md1, md2⟩ := mod_ne hd (show 2 ≤ D by omega)
 refine plain ?_
 refine wI (d_move rfl) ?_
 refine wI (n_add (a := b) (b := 1) rfl rfl (by omega)) ?_
 refine wI (d_fieldAddr (j := 1) Try.underlying23 rfl s_ti3 (by decide) rfl rfl) ?_
 refine wF ([(Value.agg #[(eI a), (eI b_), (eI c)]), (eI die), (eI block), (eN nn), (ptr b11 0), undef, undef, undef, (z 8), (ptr b20 0), (eN d), (eN b), (ptr L37.bN 0), (eN 0), (eN i), (z 15), (z 16), undef, (Value.bool true), (Value.bool false), (Value.agg #[(eI a), (eI b_), (eI c)]), (Value.agg #[(eN (6 + (a % ((3 : Nat) : Int)).toNat)), (eN (8 + (b_ % ((5 : Nat) : Int)).toNat)), (eN (4 + (c % ((5 : Nat) : Int)).toNat))]), (eI die), (ptr b20 0), (eN D), (eN ((die % ((D : Nat) : Int)).toNat)), (eI block), (ptr b20 1), (eN B), (eN ((block % ((B : Nat) : Int)).toNat)), (Value.tuple #[(ptr L37.bN 0), (eN 0)]), (Value.agg #[(eN D), (eN B), (eN Q)]), (eN d), (eN b), (Value.agg #[(eN d), (eN b)]), (eN d), (eN b), (Value.agg #[(eN d), (eN b)]), (sli b30 0 2 2), (Value.tuple #[(ptr L37.bN 0), (eN 0)]), (ptr L37.bN 0), (eN 0), (eN 0), (Value.bool false), (eI nn_), (eN ((nn_ % ((9 : Nat) : Int)).toNat)), (eN i), (eN nn), (Value.bool (decide (i < nn)))] ++ (zs z 49 26 ++ [(eN b), (eN (b + 1)), (ptr b20 1)] ++ (us 63))) ?_
 refine wI (d_load (v := (eN B)) ⟨_, Try.underlying3, rfl⟩ rfl a26 rfl) ?_
 refine wI (n_rem (a := (b + 1)) (b := B) rfl rfl (by omega)) ?_
 refine wI (d_assign rfl) ?_
 refine wF ([(Value.agg #[(eI a), (eI b_), (eI c)]), (eI die), (eI block), (eN nn), (ptr b11 0), undef, undef, undef, (z 8), (ptr b20 0), (eN d), (eN b), (ptr L37.bN 0), (eN 0), (eN i), (z 15), (z 16), (eN ((b + 1) % B)), (Value.bool true), (Value.bool false), (Value.agg #[(eI a), (eI b_), (eI c)]), (Value.agg #[(eN (6 + (a % ((3 : Nat) : Int)).toNat)), (eN (8 + (b_ % ((5 : Nat) : Int)).toNat)), (eN (4 + (c % ((5 : Nat) : Int)).toNat))]), (eI die), (ptr b20 0), (eN D), (eN ((die % ((D : Nat) : Int)).toNat)), (eI block), (ptr b20 1), (eN B), (eN ((block % ((B : Nat) : Int)).toNat)), (Value.tuple #[(ptr L37.bN 0), (eN 0)]), (Value.agg #[(eN D), (eN B), (eN Q)]), (eN d), (eN b), (Value.agg #[(eN d), (eN b)]), (eN d), (eN b), (Value.agg #[(eN d), (eN b)]), (sli b30 0 2 2), (Value.tuple #[(ptr L37.bN 0), (eN 0)]), (ptr L37.bN 0), (eN 0), (eN 0), (Value.bool false), (eI nn_), (eN ((nn_ % ((9 : Nat) : Int)).toNat)), (eN i), (eN nn), (Value.bool (decide (i < nn)))] ++ (zs z 49 26 ++ [(eN b), (eN (b + 1)), (ptr b20 1), (eN B), (eN ((b + 1) % B))] ++ (us 61))) ?_
 refine wpL.done ?_
 refine then_n ?_
 refine wpIn_seq ?_
 have k63 : s.isBad ((d : Nat) : Int) ((b : Nat) : Int) = true := by rw [bad_is hI hd hb]; simp
 have k64 : s.isBad ((d : Nat) : Int) (((b + 1) % B : Nat) : Int) = false := by rw [bad_is hI hd mb1]; simp [mb2]
 have k65 : s.isBad (((d + 1) % D : Nat) : Int) ((b : Nat) : Int) = false := by rw [bad_is hI md1 hb]; simp [md2]
 have k66 : s.isBad (-1) 0 = false := bad_out hI (by omega)
 have k67 : s.isBad 0 ((B : Nat) : Int) = false := bad_out hI (by omega)
 refine plain ?_
 refine wI (d_move rfl) ?_
 refine wI (d_move rfl) ?_
 refine wI (d_move rfl) ?_
 refine wF ([(Value.agg #[(eI a), (eI b_), (eI c)]), (eI die), (eI block), (eN nn), (ptr b11 0), undef, undef, undef, (z 8), (ptr b20 0), (eN d), (eN b), (ptr L37.bN 0), (eN 0), (eN i), (z 15), (z 16), (eN ((b + 1) % B)), (Value.bool true), (Value.bool false), (Value.agg #[(eI a), (eI b_), (eI c)]), (Value.agg #[(eN (6 + (a % ((3 : Nat) : Int)).toNat)), (eN (8 + (b_ % ((5 : Nat) : Int)).toNat)), (eN (4 + (c % ((5 : Nat) : Int)).toNat))]), (eI die), (ptr b20 0), (eN D), (eN ((die % ((D : Nat) : Int)).toNat)), (eI block), (ptr b20 1), (eN B), (eN ((block % ((B : Nat) : Int)).toNat)), (Value.tuple #[(ptr L37.bN 0), (eN 0)]), (Value.agg #[(eN D), (eN B), (eN Q)]), (eN d), (eN b), (Value.agg #[(eN d), (eN b)]), (eN d), (eN b), (Value.agg #[(eN d), (eN b)]), (sli b30 0 2 2), (Value.tuple #[(ptr L37.bN 0), (eN 0)]), (ptr L37.bN 0), (eN 0), (eN 0), (Value.bool false), (eI nn_), (eN ((nn_ % ((9 : Nat) : Int)).toNat)), (eN i), (eN nn), (Value.bool (decide (i < nn)))] ++ (zs z 49 26 ++ [(eN b), (eN (b + 1)), (ptr b20 1), (eN B), (eN ((b + 1) % B)), (ptr L37.bN 0), (eN d), (eN b)] ++ (us 58))) ?_
 refine wO (d_call (xl := [.tmp 80, .tmp 81, .tmp 82]) (al := [(ptr L37.bN 0), (eN d), (eN b)]) Try.func27 (by kernel_rfl) rfl rfl rfl (isBad_ok L37 s _ a39 (r := true) ((d : Nat) : Int) ((b : Nat) : Int) k63)) ?_
 rintro _ w68 ⟨rfl, o69⟩
 replace a39 := a39.step0 o69
 replace a14 := a14.step0 o69
 replace a26 := a26.step0 o69
 replace a33 := a33.step0 o69
 replace oW := oW.tail0 o69
 replace o44 := o44.tail0 o69
 refine wI (d_move rfl) ?_
 refine wpL.onis rfl rfl rfl (nb rfl) rfl (d_move rfl) ?_
 refine wF ([(Value.agg #[(eI a), (eI b_), (eI c)]), (eI die), (eI block), (eN nn), (ptr b11 0), undef, undef, undef, (z 8), (ptr b20 0), (eN d), (eN b), (ptr L37.bN 0), (eN 0), (eN i), (z 15), (z 16), (eN ((b + 1) % B)), (Value.bool true), (Value.bool false), (Value.agg #[(eI a), (eI b_), (eI c)]), (Value.agg #[(eN (6 + (a % ((3 : Nat) : Int)).toNat)), (eN (8 + (b_ % ((5 : Nat) : Int)).toNat)), (eN (4 + (c % ((5 : Nat) : Int)).toNat))]), (eI die), (ptr b20 0), (eN D), (eN ((die % ((D : Nat) : Int)).toNat)), (eI block), (ptr b20 1), (eN B), (eN ((block % ((B : Nat) : Int)).toNat)), (Value.tuple #[(ptr L37.bN 0), (eN 0)]), (Value.agg #[(eN D), (eN B), (eN Q)]), (eN d), (eN b), (Value.agg #[(eN d), (eN b)]), (eN d), (eN b), (Value.agg #[(eN d), (eN b)]), (sli b30 0 2 2), (Value.tuple #[(ptr L37.bN 0), (eN 0)]), (ptr L37.bN 0), (eN 0), (eN 0), (Value.bool false), (eI nn_), (eN ((nn_ % ((9 : Nat) : Int)).toNat)), (eN i), (eN nn), (Value.bool (decide (i < nn)))] ++ (zs z 49 26 ++ [(eN b), (eN (b + 1)), (ptr b20 1), (eN B), (eN ((b + 1) % B)), (ptr L37.bN 0), (eN d), (eN b), (Value.bool true), (Value.bool true), (ptr L37.bN 0)] ++ (us 55))) ?_
 refine wpL.onis rfl rfl rfl (nb rfl) rfl (d_move rfl) ?_
 refine wpL.onis rfl rfl rfl (nb rfl) rfl (d_move rfl) ?_
 refine wpL.on rfl rfl rfl (nb rfl) rfl (d_call (xl := [.tmp 85, .tmp 86, .tmp 87]) (al := [(ptr L37.bN 0), (eN d), (eN ((b + 1) % B))]) Try.func27 (by kernel_rfl) rfl rfl rfl (isBad_ok L37 s _ a39 (r := false) ((d : Nat) : Int) (((b + 1) % B : Nat) : Int) (Bool.eq_false_iff.2 (Bool.eq_false_iff.1 k64)))) ?_
 rintro _ w70 ⟨rfl, o71⟩
 replace a39 := a39.step0 o71
 replace a14 := a14.step0 o71
 replace a26 := a26.step0 o71
 replace a33 := a33.step0 o71
 replace oW := oW.tail0 o71
 replace o44 := o44.tail0 o71
 refine wF ([(Value.agg #[(eI a), (eI b_), (eI c)]), (eI die), (eI block), (eN nn), (ptr b11 0), undef, undef, undef, (z 8), (ptr b20 0), (eN d), (eN b), (ptr L37.bN 0), (eN 0), (eN i), (z 15), (z 16), (eN ((b + 1) % B)), (Value.bool true), (Value.bool false), (Value.agg #[(eI a), (eI b_), (eI c)]), (Value.agg #[(eN (6 + (a % ((3 : Nat) : Int)).toNat)), (eN (8 + (b_ % ((5 : Nat) : Int)).toNat)), (eN (4 + (c % ((5 : Nat) : Int)).toNat))]), (eI die), (ptr b20 0), (eN D), (eN ((die % ((D : Nat) : Int)).toNat)), (eI block), (ptr b20 1), (eN B), (eN ((block % ((B : Nat) : Int)).toNat)), (Value.tuple #[(ptr L37.bN 0), (eN 0)]), (Value.agg #[(eN D), (eN B), (eN Q)]), (eN d), (eN b), (Value.agg #[(eN d), (eN b)]), (eN d), (eN b), (Value.agg #[(eN d), (eN b)]), (sli b30 0 2 2), (Value.tuple #[(ptr L37.bN 0), (eN 0)]), (ptr L37.bN 0), (eN 0), (eN 0), (Value.bool false), (eI nn_), (eN ((nn_ % ((9 : Nat) : Int)).toNat)), (eN i), (eN nn), (Value.bool (decide (i < nn)))] ++ (zs z 49 26 ++ [(eN b), (eN (b + 1)), (ptr b20 1), (eN B), (eN ((b + 1) % B)), (ptr L37.bN 0), (eN d), (eN b), (Value.bool true), (Value.bool true), (ptr L37.bN 0), (eN d), (eN ((b + 1) % B)), (Value.bool false)] ++ (us 52))) ?_
 refine wpL.onis rfl rfl rfl (nb rfl) rfl (d_not rfl rfl) ?_
 refine wI (d_pick (b := true) (v := (Value.bool true)) rfl rfl) ?_
 refine wI (d_move rfl) ?_
 refine wF ([(Value.agg #[(eI a), (eI b_), (eI c)]), (eI die), (eI block), (eN nn), (ptr b11 0), undef, undef, undef, (z 8), (ptr b20 0), (eN d), (eN b), (ptr L37.bN 0), (eN 0), (eN i), (z 15), (z 16), (eN ((b + 1) % B)), (Value.bool true), (Value.bool false), (Value.agg #[(eI a), (eI b_), (eI c)]), (Value.agg #[(eN (6 + (a % ((3 : Nat) : Int)).toNat)), (eN (8 + (b_ % ((5 : Nat) : Int)).toNat)), (eN (4 + (c % ((5 : Nat) : Int)).toNat))]), (eI die), (ptr b20 0), (eN D), (eN ((die % ((D : Nat) : Int)).toNat)), (eI block), (ptr b20 1), (eN B), (eN ((block % ((B : Nat) : Int)).toNat)), (Value.tuple #[(ptr L37.bN 0), (eN 0)]), (Value.agg #[(eN D), (eN B), (eN Q)]), (eN d), (eN b), (Value.agg #[(eN d), (eN b)]), (eN d), (eN b), (Value.agg #[(eN d), (eN b)]), (sli b30 0 2 2), (Value.tuple #[(ptr L37.bN 0), (eN 0)]), (ptr L37.bN 0), (eN 0), (eN 0), (Value.bool false), (eI nn_), (eN ((nn_ % ((9 : Nat) : Int)).toNat)), (eN i), (eN nn), (Value.bool (decide (i < nn)))] ++ (zs z 49 26 ++ [(eN b), (eN (b + 1)), (ptr b20 1), (eN B), (eN ((b + 1) % B)), (ptr L37.bN 0), (eN d), (eN b), (Value.bool true), (Value.bool true), (ptr L37.bN 0), (eN d), (eN ((b + 1) % B)), (Value.bool false), (Value.bool true), (Value.bool true), (Value.bool true)] ++ (us 49))) ?_
 refine wpL.onis rfl rfl rfl (nb rfl) rfl (d_move rfl) ?_
 refine wpL.onis rfl rfl rfl (nb rfl) rfl (d_move rfl) ?_
 refine wpL.onis rfl rfl rfl (nb rfl) rfl (n_add (a := d) (b := 1) rfl rfl (by omega)) ?_
 refine wF ([(Value.agg #[(eI a), (eI b_), (eI c)]), (eI die), (eI block), (eN nn), (ptr b11 0), undef, undef, undef, (z 8), (ptr b20 0), (eN d), (eN b), (ptr L37.bN 0), (eN 0), (eN i), (z 15), (z 16), (eN ((b + 1) % B)), (Value.bool true), (Value.bool false), (Value.agg #[(eI a), (eI b_), (eI c)]), (Value.agg #[(eN (6 + (a % ((3 : Nat) : Int)).toNat)), (eN (8 + (b_ % ((5 : Nat) : Int)).toNat)), (eN (4 + (c % ((5 : Nat) : Int)).toNat))]), (eI die), (ptr b20 0), (eN D), (eN ((die % ((D : Nat) : Int)).toNat)), (eI block), (ptr b20 1), (eN B), (eN ((block % ((B : Nat) : Int)).toNat)), (Value.tuple #[(ptr L37.bN 0), (eN 0)]), (Value.agg #[(eN D), (eN B), (eN Q)]), (eN d), (eN b), (Value.agg #[(eN d), (eN b)]), (eN d), (eN b), (Value.agg #[(eN d), (eN b)]), (sli b30 0 2 2), (Value.tuple #[(ptr L37.bN 0), (eN 0)]), (ptr L37.bN 0), (eN 0), (eN 0), (Value.bool false), (eI nn_), (eN ((nn_ % ((9 : Nat) : Int)).toNat)), (eN i), (eN nn), (Value.bool (decide (i < nn)))] ++ (zs z 49 26 ++ [(eN b), (eN (b + 1)), (ptr b20 1), (eN B), (eN ((b + 1) % B)), (ptr L37.bN 0), (eN d), (eN b), (Value.bool true), (Value.bool true), (ptr L37.bN 0), (eN d), (eN ((b + 1) % B)), (Value.bool false), (Value.bool true), (Value.bool true), (Value.bool true), (ptr L37.bN 0), (eN d), (eN (d + 1))] ++ (us 46))) ?_
 refine wpL.onis rfl rfl rfl (nb rfl) rfl (d_fieldAddr (j := 0) Try.underlying23 rfl s_ti3 (by decide) rfl rfl) ?_
 refine wpL.onis rfl rfl rfl (nb rfl) rfl (d_load (v := (eN D)) ⟨_, Try.underlying3, rfl⟩ rfl a26 rfl) ?_
 refine wpL.onis rfl rfl rfl (nb rfl) rfl (n_rem (a := (d + 1)) (b := D) rfl rfl (by omega)) ?_
 refine wF ([(Value.agg #[(eI a), (eI b_), (eI c)]), (eI die), (eI block), (eN nn), (ptr b11 0), undef, undef, undef, (z 8), (ptr b20 0), (eN d), (eN b), (ptr L37.bN 0), (eN 0), (eN i), (z 15), (z 16), (eN ((b + 1) % B)), (Value.bool true), (Value.bool false), (Value.agg #[(eI a), (eI b_), (eI c)]), (Value.agg #[(eN (6 + (a % ((3 : Nat) : Int)).toNat)), (eN (8 + (b_ % ((5 : Nat) : Int)).toNat)), (eN (4 + (c % ((5 : Nat) : Int)).toNat))]), (eI die), (ptr b20 0), (eN D), (eN ((die % ((D : Nat) : Int)).toNat)), (eI block), (ptr b20 1), (eN B), (eN ((block % ((B : Nat) : Int)).toNat)), (Value.tuple #[(ptr L37.bN 0), (eN 0)]), (Value.agg #[(eN D), (eN B), (eN Q)]), (eN d), (eN b), (Value.agg #[(eN d), (eN b)]), (eN d), (eN b), (Value.agg #[(eN d), (eN b)]), (sli b30 0 2 2), (Value.tuple #[(ptr L37.bN 0), (eN 0)]), (ptr L37.bN 0), (eN 0), (eN 0), (Value.bool false), (eI nn_), (eN ((nn_ % ((9 : Nat) : Int)).toNat)), (eN i), (eN nn), (Value.bool (decide (i < nn)))] ++ (zs z 49 26 ++ [(eN b), (eN (b + 1)), (ptr b20 1), (eN B), (eN ((b + 1) % B)), (ptr L37.bN 0), (eN d), (eN b), (Value.bool true), (Value.bool true), (ptr L37.bN 0), (eN d), (eN ((b + 1) % B)), (Value.bool false), (Value.bool true), (Value.bool true), (Value.bool true), (ptr L37.bN 0), (eN d), (eN (d + 1)), (ptr b20 0), (eN D), (eN ((d + 1) % D))] ++ (us 43))) ?_
 refine wpL.onis rfl rfl rfl (nb rfl) rfl (d_move rfl) ?_
 refine wpL.on rfl rfl rfl (nb rfl) rfl (d_call (xl := [.tmp 92, .tmp 97, .tmp 98]) (al := [(ptr L37.bN 0), (eN ((d + 1) % D)), (eN b)]) Try.func27 (by kernel_rfl) rfl rfl rfl (isBad_ok L37 s _ a39 (r := false) (((d + 1) % D : Nat) : Int) ((b : Nat) : Int) (Bool.eq_false_iff.2 (Bool.eq_false_iff.1 k65)))) ?_
 rintro _ w72 ⟨rfl, o73⟩
 replace a39 := a39.step0 o73
 replace a14 := a14.step0 o73
 replace a26 := a26.step0 o73
 replace a33 := a33.step0 o73
 replace oW := oW.tail0 o73
 replace o44 := o44.tail0 o73
 refine wpL.onis rfl rfl rfl (nb rfl) rfl (d_not rfl rfl) ?_
 refine wF ([(Value.agg #[(eI a), (eI b_), (eI c)]), (eI die), (eI block), (eN nn), (ptr b11 0), undef, undef, undef, (z 8), (ptr b20 0), (eN d), (eN b), (ptr L37.bN 0), (eN 0), (eN i), (z 15), (z 16), (eN ((b + 1) % B)), (Value.bool true), (Value.bool false), (Value.agg #[(eI a), (eI b_), (eI c)]), (Value.agg #[(eN (6 + (a % ((3 : Nat) : Int)).toNat)), (eN (8 + (b_ % ((5 : Nat) : Int)).toNat)), (eN (4 + (c % ((5 : Nat) : Int)).toNat))]), (eI die), (ptr b20 0), (eN D), (eN ((die % ((D : Nat) : Int)).toNat)), (eI block), (ptr b20 1), (eN B), (eN ((block % ((B : Nat) : Int)).toNat)), (Value.tuple #[(ptr L37.bN 0), (eN 0)]), (Value.agg #[(eN D), (eN B), (eN Q)]), (eN d), (eN b), (Value.agg #[(eN d), (eN b)]), (eN d), (eN b), (Value.agg #[(eN d), (eN b)]), (sli b30 0 2 2), (Value.tuple #[(ptr L37.bN 0), (eN 0)]), (ptr L37.bN 0), (eN 0), (eN 0), (Value.bool false), (eI nn_), (eN ((nn_ % ((9 : Nat) : Int)).toNat)), (eN i), (eN nn), (Value.bool (decide (i < nn)))] ++ (zs z 49 26 ++ [(eN b), (eN (b + 1)), (ptr b20 1), (eN B), (eN ((b + 1) % B)), (ptr L37.bN 0), (eN d), (eN b), (Value.bool true), (Value.bool true), (ptr L37.bN 0), (eN d), (eN ((b + 1) % B)), (Value.bool false), (Value.bool true), (Value.bool true), (Value.bool true), (ptr L37.bN 0), (eN d), (eN (d + 1)), (ptr b20 0), (eN D), (eN ((d + 1) % D)), (eN b), (Value.bool false), (Value.bool true)] ++ (us 40))) ?_
 refine wI (d_pick (b := true) (v := (Value.bool true)) rfl rfl) ?_
 refine wI (d_move rfl) ?_
 refine wpL.onis rfl rfl rfl (nb rfl) rfl (d_move rfl) ?_
 refine wF ([(Value.agg #[(eI a), (eI b_), (eI c)]), (eI die), (eI block), (eN nn), (ptr b11 0), undef, undef, undef, (z 8), (ptr b20 0), (eN d), (eN b), (ptr L37.bN 0), (eN 0), (eN i), (z 15), (z 16), (eN ((b + 1) % B)), (Value.bool true), (Value.bool false), (Value.agg #[(eI a), (eI b_), (eI c)]), (Value.agg #[(eN (6 + (a % ((3 : Nat) : Int)).toNat)), (eN (8 + (b_ % ((5 : Nat) : Int)).toNat)), (eN (4 + (c % ((5 : Nat) : Int)).toNat))]), (eI die), (ptr b20 0), (eN D), (eN ((die % ((D : Nat) : Int)).toNat)), (eI block), (ptr b20 1), (eN B), (eN ((block % ((B : Nat) : Int)).toNat)), (Value.tuple #[(ptr L37.bN 0), (eN 0)]), (Value.agg #[(eN D), (eN B), (eN Q)]), (eN d), (eN b), (Value.agg #[(eN d), (eN b)]), (eN d), (eN b), (Value.agg #[(eN d), (eN b)]), (sli b30 0 2 2), (Value.tuple #[(ptr L37.bN 0), (eN 0)]), (ptr L37.bN 0), (eN 0), (eN 0), (Value.bool false), (eI nn_), (eN ((nn_ % ((9 : Nat) : Int)).toNat)), (eN i), (eN nn), (Value.bool (decide (i < nn)))] ++ (zs z 49 26 ++ [(eN b), (eN (b + 1)), (ptr b20 1), (eN B), (eN ((b + 1) % B)), (ptr L37.bN 0), (eN d), (eN b), (Value.bool true), (Value.bool true), (ptr L37.bN 0), (eN d), (eN ((b + 1) % B)), (Value.bool false), (Value.bool true), (Value.bool true), (Value.bool true), (ptr L37.bN 0), (eN d), (eN (d + 1)), (ptr b20 0), (eN D), (eN ((d + 1) % D)), (eN b), (Value.bool false), (Value.bool true), (Value.bool true), (Value.bool true), (ptr L37.bN 0)] ++ (us 37))) ?_
 refine wpL.on rfl rfl rfl (nb rfl) rfl (d_call (xl := [.tmp 103, .const (.int .i64 (-1)), .const (.int .i64 0)]) (al := [(ptr L37.bN 0), (eI (-1)), (eN 0)]) Try.func27 (by kernel_rfl) rfl rfl rfl (isBad_ok L37 s _ a39 (r := false) (-1) 0 (Bool.eq_false_iff.2 (Bool.eq_false_iff.1 k66)))) ?_
 rintro _ w74 ⟨rfl, o75⟩
 replace a39 := a39.step0 o75
 replace a14 := a14.step0 o75
 replace a26 := a26.step0 o75
 replace a33 := a33.step0 o75
 replace oW := oW.tail0 o75
 replace o44 := o44.tail0 o75
 refine wpL.onis rfl rfl rfl (nb rfl) rfl (d_not rfl rfl) ?_
 refine wI (d_pick (b := true) (v := (Value.bool true)) rfl rfl) ?_
 refine wF ([(Value.agg #[(eI a), (eI b_), (eI c)]), (eI die), (eI block), (eN nn), (ptr b11 0), undef, undef, undef, (z 8), (ptr b20 0), (eN d), (eN b), (ptr L37.bN 0), (eN 0), (eN i), (z 15), (z 16), (eN ((b + 1) % B)), (Value.bool true), (Value.bool false), (Value.agg #[(eI a), (eI b_), (eI c)]), (Value.agg #[(eN (6 + (a % ((3 : Nat) : Int)).toNat)), (eN (8 + (b_ % ((5 : Nat) : Int)).toNat)), (eN (4 + (c % ((5 : Nat) : Int)).toNat))]), (eI die), (ptr b20 0), (eN D), (eN ((die % ((D : Nat) : Int)).toNat)), (eI block), (ptr b20 1), (eN B), (eN ((block % ((B : Nat) : Int)).toNat)), (Value.tuple #[(ptr L37.bN 0), (eN 0)]), (Value.agg #[(eN D), (eN B), (eN Q)]), (eN d), (eN b), (Value.agg #[(eN d), (eN b)]), (eN d), (eN b), (Value.agg #[(eN d), (eN b)]), (sli b30 0 2 2), (Value.tuple #[(ptr L37.bN 0), (eN 0)]), (ptr L37.bN 0), (eN 0), (eN 0), (Value.bool false), (eI nn_), (eN ((nn_ % ((9 : Nat) : Int)).toNat)), (eN i), (eN nn), (Value.bool (decide (i < nn)))] ++ (zs z 49 26 ++ [(eN b), (eN (b + 1)), (ptr b20 1), (eN B), (eN ((b + 1) % B)), (ptr L37.bN 0), (eN d), (eN b), (Value.bool true), (Value.bool true), (ptr L37.bN 0), (eN d), (eN ((b + 1) % B)), (Value.bool false), (Value.bool true), (Value.bool true), (Value.bool true), (ptr L37.bN 0), (eN d), (eN (d + 1)), (ptr b20 0), (eN D), (eN ((d + 1) % D)), (eN b), (Value.bool false), (Value.bool true), (Value.bool true), (Value.bool true), (ptr L37.bN 0), (Value.bool false), (Value.bool true), (Value.bool true)] ++ (us 34))) ?_
 refine wI (d_move rfl) ?_
 refine wpL.onis rfl rfl rfl (nb rfl) rfl (d_move rfl) ?_
 refine wpL.onis rfl rfl rfl (nb rfl) rfl (d_fieldAddr (j := 1) Try.underlying23 rfl s_ti3 (by decide) rfl rfl) ?_
 refine wF ([(Value.agg #[(eI a), (eI b_), (eI c)]), (eI die), (eI block), (eN nn), (ptr b11 0), undef, undef, undef, (z 8), (ptr b20 0), (eN d), (eN b), (ptr L37.bN 0), (eN 0), (eN i), (z 15), (z 16), (eN ((b + 1) % B)), (Value.bool true), (Value.bool false), (Value.agg #[(eI a), (eI b_), (eI c)]), (Value.agg #[(eN (6 + (a % ((3 : Nat) : Int)).toNat)), (eN (8 + (b_ % ((5 : Nat) : Int)).toNat)), (eN (4 + (c % ((5 : Nat) : Int)).toNat))]), (eI die), (ptr b20 0), (eN D), (eN ((die % ((D : Nat) : Int)).toNat)), (eI block), (ptr b20 1), (eN B), (eN ((block % ((B : Nat) : Int)).toNat)), (Value.tuple #[(ptr L37.bN 0), (eN 0)]), (Value.agg #[(eN D), (eN B), (eN Q)]), (eN d), (eN b), (Value.agg #[(eN d), (eN b)]), (eN d), (eN b), (Value.agg #[(eN d), (eN b)]), (sli b30 0 2 2), (Value.tuple #[(ptr L37.bN 0), (eN 0)]), (ptr L37.bN 0), (eN 0), (eN 0), (Value.bool false), (eI nn_), (eN ((nn_ % ((9 : Nat) : Int)).toNat)), (eN i), (eN nn), (Value.bool (decide (i < nn)))] ++ (zs z 49 26 ++ [(eN b), (eN (b + 1)), (ptr b20 1), (eN B), (eN ((b + 1) % B)), (ptr L37.bN 0), (eN d), (eN b), (Value.bool true), (Value.bool true), (ptr L37.bN 0), (eN d), (eN ((b + 1) % B)), (Value.bool false), (Value.bool true), (Value.bool true), (Value.bool true), (ptr L37.bN 0), (eN d), (eN (d + 1)), (ptr b20 0), (eN D), (eN ((d + 1) % D)), (eN b), (Value.bool false), (Value.bool true), (Value.bool true), (Value.bool true), (ptr L37.bN 0), (Value.bool false), (Value.bool true), (Value.bool true), (Value.bool true), (ptr L37.bN 0), (ptr b20 1)] ++ (us 31))) ?_
 refine wpL.onis rfl rfl rfl (nb rfl) rfl (d_load (v := (eN B)) ⟨_, Try.underlying3, rfl⟩ rfl a26 rfl) ?_
 refine wpL.on rfl rfl rfl (nb rfl) rfl (d_call (xl := [.tmp 108, .const (.int .i64 0), .tmp 110]) (al := [(ptr L37.bN 0), (eN 0), (eN B)]) Try.func27 (by kernel_rfl) rfl rfl rfl (isBad_ok L37 s _ a39 (r := false) 0 ((B : Nat) : Int) (Bool.eq_false_iff.2 (Bool.eq_false_iff.1 k67)))) ?_
 rintro _ w76 ⟨rfl, o77⟩
 replace a39 := a39.step0 o77
 replace a14 := a14.step0 o77
 replace a26 := a26.step0 o77
 replace a33 := a33.step0 o77
 replace oW := oW.tail0 o77
 replace o44 := o44.tail0 o77
 refine wpL.onis rfl rfl rfl (nb rfl) rfl (d_not rfl rfl) ?_
 refine wF ([(Value.agg #[(eI a), (eI b_), (eI c)]), (eI die), (eI block), (eN nn), (ptr b11 0), undef, undef, undef, (z 8), (ptr b20 0), (eN d), (eN b), (ptr L37.bN 0), (eN 0), (eN i), (z 15), (z 16), (eN ((b + 1) % B)), (Value.bool true), (Value.bool false), (Value.agg #[(eI a), (eI b_), (eI c)]), (Value.agg #[(eN (6 + (a % ((3 : Nat) : Int)).toNat)), (eN (8 + (b_ % ((5 : Nat) : Int)).toNat)), (eN (4 + (c % ((5 : Nat) : Int)).toNat))]), (eI die), (ptr b20 0), (eN D), (eN ((die % ((D : Nat) : Int)).toNat)), (eI block), (ptr b20 1), (eN B), (eN ((block % ((B : Nat) : Int)).toNat)), (Value.tuple #[(ptr L37.bN 0), (eN 0)]), (Value.agg #[(eN D), (eN B), (eN Q)]), (eN d), (eN b), (Value.agg #[(eN d), (eN b)]), (eN d), (eN b), (Value.agg #[(eN d), (eN b)]), (sli b30 0 2 2), (Value.tuple #[(ptr L37.bN 0), (eN 0)]), (ptr L37.bN 0), (eN 0), (eN 0), (Value.bool false), (eI nn_), (eN ((nn_ % ((9 : Nat) : Int)).toNat)), (eN i), (eN nn), (Value.bool (decide (i < nn)))] ++ (zs z 49 26 ++ [(eN b), (eN (b + 1)), (ptr b20 1), (eN B), (eN ((b + 1) % B)), (ptr L37.bN 0), (eN d), (eN b), (Value.bool true), (Value.bool true), (ptr L37.bN 0), (eN d), (eN ((b + 1) % B)), (Value.bool false), (Value.bool true), (Value.bool true), (Value.bool true), (ptr L37.bN 0), (eN d), (eN (d + 1)), (ptr b20 0), (eN D), (eN ((d + 1) % D)), (eN b), (Value.bool false), (Value.bool true), (Value.bool true), (Value.bool true), (ptr L37.bN 0), (Value.bool false), (Value.bool true), (Value.bool true), (Value.bool true), (ptr L37.bN 0), (ptr b20 1), (eN B), (Value.bool false), (Value.bool true)] ++ (us 28))) ?_
 refine wI (d_pick (b := true) (v := (Value.bool true)) rfl rfl) ?_
 refine wI (d_move rfl) ?_
 refine wpL.onis rfl rfl rfl (nb rfl) rfl (d_move rfl) ?_
 refine wF ([(Value.agg #[(eI a), (eI b_), (eI c)]), (eI die), (eI block), (eN nn), (ptr b11 0), undef, undef, undef, (z 8), (ptr b20 0), (eN d), (eN b), (ptr L37.bN 0), (eN 0), (eN i), (z 15), (z 16), (eN ((b + 1) % B)), (Value.bool true), (Value.bool false), (Value.agg #[(eI a), (eI b_), (eI c)]), (Value.agg #[(eN (6 + (a % ((3 : Nat) : Int)).toNat)), (eN (8 + (b_ % ((5 : Nat) : Int)).toNat)), (eN (4 + (c % ((5 : Nat) : Int)).toNat))]), (eI die), (ptr b20 0), (eN D), (eN ((die % ((D : Nat) : Int)).toNat)), (eI block), (ptr b20 1), (eN B), (eN ((block % ((B : Nat) : Int)).toNat)), (Value.tuple #[(ptr L37.bN 0), (eN 0)]), (Value.agg #[(eN D), (eN B), (eN Q)]), (eN d), (eN b), (Value.agg #[(eN d), (eN b)]), (eN d), (eN b), (Value.agg #[(eN d), (eN b)]), (sli b30 0 2 2), (Value.tuple #[(ptr L37.bN 0), (eN 0)]), (ptr L37.bN 0), (eN 0), (eN 0), (Value.bool false), (eI nn_), (eN ((nn_ % ((9 : Nat) : Int)).toNat)), (eN i), (eN nn), (Value.bool (decide (i < nn)))] ++ (zs z 49 26 ++ [(eN b), (eN (b + 1)), (ptr b20 1), (eN B), (eN ((b + 1) % B)), (ptr L37.bN 0), (eN d), (eN b), (Value.bool true), (Value.bool true), (ptr L37.bN 0), (eN d), (eN ((b + 1) % B)), (Value.bool false), (Value.bool true), (Value.bool true), (Value.bool true), (ptr L37.bN 0), (eN d), (eN (d + 1)), (ptr b20 0), (eN D), (eN ((d + 1) % D)), (eN b), (Value.bool false), (Value.bool true), (Value.bool true), (Value.bool true), (ptr L37.bN 0), (Value.bool false), (Value.bool true), (Value.bool true), (Value.bool true), (ptr L37.bN 0), (ptr b20 1), (eN B), (Value.bool false), (Value.bool true), (Value.bool true), (Value.bool true), (ptr L37.bN 0)] ++ (us 25))) ?_
 refine wpL.on rfl rfl rfl (nb rfl) rfl (d_call (xl := [.tmp 115]) (al := [(ptr L37.bN 0)]) Try.func18 (by kernel_rfl) rfl rfl rfl (nandWrong_ok L37 s _ a39)) ?_
 rintro _ w78 ⟨rfl, o79⟩
 replace a39 := a39.step0 o79
 replace a14 := a14.step0 o79
 replace a26 := a26.step0 o79
 replace a33 := a33.step0 o79
 replace oW := oW.tail0 o79
 replace o44 := o44.tail0 o79
 refine wpL.onis rfl rfl rfl (nb rfl) rfl (d_move rfl) ?_
 refine wpL.onis rfl rfl rfl (nb rfl) rfl (n_mul (a := 3) (b := nn) rfl rfl (by omega)) ?_
 refine wF ([(Value.agg #[(eI a), (eI b_), (eI c)]), (eI die), (eI block), (eN nn), (ptr b11 0), undef, undef, undef, (z 8), (ptr b20 0), (eN d), (eN b), (ptr L37.bN 0), (eN 0), (eN i), (z 15), (z 16), (eN ((b + 1) % B)), (Value.bool true), (Value.bool false), (Value.agg #[(eI a), (eI b_), (eI c)]), (Value.agg #[(eN (6 + (a % ((3 : Nat) : Int)).toNat)), (eN (8 + (b_ % ((5 : Nat) : Int)).toNat)), (eN (4 + (c % ((5 : Nat) : Int)).toNat))]), (eI die), (ptr b20 0), (eN D), (eN ((die % ((D : Nat) : Int)).toNat)), (eI block), (ptr b20 1), (eN B), (eN ((block % ((B : Nat) : Int)).toNat)), (Value.tuple #[(ptr L37.bN 0), (eN 0)]), (Value.agg #[(eN D), (eN B), (eN Q)]), (eN d), (eN b), (Value.agg #[(eN d), (eN b)]), (eN d), (eN b), (Value.agg #[(eN d), (eN b)]), (sli b30 0 2 2), (Value.tuple #[(ptr L37.bN 0), (eN 0)]), (ptr L37.bN 0), (eN 0), (eN 0), (Value.bool false), (eI nn_), (eN ((nn_ % ((9 : Nat) : Int)).toNat)), (eN i), (eN nn), (Value.bool (decide (i < nn)))] ++ (zs z 49 26 ++ [(eN b), (eN (b + 1)), (ptr b20 1), (eN B), (eN ((b + 1) % B)), (ptr L37.bN 0), (eN d), (eN b), (Value.bool true), (Value.bool true), (ptr L37.bN 0), (eN d), (eN ((b + 1) % B)), (Value.bool false), (Value.bool true), (Value.bool true), (Value.bool true), (ptr L37.bN 0), (eN d), (eN (d + 1)), (ptr b20 0), (eN D), (eN ((d + 1) % D)), (eN b), (Value.bool false), (Value.bool true), (Value.bool true), (Value.bool true), (ptr L37.bN 0), (Value.bool false), (Value.bool true), (Value.bool true), (Value.bool true), (ptr L37.bN 0), (ptr b20 1), (eN B), (Value.bool false), (Value.bool true), (Value.bool true), (Value.bool true), (ptr L37.bN 0), (eI s.wrong), (eN nn), (eN (3 * nn))] ++ (us 22))) ?_
 refine wpL.onis rfl rfl rfl (nb rfl) rfl (d_eql (k := .i64) (m := s.wrong) (n := ((3 * nn : Nat) : Int)) rfl rfl (decide_eq_true (by rw [hI.c.wr, hin]))) ?_
 refine wI (d_pick (b := true) (v := (Value.bool true)) rfl rfl) ?_
 refine wI (d_move rfl) ?_
 refine wF ([(Value.agg #[(eI a), (eI b_), (eI c)]), (eI die), (eI block), (eN nn), (ptr b11 0), undef, undef, undef, (z 8), (ptr b20 0), (eN d), (eN b), (ptr L37.bN 0), (eN 0), (eN i), (z 15), (z 16), (eN ((b + 1) % B)), (Value.bool true), (Value.bool false), (Value.agg #[(eI a), (eI b_), (eI c)]), (Value.agg #[(eN (6 + (a % ((3 : Nat) : Int)).toNat)), (eN (8 + (b_ % ((5 : Nat) : Int)).toNat)), (eN (4 + (c % ((5 : Nat) : Int)).toNat))]), (eI die), (ptr b20 0), (eN D), (eN ((die % ((D : Nat) : Int)).toNat)), (eI block), (ptr b20 1), (eN B), (eN ((block % ((B : Nat) : Int)).toNat)), (Value.tuple #[(ptr L37.bN 0), (eN 0)]), (Value.agg #[(eN D), (eN B), (eN Q)]), (eN d), (eN b), (Value.agg #[(eN d), (eN b)]), (eN d), (eN b), (Value.agg #[(eN d), (eN b)]), (sli b30 0 2 2), (Value.tuple #[(ptr L37.bN 0), (eN 0)]), (ptr L37.bN 0), (eN 0), (eN 0), (Value.bool false), (eI nn_), (eN ((nn_ % ((9 : Nat) : Int)).toNat)), (eN i), (eN nn), (Value.bool (decide (i < nn)))] ++ (zs z 49 26 ++ [(eN b), (eN (b + 1)), (ptr b20 1), (eN B), (eN ((b + 1) % B)), (ptr L37.bN 0), (eN d), (eN b), (Value.bool true), (Value.bool true), (ptr L37.bN 0), (eN d), (eN ((b + 1) % B)), (Value.bool false), (Value.bool true), (Value.bool true), (Value.bool true), (ptr L37.bN 0), (eN d), (eN (d + 1)), (ptr b20 0), (eN D), (eN ((d + 1) % D)), (eN b), (Value.bool false), (Value.bool true), (Value.bool true), (Value.bool true), (ptr L37.bN 0), (Value.bool false), (Value.bool true), (Value.bool true), (Value.bool true), (ptr L37.bN 0), (ptr b20 1), (eN B), (Value.bool false), (Value.bool true), (Value.bool true), (Value.bool true), (ptr L37.bN 0), (eI s.wrong), (eN nn), (eN (3 * nn)), (Value.bool true), (Value.bool true), (Value.bool true)] ++ (us 19))) ?_
 refine wpL.onis rfl rfl rfl (nb rfl) rfl (d_move rfl) ?_
 refine wpL.on rfl rfl rfl (nb rfl) rfl (d_call (xl := [.tmp 122]) (al := [(ptr L37.bN 0)]) Try.func19 (by kernel_rfl) rfl rfl rfl (nandOps_ok L37 s _ a39)) ?_
 rintro _ w80 ⟨rfl, o81⟩
 replace a39 := a39.step0 o81
 replace a14 := a14.step0 o81
 replace a26 := a26.step0 o81
 replace a33 := a33.step0 o81
 replace oW := oW.tail0 o81
 replace o44 := o44.tail0 o81
 refine wpL.onis rfl rfl rfl (nb rfl) rfl (d_eql (k := .i64) (m := s.ops) (n := 0) rfl rfl (decide_eq_true hI.c.op)) ?_
 refine wF ([(Value.agg #[(eI a), (eI b_), (eI c)]), (eI die), (eI block), (eN nn), (ptr b11 0), undef, undef, undef, (z 8), (ptr b20 0), (eN d), (eN b), (ptr L37.bN 0), (eN 0), (eN i), (z 15), (z 16), (eN ((b + 1) % B)), (Value.bool true), (Value.bool false), (Value.agg #[(eI a), (eI b_), (eI c)]), (Value.agg #[(eN (6 + (a % ((3 : Nat) : Int)).toNat)), (eN (8 + (b_ % ((5 : Nat) : Int)).toNat)), (eN (4 + (c % ((5 : Nat) : Int)).toNat))]), (eI die), (ptr b20 0), (eN D), (eN ((die % ((D : Nat) : Int)).toNat)), (eI block), (ptr b20 1), (eN B), (eN ((block % ((B : Nat) : Int)).toNat)), (Value.tuple #[(ptr L37.bN 0), (eN 0)]), (Value.agg #[(eN D), (eN B), (eN Q)]), (eN d), (eN b), (Value.agg #[(eN d), (eN b)]), (eN d), (eN b), (Value.agg #[(eN d), (eN b)]), (sli b30 0 2 2), (Value.tuple #[(ptr L37.bN 0), (eN 0)]), (ptr L37.bN 0), (eN 0), (eN 0), (Value.bool false), (eI nn_), (eN ((nn_ % ((9 : Nat) : Int)).toNat)), (eN i), (eN nn), (Value.bool (decide (i < nn)))] ++ (zs z 49 26 ++ [(eN b), (eN (b + 1)), (ptr b20 1), (eN B), (eN ((b + 1) % B)), (ptr L37.bN 0), (eN d), (eN b), (Value.bool true), (Value.bool true), (ptr L37.bN 0), (eN d), (eN ((b + 1) % B)), (Value.bool false), (Value.bool true), (Value.bool true), (Value.bool true), (ptr L37.bN 0), (eN d), (eN (d + 1)), (ptr b20 0), (eN D), (eN ((d + 1) % D)), (eN b), (Value.bool false), (Value.bool true), (Value.bool true), (Value.bool true), (ptr L37.bN 0), (Value.bool false), (Value.bool true), (Value.bool true), (Value.bool true), (ptr L37.bN 0), (ptr b20 1), (eN B), (Value.bool false), (Value.bool true), (Value.bool true), (Value.bool true), (ptr L37.bN 0), (eI s.wrong), (eN nn), (eN (3 * nn)), (Value.bool true), (Value.bool true), (Value.bool true), (ptr L37.bN 0), (eI s.ops), (Value.bool true)] ++ (us 16))) ?_
 refine wI (d_pick (b := true) (v := (Value.bool true)) rfl rfl) ?_
 refine wI (d_move rfl) ?_
 refine wpL.onis rfl rfl rfl (nb rfl) rfl (d_move rfl) ?_
 refine wF ([(Value.agg #[(eI a), (eI b_), (eI c)]), (eI die), (eI block), (eN nn), (ptr b11 0), undef, undef, undef, (z 8), (ptr b20 0), (eN d), (eN b), (ptr L37.bN 0), (eN 0), (eN i), (z 15), (z 16), (eN ((b + 1) % B)), (Value.bool true), (Value.bool false), (Value.agg #[(eI a), (eI b_), (eI c)]), (Value.agg #[(eN (6 + (a % ((3 : Nat) : Int)).toNat)), (eN (8 + (b_ % ((5 : Nat) : Int)).toNat)), (eN (4 + (c % ((5 : Nat) : Int)).toNat))]), (eI die), (ptr b20 0), (eN D), (eN ((die % ((D : Nat) : Int)).toNat)), (eI block), (ptr b20 1), (eN B), (eN ((block % ((B : Nat) : Int)).toNat)), (Value.tuple #[(ptr L37.bN 0), (eN 0)]), (Value.agg #[(eN D), (eN B), (eN Q)]), (eN d), (eN b), (Value.agg #[(eN d), (eN b)]), (eN d), (eN b), (Value.agg #[(eN d), (eN b)]), (sli b30 0 2 2), (Value.tuple #[(ptr L37.bN 0), (eN 0)]), (ptr L37.bN 0), (eN 0), (eN 0), (Value.bool false), (eI nn_), (eN ((nn_ % ((9 : Nat) : Int)).toNat)), (eN i), (eN nn), (Value.bool (decide (i < nn)))] ++ (zs z 49 26 ++ [(eN b), (eN (b + 1)), (ptr b20 1), (eN B), (eN ((b + 1) % B)), (ptr L37.bN 0), (eN d), (eN b), (Value.bool true), (Value.bool true), (ptr L37.bN 0), (eN d), (eN ((b + 1) % B)), (Value.bool false), (Value.bool true), (Value.bool true), (Value.bool true), (ptr L37.bN 0), (eN d), (eN (d + 1)), (ptr b20 0), (eN D), (eN ((d + 1) % D)), (eN b), (Value.bool false), (Value.bool true), (Value.bool true), (Value.bool true), (ptr L37.bN 0), (Value.bool false), (Value.bool true), (Value.bool true), (Value.bool true), (ptr L37.bN 0), (ptr b20 1), (eN B), (Value.bool false), (Value.bool true), (Value.bool true), (Value.bool true), (ptr L37.bN 0), (eI s.wrong), (eN nn), (eN (3 * nn)), (Value.bool true), (Value.bool true), (Value.bool true), (ptr L37.bN 0), (eI s.ops), (Value.bool true), (Value.bool true), (Value.bool true), (ptr L37.bN 0)] ++ (us 13))) ?_
 refine wpL.onis rfl rfl rfl (nb rfl) rfl (d_move rfl) ?_
 refine wpL.onis rfl rfl rfl (nb rfl) rfl (d_move rfl) ?_
 refine wpL.on rfl rfl rfl (nb rfl) rfl (d_call (xl := [.tmp 127, .tmp 128, .tmp 129]) (al := [(ptr L37.bN 0), (eN d), (eN b)]) Try.func28 (by kernel_rfl) rfl rfl rfl (nandErases_ok L37 s _ a39 ((d : Nat) : Int) ((b : Nat) : Int))) ?_
 rintro _ w82 ⟨rfl, o83⟩
 replace a39 := a39.step0 o83
 replace a14 := a14.step0 o83
 replace a26 := a26.step0 o83
 replace a33 := a33.step0 o83
 replace oW := oW.tail0 o83
 replace o44 := o44.tail0 o83
 refine wF ([(Value.agg #[(eI a), (eI b_), (eI c)]), (eI die), (eI block), (eN nn), (ptr b11 0), undef, undef, undef, (z 8), (ptr b20 0), (eN d), (eN b), (ptr L37.bN 0), (eN 0), (eN i), (z 15), (z 16), (eN ((b + 1) % B)), (Value.bool true), (Value.bool false), (Value.agg #[(eI a), (eI b_), (eI c)]), (Value.agg #[(eN (6 + (a % ((3 : Nat) : Int)).toNat)), (eN (8 + (b_ % ((5 : Nat) : Int)).toNat)), (eN (4 + (c % ((5 : Nat) : Int)).toNat))]), (eI die), (ptr b20 0), (eN D), (eN ((die % ((D : Nat) : Int)).toNat)), (eI block), (ptr b20 1), (eN B), (eN ((block % ((B : Nat) : Int)).toNat)), (Value.tuple #[(ptr L37.bN 0), (eN 0)]), (Value.agg #[(eN D), (eN B), (eN Q)]), (eN d), (eN b), (Value.agg #[(eN d), (eN b)]), (eN d), (eN b), (Value.agg #[(eN d), (eN b)]), (sli b30 0 2 2), (Value.tuple #[(ptr L37.bN 0), (eN 0)]), (ptr L37.bN 0), (eN 0), (eN 0), (Value.bool false), (eI nn_), (eN ((nn_ % ((9 : Nat) : Int)).toNat)), (eN i), (eN nn), (Value.bool (decide (i < nn)))] ++ (zs z 49 26 ++ [(eN b), (eN (b + 1)), (ptr b20 1), (eN B), (eN ((b + 1) % B)), (ptr L37.bN 0), (eN d), (eN b), (Value.bool true), (Value.bool true), (ptr L37.bN 0), (eN d), (eN ((b + 1) % B)), (Value.bool false), (Value.bool true), (Value.bool true), (Value.bool true), (ptr L37.bN 0), (eN d), (eN (d + 1)), (ptr b20 0), (eN D), (eN ((d + 1) % D)), (eN b), (Value.bool false), (Value.bool true), (Value.bool true), (Value.bool true), (ptr L37.bN 0), (Value.bool false), (Value.bool true), (Value.bool true), (Value.bool true), (ptr L37.bN 0), (ptr b20 1), (eN B), (Value.bool false), (Value.bool true), (Value.bool true), (Value.bool true), (ptr L37.bN 0), (eI s.wrong), (eN nn), (eN (3 * nn)), (Value.bool true), (Value.bool true), (Value.bool true), (ptr L37.bN 0), (eI s.ops), (Value.bool true), (Value.bool true), (Value.bool true), (ptr L37.bN 0), (eN d), (eN b), (eI (s.erases ((d : Nat) : Int) ((b : Nat) : Int)))] ++ (us 10))) ?_
 refine wpL.onis rfl rfl rfl (nb rfl) rfl (d_eql (k := .i64) (m := s.erases ((d : Nat) : Int) ((b : Nat) : Int)) (n := 0) rfl rfl (decide_eq_true (bv_erases (bad_own hI hd hb)))) ?_
 refine wI (d_pick (b := true) (v := (Value.bool true)) rfl rfl) ?_
 refine wI (d_move rfl) ?_
 refine wF ([(Value.agg #[(eI a), (eI b_), (eI c)]), (eI die), (eI block), (eN nn), (ptr b11 0), undef, undef, undef, (z 8), (ptr b20 0), (eN d), (eN b), (ptr L37.bN 0), (eN 0), (eN i), (z 15), (z 16), (eN ((b + 1) % B)), (Value.bool true), (Value.bool false), (Value.agg #[(eI a), (eI b_), (eI c)]), (Value.agg #[(eN (6 + (a % ((3 : Nat) : Int)).toNat)), (eN (8 + (b_ % ((5 : Nat) : Int)).toNat)), (eN (4 + (c % ((5 : Nat) : Int)).toNat))]), (eI die), (ptr b20 0), (eN D), (eN ((die % ((D : Nat) : Int)).toNat)), (eI block), (ptr b20 1), (eN B), (eN ((block % ((B : Nat) : Int)).toNat)), (Value.tuple #[(ptr L37.bN 0), (eN 0)]), (Value.agg #[(eN D), (eN B), (eN Q)]), (eN d), (eN b), (Value.agg #[(eN d), (eN b)]), (eN d), (eN b), (Value.agg #[(eN d), (eN b)]), (sli b30 0 2 2), (Value.tuple #[(ptr L37.bN 0), (eN 0)]), (ptr L37.bN 0), (eN 0), (eN 0), (Value.bool false), (eI nn_), (eN ((nn_ % ((9 : Nat) : Int)).toNat)), (eN i), (eN nn), (Value.bool (decide (i < nn)))] ++ (zs z 49 26 ++ [(eN b), (eN (b + 1)), (ptr b20 1), (eN B), (eN ((b + 1) % B)), (ptr L37.bN 0), (eN d), (eN b), (Value.bool true), (Value.bool true), (ptr L37.bN 0), (eN d), (eN ((b + 1) % B)), (Value.bool false), (Value.bool true), (Value.bool true), (Value.bool true), (ptr L37.bN 0), (eN d), (eN (d + 1)), (ptr b20 0), (eN D), (eN ((d + 1) % D)), (eN b), (Value.bool false), (Value.bool true), (Value.bool true), (Value.bool true), (ptr L37.bN 0), (Value.bool false), (Value.bool true), (Value.bool true), (Value.bool true), (ptr L37.bN 0), (ptr b20 1), (eN B), (Value.bool false), (Value.bool true), (Value.bool true), (Value.bool true), (ptr L37.bN 0), (eI s.wrong), (eN nn), (eN (3 * nn)), (Value.bool true), (Value.bool true), (Value.bool true), (ptr L37.bN 0), (eI s.ops), (Value.bool true), (Value.bool true), (Value.bool true), (ptr L37.bN 0), (eN d), (eN b), (eI (s.erases ((d : Nat) : Int) ((b : Nat) : Int))), (Value.bool true), (Value.bool true), (Value.bool true)] ++ (us 7))) ?_
 refine wpL.onis rfl rfl rfl (nb rfl) rfl (d_move rfl) ?_
 refine wpL.onis rfl rfl rfl (nb rfl) rfl (d_move rfl) ?_
 refine wpL.onis rfl rfl rfl (nb rfl) rfl (d_move rfl) ?_
 refine wF ([(Value.agg #[(eI a), (eI b_), (eI c)]), (eI die), (eI block), (eN nn), (ptr b11 0), undef, undef, undef, (z 8), (ptr b20 0), (eN d), (eN b), (ptr L37.bN 0), (eN 0), (eN i), (z 15), (z 16), (eN ((b + 1) % B)), (Value.bool true), (Value.bool false), (Value.agg #[(eI a), (eI b_), (eI c)]), (Value.agg #[(eN (6 + (a % ((3 : Nat) : Int)).toNat)), (eN (8 + (b_ % ((5 : Nat) : Int)).toNat)), (eN (4 + (c % ((5 : Nat) : Int)).toNat))]), (eI die), (ptr b20 0), (eN D), (eN ((die % ((D : Nat) : Int)).toNat)), (eI block), (ptr b20 1), (eN B), (eN ((block % ((B : Nat) : Int)).toNat)), (Value.tuple #[(ptr L37.bN 0), (eN 0)]), (Value.agg #[(eN D), (eN B), (eN Q)]), (eN d), (eN b), (Value.agg #[(eN d), (eN b)]), (eN d), (eN b), (Value.agg #[(eN d), (eN b)]), (sli b30 0 2 2), (Value.tuple #[(ptr L37.bN 0), (eN 0)]), (ptr L37.bN 0), (eN 0), (eN 0), (Value.bool false), (eI nn_), (eN ((nn_ % ((9 : Nat) : Int)).toNat)), (eN i), (eN nn), (Value.bool (decide (i < nn)))] ++ (zs z 49 26 ++ [(eN b), (eN (b + 1)), (ptr b20 1), (eN B), (eN ((b + 1) % B)), (ptr L37.bN 0), (eN d), (eN b), (Value.bool true), (Value.bool true), (ptr L37.bN 0), (eN d), (eN ((b + 1) % B)), (Value.bool false), (Value.bool true), (Value.bool true), (Value.bool true), (ptr L37.bN 0), (eN d), (eN (d + 1)), (ptr b20 0), (eN D), (eN ((d + 1) % D)), (eN b), (Value.bool false), (Value.bool true), (Value.bool true), (Value.bool true), (ptr L37.bN 0), (Value.bool false), (Value.bool true), (Value.bool true), (Value.bool true), (ptr L37.bN 0), (ptr b20 1), (eN B), (Value.bool false), (Value.bool true), (Value.bool true), (Value.bool true), (ptr L37.bN 0), (eI s.wrong), (eN nn), (eN (3 * nn)), (Value.bool true), (Value.bool true), (Value.bool true), (ptr L37.bN 0), (eI s.ops), (Value.bool true), (Value.bool true), (Value.bool true), (ptr L37.bN 0), (eN d), (eN b), (eI (s.erases ((d : Nat) : Int) ((b : Nat) : Int))), (Value.bool true), (Value.bool true), (Value.bool true), (ptr L37.bN 0), (eN d), (eN ((b + 1) % B)), undef, undef, undef, undef])) ?_
 refine wpL.on rfl rfl rfl (nb rfl) rfl (d_make1 (n := 60) Try.underlying36 s_ti5 rfl rfl (by omega) (by omega) rfl) ?_
 rintro _ w85 ⟨b84, rfl, g86, a87, o88⟩
 replace a87 : Arr 5 b84 ((List.replicate 60 0).map eB) w85 := by rw [List.map_replicate]; exact a87
 have l_b84 : (List.replicate 60 0 : List UInt8).length = 60 := by simp
 have n_b11_b84 : b11 ≠ b84 := a14.ne g86
 have n_b20_b84 : b20 ≠ b84 := a26.ne g86
 have n_b30_b84 : b30 ≠ b84 := a33.ne g86
 have g_oW_b84 : W.heap.size ≤ b84 := Nat.le_trans oW.size g86
 have g_o44_b84 : w42.heap.size ≤ b84 := Nat.le_trans o44.size g86
 replace a39 := a39.new o88 g86
 replace a14 := a14.step0 o88
 replace a26 := a26.step0 o88
 replace a33 := a33.step0 o88
 replace oW := oW.tail0 o88
 replace o44 := o44.tail0 o88
 refine wpL.on rfl rfl rfl (nb rfl) rfl (d_call (xl := [.tmp 134, .tmp 135, .tmp 136, .const (.int .i64 0), .tmp 137]) (al := [(ptr L37.bN 0), (eN d), (eN ((b + 1) % B)), (eN 0), (sli b84 0 60 60)]) Try.func20 (by kernel_rfl) rfl rfl rfl (prog_ok L37 s _ a39 ((d : Nat) : Int) (((b + 1) % B : Nat) : Int) ((0 : Nat) : Int) (List.replicate 60 0) (sli b84 0 60 60) (lt_or1 a87.lt (lt_or1 a33.lt (lt_or1 a26.lt (lt_or1 a14.lt lt_no)))) (arr_keep a87 l_b84 (Nat.le_refl _) (nx_ors (a39.dis _ in1) (fun _ _ t => t.elim))) (by have := rep_len 60 0; first | omega | (simp; done) | (simp; omega)))) ?_
 rintro _ w89 ⟨rfl, a91, o90⟩
 replace a14 := a14.step o90 (a39.dis _ (in2 (in2 (in2 in1))))
 replace a26 := a26.step o90 (a39.dis _ (in2 (in2 in1)))
 replace a33 := a33.step o90 (a39.dis _ (in2 in1))
 replace a87 := a87.step o90 (a39.dis _ in1)
 replace oW := oW.tail o90 (fun k hk e => by have := g_oW_L37 k e; omega)
 replace o44 := o44.tail o90 (fun k _ e => sub1 k e)
 replace a39 := a91
 refine wpL.onis rfl rfl rfl (nb rfl) rfl (n_eql (a := (s.progR ((d : Nat) : Int) (((b + 1) % B : Nat) : Int) ((0 : Nat) : Int) (List.replicate 60 0))) (b := 0) rfl rfl (decide_eq_true (bad_other hI hd mb1 (fun h => mb2 h.2) (by omega) List.length_replicate))) ?_
 refine wF ([(Value.agg #[(eI a), (eI b_), (eI c)]), (eI die), (eI block), (eN nn), (ptr b11 0), undef, undef, undef, (z 8), (ptr b20 0), (eN d), (eN b), (ptr L37.bN 0), (eN 0), (eN i), (z 15), (z 16), (eN ((b + 1) % B)), (Value.bool true), (Value.bool false), (Value.agg #[(eI a), (eI b_), (eI c)]), (Value.agg #[(eN (6 + (a % ((3 : Nat) : Int)).toNat)), (eN (8 + (b_ % ((5 : Nat) : Int)).toNat)), (eN (4 + (c % ((5 : Nat) : Int)).toNat))]), (eI die), (ptr b20 0), (eN D), (eN ((die % ((D : Nat) : Int)).toNat)), (eI block), (ptr b20 1), (eN B), (eN ((block % ((B : Nat) : Int)).toNat)), (Value.tuple #[(ptr L37.bN 0), (eN 0)]), (Value.agg #[(eN D), (eN B), (eN Q)]), (eN d), (eN b), (Value.agg #[(eN d), (eN b)]), (eN d), (eN b), (Value.agg #[(eN d), (eN b)]), (sli b30 0 2 2), (Value.tuple #[(ptr L37.bN 0), (eN 0)]), (ptr L37.bN 0), (eN 0), (eN 0), (Value.bool false), (eI nn_), (eN ((nn_ % ((9 : Nat) : Int)).toNat)), (eN i), (eN nn), (Value.bool (decide (i < nn)))] ++ (zs z 49 26 ++ [(eN b), (eN (b + 1)), (ptr b20 1), (eN B), (eN ((b + 1) % B)), (ptr L37.bN 0), (eN d), (eN b), (Value.bool true), (Value.bool true), (ptr L37.bN 0), (eN d), (eN ((b + 1) % B)), (Value.bool false), (Value.bool true), (Value.bool true), (Value.bool true), (ptr L37.bN 0), (eN d), (eN (d + 1)), (ptr b20 0), (eN D), (eN ((d + 1) % D)), (eN b), (Value.bool false), (Value.bool true), (Value.bool true), (Value.bool true), (ptr L37.bN 0), (Value.bool false), (Value.bool true), (Value.bool true), (Value.bool true), (ptr L37.bN 0), (ptr b20 1), (eN B), (Value.bool false), (Value.bool true), (Value.bool true), (Value.bool true), (ptr L37.bN 0), (eI s.wrong), (eN nn), (eN (3 * nn)), (Value.bool true), (Value.bool true), (Value.bool true), (ptr L37.bN 0), (eI s.ops), (Value.bool true), (Value.bool true), (Value.bool true), (ptr L37.bN 0), (eN d), (eN b), (eI (s.erases ((d : Nat) : Int) ((b : Nat) : Int))), (Value.bool true), (Value.bool true), (Value.bool true), (ptr L37.bN 0), (eN d), (eN ((b + 1) % B)), (sli b84 0 60 60), (eN (s.progR ((d : Nat) : Int) (((b + 1) % B : Nat) : Int) ((0 : Nat) : Int) (List.replicate 60 0))), (Value.bool true), undef])) ?_
 refine wI (d_pick (b := true) (v := (Value.bool true)) rfl rfl) ?_
 refine wI (d_assign rfl) ?_
 refine wF ([(Value.agg #[(eI a), (eI b_), (eI c)]), (eI die), (eI block), (eN nn), (ptr b11 0), undef, undef, undef, (Value.bool true), (ptr b20 0), (eN d), (eN b), (ptr L37.bN 0), (eN 0), (eN i), (z 15), (z 16), (eN ((b + 1) % B)), (Value.bool true), (Value.bool false), (Value.agg #[(eI a), (eI b_), (eI c)]), (Value.agg #[(eN (6 + (a % ((3 : Nat) : Int)).toNat)), (eN (8 + (b_ % ((5 : Nat) : Int)).toNat)), (eN (4 + (c % ((5 : Nat) : Int)).toNat))]), (eI die), (ptr b20 0), (eN D), (eN ((die % ((D : Nat) : Int)).toNat)), (eI block), (ptr b20 1), (eN B), (eN ((block % ((B : Nat) : Int)).toNat)), (Value.tuple #[(ptr L37.bN 0), (eN 0)]), (Value.agg #[(eN D), (eN B), (eN Q)]), (eN d), (eN b), (Value.agg #[(eN d), (eN b)]), (eN d), (eN b), (Value.agg #[(eN d), (eN b)]), (sli b30 0 2 2), (Value.tuple #[(ptr L37.bN 0), (eN 0)]), (ptr L37.bN 0), (eN 0), (eN 0), (Value.bool false), (eI nn_), (eN ((nn_ % ((9 : Nat) : Int)).toNat)), (eN i), (eN nn), (Value.bool (decide (i < nn)))] ++ (zs z 49 26 ++ [(eN b), (eN (b + 1)), (ptr b20 1), (eN B), (eN ((b + 1) % B)), (ptr L37.bN 0), (eN d), (eN b), (Value.bool true), (Value.bool true), (ptr L37.bN 0), (eN d), (eN ((b + 1) % B)), (Value.bool false), (Value.bool true), (Value.bool true), (Value.bool true), (ptr L37.bN 0), (eN d), (eN (d + 1)), (ptr b20 0), (eN D), (eN ((d + 1) % D)), (eN b), (Value.bool false), (Value.bool true), (Value.bool true), (Value.bool true), (ptr L37.bN 0), (Value.bool false), (Value.bool true), (Value.bool true), (Value.bool true), (ptr L37.bN 0), (ptr b20 1), (eN B), (Value.bool false), (Value.bool true), (Value.bool true), (Value.bool true), (ptr L37.bN 0), (eI s.wrong), (eN nn), (eN (3 * nn)), (Value.bool true), (Value.bool true), (Value.bool true), (ptr L37.bN 0), (eI s.ops), (Value.bool true), (Value.bool true), (Value.bool true), (ptr L37.bN 0), (eN d), (eN b), (eI (s.erases ((d : Nat) : Int) ((b : Nat) : Int))), (Value.bool true), (Value.bool true), (Value.bool true), (ptr L37.bN 0), (eN d), (eN ((b + 1) % B)), (sli b84 0 60 60), (eN (s.progR ((d : Nat) : Int) (((b + 1) % B : Nat) : Int) ((0 : Nat) : Int) (List.replicate 60 0))), (Value.bool true), (Value.bool true)])) ?_
 refine wpL.done ?_
 refine then_n ?_
 refine wpIn_ret ?_
 refine leave0 (v := (Value.bool true)) (res1 Try.results8 rfl) ?_
 exact ⟨rfl, oW⟩

end Go.Proofs.YtpamdlnobekihaaF
