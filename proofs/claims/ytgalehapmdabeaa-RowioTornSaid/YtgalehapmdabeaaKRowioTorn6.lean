/- Part of the proof of the law RowioTorn: its frame, its mathematics, the walks through the functions it reaches, without what it does not use. No further conditions. -/
import Derived.Test.YtgalehapmdabeaaKRowioTorn5
set_option linter.unusedVariables false
set_option linter.unusedSimpArgs false
namespace Go.Proofs.YtgalehapmdabeaaF
open Go Go.Shelf Go.Proofs.YtgalehapmdabeaaS Ram
set_option maxRecDepth 20000 in
set_option maxHeartbeats 4000000 in
theorem rowioTorn_law (lb : List UInt8) (k_ : Int) (lm : List UInt8) (u1 u2 : Value) (W : World) (h1 : Ps No (Seq kB lb u1) W) (h2 : Ps No (Seq kB lm u2) W) :
    CW Try.prog 10 #[u1, (eI k_), u2] W (Rt (RIs (.bool true) W)) := by
 have oW : Only No W W := Only.refl _ _
 refine enter (al := [u1, (eI k_), u2]) (k := 101) (l := ([u1, (eI k_), u2] ++ (us 101))) Try.func10 rfl Try.ntmps10 rfl rfl ?_
 refine wpIn_seq (plain ?_)
 refine wI (d_assign rfl) ?_
 refine wF ([u1, (eI k_), u2, undef, undef, undef, (Value.bool false)] ++ (us 97)) ?_
 refine wpL.done (then_n (wpIn_seq (wpIn_seq (plain ?_))))
 refine wO (d_call (xl := []) (al := []) Try.func27 kr rfl rfl rfl (law12Known_ok _)) ?_
 rintro _ w11 ⟨rfl, o12⟩
 replace h1 := h1.step0 o12
 replace h2 := h2.step0 o12
 replace oW := oW.tail0 o12
 refine wI (d_not rfl rfl) ?_
 refine wF ([u1, (eI k_), u2, undef, undef, undef, (Value.bool false)] ++ (us 8 ++ [(Value.bool true), (Value.bool false)] ++ (us 87))) ?_
 refine wpL.done (then_n ?_)
 refine cond_f rfl ?_
 refine wpIn_skip (then_n (wpIn_seq (wpIn_seq ?_)))
 by_cases km : 60 < lm.length
 ·
  refine plain ?_
  refine wI (d_move rfl) ?_
  refine wI (d_lenS rfl Try.underlying22 rfl h2) ?_
  refine wI (n_gtr (a := lm.length) (b := 60) rfl rfl (decide_eq_true km)) ?_
  refine wF ([u1, (eI k_), u2, undef, undef, undef, (Value.bool false)] ++ (us 8 ++ [(Value.bool true), (Value.bool false), u2, (eN lm.length), (Value.bool true)] ++ (us 84))) ?_
  refine wpL.done (then_n ?_)
  refine cond_t rfl ?_
  refine wpIn_seq (plain ?_)
  refine wI (d_assign rfl) ?_
  refine wF ([u1, (eI k_), u2, undef, undef, undef, (Value.bool true)] ++ (us 8 ++ [(Value.bool true), (Value.bool false), u2, (eN lm.length), (Value.bool true)] ++ (us 84))) ?_
  refine wpL.done (then_n ?_)
  refine wpIn_ret ?_
  refine then_r ?_
  refine leave0 (v := (Value.bool true)) (res1 Try.results10 rfl) ?_
  exact ⟨rfl, oW⟩
 refine plain ?_
 refine wI (d_move rfl) ?_
 refine wI (d_lenS rfl Try.underlying22 rfl h2) ?_
 refine wI (n_gtr (a := lm.length) (b := 60) rfl rfl (decide_eq_false km)) ?_
 refine wF ([u1, (eI k_), u2, undef, undef, undef, (Value.bool false)] ++ (us 8 ++ [(Value.bool true), (Value.bool false), u2, (eN lm.length), (Value.bool false)] ++ (us 84))) ?_
 refine wpL.done (then_n ?_)
 refine cond_f rfl ?_
 refine wpIn_skip (then_n (wpIn_seq (plain ?_)))
 refine wI (d_buildS (pl := [(0, 1), (1, 1), (2, 1)]) (zs := [(eN 0), (eN 0), (eN 0)]) (cs := [(eN 8), (eN 8), (eN 4)]) Try.underlying49 s_ti49 ⟨_, _, _, _, rfl, s_ti3, ⟨_, _, _, _, rfl, s_ti3, ⟨_, _, _, _, rfl, s_ti3, rfl⟩⟩⟩ rfl (parts_cons (vs := [(eN 8)]) (cells_of (v := (eN 8)) rfl rfl) (parts_cons (vs := [(eN 8)]) (cells_of (v := (eN 8)) rfl rfl) (parts_cons (vs := [(eN 4)]) (cells_of (v := (eN 4)) rfl rfl) parts_nil))) rfl) ?_
 refine wO (d_call (xl := [.tmp 21, .const (.slice none 0 0)]) (al := [(Value.agg #[(eN 8), (eN 8), (eN 4)]), (Value.slice none 0 0)]) Try.func28 kr rfl rfl rfl (new0_ok 8 8 4 _ oo oo oo)) ?_
 rintro _ w13 ⟨L15, rfl, ⟨a16, g17⟩, o14⟩
 have g_oW_L15 : ∀ k, L15.S k → W.heap.size ≤ k := fun k hk => Nat.le_trans oW.size (g17 k hk)
 replace a16 := a16.less (Y := No) no_old
 replace h1 := h1.re (X' := Ors L15.S No) o14 (fun _ t => t.elim) (xx_news g17 xx_id)
 replace h2 := h2.re (X' := Ors L15.S No) o14 (fun _ t => t.elim) (xx_news g17 xx_id)
 replace oW := oW.tail0 o14
 refine wI (d_move rfl) ?_
 refine wF ([u1, (eI k_), u2, undef, undef, undef, (Value.bool false)] ++ (us 8 ++ [(Value.bool true), (Value.bool false), u2, (eN lm.length), (Value.bool false), (Value.tuple #[(ptr L15.bN 0), (eN 0)]), (Value.agg #[(eN 8), (eN 8), (eN 4)]), (Value.tuple #[(ptr L15.bN 0), (eN 0)])] ++ (us 81))) ?_
 refine wI (d_extract (v := (ptr L15.bN 0)) rfl rfl) ?_
 refine wI (d_extract (v := (eN 0)) rfl rfl) ?_
 refine wI (d_assign rfl) ?_
 refine wF ([u1, (eI k_), u2, undef, undef, undef, (Value.bool false), (ptr L15.bN 0)] ++ (us 7 ++ [(Value.bool true), (Value.bool false), u2, (eN lm.length), (Value.bool false), (Value.tuple #[(ptr L15.bN 0), (eN 0)]), (Value.agg #[(eN 8), (eN 8), (eN 4)]), (Value.tuple #[(ptr L15.bN 0), (eN 0)]), (ptr L15.bN 0), (eN 0)] ++ (us 79))) ?_
 refine wI (d_assign rfl) ?_
 refine wF ([u1, (eI k_), u2, undef, undef, undef, (Value.bool false), (ptr L15.bN 0), (eN 0)] ++ (us 6 ++ [(Value.bool true), (Value.bool false), u2, (eN lm.length), (Value.bool false), (Value.tuple #[(ptr L15.bN 0), (eN 0)]), (Value.agg #[(eN 8), (eN 8), (eN 4)]), (Value.tuple #[(ptr L15.bN 0), (eN 0)]), (ptr L15.bN 0), (eN 0)] ++ (us 79))) ?_
 refine wpL.done (then_n (wpIn_seq (wpIn_seq (plain ?_))))
 refine wI (d_move rfl) ?_
 refine wI (n_neq (a := 0) (b := 0) rfl rfl (by rw [decide_eq_true rfl] <;> rfl)) ?_
 refine wF ([u1, (eI k_), u2, undef, undef, undef, (Value.bool false), (ptr L15.bN 0), (eN 0)] ++ (us 6 ++ [(Value.bool true), (Value.bool false), u2, (eN lm.length), (Value.bool false), (Value.tuple #[(ptr L15.bN 0), (eN 0)]), (Value.agg #[(eN 8), (eN 8), (eN 4)]), (Value.tuple #[(ptr L15.bN 0), (eN 0)]), (ptr L15.bN 0), (eN 0), (eN 0), (Value.bool false)] ++ (us 77))) ?_
 refine wpL.done (then_n ?_)
 refine cond_f rfl ?_
 refine wpIn_skip (then_n (wpIn_seq (plain ?_)))
 refine wO (d_buildL (cs := [(eN 1), (eN 1), (eN 1), (eN 1), (eN 1), (eN 1), (eN 1), (eN 1)]) Try.underlying23 s_ti3 rfl (nb rfl) (parts_cons (vs := [(eN 1)]) (cells_of (v := (eN 1)) rfl rfl) (parts_cons (vs := [(eN 1)]) (cells_of (v := (eN 1)) rfl rfl) (parts_cons (vs := [(eN 1)]) (cells_of (v := (eN 1)) rfl rfl) (parts_cons (vs := [(eN 1)]) (cells_of (v := (eN 1)) rfl rfl) (parts_cons (vs := [(eN 1)]) (cells_of (v := (eN 1)) rfl rfl) (parts_cons (vs := [(eN 1)]) (cells_of (v := (eN 1)) rfl rfl) (parts_cons (vs := [(eN 1)]) (cells_of (v := (eN 1)) rfl rfl) (parts_cons (vs := [(eN 1)]) (cells_of (v := (eN 1)) rfl rfl) parts_nil)))))))) rfl) ?_
 rintro _ w18 ⟨sb, rfl, g19, a20, o21⟩
 replace a20 : Arr 3 sb (([1, 1, 1, 1, 1, 1, 1, 1] : List Int).map eI) w18 := a20
 have l_sb : ([1, 1, 1, 1, 1, 1, 1, 1] : List Int).length = 8 := rfl
 have g_oW_sb : W.heap.size ≤ sb := Nat.le_trans oW.size g19
 replace h1 := h1.new o21 g19
 replace h2 := h2.new o21 g19
 replace a16 := a16.new o21 g19
 replace oW := oW.tail0 o21
 refine wI (d_assign rfl) ?_
 refine wF ([u1, (eI k_), u2, undef, undef, undef, (Value.bool false), (ptr L15.bN 0), (eN 0), (sli sb 0 8 8)] ++ (us 5 ++ [(Value.bool true), (Value.bool false), u2, (eN lm.length), (Value.bool false), (Value.tuple #[(ptr L15.bN 0), (eN 0)]), (Value.agg #[(eN 8), (eN 8), (eN 4)]), (Value.tuple #[(ptr L15.bN 0), (eN 0)]), (ptr L15.bN 0), (eN 0), (eN 0), (Value.bool false), (sli sb 0 8 8)] ++ (us 76))) ?_
 refine wpL.done (then_n (wpIn_seq (plain ?_)))
 refine wI (d_move rfl) ?_
 refine wO (d_call (xl := [.tmp 28, .const (.int .i64 8)]) (al := [(eI k_), (eN 8)]) Try.func29 kr rfl rfl rfl (law12Within_ok k_ 8 _ oo oo)) ?_
 rintro _ w22 ⟨rfl, o23⟩
 replace h1 := h1.step0 o23
 replace h2 := h2.step0 o23
 replace a16 := a16.step0 o23
 replace a20 := a20.step0 o23
 replace oW := oW.tail0 o23
 refine wI (n_add (a := 1) (b := ((k_ % ((8 : Nat) : Int)).toNat)) rfl rfl oo) ?_
 refine wF ([u1, (eI k_), u2, undef, undef, undef, (Value.bool false), (ptr L15.bN 0), (eN 0), (sli sb 0 8 8)] ++ (us 5 ++ [(Value.bool true), (Value.bool false), u2, (eN lm.length), (Value.bool false), (Value.tuple #[(ptr L15.bN 0), (eN 0)]), (Value.agg #[(eN 8), (eN 8), (eN 4)]), (Value.tuple #[(ptr L15.bN 0), (eN 0)]), (ptr L15.bN 0), (eN 0), (eN 0), (Value.bool false), (sli sb 0 8 8), (eI k_), (eN ((k_ % ((8 : Nat) : Int)).toNat)), (eN (1 + ((k_ % ((8 : Nat) : Int)).toNat)))] ++ (us 73))) ?_
 refine wI (d_assign rfl) ?_
 refine wF ([u1, (eN (1 + ((k_ % ((8 : Nat) : Int)).toNat))), u2, undef, undef, undef, (Value.bool false), (ptr L15.bN 0), (eN 0), (sli sb 0 8 8)] ++ (us 5 ++ [(Value.bool true), (Value.bool false), u2, (eN lm.length), (Value.bool false), (Value.tuple #[(ptr L15.bN 0), (eN 0)]), (Value.agg #[(eN 8), (eN 8), (eN 4)]), (Value.tuple #[(ptr L15.bN 0), (eN 0)]), (ptr L15.bN 0), (eN 0), (eN 0), (Value.bool false), (sli sb 0 8 8), (eI k_), (eN ((k_ % ((8 : Nat) : Int)).toNat)), (eN (1 + ((k_ % ((8 : Nat) : Int)).toNat)))] ++ (us 73))) ?_
 refine wpL.done (then_n (wpIn_seq ?_))
 obtain ⟨kk, hkk, ekk⟩ : ∃ kk, (1 ≤ kk ∧ kk ≤ 8) ∧ 1 + ((k_ % ((8 : Nat) : Int)).toNat) = kk := ⟨_, by omega, rfl⟩
 refine wp_eq (l' := ([u1, (eN kk), u2, undef, undef, undef, (Value.bool false), (ptr L15.bN 0), (eN 0), (sli sb 0 8 8)] ++ (us 5 ++ [(Value.bool true), (Value.bool false), u2, (eN lm.length), (Value.bool false), (Value.tuple #[(ptr L15.bN 0), (eN 0)]), (Value.agg #[(eN 8), (eN 8), (eN 4)]), (Value.tuple #[(ptr L15.bN 0), (eN 0)]), (ptr L15.bN 0), (eN 0), (eN 0), (Value.bool false), (sli sb 0 8 8), (eI k_), (eN ((k_ % ((8 : Nat) : Int)).toNat)), (eN (1 + ((k_ % ((8 : Nat) : Int)).toNat)))] ++ (us 73)))) (show (([u1, (eN (1 + ((k_ % ((8 : Nat) : Int)).toNat))), u2, undef, undef, undef, (Value.bool false), (ptr L15.bN 0), (eN 0), (sli sb 0 8 8)] ++ (us 5 ++ [(Value.bool true), (Value.bool false), u2, (eN lm.length), (Value.bool false), (Value.tuple #[(ptr L15.bN 0), (eN 0)]), (Value.agg #[(eN 8), (eN 8), (eN 4)]), (Value.tuple #[(ptr L15.bN 0), (eN 0)]), (ptr L15.bN 0), (eN 0), (eN 0), (Value.bool false), (sli sb 0 8 8), (eI k_), (eN ((k_ % ((8 : Nat) : Int)).toNat)), (eN (1 + ((k_ % ((8 : Nat) : Int)).toNat)))] ++ (us 73))) : List Value) = ([u1, (eN kk), u2, undef, undef, undef, (Value.bool false), (ptr L15.bN 0), (eN 0), (sli sb 0 8 8)] ++ (us 5 ++ [(Value.bool true), (Value.bool false), u2, (eN lm.length), (Value.bool false), (Value.tuple #[(ptr L15.bN 0), (eN 0)]), (Value.agg #[(eN 8), (eN 8), (eN 4)]), (Value.tuple #[(ptr L15.bN 0), (eN 0)]), (ptr L15.bN 0), (eN 0), (eN 0), (Value.bool false), (sli sb 0 8 8), (eI k_), (eN ((k_ % ((8 : Nat) : Int)).toNat)), (eN (1 + ((k_ % ((8 : Nat) : Int)).toNat)))] ++ (us 73))) from reslot ([u1, (eN (1 + ((k_ % ((8 : Nat) : Int)).toNat))), u2, undef, undef, undef, (Value.bool false), (ptr L15.bN 0), (eN 0), (sli sb 0 8 8)] ++ (us 5 ++ [(Value.bool true), (Value.bool false), u2, (eN lm.length), (Value.bool false), (Value.tuple #[(ptr L15.bN 0), (eN 0)]), (Value.agg #[(eN 8), (eN 8), (eN 4)]), (Value.tuple #[(ptr L15.bN 0), (eN 0)]), (ptr L15.bN 0), (eN 0), (eN 0), (Value.bool false), (sli sb 0 8 8), (eI k_), (eN ((k_ % ((8 : Nat) : Int)).toNat)), (eN (1 + ((k_ % ((8 : Nat) : Int)).toNat)))] ++ (us 73))) 1 (congrArg eN ekk)) ?_
 refine plain ?_
 refine wI (d_move rfl) ?_
 refine wI (d_move rfl) ?_
 refine wI (d_move rfl) ?_
 refine wF ([u1, (eN kk), u2, undef, undef, undef, (Value.bool false), (ptr L15.bN 0), (eN 0), (sli sb 0 8 8)] ++ (us 5 ++ [(Value.bool true), (Value.bool false), u2, (eN lm.length), (Value.bool false), (Value.tuple #[(ptr L15.bN 0), (eN 0)]), (Value.agg #[(eN 8), (eN 8), (eN 4)]), (Value.tuple #[(ptr L15.bN 0), (eN 0)]), (ptr L15.bN 0), (eN 0), (eN 0), (Value.bool false), (sli sb 0 8 8), (eI k_), (eN ((k_ % ((8 : Nat) : Int)).toNat)), (eN (1 + ((k_ % ((8 : Nat) : Int)).toNat))), (ptr L15.bN 0), (eN kk), u2] ++ (us 70))) ?_
 refine wO (d_call (xl := [.tmp 31, .tmp 32, .tmp 33]) (al := [(ptr L15.bN 0), (eN kk), u2]) Try.func30 kr rfl rfl rfl (stop_ok L15 (NS.new 8 8 4 (fun _ _ => false)) _ a16 kk lm u2 (lt_or1 a20.lt lt_no) (h2.less (os_of (sub2 sub1))) fo oo)) ?_
 rintro u27 w24 ⟨a26, o25⟩
 replace a20 := a20.step o25 (a16.dis _ in1)
 replace h1 := h1.step o25 (sub2 sub1)
 replace h2 := h2.step o25 (sub2 sub1)
 replace oW := oW.tail o25 (fun k hk e => by have := g_oW_L15 k e; omega)
 replace a16 := a26
 refine wF ([u1, (eN kk), u2, undef, undef, undef, (Value.bool false), (ptr L15.bN 0), (eN 0), (sli sb 0 8 8)] ++ (us 5 ++ [(Value.bool true), (Value.bool false), u2, (eN lm.length), (Value.bool false), (Value.tuple #[(ptr L15.bN 0), (eN 0)]), (Value.agg #[(eN 8), (eN 8), (eN 4)]), (Value.tuple #[(ptr L15.bN 0), (eN 0)]), (ptr L15.bN 0), (eN 0), (eN 0), (Value.bool false), (sli sb 0 8 8), (eI k_), (eN ((k_ % ((8 : Nat) : Int)).toNat)), (eN (1 + ((k_ % ((8 : Nat) : Int)).toNat))), (ptr L15.bN 0), (eN kk), u2, u27] ++ (us 69))) ?_
 refine wpL.done (then_n (wpIn_seq (plain ?_)))
 refine wI (d_move rfl) ?_
 refine wO (d_call (xl := [.tmp 35, .const (.int .i64 8)]) (al := [u1, (eN 8)]) Try.func31 kr rfl rfl rfl (payloads_ok lb 8 u1 _ (Ps.no h1) oo)) ?_
 rintro u30 w28 ⟨vs31, l32, f33, f34, o29⟩
 replace f33 := f33.less (Y := (Or1 sb (Ors L15.S (Old W.heap.size)))) (or1_old a20.lt (ors_old a16.lt (old_old oW.size)))
 replace f34 := f34.less (Y := (Or1 sb (Ors L15.S (Old W.heap.size)))) (or1_old a20.lt (ors_old a16.lt (old_old oW.size)))
 replace h1 := h1.step0 o29
 replace h2 := h2.step0 o29
 replace a16 := a16.step0 o29
 replace a20 := a20.step0 o29
 replace oW := oW.tail0 o29
 refine wI (d_assign rfl) ?_
 refine wF ([u1, (eN kk), u2, undef, undef, undef, (Value.bool false), (ptr L15.bN 0), (eN 0), (sli sb 0 8 8), u30, undef, undef, undef, undef, (Value.bool true), (Value.bool false), u2, (eN lm.length), (Value.bool false), (Value.tuple #[(ptr L15.bN 0), (eN 0)]), (Value.agg #[(eN 8), (eN 8), (eN 4)]), (Value.tuple #[(ptr L15.bN 0), (eN 0)]), (ptr L15.bN 0), (eN 0), (eN 0), (Value.bool false), (sli sb 0 8 8), (eI k_), (eN ((k_ % ((8 : Nat) : Int)).toNat)), (eN (1 + ((k_ % ((8 : Nat) : Int)).toNat))), (ptr L15.bN 0), (eN kk), u2, u27, u1, u30] ++ (us 67)) ?_
 refine wpL.done (then_n (wpIn_seq (plain ?_)))
 refine wI (d_move rfl) ?_
 refine wI (d_move rfl) ?_
 refine wI (d_move rfl) ?_
 refine wF ([u1, (eN kk), u2, undef, undef, undef, (Value.bool false), (ptr L15.bN 0), (eN 0), (sli sb 0 8 8), u30, undef, undef, undef, undef, (Value.bool true), (Value.bool false), u2, (eN lm.length), (Value.bool false), (Value.tuple #[(ptr L15.bN 0), (eN 0)]), (Value.agg #[(eN 8), (eN 8), (eN 4)]), (Value.tuple #[(ptr L15.bN 0), (eN 0)]), (ptr L15.bN 0), (eN 0), (eN 0), (Value.bool false), (sli sb 0 8 8), (eI k_), (eN ((k_ % ((8 : Nat) : Int)).toNat)), (eN (1 + ((k_ % ((8 : Nat) : Int)).toNat))), (ptr L15.bN 0), (eN kk), u2, u27, u1, u30, (ptr L15.bN 0), (sli sb 0 8 8), u30] ++ (us 64)) ?_
 refine wO (d_call (xl := [.tmp 37, .tmp 38, .const (.int .i64 0), .tmp 39]) (al := [(ptr L15.bN 0), (sli sb 0 8 8), (eN 0), u30]) Try.func32 kr rfl rfl rfl (rowWrite_ok L15 ((NS.new 8 8 4 (fun _ _ => false)).stopAt kk lm) _ a16 (lt_or1 a20.lt lt_no) ([1, 1, 1, 1, 1, 1, 1, 1] : List Int) (sli sb 0 8 8) (arr_keep a20 l_sb (Nat.le_refl _) (nx_ors (a16.dis _ in1) (fun _ _ t => t.elim))) fo 8 0 vs31 (plD lb 8) u30 (f33.less (os_of (sub2 sub1))) (f34.less (os_of (sub2 sub1))) l32 (plD_le lb 8))) ?_
 rintro _ w35 ⟨rfl, a37, o36⟩
 replace a20 := a20.step o36 (a16.dis _ in1)
 replace h1 := h1.step o36 (sub2 sub1)
 replace h2 := h2.step o36 (sub2 sub1)
 replace f33 := f33.step o36 (sub2 sub1)
 replace f34 := f34.step o36 (sub2 sub1)
 replace oW := oW.tail o36 (fun k hk e => by have := g_oW_L15 k e; omega)
 replace a16 := a37
 refine wI (d_assign rfl) ?_
 refine wF ([u1, (eN kk), u2, undef, undef, undef, (Value.bool false), (ptr L15.bN 0), (eN 0), (sli sb 0 8 8), u30, (eN (rowWC ((NS.new 8 8 4 (fun _ _ => false)).stopAt kk lm) ([1, 1, 1, 1, 1, 1, 1, 1] : List Int) 0 (plD lb 8) 8)), undef, undef, undef, (Value.bool true), (Value.bool false), u2, (eN lm.length), (Value.bool false), (Value.tuple #[(ptr L15.bN 0), (eN 0)]), (Value.agg #[(eN 8), (eN 8), (eN 4)]), (Value.tuple #[(ptr L15.bN 0), (eN 0)]), (ptr L15.bN 0), (eN 0), (eN 0), (Value.bool false), (sli sb 0 8 8), (eI k_), (eN ((k_ % ((8 : Nat) : Int)).toNat)), (eN (1 + ((k_ % ((8 : Nat) : Int)).toNat))), (ptr L15.bN 0), (eN kk), u2, u27, u1, u30, (ptr L15.bN 0), (sli sb 0 8 8), u30, (eN (rowWC ((NS.new 8 8 4 (fun _ _ => false)).stopAt kk lm) ([1, 1, 1, 1, 1, 1, 1, 1] : List Int) 0 (plD lb 8) 8))] ++ (us 63)) ?_
 refine wpL.done ?_
 have hsz : ∀ d, d < 8 → (plD lb 8 d).length = 48 := fun d hd => plD_len lb hd
 obtain ⟨hwc, o1_, nx1_, rv_1⟩ := write_torn ((rv_new (g := fun _ _ => false) rfl (D := 8) (B := 8) (Q := 4) (c := fun _ => 1) (fun _ _ => by decide)).stopAt kk lm) hkk hsz
 replace hwc : rowWC ((NS.new 8 8 4 (fun _ _ => false)).stopAt kk lm) ([1, 1, 1, 1, 1, 1, 1, 1] : List Int) 0 (plD lb 8) 8 = 8 := hwc
 obtain ⟨s1, e_s1⟩ : ∃ x_, rowWS ((NS.new 8 8 4 (fun _ _ => false)).stopAt kk lm) ([1, 1, 1, 1, 1, 1, 1, 1] : List Int) 0 (plD lb 8) 8 = x_ := ⟨_, rfl⟩
 replace a16 := nd_to a16 e_s1
 replace rv_1 := rv_to rv_1 e_s1
 refine then_n (wpIn_seq (plain ?_))
 refine wI (d_move rfl) ?_
 refine wO (d_call (xl := [.tmp 41]) (al := [(ptr L15.bN 0)]) Try.func33 kr rfl rfl rfl (power_ok L15 s1 _ a16)) ?_
 rintro u41 w38 ⟨a40, o39⟩
 replace a20 := a20.step o39 (a16.dis _ in1)
 replace h1 := h1.step o39 (sub2 sub1)
 replace h2 := h2.step o39 (sub2 sub1)
 replace f33 := f33.step o39 (sub2 sub1)
 replace f34 := f34.step o39 (sub2 sub1)
 replace oW := oW.tail o39 (fun k hk e => by have := g_oW_L15 k e; omega)
 replace a16 := a40
 refine wF ([u1, (eN kk), u2, undef, undef, undef, (Value.bool false), (ptr L15.bN 0), (eN 0), (sli sb 0 8 8), u30, (eN (rowWC ((NS.new 8 8 4 (fun _ _ => false)).stopAt kk lm) ([1, 1, 1, 1, 1, 1, 1, 1] : List Int) 0 (plD lb 8) 8)), undef, undef, undef, (Value.bool true), (Value.bool false), u2, (eN lm.length), (Value.bool false), (Value.tuple #[(ptr L15.bN 0), (eN 0)]), (Value.agg #[(eN 8), (eN 8), (eN 4)]), (Value.tuple #[(ptr L15.bN 0), (eN 0)]), (ptr L15.bN 0), (eN 0), (eN 0), (Value.bool false), (sli sb 0 8 8), (eI k_), (eN ((k_ % ((8 : Nat) : Int)).toNat)), (eN (1 + ((k_ % ((8 : Nat) : Int)).toNat))), (ptr L15.bN 0), (eN kk), u2, u27, u1, u30, (ptr L15.bN 0), (sli sb 0 8 8), u30, (eN (rowWC ((NS.new 8 8 4 (fun _ _ => false)).stopAt kk lm) ([1, 1, 1, 1, 1, 1, 1, 1] : List Int) 0 (plD lb 8) 8)), (ptr L15.bN 0), u41] ++ (us 61)) ?_
 refine wpL.done ?_
 have rv_2 := rv_1.power
 obtain ⟨s2, e_s2⟩ : ∃ x_, s1.power = x_ := ⟨_, rfl⟩
 replace a16 := nd_to a16 e_s2
 replace rv_2 := rv_to rv_2 e_s2
 have htr := torn_reads rv_2 hsz
 refine then_n (wpIn_seq (plain ?_))
 refine wI (d_move rfl) ?_
 refine wI (d_move rfl) ?_
 refine wO (d_call (xl := [.tmp 44, .tmp 45, .const (.int .i64 0)]) (al := [(ptr L15.bN 0), (sli sb 0 8 8), (eN 0)]) Try.func34 kr rfl rfl rfl (rowRead_ok L15 s2 _ a16 (lt_or1 a20.lt lt_no) ([1, 1, 1, 1, 1, 1, 1, 1] : List Int) (sli sb 0 8 8) (arr_keep a20 l_sb (Nat.le_refl _) (nx_ors (a16.dis _ in1) (fun _ _ t => t.elim))) fo 0)) ?_
 rintro _ w42 ⟨v44, vs45, rfl, h46, h47, a48, o49⟩
 obtain ⟨l50, f51, f52⟩ := h46 (show rowDoC s2.gD ([1, 1, 1, 1, 1, 1, 1, 1] : List Int).length (rowRC ([1, 1, 1, 1, 1, 1, 1, 1] : List Int) 0 s2) = 0 from htr.1)
 replace f51 := f51.less (Y := (Or1 sb (Ors L15.S (Old W.heap.size)))) (or1_old a20.lt (ors_old a16.lt (old_old oW.size)))
 replace f52 := f52.less (Y := (Or1 sb (Ors L15.S (Old W.heap.size)))) (or1_old a20.lt (ors_old a16.lt (old_old oW.size)))
 replace a20 := a20.step o49 (a16.dis _ in1)
 replace h1 := h1.step o49 (sub2 sub1)
 replace h2 := h2.step o49 (sub2 sub1)
 replace f33 := f33.step o49 (sub2 sub1)
 replace f34 := f34.step o49 (sub2 sub1)
 replace oW := oW.tail o49 (fun k hk e => by have := g_oW_L15 k e; omega)
 replace a16 := a48
 refine wF ([u1, (eN kk), u2, undef, undef, undef, (Value.bool false), (ptr L15.bN 0), (eN 0), (sli sb 0 8 8), u30, (eN (rowWC ((NS.new 8 8 4 (fun _ _ => false)).stopAt kk lm) ([1, 1, 1, 1, 1, 1, 1, 1] : List Int) 0 (plD lb 8) 8)), undef, undef, undef, (Value.bool true), (Value.bool false), u2, (eN lm.length), (Value.bool false), (Value.tuple #[(ptr L15.bN 0), (eN 0)]), (Value.agg #[(eN 8), (eN 8), (eN 4)]), (Value.tuple #[(ptr L15.bN 0), (eN 0)]), (ptr L15.bN 0), (eN 0), (eN 0), (Value.bool false), (sli sb 0 8 8), (eI k_), (eN ((k_ % ((8 : Nat) : Int)).toNat)), (eN (1 + ((k_ % ((8 : Nat) : Int)).toNat))), (ptr L15.bN 0), (eN kk), u2, u27, u1, u30, (ptr L15.bN 0), (sli sb 0 8 8), u30, (eN (rowWC ((NS.new 8 8 4 (fun _ _ => false)).stopAt kk lm) ([1, 1, 1, 1, 1, 1, 1, 1] : List Int) 0 (plD lb 8) 8)), (ptr L15.bN 0), u41, undef, (ptr L15.bN 0), (sli sb 0 8 8), (Value.tuple #[v44, (eN (rowDoC s2.gD ([1, 1, 1, 1, 1, 1, 1, 1] : List Int).length (rowRC ([1, 1, 1, 1, 1, 1, 1, 1] : List Int) 0 s2)))])] ++ (us 57)) ?_
 refine wI (d_move rfl) ?_
 refine wI (d_extract (v := v44) rfl rfl) ?_
 refine wI (d_extract (v := (eN (rowDoC s2.gD ([1, 1, 1, 1, 1, 1, 1, 1] : List Int).length (rowRC ([1, 1, 1, 1, 1, 1, 1, 1] : List Int) 0 s2)))) rfl rfl) ?_
 refine wF ([u1, (eN kk), u2, undef, undef, undef, (Value.bool false), (ptr L15.bN 0), (eN 0), (sli sb 0 8 8), u30, (eN (rowWC ((NS.new 8 8 4 (fun _ _ => false)).stopAt kk lm) ([1, 1, 1, 1, 1, 1, 1, 1] : List Int) 0 (plD lb 8) 8)), undef, undef, undef, (Value.bool true), (Value.bool false), u2, (eN lm.length), (Value.bool false), (Value.tuple #[(ptr L15.bN 0), (eN 0)]), (Value.agg #[(eN 8), (eN 8), (eN 4)]), (Value.tuple #[(ptr L15.bN 0), (eN 0)]), (ptr L15.bN 0), (eN 0), (eN 0), (Value.bool false), (sli sb 0 8 8), (eI k_), (eN ((k_ % ((8 : Nat) : Int)).toNat)), (eN (1 + ((k_ % ((8 : Nat) : Int)).toNat))), (ptr L15.bN 0), (eN kk), u2, u27, u1, u30, (ptr L15.bN 0), (sli sb 0 8 8), u30, (eN (rowWC ((NS.new 8 8 4 (fun _ _ => false)).stopAt kk lm) ([1, 1, 1, 1, 1, 1, 1, 1] : List Int) 0 (plD lb 8) 8)), (ptr L15.bN 0), u41, (Value.tuple #[v44, (eN (rowDoC s2.gD ([1, 1, 1, 1, 1, 1, 1, 1] : List Int).length (rowRC ([1, 1, 1, 1, 1, 1, 1, 1] : List Int) 0 s2)))]), (ptr L15.bN 0), (sli sb 0 8 8), (Value.tuple #[v44, (eN (rowDoC s2.gD ([1, 1, 1, 1, 1, 1, 1, 1] : List Int).length (rowRC ([1, 1, 1, 1, 1, 1, 1, 1] : List Int) 0 s2)))]), v44, (eN (rowDoC s2.gD ([1, 1, 1, 1, 1, 1, 1, 1] : List Int).length (rowRC ([1, 1, 1, 1, 1, 1, 1, 1] : List Int) 0 s2)))] ++ (us 55)) ?_
 refine wI (d_assign rfl) ?_
 refine wI (d_assign rfl) ?_
 refine wF ([u1, (eN kk), u2, undef, undef, undef, (Value.bool false), (ptr L15.bN 0), (eN 0), (sli sb 0 8 8), u30, (eN (rowWC ((NS.new 8 8 4 (fun _ _ => false)).stopAt kk lm) ([1, 1, 1, 1, 1, 1, 1, 1] : List Int) 0 (plD lb 8) 8)), v44, (eN (rowDoC s2.gD ([1, 1, 1, 1, 1, 1, 1, 1] : List Int).length (rowRC ([1, 1, 1, 1, 1, 1, 1, 1] : List Int) 0 s2))), undef, (Value.bool true), (Value.bool false), u2, (eN lm.length), (Value.bool false), (Value.tuple #[(ptr L15.bN 0), (eN 0)]), (Value.agg #[(eN 8), (eN 8), (eN 4)]), (Value.tuple #[(ptr L15.bN 0), (eN 0)]), (ptr L15.bN 0), (eN 0), (eN 0), (Value.bool false), (sli sb 0 8 8), (eI k_), (eN ((k_ % ((8 : Nat) : Int)).toNat)), (eN (1 + ((k_ % ((8 : Nat) : Int)).toNat))), (ptr L15.bN 0), (eN kk), u2, u27, u1, u30, (ptr L15.bN 0), (sli sb 0 8 8), u30, (eN (rowWC ((NS.new 8 8 4 (fun _ _ => false)).stopAt kk lm) ([1, 1, 1, 1, 1, 1, 1, 1] : List Int) 0 (plD lb 8) 8)), (ptr L15.bN 0), u41, (Value.tuple #[v44, (eN (rowDoC s2.gD ([1, 1, 1, 1, 1, 1, 1, 1] : List Int).length (rowRC ([1, 1, 1, 1, 1, 1, 1, 1] : List Int) 0 s2)))]), (ptr L15.bN 0), (sli sb 0 8 8), (Value.tuple #[v44, (eN (rowDoC s2.gD ([1, 1, 1, 1, 1, 1, 1, 1] : List Int).length (rowRC ([1, 1, 1, 1, 1, 1, 1, 1] : List Int) 0 s2)))]), v44, (eN (rowDoC s2.gD ([1, 1, 1, 1, 1, 1, 1, 1] : List Int).length (rowRC ([1, 1, 1, 1, 1, 1, 1, 1] : List Int) 0 s2)))] ++ (us 55)) ?_
 refine wpL.done (then_n (wpIn_seq (wpIn_seq (plain ?_))))
 refine wI (d_move rfl) ?_
 refine wI (n_neq (a := (rowWC ((NS.new 8 8 4 (fun _ _ => false)).stopAt kk lm) ([1, 1, 1, 1, 1, 1, 1, 1] : List Int) 0 (plD lb 8) 8)) (b := 8) rfl rfl (by rw [decide_eq_true hwc] <;> rfl)) ?_
 refine wI (d_move rfl) ?_
 refine wF ([u1, (eN kk), u2, undef, undef, undef, (Value.bool false), (ptr L15.bN 0), (eN 0), (sli sb 0 8 8), u30, (eN (rowWC ((NS.new 8 8 4 (fun _ _ => false)).stopAt kk lm) ([1, 1, 1, 1, 1, 1, 1, 1] : List Int) 0 (plD lb 8) 8)), v44, (eN (rowDoC s2.gD ([1, 1, 1, 1, 1, 1, 1, 1] : List Int).length (rowRC ([1, 1, 1, 1, 1, 1, 1, 1] : List Int) 0 s2))), undef, (Value.bool true), (Value.bool false), u2, (eN lm.length), (Value.bool false), (Value.tuple #[(ptr L15.bN 0), (eN 0)]), (Value.agg #[(eN 8), (eN 8), (eN 4)]), (Value.tuple #[(ptr L15.bN 0), (eN 0)]), (ptr L15.bN 0), (eN 0), (eN 0), (Value.bool false), (sli sb 0 8 8), (eI k_), (eN ((k_ % ((8 : Nat) : Int)).toNat)), (eN (1 + ((k_ % ((8 : Nat) : Int)).toNat))), (ptr L15.bN 0), (eN kk), u2, u27, u1, u30, (ptr L15.bN 0), (sli sb 0 8 8), u30, (eN (rowWC ((NS.new 8 8 4 (fun _ _ => false)).stopAt kk lm) ([1, 1, 1, 1, 1, 1, 1, 1] : List Int) 0 (plD lb 8) 8)), (ptr L15.bN 0), u41, (Value.tuple #[v44, (eN (rowDoC s2.gD ([1, 1, 1, 1, 1, 1, 1, 1] : List Int).length (rowRC ([1, 1, 1, 1, 1, 1, 1, 1] : List Int) 0 s2)))]), (ptr L15.bN 0), (sli sb 0 8 8), (Value.tuple #[v44, (eN (rowDoC s2.gD ([1, 1, 1, 1, 1, 1, 1, 1] : List Int).length (rowRC ([1, 1, 1, 1, 1, 1, 1, 1] : List Int) 0 s2)))]), v44, (eN (rowDoC s2.gD ([1, 1, 1, 1, 1, 1, 1, 1] : List Int).length (rowRC ([1, 1, 1, 1, 1, 1, 1, 1] : List Int) 0 s2))), (eN (rowWC ((NS.new 8 8 4 (fun _ _ => false)).stopAt kk lm) ([1, 1, 1, 1, 1, 1, 1, 1] : List Int) 0 (plD lb 8) 8)), (Value.bool false), (Value.bool false)] ++ (us 52)) ?_
 refine wpL.onis rfl rfl rfl (nb rfl) rfl (d_move rfl) ?_
 refine wpL.onis rfl rfl rfl (nb rfl) rfl (n_neq (a := (rowDoC s2.gD ([1, 1, 1, 1, 1, 1, 1, 1] : List Int).length (rowRC ([1, 1, 1, 1, 1, 1, 1, 1] : List Int) 0 s2))) (b := 0) rfl rfl (by rw [decide_eq_true (show rowDoC s2.gD ([1, 1, 1, 1, 1, 1, 1, 1] : List Int).length (rowRC ([1, 1, 1, 1, 1, 1, 1, 1] : List Int) 0 s2) = 0 from htr.1)] <;> rfl)) ?_
 refine wI (d_pick (b := false) (v := (Value.bool false)) rfl rfl) ?_
 refine wF ([u1, (eN kk), u2, undef, undef, undef, (Value.bool false), (ptr L15.bN 0), (eN 0), (sli sb 0 8 8), u30, (eN (rowWC ((NS.new 8 8 4 (fun _ _ => false)).stopAt kk lm) ([1, 1, 1, 1, 1, 1, 1, 1] : List Int) 0 (plD lb 8) 8)), v44, (eN (rowDoC s2.gD ([1, 1, 1, 1, 1, 1, 1, 1] : List Int).length (rowRC ([1, 1, 1, 1, 1, 1, 1, 1] : List Int) 0 s2))), undef, (Value.bool true), (Value.bool false), u2, (eN lm.length), (Value.bool false), (Value.tuple #[(ptr L15.bN 0), (eN 0)]), (Value.agg #[(eN 8), (eN 8), (eN 4)]), (Value.tuple #[(ptr L15.bN 0), (eN 0)]), (ptr L15.bN 0), (eN 0), (eN 0), (Value.bool false), (sli sb 0 8 8), (eI k_), (eN ((k_ % ((8 : Nat) : Int)).toNat)), (eN (1 + ((k_ % ((8 : Nat) : Int)).toNat))), (ptr L15.bN 0), (eN kk), u2, u27, u1, u30, (ptr L15.bN 0), (sli sb 0 8 8), u30, (eN (rowWC ((NS.new 8 8 4 (fun _ _ => false)).stopAt kk lm) ([1, 1, 1, 1, 1, 1, 1, 1] : List Int) 0 (plD lb 8) 8)), (ptr L15.bN 0), u41, (Value.tuple #[v44, (eN (rowDoC s2.gD ([1, 1, 1, 1, 1, 1, 1, 1] : List Int).length (rowRC ([1, 1, 1, 1, 1, 1, 1, 1] : List Int) 0 s2)))]), (ptr L15.bN 0), (sli sb 0 8 8), (Value.tuple #[v44, (eN (rowDoC s2.gD ([1, 1, 1, 1, 1, 1, 1, 1] : List Int).length (rowRC ([1, 1, 1, 1, 1, 1, 1, 1] : List Int) 0 s2)))]), v44, (eN (rowDoC s2.gD ([1, 1, 1, 1, 1, 1, 1, 1] : List Int).length (rowRC ([1, 1, 1, 1, 1, 1, 1, 1] : List Int) 0 s2))), (eN (rowWC ((NS.new 8 8 4 (fun _ _ => false)).stopAt kk lm) ([1, 1, 1, 1, 1, 1, 1, 1] : List Int) 0 (plD lb 8) 8)), (Value.bool false), (Value.bool false), (eN (rowDoC s2.gD ([1, 1, 1, 1, 1, 1, 1, 1] : List Int).length (rowRC ([1, 1, 1, 1, 1, 1, 1, 1] : List Int) 0 s2))), (Value.bool false), (Value.bool false)] ++ (us 49)) ?_
 refine wI (d_move rfl) ?_
 refine wpL.onis rfl rfl rfl (nb rfl) rfl (d_move rfl) ?_
 refine wpL.onis rfl rfl rfl (nb rfl) rfl (d_lenS rfl Try.underlying53 rfl f51) ?_
 refine wF ([u1, (eN kk), u2, undef, undef, undef, (Value.bool false), (ptr L15.bN 0), (eN 0), (sli sb 0 8 8), u30, (eN (rowWC ((NS.new 8 8 4 (fun _ _ => false)).stopAt kk lm) ([1, 1, 1, 1, 1, 1, 1, 1] : List Int) 0 (plD lb 8) 8)), v44, (eN (rowDoC s2.gD ([1, 1, 1, 1, 1, 1, 1, 1] : List Int).length (rowRC ([1, 1, 1, 1, 1, 1, 1, 1] : List Int) 0 s2))), undef, (Value.bool true), (Value.bool false), u2, (eN lm.length), (Value.bool false), (Value.tuple #[(ptr L15.bN 0), (eN 0)]), (Value.agg #[(eN 8), (eN 8), (eN 4)]), (Value.tuple #[(ptr L15.bN 0), (eN 0)]), (ptr L15.bN 0), (eN 0), (eN 0), (Value.bool false), (sli sb 0 8 8), (eI k_), (eN ((k_ % ((8 : Nat) : Int)).toNat)), (eN (1 + ((k_ % ((8 : Nat) : Int)).toNat))), (ptr L15.bN 0), (eN kk), u2, u27, u1, u30, (ptr L15.bN 0), (sli sb 0 8 8), u30, (eN (rowWC ((NS.new 8 8 4 (fun _ _ => false)).stopAt kk lm) ([1, 1, 1, 1, 1, 1, 1, 1] : List Int) 0 (plD lb 8) 8)), (ptr L15.bN 0), u41, (Value.tuple #[v44, (eN (rowDoC s2.gD ([1, 1, 1, 1, 1, 1, 1, 1] : List Int).length (rowRC ([1, 1, 1, 1, 1, 1, 1, 1] : List Int) 0 s2)))]), (ptr L15.bN 0), (sli sb 0 8 8), (Value.tuple #[v44, (eN (rowDoC s2.gD ([1, 1, 1, 1, 1, 1, 1, 1] : List Int).length (rowRC ([1, 1, 1, 1, 1, 1, 1, 1] : List Int) 0 s2)))]), v44, (eN (rowDoC s2.gD ([1, 1, 1, 1, 1, 1, 1, 1] : List Int).length (rowRC ([1, 1, 1, 1, 1, 1, 1, 1] : List Int) 0 s2))), (eN (rowWC ((NS.new 8 8 4 (fun _ _ => false)).stopAt kk lm) ([1, 1, 1, 1, 1, 1, 1, 1] : List Int) 0 (plD lb 8) 8)), (Value.bool false), (Value.bool false), (eN (rowDoC s2.gD ([1, 1, 1, 1, 1, 1, 1, 1] : List Int).length (rowRC ([1, 1, 1, 1, 1, 1, 1, 1] : List Int) 0 s2))), (Value.bool false), (Value.bool false), (Value.bool false), v44, (eN ((pgRow (fun k_ => (pgD (rowRL ([1, 1, 1, 1, 1, 1, 1, 1] : List Int) 0 s2 k_)).1) vs45).length))] ++ (us 46)) ?_
 refine wpL.onis rfl rfl rfl (nb rfl) rfl (n_neq (a := ((pgRow (fun k_ => (pgD (rowRL ([1, 1, 1, 1, 1, 1, 1, 1] : List Int) 0 s2 k_)).1) vs45).length)) (b := 8) rfl rfl (by rw [decide_eq_true (by rw [pgRow_len, l50]; rfl)] <;> rfl)) ?_
 refine wI (d_pick (b := false) (v := (Value.bool false)) rfl rfl) ?_
 refine wF ([u1, (eN kk), u2, undef, undef, undef, (Value.bool false), (ptr L15.bN 0), (eN 0), (sli sb 0 8 8), u30, (eN (rowWC ((NS.new 8 8 4 (fun _ _ => false)).stopAt kk lm) ([1, 1, 1, 1, 1, 1, 1, 1] : List Int) 0 (plD lb 8) 8)), v44, (eN (rowDoC s2.gD ([1, 1, 1, 1, 1, 1, 1, 1] : List Int).length (rowRC ([1, 1, 1, 1, 1, 1, 1, 1] : List Int) 0 s2))), undef, (Value.bool true), (Value.bool false), u2, (eN lm.length), (Value.bool false), (Value.tuple #[(ptr L15.bN 0), (eN 0)]), (Value.agg #[(eN 8), (eN 8), (eN 4)]), (Value.tuple #[(ptr L15.bN 0), (eN 0)]), (ptr L15.bN 0), (eN 0), (eN 0), (Value.bool false), (sli sb 0 8 8), (eI k_), (eN ((k_ % ((8 : Nat) : Int)).toNat)), (eN (1 + ((k_ % ((8 : Nat) : Int)).toNat))), (ptr L15.bN 0), (eN kk), u2, u27, u1, u30, (ptr L15.bN 0), (sli sb 0 8 8), u30, (eN (rowWC ((NS.new 8 8 4 (fun _ _ => false)).stopAt kk lm) ([1, 1, 1, 1, 1, 1, 1, 1] : List Int) 0 (plD lb 8) 8)), (ptr L15.bN 0), u41, (Value.tuple #[v44, (eN (rowDoC s2.gD ([1, 1, 1, 1, 1, 1, 1, 1] : List Int).length (rowRC ([1, 1, 1, 1, 1, 1, 1, 1] : List Int) 0 s2)))]), (ptr L15.bN 0), (sli sb 0 8 8), (Value.tuple #[v44, (eN (rowDoC s2.gD ([1, 1, 1, 1, 1, 1, 1, 1] : List Int).length (rowRC ([1, 1, 1, 1, 1, 1, 1, 1] : List Int) 0 s2)))]), v44, (eN (rowDoC s2.gD ([1, 1, 1, 1, 1, 1, 1, 1] : List Int).length (rowRC ([1, 1, 1, 1, 1, 1, 1, 1] : List Int) 0 s2))), (eN (rowWC ((NS.new 8 8 4 (fun _ _ => false)).stopAt kk lm) ([1, 1, 1, 1, 1, 1, 1, 1] : List Int) 0 (plD lb 8) 8)), (Value.bool false), (Value.bool false), (eN (rowDoC s2.gD ([1, 1, 1, 1, 1, 1, 1, 1] : List Int).length (rowRC ([1, 1, 1, 1, 1, 1, 1, 1] : List Int) 0 s2))), (Value.bool false), (Value.bool false), (Value.bool false), v44, (eN ((pgRow (fun k_ => (pgD (rowRL ([1, 1, 1, 1, 1, 1, 1, 1] : List Int) 0 s2 k_)).1) vs45).length)), (Value.bool false), (Value.bool false)] ++ (us 44)) ?_
 refine wpL.done (then_n ?_)
 refine cond_f rfl ?_
 refine wpIn_skip (then_n (wpIn_seq (wpIn_seq (plain ?_))))
 refine wI (d_assign rfl) ?_
 refine wF ([u1, (eN kk), u2, undef, undef, undef, (Value.bool false), (ptr L15.bN 0), (eN 0), (sli sb 0 8 8), u30, (eN (rowWC ((NS.new 8 8 4 (fun _ _ => false)).stopAt kk lm) ([1, 1, 1, 1, 1, 1, 1, 1] : List Int) 0 (plD lb 8) 8)), v44, (eN (rowDoC s2.gD ([1, 1, 1, 1, 1, 1, 1, 1] : List Int).length (rowRC ([1, 1, 1, 1, 1, 1, 1, 1] : List Int) 0 s2))), (eN 0), (Value.bool true), (Value.bool false), u2, (eN lm.length), (Value.bool false), (Value.tuple #[(ptr L15.bN 0), (eN 0)]), (Value.agg #[(eN 8), (eN 8), (eN 4)]), (Value.tuple #[(ptr L15.bN 0), (eN 0)]), (ptr L15.bN 0), (eN 0), (eN 0), (Value.bool false), (sli sb 0 8 8), (eI k_), (eN ((k_ % ((8 : Nat) : Int)).toNat)), (eN (1 + ((k_ % ((8 : Nat) : Int)).toNat))), (ptr L15.bN 0), (eN kk), u2, u27, u1, u30, (ptr L15.bN 0), (sli sb 0 8 8), u30, (eN (rowWC ((NS.new 8 8 4 (fun _ _ => false)).stopAt kk lm) ([1, 1, 1, 1, 1, 1, 1, 1] : List Int) 0 (plD lb 8) 8)), (ptr L15.bN 0), u41, (Value.tuple #[v44, (eN (rowDoC s2.gD ([1, 1, 1, 1, 1, 1, 1, 1] : List Int).length (rowRC ([1, 1, 1, 1, 1, 1, 1, 1] : List Int) 0 s2)))]), (ptr L15.bN 0), (sli sb 0 8 8), (Value.tuple #[v44, (eN (rowDoC s2.gD ([1, 1, 1, 1, 1, 1, 1, 1] : List Int).length (rowRC ([1, 1, 1, 1, 1, 1, 1, 1] : List Int) 0 s2)))]), v44, (eN (rowDoC s2.gD ([1, 1, 1, 1, 1, 1, 1, 1] : List Int).length (rowRC ([1, 1, 1, 1, 1, 1, 1, 1] : List Int) 0 s2))), (eN (rowWC ((NS.new 8 8 4 (fun _ _ => false)).stopAt kk lm) ([1, 1, 1, 1, 1, 1, 1, 1] : List Int) 0 (plD lb 8) 8)), (Value.bool false), (Value.bool false), (eN (rowDoC s2.gD ([1, 1, 1, 1, 1, 1, 1, 1] : List Int).length (rowRC ([1, 1, 1, 1, 1, 1, 1, 1] : List Int) 0 s2))), (Value.bool false), (Value.bool false), (Value.bool false), v44, (eN ((pgRow (fun k_ => (pgD (rowRL ([1, 1, 1, 1, 1, 1, 1, 1] : List Int) 0 s2 k_)).1) vs45).length)), (Value.bool false), (Value.bool false)] ++ (us 44)) ?_
 refine wpL.done (then_n (wpIn_block ?_))
 refine loop2 (fun (d : (Nat)) => fun (z : Nat → Value) => (([u1, (eN kk), u2, undef, undef, undef, (z 6), (ptr L15.bN 0), (eN 0), (sli sb 0 8 8), u30, (eN (rowWC ((NS.new 8 8 4 (fun _ _ => false)).stopAt kk lm) ([1, 1, 1, 1, 1, 1, 1, 1] : List Int) 0 (plD lb 8) 8)), v44, (eN (rowDoC s2.gD ([1, 1, 1, 1, 1, 1, 1, 1] : List Int).length (rowRC ([1, 1, 1, 1, 1, 1, 1, 1] : List Int) 0 s2))), (eN d), (Value.bool true), (Value.bool false), u2, (eN lm.length), (Value.bool false), (Value.tuple #[(ptr L15.bN 0), (eN 0)]), (Value.agg #[(eN 8), (eN 8), (eN 4)]), (Value.tuple #[(ptr L15.bN 0), (eN 0)]), (ptr L15.bN 0), (eN 0), (eN 0), (Value.bool false), (sli sb 0 8 8), (eI k_), (eN ((k_ % ((8 : Nat) : Int)).toNat)), (eN (1 + ((k_ % ((8 : Nat) : Int)).toNat))), (ptr L15.bN 0), (eN kk), u2, u27, u1, u30, (ptr L15.bN 0), (sli sb 0 8 8), u30, (eN (rowWC ((NS.new 8 8 4 (fun _ _ => false)).stopAt kk lm) ([1, 1, 1, 1, 1, 1, 1, 1] : List Int) 0 (plD lb 8) 8)), (ptr L15.bN 0), u41, (Value.tuple #[v44, (eN (rowDoC s2.gD ([1, 1, 1, 1, 1, 1, 1, 1] : List Int).length (rowRC ([1, 1, 1, 1, 1, 1, 1, 1] : List Int) 0 s2)))]), (ptr L15.bN 0), (sli sb 0 8 8), (Value.tuple #[v44, (eN (rowDoC s2.gD ([1, 1, 1, 1, 1, 1, 1, 1] : List Int).length (rowRC ([1, 1, 1, 1, 1, 1, 1, 1] : List Int) 0 s2)))]), v44, (eN (rowDoC s2.gD ([1, 1, 1, 1, 1, 1, 1, 1] : List Int).length (rowRC ([1, 1, 1, 1, 1, 1, 1, 1] : List Int) 0 s2))), (eN (rowWC ((NS.new 8 8 4 (fun _ _ => false)).stopAt kk lm) ([1, 1, 1, 1, 1, 1, 1, 1] : List Int) 0 (plD lb 8) 8)), (Value.bool false), (Value.bool false), (eN (rowDoC s2.gD ([1, 1, 1, 1, 1, 1, 1, 1] : List Int).length (rowRC ([1, 1, 1, 1, 1, 1, 1, 1] : List Int) 0 s2))), (Value.bool false), (Value.bool false), (Value.bool false), v44, (eN ((pgRow (fun k_ => (pgD (rowRL ([1, 1, 1, 1, 1, 1, 1, 1] : List Int) 0 s2 k_)).1) vs45).length)), (Value.bool false), (Value.bool false)] ++ (zs z 60 44)) : List Value)) (fun (d : (Nat)) => fun (w_ : World) => (d ≤ 8) ∧ Only (Or1 sb (Ors L15.S No)) w42 w_ ∧ Arr 3 sb (([1, 1, 1, 1, 1, 1, 1, 1] : List Int).map eI) w_ ∧ Nd L15 (rowDo s2.gD ([1, 1, 1, 1, 1, 1, 1, 1] : List Int).length (rowR ([1, 1, 1, 1, 1, 1, 1, 1] : List Int) 0 s2) (rowRC ([1, 1, 1, 1, 1, 1, 1, 1] : List Int) 0 s2)) (Or1 sb No) w_) (fun (d : (Nat)) => 8 - d) 0 rfl ?_ ?_
 ·
  refine ⟨?_, ?_, ?_, ?_⟩
  ·
   (try dsimp only)
   all_goals (omega)
  ·
   exact Only.refl _ _
  ·
   exact a20
  ·
   exact a16
 rintro d z w54 ⟨hd, o53, a20, a16⟩
 (try dsimp only)
 replace h1 := h1.step o53 (or1_mono (ors_mono no_any))
 replace h2 := h2.step o53 (or1_mono (ors_mono no_any))
 replace f33 := f33.step o53 (or1_mono (ors_mono no_any))
 replace f34 := f34.step o53 (or1_mono (ors_mono no_any))
 replace f51 := f51.step o53 (or1_mono (ors_mono no_any))
 replace f52 := f52.step o53 (or1_mono (ors_mono no_any))
 replace oW := oW.tail o53 (tl_new g_oW_sb (tl_snew g_oW_L15 tl_no))
 refine wpIn_seq (wpIn_seq (plain ?_))
 refine wI (d_move rfl) ?_
 refine wI (n_lss (a := d) (b := 8) rfl rfl rfl) ?_
 refine wF ([u1, (eN kk), u2, undef, undef, undef, (z 6), (ptr L15.bN 0), (eN 0), (sli sb 0 8 8), u30, (eN (rowWC ((NS.new 8 8 4 (fun _ _ => false)).stopAt kk lm) ([1, 1, 1, 1, 1, 1, 1, 1] : List Int) 0 (plD lb 8) 8)), v44, (eN (rowDoC s2.gD ([1, 1, 1, 1, 1, 1, 1, 1] : List Int).length (rowRC ([1, 1, 1, 1, 1, 1, 1, 1] : List Int) 0 s2))), (eN d), (Value.bool true), (Value.bool false), u2, (eN lm.length), (Value.bool false), (Value.tuple #[(ptr L15.bN 0), (eN 0)]), (Value.agg #[(eN 8), (eN 8), (eN 4)]), (Value.tuple #[(ptr L15.bN 0), (eN 0)]), (ptr L15.bN 0), (eN 0), (eN 0), (Value.bool false), (sli sb 0 8 8), (eI k_), (eN ((k_ % ((8 : Nat) : Int)).toNat)), (eN (1 + ((k_ % ((8 : Nat) : Int)).toNat))), (ptr L15.bN 0), (eN kk), u2, u27, u1, u30, (ptr L15.bN 0), (sli sb 0 8 8), u30, (eN (rowWC ((NS.new 8 8 4 (fun _ _ => false)).stopAt kk lm) ([1, 1, 1, 1, 1, 1, 1, 1] : List Int) 0 (plD lb 8) 8)), (ptr L15.bN 0), u41, (Value.tuple #[v44, (eN (rowDoC s2.gD ([1, 1, 1, 1, 1, 1, 1, 1] : List Int).length (rowRC ([1, 1, 1, 1, 1, 1, 1, 1] : List Int) 0 s2)))]), (ptr L15.bN 0), (sli sb 0 8 8), (Value.tuple #[v44, (eN (rowDoC s2.gD ([1, 1, 1, 1, 1, 1, 1, 1] : List Int).length (rowRC ([1, 1, 1, 1, 1, 1, 1, 1] : List Int) 0 s2)))]), v44, (eN (rowDoC s2.gD ([1, 1, 1, 1, 1, 1, 1, 1] : List Int).length (rowRC ([1, 1, 1, 1, 1, 1, 1, 1] : List Int) 0 s2))), (eN (rowWC ((NS.new 8 8 4 (fun _ _ => false)).stopAt kk lm) ([1, 1, 1, 1, 1, 1, 1, 1] : List Int) 0 (plD lb 8) 8)), (Value.bool false), (Value.bool false), (eN (rowDoC s2.gD ([1, 1, 1, 1, 1, 1, 1, 1] : List Int).length (rowRC ([1, 1, 1, 1, 1, 1, 1, 1] : List Int) 0 s2))), (Value.bool false), (Value.bool false), (Value.bool false), v44, (eN ((pgRow (fun k_ => (pgD (rowRL ([1, 1, 1, 1, 1, 1, 1, 1] : List Int) 0 s2 k_)).1) vs45).length)), (Value.bool false), (Value.bool false), (eN d), (Value.bool (decide (d < 8)))] ++ (zs z 62 42)) ?_
 refine wpL.done (then_n ?_)
 refine cond_if rfl (fun hd_ => ?_) (fun hd_ => ?_)
 ·
  refine wpIn_skip (then_n (wpIn_seq (wpIn_block (wpIn_seq ?_))))
  by_cases kya : (d + 1) < kk
  ·
   have hd6 : d < vs45.length := by rw [l50]; exact hd_
   have hpa := pgRow_at (st := (fun k_ => (pgD (rowRL ([1, 1, 1, 1, 1, 1, 1, 1] : List Int) 0 s2 k_)).1)) hd6
   have hpl := pgRow_len (fun k_ => (pgD (rowRL ([1, 1, 1, 1, 1, 1, 1, 1] : List Int) 0 s2 k_)).1) vs45
   have hrd2 : pgD (rowRL ([1, 1, 1, 1, 1, 1, 1, 1] : List Int) 0 s2 d) = (2, plD lb 8 d) := (htr.2 d hd_).1 kya
   have hp1 : ((pgRow (fun k_ => (pgD (rowRL ([1, 1, 1, 1, 1, 1, 1, 1] : List Int) 0 s2 k_)).1) vs45).getD d (0, undef)).1 = 2 := by rw [hpa]; exact congrArg Prod.fst hrd2
   have hp2 : (pgD (rowRL ([1, 1, 1, 1, 1, 1, 1, 1] : List Int) 0 s2 d)).2 = plD lb 8 d := congrArg Prod.snd hrd2
   have hfe := fam_at f52 hd6
   rw [show vs45.getD d undef = ((pgRow (fun k_ => (pgD (rowRL ([1, 1, 1, 1, 1, 1, 1, 1] : List Int) 0 s2 k_)).1) vs45).getD d (0, undef)).2 from by rw [hpa]] at hfe
   have hlen_ := l32
   have hfl := fam_at f34 (show d < 8 by omega)
   refine drawn' (O := (Or1 sb (Ors L15.S No))) (n := 40) [0, 1, 0, 7, 15, 31, 31, 127, 255, 511, 1023, 2047, 4095, 4095, 16383, 32767, 65535, 131071, 4095, 4095, 790527, 1839103, 3936255, 8388607, 16777215, 33554431, 67108863, 134217727, 268435455, 134217727, 1073741823, 2147483647, 4294967295, 4294967295, 17179869183, 34359738367, 68719476735, 137438953471, 274877906943, 549755813887] [(0, 64), (1, 65), (2, 66), (3, 67), (4, 68), (5, 69), (6, 70), (7, 71), (8, 72), (9, 73), (10, 74), (11, 75), (12, 76), (13, 77), (14, 78), (15, 79), (16, 80), (17, 81), (18, 82), (19, 83), (20, 84), (21, 85), (22, 86), (23, 87), (24, 88), (25, 89), (26, 90), (27, 91), (28, 92), (29, 93), (30, 94), (31, 95), (32, 96), (33, 97), (34, 98), (35, 99), (36, 100), (37, 101), (38, 102), (39, 103)] [0, 1, 2, 3, 4, 5, 6, 7, 8, 9, 10, 11, 12, 13, 14, 15, 16, 17, 18, 19, 20, 21, 22, 23, 24, 25, 26, 27, 28, 29, 30, 31, 32, 33, 34, 35, 36, 37, 38, 39] [] (fun i_ => ([RF.is (Or1 sb (Ors L15.S No)) (eN d), RF.is (Or1 sb (Ors L15.S No)) (eN (d + 1)), RF.is (Or1 sb (Ors L15.S No)) (eN kk), RF.is (Or1 sb (Ors L15.S No)) (Value.bool true), RF.is (Or1 sb (Ors L15.S No)) (Value.bool true), RF.is (Or1 sb (Ors L15.S No)) v44, RF.is (Or1 sb (Ors L15.S No)) (eN d), RF.ps (Or1 sb (Ors L15.S No)) (Or1 sb (Ors L15.S (Old W.heap.size))) (At (kA 2 eG) ((pgRow (fun k_ => (pgD (rowRL ([1, 1, 1, 1, 1, 1, 1, 1] : List Int) 0 s2 k_)).1) vs45).getD d (0, undef))) (or1_mono (ors_mono no_any)), RF.ps (Or1 sb (Ors L15.S No)) (Or1 sb (Ors L15.S (Old W.heap.size))) (At kN (((pgRow (fun k_ => (pgD (rowRL ([1, 1, 1, 1, 1, 1, 1, 1] : List Int) 0 s2 k_)).1) vs45).getD d (0, undef)).1)) (or1_mono (ors_mono no_any)), RF.is (Or1 sb (Ors L15.S No)) (eN (((pgRow (fun k_ => (pgD (rowRL ([1, 1, 1, 1, 1, 1, 1, 1] : List Int) 0 s2 k_)).1) vs45).getD d (0, undef)).1)), RF.is (Or1 sb (Ors L15.S No)) (Value.bool false), RF.is (Or1 sb (Ors L15.S No)) (Value.bool false), RF.is (Or1 sb (Ors L15.S No)) v44, RF.is (Or1 sb (Ors L15.S No)) (eN d), RF.ps (Or1 sb (Ors L15.S No)) (Or1 sb (Ors L15.S (Old W.heap.size))) (At (kA 2 eG) ((pgRow (fun k_ => (pgD (rowRL ([1, 1, 1, 1, 1, 1, 1, 1] : List Int) 0 s2 k_)).1) vs45).getD d (0, undef))) (or1_mono (ors_mono no_any)), RF.ps (Or1 sb (Ors L15.S No)) (Or1 sb (Ors L15.S (Old W.heap.size))) (At (kS eV) (((pgRow (fun k_ => (pgD (rowRL ([1, 1, 1, 1, 1, 1, 1, 1] : List Int) 0 s2 k_)).1) vs45).getD d (0, undef)).2)) (or1_mono (ors_mono no_any)), RF.is (Or1 sb (Ors L15.S No)) ((pgRow (fun k_ => (pgD (rowRL ([1, 1, 1, 1, 1, 1, 1, 1] : List Int) 0 s2 k_)).1) vs45).getD d (0, undef)).2, RF.is (Or1 sb (Ors L15.S No)) (Value.string (strOf ((pgD (rowRL ([1, 1, 1, 1, 1, 1, 1, 1] : List Int) 0 s2 d)).2))), RF.is (Or1 sb (Ors L15.S No)) u30, RF.is (Or1 sb (Ors L15.S No)) (eN d), RF.is (Or1 sb (Ors L15.S No)) (ixp u30 d), RF.is (Or1 sb (Ors L15.S No)) (vs31.getD d undef), RF.is (Or1 sb (Ors L15.S No)) (Value.string (strOf (plD lb 8 d))), RF.is (Or1 sb (Ors L15.S No)) (Value.bool false), RF.is (Or1 sb (Ors L15.S No)) (Value.bool false), RF.is (Or1 sb (Ors L15.S No)) (Value.bool false), RF.is (Or1 sb (Ors L15.S No)) (Value.bool false), RF.is (Or1 sb (Ors L15.S No)) (eN d), RF.is (Or1 sb (Ors L15.S No)) (eN (d + 1)), RF.is (Or1 sb (Ors L15.S No)) (eN kk), RF.is (Or1 sb (Ors L15.S No)) (Value.bool false), RF.is (Or1 sb (Ors L15.S No)) (Value.bool false), RF.is (Or1 sb (Ors L15.S No)) undef, RF.is (Or1 sb (Ors L15.S No)) undef, RF.is (Or1 sb (Ors L15.S No)) undef, RF.is (Or1 sb (Ors L15.S No)) undef, RF.is (Or1 sb (Ors L15.S No)) undef, RF.is (Or1 sb (Ors L15.S No)) undef, RF.is (Or1 sb (Ors L15.S No)) (Value.bool false), RF.is (Or1 sb (Ors L15.S No)) (Value.bool false)] : List (RF (Or1 sb (Ors L15.S No)))).getD i_ (RF.any (Or1 sb (Ors L15.S No)))) (fun _ w_ => Arr 3 sb (([1, 1, 1, 1, 1, 1, 1, 1] : List Int).map eI) w_ ∧ Nd L15 (rowDo s2.gD ([1, 1, 1, 1, 1, 1, 1, 1] : List Int).length (rowR ([1, 1, 1, 1, 1, 1, 1, 1] : List Int) 0 s2) (rowRC ([1, 1, 1, 1, 1, 1, 1, 1] : List Int) 0 s2)) (Or1 sb No) w_) (fun v55 => [u1, (eN kk), u2, undef, undef, undef, (z 6), (ptr L15.bN 0), (eN 0), (sli sb 0 8 8), u30, (eN (rowWC ((NS.new 8 8 4 (fun _ _ => false)).stopAt kk lm) ([1, 1, 1, 1, 1, 1, 1, 1] : List Int) 0 (plD lb 8) 8)), v44, (eN (rowDoC s2.gD ([1, 1, 1, 1, 1, 1, 1, 1] : List Int).length (rowRC ([1, 1, 1, 1, 1, 1, 1, 1] : List Int) 0 s2))), (eN d), (Value.bool true), (Value.bool false), u2, (eN lm.length), (Value.bool false), (Value.tuple #[(ptr L15.bN 0), (eN 0)]), (Value.agg #[(eN 8), (eN 8), (eN 4)]), (Value.tuple #[(ptr L15.bN 0), (eN 0)]), (ptr L15.bN 0), (eN 0), (eN 0), (Value.bool false), (sli sb 0 8 8), (eI k_), (eN ((k_ % ((8 : Nat) : Int)).toNat)), (eN (1 + ((k_ % ((8 : Nat) : Int)).toNat))), (ptr L15.bN 0), (eN kk), u2, u27, u1, u30, (ptr L15.bN 0), (sli sb 0 8 8), u30, (eN (rowWC ((NS.new 8 8 4 (fun _ _ => false)).stopAt kk lm) ([1, 1, 1, 1, 1, 1, 1, 1] : List Int) 0 (plD lb 8) 8)), (ptr L15.bN 0), u41, (Value.tuple #[v44, (eN (rowDoC s2.gD ([1, 1, 1, 1, 1, 1, 1, 1] : List Int).length (rowRC ([1, 1, 1, 1, 1, 1, 1, 1] : List Int) 0 s2)))]), (ptr L15.bN 0), (sli sb 0 8 8), (Value.tuple #[v44, (eN (rowDoC s2.gD ([1, 1, 1, 1, 1, 1, 1, 1] : List Int).length (rowRC ([1, 1, 1, 1, 1, 1, 1, 1] : List Int) 0 s2)))]), v44, (eN (rowDoC s2.gD ([1, 1, 1, 1, 1, 1, 1, 1] : List Int).length (rowRC ([1, 1, 1, 1, 1, 1, 1, 1] : List Int) 0 s2))), (eN (rowWC ((NS.new 8 8 4 (fun _ _ => false)).stopAt kk lm) ([1, 1, 1, 1, 1, 1, 1, 1] : List Int) 0 (plD lb 8) 8)), (Value.bool false), (Value.bool false), (eN (rowDoC s2.gD ([1, 1, 1, 1, 1, 1, 1, 1] : List Int).length (rowRC ([1, 1, 1, 1, 1, 1, 1, 1] : List Int) 0 s2))), (Value.bool false), (Value.bool false), (Value.bool false), v44, (eN ((pgRow (fun k_ => (pgD (rowRL ([1, 1, 1, 1, 1, 1, 1, 1] : List Int) 0 s2 k_)).1) vs45).length)), (Value.bool false), (Value.bool false), (eN d), (Value.bool (decide (d < 8))), (z 62), (z 63), (v55 0), (v55 1), (v55 2), (v55 3), (v55 4), (v55 5), (v55 6), (v55 7), (v55 8), (v55 9), (v55 10), (v55 11), (v55 12), (v55 13), (v55 14), (v55 15), (v55 16), (v55 17), (v55 18), (v55 19), (v55 20), (v55 21), (v55 22), (v55 23), (v55 24), (v55 25), (v55 26), (v55 27), (v55 28), (v55 29), (v55 30), (v55 31), (v55 32), (v55 33), (v55 34), (v55 35), (v55 36), (v55 37), (v55 38), (v55 39)]) s_mx kr rfl kr (by rfl) (fun v_ => by kernel_rfl) (fun _ => fun w_ w2_ h ho => by obtain ⟨r_a20, r_a16⟩ := h; exact ⟨r_a20.step0 ho, r_a16.step0 ho⟩) ⟨a20, a16⟩ ?_ ?_ ?_
   ·
    refine ls_cons ?_ ?_
    ·
     intro v55 lo hi w_ k_ hO hd _ _ hk_ _ hR hold
     obtain ⟨r_a20, r_a16⟩ := hR
     clear hd hold
     refine ⟨_, rfl, gd rfl ?_⟩
     exact Does.is (d_move rfl)
    refine ls_cons ?_ ?_
    ·
     intro v55 lo hi w_ k_ hO hd _ _ hk_ _ hR hold
     obtain ⟨r_a20, r_a16⟩ := hR
     have e0 : v55 0 = (eN d) := hd 0 kr
     clear hd hold
     refine ⟨_, rfl, gd rfl ?_⟩
     exact Does.is (n_add (a := d) (b := 1) e0 rfl oo)
    refine ls_cons ?_ ?_
    ·
     intro v55 lo hi w_ k_ hO hd _ _ hk_ _ hR hold
     obtain ⟨r_a20, r_a16⟩ := hR
     clear hd hold
     refine ⟨_, rfl, gd rfl ?_⟩
     exact Does.is (d_move rfl)
    refine ls_cons ?_ ?_
    ·
     intro v55 lo hi w_ k_ hO hd _ _ hk_ _ hR hold
     obtain ⟨r_a20, r_a16⟩ := hR
     have e1 : v55 1 = (eN (d + 1)) := hd 1 kr
     have e2 : v55 2 = (eN kk) := hd 2 kr
     clear hd hold
     refine ⟨_, rfl, gd rfl ?_⟩
     exact Does.is (n_lss (a := (d + 1)) (b := kk) e1 e2 (decide_eq_true kya))
    refine ls_cons ?_ ?_
    ·
     intro v55 lo hi w_ k_ hO hd _ _ hk_ _ hR hold
     obtain ⟨r_a20, r_a16⟩ := hR
     have e3 : v55 3 = (Value.bool true) := hd 3 kr
     clear hd hold
     refine ⟨_, rfl, gd rfl ?_⟩
     exact Does.is (d_move (v := (Value.bool true)) e3)
    refine ls_cons ?_ ?_
    ·
     intro v55 lo hi w_ k_ hO hd _ _ hk_ _ hR hold
     obtain ⟨r_a20, r_a16⟩ := hR
     have e4 : v55 4 = (Value.bool true) := hd 4 kr
     clear hd hold
     refine ⟨_, rfl, gd_on rfl rfl rfl (nb rfl) e4 ?_⟩
     exact Does.is (d_move rfl)
    refine ls_cons ?_ ?_
    ·
     intro v55 lo hi w_ k_ hO hd _ _ hk_ _ hR hold
     obtain ⟨r_a20, r_a16⟩ := hR
     have e4 : v55 4 = (Value.bool true) := hd 4 kr
     clear hd hold
     refine ⟨_, rfl, gd_on rfl rfl rfl (nb rfl) e4 ?_⟩
     exact Does.is (d_move rfl)
    refine ls_cons ?_ ?_
    ·
     intro v55 lo hi w_ k_ hO hd _ _ hk_ _ hR hold
     obtain ⟨r_a20, r_a16⟩ := hR
     have e4 : v55 4 = (Value.bool true) := hd 4 kr
     have e5 : v55 5 = v44 := hd 5 kr
     have e6 : v55 6 = (eN d) := hd 6 kr
     clear hd hold
     refine ⟨_, rfl, gd_on rfl rfl rfl (nb rfl) e4 ?_⟩
     refine Does.mono (d_indexS (q := (kA 2 eG)) (xs := (pgRow (fun k_ => (pgD (rowRL ([1, 1, 1, 1, 1, 1, 1, 1] : List Int) 0 s2 k_)).1) vs45)) (v := ((pgRow (fun k_ => (pgD (rowRL ([1, 1, 1, 1, 1, 1, 1, 1] : List Int) 0 s2 k_)).1) vs45).getD d (0, undef))) Try.underlying53 s_ti32 e5 (f51.step hO (or1_mono (ors_mono no_any))) (show _ = Value.int _ (d : Int) from e6) oo (g_at (by have := pgRow_len (fun k_ => (pgD (rowRL ([1, 1, 1, 1, 1, 1, 1, 1] : List Int) 0 s2 k_)).1) vs45; first | omega | (simp; done) | (simp; omega)))) (fun u w' h => ⟨h.2 ▸ h.1, h.2 ▸ Only.refl _ _⟩)
    refine ls_cons ?_ ?_
    ·
     intro v55 lo hi w_ k_ hO hd _ _ hk_ _ hR hold
     obtain ⟨r_a20, r_a16⟩ := hR
     have e4 : v55 4 = (Value.bool true) := hd 4 kr
     have d7 : Ps (Or1 sb (Ors L15.S (Old W.heap.size))) (At (kA 2 eG) ((pgRow (fun k_ => (pgD (rowRL ([1, 1, 1, 1, 1, 1, 1, 1] : List Int) 0 s2 k_)).1) vs45).getD d (0, undef)) (v55 7)) w_ := hd 7 kr
     clear hd hold
     refine ⟨_, rfl, gd_on rfl rfl rfl (nb rfl) e4 ?_⟩
     refine Does.mono (d_fieldG0 (v := ((pgRow (fun k_ => (pgD (rowRL ([1, 1, 1, 1, 1, 1, 1, 1] : List Int) 0 s2 k_)).1) vs45).getD d (0, undef))) Try.underlying32 rfl s_ti3 rfl rfl d7) (fun u w' h => ⟨h.2 ▸ h.1, h.2 ▸ Only.refl _ _⟩)
    refine ls_cons ?_ ?_
    ·
     intro v55 lo hi w_ k_ hO hd _ _ hk_ _ hR hold
     obtain ⟨r_a20, r_a16⟩ := hR
     have e4 : v55 4 = (Value.bool true) := hd 4 kr
     have d8 : Ps (Or1 sb (Ors L15.S (Old W.heap.size))) (At kN (((pgRow (fun k_ => (pgD (rowRL ([1, 1, 1, 1, 1, 1, 1, 1] : List Int) 0 s2 k_)).1) vs45).getD d (0, undef)).1) (v55 8)) w_ := hd 8 kr
     clear hd hold
     refine ⟨_, rfl, gd_on rfl rfl rfl (nb rfl) e4 ?_⟩
     exact Does.is (d_loadAt (enc := eN) (v := ((pgRow (fun k_ => (pgD (rowRL ([1, 1, 1, 1, 1, 1, 1, 1] : List Int) 0 s2 k_)).1) vs45).getD d (0, undef)).1) ⟨_, Try.underlying3, rfl⟩ rfl d8)
    refine ls_cons ?_ ?_
    ·
     intro v55 lo hi w_ k_ hO hd _ _ hk_ _ hR hold
     obtain ⟨r_a20, r_a16⟩ := hR
     have e4 : v55 4 = (Value.bool true) := hd 4 kr
     have e9 : v55 9 = (eN (((pgRow (fun k_ => (pgD (rowRL ([1, 1, 1, 1, 1, 1, 1, 1] : List Int) 0 s2 k_)).1) vs45).getD d (0, undef)).1)) := hd 9 kr
     clear hd hold
     refine ⟨_, rfl, gd_on rfl rfl rfl (nb rfl) e4 ?_⟩
     exact Does.is (n_neq (a := (((pgRow (fun k_ => (pgD (rowRL ([1, 1, 1, 1, 1, 1, 1, 1] : List Int) 0 s2 k_)).1) vs45).getD d (0, undef)).1)) (b := 2) e9 rfl (by rw [decide_eq_true hp1] <;> rfl))
    refine ls_cons ?_ ?_
    ·
     intro v55 lo hi w_ k_ hO hd _ _ hk_ _ hR hold
     obtain ⟨r_a20, r_a16⟩ := hR
     have e10 : v55 10 = (Value.bool false) := hd 10 kr
     have e4 : v55 4 = (Value.bool true) := hd 4 kr
     clear hd hold
     refine ⟨_, rfl, gd_on rfl rfl rfl (nb rfl) e4 ?_⟩
     exact Does.is (d_move (v := (Value.bool false)) e10)
    refine ls_cons ?_ ?_
    ·
     intro v55 lo hi w_ k_ hO hd _ _ hk_ _ hR hold
     obtain ⟨r_a20, r_a16⟩ := hR
     have e11 : v55 11 = (Value.bool false) := hd 11 kr
     clear hd hold
     refine ⟨_, rfl, gd_on rfl rfl rfl (nb rfl) e11 ?_⟩
     exact Does.is (d_move rfl)
    refine ls_cons ?_ ?_
    ·
     intro v55 lo hi w_ k_ hO hd _ _ hk_ _ hR hold
     obtain ⟨r_a20, r_a16⟩ := hR
     have e11 : v55 11 = (Value.bool false) := hd 11 kr
     clear hd hold
     refine ⟨_, rfl, gd_on rfl rfl rfl (nb rfl) e11 ?_⟩
     exact Does.is (d_move rfl)
    refine ls_cons ?_ ?_
    ·
     intro v55 lo hi w_ k_ hO hd _ _ hk_ _ hR hold
     obtain ⟨r_a20, r_a16⟩ := hR
     have e11 : v55 11 = (Value.bool false) := hd 11 kr
     have e12 : v55 12 = v44 := hd 12 kr
     have e13 : v55 13 = (eN d) := hd 13 kr
     clear hd hold
     refine ⟨_, rfl, gd_on rfl rfl rfl (nb rfl) e11 ?_⟩
     refine Does.mono (d_indexS (q := (kA 2 eG)) (xs := (pgRow (fun k_ => (pgD (rowRL ([1, 1, 1, 1, 1, 1, 1, 1] : List Int) 0 s2 k_)).1) vs45)) (v := ((pgRow (fun k_ => (pgD (rowRL ([1, 1, 1, 1, 1, 1, 1, 1] : List Int) 0 s2 k_)).1) vs45).getD d (0, undef))) Try.underlying53 s_ti32 e12 (f51.step hO (or1_mono (ors_mono no_any))) (show _ = Value.int _ (d : Int) from e13) oo (g_at (by have := pgRow_len (fun k_ => (pgD (rowRL ([1, 1, 1, 1, 1, 1, 1, 1] : List Int) 0 s2 k_)).1) vs45; first | omega | (simp; done) | (simp; omega)))) (fun u w' h => ⟨h.2 ▸ h.1, h.2 ▸ Only.refl _ _⟩)
    refine ls_cons ?_ ?_
    ·
     intro v55 lo hi w_ k_ hO hd _ _ hk_ _ hR hold
     obtain ⟨r_a20, r_a16⟩ := hR
     have e11 : v55 11 = (Value.bool false) := hd 11 kr
     have d14 : Ps (Or1 sb (Ors L15.S (Old W.heap.size))) (At (kA 2 eG) ((pgRow (fun k_ => (pgD (rowRL ([1, 1, 1, 1, 1, 1, 1, 1] : List Int) 0 s2 k_)).1) vs45).getD d (0, undef)) (v55 14)) w_ := hd 14 kr
     clear hd hold
     refine ⟨_, rfl, gd_on rfl rfl rfl (nb rfl) e11 ?_⟩
     refine Does.mono (d_fieldG1 (v := ((pgRow (fun k_ => (pgD (rowRL ([1, 1, 1, 1, 1, 1, 1, 1] : List Int) 0 s2 k_)).1) vs45).getD d (0, undef))) Try.underlying32 rfl s_ti22 rfl rfl d14) (fun u w' h => ⟨h.2 ▸ h.1, h.2 ▸ Only.refl _ _⟩)
    refine ls_cons ?_ ?_
    ·
     intro v55 lo hi w_ k_ hO hd _ _ hk_ _ hR hold
     obtain ⟨r_a20, r_a16⟩ := hR
     have e11 : v55 11 = (Value.bool false) := hd 11 kr
     have d15 : Ps (Or1 sb (Ors L15.S (Old W.heap.size))) (At (kS eV) (((pgRow (fun k_ => (pgD (rowRL ([1, 1, 1, 1, 1, 1, 1, 1] : List Int) 0 s2 k_)).1) vs45).getD d (0, undef)).2) (v55 15)) w_ := hd 15 kr
     clear hd hold
     refine ⟨_, rfl, gd_on rfl rfl rfl (nb rfl) e11 ?_⟩
     exact Does.is (d_loadAt (enc := eV) (v := ((pgRow (fun k_ => (pgD (rowRL ([1, 1, 1, 1, 1, 1, 1, 1] : List Int) 0 s2 k_)).1) vs45).getD d (0, undef)).2) ⟨_, Try.underlying22, rfl⟩ rfl d15)
    refine ls_cons ?_ ?_
    ·
     intro v55 lo hi w_ k_ hO hd _ _ hk_ _ hR hold
     obtain ⟨r_a20, r_a16⟩ := hR
     have e11 : v55 11 = (Value.bool false) := hd 11 kr
     have e16 : v55 16 = ((pgRow (fun k_ => (pgD (rowRL ([1, 1, 1, 1, 1, 1, 1, 1] : List Int) 0 s2 k_)).1) vs45).getD d (0, undef)).2 := hd 16 kr
     clear hd hold
     refine ⟨_, rfl, gd_on rfl rfl rfl (nb rfl) e11 ?_⟩
     exact Does.is (d_str Try.underlying22 Try.underlying5 Try.underlying9 e16 (hfe.step hO (or1_mono (ors_mono no_any))))
    refine ls_cons ?_ ?_
    ·
     intro v55 lo hi w_ k_ hO hd _ _ hk_ _ hR hold
     obtain ⟨r_a20, r_a16⟩ := hR
     have e11 : v55 11 = (Value.bool false) := hd 11 kr
     clear hd hold
     refine ⟨_, rfl, gd_on rfl rfl rfl (nb rfl) e11 ?_⟩
     exact Does.is (d_move rfl)
    refine ls_cons ?_ ?_
    ·
     intro v55 lo hi w_ k_ hO hd _ _ hk_ _ hR hold
     obtain ⟨r_a20, r_a16⟩ := hR
     have e11 : v55 11 = (Value.bool false) := hd 11 kr
     clear hd hold
     refine ⟨_, rfl, gd_on rfl rfl rfl (nb rfl) e11 ?_⟩
     exact Does.is (d_move rfl)
    refine ls_cons ?_ ?_
    ·
     intro v55 lo hi w_ k_ hO hd _ _ hk_ _ hR hold
     obtain ⟨r_a20, r_a16⟩ := hR
     have e11 : v55 11 = (Value.bool false) := hd 11 kr
     have e18 : v55 18 = u30 := hd 18 kr
     have e19 : v55 19 = (eN d) := hd 19 kr
     clear hd hold
     refine ⟨_, rfl, gd_on rfl rfl rfl (nb rfl) e11 ?_⟩
     exact Does.is (d_ix (i := d) (xs := vs31) Try.underlying29 s_ti22 e18 (f33.step hO (or1_mono (ors_mono no_any))) (show _ = Value.int _ (d : Int) from e19) fo)
    refine ls_cons ?_ ?_
    ·
     intro v55 lo hi w_ k_ hO hd _ _ hk_ _ hR hold
     obtain ⟨r_a20, r_a16⟩ := hR
     have e11 : v55 11 = (Value.bool false) := hd 11 kr
     have e20 : v55 20 = (ixp u30 d) := hd 20 kr
     clear hd hold
     refine ⟨_, rfl, gd_on rfl rfl rfl (nb rfl) e11 ?_⟩
     exact Does.is (d_ldx (i := d) (xs := vs31) (enc := eV) (v := (vs31.getD d undef)) ⟨_, Try.underlying22, rfl⟩ e20 (f33.step hO (or1_mono (ors_mono no_any))) (g_at fo))
    refine ls_cons ?_ ?_
    ·
     intro v55 lo hi w_ k_ hO hd _ _ hk_ _ hR hold
     obtain ⟨r_a20, r_a16⟩ := hR
     have e11 : v55 11 = (Value.bool false) := hd 11 kr
     have e21 : v55 21 = (vs31.getD d undef) := hd 21 kr
     clear hd hold
     refine ⟨_, rfl, gd_on rfl rfl rfl (nb rfl) e11 ?_⟩
     exact Does.is (d_str Try.underlying22 Try.underlying5 Try.underlying9 e21 (hfl.step hO (or1_mono (ors_mono no_any))))
    refine ls_cons ?_ ?_
    ·
     intro v55 lo hi w_ k_ hO hd _ _ hk_ _ hR hold
     obtain ⟨r_a20, r_a16⟩ := hR
     have e11 : v55 11 = (Value.bool false) := hd 11 kr
     have e17 : v55 17 = (Value.string (strOf ((pgD (rowRL ([1, 1, 1, 1, 1, 1, 1, 1] : List Int) 0 s2 d)).2))) := hd 17 kr
     have e22 : v55 22 = (Value.string (strOf (plD lb 8 d))) := hd 22 kr
     clear hd hold
     refine ⟨_, rfl, gd_on rfl rfl rfl (nb rfl) e11 ?_⟩
     exact Does.is (d_sneq (a := ((pgD (rowRL ([1, 1, 1, 1, 1, 1, 1, 1] : List Int) 0 s2 d)).2)) (c := (plD lb 8 d)) e17 e22 (by rw [decide_eq_true hp2] <;> rfl))
    refine ls_cons ?_ ?_
    ·
     intro v55 lo hi w_ k_ hO hd _ _ hk_ _ hR hold
     obtain ⟨r_a20, r_a16⟩ := hR
     have e11 : v55 11 = (Value.bool false) := hd 11 kr
     have e23 : v55 23 = (Value.bool false) := hd 23 kr
     have e4 : v55 4 = (Value.bool true) := hd 4 kr
     clear hd hold
     refine ⟨_, rfl, gd_on rfl rfl rfl (nb rfl) e4 ?_⟩
     exact Does.is (d_pick (b := false) (v := (Value.bool false)) e11 e23)
    refine ls_cons ?_ ?_
    ·
     intro v55 lo hi w_ k_ hO hd _ _ hk_ _ hR hold
     obtain ⟨r_a20, r_a16⟩ := hR
     have e24 : v55 24 = (Value.bool false) := hd 24 kr
     have e4 : v55 4 = (Value.bool true) := hd 4 kr
     clear hd hold
     refine ⟨_, rfl, gd rfl ?_⟩
     exact Does.is (d_pick (b := true) (v := (Value.bool false)) e4 e24)
    refine ls_cons ?_ ?_
    ·
     intro v55 lo hi w_ k_ hO hd _ _ hk_ _ hR hold
     obtain ⟨r_a20, r_a16⟩ := hR
     have e25 : v55 25 = (Value.bool false) := hd 25 kr
     clear hd hold
     refine ⟨_, rfl, gd rfl ?_⟩
     exact Does.is (d_move (v := (Value.bool false)) e25)
    refine ls_cons ?_ ?_
    ·
     intro v55 lo hi w_ k_ hO hd _ _ hk_ _ hR hold
     obtain ⟨r_a20, r_a16⟩ := hR
     have e26 : v55 26 = (Value.bool false) := hd 26 kr
     clear hd hold
     refine ⟨_, rfl, gd_on rfl rfl rfl (nb rfl) e26 ?_⟩
     exact Does.is (d_move rfl)
    refine ls_cons ?_ ?_
    ·
     intro v55 lo hi w_ k_ hO hd _ _ hk_ _ hR hold
     obtain ⟨r_a20, r_a16⟩ := hR
     have e26 : v55 26 = (Value.bool false) := hd 26 kr
     have e27 : v55 27 = (eN d) := hd 27 kr
     clear hd hold
     refine ⟨_, rfl, gd_on rfl rfl rfl (nb rfl) e26 ?_⟩
     exact Does.is (n_add (a := d) (b := 1) e27 rfl oo)
    refine ls_cons ?_ ?_
    ·
     intro v55 lo hi w_ k_ hO hd _ _ hk_ _ hR hold
     obtain ⟨r_a20, r_a16⟩ := hR
     have e26 : v55 26 = (Value.bool false) := hd 26 kr
     clear hd hold
     refine ⟨_, rfl, gd_on rfl rfl rfl (nb rfl) e26 ?_⟩
     exact Does.is (d_move rfl)
    refine ls_cons ?_ ?_
    ·
     intro v55 lo hi w_ k_ hO hd _ _ hk_ _ hR hold
     obtain ⟨r_a20, r_a16⟩ := hR
     have e26 : v55 26 = (Value.bool false) := hd 26 kr
     have e28 : v55 28 = (eN (d + 1)) := hd 28 kr
     have e29 : v55 29 = (eN kk) := hd 29 kr
     clear hd hold
     refine ⟨_, rfl, gd_on rfl rfl rfl (nb rfl) e26 ?_⟩
     exact Does.is (n_gtr (a := (d + 1)) (b := kk) e28 e29 (decide_eq_false oo))
    refine ls_cons ?_ ?_
    ·
     intro v55 lo hi w_ k_ hO hd _ _ hk_ _ hR hold
     obtain ⟨r_a20, r_a16⟩ := hR
     have e26 : v55 26 = (Value.bool false) := hd 26 kr
     have e30 : v55 30 = (Value.bool false) := hd 30 kr
     clear hd hold
     refine ⟨_, rfl, gd_on rfl rfl rfl (nb rfl) e26 ?_⟩
     exact Does.is (d_move (v := (Value.bool false)) e30)
    refine ls_cons ?_ ?_
    ·
     intro v55 lo hi w_ k_ hO hd _ _ hk_ _ hR hold
     obtain ⟨r_a20, r_a16⟩ := hR
     have e31 : v55 31 = (Value.bool false) := hd 31 kr
     clear hd hold
     refine ⟨_, rfl, gd_off rfl rfl rfl (nb rfl) e31 ?_⟩
     exact ⟨rfl, Only.refl _ _⟩
    refine ls_cons ?_ ?_
    ·
     intro v55 lo hi w_ k_ hO hd _ _ hk_ _ hR hold
     obtain ⟨r_a20, r_a16⟩ := hR
     have e31 : v55 31 = (Value.bool false) := hd 31 kr
     clear hd hold
     refine ⟨_, rfl, gd_off rfl rfl rfl (nb rfl) e31 ?_⟩
     exact ⟨rfl, Only.refl _ _⟩
    refine ls_cons ?_ ?_
    ·
     intro v55 lo hi w_ k_ hO hd _ _ hk_ _ hR hold
     obtain ⟨r_a20, r_a16⟩ := hR
     have e31 : v55 31 = (Value.bool false) := hd 31 kr
     clear hd hold
     refine ⟨_, rfl, gd_off rfl rfl rfl (nb rfl) e31 ?_⟩
     exact ⟨rfl, Only.refl _ _⟩
    refine ls_cons ?_ ?_
    ·
     intro v55 lo hi w_ k_ hO hd _ _ hk_ _ hR hold
     obtain ⟨r_a20, r_a16⟩ := hR
     have e31 : v55 31 = (Value.bool false) := hd 31 kr
     clear hd hold
     refine ⟨_, rfl, gd_off rfl rfl rfl (nb rfl) e31 ?_⟩
     exact ⟨rfl, Only.refl _ _⟩
    refine ls_cons ?_ ?_
    ·
     intro v55 lo hi w_ k_ hO hd _ _ hk_ _ hR hold
     obtain ⟨r_a20, r_a16⟩ := hR
     have e31 : v55 31 = (Value.bool false) := hd 31 kr
     clear hd hold
     refine ⟨_, rfl, gd_off rfl rfl rfl (nb rfl) e31 ?_⟩
     exact ⟨rfl, Only.refl _ _⟩
    refine ls_cons ?_ ?_
    ·
     intro v55 lo hi w_ k_ hO hd _ _ hk_ _ hR hold
     obtain ⟨r_a20, r_a16⟩ := hR
     have e31 : v55 31 = (Value.bool false) := hd 31 kr
     clear hd hold
     refine ⟨_, rfl, gd_off rfl rfl rfl (nb rfl) e31 ?_⟩
     exact ⟨rfl, Only.refl _ _⟩
    refine ls_cons ?_ ?_
    ·
     intro v55 lo hi w_ k_ hO hd _ _ hk_ _ hR hold
     obtain ⟨r_a20, r_a16⟩ := hR
     have e26 : v55 26 = (Value.bool false) := hd 26 kr
     have e31 : v55 31 = (Value.bool false) := hd 31 kr
     clear hd hold
     refine ⟨_, rfl, gd_on rfl rfl rfl (nb rfl) e26 ?_⟩
     exact Does.is (d_pick (b := false) (v := (Value.bool false)) e31 rfl)
    refine ls_cons ?_ ?_
    ·
     intro v55 lo hi w_ k_ hO hd _ _ hk_ _ hR hold
     obtain ⟨r_a20, r_a16⟩ := hR
     have e26 : v55 26 = (Value.bool false) := hd 26 kr
     have e38 : v55 38 = (Value.bool false) := hd 38 kr
     clear hd hold
     refine ⟨_, rfl, gd rfl ?_⟩
     exact Does.is (d_pick (b := false) (v := (Value.bool false)) e26 e38)
    exact ls_nil
   ·
    exact ms_nil
   intro v55 lo_ hi_ w56 o57 hd iv_ hR
   have e0 : v55 0 = (eN d) := hd 0 (by decide)
   have e1 : v55 1 = (eN (d + 1)) := hd 1 (by decide)
   have e2 : v55 2 = (eN kk) := hd 2 (by decide)
   have e3 : v55 3 = (Value.bool true) := hd 3 (by decide)
   have e4 : v55 4 = (Value.bool true) := hd 4 (by decide)
   have e5 : v55 5 = v44 := hd 5 (by decide)
   have e6 : v55 6 = (eN d) := hd 6 (by decide)
   have e9 : v55 9 = (eN (((pgRow (fun k_ => (pgD (rowRL ([1, 1, 1, 1, 1, 1, 1, 1] : List Int) 0 s2 k_)).1) vs45).getD d (0, undef)).1)) := hd 9 (by decide)
   have e10 : v55 10 = (Value.bool false) := hd 10 (by decide)
   have e11 : v55 11 = (Value.bool false) := hd 11 (by decide)
   have e12 : v55 12 = v44 := hd 12 (by decide)
   have e13 : v55 13 = (eN d) := hd 13 (by decide)
   have e16 : v55 16 = ((pgRow (fun k_ => (pgD (rowRL ([1, 1, 1, 1, 1, 1, 1, 1] : List Int) 0 s2 k_)).1) vs45).getD d (0, undef)).2 := hd 16 (by decide)
   have e17 : v55 17 = (Value.string (strOf ((pgD (rowRL ([1, 1, 1, 1, 1, 1, 1, 1] : List Int) 0 s2 d)).2))) := hd 17 (by decide)
   have e18 : v55 18 = u30 := hd 18 (by decide)
   have e19 : v55 19 = (eN d) := hd 19 (by decide)
   have e20 : v55 20 = (ixp u30 d) := hd 20 (by decide)
   have e21 : v55 21 = (vs31.getD d undef) := hd 21 (by decide)
   have e22 : v55 22 = (Value.string (strOf (plD lb 8 d))) := hd 22 (by decide)
   have e23 : v55 23 = (Value.bool false) := hd 23 (by decide)
   have e24 : v55 24 = (Value.bool false) := hd 24 (by decide)
   have e25 : v55 25 = (Value.bool false) := hd 25 (by decide)
   have e26 : v55 26 = (Value.bool false) := hd 26 (by decide)
   have e27 : v55 27 = (eN d) := hd 27 (by decide)
   have e28 : v55 28 = (eN (d + 1)) := hd 28 (by decide)
   have e29 : v55 29 = (eN kk) := hd 29 (by decide)
   have e30 : v55 30 = (Value.bool false) := hd 30 (by decide)
   have e31 : v55 31 = (Value.bool false) := hd 31 (by decide)
   have e32 : v55 32 = undef := hd 32 (by decide)
   have e33 : v55 33 = undef := hd 33 (by decide)
   have e34 : v55 34 = undef := hd 34 (by decide)
   have e35 : v55 35 = undef := hd 35 (by decide)
   have e36 : v55 36 = undef := hd 36 (by decide)
   have e37 : v55 37 = undef := hd 37 (by decide)
   have e38 : v55 38 = (Value.bool false) := hd 38 (by decide)
   have e39 : v55 39 = (Value.bool false) := hd 39 (by decide)
   have f_v55_7 : Ps (Or1 sb (Ors L15.S (Old W.heap.size))) (At (kA 2 eG) ((pgRow (fun k_ => (pgD (rowRL ([1, 1, 1, 1, 1, 1, 1, 1] : List Int) 0 s2 k_)).1) vs45).getD d (0, undef)) (v55 7)) w56 := hd 7 (by decide)
   have f_v55_8 : Ps (Or1 sb (Ors L15.S (Old W.heap.size))) (At kN (((pgRow (fun k_ => (pgD (rowRL ([1, 1, 1, 1, 1, 1, 1, 1] : List Int) 0 s2 k_)).1) vs45).getD d (0, undef)).1) (v55 8)) w56 := hd 8 (by decide)
   have f_v55_14 : Ps (Or1 sb (Ors L15.S (Old W.heap.size))) (At (kA 2 eG) ((pgRow (fun k_ => (pgD (rowRL ([1, 1, 1, 1, 1, 1, 1, 1] : List Int) 0 s2 k_)).1) vs45).getD d (0, undef)) (v55 14)) w56 := hd 14 (by decide)
   have f_v55_15 : Ps (Or1 sb (Ors L15.S (Old W.heap.size))) (At (kS eV) (((pgRow (fun k_ => (pgD (rowRL ([1, 1, 1, 1, 1, 1, 1, 1] : List Int) 0 s2 k_)).1) vs45).getD d (0, undef)).2) (v55 15)) w56 := hd 15 (by decide)
   clear hd iv_ lo_ hi_
   refine fr_eq (l' := ([u1, (eN kk), u2, undef, undef, undef, (z 6), (ptr L15.bN 0), (eN 0), (sli sb 0 8 8), u30, (eN (rowWC ((NS.new 8 8 4 (fun _ _ => false)).stopAt kk lm) ([1, 1, 1, 1, 1, 1, 1, 1] : List Int) 0 (plD lb 8) 8)), v44, (eN (rowDoC s2.gD ([1, 1, 1, 1, 1, 1, 1, 1] : List Int).length (rowRC ([1, 1, 1, 1, 1, 1, 1, 1] : List Int) 0 s2))), (eN d), (Value.bool true), (Value.bool false), u2, (eN lm.length), (Value.bool false), (Value.tuple #[(ptr L15.bN 0), (eN 0)]), (Value.agg #[(eN 8), (eN 8), (eN 4)]), (Value.tuple #[(ptr L15.bN 0), (eN 0)]), (ptr L15.bN 0), (eN 0), (eN 0), (Value.bool false), (sli sb 0 8 8), (eI k_), (eN ((k_ % ((8 : Nat) : Int)).toNat)), (eN (1 + ((k_ % ((8 : Nat) : Int)).toNat))), (ptr L15.bN 0), (eN kk), u2, u27, u1, u30, (ptr L15.bN 0), (sli sb 0 8 8), u30, (eN (rowWC ((NS.new 8 8 4 (fun _ _ => false)).stopAt kk lm) ([1, 1, 1, 1, 1, 1, 1, 1] : List Int) 0 (plD lb 8) 8)), (ptr L15.bN 0), u41, (Value.tuple #[v44, (eN (rowDoC s2.gD ([1, 1, 1, 1, 1, 1, 1, 1] : List Int).length (rowRC ([1, 1, 1, 1, 1, 1, 1, 1] : List Int) 0 s2)))]), (ptr L15.bN 0), (sli sb 0 8 8), (Value.tuple #[v44, (eN (rowDoC s2.gD ([1, 1, 1, 1, 1, 1, 1, 1] : List Int).length (rowRC ([1, 1, 1, 1, 1, 1, 1, 1] : List Int) 0 s2)))]), v44, (eN (rowDoC s2.gD ([1, 1, 1, 1, 1, 1, 1, 1] : List Int).length (rowRC ([1, 1, 1, 1, 1, 1, 1, 1] : List Int) 0 s2))), (eN (rowWC ((NS.new 8 8 4 (fun _ _ => false)).stopAt kk lm) ([1, 1, 1, 1, 1, 1, 1, 1] : List Int) 0 (plD lb 8) 8)), (Value.bool false), (Value.bool false), (eN (rowDoC s2.gD ([1, 1, 1, 1, 1, 1, 1, 1] : List Int).length (rowRC ([1, 1, 1, 1, 1, 1, 1, 1] : List Int) 0 s2))), (Value.bool false), (Value.bool false), (Value.bool false), v44, (eN ((pgRow (fun k_ => (pgD (rowRL ([1, 1, 1, 1, 1, 1, 1, 1] : List Int) 0 s2 k_)).1) vs45).length)), (Value.bool false), (Value.bool false), (eN d), (Value.bool (decide (d < 8))), (z 62), (z 63), (eN d), (eN (d + 1)), (eN kk), (Value.bool true), (Value.bool true), v44, (eN d), (v55 7), (v55 8), (eN (((pgRow (fun k_ => (pgD (rowRL ([1, 1, 1, 1, 1, 1, 1, 1] : List Int) 0 s2 k_)).1) vs45).getD d (0, undef)).1)), (Value.bool false), (Value.bool false), v44, (eN d), (v55 14), (v55 15), ((pgRow (fun k_ => (pgD (rowRL ([1, 1, 1, 1, 1, 1, 1, 1] : List Int) 0 s2 k_)).1) vs45).getD d (0, undef)).2, (Value.string (strOf ((pgD (rowRL ([1, 1, 1, 1, 1, 1, 1, 1] : List Int) 0 s2 d)).2))), u30, (eN d), (ixp u30 d), (vs31.getD d undef), (Value.string (strOf (plD lb 8 d))), (Value.bool false), (Value.bool false), (Value.bool false), (Value.bool false), (eN d), (eN (d + 1)), (eN kk), (Value.bool false), (Value.bool false)] ++ (us 6 ++ [(Value.bool false), (Value.bool false)]))) (by rw [e0, e1, e2, e3, e4, e5, e6, e9, e10, e11, e12, e13, e16, e17, e18, e19, e20, e21, e22, e23, e24, e25, e26, e27, e28, e29, e30, e31, e32, e33, e34, e35, e36, e37, e38, e39] <;> rfl) ?_
   clear e0 e1 e2 e3 e4 e5 e6 e9 e10 e11 e12 e13 e16 e17 e18 e19 e20 e21 e22 e23 e24 e25 e26 e27 e28 e29 e30 e31 e32 e33 e34 e35 e36 e37 e38 e39
   replace h1 := h1.step o57 (or1_mono (ors_mono no_any))
   replace h2 := h2.step o57 (or1_mono (ors_mono no_any))
   replace f33 := f33.step o57 (or1_mono (ors_mono no_any))
   replace f34 := f34.step o57 (or1_mono (ors_mono no_any))
   replace f51 := f51.step o57 (or1_mono (ors_mono no_any))
   replace f52 := f52.step o57 (or1_mono (ors_mono no_any))
   replace hfe := hfe.step o57 (or1_mono (ors_mono no_any))
   replace hfl := hfl.step o57 (or1_mono (ors_mono no_any))
   obtain ⟨xr_a20, xr_a16⟩ := hR
   replace a20 : Arr 3 sb (([1, 1, 1, 1, 1, 1, 1, 1] : List Int).map eI) w56 := xr_a20
   replace a16 := xr_a16
   clear xr_a20 xr_a16
   replace oW := oW.tail o57 (tl_new g_oW_sb (tl_snew g_oW_L15 tl_no))
   replace o53 := o53.tail o57 (tl_in in1 (tl_sin (sub2 sub1) tl_no))
   refine then_n ?_
   refine cond_f rfl ?_
   refine wpIn_skip ?_
   refine inb_n (then_n ?_)
   refine plain ?_
   refine wI (d_move rfl) ?_
   refine wI (n_add (a := d) (b := 1) rfl rfl oo) ?_
   refine wI (d_assign rfl) ?_
   refine wF ([u1, (eN kk), u2, undef, undef, undef, (z 6), (ptr L15.bN 0), (eN 0), (sli sb 0 8 8), u30, (eN (rowWC ((NS.new 8 8 4 (fun _ _ => false)).stopAt kk lm) ([1, 1, 1, 1, 1, 1, 1, 1] : List Int) 0 (plD lb 8) 8)), v44, (eN (rowDoC s2.gD ([1, 1, 1, 1, 1, 1, 1, 1] : List Int).length (rowRC ([1, 1, 1, 1, 1, 1, 1, 1] : List Int) 0 s2))), (eN (d + 1)), (Value.bool true), (Value.bool false), u2, (eN lm.length), (Value.bool false), (Value.tuple #[(ptr L15.bN 0), (eN 0)]), (Value.agg #[(eN 8), (eN 8), (eN 4)]), (Value.tuple #[(ptr L15.bN 0), (eN 0)]), (ptr L15.bN 0), (eN 0), (eN 0), (Value.bool false), (sli sb 0 8 8), (eI k_), (eN ((k_ % ((8 : Nat) : Int)).toNat)), (eN (1 + ((k_ % ((8 : Nat) : Int)).toNat))), (ptr L15.bN 0), (eN kk), u2, u27, u1, u30, (ptr L15.bN 0), (sli sb 0 8 8), u30, (eN (rowWC ((NS.new 8 8 4 (fun _ _ => false)).stopAt kk lm) ([1, 1, 1, 1, 1, 1, 1, 1] : List Int) 0 (plD lb 8) 8)), (ptr L15.bN 0), u41, (Value.tuple #[v44, (eN (rowDoC s2.gD ([1, 1, 1, 1, 1, 1, 1, 1] : List Int).length (rowRC ([1, 1, 1, 1, 1, 1, 1, 1] : List Int) 0 s2)))]), (ptr L15.bN 0), (sli sb 0 8 8), (Value.tuple #[v44, (eN (rowDoC s2.gD ([1, 1, 1, 1, 1, 1, 1, 1] : List Int).length (rowRC ([1, 1, 1, 1, 1, 1, 1, 1] : List Int) 0 s2)))]), v44, (eN (rowDoC s2.gD ([1, 1, 1, 1, 1, 1, 1, 1] : List Int).length (rowRC ([1, 1, 1, 1, 1, 1, 1, 1] : List Int) 0 s2))), (eN (rowWC ((NS.new 8 8 4 (fun _ _ => false)).stopAt kk lm) ([1, 1, 1, 1, 1, 1, 1, 1] : List Int) 0 (plD lb 8) 8)), (Value.bool false), (Value.bool false), (eN (rowDoC s2.gD ([1, 1, 1, 1, 1, 1, 1, 1] : List Int).length (rowRC ([1, 1, 1, 1, 1, 1, 1, 1] : List Int) 0 s2))), (Value.bool false), (Value.bool false), (Value.bool false), v44, (eN ((pgRow (fun k_ => (pgD (rowRL ([1, 1, 1, 1, 1, 1, 1, 1] : List Int) 0 s2 k_)).1) vs45).length)), (Value.bool false), (Value.bool false), (eN d), (Value.bool (decide (d < 8))), (eN d), (eN (d + 1)), (eN d), (eN (d + 1)), (eN kk), (Value.bool true), (Value.bool true), v44, (eN d), (v55 7), (v55 8), (eN (((pgRow (fun k_ => (pgD (rowRL ([1, 1, 1, 1, 1, 1, 1, 1] : List Int) 0 s2 k_)).1) vs45).getD d (0, undef)).1)), (Value.bool false), (Value.bool false), v44, (eN d), (v55 14), (v55 15), ((pgRow (fun k_ => (pgD (rowRL ([1, 1, 1, 1, 1, 1, 1, 1] : List Int) 0 s2 k_)).1) vs45).getD d (0, undef)).2, (Value.string (strOf ((pgD (rowRL ([1, 1, 1, 1, 1, 1, 1, 1] : List Int) 0 s2 d)).2))), u30, (eN d), (ixp u30 d), (vs31.getD d undef), (Value.string (strOf (plD lb 8 d))), (Value.bool false), (Value.bool false), (Value.bool false), (Value.bool false), (eN d), (eN (d + 1)), (eN kk), (Value.bool false), (Value.bool false)] ++ (us 6 ++ [(Value.bool false), (Value.bool false)])) ?_
   refine wpL.done (then_n ?_)
   refine ⟨_, (d + 1), rfl, rfl, ⟨?_, ?_, ?_, ?_⟩, ?_⟩
   ·
    (try dsimp only)
    all_goals (omega)
   ·
    exact o53
   ·
    exact a20
   ·
    exact a16
   ·
    (try dsimp only)
    all_goals (omega)
  by_cases kyb : kk < (d + 1)
  ·
   have hd6 : d < vs45.length := by rw [l50]; exact hd_
   have hpa := pgRow_at (st := (fun k_ => (pgD (rowRL ([1, 1, 1, 1, 1, 1, 1, 1] : List Int) 0 s2 k_)).1)) hd6
   have hpl := pgRow_len (fun k_ => (pgD (rowRL ([1, 1, 1, 1, 1, 1, 1, 1] : List Int) 0 s2 k_)).1) vs45
   have hrd2 : pgD (rowRL ([1, 1, 1, 1, 1, 1, 1, 1] : List Int) 0 s2 d) = (0, []) := (htr.2 d hd_).2 kyb
   have hp1 : ((pgRow (fun k_ => (pgD (rowRL ([1, 1, 1, 1, 1, 1, 1, 1] : List Int) 0 s2 k_)).1) vs45).getD d (0, undef)).1 = 0 := by rw [hpa]; exact congrArg Prod.fst hrd2
   refine drawn' (O := (Or1 sb (Ors L15.S No))) (n := 40) [0, 1, 0, 7, 15, 31, 31, 127, 255, 511, 1023, 2047, 4095, 4095, 16383, 32767, 65535, 131071, 4095, 4095, 790527, 1839103, 3936255, 8388607, 16777215, 33554431, 67108863, 134217727, 268435455, 134217727, 1073741823, 2147483647, 4294967295, 4294967295, 17179869183, 34359738367, 68719476735, 137438953471, 274877906943, 549755813887] [(0, 64), (1, 65), (2, 66), (3, 67), (4, 68), (5, 69), (6, 70), (7, 71), (8, 72), (9, 73), (10, 74), (11, 75), (12, 76), (13, 77), (14, 78), (15, 79), (16, 80), (17, 81), (18, 82), (19, 83), (20, 84), (21, 85), (22, 86), (23, 87), (24, 88), (25, 89), (26, 90), (27, 91), (28, 92), (29, 93), (30, 94), (31, 95), (32, 96), (33, 97), (34, 98), (35, 99), (36, 100), (37, 101), (38, 102), (39, 103)] [0, 1, 2, 3, 4, 5, 6, 7, 8, 9, 10, 11, 12, 13, 14, 15, 16, 17, 18, 19, 20, 21, 22, 23, 24, 25, 26, 27, 28, 29, 30, 31, 32, 33, 34, 35, 36, 37, 38, 39] [] (fun i_ => ([RF.is (Or1 sb (Ors L15.S No)) (eN d), RF.is (Or1 sb (Ors L15.S No)) (eN (d + 1)), RF.is (Or1 sb (Ors L15.S No)) (eN kk), RF.is (Or1 sb (Ors L15.S No)) (Value.bool false), RF.is (Or1 sb (Ors L15.S No)) (Value.bool false), RF.is (Or1 sb (Ors L15.S No)) undef, RF.is (Or1 sb (Ors L15.S No)) undef, RF.is (Or1 sb (Ors L15.S No)) undef, RF.is (Or1 sb (Ors L15.S No)) undef, RF.is (Or1 sb (Ors L15.S No)) undef, RF.is (Or1 sb (Ors L15.S No)) undef, RF.is (Or1 sb (Ors L15.S No)) undef, RF.is (Or1 sb (Ors L15.S No)) undef, RF.is (Or1 sb (Ors L15.S No)) undef, RF.is (Or1 sb (Ors L15.S No)) undef, RF.is (Or1 sb (Ors L15.S No)) undef, RF.is (Or1 sb (Ors L15.S No)) undef, RF.is (Or1 sb (Ors L15.S No)) undef, RF.is (Or1 sb (Ors L15.S No)) undef, RF.is (Or1 sb (Ors L15.S No)) undef, RF.is (Or1 sb (Ors L15.S No)) undef, RF.is (Or1 sb (Ors L15.S No)) undef, RF.is (Or1 sb (Ors L15.S No)) undef, RF.is (Or1 sb (Ors L15.S No)) undef, RF.is (Or1 sb (Ors L15.S No)) undef, RF.is (Or1 sb (Ors L15.S No)) (Value.bool false), RF.is (Or1 sb (Ors L15.S No)) (Value.bool false), RF.is (Or1 sb (Ors L15.S No)) (eN d), RF.is (Or1 sb (Ors L15.S No)) (eN (d + 1)), RF.is (Or1 sb (Ors L15.S No)) (eN kk), RF.is (Or1 sb (Ors L15.S No)) (Value.bool true), RF.is (Or1 sb (Ors L15.S No)) (Value.bool true), RF.is (Or1 sb (Ors L15.S No)) v44, RF.is (Or1 sb (Ors L15.S No)) (eN d), RF.ps (Or1 sb (Ors L15.S No)) (Or1 sb (Ors L15.S (Old W.heap.size))) (At (kA 2 eG) ((pgRow (fun k_ => (pgD (rowRL ([1, 1, 1, 1, 1, 1, 1, 1] : List Int) 0 s2 k_)).1) vs45).getD d (0, undef))) (or1_mono (ors_mono no_any)), RF.ps (Or1 sb (Ors L15.S No)) (Or1 sb (Ors L15.S (Old W.heap.size))) (At kN (((pgRow (fun k_ => (pgD (rowRL ([1, 1, 1, 1, 1, 1, 1, 1] : List Int) 0 s2 k_)).1) vs45).getD d (0, undef)).1)) (or1_mono (ors_mono no_any)), RF.is (Or1 sb (Ors L15.S No)) (eN (((pgRow (fun k_ => (pgD (rowRL ([1, 1, 1, 1, 1, 1, 1, 1] : List Int) 0 s2 k_)).1) vs45).getD d (0, undef)).1)), RF.is (Or1 sb (Ors L15.S No)) (Value.bool false), RF.is (Or1 sb (Ors L15.S No)) (Value.bool false), RF.is (Or1 sb (Ors L15.S No)) (Value.bool false)] : List (RF (Or1 sb (Ors L15.S No)))).getD i_ (RF.any (Or1 sb (Ors L15.S No)))) (fun _ w_ => Arr 3 sb (([1, 1, 1, 1, 1, 1, 1, 1] : List Int).map eI) w_ ∧ Nd L15 (rowDo s2.gD ([1, 1, 1, 1, 1, 1, 1, 1] : List Int).length (rowR ([1, 1, 1, 1, 1, 1, 1, 1] : List Int) 0 s2) (rowRC ([1, 1, 1, 1, 1, 1, 1, 1] : List Int) 0 s2)) (Or1 sb No) w_) (fun v58 => [u1, (eN kk), u2, undef, undef, undef, (z 6), (ptr L15.bN 0), (eN 0), (sli sb 0 8 8), u30, (eN (rowWC ((NS.new 8 8 4 (fun _ _ => false)).stopAt kk lm) ([1, 1, 1, 1, 1, 1, 1, 1] : List Int) 0 (plD lb 8) 8)), v44, (eN (rowDoC s2.gD ([1, 1, 1, 1, 1, 1, 1, 1] : List Int).length (rowRC ([1, 1, 1, 1, 1, 1, 1, 1] : List Int) 0 s2))), (eN d), (Value.bool true), (Value.bool false), u2, (eN lm.length), (Value.bool false), (Value.tuple #[(ptr L15.bN 0), (eN 0)]), (Value.agg #[(eN 8), (eN 8), (eN 4)]), (Value.tuple #[(ptr L15.bN 0), (eN 0)]), (ptr L15.bN 0), (eN 0), (eN 0), (Value.bool false), (sli sb 0 8 8), (eI k_), (eN ((k_ % ((8 : Nat) : Int)).toNat)), (eN (1 + ((k_ % ((8 : Nat) : Int)).toNat))), (ptr L15.bN 0), (eN kk), u2, u27, u1, u30, (ptr L15.bN 0), (sli sb 0 8 8), u30, (eN (rowWC ((NS.new 8 8 4 (fun _ _ => false)).stopAt kk lm) ([1, 1, 1, 1, 1, 1, 1, 1] : List Int) 0 (plD lb 8) 8)), (ptr L15.bN 0), u41, (Value.tuple #[v44, (eN (rowDoC s2.gD ([1, 1, 1, 1, 1, 1, 1, 1] : List Int).length (rowRC ([1, 1, 1, 1, 1, 1, 1, 1] : List Int) 0 s2)))]), (ptr L15.bN 0), (sli sb 0 8 8), (Value.tuple #[v44, (eN (rowDoC s2.gD ([1, 1, 1, 1, 1, 1, 1, 1] : List Int).length (rowRC ([1, 1, 1, 1, 1, 1, 1, 1] : List Int) 0 s2)))]), v44, (eN (rowDoC s2.gD ([1, 1, 1, 1, 1, 1, 1, 1] : List Int).length (rowRC ([1, 1, 1, 1, 1, 1, 1, 1] : List Int) 0 s2))), (eN (rowWC ((NS.new 8 8 4 (fun _ _ => false)).stopAt kk lm) ([1, 1, 1, 1, 1, 1, 1, 1] : List Int) 0 (plD lb 8) 8)), (Value.bool false), (Value.bool false), (eN (rowDoC s2.gD ([1, 1, 1, 1, 1, 1, 1, 1] : List Int).length (rowRC ([1, 1, 1, 1, 1, 1, 1, 1] : List Int) 0 s2))), (Value.bool false), (Value.bool false), (Value.bool false), v44, (eN ((pgRow (fun k_ => (pgD (rowRL ([1, 1, 1, 1, 1, 1, 1, 1] : List Int) 0 s2 k_)).1) vs45).length)), (Value.bool false), (Value.bool false), (eN d), (Value.bool (decide (d < 8))), (z 62), (z 63), (v58 0), (v58 1), (v58 2), (v58 3), (v58 4), (v58 5), (v58 6), (v58 7), (v58 8), (v58 9), (v58 10), (v58 11), (v58 12), (v58 13), (v58 14), (v58 15), (v58 16), (v58 17), (v58 18), (v58 19), (v58 20), (v58 21), (v58 22), (v58 23), (v58 24), (v58 25), (v58 26), (v58 27), (v58 28), (v58 29), (v58 30), (v58 31), (v58 32), (v58 33), (v58 34), (v58 35), (v58 36), (v58 37), (v58 38), (v58 39)]) s_mx kr rfl kr (by rfl) (fun v_ => by kernel_rfl) (fun _ => fun w_ w2_ h ho => by obtain ⟨r_a20, r_a16⟩ := h; exact ⟨r_a20.step0 ho, r_a16.step0 ho⟩) ⟨a20, a16⟩ ?_ ?_ ?_
   ·
    refine ls_cons ?_ ?_
    ·
     intro v58 lo hi w_ k_ hO hd _ _ hk_ _ hR hold
     obtain ⟨r_a20, r_a16⟩ := hR
     clear hd hold
     refine ⟨_, rfl, gd rfl ?_⟩
     exact Does.is (d_move rfl)
    refine ls_cons ?_ ?_
    ·
     intro v58 lo hi w_ k_ hO hd _ _ hk_ _ hR hold
     obtain ⟨r_a20, r_a16⟩ := hR
     have e0 : v58 0 = (eN d) := hd 0 kr
     clear hd hold
     refine ⟨_, rfl, gd rfl ?_⟩
     exact Does.is (n_add (a := d) (b := 1) e0 rfl oo)
    refine ls_cons ?_ ?_
    ·
     intro v58 lo hi w_ k_ hO hd _ _ hk_ _ hR hold
     obtain ⟨r_a20, r_a16⟩ := hR
     clear hd hold
     refine ⟨_, rfl, gd rfl ?_⟩
     exact Does.is (d_move rfl)
    refine ls_cons ?_ ?_
    ·
     intro v58 lo hi w_ k_ hO hd _ _ hk_ _ hR hold
     obtain ⟨r_a20, r_a16⟩ := hR
     have e1 : v58 1 = (eN (d + 1)) := hd 1 kr
     have e2 : v58 2 = (eN kk) := hd 2 kr
     clear hd hold
     refine ⟨_, rfl, gd rfl ?_⟩
     exact Does.is (n_lss (a := (d + 1)) (b := kk) e1 e2 (decide_eq_false kya))
    refine ls_cons ?_ ?_
    ·
     intro v58 lo hi w_ k_ hO hd _ _ hk_ _ hR hold
     obtain ⟨r_a20, r_a16⟩ := hR
     have e3 : v58 3 = (Value.bool false) := hd 3 kr
     clear hd hold
     refine ⟨_, rfl, gd rfl ?_⟩
     exact Does.is (d_move (v := (Value.bool false)) e3)
    refine ls_cons ?_ ?_
    ·
     intro v58 lo hi w_ k_ hO hd _ _ hk_ _ hR hold
     obtain ⟨r_a20, r_a16⟩ := hR
     have e4 : v58 4 = (Value.bool false) := hd 4 kr
     clear hd hold
     refine ⟨_, rfl, gd_off rfl rfl rfl (nb rfl) e4 ?_⟩
     exact ⟨rfl, Only.refl _ _⟩
    refine ls_cons ?_ ?_
    ·
     intro v58 lo hi w_ k_ hO hd _ _ hk_ _ hR hold
     obtain ⟨r_a20, r_a16⟩ := hR
     have e4 : v58 4 = (Value.bool false) := hd 4 kr
     clear hd hold
     refine ⟨_, rfl, gd_off rfl rfl rfl (nb rfl) e4 ?_⟩
     exact ⟨rfl, Only.refl _ _⟩
    refine ls_cons ?_ ?_
    ·
     intro v58 lo hi w_ k_ hO hd _ _ hk_ _ hR hold
     obtain ⟨r_a20, r_a16⟩ := hR
     have e4 : v58 4 = (Value.bool false) := hd 4 kr
     clear hd hold
     refine ⟨_, rfl, gd_off rfl rfl rfl (nb rfl) e4 ?_⟩
     exact ⟨rfl, Only.refl _ _⟩
    refine ls_cons ?_ ?_
    ·
     intro v58 lo hi w_ k_ hO hd _ _ hk_ _ hR hold
     obtain ⟨r_a20, r_a16⟩ := hR
     have e4 : v58 4 = (Value.bool false) := hd 4 kr
     clear hd hold
     refine ⟨_, rfl, gd_off rfl rfl rfl (nb rfl) e4 ?_⟩
     exact ⟨rfl, Only.refl _ _⟩
    refine ls_cons ?_ ?_
    ·
     intro v58 lo hi w_ k_ hO hd _ _ hk_ _ hR hold
     obtain ⟨r_a20, r_a16⟩ := hR
     have e4 : v58 4 = (Value.bool false) := hd 4 kr
     clear hd hold
     refine ⟨_, rfl, gd_off rfl rfl rfl (nb rfl) e4 ?_⟩
     exact ⟨rfl, Only.refl _ _⟩
    refine ls_cons ?_ ?_
    ·
     intro v58 lo hi w_ k_ hO hd _ _ hk_ _ hR hold
     obtain ⟨r_a20, r_a16⟩ := hR
     have e4 : v58 4 = (Value.bool false) := hd 4 kr
     clear hd hold
     refine ⟨_, rfl, gd_off rfl rfl rfl (nb rfl) e4 ?_⟩
     exact ⟨rfl, Only.refl _ _⟩
    refine ls_cons ?_ ?_
    ·
     intro v58 lo hi w_ k_ hO hd _ _ hk_ _ hR hold
     obtain ⟨r_a20, r_a16⟩ := hR
     have e4 : v58 4 = (Value.bool false) := hd 4 kr
     clear hd hold
     refine ⟨_, rfl, gd_off rfl rfl rfl (nb rfl) e4 ?_⟩
     exact ⟨rfl, Only.refl _ _⟩
    refine ls_cons ?_ ?_
    ·
     intro v58 lo hi w_ k_ hO hd _ _ hk_ _ hR hold
     obtain ⟨r_a20, r_a16⟩ := hR
     have e11 : v58 11 = undef := hd 11 kr
     clear hd hold
     refine ⟨_, rfl, gd_offu rfl rfl rfl (nb rfl) e11 ?_⟩
     exact ⟨rfl, Only.refl _ _⟩
    refine ls_cons ?_ ?_
    ·
     intro v58 lo hi w_ k_ hO hd _ _ hk_ _ hR hold
     obtain ⟨r_a20, r_a16⟩ := hR
     have e11 : v58 11 = undef := hd 11 kr
     clear hd hold
     refine ⟨_, rfl, gd_offu rfl rfl rfl (nb rfl) e11 ?_⟩
     exact ⟨rfl, Only.refl _ _⟩
    refine ls_cons ?_ ?_
    ·
     intro v58 lo hi w_ k_ hO hd _ _ hk_ _ hR hold
     obtain ⟨r_a20, r_a16⟩ := hR
     have e11 : v58 11 = undef := hd 11 kr
     clear hd hold
     refine ⟨_, rfl, gd_offu rfl rfl rfl (nb rfl) e11 ?_⟩
     exact ⟨rfl, Only.refl _ _⟩
    refine ls_cons ?_ ?_
    ·
     intro v58 lo hi w_ k_ hO hd _ _ hk_ _ hR hold
     obtain ⟨r_a20, r_a16⟩ := hR
     have e11 : v58 11 = undef := hd 11 kr
     clear hd hold
     refine ⟨_, rfl, gd_offu rfl rfl rfl (nb rfl) e11 ?_⟩
     exact ⟨rfl, Only.refl _ _⟩
    refine ls_cons ?_ ?_
    ·
     intro v58 lo hi w_ k_ hO hd _ _ hk_ _ hR hold
     obtain ⟨r_a20, r_a16⟩ := hR
     have e11 : v58 11 = undef := hd 11 kr
     clear hd hold
     refine ⟨_, rfl, gd_offu rfl rfl rfl (nb rfl) e11 ?_⟩
     exact ⟨rfl, Only.refl _ _⟩
    refine ls_cons ?_ ?_
    ·
     intro v58 lo hi w_ k_ hO hd _ _ hk_ _ hR hold
     obtain ⟨r_a20, r_a16⟩ := hR
     have e11 : v58 11 = undef := hd 11 kr
     clear hd hold
     refine ⟨_, rfl, gd_offu rfl rfl rfl (nb rfl) e11 ?_⟩
     exact ⟨rfl, Only.refl _ _⟩
    refine ls_cons ?_ ?_
    ·
     intro v58 lo hi w_ k_ hO hd _ _ hk_ _ hR hold
     obtain ⟨r_a20, r_a16⟩ := hR
     have e11 : v58 11 = undef := hd 11 kr
     clear hd hold
     refine ⟨_, rfl, gd_offu rfl rfl rfl (nb rfl) e11 ?_⟩
     exact ⟨rfl, Only.refl _ _⟩
    refine ls_cons ?_ ?_
    ·
     intro v58 lo hi w_ k_ hO hd _ _ hk_ _ hR hold
     obtain ⟨r_a20, r_a16⟩ := hR
     have e11 : v58 11 = undef := hd 11 kr
     clear hd hold
     refine ⟨_, rfl, gd_offu rfl rfl rfl (nb rfl) e11 ?_⟩
     exact ⟨rfl, Only.refl _ _⟩
    refine ls_cons ?_ ?_
    ·
     intro v58 lo hi w_ k_ hO hd _ _ hk_ _ hR hold
     obtain ⟨r_a20, r_a16⟩ := hR
     have e11 : v58 11 = undef := hd 11 kr
     clear hd hold
     refine ⟨_, rfl, gd_offu rfl rfl rfl (nb rfl) e11 ?_⟩
     exact ⟨rfl, Only.refl _ _⟩
    refine ls_cons ?_ ?_
    ·
     intro v58 lo hi w_ k_ hO hd _ _ hk_ _ hR hold
     obtain ⟨r_a20, r_a16⟩ := hR
     have e11 : v58 11 = undef := hd 11 kr
     clear hd hold
     refine ⟨_, rfl, gd_offu rfl rfl rfl (nb rfl) e11 ?_⟩
     exact ⟨rfl, Only.refl _ _⟩
    refine ls_cons ?_ ?_
    ·
     intro v58 lo hi w_ k_ hO hd _ _ hk_ _ hR hold
     obtain ⟨r_a20, r_a16⟩ := hR
     have e11 : v58 11 = undef := hd 11 kr
     clear hd hold
     refine ⟨_, rfl, gd_offu rfl rfl rfl (nb rfl) e11 ?_⟩
     exact ⟨rfl, Only.refl _ _⟩
    refine ls_cons ?_ ?_
    ·
     intro v58 lo hi w_ k_ hO hd _ _ hk_ _ hR hold
     obtain ⟨r_a20, r_a16⟩ := hR
     have e11 : v58 11 = undef := hd 11 kr
     clear hd hold
     refine ⟨_, rfl, gd_offu rfl rfl rfl (nb rfl) e11 ?_⟩
     exact ⟨rfl, Only.refl _ _⟩
    refine ls_cons ?_ ?_
    ·
     intro v58 lo hi w_ k_ hO hd _ _ hk_ _ hR hold
     obtain ⟨r_a20, r_a16⟩ := hR
     have e4 : v58 4 = (Value.bool false) := hd 4 kr
     clear hd hold
     refine ⟨_, rfl, gd_off rfl rfl rfl (nb rfl) e4 ?_⟩
     exact ⟨rfl, Only.refl _ _⟩
    refine ls_cons ?_ ?_
    ·
     intro v58 lo hi w_ k_ hO hd _ _ hk_ _ hR hold
     obtain ⟨r_a20, r_a16⟩ := hR
     have e4 : v58 4 = (Value.bool false) := hd 4 kr
     clear hd hold
     refine ⟨_, rfl, gd rfl ?_⟩
     exact Does.is (d_pick (b := false) (v := (Value.bool false)) e4 rfl)
    refine ls_cons ?_ ?_
    ·
     intro v58 lo hi w_ k_ hO hd _ _ hk_ _ hR hold
     obtain ⟨r_a20, r_a16⟩ := hR
     have e25 : v58 25 = (Value.bool false) := hd 25 kr
     clear hd hold
     refine ⟨_, rfl, gd rfl ?_⟩
     exact Does.is (d_move (v := (Value.bool false)) e25)
    refine ls_cons ?_ ?_
    ·
     intro v58 lo hi w_ k_ hO hd _ _ hk_ _ hR hold
     obtain ⟨r_a20, r_a16⟩ := hR
     have e26 : v58 26 = (Value.bool false) := hd 26 kr
     clear hd hold
     refine ⟨_, rfl, gd_on rfl rfl rfl (nb rfl) e26 ?_⟩
     exact Does.is (d_move rfl)
    refine ls_cons ?_ ?_
    ·
     intro v58 lo hi w_ k_ hO hd _ _ hk_ _ hR hold
     obtain ⟨r_a20, r_a16⟩ := hR
     have e26 : v58 26 = (Value.bool false) := hd 26 kr
     have e27 : v58 27 = (eN d) := hd 27 kr
     clear hd hold
     refine ⟨_, rfl, gd_on rfl rfl rfl (nb rfl) e26 ?_⟩
     exact Does.is (n_add (a := d) (b := 1) e27 rfl oo)
    refine ls_cons ?_ ?_
    ·
     intro v58 lo hi w_ k_ hO hd _ _ hk_ _ hR hold
     obtain ⟨r_a20, r_a16⟩ := hR
     have e26 : v58 26 = (Value.bool false) := hd 26 kr
     clear hd hold
     refine ⟨_, rfl, gd_on rfl rfl rfl (nb rfl) e26 ?_⟩
     exact Does.is (d_move rfl)
    refine ls_cons ?_ ?_
    ·
     intro v58 lo hi w_ k_ hO hd _ _ hk_ _ hR hold
     obtain ⟨r_a20, r_a16⟩ := hR
     have e26 : v58 26 = (Value.bool false) := hd 26 kr
     have e28 : v58 28 = (eN (d + 1)) := hd 28 kr
     have e29 : v58 29 = (eN kk) := hd 29 kr
     clear hd hold
     refine ⟨_, rfl, gd_on rfl rfl rfl (nb rfl) e26 ?_⟩
     exact Does.is (n_gtr (a := (d + 1)) (b := kk) e28 e29 (decide_eq_true kyb))
    refine ls_cons ?_ ?_
    ·
     intro v58 lo hi w_ k_ hO hd _ _ hk_ _ hR hold
     obtain ⟨r_a20, r_a16⟩ := hR
     have e26 : v58 26 = (Value.bool false) := hd 26 kr
     have e30 : v58 30 = (Value.bool true) := hd 30 kr
     clear hd hold
     refine ⟨_, rfl, gd_on rfl rfl rfl (nb rfl) e26 ?_⟩
     exact Does.is (d_move (v := (Value.bool true)) e30)
    refine ls_cons ?_ ?_
    ·
     intro v58 lo hi w_ k_ hO hd _ _ hk_ _ hR hold
     obtain ⟨r_a20, r_a16⟩ := hR
     have e31 : v58 31 = (Value.bool true) := hd 31 kr
     clear hd hold
     refine ⟨_, rfl, gd_on rfl rfl rfl (nb rfl) e31 ?_⟩
     exact Does.is (d_move rfl)
    refine ls_cons ?_ ?_
    ·
     intro v58 lo hi w_ k_ hO hd _ _ hk_ _ hR hold
     obtain ⟨r_a20, r_a16⟩ := hR
     have e31 : v58 31 = (Value.bool true) := hd 31 kr
     clear hd hold
     refine ⟨_, rfl, gd_on rfl rfl rfl (nb rfl) e31 ?_⟩
     exact Does.is (d_move rfl)
    refine ls_cons ?_ ?_
    ·
     intro v58 lo hi w_ k_ hO hd _ _ hk_ _ hR hold
     obtain ⟨r_a20, r_a16⟩ := hR
     have e31 : v58 31 = (Value.bool true) := hd 31 kr
     have e32 : v58 32 = v44 := hd 32 kr
     have e33 : v58 33 = (eN d) := hd 33 kr
     clear hd hold
     refine ⟨_, rfl, gd_on rfl rfl rfl (nb rfl) e31 ?_⟩
     refine Does.mono (d_indexS (q := (kA 2 eG)) (xs := (pgRow (fun k_ => (pgD (rowRL ([1, 1, 1, 1, 1, 1, 1, 1] : List Int) 0 s2 k_)).1) vs45)) (v := ((pgRow (fun k_ => (pgD (rowRL ([1, 1, 1, 1, 1, 1, 1, 1] : List Int) 0 s2 k_)).1) vs45).getD d (0, undef))) Try.underlying53 s_ti32 e32 (f51.step hO (or1_mono (ors_mono no_any))) (show _ = Value.int _ (d : Int) from e33) oo (g_at (by have := pgRow_len (fun k_ => (pgD (rowRL ([1, 1, 1, 1, 1, 1, 1, 1] : List Int) 0 s2 k_)).1) vs45; first | omega | (simp; done) | (simp; omega)))) (fun u w' h => ⟨h.2 ▸ h.1, h.2 ▸ Only.refl _ _⟩)
    refine ls_cons ?_ ?_
    ·
     intro v58 lo hi w_ k_ hO hd _ _ hk_ _ hR hold
     obtain ⟨r_a20, r_a16⟩ := hR
     have e31 : v58 31 = (Value.bool true) := hd 31 kr
     have d34 : Ps (Or1 sb (Ors L15.S (Old W.heap.size))) (At (kA 2 eG) ((pgRow (fun k_ => (pgD (rowRL ([1, 1, 1, 1, 1, 1, 1, 1] : List Int) 0 s2 k_)).1) vs45).getD d (0, undef)) (v58 34)) w_ := hd 34 kr
     clear hd hold
     refine ⟨_, rfl, gd_on rfl rfl rfl (nb rfl) e31 ?_⟩
     refine Does.mono (d_fieldG0 (v := ((pgRow (fun k_ => (pgD (rowRL ([1, 1, 1, 1, 1, 1, 1, 1] : List Int) 0 s2 k_)).1) vs45).getD d (0, undef))) Try.underlying32 rfl s_ti3 rfl rfl d34) (fun u w' h => ⟨h.2 ▸ h.1, h.2 ▸ Only.refl _ _⟩)
    refine ls_cons ?_ ?_
    ·
     intro v58 lo hi w_ k_ hO hd _ _ hk_ _ hR hold
     obtain ⟨r_a20, r_a16⟩ := hR
     have e31 : v58 31 = (Value.bool true) := hd 31 kr
     have d35 : Ps (Or1 sb (Ors L15.S (Old W.heap.size))) (At kN (((pgRow (fun k_ => (pgD (rowRL ([1, 1, 1, 1, 1, 1, 1, 1] : List Int) 0 s2 k_)).1) vs45).getD d (0, undef)).1) (v58 35)) w_ := hd 35 kr
     clear hd hold
     refine ⟨_, rfl, gd_on rfl rfl rfl (nb rfl) e31 ?_⟩
     exact Does.is (d_loadAt (enc := eN) (v := ((pgRow (fun k_ => (pgD (rowRL ([1, 1, 1, 1, 1, 1, 1, 1] : List Int) 0 s2 k_)).1) vs45).getD d (0, undef)).1) ⟨_, Try.underlying3, rfl⟩ rfl d35)
    refine ls_cons ?_ ?_
    ·
     intro v58 lo hi w_ k_ hO hd _ _ hk_ _ hR hold
     obtain ⟨r_a20, r_a16⟩ := hR
     have e31 : v58 31 = (Value.bool true) := hd 31 kr
     have e36 : v58 36 = (eN (((pgRow (fun k_ => (pgD (rowRL ([1, 1, 1, 1, 1, 1, 1, 1] : List Int) 0 s2 k_)).1) vs45).getD d (0, undef)).1)) := hd 36 kr
     clear hd hold
     refine ⟨_, rfl, gd_on rfl rfl rfl (nb rfl) e31 ?_⟩
     exact Does.is (n_neq (a := (((pgRow (fun k_ => (pgD (rowRL ([1, 1, 1, 1, 1, 1, 1, 1] : List Int) 0 s2 k_)).1) vs45).getD d (0, undef)).1)) (b := 0) e36 rfl (by rw [decide_eq_true hp1] <;> rfl))
    refine ls_cons ?_ ?_
    ·
     intro v58 lo hi w_ k_ hO hd _ _ hk_ _ hR hold
     obtain ⟨r_a20, r_a16⟩ := hR
     have e26 : v58 26 = (Value.bool false) := hd 26 kr
     have e31 : v58 31 = (Value.bool true) := hd 31 kr
     have e37 : v58 37 = (Value.bool false) := hd 37 kr
     clear hd hold
     refine ⟨_, rfl, gd_on rfl rfl rfl (nb rfl) e26 ?_⟩
     exact Does.is (d_pick (b := true) (v := (Value.bool false)) e31 e37)
    refine ls_cons ?_ ?_
    ·
     intro v58 lo hi w_ k_ hO hd _ _ hk_ _ hR hold
     obtain ⟨r_a20, r_a16⟩ := hR
     have e26 : v58 26 = (Value.bool false) := hd 26 kr
     have e38 : v58 38 = (Value.bool false) := hd 38 kr
     clear hd hold
     refine ⟨_, rfl, gd rfl ?_⟩
     exact Does.is (d_pick (b := false) (v := (Value.bool false)) e26 e38)
    exact ls_nil
   ·
    exact ms_nil
   intro v58 lo_ hi_ w59 o60 hd iv_ hR
   have e0 : v58 0 = (eN d) := hd 0 (by decide)
   have e1 : v58 1 = (eN (d + 1)) := hd 1 (by decide)
   have e2 : v58 2 = (eN kk) := hd 2 (by decide)
   have e3 : v58 3 = (Value.bool false) := hd 3 (by decide)
   have e4 : v58 4 = (Value.bool false) := hd 4 (by decide)
   have e5 : v58 5 = undef := hd 5 (by decide)
   have e6 : v58 6 = undef := hd 6 (by decide)
   have e7 : v58 7 = undef := hd 7 (by decide)
   have e8 : v58 8 = undef := hd 8 (by decide)
   have e9 : v58 9 = undef := hd 9 (by decide)
   have e10 : v58 10 = undef := hd 10 (by decide)
   have e11 : v58 11 = undef := hd 11 (by decide)
   have e12 : v58 12 = undef := hd 12 (by decide)
   have e13 : v58 13 = undef := hd 13 (by decide)
   have e14 : v58 14 = undef := hd 14 (by decide)
   have e15 : v58 15 = undef := hd 15 (by decide)
   have e16 : v58 16 = undef := hd 16 (by decide)
   have e17 : v58 17 = undef := hd 17 (by decide)
   have e18 : v58 18 = undef := hd 18 (by decide)
   have e19 : v58 19 = undef := hd 19 (by decide)
   have e20 : v58 20 = undef := hd 20 (by decide)
   have e21 : v58 21 = undef := hd 21 (by decide)
   have e22 : v58 22 = undef := hd 22 (by decide)
   have e23 : v58 23 = undef := hd 23 (by decide)
   have e24 : v58 24 = undef := hd 24 (by decide)
   have e25 : v58 25 = (Value.bool false) := hd 25 (by decide)
   have e26 : v58 26 = (Value.bool false) := hd 26 (by decide)
   have e27 : v58 27 = (eN d) := hd 27 (by decide)
   have e28 : v58 28 = (eN (d + 1)) := hd 28 (by decide)
   have e29 : v58 29 = (eN kk) := hd 29 (by decide)
   have e30 : v58 30 = (Value.bool true) := hd 30 (by decide)
   have e31 : v58 31 = (Value.bool true) := hd 31 (by decide)
   have e32 : v58 32 = v44 := hd 32 (by decide)
   have e33 : v58 33 = (eN d) := hd 33 (by decide)
   have e36 : v58 36 = (eN (((pgRow (fun k_ => (pgD (rowRL ([1, 1, 1, 1, 1, 1, 1, 1] : List Int) 0 s2 k_)).1) vs45).getD d (0, undef)).1)) := hd 36 (by decide)
   have e37 : v58 37 = (Value.bool false) := hd 37 (by decide)
   have e38 : v58 38 = (Value.bool false) := hd 38 (by decide)
   have e39 : v58 39 = (Value.bool false) := hd 39 (by decide)
   have f_v58_34 : Ps (Or1 sb (Ors L15.S (Old W.heap.size))) (At (kA 2 eG) ((pgRow (fun k_ => (pgD (rowRL ([1, 1, 1, 1, 1, 1, 1, 1] : List Int) 0 s2 k_)).1) vs45).getD d (0, undef)) (v58 34)) w59 := hd 34 (by decide)
   have f_v58_35 : Ps (Or1 sb (Ors L15.S (Old W.heap.size))) (At kN (((pgRow (fun k_ => (pgD (rowRL ([1, 1, 1, 1, 1, 1, 1, 1] : List Int) 0 s2 k_)).1) vs45).getD d (0, undef)).1) (v58 35)) w59 := hd 35 (by decide)
   clear hd iv_ lo_ hi_
   refine fr_eq (l' := ([u1, (eN kk), u2, undef, undef, undef, (z 6), (ptr L15.bN 0), (eN 0), (sli sb 0 8 8), u30, (eN (rowWC ((NS.new 8 8 4 (fun _ _ => false)).stopAt kk lm) ([1, 1, 1, 1, 1, 1, 1, 1] : List Int) 0 (plD lb 8) 8)), v44, (eN (rowDoC s2.gD ([1, 1, 1, 1, 1, 1, 1, 1] : List Int).length (rowRC ([1, 1, 1, 1, 1, 1, 1, 1] : List Int) 0 s2))), (eN d), (Value.bool true), (Value.bool false), u2, (eN lm.length), (Value.bool false), (Value.tuple #[(ptr L15.bN 0), (eN 0)]), (Value.agg #[(eN 8), (eN 8), (eN 4)]), (Value.tuple #[(ptr L15.bN 0), (eN 0)]), (ptr L15.bN 0), (eN 0), (eN 0), (Value.bool false), (sli sb 0 8 8), (eI k_), (eN ((k_ % ((8 : Nat) : Int)).toNat)), (eN (1 + ((k_ % ((8 : Nat) : Int)).toNat))), (ptr L15.bN 0), (eN kk), u2, u27, u1, u30, (ptr L15.bN 0), (sli sb 0 8 8), u30, (eN (rowWC ((NS.new 8 8 4 (fun _ _ => false)).stopAt kk lm) ([1, 1, 1, 1, 1, 1, 1, 1] : List Int) 0 (plD lb 8) 8)), (ptr L15.bN 0), u41, (Value.tuple #[v44, (eN (rowDoC s2.gD ([1, 1, 1, 1, 1, 1, 1, 1] : List Int).length (rowRC ([1, 1, 1, 1, 1, 1, 1, 1] : List Int) 0 s2)))]), (ptr L15.bN 0), (sli sb 0 8 8), (Value.tuple #[v44, (eN (rowDoC s2.gD ([1, 1, 1, 1, 1, 1, 1, 1] : List Int).length (rowRC ([1, 1, 1, 1, 1, 1, 1, 1] : List Int) 0 s2)))]), v44, (eN (rowDoC s2.gD ([1, 1, 1, 1, 1, 1, 1, 1] : List Int).length (rowRC ([1, 1, 1, 1, 1, 1, 1, 1] : List Int) 0 s2))), (eN (rowWC ((NS.new 8 8 4 (fun _ _ => false)).stopAt kk lm) ([1, 1, 1, 1, 1, 1, 1, 1] : List Int) 0 (plD lb 8) 8)), (Value.bool false), (Value.bool false), (eN (rowDoC s2.gD ([1, 1, 1, 1, 1, 1, 1, 1] : List Int).length (rowRC ([1, 1, 1, 1, 1, 1, 1, 1] : List Int) 0 s2))), (Value.bool false), (Value.bool false), (Value.bool false), v44, (eN ((pgRow (fun k_ => (pgD (rowRL ([1, 1, 1, 1, 1, 1, 1, 1] : List Int) 0 s2 k_)).1) vs45).length)), (Value.bool false), (Value.bool false), (eN d), (Value.bool (decide (d < 8))), (z 62), (z 63), (eN d), (eN (d + 1)), (eN kk), (Value.bool false), (Value.bool false)] ++ (us 20 ++ [(Value.bool false), (Value.bool false), (eN d), (eN (d + 1)), (eN kk), (Value.bool true), (Value.bool true), v44, (eN d), (v58 34), (v58 35), (eN (((pgRow (fun k_ => (pgD (rowRL ([1, 1, 1, 1, 1, 1, 1, 1] : List Int) 0 s2 k_)).1) vs45).getD d (0, undef)).1)), (Value.bool false), (Value.bool false), (Value.bool false)]))) (by rw [e0, e1, e2, e3, e4, e5, e6, e7, e8, e9, e10, e11, e12, e13, e14, e15, e16, e17, e18, e19, e20, e21, e22, e23, e24, e25, e26, e27, e28, e29, e30, e31, e32, e33, e36, e37, e38, e39] <;> rfl) ?_
   clear e0 e1 e2 e3 e4 e5 e6 e7 e8 e9 e10 e11 e12 e13 e14 e15 e16 e17 e18 e19 e20 e21 e22 e23 e24 e25 e26 e27 e28 e29 e30 e31 e32 e33 e36 e37 e38 e39
   replace h1 := h1.step o60 (or1_mono (ors_mono no_any))
   replace h2 := h2.step o60 (or1_mono (ors_mono no_any))
   replace f33 := f33.step o60 (or1_mono (ors_mono no_any))
   replace f34 := f34.step o60 (or1_mono (ors_mono no_any))
   replace f51 := f51.step o60 (or1_mono (ors_mono no_any))
   replace f52 := f52.step o60 (or1_mono (ors_mono no_any))
   obtain ⟨xr_a20, xr_a16⟩ := hR
   replace a20 : Arr 3 sb (([1, 1, 1, 1, 1, 1, 1, 1] : List Int).map eI) w59 := xr_a20
   replace a16 := xr_a16
   clear xr_a20 xr_a16
   replace oW := oW.tail o60 (tl_new g_oW_sb (tl_snew g_oW_L15 tl_no))
   replace o53 := o53.tail o60 (tl_in in1 (tl_sin (sub2 sub1) tl_no))
   refine then_n ?_
   refine cond_f rfl ?_
   refine wpIn_skip ?_
   refine inb_n (then_n ?_)
   refine plain ?_
   refine wI (d_move rfl) ?_
   refine wI (n_add (a := d) (b := 1) rfl rfl oo) ?_
   refine wI (d_assign rfl) ?_
   refine wF ([u1, (eN kk), u2, undef, undef, undef, (z 6), (ptr L15.bN 0), (eN 0), (sli sb 0 8 8), u30, (eN (rowWC ((NS.new 8 8 4 (fun _ _ => false)).stopAt kk lm) ([1, 1, 1, 1, 1, 1, 1, 1] : List Int) 0 (plD lb 8) 8)), v44, (eN (rowDoC s2.gD ([1, 1, 1, 1, 1, 1, 1, 1] : List Int).length (rowRC ([1, 1, 1, 1, 1, 1, 1, 1] : List Int) 0 s2))), (eN (d + 1)), (Value.bool true), (Value.bool false), u2, (eN lm.length), (Value.bool false), (Value.tuple #[(ptr L15.bN 0), (eN 0)]), (Value.agg #[(eN 8), (eN 8), (eN 4)]), (Value.tuple #[(ptr L15.bN 0), (eN 0)]), (ptr L15.bN 0), (eN 0), (eN 0), (Value.bool false), (sli sb 0 8 8), (eI k_), (eN ((k_ % ((8 : Nat) : Int)).toNat)), (eN (1 + ((k_ % ((8 : Nat) : Int)).toNat))), (ptr L15.bN 0), (eN kk), u2, u27, u1, u30, (ptr L15.bN 0), (sli sb 0 8 8), u30, (eN (rowWC ((NS.new 8 8 4 (fun _ _ => false)).stopAt kk lm) ([1, 1, 1, 1, 1, 1, 1, 1] : List Int) 0 (plD lb 8) 8)), (ptr L15.bN 0), u41, (Value.tuple #[v44, (eN (rowDoC s2.gD ([1, 1, 1, 1, 1, 1, 1, 1] : List Int).length (rowRC ([1, 1, 1, 1, 1, 1, 1, 1] : List Int) 0 s2)))]), (ptr L15.bN 0), (sli sb 0 8 8), (Value.tuple #[v44, (eN (rowDoC s2.gD ([1, 1, 1, 1, 1, 1, 1, 1] : List Int).length (rowRC ([1, 1, 1, 1, 1, 1, 1, 1] : List Int) 0 s2)))]), v44, (eN (rowDoC s2.gD ([1, 1, 1, 1, 1, 1, 1, 1] : List Int).length (rowRC ([1, 1, 1, 1, 1, 1, 1, 1] : List Int) 0 s2))), (eN (rowWC ((NS.new 8 8 4 (fun _ _ => false)).stopAt kk lm) ([1, 1, 1, 1, 1, 1, 1, 1] : List Int) 0 (plD lb 8) 8)), (Value.bool false), (Value.bool false), (eN (rowDoC s2.gD ([1, 1, 1, 1, 1, 1, 1, 1] : List Int).length (rowRC ([1, 1, 1, 1, 1, 1, 1, 1] : List Int) 0 s2))), (Value.bool false), (Value.bool false), (Value.bool false), v44, (eN ((pgRow (fun k_ => (pgD (rowRL ([1, 1, 1, 1, 1, 1, 1, 1] : List Int) 0 s2 k_)).1) vs45).length)), (Value.bool false), (Value.bool false), (eN d), (Value.bool (decide (d < 8))), (eN d), (eN (d + 1)), (eN d), (eN (d + 1)), (eN kk), (Value.bool false), (Value.bool false)] ++ (us 20 ++ [(Value.bool false), (Value.bool false), (eN d), (eN (d + 1)), (eN kk), (Value.bool true), (Value.bool true), v44, (eN d), (v58 34), (v58 35), (eN (((pgRow (fun k_ => (pgD (rowRL ([1, 1, 1, 1, 1, 1, 1, 1] : List Int) 0 s2 k_)).1) vs45).getD d (0, undef)).1)), (Value.bool false), (Value.bool false), (Value.bool false)])) ?_
   refine wpL.done (then_n ?_)
   refine ⟨_, (d + 1), rfl, rfl, ⟨?_, ?_, ?_, ?_⟩, ?_⟩
   ·
    (try dsimp only)
    all_goals (omega)
   ·
    exact o53
   ·
    exact a20
   ·
    exact a16
   ·
    (try dsimp only)
    all_goals (omega)
  refine drawn_pure [0, 1, 0, 7, 15, 31, 31, 127, 255, 511, 1023, 2047, 4095, 4095, 16383, 32767, 65535, 131071, 4095, 4095, 790527, 1839103, 3936255, 8388607, 16777215, 33554431, 67108863, 134217727, 268435455, 134217727, 1073741823, 2147483647, 4294967295, 4294967295, 17179869183, 34359738367, 68719476735, 137438953471, 274877906943, 549755813887] [(0, 64), (1, 65), (2, 66), (3, 67), (4, 68), (5, 69), (6, 70), (7, 71), (8, 72), (9, 73), (10, 74), (11, 75), (12, 76), (13, 77), (14, 78), (15, 79), (16, 80), (17, 81), (18, 82), (19, 83), (20, 84), (21, 85), (22, 86), (23, 87), (24, 88), (25, 89), (26, 90), (27, 91), (28, 92), (29, 93), (30, 94), (31, 95), (32, 96), (33, 97), (34, 98), (35, 99), (36, 100), (37, 101), (38, 102), (39, 103)] [(eN d), (eN (d + 1)), (eN kk), (Value.bool false), (Value.bool false), undef, undef, undef, undef, undef, undef, undef, undef, undef, undef, undef, undef, undef, undef, undef, undef, undef, undef, undef, undef, (Value.bool false), (Value.bool false), (eN d), (eN (d + 1)), (eN kk), (Value.bool false), (Value.bool false), undef, undef, undef, undef, undef, undef, (Value.bool false), (Value.bool false)] ([u1, (eN kk), u2, undef, undef, undef, (z 6), (ptr L15.bN 0), (eN 0), (sli sb 0 8 8), u30, (eN (rowWC ((NS.new 8 8 4 (fun _ _ => false)).stopAt kk lm) ([1, 1, 1, 1, 1, 1, 1, 1] : List Int) 0 (plD lb 8) 8)), v44, (eN (rowDoC s2.gD ([1, 1, 1, 1, 1, 1, 1, 1] : List Int).length (rowRC ([1, 1, 1, 1, 1, 1, 1, 1] : List Int) 0 s2))), (eN d), (Value.bool true), (Value.bool false), u2, (eN lm.length), (Value.bool false), (Value.tuple #[(ptr L15.bN 0), (eN 0)]), (Value.agg #[(eN 8), (eN 8), (eN 4)]), (Value.tuple #[(ptr L15.bN 0), (eN 0)]), (ptr L15.bN 0), (eN 0), (eN 0), (Value.bool false), (sli sb 0 8 8), (eI k_), (eN ((k_ % ((8 : Nat) : Int)).toNat)), (eN (1 + ((k_ % ((8 : Nat) : Int)).toNat))), (ptr L15.bN 0), (eN kk), u2, u27, u1, u30, (ptr L15.bN 0), (sli sb 0 8 8), u30, (eN (rowWC ((NS.new 8 8 4 (fun _ _ => false)).stopAt kk lm) ([1, 1, 1, 1, 1, 1, 1, 1] : List Int) 0 (plD lb 8) 8)), (ptr L15.bN 0), u41, (Value.tuple #[v44, (eN (rowDoC s2.gD ([1, 1, 1, 1, 1, 1, 1, 1] : List Int).length (rowRC ([1, 1, 1, 1, 1, 1, 1, 1] : List Int) 0 s2)))]), (ptr L15.bN 0), (sli sb 0 8 8), (Value.tuple #[v44, (eN (rowDoC s2.gD ([1, 1, 1, 1, 1, 1, 1, 1] : List Int).length (rowRC ([1, 1, 1, 1, 1, 1, 1, 1] : List Int) 0 s2)))]), v44, (eN (rowDoC s2.gD ([1, 1, 1, 1, 1, 1, 1, 1] : List Int).length (rowRC ([1, 1, 1, 1, 1, 1, 1, 1] : List Int) 0 s2))), (eN (rowWC ((NS.new 8 8 4 (fun _ _ => false)).stopAt kk lm) ([1, 1, 1, 1, 1, 1, 1, 1] : List Int) 0 (plD lb 8) 8)), (Value.bool false), (Value.bool false), (eN (rowDoC s2.gD ([1, 1, 1, 1, 1, 1, 1, 1] : List Int).length (rowRC ([1, 1, 1, 1, 1, 1, 1, 1] : List Int) 0 s2))), (Value.bool false), (Value.bool false), (Value.bool false), v44, (eN ((pgRow (fun k_ => (pgD (rowRL ([1, 1, 1, 1, 1, 1, 1, 1] : List Int) 0 s2 k_)).1) vs45).length)), (Value.bool false), (Value.bool false), (eN d), (Value.bool (decide (d < 8))), (z 62), (z 63), (eN d), (eN (d + 1)), (eN kk), (Value.bool false), (Value.bool false)] ++ (us 20 ++ [(Value.bool false), (Value.bool false), (eN d), (eN (d + 1)), (eN kk), (Value.bool false), (Value.bool false)] ++ (us 6 ++ [(Value.bool false), (Value.bool false)]))) s_mx kr kr rfl kr kr ?_ ?_
  ·
   intro w_ hO_
   refine AllG.cons (gi rfl (d_move rfl)) ?_
   refine AllG.cons (gi rfl (n_add (a := d) (b := 1) rfl rfl oo)) ?_
   refine AllG.cons (gi rfl (d_move rfl)) ?_
   refine AllG.cons (gi rfl (n_lss (a := (d + 1)) (b := kk) rfl rfl (decide_eq_false kya))) ?_
   refine AllG.cons (gi rfl (d_move rfl)) ?_
   refine AllG.cons (gf rfl rfl rfl (nb rfl) rfl) ?_
   refine AllG.cons (gf rfl rfl rfl (nb rfl) rfl) ?_
   refine AllG.cons (gf rfl rfl rfl (nb rfl) rfl) ?_
   refine AllG.cons (gf rfl rfl rfl (nb rfl) rfl) ?_
   refine AllG.cons (gf rfl rfl rfl (nb rfl) rfl) ?_
   refine AllG.cons (gf rfl rfl rfl (nb rfl) rfl) ?_
   refine AllG.cons (gf rfl rfl rfl (nb rfl) rfl) ?_
   refine AllG.cons (gfu rfl rfl rfl (nb rfl) rfl) ?_
   refine AllG.cons (gfu rfl rfl rfl (nb rfl) rfl) ?_
   refine AllG.cons (gfu rfl rfl rfl (nb rfl) rfl) ?_
   refine AllG.cons (gfu rfl rfl rfl (nb rfl) rfl) ?_
   refine AllG.cons (gfu rfl rfl rfl (nb rfl) rfl) ?_
   refine AllG.cons (gfu rfl rfl rfl (nb rfl) rfl) ?_
   refine AllG.cons (gfu rfl rfl rfl (nb rfl) rfl) ?_
   refine AllG.cons (gfu rfl rfl rfl (nb rfl) rfl) ?_
   refine AllG.cons (gfu rfl rfl rfl (nb rfl) rfl) ?_
   refine AllG.cons (gfu rfl rfl rfl (nb rfl) rfl) ?_
   refine AllG.cons (gfu rfl rfl rfl (nb rfl) rfl) ?_
   refine AllG.cons (gfu rfl rfl rfl (nb rfl) rfl) ?_
   refine AllG.cons (gf rfl rfl rfl (nb rfl) rfl) ?_
   refine AllG.cons (gi rfl (d_pick (b := false) (v := (Value.bool false)) rfl rfl)) ?_
   refine AllG.cons (gi rfl (d_move rfl)) ?_
   refine AllG.cons (gi_on rfl rfl rfl (nb rfl) rfl (d_move rfl)) ?_
   refine AllG.cons (gi_on rfl rfl rfl (nb rfl) rfl (n_add (a := d) (b := 1) rfl rfl oo)) ?_
   refine AllG.cons (gi_on rfl rfl rfl (nb rfl) rfl (d_move rfl)) ?_
   refine AllG.cons (gi_on rfl rfl rfl (nb rfl) rfl (n_gtr (a := (d + 1)) (b := kk) rfl rfl (decide_eq_false kyb))) ?_
   refine AllG.cons (gi_on rfl rfl rfl (nb rfl) rfl (d_move rfl)) ?_
   refine AllG.cons (gf rfl rfl rfl (nb rfl) rfl) ?_
   refine AllG.cons (gf rfl rfl rfl (nb rfl) rfl) ?_
   refine AllG.cons (gf rfl rfl rfl (nb rfl) rfl) ?_
   refine AllG.cons (gf rfl rfl rfl (nb rfl) rfl) ?_
   refine AllG.cons (gf rfl rfl rfl (nb rfl) rfl) ?_
   refine AllG.cons (gf rfl rfl rfl (nb rfl) rfl) ?_
   refine AllG.cons (gi_on rfl rfl rfl (nb rfl) rfl (d_pick (b := false) (v := (Value.bool false)) rfl rfl)) ?_
   refine AllG.cons (gi rfl (d_pick (b := false) (v := (Value.bool false)) rfl rfl)) ?_
   exact AllG.nil
  intro w61 o62
  replace h1 := h1.step0 o62
  replace h2 := h2.step0 o62
  replace a16 := a16.step0 o62
  replace f33 := f33.step0 o62
  replace f34 := f34.step0 o62
  replace f51 := f51.step0 o62
  replace f52 := f52.step0 o62
  replace a20 := a20.step0 o62
  replace oW := oW.tail0 o62
  replace o53 := o53.tail0 o62
  refine then_n ?_
  refine cond_f rfl ?_
  refine wpIn_skip ?_
  refine inb_n (then_n ?_)
  refine plain ?_
  refine wI (d_move rfl) ?_
  refine wI (n_add (a := d) (b := 1) rfl rfl oo) ?_
  refine wI (d_assign rfl) ?_
  refine wF ([u1, (eN kk), u2, undef, undef, undef, (z 6), (ptr L15.bN 0), (eN 0), (sli sb 0 8 8), u30, (eN (rowWC ((NS.new 8 8 4 (fun _ _ => false)).stopAt kk lm) ([1, 1, 1, 1, 1, 1, 1, 1] : List Int) 0 (plD lb 8) 8)), v44, (eN (rowDoC s2.gD ([1, 1, 1, 1, 1, 1, 1, 1] : List Int).length (rowRC ([1, 1, 1, 1, 1, 1, 1, 1] : List Int) 0 s2))), (eN (d + 1)), (Value.bool true), (Value.bool false), u2, (eN lm.length), (Value.bool false), (Value.tuple #[(ptr L15.bN 0), (eN 0)]), (Value.agg #[(eN 8), (eN 8), (eN 4)]), (Value.tuple #[(ptr L15.bN 0), (eN 0)]), (ptr L15.bN 0), (eN 0), (eN 0), (Value.bool false), (sli sb 0 8 8), (eI k_), (eN ((k_ % ((8 : Nat) : Int)).toNat)), (eN (1 + ((k_ % ((8 : Nat) : Int)).toNat))), (ptr L15.bN 0), (eN kk), u2, u27, u1, u30, (ptr L15.bN 0), (sli sb 0 8 8), u30, (eN (rowWC ((NS.new 8 8 4 (fun _ _ => false)).stopAt kk lm) ([1, 1, 1, 1, 1, 1, 1, 1] : List Int) 0 (plD lb 8) 8)), (ptr L15.bN 0), u41, (Value.tuple #[v44, (eN (rowDoC s2.gD ([1, 1, 1, 1, 1, 1, 1, 1] : List Int).length (rowRC ([1, 1, 1, 1, 1, 1, 1, 1] : List Int) 0 s2)))]), (ptr L15.bN 0), (sli sb 0 8 8), (Value.tuple #[v44, (eN (rowDoC s2.gD ([1, 1, 1, 1, 1, 1, 1, 1] : List Int).length (rowRC ([1, 1, 1, 1, 1, 1, 1, 1] : List Int) 0 s2)))]), v44, (eN (rowDoC s2.gD ([1, 1, 1, 1, 1, 1, 1, 1] : List Int).length (rowRC ([1, 1, 1, 1, 1, 1, 1, 1] : List Int) 0 s2))), (eN (rowWC ((NS.new 8 8 4 (fun _ _ => false)).stopAt kk lm) ([1, 1, 1, 1, 1, 1, 1, 1] : List Int) 0 (plD lb 8) 8)), (Value.bool false), (Value.bool false), (eN (rowDoC s2.gD ([1, 1, 1, 1, 1, 1, 1, 1] : List Int).length (rowRC ([1, 1, 1, 1, 1, 1, 1, 1] : List Int) 0 s2))), (Value.bool false), (Value.bool false), (Value.bool false), v44, (eN ((pgRow (fun k_ => (pgD (rowRL ([1, 1, 1, 1, 1, 1, 1, 1] : List Int) 0 s2 k_)).1) vs45).length)), (Value.bool false), (Value.bool false), (eN d), (Value.bool (decide (d < 8))), (eN d), (eN (d + 1)), (eN d), (eN (d + 1)), (eN kk), (Value.bool false), (Value.bool false)] ++ (us 20 ++ [(Value.bool false), (Value.bool false), (eN d), (eN (d + 1)), (eN kk), (Value.bool false), (Value.bool false)] ++ (us 6 ++ [(Value.bool false), (Value.bool false)]))) ?_
  refine wpL.done (then_n ?_)
  refine ⟨_, (d + 1), rfl, rfl, ⟨?_, ?_, ?_, ?_⟩, ?_⟩
  ·
   (try dsimp only)
   all_goals (omega)
  ·
   exact o53
  ·
   exact a20
  ·
   exact a16
  ·
   (try dsimp only)
   all_goals (omega)
 refine wpIn_exit ?_
 refine then_x (then_x (inb_e ?_))
 refine then_n (wpIn_seq (plain ?_))
 refine wI (d_assign rfl) ?_
 refine wF ([u1, (eN kk), u2, undef, undef, undef, (Value.bool true), (ptr L15.bN 0), (eN 0), (sli sb 0 8 8), u30, (eN (rowWC ((NS.new 8 8 4 (fun _ _ => false)).stopAt kk lm) ([1, 1, 1, 1, 1, 1, 1, 1] : List Int) 0 (plD lb 8) 8)), v44, (eN (rowDoC s2.gD ([1, 1, 1, 1, 1, 1, 1, 1] : List Int).length (rowRC ([1, 1, 1, 1, 1, 1, 1, 1] : List Int) 0 s2))), (eN d), (Value.bool true), (Value.bool false), u2, (eN lm.length), (Value.bool false), (Value.tuple #[(ptr L15.bN 0), (eN 0)]), (Value.agg #[(eN 8), (eN 8), (eN 4)]), (Value.tuple #[(ptr L15.bN 0), (eN 0)]), (ptr L15.bN 0), (eN 0), (eN 0), (Value.bool false), (sli sb 0 8 8), (eI k_), (eN ((k_ % ((8 : Nat) : Int)).toNat)), (eN (1 + ((k_ % ((8 : Nat) : Int)).toNat))), (ptr L15.bN 0), (eN kk), u2, u27, u1, u30, (ptr L15.bN 0), (sli sb 0 8 8), u30, (eN (rowWC ((NS.new 8 8 4 (fun _ _ => false)).stopAt kk lm) ([1, 1, 1, 1, 1, 1, 1, 1] : List Int) 0 (plD lb 8) 8)), (ptr L15.bN 0), u41, (Value.tuple #[v44, (eN (rowDoC s2.gD ([1, 1, 1, 1, 1, 1, 1, 1] : List Int).length (rowRC ([1, 1, 1, 1, 1, 1, 1, 1] : List Int) 0 s2)))]), (ptr L15.bN 0), (sli sb 0 8 8), (Value.tuple #[v44, (eN (rowDoC s2.gD ([1, 1, 1, 1, 1, 1, 1, 1] : List Int).length (rowRC ([1, 1, 1, 1, 1, 1, 1, 1] : List Int) 0 s2)))]), v44, (eN (rowDoC s2.gD ([1, 1, 1, 1, 1, 1, 1, 1] : List Int).length (rowRC ([1, 1, 1, 1, 1, 1, 1, 1] : List Int) 0 s2))), (eN (rowWC ((NS.new 8 8 4 (fun _ _ => false)).stopAt kk lm) ([1, 1, 1, 1, 1, 1, 1, 1] : List Int) 0 (plD lb 8) 8)), (Value.bool false), (Value.bool false), (eN (rowDoC s2.gD ([1, 1, 1, 1, 1, 1, 1, 1] : List Int).length (rowRC ([1, 1, 1, 1, 1, 1, 1, 1] : List Int) 0 s2))), (Value.bool false), (Value.bool false), (Value.bool false), v44, (eN ((pgRow (fun k_ => (pgD (rowRL ([1, 1, 1, 1, 1, 1, 1, 1] : List Int) 0 s2 k_)).1) vs45).length)), (Value.bool false), (Value.bool false), (eN d), (Value.bool (decide (d < 8)))] ++ (zs z 62 42)) ?_
 refine wpL.done (then_n ?_)
 refine wpIn_ret ?_
 refine leave0 (v := (Value.bool true)) (res1 Try.results10 rfl) ?_
 exact ⟨rfl, oW⟩
end Go.Proofs.YtgalehapmdabeaaF
namespace Go.Proofs.YtgalehapmdabeaaF
open Go Go.Shelf Go.Proofs.YtgalehapmdabeaaS Go.RowKit
def IsRow (k : IntKind) (w : World) (a : Option Addr) (len cap : Nat) (zs : List Int) : Prop :=
 (a = none ∧ len = 0 ∧ cap = 0 ∧ zs = []) ∨
 ∃ x, a = some x ∧ len ≤ cap ∧ zs.length = cap ∧ (∀ i, i < zs.length → w.cell? (x.add i) = some (.int k (zs.getD i 0))) ∧ ∀ n ∈ zs, (Lit.int k n).wf = true
theorem IsRow.seq {α : Type} {enc : α → Value} {dec : Int → α} {k : IntKind} {W : World} {a : Option Addr} {len cap : Nat} {zs : List Int} (h : IsRow k W a len cap zs)
  (hed : ∀ n, (Lit.int k n).wf = true → enc (dec n) = .int k n) : ∃ xs : List α, xs.length = len ∧ Ps No (Seq (kS enc) xs (.slice a len cap)) W := by
 rcases h with ⟨rfl, rfl, rfl, _⟩ | ⟨x, rfl, hl, hz, hc, hw⟩
 ·exact ⟨[], rfl, seq_nil⟩
 ·refine ⟨(zs.take len).map dec, by rw [List.length_map, List.length_take]; omega, fun W' hW => ⟨_, cap, by rw [List.length_map, List.length_take, Nat.min_eq_left (by omega)], by rw [List.length_map, List.length_take]; omega, fun i v hv => ⟨x, rfl, ?_⟩⟩⟩
  rw [List.getElem?_map, List.getElem?_take] at hv
  split at hv
  ·rename_i hi
   have hiz : i < zs.length := by omega
   rw [List.getElem?_eq_getElem hiz] at hv
   injection hv with hv
   subst hv
   have h1 := hc i hiz
   have h2 : zs.getD i 0 = zs[i] := by rw [List.getD_eq_getElem?_getD, List.getElem?_eq_getElem hiz]; rfl
   rw [h2] at h1
   show W'.cell? (x.add (i * 1)) = some (enc (dec zs[i]))
   rw [Nat.mul_one, hed _ (hw _ (List.getElem_mem hiz))]
   have hlt : (x.add i).block < W.heap.size := cells_of_cell h1 |>.elim fun _ hx => (Array.getElem?_eq_some_iff.1 hx.1).1
   rw [World.cell?_of_block (w := W) (hW _ hlt id)]
   exact h1
  ·cases hv
theorem dec_u8 (n : Int) (h : (Lit.int .u8 n).wf = true) : eB (UInt8.ofNat n.toNat) = .int .u8 n := by
 have hb : 0 ≤ n ∧ n < 256 := by
  simp [Lit.wf, IntKind.min, IntKind.max, IntKind.signed, IntKind.bits] at h
  omega
 show Value.int _ _ = _
 congr 1
 rw [UInt8.toNat_ofNat']
 omega
theorem law_of {P : Program} {f : Nat} {args : Array Value} {W : World} (h : CW P f args W (Rt (RIs (.bool true) W))) : Calls P f args W fun e W' => e = .returned (.bool true) ∧ Below W.heap.size W W' :=
 callsIn_wide.1 (CallsIn.mono h fun e W' ⟨u, he, hu⟩ => by
  obtain ⟨h1, h2⟩ := hu
  exact ⟨by rw [he, h1], h2.below (Nat.le_refl _) fun _ x => x.elim⟩)
end Go.Proofs.YtgalehapmdabeaaF
