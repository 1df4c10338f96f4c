import Derived.Test.YtpamdlnobekihaaFp
import Derived.Test.YtpamdlnobekihaaTy
import Derived.Test.YtpamdlnobekihaaHnandu
set_option linter.unusedVariables false
set_option linter.unusedSimpArgs false
namespace Go.Proofs.YtpamdlnobekihaaF
open Go Go.Shelf Go.Proofs.YtpamdlnobekihaaS Ram
set_option maxRecDepth 20000 in
set_option maxHeartbeats 4000000 in
theorem nandStops_law (k : Int) (ll : List Int) (u1 : Value) (W : World) (h1 : Ps No (Seq kI ll u1) W) (g1 : ll.length ≤ 17592186043904) :
    CW Try.prog 7 #[(eI k), u1] W (Rt (RIs (.bool true) W)) := by
 have oW : Only No W W := Only.refl _ _
 refine enter (al := [(eI k), u1]) (k := 127) (l := ([(eI k), u1] ++ (us 127))) Try.func7 rfl Try.ntmps7 rfl rfl ?_
 refine wpIn_seq ?_
 refine plain ?_
 refine wI (d_assign rfl) ?_
 refine wF ([(eI k), u1, undef, undef, (Value.bool false)] ++ (us 124)) ?_
 refine wpL.done ?_
 refine then_n ?_
 refine wpIn_seq ?_
 refine wpIn_seq ?_
 refine plain ?_
 refine wO (d_call (xl := []) (al := []) Try.func11 (by kernel_rfl) rfl rfl rfl (law7Known_ok _)) ?_
 rintro _ w11 ⟨rfl, o12⟩
 replace h1 := h1.step0 o12
 replace oW := oW.tail0 o12
 refine wI (d_not rfl rfl) ?_
 refine wF ([(eI k), u1, undef, undef, (Value.bool false)] ++ (us 9 ++ [(Value.bool true), (Value.bool false)] ++ (us 113))) ?_
 refine wpL.done ?_
 refine then_n ?_
 refine cond_f rfl ?_
 refine wpIn_skip ?_
 refine then_n ?_
 refine wpIn_seq ?_
 refine plain ?_
 refine wI (d_buildS (pl := [(0, 1), (1, 1), (2, 1)]) (zs := [(eN 0), (eN 0), (eN 0)]) (cs := [(eN 6), (eN 8), (eN 8)]) Try.underlying23 s_ti23 ⟨_, _, _, _, rfl, s_ti3, ⟨_, _, _, _, rfl, s_ti3, ⟨_, _, _, _, rfl, s_ti3, rfl⟩⟩⟩ rfl (parts_cons (vs := [(eN 6)]) (cells_of (v := (eN 6)) rfl rfl) (parts_cons (vs := [(eN 8)]) (cells_of (v := (eN 8)) rfl rfl) (parts_cons (vs := [(eN 8)]) (cells_of (v := (eN 8)) rfl rfl) parts_nil))) rfl) ?_
 refine wO (d_call (xl := [.tmp 17, .const (.slice none 0 0)]) (al := [(Value.agg #[(eN 6), (eN 8), (eN 8)]), (Value.slice none 0 0)]) Try.func13 (by kernel_rfl) rfl rfl rfl (new0_ok 6 8 8 _ (by omega) (by omega) (by omega))) ?_
 rintro _ w13 ⟨L15, rfl, ⟨a16, g17⟩, o14⟩
 have g_oW_L15 : ∀ k, L15.S k → W.heap.size ≤ k := fun k hk => Nat.le_trans oW.size (g17 k hk)
 replace a16 := a16.less (Y := No) no_old
 replace h1 := h1.re (X' := Ors L15.S No) o14 (fun _ t => t.elim) (xx_news g17 xx_id)
 replace oW := oW.tail0 o14
 refine wI (d_move rfl) ?_
 refine wF ([(eI k), u1, undef, undef, (Value.bool false)] ++ (us 9 ++ [(Value.bool true), (Value.bool false), (Value.tuple #[(ptr L15.bN 0), (eN 0)]), (Value.agg #[(eN 6), (eN 8), (eN 8)]), (Value.tuple #[(ptr L15.bN 0), (eN 0)])] ++ (us 110))) ?_
 refine wI (d_extract (v := (ptr L15.bN 0)) rfl rfl) ?_
 refine wI (d_extract (v := (eN 0)) rfl rfl) ?_
 refine wI (d_assign rfl) ?_
 refine wF ([(eI k), u1, undef, undef, (Value.bool false), (ptr L15.bN 0)] ++ (us 8 ++ [(Value.bool true), (Value.bool false), (Value.tuple #[(ptr L15.bN 0), (eN 0)]), (Value.agg #[(eN 6), (eN 8), (eN 8)]), (Value.tuple #[(ptr L15.bN 0), (eN 0)]), (ptr L15.bN 0), (eN 0)] ++ (us 108))) ?_
 refine wI (d_assign rfl) ?_
 refine wF ([(eI k), u1, undef, undef, (Value.bool false), (ptr L15.bN 0), (eN 0)] ++ (us 7 ++ [(Value.bool true), (Value.bool false), (Value.tuple #[(ptr L15.bN 0), (eN 0)]), (Value.agg #[(eN 6), (eN 8), (eN 8)]), (Value.tuple #[(ptr L15.bN 0), (eN 0)]), (ptr L15.bN 0), (eN 0)] ++ (us 108))) ?_
 refine wpL.done ?_
 refine then_n ?_
 refine forget (fun zf18 => ([(eI k), u1, (zf18 2), (zf18 3), (zf18 4), (ptr L15.bN 0), (eN 0), undef, undef, undef, undef] ++ (zs zf18 11 118))) (by kernel_rfl) (fun zf18 => ?_)
 refine wpIn_seq ?_
 refine wpIn_seq ?_
 refine plain ?_
 refine wI (d_move rfl) ?_
 refine wI (n_neq (a := 0) (b := 0) rfl rfl (by rw [decide_eq_true rfl] <;> rfl)) ?_
 refine wF ([(eI k), u1, (zf18 2), (zf18 3), (zf18 4), (ptr L15.bN 0), (eN 0), undef, undef, undef, undef] ++ (zs zf18 11 10 ++ [(eN 0), (Value.bool false)] ++ (zs zf18 23 106))) ?_
 refine wpL.done ?_
 refine then_n ?_
 refine cond_f rfl ?_
 refine wpIn_skip ?_
 refine then_n ?_
 refine wpIn_seq ?_
 refine plain ?_
 refine wI (d_move rfl) ?_
 refine wO (d_call (xl := [.tmp 23, .const (.int .i64 12)]) (al := [(eI k), (eN 12)]) Try.func12 (by kernel_rfl) rfl rfl rfl (law7Within_ok k 12 _ (by omega) (by omega))) ?_
 rintro _ w19 ⟨rfl, o20⟩
 replace h1 := h1.step0 o20
 replace a16 := a16.step0 o20
 replace oW := oW.tail0 o20
 refine wI (n_add (a := 1) (b := ((k % ((12 : Nat) : Int)).toNat)) rfl rfl (by omega)) ?_
 refine wF ([(eI k), u1, (zf18 2), (zf18 3), (zf18 4), (ptr L15.bN 0), (eN 0), undef, undef, undef, undef] ++ (zs zf18 11 10 ++ [(eN 0), (Value.bool false), (eI k), (eN ((k % ((12 : Nat) : Int)).toNat)), (eN (1 + ((k % ((12 : Nat) : Int)).toNat)))] ++ (zs zf18 26 103))) ?_
 refine wI (d_assign rfl) ?_
 refine wF ([(eN (1 + ((k % ((12 : Nat) : Int)).toNat))), u1, (zf18 2), (zf18 3), (zf18 4), (ptr L15.bN 0), (eN 0), undef, undef, undef, undef] ++ (zs zf18 11 10 ++ [(eN 0), (Value.bool false), (eI k), (eN ((k % ((12 : Nat) : Int)).toNat)), (eN (1 + ((k % ((12 : Nat) : Int)).toNat)))] ++ (zs zf18 26 103))) ?_
 refine wpL.done ?_
 refine then_n ?_
 refine wpIn_seq ?_
 obtain ⟨kk, hkk, ekk⟩ : ∃ kk, (1 ≤ kk ∧ kk ≤ 12) ∧ 1 + ((k % ((12 : Nat) : Int)).toNat) = kk := ⟨_, by omega, rfl⟩
 refine wp_eq (l' := ([(eN kk), u1, (zf18 2), (zf18 3), (zf18 4), (ptr L15.bN 0), (eN 0), undef, undef, undef, undef] ++ (zs zf18 11 10 ++ [(eN 0), (Value.bool false), (eI k), (eN ((k % ((12 : Nat) : Int)).toNat)), (eN (1 + ((k % ((12 : Nat) : Int)).toNat)))] ++ (zs zf18 26 103)))) (show (([(eN (1 + ((k % ((12 : Nat) : Int)).toNat))), u1, (zf18 2), (zf18 3), (zf18 4), (ptr L15.bN 0), (eN 0), undef, undef, undef, undef] ++ (zs zf18 11 10 ++ [(eN 0), (Value.bool false), (eI k), (eN ((k % ((12 : Nat) : Int)).toNat)), (eN (1 + ((k % ((12 : Nat) : Int)).toNat)))] ++ (zs zf18 26 103))) : List Value) = ([(eN kk), u1, (zf18 2), (zf18 3), (zf18 4), (ptr L15.bN 0), (eN 0), undef, undef, undef, undef] ++ (zs zf18 11 10 ++ [(eN 0), (Value.bool false), (eI k), (eN ((k % ((12 : Nat) : Int)).toNat)), (eN (1 + ((k % ((12 : Nat) : Int)).toNat)))] ++ (zs zf18 26 103))) from reslot ([(eN (1 + ((k % ((12 : Nat) : Int)).toNat))), u1, (zf18 2), (zf18 3), (zf18 4), (ptr L15.bN 0), (eN 0), undef, undef, undef, undef] ++ (zs zf18 11 10 ++ [(eN 0), (Value.bool false), (eI k), (eN ((k % ((12 : Nat) : Int)).toNat)), (eN (1 + ((k % ((12 : Nat) : Int)).toNat)))] ++ (zs zf18 26 103))) 0 (congrArg eN ekk)) ?_
 refine plain ?_
 refine wI (d_move rfl) ?_
 refine wI (d_move rfl) ?_
 refine wO (d_call (xl := [.tmp 26, .tmp 27, .const (.slice none 0 0)]) (al := [(ptr L15.bN 0), (eN kk), (Value.slice none 0 0)]) Try.func24 (by kernel_rfl) rfl rfl rfl (stop_ok L15 (NS.new 6 8 8 (fun _ _ => false)) _ a16 kk [] (Value.slice none 0 0) lt_no seq_nil (by first | omega | (simp; done) | (simp; omega)) (by omega))) ?_
 rintro u24 w21 ⟨a23, o22⟩
 replace h1 := h1.step o22 sub1
 replace oW := oW.tail o22 (fun k hk e => by have := g_oW_L15 k e; omega)
 replace a16 := a23
 refine wF ([(eN kk), u1, (zf18 2), (zf18 3), (zf18 4), (ptr L15.bN 0), (eN 0), undef, undef, undef, undef] ++ (zs zf18 11 10 ++ [(eN 0), (Value.bool false), (eI k), (eN ((k % ((12 : Nat) : Int)).toNat)), (eN (1 + ((k % ((12 : Nat) : Int)).toNat))), (ptr L15.bN 0), (eN kk), u24] ++ (zs zf18 29 100))) ?_
 refine wpL.done ?_
 refine then_n ?_
 refine forget (fun zf25 => ([(eN kk), u1, (zf25 2), (zf25 3), (zf25 4), (ptr L15.bN 0), (zf25 6), undef, undef, undef, undef] ++ (zs zf25 11 118))) (by kernel_rfl) (fun zf25 => ?_)
 refine wpIn_seq ?_
 refine plain ?_
 refine wI (d_assign rfl) ?_
 refine wI (d_assign rfl) ?_
 refine wI (d_assign rfl) ?_
 refine wF ([(eN kk), u1, (zf25 2), (zf25 3), (zf25 4), (ptr L15.bN 0), (zf25 6), (eN 0), (eN 0), (eN 0), undef] ++ (zs zf25 11 118)) ?_
 refine wpL.done ?_
 refine then_n ?_
 refine wpIn_seq ?_
 refine wpIn_seq ?_
 refine plain ?_
 refine wI (d_assign rfl) ?_
 refine wF ([(eN kk), u1, (zf25 2), (zf25 3), (zf25 4), (ptr L15.bN 0), (zf25 6), (eN 0), (eN 0), (eN 0), (eN 0)] ++ (zs zf25 11 118)) ?_
 refine wpL.done ?_
 refine then_n ?_
 refine wpIn_block ?_
 refine loop2 (fun (s_ : (Nat) × (Nat) × (Nat) × (Nat) × (NS)) => match s_ with | ⟨i, d, nx, ops, s⟩ => fun (z : Nat → Value) => (([(eN kk), u1, (zf25 2), (zf25 3), (z 4), (ptr L15.bN 0), (zf25 6), (eN d), (eN nx), (eN ops), (eN i), (z 11), (z 12), (z 13)] ++ (zs zf25 14 15 ++ (zs z 29 100))) : List Value)) (fun (s_ : (Nat) × (Nat) × (Nat) × (Nat) × (NS)) => match s_ with | ⟨i, d, nx, ops, s⟩ => fun (w_ : World) => (i ≤ 40) ∧ (d ≤ kk) ∧ (nx ≤ 8) ∧ (ops ≤ i) ∧ (StpI s kk d nx ops) ∧ Only (Ors L15.S No) w21 w_ ∧ Nd L15 s No w_) (fun (s_ : (Nat) × (Nat) × (Nat) × (Nat) × (NS)) => match s_ with | ⟨i, d, nx, ops, s⟩ => 40 - i) ⟨0, 0, 0, 0, ((NS.new 6 8 8 (fun _ _ => false)).stopAt kk [])⟩ rfl ?_ ?_
 ·
  refine ⟨?_, ?_, ?_, ?_, ?_, ?_, ?_⟩
  ·
   (try dsimp only)
   all_goals (omega)
  ·
   (try dsimp only)
   all_goals (omega)
  ·
   (try dsimp only)
   all_goals (omega)
  ·
   (try dsimp only)
   all_goals (omega)
  ·
   exact stp_new hkk.1
  ·
   exact Only.refl _ _
  ·
   exact a16
 rintro ⟨i, d, nx, ops, s⟩ z w27 ⟨hi, hd, hn, ho, hI, o26, a16⟩
 (try dsimp only)
 replace h1 := h1.step o26 (ors_mono no_any)
 replace oW := oW.tail o26 (tl_snew g_oW_L15 tl_no)
 refine wpIn_seq ?_
 refine wpIn_seq ?_
 by_cases k0 : i < ll.length
 ·
  refine plain ?_
  refine wI (d_move rfl) ?_
  refine wI (d_move rfl) ?_
  refine wI (d_lenS rfl Try.underlying37 rfl h1) ?_
  refine wF ([(eN kk), u1, (zf25 2), (zf25 3), (z 4), (ptr L15.bN 0), (zf25 6), (eN d), (eN nx), (eN ops), (eN i), (z 11), (z 12), (z 13)] ++ (zs zf25 14 15 ++ [(eN i), u1, (eN ll.length)] ++ (zs z 32 97))) ?_
  refine wI (n_lss (a := i) (b := ll.length) rfl rfl (decide_eq_true k0)) ?_
  refine wI (d_move rfl) ?_
  refine wpL.onis rfl rfl rfl (nb rfl) rfl (d_move rfl) ?_
  refine wF ([(eN kk), u1, (zf25 2), (zf25 3), (z 4), (ptr L15.bN 0), (zf25 6), (eN d), (eN nx), (eN ops), (eN i), (z 11), (z 12), (z 13)] ++ (zs zf25 14 15 ++ [(eN i), u1, (eN ll.length), (Value.bool true), (Value.bool true), (eN i)] ++ (zs z 35 94))) ?_
  refine wpL.onis rfl rfl rfl (nb rfl) rfl (n_lss (a := i) (b := 40) rfl rfl rfl) ?_
  refine wI (d_pick (b := true) (v := (Value.bool (decide (i < 40)))) rfl rfl) ?_
  refine wF ([(eN kk), u1, (zf25 2), (zf25 3), (z 4), (ptr L15.bN 0), (zf25 6), (eN d), (eN nx), (eN ops), (eN i), (z 11), (z 12), (z 13)] ++ (zs zf25 14 15 ++ [(eN i), u1, (eN ll.length), (Value.bool true), (Value.bool true), (eN i), (Value.bool (decide (i < 40))), (Value.bool (decide (i < 40)))] ++ (zs z 37 92))) ?_
  refine wpL.done ?_
  refine then_n ?_
  refine cond_if rfl (fun ci => ?_) (fun ci => ?_)
  ·
   refine wpIn_skip ?_
   refine then_n ?_
   refine forget (fun zf28 => ([(eN kk), u1, (zf25 2), (zf25 3), (zf28 4), (ptr L15.bN 0), (zf25 6), (eN d), (eN nx), (eN ops), (eN i), (zf28 11), (zf28 12), (zf28 13)] ++ (zs zf25 14 15 ++ (zs zf28 29 100)))) (by kernel_rfl) (fun zf28 => ?_)
   refine wpIn_seq ?_
   refine wpIn_block ?_
   refine wpIn_seq ?_
   refine plain ?_
   refine wI (d_assign rfl) ?_
   refine wF ([(eN kk), u1, (zf25 2), (zf25 3), (zf28 4), (ptr L15.bN 0), (zf25 6), (eN d), (eN nx), (eN ops), (eN i), (eN 0), (zf28 12), (zf28 13)] ++ (zs zf25 14 15 ++ (zs zf28 29 100))) ?_
   refine wpL.done ?_
   refine then_n ?_
   refine wpIn_seq ?_
   refine wpIn_seq ?_
   refine plain ?_
   refine wI (d_move rfl) ?_
   refine wI (d_move rfl) ?_
   refine wI (n_eql (a := d) (b := kk) rfl rfl rfl) ?_
   refine wF ([(eN kk), u1, (zf25 2), (zf25 3), (zf28 4), (ptr L15.bN 0), (zf25 6), (eN d), (eN nx), (eN ops), (eN i), (eN 0), (zf28 12), (zf28 13)] ++ (zs zf25 14 15 ++ (zs zf28 29 10 ++ [(eN d), (eN kk), (Value.bool (decide (d = kk)))] ++ (zs zf28 42 87)))) ?_
   refine wpL.done ?_
   refine then_n ?_
   refine cond_if rfl (fun c1 => ?_) (fun c1 => ?_)
   ·
    refine plain ?_
    refine wI (d_assign rfl) ?_
    refine wF ([(eN kk), u1, (zf25 2), (zf25 3), (zf28 4), (ptr L15.bN 0), (zf25 6), (eN d), (eN nx), (eN ops), (eN i), (eN 8), (zf28 12), (zf28 13)] ++ (zs zf25 14 15 ++ (zs zf28 29 10 ++ [(eN d), (eN kk), (Value.bool (decide (d = kk)))] ++ (zs zf28 42 87)))) ?_
    refine wpL.done ?_
    refine then_n ?_
    refine wpIn_seq ?_
    refine plain ?_
    refine wI (d_assign rfl) ?_
    refine wF ([(eN kk), u1, (zf25 2), (zf25 3), (zf28 4), (ptr L15.bN 0), (zf25 6), (eN d), (eN nx), (eN ops), (eN i), (eN 8), (eN 0), (zf28 13)] ++ (zs zf25 14 15 ++ (zs zf28 29 10 ++ [(eN d), (eN kk), (Value.bool (decide (d = kk)))] ++ (zs zf28 42 87)))) ?_
    refine wpL.done ?_
    refine then_n ?_
    refine wpIn_seq ?_
    refine wpIn_seq ?_
    refine plain ?_
    refine wI (d_move rfl) ?_
    refine wI (d_move rfl) ?_
    refine wI (d_ix (i := i) (xs := ll) Try.underlying37 s_ti3 rfl h1 (show _ = Value.int _ ((i : Nat) : Int) from rfl) (by first | omega | (simp; done) | (simp; omega))) ?_
    refine wF ([(eN kk), u1, (zf25 2), (zf25 3), (zf28 4), (ptr L15.bN 0), (zf25 6), (eN d), (eN nx), (eN ops), (eN i), (eN 8), (eN 0), (zf28 13)] ++ (zs zf25 14 15 ++ (zs zf28 29 10 ++ [(eN d), (eN kk), (Value.bool (decide (d = kk))), u1, (eN i), (ixp u1 i)] ++ (zs zf28 45 84)))) ?_
    refine wI (d_ldx (i := i) (xs := ll) (enc := eI) (v := (ll.getD i 0)) ⟨_, Try.underlying3, rfl⟩ rfl h1 (g_at (by first | omega | (simp; done) | (simp; omega)))) ?_
    refine wO (d_call (xl := [.tmp 45, .const (.int .i64 5)]) (al := [(eI (ll.getD i 0)), (eN 5)]) Try.func12 (by kernel_rfl) rfl rfl rfl (law7Within_ok (ll.getD i 0) 5 _ (by omega) (by omega))) ?_
    rintro _ w29 ⟨rfl, o30⟩
    replace h1 := h1.step0 o30
    replace a16 := a16.step0 o30
    replace oW := oW.tail0 o30
    replace o26 := o26.tail0 o30
    refine wF ([(eN kk), u1, (zf25 2), (zf25 3), (zf28 4), (ptr L15.bN 0), (zf25 6), (eN d), (eN nx), (eN ops), (eN i), (eN 8), (eN 0), (zf28 13)] ++ (zs zf25 14 15 ++ (zs zf28 29 10 ++ [(eN d), (eN kk), (Value.bool (decide (d = kk))), u1, (eN i), (ixp u1 i), (eI (ll.getD i 0)), (eN (((ll.getD i 0) % ((5 : Nat) : Int)).toNat))] ++ (zs zf28 47 82)))) ?_
    refine wpL.done ?_
    refine then_n ?_
    refine wpIn_block ?_
    refine wpIn_seq ?_
    refine wpIn_seq ?_
    obtain ⟨pv, hpv, epv⟩ : ∃ pv, (pv < 5) ∧ ((ll.getD i 0) % ((5 : Nat) : Int)).toNat = pv := ⟨_, by omega, rfl⟩
    refine wp_eq (l' := ([(eN kk), u1, (zf25 2), (zf25 3), (zf28 4), (ptr L15.bN 0), (zf25 6), (eN d), (eN nx), (eN ops), (eN i), (eN 8), (eN 0), (zf28 13)] ++ (zs zf25 14 15 ++ (zs zf28 29 10 ++ [(eN d), (eN kk), (Value.bool (decide (d = kk))), u1, (eN i), (ixp u1 i), (eI (ll.getD i 0)), (eN pv)] ++ (zs zf28 47 82))))) (show (([(eN kk), u1, (zf25 2), (zf25 3), (zf28 4), (ptr L15.bN 0), (zf25 6), (eN d), (eN nx), (eN ops), (eN i), (eN 8), (eN 0), (zf28 13)] ++ (zs zf25 14 15 ++ (zs zf28 29 10 ++ [(eN d), (eN kk), (Value.bool (decide (d = kk))), u1, (eN i), (ixp u1 i), (eI (ll.getD i 0)), (eN (((ll.getD i 0) % ((5 : Nat) : Int)).toNat))] ++ (zs zf28 47 82)))) : List Value) = ([(eN kk), u1, (zf25 2), (zf25 3), (zf28 4), (ptr L15.bN 0), (zf25 6), (eN d), (eN nx), (eN ops), (eN i), (eN 8), (eN 0), (zf28 13)] ++ (zs zf25 14 15 ++ (zs zf28 29 10 ++ [(eN d), (eN kk), (Value.bool (decide (d = kk))), u1, (eN i), (ixp u1 i), (eI (ll.getD i 0)), (eN pv)] ++ (zs zf28 47 82)))) from reslot ([(eN kk), u1, (zf25 2), (zf25 3), (zf28 4), (ptr L15.bN 0), (zf25 6), (eN d), (eN nx), (eN ops), (eN i), (eN 8), (eN 0), (zf28 13)] ++ (zs zf25 14 15 ++ (zs zf28 29 10 ++ [(eN d), (eN kk), (Value.bool (decide (d = kk))), u1, (eN i), (ixp u1 i), (eI (ll.getD i 0)), (eN (((ll.getD i 0) % ((5 : Nat) : Int)).toNat))] ++ (zs zf28 47 82)))) 46 (congrArg eN epv)) ?_
    refine plain ?_
    refine wI (n_eql (a := pv) (b := 0) rfl rfl rfl) ?_
    refine wI (d_assign rfl) ?_
    refine wF ([(eN kk), u1, (zf25 2), (zf25 3), (zf28 4), (ptr L15.bN 0), (zf25 6), (eN d), (eN nx), (eN ops), (eN i), (eN 8), (eN 0), (zf28 13)] ++ (zs zf25 14 15 ++ (zs zf28 29 10 ++ [(eN d), (eN kk), (Value.bool (decide (d = kk))), u1, (eN i), (ixp u1 i), (eI (ll.getD i 0)), (eN pv), (Value.bool (decide (pv = 0))), (Value.bool (decide (pv = 0)))] ++ (zs zf28 49 80)))) ?_
    refine wpL.done ?_
    refine then_n ?_
    refine forget (fun zf31 => ([(eN kk), u1, (zf25 2), (zf25 3), (zf31 4), (ptr L15.bN 0), (zf25 6), (eN d), (eN nx), (eN ops), (eN i), (eN 8), (eN 0), (zf31 13)] ++ (zs zf25 14 15 ++ (zs zf31 29 17 ++ [(eN pv), (Value.bool (decide (pv = 0)))] ++ (zs zf31 48 81))))) (by kernel_rfl) (fun zf31 => ?_)
    refine cond_if rfl (fun c32 => ?_) (fun c32 => ?_)
    ·
     refine wpIn_skip ?_
     refine then_n ?_
     refine cond_t (congrArg Value.bool (decide_eq_true c32)) ?_
     refine wpIn_seq ?_
     refine wpIn_seq ?_
     refine plain ?_
     refine wI (d_move rfl) ?_
     refine wI (n_geq (a := nx) (b := 8) rfl rfl rfl) ?_
     refine wF ([(eN kk), u1, (zf25 2), (zf25 3), (zf31 4), (ptr L15.bN 0), (zf25 6), (eN d), (eN nx), (eN ops), (eN i), (eN 8), (eN 0), (zf31 13)] ++ (zs zf25 14 15 ++ (zs zf31 29 17 ++ [(eN pv), (Value.bool (decide (pv = 0))), (zf31 48), (zf31 49), (eN nx), (Value.bool (decide (8 ≤ nx)))] ++ (zs zf31 52 77)))) ?_
     refine wpL.done ?_
     refine then_n ?_
     refine cond_if rfl (fun c8 => ?_) (fun c8 => ?_)
     ·
      refine wpIn_exit ?_
      refine then_x (inb_x (by decide) (then_x (inb_e ?_)))
      refine then_n ?_
      refine plain ?_
      refine wI (d_move rfl) ?_
      refine wI (n_add (a := i) (b := 1) rfl rfl (by omega)) ?_
      refine wI (d_assign rfl) ?_
      refine wF ([(eN kk), u1, (zf25 2), (zf25 3), (zf31 4), (ptr L15.bN 0), (zf25 6), (eN d), (eN nx), (eN ops), (eN (i + 1)), (eN 8), (eN 0), (zf31 13)] ++ (zs zf25 14 15 ++ (zs zf31 29 8 ++ [(eN i), (eN (i + 1))] ++ (zs zf31 39 7 ++ [(eN pv), (Value.bool (decide (pv = 0))), (zf31 48), (zf31 49), (eN nx), (Value.bool (decide (8 ≤ nx)))] ++ (zs zf31 52 77))))) ?_
      refine wpL.done ?_
      refine then_n ?_
      refine ⟨_, ⟨i + 1, d, nx, ops, s⟩, rfl, rfl, ⟨?_, ?_, ?_, ?_, ?_, ?_, ?_⟩, ?_⟩
      ·
       (try dsimp only)
       all_goals (omega)
      ·
       (try dsimp only)
       all_goals (omega)
      ·
       (try dsimp only)
       all_goals (omega)
      ·
       (try dsimp only)
       all_goals (omega)
      ·
       exact hI
      ·
       exact o26
      ·
       exact a16
      ·
       (try dsimp only)
       all_goals (omega)
     refine wpIn_skip ?_
     refine then_n ?_
     refine wpIn_seq ?_
     refine wpIn_seq ?_
     refine plain ?_
     refine wI (d_move rfl) ?_
     refine wI (d_move rfl) ?_
     refine wI (n_lss (a := d) (b := kk) rfl rfl rfl) ?_
     refine wF ([(eN kk), u1, (zf25 2), (zf25 3), (zf31 4), (ptr L15.bN 0), (zf25 6), (eN d), (eN nx), (eN ops), (eN i), (eN 8), (eN 0), (zf31 13)] ++ (zs zf25 14 15 ++ (zs zf31 29 17 ++ [(eN pv), (Value.bool (decide (pv = 0))), (zf31 48), (zf31 49), (eN nx), (Value.bool (decide (8 ≤ nx))), (eN d), (eN kk), (Value.bool (decide (d < kk)))] ++ (zs zf31 55 74)))) ?_
     refine wpL.done ?_
     refine then_n ?_
     refine cond_if rfl (fun c3 => ?_) (fun c3 => ?_)
     ·
      omega
     refine wpIn_skip ?_
     refine then_n ?_
     refine forget (fun zf33 => ([(eN kk), u1, (zf25 2), (zf25 3), (zf33 4), (ptr L15.bN 0), (zf25 6), (eN d), (eN nx), (eN ops), (eN i), (eN 8), (zf33 12), (zf33 13)] ++ (zs zf25 14 15 ++ (zs zf33 29 100)))) (by kernel_rfl) (fun zf33 => ?_)
     refine wpIn_seq ?_
     refine plain ?_
     refine wI (d_move rfl) ?_
     refine wI (d_sub (k := .i64) (m := ((nx : Nat) : Int)) (n := 1) rfl rfl rfl) ?_
     refine wI (d_assign rfl) ?_
     refine wF ([(eN kk), u1, (zf25 2), (zf25 3), (zf33 4), (ptr L15.bN 0), (zf25 6), (eN d), (eN nx), (eN ops), (eN i), (eN 8), (zf33 12), (eI (IntKind.i64.wrap (((nx : Nat) : Int) - 1)))] ++ (zs zf25 14 15 ++ (zs zf33 29 35 ++ [(eN nx), (eI (IntKind.i64.wrap (((nx : Nat) : Int) - 1)))] ++ (zs zf33 66 63)))) ?_
     refine wpL.done ?_
     refine then_n ?_
     refine wpIn_seq ?_
     refine wpIn_seq ?_
     refine plain ?_
     refine wI (d_move rfl) ?_
     refine wI (n_eql (a := 8) (b := 8) rfl rfl (decide_eq_true rfl)) ?_
     refine wI (d_move rfl) ?_
     refine wF ([(eN kk), u1, (zf25 2), (zf25 3), (zf33 4), (ptr L15.bN 0), (zf25 6), (eN d), (eN nx), (eN ops), (eN i), (eN 8), (zf33 12), (eI (IntKind.i64.wrap (((nx : Nat) : Int) - 1)))] ++ (zs zf25 14 15 ++ (zs zf33 29 35 ++ [(eN nx), (eI (IntKind.i64.wrap (((nx : Nat) : Int) - 1))), (eN 8), (Value.bool true), (Value.bool true)] ++ (zs zf33 69 60)))) ?_
     refine wpL.onis rfl rfl rfl (nb rfl) rfl (d_move rfl) ?_
     refine wpL.onis rfl rfl rfl (nb rfl) rfl (d_move rfl) ?_
     refine wpL.onis rfl rfl rfl (nb rfl) rfl (n_lss (a := d) (b := kk) rfl rfl (decide_eq_false (by omega))) ?_
     refine wF ([(eN kk), u1, (zf25 2), (zf25 3), (zf33 4), (ptr L15.bN 0), (zf25 6), (eN d), (eN nx), (eN ops), (eN i), (eN 8), (zf33 12), (eI (IntKind.i64.wrap (((nx : Nat) : Int) - 1)))] ++ (zs zf25 14 15 ++ (zs zf33 29 35 ++ [(eN nx), (eI (IntKind.i64.wrap (((nx : Nat) : Int) - 1))), (eN 8), (Value.bool true), (Value.bool true), (eN d), (eN kk), (Value.bool false)] ++ (zs zf33 72 57)))) ?_
     refine wI (d_pick (b := true) (v := (Value.bool false)) rfl rfl) ?_
     refine wF ([(eN kk), u1, (zf25 2), (zf25 3), (zf33 4), (ptr L15.bN 0), (zf25 6), (eN d), (eN nx), (eN ops), (eN i), (eN 8), (zf33 12), (eI (IntKind.i64.wrap (((nx : Nat) : Int) - 1)))] ++ (zs zf25 14 15 ++ (zs zf33 29 35 ++ [(eN nx), (eI (IntKind.i64.wrap (((nx : Nat) : Int) - 1))), (eN 8), (Value.bool true), (Value.bool true), (eN d), (eN kk), (Value.bool false), (Value.bool false)] ++ (zs zf33 73 56)))) ?_
     refine wpL.done ?_
     refine then_n ?_
     refine forget (fun zf34 => ([(eN kk), u1, (zf25 2), (zf25 3), (zf34 4), (ptr L15.bN 0), (zf25 6), (eN d), (eN nx), (eN ops), (eN i), (eN 8), (zf34 12), (eI (IntKind.i64.wrap (((nx : Nat) : Int) - 1)))] ++ (zs zf25 14 15 ++ (zs zf34 29 43 ++ [(Value.bool false)] ++ (zs zf34 73 56))))) (by kernel_rfl) (fun zf34 => ?_)
     refine cond_f rfl ?_
     refine wpIn_skip ?_
     refine then_n ?_
     refine plain ?_
     refine wI (d_move rfl) ?_
     refine wI (d_move rfl) ?_
     refine wI (d_max2 (m := IntKind.i64.wrap (((nx : Nat) : Int) - 1)) (n := 0) rfl rfl rfl) ?_
     refine wF ([(eN kk), u1, (zf25 2), (zf25 3), (zf34 4), (ptr L15.bN 0), (zf25 6), (eN d), (eN nx), (eN ops), (eN i), (eN 8), (zf34 12), (eI (IntKind.i64.wrap (((nx : Nat) : Int) - 1)))] ++ (zs zf25 14 15 ++ (zs zf34 29 43 ++ [(Value.bool false), (zf34 73), (ptr L15.bN 0), (eI (IntKind.i64.wrap (((nx : Nat) : Int) - 1))), (eI (if 0 > IntKind.i64.wrap (((nx : Nat) : Int) - 1) then 0 else IntKind.i64.wrap (((nx : Nat) : Int) - 1)))] ++ (zs zf34 77 52)))) ?_
     refine wO (d_make1 (n := 60) Try.underlying36 s_ti5 rfl rfl (by omega) (by omega) rfl) ?_
     rintro _ w35 ⟨o, rfl, g36, a37, o38⟩
     replace a37 : Arr 5 o ((List.replicate 60 0).map eB) w35 := by rw [List.map_replicate]; exact a37
     have l_o : (List.replicate 60 0 : List UInt8).length = 60 := by simp
     have g_oW_o : W.heap.size ≤ o := Nat.le_trans oW.size g36
     have g_o26_o : w21.heap.size ≤ o := Nat.le_trans o26.size g36
     replace h1 := h1.new o38 g36
     replace a16 := a16.new o38 g36
     replace oW := oW.tail0 o38
     replace o26 := o26.tail0 o38
     refine wO (d_call (xl := [.tmp 74, .const (.int .i64 0), .const (.int .i64 0), .tmp 76, .tmp 77]) (al := [(ptr L15.bN 0), (eN 0), (eN 0), (eI (if 0 > IntKind.i64.wrap (((nx : Nat) : Int) - 1) then 0 else IntKind.i64.wrap (((nx : Nat) : Int) - 1))), (sli o 0 60 60)]) Try.func20 (by kernel_rfl) rfl rfl rfl (prog_ok L15 s _ a16 ((0 : Nat) : Int) ((0 : Nat) : Int) (if 0 > IntKind.i64.wrap (((nx : Nat) : Int) - 1) then 0 else IntKind.i64.wrap (((nx : Nat) : Int) - 1)) (List.replicate 60 0) (sli o 0 60 60) (lt_or1 a37.lt lt_no) (arr_keep a37 l_o (Nat.le_refl _) (nx_ors (a16.dis _ in1) (fun _ _ t => t.elim))) (by have := rep_len 60 0; first | omega | (simp; done) | (simp; omega)))) ?_
     rintro _ w39 ⟨rfl, a41, o40⟩
     replace a37 := a37.step o40 (a16.dis _ in1)
     replace h1 := h1.step o40 (sub2 sub1)
     replace oW := oW.tail o40 (fun k hk e => by have := g_oW_L15 k e; omega)
     replace o26 := o26.tail o40 (fun k _ e => sub1 k e)
     replace a16 := a41
     refine wI (d_assign rfl) ?_
     refine wF ([(eN kk), u1, (zf25 2), (zf25 3), (zf34 4), (ptr L15.bN 0), (zf25 6), (eN d), (eN nx), (eN ops), (eN i), (eN 8), (eN (s.progR ((0 : Nat) : Int) ((0 : Nat) : Int) (if 0 > IntKind.i64.wrap (((nx : Nat) : Int) - 1) then 0 else IntKind.i64.wrap (((nx : Nat) : Int) - 1)) (List.replicate 60 0))), (eI (IntKind.i64.wrap (((nx : Nat) : Int) - 1)))] ++ (zs zf25 14 15 ++ (zs zf34 29 43 ++ [(Value.bool false), (zf34 73), (ptr L15.bN 0), (eI (IntKind.i64.wrap (((nx : Nat) : Int) - 1))), (eI (if 0 > IntKind.i64.wrap (((nx : Nat) : Int) - 1) then 0 else IntKind.i64.wrap (((nx : Nat) : Int) - 1))), (sli o 0 60 60), (eN (s.progR ((0 : Nat) : Int) ((0 : Nat) : Int) (if 0 > IntKind.i64.wrap (((nx : Nat) : Int) - 1) then 0 else IntKind.i64.wrap (((nx : Nat) : Int) - 1)) (List.replicate 60 0)))] ++ (zs zf34 79 50)))) ?_
     refine wpL.done ?_
     refine inb_n (then_n ?_)
     refine wpIn_seq ?_
     have hI2 : StpI (s.prog ((0 : Nat) : Int) ((0 : Nat) : Int) (if 0 > IntKind.i64.wrap (((nx : Nat) : Int) - 1) then 0 else IntKind.i64.wrap (((nx : Nat) : Int) - 1)) (List.replicate 60 0)) kk d nx ops := (by rw [((stp_after hI c1).2.1 _ _ _ _).2]; exact hI)
     have hf2 : s.progR ((0 : Nat) : Int) ((0 : Nat) : Int) (if 0 > IntKind.i64.wrap (((nx : Nat) : Int) - 1) then 0 else IntKind.i64.wrap (((nx : Nat) : Int) - 1)) (List.replicate 60 0) = 8 := ((stp_after hI c1).2.1 _ _ _ _).1
     refine wp_eq (l' := ([(eN kk), u1, (zf25 2), (zf25 3), (zf34 4), (ptr L15.bN 0), (zf25 6), (eN d), (eN nx), (eN ops), (eN i), (eN 8), (eN 8), (eI (IntKind.i64.wrap (((nx : Nat) : Int) - 1)))] ++ (zs zf25 14 15 ++ (zs zf34 29 43 ++ [(Value.bool false), (zf34 73), (ptr L15.bN 0), (eI (IntKind.i64.wrap (((nx : Nat) : Int) - 1))), (eI (if 0 > IntKind.i64.wrap (((nx : Nat) : Int) - 1) then 0 else IntKind.i64.wrap (((nx : Nat) : Int) - 1))), (sli o 0 60 60), (eN (s.progR ((0 : Nat) : Int) ((0 : Nat) : Int) (if 0 > IntKind.i64.wrap (((nx : Nat) : Int) - 1) then 0 else IntKind.i64.wrap (((nx : Nat) : Int) - 1)) (List.replicate 60 0)))] ++ (zs zf34 79 50))))) (show (([(eN kk), u1, (zf25 2), (zf25 3), (zf34 4), (ptr L15.bN 0), (zf25 6), (eN d), (eN nx), (eN ops), (eN i), (eN 8), (eN (s.progR ((0 : Nat) : Int) ((0 : Nat) : Int) (if 0 > IntKind.i64.wrap (((nx : Nat) : Int) - 1) then 0 else IntKind.i64.wrap (((nx : Nat) : Int) - 1)) (List.replicate 60 0))), (eI (IntKind.i64.wrap (((nx : Nat) : Int) - 1)))] ++ (zs zf25 14 15 ++ (zs zf34 29 43 ++ [(Value.bool false), (zf34 73), (ptr L15.bN 0), (eI (IntKind.i64.wrap (((nx : Nat) : Int) - 1))), (eI (if 0 > IntKind.i64.wrap (((nx : Nat) : Int) - 1) then 0 else IntKind.i64.wrap (((nx : Nat) : Int) - 1))), (sli o 0 60 60), (eN (s.progR ((0 : Nat) : Int) ((0 : Nat) : Int) (if 0 > IntKind.i64.wrap (((nx : Nat) : Int) - 1) then 0 else IntKind.i64.wrap (((nx : Nat) : Int) - 1)) (List.replicate 60 0)))] ++ (zs zf34 79 50)))) : List Value) = ([(eN kk), u1, (zf25 2), (zf25 3), (zf34 4), (ptr L15.bN 0), (zf25 6), (eN d), (eN nx), (eN ops), (eN i), (eN 8), (eN 8), (eI (IntKind.i64.wrap (((nx : Nat) : Int) - 1)))] ++ (zs zf25 14 15 ++ (zs zf34 29 43 ++ [(Value.bool false), (zf34 73), (ptr L15.bN 0), (eI (IntKind.i64.wrap (((nx : Nat) : Int) - 1))), (eI (if 0 > IntKind.i64.wrap (((nx : Nat) : Int) - 1) then 0 else IntKind.i64.wrap (((nx : Nat) : Int) - 1))), (sli o 0 60 60), (eN (s.progR ((0 : Nat) : Int) ((0 : Nat) : Int) (if 0 > IntKind.i64.wrap (((nx : Nat) : Int) - 1) then 0 else IntKind.i64.wrap (((nx : Nat) : Int) - 1)) (List.replicate 60 0)))] ++ (zs zf34 79 50)))) from reslot ([(eN kk), u1, (zf25 2), (zf25 3), (zf34 4), (ptr L15.bN 0), (zf25 6), (eN d), (eN nx), (eN ops), (eN i), (eN 8), (eN (s.progR ((0 : Nat) : Int) ((0 : Nat) : Int) (if 0 > IntKind.i64.wrap (((nx : Nat) : Int) - 1) then 0 else IntKind.i64.wrap (((nx : Nat) : Int) - 1)) (List.replicate 60 0))), (eI (IntKind.i64.wrap (((nx : Nat) : Int) - 1)))] ++ (zs zf25 14 15 ++ (zs zf34 29 43 ++ [(Value.bool false), (zf34 73), (ptr L15.bN 0), (eI (IntKind.i64.wrap (((nx : Nat) : Int) - 1))), (eI (if 0 > IntKind.i64.wrap (((nx : Nat) : Int) - 1) then 0 else IntKind.i64.wrap (((nx : Nat) : Int) - 1))), (sli o 0 60 60), (eN (s.progR ((0 : Nat) : Int) ((0 : Nat) : Int) (if 0 > IntKind.i64.wrap (((nx : Nat) : Int) - 1) then 0 else IntKind.i64.wrap (((nx : Nat) : Int) - 1)) (List.replicate 60 0)))] ++ (zs zf34 79 50)))) 12 (congrArg eN hf2)) ?_
     obtain ⟨s9, es9⟩ : ∃ s9, s.prog ((0 : Nat) : Int) ((0 : Nat) : Int) (if 0 > IntKind.i64.wrap (((nx : Nat) : Int) - 1) then 0 else IntKind.i64.wrap (((nx : Nat) : Int) - 1)) (List.replicate 60 0) = s9 := ⟨_, rfl⟩
     rw [es9] at hI2
     replace a16 := nd_to a16 es9
     clear hf2 es9
     refine plain ?_
     refine wI (d_move rfl) ?_
     refine wI (d_move rfl) ?_
     refine wI (n_neq (a := 8) (b := 8) rfl rfl (by rw [decide_eq_true rfl] <;> rfl)) ?_
     refine wF ([(eN kk), u1, (zf25 2), (zf25 3), (zf34 4), (ptr L15.bN 0), (zf25 6), (eN d), (eN nx), (eN ops), (eN i), (eN 8), (eN 8), (eI (IntKind.i64.wrap (((nx : Nat) : Int) - 1)))] ++ (zs zf25 14 15 ++ (zs zf34 29 43 ++ [(Value.bool false), (zf34 73), (ptr L15.bN 0), (eI (IntKind.i64.wrap (((nx : Nat) : Int) - 1))), (eI (if 0 > IntKind.i64.wrap (((nx : Nat) : Int) - 1) then 0 else IntKind.i64.wrap (((nx : Nat) : Int) - 1))), (sli o 0 60 60), (eN (s.progR ((0 : Nat) : Int) ((0 : Nat) : Int) (if 0 > IntKind.i64.wrap (((nx : Nat) : Int) - 1) then 0 else IntKind.i64.wrap (((nx : Nat) : Int) - 1)) (List.replicate 60 0)))] ++ (zs zf34 79 33 ++ [(eN 8), (eN 8), (Value.bool false)] ++ (zs zf34 115 14))))) ?_
     refine wI (d_move rfl) ?_
     refine wpL.onis rfl rfl rfl (nb rfl) rfl (d_move rfl) ?_
     refine wpL.on rfl rfl rfl (nb rfl) rfl (d_call (xl := [.tmp 116]) (al := [(ptr L15.bN 0)]) Try.func25 (by kernel_rfl) rfl rfl rfl (nandDead_ok L15 s9 _ a16)) ?_
     rintro _ w42 ⟨rfl, o43⟩
     replace h1 := h1.step0 o43
     replace a16 := a16.step0 o43
     replace a37 := a37.step0 o43
     replace oW := oW.tail0 o43
     replace o26 := o26.tail0 o43
     refine wF ([(eN kk), u1, (zf25 2), (zf25 3), (zf34 4), (ptr L15.bN 0), (zf25 6), (eN d), (eN nx), (eN ops), (eN i), (eN 8), (eN 8), (eI (IntKind.i64.wrap (((nx : Nat) : Int) - 1)))] ++ (zs zf25 14 15 ++ (zs zf34 29 43 ++ [(Value.bool false), (zf34 73), (ptr L15.bN 0), (eI (IntKind.i64.wrap (((nx : Nat) : Int) - 1))), (eI (if 0 > IntKind.i64.wrap (((nx : Nat) : Int) - 1) then 0 else IntKind.i64.wrap (((nx : Nat) : Int) - 1))), (sli o 0 60 60), (eN (s.progR ((0 : Nat) : Int) ((0 : Nat) : Int) (if 0 > IntKind.i64.wrap (((nx : Nat) : Int) - 1) then 0 else IntKind.i64.wrap (((nx : Nat) : Int) - 1)) (List.replicate 60 0)))] ++ (zs zf34 79 33 ++ [(eN 8), (eN 8), (Value.bool false), (Value.bool false), (ptr L15.bN 0), (Value.bool s9.dead)] ++ (zs zf34 118 11))))) ?_
     refine wpL.onis rfl rfl rfl (nb rfl) rfl (d_move rfl) ?_
     refine wpL.onis rfl rfl rfl (nb rfl) rfl (d_move rfl) ?_
     refine wpL.onis rfl rfl rfl (nb rfl) rfl (n_eql (a := d) (b := kk) rfl rfl (decide_eq_true c1)) ?_
     refine wF ([(eN kk), u1, (zf25 2), (zf25 3), (zf34 4), (ptr L15.bN 0), (zf25 6), (eN d), (eN nx), (eN ops), (eN i), (eN 8), (eN 8), (eI (IntKind.i64.wrap (((nx : Nat) : Int) - 1)))] ++ (zs zf25 14 15 ++ (zs zf34 29 43 ++ [(Value.bool false), (zf34 73), (ptr L15.bN 0), (eI (IntKind.i64.wrap (((nx : Nat) : Int) - 1))), (eI (if 0 > IntKind.i64.wrap (((nx : Nat) : Int) - 1) then 0 else IntKind.i64.wrap (((nx : Nat) : Int) - 1))), (sli o 0 60 60), (eN (s.progR ((0 : Nat) : Int) ((0 : Nat) : Int) (if 0 > IntKind.i64.wrap (((nx : Nat) : Int) - 1) then 0 else IntKind.i64.wrap (((nx : Nat) : Int) - 1)) (List.replicate 60 0)))] ++ (zs zf34 79 33 ++ [(eN 8), (eN 8), (Value.bool false), (Value.bool false), (ptr L15.bN 0), (Value.bool s9.dead), (eN d), (eN kk), (Value.bool true)] ++ (zs zf34 121 8))))) ?_
     refine wpL.onis rfl rfl rfl (nb rfl) rfl (d_bneq (r := false) Try.underlying4 rfl rfl (by rw [stp_dead hI2]; first | rfl | (simp; done) | (simp [c1]; done) | (simp [c4]; done))) ?_
     refine wI (d_pick (b := false) (v := (Value.bool false)) rfl rfl) ?_
     refine wI (d_move rfl) ?_
     refine wF ([(eN kk), u1, (zf25 2), (zf25 3), (zf34 4), (ptr L15.bN 0), (zf25 6), (eN d), (eN nx), (eN ops), (eN i), (eN 8), (eN 8), (eI (IntKind.i64.wrap (((nx : Nat) : Int) - 1)))] ++ (zs zf25 14 15 ++ (zs zf34 29 43 ++ [(Value.bool false), (zf34 73), (ptr L15.bN 0), (eI (IntKind.i64.wrap (((nx : Nat) : Int) - 1))), (eI (if 0 > IntKind.i64.wrap (((nx : Nat) : Int) - 1) then 0 else IntKind.i64.wrap (((nx : Nat) : Int) - 1))), (sli o 0 60 60), (eN (s.progR ((0 : Nat) : Int) ((0 : Nat) : Int) (if 0 > IntKind.i64.wrap (((nx : Nat) : Int) - 1) then 0 else IntKind.i64.wrap (((nx : Nat) : Int) - 1)) (List.replicate 60 0)))] ++ (zs zf34 79 33 ++ [(eN 8), (eN 8), (Value.bool false), (Value.bool false), (ptr L15.bN 0), (Value.bool s9.dead), (eN d), (eN kk), (Value.bool true), (Value.bool false), (Value.bool false), (Value.bool false)] ++ (zs zf34 124 5))))) ?_
     refine wpL.onis rfl rfl rfl (nb rfl) rfl (d_move rfl) ?_
     refine wpL.on rfl rfl rfl (nb rfl) rfl (d_call (xl := [.tmp 124]) (al := [(ptr L15.bN 0)]) Try.func19 (by kernel_rfl) rfl rfl rfl (nandOps_ok L15 s9 _ a16)) ?_
     rintro _ w44 ⟨rfl, o45⟩
     replace h1 := h1.step0 o45
     replace a16 := a16.step0 o45
     replace a37 := a37.step0 o45
     replace oW := oW.tail0 o45
     replace o26 := o26.tail0 o45
     refine wpL.onis rfl rfl rfl (nb rfl) rfl (d_move rfl) ?_
     refine wF ([(eN kk), u1, (zf25 2), (zf25 3), (zf34 4), (ptr L15.bN 0), (zf25 6), (eN d), (eN nx), (eN ops), (eN i), (eN 8), (eN 8), (eI (IntKind.i64.wrap (((nx : Nat) : Int) - 1)))] ++ (zs zf25 14 15 ++ (zs zf34 29 43 ++ [(Value.bool false), (zf34 73), (ptr L15.bN 0), (eI (IntKind.i64.wrap (((nx : Nat) : Int) - 1))), (eI (if 0 > IntKind.i64.wrap (((nx : Nat) : Int) - 1) then 0 else IntKind.i64.wrap (((nx : Nat) : Int) - 1))), (sli o 0 60 60), (eN (s.progR ((0 : Nat) : Int) ((0 : Nat) : Int) (if 0 > IntKind.i64.wrap (((nx : Nat) : Int) - 1) then 0 else IntKind.i64.wrap (((nx : Nat) : Int) - 1)) (List.replicate 60 0)))] ++ (zs zf34 79 33 ++ [(eN 8), (eN 8), (Value.bool false), (Value.bool false), (ptr L15.bN 0), (Value.bool s9.dead), (eN d), (eN kk), (Value.bool true), (Value.bool false), (Value.bool false), (Value.bool false), (ptr L15.bN 0), (eI s9.ops), (eN ops), (zf34 127), (zf34 128)])))) ?_
     refine wpL.onis rfl rfl rfl (nb rfl) rfl (d_neq (k := .i64) (m := s9.ops) (n := ((ops : Nat) : Int)) rfl rfl (by rw [decide_eq_true (stp_ops hI2)] <;> rfl)) ?_
     refine wI (d_pick (b := false) (v := (Value.bool false)) rfl rfl) ?_
     refine wF ([(eN kk), u1, (zf25 2), (zf25 3), (zf34 4), (ptr L15.bN 0), (zf25 6), (eN d), (eN nx), (eN ops), (eN i), (eN 8), (eN 8), (eI (IntKind.i64.wrap (((nx : Nat) : Int) - 1)))] ++ (zs zf25 14 15 ++ (zs zf34 29 43 ++ [(Value.bool false), (zf34 73), (ptr L15.bN 0), (eI (IntKind.i64.wrap (((nx : Nat) : Int) - 1))), (eI (if 0 > IntKind.i64.wrap (((nx : Nat) : Int) - 1) then 0 else IntKind.i64.wrap (((nx : Nat) : Int) - 1))), (sli o 0 60 60), (eN (s.progR ((0 : Nat) : Int) ((0 : Nat) : Int) (if 0 > IntKind.i64.wrap (((nx : Nat) : Int) - 1) then 0 else IntKind.i64.wrap (((nx : Nat) : Int) - 1)) (List.replicate 60 0)))] ++ (zs zf34 79 33 ++ [(eN 8), (eN 8), (Value.bool false), (Value.bool false), (ptr L15.bN 0), (Value.bool s9.dead), (eN d), (eN kk), (Value.bool true), (Value.bool false), (Value.bool false), (Value.bool false), (ptr L15.bN 0), (eI s9.ops), (eN ops), (Value.bool false), (Value.bool false)])))) ?_
     refine wpL.done ?_
     refine then_n ?_
     refine forget (fun zf46 => ([(eN kk), u1, (zf25 2), (zf25 3), (zf46 4), (ptr L15.bN 0), (zf25 6), (eN d), (eN nx), (eN ops), (eN i), (zf46 11), (zf46 12), (zf46 13)] ++ (zs zf25 14 15 ++ (zs zf46 29 99 ++ [(Value.bool false)])))) (by kernel_rfl) (fun zf46 => ?_)
     refine cond_f rfl ?_
     refine wpIn_skip ?_
     refine inb_n (then_n ?_)
     refine plain ?_
     refine wI (d_move rfl) ?_
     refine wI (n_add (a := i) (b := 1) rfl rfl (by omega)) ?_
     refine wI (d_assign rfl) ?_
     refine wF ([(eN kk), u1, (zf25 2), (zf25 3), (zf46 4), (ptr L15.bN 0), (zf25 6), (eN d), (eN nx), (eN ops), (eN (i + 1)), (zf46 11), (zf46 12), (zf46 13)] ++ (zs zf25 14 15 ++ (zs zf46 29 8 ++ [(eN i), (eN (i + 1))] ++ (zs zf46 39 89 ++ [(Value.bool false)])))) ?_
     refine wpL.done ?_
     refine then_n ?_
     refine ⟨_, ⟨i + 1, d, nx, ops, s9⟩, rfl, rfl, ⟨?_, ?_, ?_, ?_, ?_, ?_, ?_⟩, ?_⟩
     ·
      (try dsimp only)
      all_goals (omega)
     ·
      (try dsimp only)
      all_goals (omega)
     ·
      (try dsimp only)
      all_goals (omega)
     ·
      (try dsimp only)
      all_goals (omega)
     ·
      exact hI2
     ·
      exact o26
     ·
      exact a16.less (xx_skip xx_id)
     ·
      (try dsimp only)
      all_goals (omega)
    refine plain ?_
    refine wI (n_eql (a := pv) (b := 1) rfl rfl rfl) ?_
    refine wI (d_assign rfl) ?_
    refine wF ([(eN kk), u1, (zf25 2), (zf25 3), (zf31 4), (ptr L15.bN 0), (zf25 6), (eN d), (eN nx), (eN ops), (eN i), (eN 8), (eN 0), (zf31 13)] ++ (zs zf25 14 15 ++ (zs zf31 29 17 ++ [(eN pv), (Value.bool (decide (pv = 1))), (zf31 48), (Value.bool (decide (pv = 1)))] ++ (zs zf31 50 79)))) ?_
    refine wpL.done ?_
    refine then_n ?_
    refine cond_if rfl (fun c47 => ?_) (fun c47 => ?_)
    ·
     refine wpIn_seq ?_
     refine wpIn_seq ?_
     refine plain ?_
     refine wI (d_move rfl) ?_
     refine wI (n_geq (a := nx) (b := 8) rfl rfl rfl) ?_
     refine wF ([(eN kk), u1, (zf25 2), (zf25 3), (zf31 4), (ptr L15.bN 0), (zf25 6), (eN d), (eN nx), (eN ops), (eN i), (eN 8), (eN 0), (zf31 13)] ++ (zs zf25 14 15 ++ (zs zf31 29 17 ++ [(eN pv), (Value.bool (decide (pv = 1))), (zf31 48), (Value.bool (decide (pv = 1))), (eN nx), (Value.bool (decide (8 ≤ nx)))] ++ (zs zf31 52 77)))) ?_
     refine wpL.done ?_
     refine then_n ?_
     refine cond_if rfl (fun c8 => ?_) (fun c8 => ?_)
     ·
      refine wpIn_exit ?_
      refine then_x (inb_x (by decide) (then_x (inb_e ?_)))
      refine then_n ?_
      refine plain ?_
      refine wI (d_move rfl) ?_
      refine wI (n_add (a := i) (b := 1) rfl rfl (by omega)) ?_
      refine wI (d_assign rfl) ?_
      refine wF ([(eN kk), u1, (zf25 2), (zf25 3), (zf31 4), (ptr L15.bN 0), (zf25 6), (eN d), (eN nx), (eN ops), (eN (i + 1)), (eN 8), (eN 0), (zf31 13)] ++ (zs zf25 14 15 ++ (zs zf31 29 8 ++ [(eN i), (eN (i + 1))] ++ (zs zf31 39 7 ++ [(eN pv), (Value.bool (decide (pv = 1))), (zf31 48), (Value.bool (decide (pv = 1))), (eN nx), (Value.bool (decide (8 ≤ nx)))] ++ (zs zf31 52 77))))) ?_
      refine wpL.done ?_
      refine then_n ?_
      refine ⟨_, ⟨i + 1, d, nx, ops, s⟩, rfl, rfl, ⟨?_, ?_, ?_, ?_, ?_, ?_, ?_⟩, ?_⟩
      ·
       (try dsimp only)
       all_goals (omega)
      ·
       (try dsimp only)
       all_goals (omega)
      ·
       (try dsimp only)
       all_goals (omega)
      ·
       (try dsimp only)
       all_goals (omega)
      ·
       exact hI
      ·
       exact o26
      ·
       exact a16
      ·
       (try dsimp only)
       all_goals (omega)
     refine wpIn_skip ?_
     refine then_n ?_
     refine wpIn_seq ?_
     refine wpIn_seq ?_
     refine plain ?_
     refine wI (d_move rfl) ?_
     refine wI (d_move rfl) ?_
     refine wI (n_lss (a := d) (b := kk) rfl rfl rfl) ?_
     refine wF ([(eN kk), u1, (zf25 2), (zf25 3), (zf31 4), (ptr L15.bN 0), (zf25 6), (eN d), (eN nx), (eN ops), (eN i), (eN 8), (eN 0), (zf31 13)] ++ (zs zf25 14 15 ++ (zs zf31 29 17 ++ [(eN pv), (Value.bool (decide (pv = 1))), (zf31 48), (Value.bool (decide (pv = 1))), (eN nx), (Value.bool (decide (8 ≤ nx))), (eN d), (eN kk), (Value.bool (decide (d < kk)))] ++ (zs zf31 55 74)))) ?_
     refine wpL.done ?_
     refine then_n ?_
     refine forget (fun zf48 => ([(eN kk), u1, (zf25 2), (zf25 3), (zf48 4), (ptr L15.bN 0), (zf25 6), (eN d), (eN nx), (eN ops), (eN i), (eN 8), (zf48 12), (zf48 13)] ++ (zs zf25 14 15 ++ (zs zf48 29 25 ++ [(Value.bool (decide (d < kk)))] ++ (zs zf48 55 74))))) (by kernel_rfl) (fun zf48 => ?_)
     refine cond_if rfl (fun c3 => ?_) (fun c3 => ?_)
     ·
      omega
     refine wpIn_skip ?_
     refine then_n ?_
     refine wpIn_seq ?_
     refine plain ?_
     refine wI (d_move rfl) ?_
     refine wI (d_sub (k := .i64) (m := ((nx : Nat) : Int)) (n := 1) rfl rfl rfl) ?_
     refine wI (d_assign rfl) ?_
     refine wF ([(eN kk), u1, (zf25 2), (zf25 3), (zf48 4), (ptr L15.bN 0), (zf25 6), (eN d), (eN nx), (eN ops), (eN i), (eN 8), (zf48 12), (eI (IntKind.i64.wrap (((nx : Nat) : Int) - 1)))] ++ (zs zf25 14 15 ++ (zs zf48 29 25 ++ [(Value.bool (decide (d < kk)))] ++ (zs zf48 55 9 ++ [(eN nx), (eI (IntKind.i64.wrap (((nx : Nat) : Int) - 1)))] ++ (zs zf48 66 63))))) ?_
     refine wpL.done ?_
     refine then_n ?_
     refine wpIn_seq ?_
     refine wpIn_seq ?_
     refine plain ?_
     refine wI (d_move rfl) ?_
     refine wI (n_eql (a := 8) (b := 8) rfl rfl (decide_eq_true rfl)) ?_
     refine wI (d_move rfl) ?_
     refine wF ([(eN kk), u1, (zf25 2), (zf25 3), (zf48 4), (ptr L15.bN 0), (zf25 6), (eN d), (eN nx), (eN ops), (eN i), (eN 8), (zf48 12), (eI (IntKind.i64.wrap (((nx : Nat) : Int) - 1)))] ++ (zs zf25 14 15 ++ (zs zf48 29 25 ++ [(Value.bool (decide (d < kk)))] ++ (zs zf48 55 9 ++ [(eN nx), (eI (IntKind.i64.wrap (((nx : Nat) : Int) - 1))), (eN 8), (Value.bool true), (Value.bool true)] ++ (zs zf48 69 60))))) ?_
     refine wpL.onis rfl rfl rfl (nb rfl) rfl (d_move rfl) ?_
     refine wpL.onis rfl rfl rfl (nb rfl) rfl (d_move rfl) ?_
     refine wpL.onis rfl rfl rfl (nb rfl) rfl (n_lss (a := d) (b := kk) rfl rfl (decide_eq_false (by omega))) ?_
     refine wF ([(eN kk), u1, (zf25 2), (zf25 3), (zf48 4), (ptr L15.bN 0), (zf25 6), (eN d), (eN nx), (eN ops), (eN i), (eN 8), (zf48 12), (eI (IntKind.i64.wrap (((nx : Nat) : Int) - 1)))] ++ (zs zf25 14 15 ++ (zs zf48 29 25 ++ [(Value.bool (decide (d < kk)))] ++ (zs zf48 55 9 ++ [(eN nx), (eI (IntKind.i64.wrap (((nx : Nat) : Int) - 1))), (eN 8), (Value.bool true), (Value.bool true), (eN d), (eN kk), (Value.bool false)] ++ (zs zf48 72 57))))) ?_
     refine wI (d_pick (b := true) (v := (Value.bool false)) rfl rfl) ?_
     refine wF ([(eN kk), u1, (zf25 2), (zf25 3), (zf48 4), (ptr L15.bN 0), (zf25 6), (eN d), (eN nx), (eN ops), (eN i), (eN 8), (zf48 12), (eI (IntKind.i64.wrap (((nx : Nat) : Int) - 1)))] ++ (zs zf25 14 15 ++ (zs zf48 29 25 ++ [(Value.bool (decide (d < kk)))] ++ (zs zf48 55 9 ++ [(eN nx), (eI (IntKind.i64.wrap (((nx : Nat) : Int) - 1))), (eN 8), (Value.bool true), (Value.bool true), (eN d), (eN kk), (Value.bool false), (Value.bool false)] ++ (zs zf48 73 56))))) ?_
     refine wpL.done ?_
     refine then_n ?_
     refine forget (fun zf49 => ([(eN kk), u1, (zf25 2), (zf25 3), (zf49 4), (ptr L15.bN 0), (zf25 6), (eN d), (eN nx), (eN ops), (eN i), (eN 8), (zf49 12), (eI (IntKind.i64.wrap (((nx : Nat) : Int) - 1)))] ++ (zs zf25 14 15 ++ (zs zf49 29 43 ++ [(Value.bool false)] ++ (zs zf49 73 56))))) (by kernel_rfl) (fun zf49 => ?_)
     refine cond_f rfl ?_
     refine wpIn_skip ?_
     refine then_n ?_
     refine plain ?_
     refine wI (d_move rfl) ?_
     refine wI (d_move rfl) ?_
     refine wI (d_max2 (m := IntKind.i64.wrap (((nx : Nat) : Int) - 1)) (n := 0) rfl rfl rfl) ?_
     refine wF ([(eN kk), u1, (zf25 2), (zf25 3), (zf49 4), (ptr L15.bN 0), (zf25 6), (eN d), (eN nx), (eN ops), (eN i), (eN 8), (zf49 12), (eI (IntKind.i64.wrap (((nx : Nat) : Int) - 1)))] ++ (zs zf25 14 15 ++ (zs zf49 29 43 ++ [(Value.bool false), (zf49 73), (ptr L15.bN 0), (eI (IntKind.i64.wrap (((nx : Nat) : Int) - 1))), (eI (if 0 > IntKind.i64.wrap (((nx : Nat) : Int) - 1) then 0 else IntKind.i64.wrap (((nx : Nat) : Int) - 1)))] ++ (zs zf49 77 52)))) ?_
     refine wO (d_make1 (n := 60) Try.underlying36 s_ti5 rfl rfl (by omega) (by omega) rfl) ?_
     rintro _ w50 ⟨o, rfl, g51, a52, o53⟩
     replace a52 : Arr 5 o ((List.replicate 60 0).map eB) w50 := by rw [List.map_replicate]; exact a52
     have l_o : (List.replicate 60 0 : List UInt8).length = 60 := by simp
     have g_oW_o : W.heap.size ≤ o := Nat.le_trans oW.size g51
     have g_o26_o : w21.heap.size ≤ o := Nat.le_trans o26.size g51
     replace h1 := h1.new o53 g51
     replace a16 := a16.new o53 g51
     replace oW := oW.tail0 o53
     replace o26 := o26.tail0 o53
     refine wO (d_call (xl := [.tmp 74, .const (.int .i64 0), .const (.int .i64 0), .tmp 76, .tmp 77]) (al := [(ptr L15.bN 0), (eN 0), (eN 0), (eI (if 0 > IntKind.i64.wrap (((nx : Nat) : Int) - 1) then 0 else IntKind.i64.wrap (((nx : Nat) : Int) - 1))), (sli o 0 60 60)]) Try.func20 (by kernel_rfl) rfl rfl rfl (prog_ok L15 s _ a16 ((0 : Nat) : Int) ((0 : Nat) : Int) (if 0 > IntKind.i64.wrap (((nx : Nat) : Int) - 1) then 0 else IntKind.i64.wrap (((nx : Nat) : Int) - 1)) (List.replicate 60 0) (sli o 0 60 60) (lt_or1 a52.lt lt_no) (arr_keep a52 l_o (Nat.le_refl _) (nx_ors (a16.dis _ in1) (fun _ _ t => t.elim))) (by have := rep_len 60 0; first | omega | (simp; done) | (simp; omega)))) ?_
     rintro _ w54 ⟨rfl, a56, o55⟩
     replace a52 := a52.step o55 (a16.dis _ in1)
     replace h1 := h1.step o55 (sub2 sub1)
     replace oW := oW.tail o55 (fun k hk e => by have := g_oW_L15 k e; omega)
     replace o26 := o26.tail o55 (fun k _ e => sub1 k e)
     replace a16 := a56
     refine wI (d_assign rfl) ?_
     refine wF ([(eN kk), u1, (zf25 2), (zf25 3), (zf49 4), (ptr L15.bN 0), (zf25 6), (eN d), (eN nx), (eN ops), (eN i), (eN 8), (eN (s.progR ((0 : Nat) : Int) ((0 : Nat) : Int) (if 0 > IntKind.i64.wrap (((nx : Nat) : Int) - 1) then 0 else IntKind.i64.wrap (((nx : Nat) : Int) - 1)) (List.replicate 60 0))), (eI (IntKind.i64.wrap (((nx : Nat) : Int) - 1)))] ++ (zs zf25 14 15 ++ (zs zf49 29 43 ++ [(Value.bool false), (zf49 73), (ptr L15.bN 0), (eI (IntKind.i64.wrap (((nx : Nat) : Int) - 1))), (eI (if 0 > IntKind.i64.wrap (((nx : Nat) : Int) - 1) then 0 else IntKind.i64.wrap (((nx : Nat) : Int) - 1))), (sli o 0 60 60), (eN (s.progR ((0 : Nat) : Int) ((0 : Nat) : Int) (if 0 > IntKind.i64.wrap (((nx : Nat) : Int) - 1) then 0 else IntKind.i64.wrap (((nx : Nat) : Int) - 1)) (List.replicate 60 0)))] ++ (zs zf49 79 50)))) ?_
     refine wpL.done ?_
     refine inb_n (then_n ?_)
     refine wpIn_seq ?_
     have hI2 : StpI (s.prog ((0 : Nat) : Int) ((0 : Nat) : Int) (if 0 > IntKind.i64.wrap (((nx : Nat) : Int) - 1) then 0 else IntKind.i64.wrap (((nx : Nat) : Int) - 1)) (List.replicate 60 0)) kk d nx ops := (by rw [((stp_after hI c1).2.1 _ _ _ _).2]; exact hI)
     have hf2 : s.progR ((0 : Nat) : Int) ((0 : Nat) : Int) (if 0 > IntKind.i64.wrap (((nx : Nat) : Int) - 1) then 0 else IntKind.i64.wrap (((nx : Nat) : Int) - 1)) (List.replicate 60 0) = 8 := ((stp_after hI c1).2.1 _ _ _ _).1
     refine wp_eq (l' := ([(eN kk), u1, (zf25 2), (zf25 3), (zf49 4), (ptr L15.bN 0), (zf25 6), (eN d), (eN nx), (eN ops), (eN i), (eN 8), (eN 8), (eI (IntKind.i64.wrap (((nx : Nat) : Int) - 1)))] ++ (zs zf25 14 15 ++ (zs zf49 29 43 ++ [(Value.bool false), (zf49 73), (ptr L15.bN 0), (eI (IntKind.i64.wrap (((nx : Nat) : Int) - 1))), (eI (if 0 > IntKind.i64.wrap (((nx : Nat) : Int) - 1) then 0 else IntKind.i64.wrap (((nx : Nat) : Int) - 1))), (sli o 0 60 60), (eN (s.progR ((0 : Nat) : Int) ((0 : Nat) : Int) (if 0 > IntKind.i64.wrap (((nx : Nat) : Int) - 1) then 0 else IntKind.i64.wrap (((nx : Nat) : Int) - 1)) (List.replicate 60 0)))] ++ (zs zf49 79 50))))) (show (([(eN kk), u1, (zf25 2), (zf25 3), (zf49 4), (ptr L15.bN 0), (zf25 6), (eN d), (eN nx), (eN ops), (eN i), (eN 8), (eN (s.progR ((0 : Nat) : Int) ((0 : Nat) : Int) (if 0 > IntKind.i64.wrap (((nx : Nat) : Int) - 1) then 0 else IntKind.i64.wrap (((nx : Nat) : Int) - 1)) (List.replicate 60 0))), (eI (IntKind.i64.wrap (((nx : Nat) : Int) - 1)))] ++ (zs zf25 14 15 ++ (zs zf49 29 43 ++ [(Value.bool false), (zf49 73), (ptr L15.bN 0), (eI (IntKind.i64.wrap (((nx : Nat) : Int) - 1))), (eI (if 0 > IntKind.i64.wrap (((nx : Nat) : Int) - 1) then 0 else IntKind.i64.wrap (((nx : Nat) : Int) - 1))), (sli o 0 60 60), (eN (s.progR ((0 : Nat) : Int) ((0 : Nat) : Int) (if 0 > IntKind.i64.wrap (((nx : Nat) : Int) - 1) then 0 else IntKind.i64.wrap (((nx : Nat) : Int) - 1)) (List.replicate 60 0)))] ++ (zs zf49 79 50)))) : List Value) = ([(eN kk), u1, (zf25 2), (zf25 3), (zf49 4), (ptr L15.bN 0), (zf25 6), (eN d), (eN nx), (eN ops), (eN i), (eN 8), (eN 8), (eI (IntKind.i64.wrap (((nx : Nat) : Int) - 1)))] ++ (zs zf25 14 15 ++ (zs zf49 29 43 ++ [(Value.bool false), (zf49 73), (ptr L15.bN 0), (eI (IntKind.i64.wrap (((nx : Nat) : Int) - 1))), (eI (if 0 > IntKind.i64.wrap (((nx : Nat) : Int) - 1) then 0 else IntKind.i64.wrap (((nx : Nat) : Int) - 1))), (sli o 0 60 60), (eN (s.progR ((0 : Nat) : Int) ((0 : Nat) : Int) (if 0 > IntKind.i64.wrap (((nx : Nat) : Int) - 1) then 0 else IntKind.i64.wrap (((nx : Nat) : Int) - 1)) (List.replicate 60 0)))] ++ (zs zf49 79 50)))) from reslot ([(eN kk), u1, (zf25 2), (zf25 3), (zf49 4), (ptr L15.bN 0), (zf25 6), (eN d), (eN nx), (eN ops), (eN i), (eN 8), (eN (s.progR ((0 : Nat) : Int) ((0 : Nat) : Int) (if 0 > IntKind.i64.wrap (((nx : Nat) : Int) - 1) then 0 else IntKind.i64.wrap (((nx : Nat) : Int) - 1)) (List.replicate 60 0))), (eI (IntKind.i64.wrap (((nx : Nat) : Int) - 1)))] ++ (zs zf25 14 15 ++ (zs zf49 29 43 ++ [(Value.bool false), (zf49 73), (ptr L15.bN 0), (eI (IntKind.i64.wrap (((nx : Nat) : Int) - 1))), (eI (if 0 > IntKind.i64.wrap (((nx : Nat) : Int) - 1) then 0 else IntKind.i64.wrap (((nx : Nat) : Int) - 1))), (sli o 0 60 60), (eN (s.progR ((0 : Nat) : Int) ((0 : Nat) : Int) (if 0 > IntKind.i64.wrap (((nx : Nat) : Int) - 1) then 0 else IntKind.i64.wrap (((nx : Nat) : Int) - 1)) (List.replicate 60 0)))] ++ (zs zf49 79 50)))) 12 (congrArg eN hf2)) ?_
     obtain ⟨s9, es9⟩ : ∃ s9, s.prog ((0 : Nat) : Int) ((0 : Nat) : Int) (if 0 > IntKind.i64.wrap (((nx : Nat) : Int) - 1) then 0 else IntKind.i64.wrap (((nx : Nat) : Int) - 1)) (List.replicate 60 0) = s9 := ⟨_, rfl⟩
     rw [es9] at hI2
     replace a16 := nd_to a16 es9
     clear hf2 es9
     refine plain ?_
     refine wI (d_move rfl) ?_
     refine wI (d_move rfl) ?_
     refine wI (n_neq (a := 8) (b := 8) rfl rfl (by rw [decide_eq_true rfl] <;> rfl)) ?_
     refine wF ([(eN kk), u1, (zf25 2), (zf25 3), (zf49 4), (ptr L15.bN 0), (zf25 6), (eN d), (eN nx), (eN ops), (eN i), (eN 8), (eN 8), (eI (IntKind.i64.wrap (((nx : Nat) : Int) - 1)))] ++ (zs zf25 14 15 ++ (zs zf49 29 43 ++ [(Value.bool false), (zf49 73), (ptr L15.bN 0), (eI (IntKind.i64.wrap (((nx : Nat) : Int) - 1))), (eI (if 0 > IntKind.i64.wrap (((nx : Nat) : Int) - 1) then 0 else IntKind.i64.wrap (((nx : Nat) : Int) - 1))), (sli o 0 60 60), (eN (s.progR ((0 : Nat) : Int) ((0 : Nat) : Int) (if 0 > IntKind.i64.wrap (((nx : Nat) : Int) - 1) then 0 else IntKind.i64.wrap (((nx : Nat) : Int) - 1)) (List.replicate 60 0)))] ++ (zs zf49 79 33 ++ [(eN 8), (eN 8), (Value.bool false)] ++ (zs zf49 115 14))))) ?_
     refine wI (d_move rfl) ?_
     refine wpL.onis rfl rfl rfl (nb rfl) rfl (d_move rfl) ?_
     refine wpL.on rfl rfl rfl (nb rfl) rfl (d_call (xl := [.tmp 116]) (al := [(ptr L15.bN 0)]) Try.func25 (by kernel_rfl) rfl rfl rfl (nandDead_ok L15 s9 _ a16)) ?_
     rintro _ w57 ⟨rfl, o58⟩
     replace h1 := h1.step0 o58
     replace a16 := a16.step0 o58
     replace a52 := a52.step0 o58
     replace oW := oW.tail0 o58
     replace o26 := o26.tail0 o58
     refine wF ([(eN kk), u1, (zf25 2), (zf25 3), (zf49 4), (ptr L15.bN 0), (zf25 6), (eN d), (eN nx), (eN ops), (eN i), (eN 8), (eN 8), (eI (IntKind.i64.wrap (((nx : Nat) : Int) - 1)))] ++ (zs zf25 14 15 ++ (zs zf49 29 43 ++ [(Value.bool false), (zf49 73), (ptr L15.bN 0), (eI (IntKind.i64.wrap (((nx : Nat) : Int) - 1))), (eI (if 0 > IntKind.i64.wrap (((nx : Nat) : Int) - 1) then 0 else IntKind.i64.wrap (((nx : Nat) : Int) - 1))), (sli o 0 60 60), (eN (s.progR ((0 : Nat) : Int) ((0 : Nat) : Int) (if 0 > IntKind.i64.wrap (((nx : Nat) : Int) - 1) then 0 else IntKind.i64.wrap (((nx : Nat) : Int) - 1)) (List.replicate 60 0)))] ++ (zs zf49 79 33 ++ [(eN 8), (eN 8), (Value.bool false), (Value.bool false), (ptr L15.bN 0), (Value.bool s9.dead)] ++ (zs zf49 118 11))))) ?_
     refine wpL.onis rfl rfl rfl (nb rfl) rfl (d_move rfl) ?_
     refine wpL.onis rfl rfl rfl (nb rfl) rfl (d_move rfl) ?_
     refine wpL.onis rfl rfl rfl (nb rfl) rfl (n_eql (a := d) (b := kk) rfl rfl (decide_eq_true c1)) ?_
     refine wF ([(eN kk), u1, (zf25 2), (zf25 3), (zf49 4), (ptr L15.bN 0), (zf25 6), (eN d), (eN nx), (eN ops), (eN i), (eN 8), (eN 8), (eI (IntKind.i64.wrap (((nx : Nat) : Int) - 1)))] ++ (zs zf25 14 15 ++ (zs zf49 29 43 ++ [(Value.bool false), (zf49 73), (ptr L15.bN 0), (eI (IntKind.i64.wrap (((nx : Nat) : Int) - 1))), (eI (if 0 > IntKind.i64.wrap (((nx : Nat) : Int) - 1) then 0 else IntKind.i64.wrap (((nx : Nat) : Int) - 1))), (sli o 0 60 60), (eN (s.progR ((0 : Nat) : Int) ((0 : Nat) : Int) (if 0 > IntKind.i64.wrap (((nx : Nat) : Int) - 1) then 0 else IntKind.i64.wrap (((nx : Nat) : Int) - 1)) (List.replicate 60 0)))] ++ (zs zf49 79 33 ++ [(eN 8), (eN 8), (Value.bool false), (Value.bool false), (ptr L15.bN 0), (Value.bool s9.dead), (eN d), (eN kk), (Value.bool true)] ++ (zs zf49 121 8))))) ?_
     refine wpL.onis rfl rfl rfl (nb rfl) rfl (d_bneq (r := false) Try.underlying4 rfl rfl (by rw [stp_dead hI2]; first | rfl | (simp; done) | (simp [c1]; done) | (simp [c4]; done))) ?_
     refine wI (d_pick (b := false) (v := (Value.bool false)) rfl rfl) ?_
     refine wI (d_move rfl) ?_
     refine wF ([(eN kk), u1, (zf25 2), (zf25 3), (zf49 4), (ptr L15.bN 0), (zf25 6), (eN d), (eN nx), (eN ops), (eN i), (eN 8), (eN 8), (eI (IntKind.i64.wrap (((nx : Nat) : Int) - 1)))] ++ (zs zf25 14 15 ++ (zs zf49 29 43 ++ [(Value.bool false), (zf49 73), (ptr L15.bN 0), (eI (IntKind.i64.wrap (((nx : Nat) : Int) - 1))), (eI (if 0 > IntKind.i64.wrap (((nx : Nat) : Int) - 1) then 0 else IntKind.i64.wrap (((nx : Nat) : Int) - 1))), (sli o 0 60 60), (eN (s.progR ((0 : Nat) : Int) ((0 : Nat) : Int) (if 0 > IntKind.i64.wrap (((nx : Nat) : Int) - 1) then 0 else IntKind.i64.wrap (((nx : Nat) : Int) - 1)) (List.replicate 60 0)))] ++ (zs zf49 79 33 ++ [(eN 8), (eN 8), (Value.bool false), (Value.bool false), (ptr L15.bN 0), (Value.bool s9.dead), (eN d), (eN kk), (Value.bool true), (Value.bool false), (Value.bool false), (Value.bool false)] ++ (zs zf49 124 5))))) ?_
     refine wpL.onis rfl rfl rfl (nb rfl) rfl (d_move rfl) ?_
     refine wpL.on rfl rfl rfl (nb rfl) rfl (d_call (xl := [.tmp 124]) (al := [(ptr L15.bN 0)]) Try.func19 (by kernel_rfl) rfl rfl rfl (nandOps_ok L15 s9 _ a16)) ?_
     rintro _ w59 ⟨rfl, o60⟩
     replace h1 := h1.step0 o60
     replace a16 := a16.step0 o60
     replace a52 := a52.step0 o60
     replace oW := oW.tail0 o60
     replace o26 := o26.tail0 o60
     refine wpL.onis rfl rfl rfl (nb rfl) rfl (d_move rfl) ?_
     refine wF ([(eN kk), u1, (zf25 2), (zf25 3), (zf49 4), (ptr L15.bN 0), (zf25 6), (eN d), (eN nx), (eN ops), (eN i), (eN 8), (eN 8), (eI (IntKind.i64.wrap (((nx : Nat) : Int) - 1)))] ++ (zs zf25 14 15 ++ (zs zf49 29 43 ++ [(Value.bool false), (zf49 73), (ptr L15.bN 0), (eI (IntKind.i64.wrap (((nx : Nat) : Int) - 1))), (eI (if 0 > IntKind.i64.wrap (((nx : Nat) : Int) - 1) then 0 else IntKind.i64.wrap (((nx : Nat) : Int) - 1))), (sli o 0 60 60), (eN (s.progR ((0 : Nat) : Int) ((0 : Nat) : Int) (if 0 > IntKind.i64.wrap (((nx : Nat) : Int) - 1) then 0 else IntKind.i64.wrap (((nx : Nat) : Int) - 1)) (List.replicate 60 0)))] ++ (zs zf49 79 33 ++ [(eN 8), (eN 8), (Value.bool false), (Value.bool false), (ptr L15.bN 0), (Value.bool s9.dead), (eN d), (eN kk), (Value.bool true), (Value.bool false), (Value.bool false), (Value.bool false), (ptr L15.bN 0), (eI s9.ops), (eN ops), (zf49 127), (zf49 128)])))) ?_
     refine wpL.onis rfl rfl rfl (nb rfl) rfl (d_neq (k := .i64) (m := s9.ops) (n := ((ops : Nat) : Int)) rfl rfl (by rw [decide_eq_true (stp_ops hI2)] <;> rfl)) ?_
     refine wI (d_pick (b := false) (v := (Value.bool false)) rfl rfl) ?_
     refine wF ([(eN kk), u1, (zf25 2), (zf25 3), (zf49 4), (ptr L15.bN 0), (zf25 6), (eN d), (eN nx), (eN ops), (eN i), (eN 8), (eN 8), (eI (IntKind.i64.wrap (((nx : Nat) : Int) - 1)))] ++ (zs zf25 14 15 ++ (zs zf49 29 43 ++ [(Value.bool false), (zf49 73), (ptr L15.bN 0), (eI (IntKind.i64.wrap (((nx : Nat) : Int) - 1))), (eI (if 0 > IntKind.i64.wrap (((nx : Nat) : Int) - 1) then 0 else IntKind.i64.wrap (((nx : Nat) : Int) - 1))), (sli o 0 60 60), (eN (s.progR ((0 : Nat) : Int) ((0 : Nat) : Int) (if 0 > IntKind.i64.wrap (((nx : Nat) : Int) - 1) then 0 else IntKind.i64.wrap (((nx : Nat) : Int) - 1)) (List.replicate 60 0)))] ++ (zs zf49 79 33 ++ [(eN 8), (eN 8), (Value.bool false), (Value.bool false), (ptr L15.bN 0), (Value.bool s9.dead), (eN d), (eN kk), (Value.bool true), (Value.bool false), (Value.bool false), (Value.bool false), (ptr L15.bN 0), (eI s9.ops), (eN ops), (Value.bool false), (Value.bool false)])))) ?_
     refine wpL.done ?_
     refine then_n ?_
     refine forget (fun zf61 => ([(eN kk), u1, (zf25 2), (zf25 3), (zf61 4), (ptr L15.bN 0), (zf25 6), (eN d), (eN nx), (eN ops), (eN i), (zf61 11), (zf61 12), (zf61 13)] ++ (zs zf25 14 15 ++ (zs zf61 29 99 ++ [(Value.bool false)])))) (by kernel_rfl) (fun zf61 => ?_)
     refine cond_f rfl ?_
     refine wpIn_skip ?_
     refine inb_n (then_n ?_)
     refine plain ?_
     refine wI (d_move rfl) ?_
     refine wI (n_add (a := i) (b := 1) rfl rfl (by omega)) ?_
     refine wI (d_assign rfl) ?_
     refine wF ([(eN kk), u1, (zf25 2), (zf25 3), (zf61 4), (ptr L15.bN 0), (zf25 6), (eN d), (eN nx), (eN ops), (eN (i + 1)), (zf61 11), (zf61 12), (zf61 13)] ++ (zs zf25 14 15 ++ (zs zf61 29 8 ++ [(eN i), (eN (i + 1))] ++ (zs zf61 39 89 ++ [(Value.bool false)])))) ?_
     refine wpL.done ?_
     refine then_n ?_
     refine ⟨_, ⟨i + 1, d, nx, ops, s9⟩, rfl, rfl, ⟨?_, ?_, ?_, ?_, ?_, ?_, ?_⟩, ?_⟩
     ·
      (try dsimp only)
      all_goals (omega)
     ·
      (try dsimp only)
      all_goals (omega)
     ·
      (try dsimp only)
      all_goals (omega)
     ·
      (try dsimp only)
      all_goals (omega)
     ·
      exact hI2
     ·
      exact o26
     ·
      exact a16.less (xx_skip xx_id)
     ·
      (try dsimp only)
      all_goals (omega)
    refine wpIn_seq ?_
    refine plain ?_
    refine wI (n_eql (a := pv) (b := 2) rfl rfl rfl) ?_
    refine wI (d_assign rfl) ?_
    refine wF ([(eN kk), u1, (zf25 2), (zf25 3), (zf31 4), (ptr L15.bN 0), (zf25 6), (eN d), (eN nx), (eN ops), (eN i), (eN 8), (eN 0), (zf31 13)] ++ (zs zf25 14 15 ++ (zs zf31 29 17 ++ [(eN pv), (Value.bool (decide (pv = 1))), (zf31 48), (Value.bool (decide (pv = 1)))] ++ (zs zf31 50 29 ++ [(Value.bool (decide (pv = 2))), (Value.bool (decide (pv = 2)))] ++ (zs zf31 81 48))))) ?_
    refine wpL.done ?_
    refine then_n ?_
    refine cond_if rfl (fun c62 => ?_) (fun c62 => ?_)
    ·
     refine wpIn_seq ?_
     refine wpIn_seq ?_
     refine plain ?_
     refine wI (d_move rfl) ?_
     refine wI (d_move rfl) ?_
     refine wI (n_lss (a := d) (b := kk) rfl rfl rfl) ?_
     refine wF ([(eN kk), u1, (zf25 2), (zf25 3), (zf31 4), (ptr L15.bN 0), (zf25 6), (eN d), (eN nx), (eN ops), (eN i), (eN 8), (eN 0), (zf31 13)] ++ (zs zf25 14 15 ++ (zs zf31 29 17 ++ [(eN pv), (Value.bool (decide (pv = 1))), (zf31 48), (Value.bool (decide (pv = 1)))] ++ (zs zf31 50 29 ++ [(Value.bool (decide (pv = 2))), (Value.bool (decide (pv = 2))), (eN d), (eN kk), (Value.bool (decide (d < kk)))] ++ (zs zf31 84 45))))) ?_
     refine wpL.done ?_
     refine then_n ?_
     refine forget (fun zf63 => ([(eN kk), u1, (zf25 2), (zf25 3), (zf63 4), (ptr L15.bN 0), (zf25 6), (eN d), (eN nx), (eN ops), (eN i), (eN 8), (zf63 12), (zf63 13)] ++ (zs zf25 14 15 ++ (zs zf63 29 54 ++ [(Value.bool (decide (d < kk)))] ++ (zs zf63 84 45))))) (by kernel_rfl) (fun zf63 => ?_)
     refine cond_if rfl (fun c3 => ?_) (fun c3 => ?_)
     ·
      omega
     refine wpIn_skip ?_
     refine then_n ?_
     refine plain ?_
     refine wI (d_move rfl) ?_
     refine wO (d_call (xl := [.tmp 91, .const (.int .i64 3), .const (.int .i64 3)]) (al := [(ptr L15.bN 0), (eN 3), (eN 3)]) Try.func23 (by kernel_rfl) rfl rfl rfl (erase_ok L15 s _ a16 ((3 : Nat) : Int) ((3 : Nat) : Int) lt_no)) ?_
     rintro _ w64 ⟨rfl, a66, o65⟩
     replace h1 := h1.step o65 sub1
     replace oW := oW.tail o65 (fun k hk e => by have := g_oW_L15 k e; omega)
     replace o26 := o26.tail o65 (fun k _ e => sub1 k e)
     replace a16 := a66
     refine wI (d_assign rfl) ?_
     refine wF ([(eN kk), u1, (zf25 2), (zf25 3), (zf63 4), (ptr L15.bN 0), (zf25 6), (eN d), (eN nx), (eN ops), (eN i), (eN 8), (eN (s.eraseR ((3 : Nat) : Int) ((3 : Nat) : Int))), (zf63 13)] ++ (zs zf25 14 15 ++ (zs zf63 29 54 ++ [(Value.bool (decide (d < kk)))] ++ (zs zf63 84 7 ++ [(ptr L15.bN 0), (eN (s.eraseR ((3 : Nat) : Int) ((3 : Nat) : Int)))] ++ (zs zf63 93 36))))) ?_
     refine wpL.done ?_
     refine inb_n (then_n ?_)
     refine wpIn_seq ?_
     have hI2 : StpI (s.erase ((3 : Nat) : Int) ((3 : Nat) : Int)) kk d nx ops := (by rw [((stp_after hI c1).2.2 _ _).2]; exact hI)
     have hf2 : s.eraseR ((3 : Nat) : Int) ((3 : Nat) : Int) = 8 := ((stp_after hI c1).2.2 _ _).1
     refine wp_eq (l' := ([(eN kk), u1, (zf25 2), (zf25 3), (zf63 4), (ptr L15.bN 0), (zf25 6), (eN d), (eN nx), (eN ops), (eN i), (eN 8), (eN 8), (zf63 13)] ++ (zs zf25 14 15 ++ (zs zf63 29 54 ++ [(Value.bool (decide (d < kk)))] ++ (zs zf63 84 7 ++ [(ptr L15.bN 0), (eN (s.eraseR ((3 : Nat) : Int) ((3 : Nat) : Int)))] ++ (zs zf63 93 36)))))) (show (([(eN kk), u1, (zf25 2), (zf25 3), (zf63 4), (ptr L15.bN 0), (zf25 6), (eN d), (eN nx), (eN ops), (eN i), (eN 8), (eN (s.eraseR ((3 : Nat) : Int) ((3 : Nat) : Int))), (zf63 13)] ++ (zs zf25 14 15 ++ (zs zf63 29 54 ++ [(Value.bool (decide (d < kk)))] ++ (zs zf63 84 7 ++ [(ptr L15.bN 0), (eN (s.eraseR ((3 : Nat) : Int) ((3 : Nat) : Int)))] ++ (zs zf63 93 36))))) : List Value) = ([(eN kk), u1, (zf25 2), (zf25 3), (zf63 4), (ptr L15.bN 0), (zf25 6), (eN d), (eN nx), (eN ops), (eN i), (eN 8), (eN 8), (zf63 13)] ++ (zs zf25 14 15 ++ (zs zf63 29 54 ++ [(Value.bool (decide (d < kk)))] ++ (zs zf63 84 7 ++ [(ptr L15.bN 0), (eN (s.eraseR ((3 : Nat) : Int) ((3 : Nat) : Int)))] ++ (zs zf63 93 36))))) from reslot ([(eN kk), u1, (zf25 2), (zf25 3), (zf63 4), (ptr L15.bN 0), (zf25 6), (eN d), (eN nx), (eN ops), (eN i), (eN 8), (eN (s.eraseR ((3 : Nat) : Int) ((3 : Nat) : Int))), (zf63 13)] ++ (zs zf25 14 15 ++ (zs zf63 29 54 ++ [(Value.bool (decide (d < kk)))] ++ (zs zf63 84 7 ++ [(ptr L15.bN 0), (eN (s.eraseR ((3 : Nat) : Int) ((3 : Nat) : Int)))] ++ (zs zf63 93 36))))) 12 (congrArg eN hf2)) ?_
     obtain ⟨s9, es9⟩ : ∃ s9, s.erase ((3 : Nat) : Int) ((3 : Nat) : Int) = s9 := ⟨_, rfl⟩
     rw [es9] at hI2
     replace a16 := nd_to a16 es9
     clear hf2 es9
     refine plain ?_
     refine wI (d_move rfl) ?_
     refine wI (d_move rfl) ?_
     refine wI (n_neq (a := 8) (b := 8) rfl rfl (by rw [decide_eq_true rfl] <;> rfl)) ?_
     refine wF ([(eN kk), u1, (zf25 2), (zf25 3), (zf63 4), (ptr L15.bN 0), (zf25 6), (eN d), (eN nx), (eN ops), (eN i), (eN 8), (eN 8), (zf63 13)] ++ (zs zf25 14 15 ++ (zs zf63 29 54 ++ [(Value.bool (decide (d < kk)))] ++ (zs zf63 84 7 ++ [(ptr L15.bN 0), (eN (s.eraseR ((3 : Nat) : Int) ((3 : Nat) : Int)))] ++ (zs zf63 93 19 ++ [(eN 8), (eN 8), (Value.bool false)] ++ (zs zf63 115 14)))))) ?_
     refine wI (d_move rfl) ?_
     refine wpL.onis rfl rfl rfl (nb rfl) rfl (d_move rfl) ?_
     refine wpL.on rfl rfl rfl (nb rfl) rfl (d_call (xl := [.tmp 116]) (al := [(ptr L15.bN 0)]) Try.func25 (by kernel_rfl) rfl rfl rfl (nandDead_ok L15 s9 _ a16)) ?_
     rintro _ w67 ⟨rfl, o68⟩
     replace h1 := h1.step0 o68
     replace a16 := a16.step0 o68
     replace oW := oW.tail0 o68
     replace o26 := o26.tail0 o68
     refine wF ([(eN kk), u1, (zf25 2), (zf25 3), (zf63 4), (ptr L15.bN 0), (zf25 6), (eN d), (eN nx), (eN ops), (eN i), (eN 8), (eN 8), (zf63 13)] ++ (zs zf25 14 15 ++ (zs zf63 29 54 ++ [(Value.bool (decide (d < kk)))] ++ (zs zf63 84 7 ++ [(ptr L15.bN 0), (eN (s.eraseR ((3 : Nat) : Int) ((3 : Nat) : Int)))] ++ (zs zf63 93 19 ++ [(eN 8), (eN 8), (Value.bool false), (Value.bool false), (ptr L15.bN 0), (Value.bool s9.dead)] ++ (zs zf63 118 11)))))) ?_
     refine wpL.onis rfl rfl rfl (nb rfl) rfl (d_move rfl) ?_
     refine wpL.onis rfl rfl rfl (nb rfl) rfl (d_move rfl) ?_
     refine wpL.onis rfl rfl rfl (nb rfl) rfl (n_eql (a := d) (b := kk) rfl rfl (decide_eq_true c1)) ?_
     refine wF ([(eN kk), u1, (zf25 2), (zf25 3), (zf63 4), (ptr L15.bN 0), (zf25 6), (eN d), (eN nx), (eN ops), (eN i), (eN 8), (eN 8), (zf63 13)] ++ (zs zf25 14 15 ++ (zs zf63 29 54 ++ [(Value.bool (decide (d < kk)))] ++ (zs zf63 84 7 ++ [(ptr L15.bN 0), (eN (s.eraseR ((3 : Nat) : Int) ((3 : Nat) : Int)))] ++ (zs zf63 93 19 ++ [(eN 8), (eN 8), (Value.bool false), (Value.bool false), (ptr L15.bN 0), (Value.bool s9.dead), (eN d), (eN kk), (Value.bool true)] ++ (zs zf63 121 8)))))) ?_
     refine wpL.onis rfl rfl rfl (nb rfl) rfl (d_bneq (r := false) Try.underlying4 rfl rfl (by rw [stp_dead hI2]; first | rfl | (simp; done) | (simp [c1]; done) | (simp [c4]; done))) ?_
     refine wI (d_pick (b := false) (v := (Value.bool false)) rfl rfl) ?_
     refine wI (d_move rfl) ?_
     refine wF ([(eN kk), u1, (zf25 2), (zf25 3), (zf63 4), (ptr L15.bN 0), (zf25 6), (eN d), (eN nx), (eN ops), (eN i), (eN 8), (eN 8), (zf63 13)] ++ (zs zf25 14 15 ++ (zs zf63 29 54 ++ [(Value.bool (decide (d < kk)))] ++ (zs zf63 84 7 ++ [(ptr L15.bN 0), (eN (s.eraseR ((3 : Nat) : Int) ((3 : Nat) : Int)))] ++ (zs zf63 93 19 ++ [(eN 8), (eN 8), (Value.bool false), (Value.bool false), (ptr L15.bN 0), (Value.bool s9.dead), (eN d), (eN kk), (Value.bool true), (Value.bool false), (Value.bool false), (Value.bool false)] ++ (zs zf63 124 5)))))) ?_
     refine wpL.onis rfl rfl rfl (nb rfl) rfl (d_move rfl) ?_
     refine wpL.on rfl rfl rfl (nb rfl) rfl (d_call (xl := [.tmp 124]) (al := [(ptr L15.bN 0)]) Try.func19 (by kernel_rfl) rfl rfl rfl (nandOps_ok L15 s9 _ a16)) ?_
     rintro _ w69 ⟨rfl, o70⟩
     replace h1 := h1.step0 o70
     replace a16 := a16.step0 o70
     replace oW := oW.tail0 o70
     replace o26 := o26.tail0 o70
     refine wpL.onis rfl rfl rfl (nb rfl) rfl (d_move rfl) ?_
     refine wF ([(eN kk), u1, (zf25 2), (zf25 3), (zf63 4), (ptr L15.bN 0), (zf25 6), (eN d), (eN nx), (eN ops), (eN i), (eN 8), (eN 8), (zf63 13)] ++ (zs zf25 14 15 ++ (zs zf63 29 54 ++ [(Value.bool (decide (d < kk)))] ++ (zs zf63 84 7 ++ [(ptr L15.bN 0), (eN (s.eraseR ((3 : Nat) : Int) ((3 : Nat) : Int)))] ++ (zs zf63 93 19 ++ [(eN 8), (eN 8), (Value.bool false), (Value.bool false), (ptr L15.bN 0), (Value.bool s9.dead), (eN d), (eN kk), (Value.bool true), (Value.bool false), (Value.bool false), (Value.bool false), (ptr L15.bN 0), (eI s9.ops), (eN ops), (zf63 127), (zf63 128)]))))) ?_
     refine wpL.onis rfl rfl rfl (nb rfl) rfl (d_neq (k := .i64) (m := s9.ops) (n := ((ops : Nat) : Int)) rfl rfl (by rw [decide_eq_true (stp_ops hI2)] <;> rfl)) ?_
     refine wI (d_pick (b := false) (v := (Value.bool false)) rfl rfl) ?_
     refine wF ([(eN kk), u1, (zf25 2), (zf25 3), (zf63 4), (ptr L15.bN 0), (zf25 6), (eN d), (eN nx), (eN ops), (eN i), (eN 8), (eN 8), (zf63 13)] ++ (zs zf25 14 15 ++ (zs zf63 29 54 ++ [(Value.bool (decide (d < kk)))] ++ (zs zf63 84 7 ++ [(ptr L15.bN 0), (eN (s.eraseR ((3 : Nat) : Int) ((3 : Nat) : Int)))] ++ (zs zf63 93 19 ++ [(eN 8), (eN 8), (Value.bool false), (Value.bool false), (ptr L15.bN 0), (Value.bool s9.dead), (eN d), (eN kk), (Value.bool true), (Value.bool false), (Value.bool false), (Value.bool false), (ptr L15.bN 0), (eI s9.ops), (eN ops), (Value.bool false), (Value.bool false)]))))) ?_
     refine wpL.done ?_
     refine then_n ?_
     refine forget (fun zf71 => ([(eN kk), u1, (zf25 2), (zf25 3), (zf71 4), (ptr L15.bN 0), (zf25 6), (eN d), (eN nx), (eN ops), (eN i), (zf71 11), (zf71 12), (zf71 13)] ++ (zs zf25 14 15 ++ (zs zf71 29 99 ++ [(Value.bool false)])))) (by kernel_rfl) (fun zf71 => ?_)
     refine cond_f rfl ?_
     refine wpIn_skip ?_
     refine inb_n (then_n ?_)
     refine plain ?_
     refine wI (d_move rfl) ?_
     refine wI (n_add (a := i) (b := 1) rfl rfl (by omega)) ?_
     refine wI (d_assign rfl) ?_
     refine wF ([(eN kk), u1, (zf25 2), (zf25 3), (zf71 4), (ptr L15.bN 0), (zf25 6), (eN d), (eN nx), (eN ops), (eN (i + 1)), (zf71 11), (zf71 12), (zf71 13)] ++ (zs zf25 14 15 ++ (zs zf71 29 8 ++ [(eN i), (eN (i + 1))] ++ (zs zf71 39 89 ++ [(Value.bool false)])))) ?_
     refine wpL.done ?_
     refine then_n ?_
     refine ⟨_, ⟨i + 1, d, nx, ops, s9⟩, rfl, rfl, ⟨?_, ?_, ?_, ?_, ?_, ?_, ?_⟩, ?_⟩
     ·
      (try dsimp only)
      all_goals (omega)
     ·
      (try dsimp only)
      all_goals (omega)
     ·
      (try dsimp only)
      all_goals (omega)
     ·
      (try dsimp only)
      all_goals (omega)
     ·
      exact hI2
     ·
      exact o26
     ·
      exact a16
     ·
      (try dsimp only)
      all_goals (omega)
    refine wpIn_seq ?_
    refine plain ?_
    refine wI (n_eql (a := pv) (b := 3) rfl rfl rfl) ?_
    refine wI (d_assign rfl) ?_
    refine wF ([(eN kk), u1, (zf25 2), (zf25 3), (zf31 4), (ptr L15.bN 0), (zf25 6), (eN d), (eN nx), (eN ops), (eN i), (eN 8), (eN 0), (zf31 13)] ++ (zs zf25 14 15 ++ (zs zf31 29 17 ++ [(eN pv), (Value.bool (decide (pv = 1))), (zf31 48), (Value.bool (decide (pv = 1)))] ++ (zs zf31 50 29 ++ [(Value.bool (decide (pv = 2))), (Value.bool (decide (pv = 2)))] ++ (zs zf31 81 12 ++ [(Value.bool (decide (pv = 3))), (Value.bool (decide (pv = 3)))] ++ (zs zf31 95 34)))))) ?_
    refine wpL.done ?_
    refine then_n ?_
    refine cond_if rfl (fun c72 => ?_) (fun c72 => ?_)
    ·
     refine wpIn_seq ?_
     refine wpIn_seq ?_
     refine plain ?_
     refine wI (d_move rfl) ?_
     refine wI (d_move rfl) ?_
     refine wI (n_lss (a := d) (b := kk) rfl rfl rfl) ?_
     refine wF ([(eN kk), u1, (zf25 2), (zf25 3), (zf31 4), (ptr L15.bN 0), (zf25 6), (eN d), (eN nx), (eN ops), (eN i), (eN 8), (eN 0), (zf31 13)] ++ (zs zf25 14 15 ++ (zs zf31 29 17 ++ [(eN pv), (Value.bool (decide (pv = 1))), (zf31 48), (Value.bool (decide (pv = 1)))] ++ (zs zf31 50 29 ++ [(Value.bool (decide (pv = 2))), (Value.bool (decide (pv = 2)))] ++ (zs zf31 81 12 ++ [(Value.bool (decide (pv = 3))), (Value.bool (decide (pv = 3))), (eN d), (eN kk), (Value.bool (decide (d < kk)))] ++ (zs zf31 98 31)))))) ?_
     refine wpL.done ?_
     refine then_n ?_
     refine forget (fun zf73 => ([(eN kk), u1, (zf25 2), (zf25 3), (zf73 4), (ptr L15.bN 0), (zf25 6), (eN d), (eN nx), (eN ops), (eN i), (eN 8), (zf73 12), (zf73 13)] ++ (zs zf25 14 15 ++ (zs zf73 29 68 ++ [(Value.bool (decide (d < kk)))] ++ (zs zf73 98 31))))) (by kernel_rfl) (fun zf73 => ?_)
     refine cond_if rfl (fun c3 => ?_) (fun c3 => ?_)
     ·
      omega
     refine wpIn_skip ?_
     refine then_n ?_
     refine plain ?_
     refine wI (d_move rfl) ?_
     refine wO (d_call (xl := [.tmp 101, .const (.int .i64 0), .const (.int .i64 0), .const (.int .i64 7)]) (al := [(ptr L15.bN 0), (eN 0), (eN 0), (eN 7)]) Try.func21 (by kernel_rfl) rfl rfl rfl (read_ok L15 s _ a16 ((0 : Nat) : Int) ((0 : Nat) : Int) ((7 : Nat) : Int) lt_no)) ?_
     rintro _ w74 ⟨u76, rfl, f77, a78, o75⟩
     replace f77 := f77.less (Y := (Ors L15.S (Old W.heap.size))) (ors_old a16.lt (old_old oW.size))
     replace h1 := h1.step o75 sub1
     replace oW := oW.tail o75 (fun k hk e => by have := g_oW_L15 k e; omega)
     replace o26 := o26.tail o75 (fun k _ e => sub1 k e)
     replace a16 := a78
     refine wI (d_move rfl) ?_
     refine wF ([(eN kk), u1, (zf25 2), (zf25 3), (zf73 4), (ptr L15.bN 0), (zf25 6), (eN d), (eN nx), (eN ops), (eN i), (eN 8), (zf73 12), (zf73 13)] ++ (zs zf25 14 15 ++ (zs zf73 29 68 ++ [(Value.bool (decide (d < kk))), (zf73 98), (zf73 99), (Value.tuple #[u76, (eN (s.askR (s.readOk ((0 : Nat) : Int) ((0 : Nat) : Int) ((7 : Nat) : Int))))]), (ptr L15.bN 0), (Value.tuple #[u76, (eN (s.askR (s.readOk ((0 : Nat) : Int) ((0 : Nat) : Int) ((7 : Nat) : Int))))])] ++ (zs zf73 103 26)))) ?_
     refine wI (d_extract (v := u76) rfl rfl) ?_
     refine wI (d_extract (v := (eN (s.askR (s.readOk ((0 : Nat) : Int) ((0 : Nat) : Int) ((7 : Nat) : Int))))) rfl rfl) ?_
     refine wI (d_assign rfl) ?_
     refine wF ([(eN kk), u1, (zf25 2), (zf25 3), (zf73 4), (ptr L15.bN 0), (zf25 6), (eN d), (eN nx), (eN ops), (eN i), (eN 8), (eN (s.askR (s.readOk ((0 : Nat) : Int) ((0 : Nat) : Int) ((7 : Nat) : Int)))), (zf73 13)] ++ (zs zf25 14 15 ++ (zs zf73 29 68 ++ [(Value.bool (decide (d < kk))), (zf73 98), (zf73 99), (Value.tuple #[u76, (eN (s.askR (s.readOk ((0 : Nat) : Int) ((0 : Nat) : Int) ((7 : Nat) : Int))))]), (ptr L15.bN 0), (Value.tuple #[u76, (eN (s.askR (s.readOk ((0 : Nat) : Int) ((0 : Nat) : Int) ((7 : Nat) : Int))))]), u76, (eN (s.askR (s.readOk ((0 : Nat) : Int) ((0 : Nat) : Int) ((7 : Nat) : Int))))] ++ (zs zf73 105 24)))) ?_
     refine wpL.done ?_
     refine inb_n (then_n ?_)
     refine wpIn_seq ?_
     have hI2 : StpI (s.ask (s.readOk ((0 : Nat) : Int) ((0 : Nat) : Int) ((7 : Nat) : Int))) kk d nx ops := (by rw [((stp_after hI c1).1 _).2]; exact hI)
     have hf2 : s.askR (s.readOk ((0 : Nat) : Int) ((0 : Nat) : Int) ((7 : Nat) : Int)) = 8 := ((stp_after hI c1).1 _).1
     refine wp_eq (l' := ([(eN kk), u1, (zf25 2), (zf25 3), (zf73 4), (ptr L15.bN 0), (zf25 6), (eN d), (eN nx), (eN ops), (eN i), (eN 8), (eN 8), (zf73 13)] ++ (zs zf25 14 15 ++ (zs zf73 29 68 ++ [(Value.bool (decide (d < kk))), (zf73 98), (zf73 99), (Value.tuple #[u76, (eN (s.askR (s.readOk ((0 : Nat) : Int) ((0 : Nat) : Int) ((7 : Nat) : Int))))]), (ptr L15.bN 0), (Value.tuple #[u76, (eN (s.askR (s.readOk ((0 : Nat) : Int) ((0 : Nat) : Int) ((7 : Nat) : Int))))]), u76, (eN (s.askR (s.readOk ((0 : Nat) : Int) ((0 : Nat) : Int) ((7 : Nat) : Int))))] ++ (zs zf73 105 24))))) (show (([(eN kk), u1, (zf25 2), (zf25 3), (zf73 4), (ptr L15.bN 0), (zf25 6), (eN d), (eN nx), (eN ops), (eN i), (eN 8), (eN (s.askR (s.readOk ((0 : Nat) : Int) ((0 : Nat) : Int) ((7 : Nat) : Int)))), (zf73 13)] ++ (zs zf25 14 15 ++ (zs zf73 29 68 ++ [(Value.bool (decide (d < kk))), (zf73 98), (zf73 99), (Value.tuple #[u76, (eN (s.askR (s.readOk ((0 : Nat) : Int) ((0 : Nat) : Int) ((7 : Nat) : Int))))]), (ptr L15.bN 0), (Value.tuple #[u76, (eN (s.askR (s.readOk ((0 : Nat) : Int) ((0 : Nat) : Int) ((7 : Nat) : Int))))]), u76, (eN (s.askR (s.readOk ((0 : Nat) : Int) ((0 : Nat) : Int) ((7 : Nat) : Int))))] ++ (zs zf73 105 24)))) : List Value) = ([(eN kk), u1, (zf25 2), (zf25 3), (zf73 4), (ptr L15.bN 0), (zf25 6), (eN d), (eN nx), (eN ops), (eN i), (eN 8), (eN 8), (zf73 13)] ++ (zs zf25 14 15 ++ (zs zf73 29 68 ++ [(Value.bool (decide (d < kk))), (zf73 98), (zf73 99), (Value.tuple #[u76, (eN (s.askR (s.readOk ((0 : Nat) : Int) ((0 : Nat) : Int) ((7 : Nat) : Int))))]), (ptr L15.bN 0), (Value.tuple #[u76, (eN (s.askR (s.readOk ((0 : Nat) : Int) ((0 : Nat) : Int) ((7 : Nat) : Int))))]), u76, (eN (s.askR (s.readOk ((0 : Nat) : Int) ((0 : Nat) : Int) ((7 : Nat) : Int))))] ++ (zs zf73 105 24)))) from reslot ([(eN kk), u1, (zf25 2), (zf25 3), (zf73 4), (ptr L15.bN 0), (zf25 6), (eN d), (eN nx), (eN ops), (eN i), (eN 8), (eN (s.askR (s.readOk ((0 : Nat) : Int) ((0 : Nat) : Int) ((7 : Nat) : Int)))), (zf73 13)] ++ (zs zf25 14 15 ++ (zs zf73 29 68 ++ [(Value.bool (decide (d < kk))), (zf73 98), (zf73 99), (Value.tuple #[u76, (eN (s.askR (s.readOk ((0 : Nat) : Int) ((0 : Nat) : Int) ((7 : Nat) : Int))))]), (ptr L15.bN 0), (Value.tuple #[u76, (eN (s.askR (s.readOk ((0 : Nat) : Int) ((0 : Nat) : Int) ((7 : Nat) : Int))))]), u76, (eN (s.askR (s.readOk ((0 : Nat) : Int) ((0 : Nat) : Int) ((7 : Nat) : Int))))] ++ (zs zf73 105 24)))) 12 (congrArg eN hf2)) ?_
     obtain ⟨s9, es9⟩ : ∃ s9, s.ask (s.readOk ((0 : Nat) : Int) ((0 : Nat) : Int) ((7 : Nat) : Int)) = s9 := ⟨_, rfl⟩
     rw [es9] at hI2
     replace a16 := nd_to a16 es9
     clear hf2 es9
     refine plain ?_
     refine wI (d_move rfl) ?_
     refine wI (d_move rfl) ?_
     refine wI (n_neq (a := 8) (b := 8) rfl rfl (by rw [decide_eq_true rfl] <;> rfl)) ?_
     refine wF ([(eN kk), u1, (zf25 2), (zf25 3), (zf73 4), (ptr L15.bN 0), (zf25 6), (eN d), (eN nx), (eN ops), (eN i), (eN 8), (eN 8), (zf73 13)] ++ (zs zf25 14 15 ++ (zs zf73 29 68 ++ [(Value.bool (decide (d < kk))), (zf73 98), (zf73 99), (Value.tuple #[u76, (eN (s.askR (s.readOk ((0 : Nat) : Int) ((0 : Nat) : Int) ((7 : Nat) : Int))))]), (ptr L15.bN 0), (Value.tuple #[u76, (eN (s.askR (s.readOk ((0 : Nat) : Int) ((0 : Nat) : Int) ((7 : Nat) : Int))))]), u76, (eN (s.askR (s.readOk ((0 : Nat) : Int) ((0 : Nat) : Int) ((7 : Nat) : Int))))] ++ (zs zf73 105 7 ++ [(eN 8), (eN 8), (Value.bool false)] ++ (zs zf73 115 14))))) ?_
     refine wI (d_move rfl) ?_
     refine wpL.onis rfl rfl rfl (nb rfl) rfl (d_move rfl) ?_
     refine wpL.on rfl rfl rfl (nb rfl) rfl (d_call (xl := [.tmp 116]) (al := [(ptr L15.bN 0)]) Try.func25 (by kernel_rfl) rfl rfl rfl (nandDead_ok L15 s9 _ a16)) ?_
     rintro _ w79 ⟨rfl, o80⟩
     replace h1 := h1.step0 o80
     replace a16 := a16.step0 o80
     replace f77 := f77.step0 o80
     replace oW := oW.tail0 o80
     replace o26 := o26.tail0 o80
     refine wF ([(eN kk), u1, (zf25 2), (zf25 3), (zf73 4), (ptr L15.bN 0), (zf25 6), (eN d), (eN nx), (eN ops), (eN i), (eN 8), (eN 8), (zf73 13)] ++ (zs zf25 14 15 ++ (zs zf73 29 68 ++ [(Value.bool (decide (d < kk))), (zf73 98), (zf73 99), (Value.tuple #[u76, (eN (s.askR (s.readOk ((0 : Nat) : Int) ((0 : Nat) : Int) ((7 : Nat) : Int))))]), (ptr L15.bN 0), (Value.tuple #[u76, (eN (s.askR (s.readOk ((0 : Nat) : Int) ((0 : Nat) : Int) ((7 : Nat) : Int))))]), u76, (eN (s.askR (s.readOk ((0 : Nat) : Int) ((0 : Nat) : Int) ((7 : Nat) : Int))))] ++ (zs zf73 105 7 ++ [(eN 8), (eN 8), (Value.bool false), (Value.bool false), (ptr L15.bN 0), (Value.bool s9.dead)] ++ (zs zf73 118 11))))) ?_
     refine wpL.onis rfl rfl rfl (nb rfl) rfl (d_move rfl) ?_
     refine wpL.onis rfl rfl rfl (nb rfl) rfl (d_move rfl) ?_
     refine wpL.onis rfl rfl rfl (nb rfl) rfl (n_eql (a := d) (b := kk) rfl rfl (decide_eq_true c1)) ?_
     refine wF ([(eN kk), u1, (zf25 2), (zf25 3), (zf73 4), (ptr L15.bN 0), (zf25 6), (eN d), (eN nx), (eN ops), (eN i), (eN 8), (eN 8), (zf73 13)] ++ (zs zf25 14 15 ++ (zs zf73 29 68 ++ [(Value.bool (decide (d < kk))), (zf73 98), (zf73 99), (Value.tuple #[u76, (eN (s.askR (s.readOk ((0 : Nat) : Int) ((0 : Nat) : Int) ((7 : Nat) : Int))))]), (ptr L15.bN 0), (Value.tuple #[u76, (eN (s.askR (s.readOk ((0 : Nat) : Int) ((0 : Nat) : Int) ((7 : Nat) : Int))))]), u76, (eN (s.askR (s.readOk ((0 : Nat) : Int) ((0 : Nat) : Int) ((7 : Nat) : Int))))] ++ (zs zf73 105 7 ++ [(eN 8), (eN 8), (Value.bool false), (Value.bool false), (ptr L15.bN 0), (Value.bool s9.dead), (eN d), (eN kk), (Value.bool true)] ++ (zs zf73 121 8))))) ?_
     refine wpL.onis rfl rfl rfl (nb rfl) rfl (d_bneq (r := false) Try.underlying4 rfl rfl (by rw [stp_dead hI2]; first | rfl | (simp; done) | (simp [c1]; done) | (simp [c4]; done))) ?_
     refine wI (d_pick (b := false) (v := (Value.bool false)) rfl rfl) ?_
     refine wI (d_move rfl) ?_
     refine wF ([(eN kk), u1, (zf25 2), (zf25 3), (zf73 4), (ptr L15.bN 0), (zf25 6), (eN d), (eN nx), (eN ops), (eN i), (eN 8), (eN 8), (zf73 13)] ++ (zs zf25 14 15 ++ (zs zf73 29 68 ++ [(Value.bool (decide (d < kk))), (zf73 98), (zf73 99), (Value.tuple #[u76, (eN (s.askR (s.readOk ((0 : Nat) : Int) ((0 : Nat) : Int) ((7 : Nat) : Int))))]), (ptr L15.bN 0), (Value.tuple #[u76, (eN (s.askR (s.readOk ((0 : Nat) : Int) ((0 : Nat) : Int) ((7 : Nat) : Int))))]), u76, (eN (s.askR (s.readOk ((0 : Nat) : Int) ((0 : Nat) : Int) ((7 : Nat) : Int))))] ++ (zs zf73 105 7 ++ [(eN 8), (eN 8), (Value.bool false), (Value.bool false), (ptr L15.bN 0), (Value.bool s9.dead), (eN d), (eN kk), (Value.bool true), (Value.bool false), (Value.bool false), (Value.bool false)] ++ (zs zf73 124 5))))) ?_
     refine wpL.onis rfl rfl rfl (nb rfl) rfl (d_move rfl) ?_
     refine wpL.on rfl rfl rfl (nb rfl) rfl (d_call (xl := [.tmp 124]) (al := [(ptr L15.bN 0)]) Try.func19 (by kernel_rfl) rfl rfl rfl (nandOps_ok L15 s9 _ a16)) ?_
     rintro _ w81 ⟨rfl, o82⟩
     replace h1 := h1.step0 o82
     replace a16 := a16.step0 o82
     replace f77 := f77.step0 o82
     replace oW := oW.tail0 o82
     replace o26 := o26.tail0 o82
     refine wpL.onis rfl rfl rfl (nb rfl) rfl (d_move rfl) ?_
     refine wF ([(eN kk), u1, (zf25 2), (zf25 3), (zf73 4), (ptr L15.bN 0), (zf25 6), (eN d), (eN nx), (eN ops), (eN i), (eN 8), (eN 8), (zf73 13)] ++ (zs zf25 14 15 ++ (zs zf73 29 68 ++ [(Value.bool (decide (d < kk))), (zf73 98), (zf73 99), (Value.tuple #[u76, (eN (s.askR (s.readOk ((0 : Nat) : Int) ((0 : Nat) : Int) ((7 : Nat) : Int))))]), (ptr L15.bN 0), (Value.tuple #[u76, (eN (s.askR (s.readOk ((0 : Nat) : Int) ((0 : Nat) : Int) ((7 : Nat) : Int))))]), u76, (eN (s.askR (s.readOk ((0 : Nat) : Int) ((0 : Nat) : Int) ((7 : Nat) : Int))))] ++ (zs zf73 105 7 ++ [(eN 8), (eN 8), (Value.bool false), (Value.bool false), (ptr L15.bN 0), (Value.bool s9.dead), (eN d), (eN kk), (Value.bool true), (Value.bool false), (Value.bool false), (Value.bool false), (ptr L15.bN 0), (eI s9.ops), (eN ops), (zf73 127), (zf73 128)])))) ?_
     refine wpL.onis rfl rfl rfl (nb rfl) rfl (d_neq (k := .i64) (m := s9.ops) (n := ((ops : Nat) : Int)) rfl rfl (by rw [decide_eq_true (stp_ops hI2)] <;> rfl)) ?_
     refine wI (d_pick (b := false) (v := (Value.bool false)) rfl rfl) ?_
     refine wF ([(eN kk), u1, (zf25 2), (zf25 3), (zf73 4), (ptr L15.bN 0), (zf25 6), (eN d), (eN nx), (eN ops), (eN i), (eN 8), (eN 8), (zf73 13)] ++ (zs zf25 14 15 ++ (zs zf73 29 68 ++ [(Value.bool (decide (d < kk))), (zf73 98), (zf73 99), (Value.tuple #[u76, (eN (s.askR (s.readOk ((0 : Nat) : Int) ((0 : Nat) : Int) ((7 : Nat) : Int))))]), (ptr L15.bN 0), (Value.tuple #[u76, (eN (s.askR (s.readOk ((0 : Nat) : Int) ((0 : Nat) : Int) ((7 : Nat) : Int))))]), u76, (eN (s.askR (s.readOk ((0 : Nat) : Int) ((0 : Nat) : Int) ((7 : Nat) : Int))))] ++ (zs zf73 105 7 ++ [(eN 8), (eN 8), (Value.bool false), (Value.bool false), (ptr L15.bN 0), (Value.bool s9.dead), (eN d), (eN kk), (Value.bool true), (Value.bool false), (Value.bool false), (Value.bool false), (ptr L15.bN 0), (eI s9.ops), (eN ops), (Value.bool false), (Value.bool false)])))) ?_
     refine wpL.done ?_
     refine then_n ?_
     refine forget (fun zf83 => ([(eN kk), u1, (zf25 2), (zf25 3), (zf83 4), (ptr L15.bN 0), (zf25 6), (eN d), (eN nx), (eN ops), (eN i), (zf83 11), (zf83 12), (zf83 13)] ++ (zs zf25 14 15 ++ (zs zf83 29 99 ++ [(Value.bool false)])))) (by kernel_rfl) (fun zf83 => ?_)
     refine cond_f rfl ?_
     refine wpIn_skip ?_
     refine inb_n (then_n ?_)
     refine plain ?_
     refine wI (d_move rfl) ?_
     refine wI (n_add (a := i) (b := 1) rfl rfl (by omega)) ?_
     refine wI (d_assign rfl) ?_
     refine wF ([(eN kk), u1, (zf25 2), (zf25 3), (zf83 4), (ptr L15.bN 0), (zf25 6), (eN d), (eN nx), (eN ops), (eN (i + 1)), (zf83 11), (zf83 12), (zf83 13)] ++ (zs zf25 14 15 ++ (zs zf83 29 8 ++ [(eN i), (eN (i + 1))] ++ (zs zf83 39 89 ++ [(Value.bool false)])))) ?_
     refine wpL.done ?_
     refine then_n ?_
     refine ⟨_, ⟨i + 1, d, nx, ops, s9⟩, rfl, rfl, ⟨?_, ?_, ?_, ?_, ?_, ?_, ?_⟩, ?_⟩
     ·
      (try dsimp only)
      all_goals (omega)
     ·
      (try dsimp only)
      all_goals (omega)
     ·
      (try dsimp only)
      all_goals (omega)
     ·
      (try dsimp only)
      all_goals (omega)
     ·
      exact hI2
     ·
      exact o26
     ·
      exact a16
     ·
      (try dsimp only)
      all_goals (omega)
    refine wpIn_seq ?_
    refine plain ?_
    refine wI (n_eql (a := pv) (b := 4) rfl rfl rfl) ?_
    refine wI (d_assign rfl) ?_
    refine wF ([(eN kk), u1, (zf25 2), (zf25 3), (zf31 4), (ptr L15.bN 0), (zf25 6), (eN d), (eN nx), (eN ops), (eN i), (eN 8), (eN 0), (zf31 13)] ++ (zs zf25 14 15 ++ (zs zf31 29 17 ++ [(eN pv), (Value.bool (decide (pv = 1))), (zf31 48), (Value.bool (decide (pv = 1)))] ++ (zs zf31 50 29 ++ [(Value.bool (decide (pv = 2))), (Value.bool (decide (pv = 2)))] ++ (zs zf31 81 12 ++ [(Value.bool (decide (pv = 3))), (Value.bool (decide (pv = 3)))] ++ (zs zf31 95 10 ++ [(Value.bool (decide (pv = 4))), (Value.bool (decide (pv = 4)))] ++ (zs zf31 107 22))))))) ?_
    refine wpL.done ?_
    refine then_n ?_
    refine forget (fun zf84 => ([(eN kk), u1, (zf25 2), (zf25 3), (zf84 4), (ptr L15.bN 0), (zf25 6), (eN d), (eN nx), (eN ops), (eN i), (eN 8), (eN 0), (zf84 13)] ++ (zs zf25 14 15 ++ (zs zf84 29 76 ++ [(Value.bool (decide (pv = 4)))] ++ (zs zf84 106 23))))) (by kernel_rfl) (fun zf84 => ?_)
    refine cond_if rfl (fun c85 => ?_) (fun c85 => ?_)
    ·
     refine wpIn_seq ?_
     refine wpIn_seq ?_
     refine plain ?_
     refine wI (d_move rfl) ?_
     refine wI (d_move rfl) ?_
     refine wI (n_lss (a := d) (b := kk) rfl rfl rfl) ?_
     refine wF ([(eN kk), u1, (zf25 2), (zf25 3), (zf84 4), (ptr L15.bN 0), (zf25 6), (eN d), (eN nx), (eN ops), (eN i), (eN 8), (eN 0), (zf84 13)] ++ (zs zf25 14 15 ++ (zs zf84 29 76 ++ [(Value.bool (decide (pv = 4))), (zf84 106), (eN d), (eN kk), (Value.bool (decide (d < kk)))] ++ (zs zf84 110 19)))) ?_
     refine wpL.done ?_
     refine then_n ?_
     refine cond_if rfl (fun c3 => ?_) (fun c3 => ?_)
     ·
      omega
     refine wpIn_skip ?_
     refine then_n ?_
     refine plain ?_
     refine wI (d_move rfl) ?_
     refine wO (d_call (xl := [.tmp 110, .const (.int .i64 9), .const (.int .i64 9)]) (al := [(ptr L15.bN 0), (eN 9), (eN 9)]) Try.func23 (by kernel_rfl) rfl rfl rfl (erase_ok L15 s _ a16 ((9 : Nat) : Int) ((9 : Nat) : Int) lt_no)) ?_
     rintro _ w86 ⟨rfl, a88, o87⟩
     replace h1 := h1.step o87 sub1
     replace oW := oW.tail o87 (fun k hk e => by have := g_oW_L15 k e; omega)
     replace o26 := o26.tail o87 (fun k _ e => sub1 k e)
     replace a16 := a88
     refine wI (d_assign rfl) ?_
     refine wF ([(eN kk), u1, (zf25 2), (zf25 3), (zf84 4), (ptr L15.bN 0), (zf25 6), (eN d), (eN nx), (eN ops), (eN i), (eN 8), (eN (s.eraseR ((9 : Nat) : Int) ((9 : Nat) : Int))), (zf84 13)] ++ (zs zf25 14 15 ++ (zs zf84 29 76 ++ [(Value.bool (decide (pv = 4))), (zf84 106), (eN d), (eN kk), (Value.bool (decide (d < kk))), (ptr L15.bN 0), (eN (s.eraseR ((9 : Nat) : Int) ((9 : Nat) : Int)))] ++ (zs zf84 112 17)))) ?_
     refine wpL.done ?_
     refine inb_n (then_n ?_)
     refine wpIn_seq ?_
     have hI2 : StpI (s.erase ((9 : Nat) : Int) ((9 : Nat) : Int)) kk d nx ops := (by rw [((stp_after hI c1).2.2 _ _).2]; exact hI)
     have hf2 : s.eraseR ((9 : Nat) : Int) ((9 : Nat) : Int) = 8 := ((stp_after hI c1).2.2 _ _).1
     refine wp_eq (l' := ([(eN kk), u1, (zf25 2), (zf25 3), (zf84 4), (ptr L15.bN 0), (zf25 6), (eN d), (eN nx), (eN ops), (eN i), (eN 8), (eN 8), (zf84 13)] ++ (zs zf25 14 15 ++ (zs zf84 29 76 ++ [(Value.bool (decide (pv = 4))), (zf84 106), (eN d), (eN kk), (Value.bool (decide (d < kk))), (ptr L15.bN 0), (eN (s.eraseR ((9 : Nat) : Int) ((9 : Nat) : Int)))] ++ (zs zf84 112 17))))) (show (([(eN kk), u1, (zf25 2), (zf25 3), (zf84 4), (ptr L15.bN 0), (zf25 6), (eN d), (eN nx), (eN ops), (eN i), (eN 8), (eN (s.eraseR ((9 : Nat) : Int) ((9 : Nat) : Int))), (zf84 13)] ++ (zs zf25 14 15 ++ (zs zf84 29 76 ++ [(Value.bool (decide (pv = 4))), (zf84 106), (eN d), (eN kk), (Value.bool (decide (d < kk))), (ptr L15.bN 0), (eN (s.eraseR ((9 : Nat) : Int) ((9 : Nat) : Int)))] ++ (zs zf84 112 17)))) : List Value) = ([(eN kk), u1, (zf25 2), (zf25 3), (zf84 4), (ptr L15.bN 0), (zf25 6), (eN d), (eN nx), (eN ops), (eN i), (eN 8), (eN 8), (zf84 13)] ++ (zs zf25 14 15 ++ (zs zf84 29 76 ++ [(Value.bool (decide (pv = 4))), (zf84 106), (eN d), (eN kk), (Value.bool (decide (d < kk))), (ptr L15.bN 0), (eN (s.eraseR ((9 : Nat) : Int) ((9 : Nat) : Int)))] ++ (zs zf84 112 17)))) from reslot ([(eN kk), u1, (zf25 2), (zf25 3), (zf84 4), (ptr L15.bN 0), (zf25 6), (eN d), (eN nx), (eN ops), (eN i), (eN 8), (eN (s.eraseR ((9 : Nat) : Int) ((9 : Nat) : Int))), (zf84 13)] ++ (zs zf25 14 15 ++ (zs zf84 29 76 ++ [(Value.bool (decide (pv = 4))), (zf84 106), (eN d), (eN kk), (Value.bool (decide (d < kk))), (ptr L15.bN 0), (eN (s.eraseR ((9 : Nat) : Int) ((9 : Nat) : Int)))] ++ (zs zf84 112 17)))) 12 (congrArg eN hf2)) ?_
     obtain ⟨s9, es9⟩ : ∃ s9, s.erase ((9 : Nat) : Int) ((9 : Nat) : Int) = s9 := ⟨_, rfl⟩
     rw [es9] at hI2
     replace a16 := nd_to a16 es9
     clear hf2 es9
     refine plain ?_
     refine wI (d_move rfl) ?_
     refine wI (d_move rfl) ?_
     refine wI (n_neq (a := 8) (b := 8) rfl rfl (by rw [decide_eq_true rfl] <;> rfl)) ?_
     refine wF ([(eN kk), u1, (zf25 2), (zf25 3), (zf84 4), (ptr L15.bN 0), (zf25 6), (eN d), (eN nx), (eN ops), (eN i), (eN 8), (eN 8), (zf84 13)] ++ (zs zf25 14 15 ++ (zs zf84 29 76 ++ [(Value.bool (decide (pv = 4))), (zf84 106), (eN d), (eN kk), (Value.bool (decide (d < kk))), (ptr L15.bN 0), (eN (s.eraseR ((9 : Nat) : Int) ((9 : Nat) : Int))), (eN 8), (eN 8), (Value.bool false)] ++ (zs zf84 115 14)))) ?_
     refine wI (d_move rfl) ?_
     refine wpL.onis rfl rfl rfl (nb rfl) rfl (d_move rfl) ?_
     refine wpL.on rfl rfl rfl (nb rfl) rfl (d_call (xl := [.tmp 116]) (al := [(ptr L15.bN 0)]) Try.func25 (by kernel_rfl) rfl rfl rfl (nandDead_ok L15 s9 _ a16)) ?_
     rintro _ w89 ⟨rfl, o90⟩
     replace h1 := h1.step0 o90
     replace a16 := a16.step0 o90
     replace oW := oW.tail0 o90
     replace o26 := o26.tail0 o90
     refine wF ([(eN kk), u1, (zf25 2), (zf25 3), (zf84 4), (ptr L15.bN 0), (zf25 6), (eN d), (eN nx), (eN ops), (eN i), (eN 8), (eN 8), (zf84 13)] ++ (zs zf25 14 15 ++ (zs zf84 29 76 ++ [(Value.bool (decide (pv = 4))), (zf84 106), (eN d), (eN kk), (Value.bool (decide (d < kk))), (ptr L15.bN 0), (eN (s.eraseR ((9 : Nat) : Int) ((9 : Nat) : Int))), (eN 8), (eN 8), (Value.bool false), (Value.bool false), (ptr L15.bN 0), (Value.bool s9.dead)] ++ (zs zf84 118 11)))) ?_
     refine wpL.onis rfl rfl rfl (nb rfl) rfl (d_move rfl) ?_
     refine wpL.onis rfl rfl rfl (nb rfl) rfl (d_move rfl) ?_
     refine wpL.onis rfl rfl rfl (nb rfl) rfl (n_eql (a := d) (b := kk) rfl rfl (decide_eq_true c1)) ?_
     refine wF ([(eN kk), u1, (zf25 2), (zf25 3), (zf84 4), (ptr L15.bN 0), (zf25 6), (eN d), (eN nx), (eN ops), (eN i), (eN 8), (eN 8), (zf84 13)] ++ (zs zf25 14 15 ++ (zs zf84 29 76 ++ [(Value.bool (decide (pv = 4))), (zf84 106), (eN d), (eN kk), (Value.bool (decide (d < kk))), (ptr L15.bN 0), (eN (s.eraseR ((9 : Nat) : Int) ((9 : Nat) : Int))), (eN 8), (eN 8), (Value.bool false), (Value.bool false), (ptr L15.bN 0), (Value.bool s9.dead), (eN d), (eN kk), (Value.bool true)] ++ (zs zf84 121 8)))) ?_
     refine wpL.onis rfl rfl rfl (nb rfl) rfl (d_bneq (r := false) Try.underlying4 rfl rfl (by rw [stp_dead hI2]; first | rfl | (simp; done) | (simp [c1]; done) | (simp [c4]; done))) ?_
     refine wI (d_pick (b := false) (v := (Value.bool false)) rfl rfl) ?_
     refine wI (d_move rfl) ?_
     refine wF ([(eN kk), u1, (zf25 2), (zf25 3), (zf84 4), (ptr L15.bN 0), (zf25 6), (eN d), (eN nx), (eN ops), (eN i), (eN 8), (eN 8), (zf84 13)] ++ (zs zf25 14 15 ++ (zs zf84 29 76 ++ [(Value.bool (decide (pv = 4))), (zf84 106), (eN d), (eN kk), (Value.bool (decide (d < kk))), (ptr L15.bN 0), (eN (s.eraseR ((9 : Nat) : Int) ((9 : Nat) : Int))), (eN 8), (eN 8), (Value.bool false), (Value.bool false), (ptr L15.bN 0), (Value.bool s9.dead), (eN d), (eN kk), (Value.bool true), (Value.bool false), (Value.bool false), (Value.bool false)] ++ (zs zf84 124 5)))) ?_
     refine wpL.onis rfl rfl rfl (nb rfl) rfl (d_move rfl) ?_
     refine wpL.on rfl rfl rfl (nb rfl) rfl (d_call (xl := [.tmp 124]) (al := [(ptr L15.bN 0)]) Try.func19 (by kernel_rfl) rfl rfl rfl (nandOps_ok L15 s9 _ a16)) ?_
     rintro _ w91 ⟨rfl, o92⟩
     replace h1 := h1.step0 o92
     replace a16 := a16.step0 o92
     replace oW := oW.tail0 o92
     replace o26 := o26.tail0 o92
     refine wpL.onis rfl rfl rfl (nb rfl) rfl (d_move rfl) ?_
     refine wF ([(eN kk), u1, (zf25 2), (zf25 3), (zf84 4), (ptr L15.bN 0), (zf25 6), (eN d), (eN nx), (eN ops), (eN i), (eN 8), (eN 8), (zf84 13)] ++ (zs zf25 14 15 ++ (zs zf84 29 76 ++ [(Value.bool (decide (pv = 4))), (zf84 106), (eN d), (eN kk), (Value.bool (decide (d < kk))), (ptr L15.bN 0), (eN (s.eraseR ((9 : Nat) : Int) ((9 : Nat) : Int))), (eN 8), (eN 8), (Value.bool false), (Value.bool false), (ptr L15.bN 0), (Value.bool s9.dead), (eN d), (eN kk), (Value.bool true), (Value.bool false), (Value.bool false), (Value.bool false), (ptr L15.bN 0), (eI s9.ops), (eN ops), (zf84 127), (zf84 128)]))) ?_
     refine wpL.onis rfl rfl rfl (nb rfl) rfl (d_neq (k := .i64) (m := s9.ops) (n := ((ops : Nat) : Int)) rfl rfl (by rw [decide_eq_true (stp_ops hI2)] <;> rfl)) ?_
     refine wI (d_pick (b := false) (v := (Value.bool false)) rfl rfl) ?_
     refine wF ([(eN kk), u1, (zf25 2), (zf25 3), (zf84 4), (ptr L15.bN 0), (zf25 6), (eN d), (eN nx), (eN ops), (eN i), (eN 8), (eN 8), (zf84 13)] ++ (zs zf25 14 15 ++ (zs zf84 29 76 ++ [(Value.bool (decide (pv = 4))), (zf84 106), (eN d), (eN kk), (Value.bool (decide (d < kk))), (ptr L15.bN 0), (eN (s.eraseR ((9 : Nat) : Int) ((9 : Nat) : Int))), (eN 8), (eN 8), (Value.bool false), (Value.bool false), (ptr L15.bN 0), (Value.bool s9.dead), (eN d), (eN kk), (Value.bool true), (Value.bool false), (Value.bool false), (Value.bool false), (ptr L15.bN 0), (eI s9.ops), (eN ops), (Value.bool false), (Value.bool false)]))) ?_
     refine wpL.done ?_
     refine then_n ?_
     refine forget (fun zf93 => ([(eN kk), u1, (zf25 2), (zf25 3), (zf93 4), (ptr L15.bN 0), (zf25 6), (eN d), (eN nx), (eN ops), (eN i), (zf93 11), (zf93 12), (zf93 13)] ++ (zs zf25 14 15 ++ (zs zf93 29 99 ++ [(Value.bool false)])))) (by kernel_rfl) (fun zf93 => ?_)
     refine cond_f rfl ?_
     refine wpIn_skip ?_
     refine inb_n (then_n ?_)
     refine plain ?_
     refine wI (d_move rfl) ?_
     refine wI (n_add (a := i) (b := 1) rfl rfl (by omega)) ?_
     refine wI (d_assign rfl) ?_
     refine wF ([(eN kk), u1, (zf25 2), (zf25 3), (zf93 4), (ptr L15.bN 0), (zf25 6), (eN d), (eN nx), (eN ops), (eN (i + 1)), (zf93 11), (zf93 12), (zf93 13)] ++ (zs zf25 14 15 ++ (zs zf93 29 8 ++ [(eN i), (eN (i + 1))] ++ (zs zf93 39 89 ++ [(Value.bool false)])))) ?_
     refine wpL.done ?_
     refine then_n ?_
     refine ⟨_, ⟨i + 1, d, nx, ops, s9⟩, rfl, rfl, ⟨?_, ?_, ?_, ?_, ?_, ?_, ?_⟩, ?_⟩
     ·
      (try dsimp only)
      all_goals (omega)
     ·
      (try dsimp only)
      all_goals (omega)
     ·
      (try dsimp only)
      all_goals (omega)
     ·
      (try dsimp only)
      all_goals (omega)
     ·
      exact hI2
     ·
      exact o26
     ·
      exact a16
     ·
      (try dsimp only)
      all_goals (omega)
    omega
   refine wpIn_skip ?_
   refine then_n ?_
   refine wpIn_seq ?_
   refine plain ?_
   refine wI (d_assign rfl) ?_
   refine wF ([(eN kk), u1, (zf25 2), (zf25 3), (zf28 4), (ptr L15.bN 0), (zf25 6), (eN d), (eN nx), (eN ops), (eN i), (eN 0), (eN 0), (zf28 13)] ++ (zs zf25 14 15 ++ (zs zf28 29 10 ++ [(eN d), (eN kk), (Value.bool (decide (d = kk)))] ++ (zs zf28 42 87)))) ?_
   refine wpL.done ?_
   refine then_n ?_
   refine wpIn_seq ?_
   refine wpIn_seq ?_
   refine plain ?_
   refine wI (d_move rfl) ?_
   refine wI (d_move rfl) ?_
   refine wI (d_ix (i := i) (xs := ll) Try.underlying37 s_ti3 rfl h1 (show _ = Value.int _ ((i : Nat) : Int) from rfl) (by first | omega | (simp; done) | (simp; omega))) ?_
   refine wF ([(eN kk), u1, (zf25 2), (zf25 3), (zf28 4), (ptr L15.bN 0), (zf25 6), (eN d), (eN nx), (eN ops), (eN i), (eN 0), (eN 0), (zf28 13)] ++ (zs zf25 14 15 ++ (zs zf28 29 10 ++ [(eN d), (eN kk), (Value.bool (decide (d = kk))), u1, (eN i), (ixp u1 i)] ++ (zs zf28 45 84)))) ?_
   refine wI (d_ldx (i := i) (xs := ll) (enc := eI) (v := (ll.getD i 0)) ⟨_, Try.underlying3, rfl⟩ rfl h1 (g_at (by first | omega | (simp; done) | (simp; omega)))) ?_
   refine wO (d_call (xl := [.tmp 45, .const (.int .i64 5)]) (al := [(eI (ll.getD i 0)), (eN 5)]) Try.func12 (by kernel_rfl) rfl rfl rfl (law7Within_ok (ll.getD i 0) 5 _ (by omega) (by omega))) ?_
   rintro _ w94 ⟨rfl, o95⟩
   replace h1 := h1.step0 o95
   replace a16 := a16.step0 o95
   replace oW := oW.tail0 o95
   replace o26 := o26.tail0 o95
   refine wF ([(eN kk), u1, (zf25 2), (zf25 3), (zf28 4), (ptr L15.bN 0), (zf25 6), (eN d), (eN nx), (eN ops), (eN i), (eN 0), (eN 0), (zf28 13)] ++ (zs zf25 14 15 ++ (zs zf28 29 10 ++ [(eN d), (eN kk), (Value.bool (decide (d = kk))), u1, (eN i), (ixp u1 i), (eI (ll.getD i 0)), (eN (((ll.getD i 0) % ((5 : Nat) : Int)).toNat))] ++ (zs zf28 47 82)))) ?_
   refine wpL.done ?_
   refine then_n ?_
   refine wpIn_block ?_
   refine wpIn_seq ?_
   refine wpIn_seq ?_
   obtain ⟨pv, hpv, epv⟩ : ∃ pv, (pv < 5) ∧ ((ll.getD i 0) % ((5 : Nat) : Int)).toNat = pv := ⟨_, by omega, rfl⟩
   refine wp_eq (l' := ([(eN kk), u1, (zf25 2), (zf25 3), (zf28 4), (ptr L15.bN 0), (zf25 6), (eN d), (eN nx), (eN ops), (eN i), (eN 0), (eN 0), (zf28 13)] ++ (zs zf25 14 15 ++ (zs zf28 29 10 ++ [(eN d), (eN kk), (Value.bool (decide (d = kk))), u1, (eN i), (ixp u1 i), (eI (ll.getD i 0)), (eN pv)] ++ (zs zf28 47 82))))) (show (([(eN kk), u1, (zf25 2), (zf25 3), (zf28 4), (ptr L15.bN 0), (zf25 6), (eN d), (eN nx), (eN ops), (eN i), (eN 0), (eN 0), (zf28 13)] ++ (zs zf25 14 15 ++ (zs zf28 29 10 ++ [(eN d), (eN kk), (Value.bool (decide (d = kk))), u1, (eN i), (ixp u1 i), (eI (ll.getD i 0)), (eN (((ll.getD i 0) % ((5 : Nat) : Int)).toNat))] ++ (zs zf28 47 82)))) : List Value) = ([(eN kk), u1, (zf25 2), (zf25 3), (zf28 4), (ptr L15.bN 0), (zf25 6), (eN d), (eN nx), (eN ops), (eN i), (eN 0), (eN 0), (zf28 13)] ++ (zs zf25 14 15 ++ (zs zf28 29 10 ++ [(eN d), (eN kk), (Value.bool (decide (d = kk))), u1, (eN i), (ixp u1 i), (eI (ll.getD i 0)), (eN pv)] ++ (zs zf28 47 82)))) from reslot ([(eN kk), u1, (zf25 2), (zf25 3), (zf28 4), (ptr L15.bN 0), (zf25 6), (eN d), (eN nx), (eN ops), (eN i), (eN 0), (eN 0), (zf28 13)] ++ (zs zf25 14 15 ++ (zs zf28 29 10 ++ [(eN d), (eN kk), (Value.bool (decide (d = kk))), u1, (eN i), (ixp u1 i), (eI (ll.getD i 0)), (eN (((ll.getD i 0) % ((5 : Nat) : Int)).toNat))] ++ (zs zf28 47 82)))) 46 (congrArg eN epv)) ?_
   refine plain ?_
   refine wI (n_eql (a := pv) (b := 0) rfl rfl rfl) ?_
   refine wI (d_assign rfl) ?_
   refine wF ([(eN kk), u1, (zf25 2), (zf25 3), (zf28 4), (ptr L15.bN 0), (zf25 6), (eN d), (eN nx), (eN ops), (eN i), (eN 0), (eN 0), (zf28 13)] ++ (zs zf25 14 15 ++ (zs zf28 29 10 ++ [(eN d), (eN kk), (Value.bool (decide (d = kk))), u1, (eN i), (ixp u1 i), (eI (ll.getD i 0)), (eN pv), (Value.bool (decide (pv = 0))), (Value.bool (decide (pv = 0)))] ++ (zs zf28 49 80)))) ?_
   refine wpL.done ?_
   refine then_n ?_
   refine forget (fun zf96 => ([(eN kk), u1, (zf25 2), (zf25 3), (zf96 4), (ptr L15.bN 0), (zf25 6), (eN d), (eN nx), (eN ops), (eN i), (eN 0), (eN 0), (zf96 13)] ++ (zs zf25 14 15 ++ (zs zf96 29 17 ++ [(eN pv), (Value.bool (decide (pv = 0)))] ++ (zs zf96 48 81))))) (by kernel_rfl) (fun zf96 => ?_)
   refine cond_if rfl (fun c97 => ?_) (fun c97 => ?_)
   ·
    refine wpIn_skip ?_
    refine then_n ?_
    refine cond_t (congrArg Value.bool (decide_eq_true c97)) ?_
    refine wpIn_seq ?_
    refine wpIn_seq ?_
    refine plain ?_
    refine wI (d_move rfl) ?_
    refine wI (n_geq (a := nx) (b := 8) rfl rfl rfl) ?_
    refine wF ([(eN kk), u1, (zf25 2), (zf25 3), (zf96 4), (ptr L15.bN 0), (zf25 6), (eN d), (eN nx), (eN ops), (eN i), (eN 0), (eN 0), (zf96 13)] ++ (zs zf25 14 15 ++ (zs zf96 29 17 ++ [(eN pv), (Value.bool (decide (pv = 0))), (zf96 48), (zf96 49), (eN nx), (Value.bool (decide (8 ≤ nx)))] ++ (zs zf96 52 77)))) ?_
    refine wpL.done ?_
    refine then_n ?_
    refine cond_if rfl (fun c8 => ?_) (fun c8 => ?_)
    ·
     refine wpIn_exit ?_
     refine then_x (inb_x (by decide) (then_x (inb_e ?_)))
     refine then_n ?_
     refine plain ?_
     refine wI (d_move rfl) ?_
     refine wI (n_add (a := i) (b := 1) rfl rfl (by omega)) ?_
     refine wI (d_assign rfl) ?_
     refine wF ([(eN kk), u1, (zf25 2), (zf25 3), (zf96 4), (ptr L15.bN 0), (zf25 6), (eN d), (eN nx), (eN ops), (eN (i + 1)), (eN 0), (eN 0), (zf96 13)] ++ (zs zf25 14 15 ++ (zs zf96 29 8 ++ [(eN i), (eN (i + 1))] ++ (zs zf96 39 7 ++ [(eN pv), (Value.bool (decide (pv = 0))), (zf96 48), (zf96 49), (eN nx), (Value.bool (decide (8 ≤ nx)))] ++ (zs zf96 52 77))))) ?_
     refine wpL.done ?_
     refine then_n ?_
     refine ⟨_, ⟨i + 1, d, nx, ops, s⟩, rfl, rfl, ⟨?_, ?_, ?_, ?_, ?_, ?_, ?_⟩, ?_⟩
     ·
      (try dsimp only)
      all_goals (omega)
     ·
      (try dsimp only)
      all_goals (omega)
     ·
      (try dsimp only)
      all_goals (omega)
     ·
      (try dsimp only)
      all_goals (omega)
     ·
      exact hI
     ·
      exact o26
     ·
      exact a16
     ·
      (try dsimp only)
      all_goals (omega)
    refine wpIn_skip ?_
    refine then_n ?_
    refine wpIn_seq ?_
    refine wpIn_seq ?_
    refine plain ?_
    refine wI (d_move rfl) ?_
    refine wI (d_move rfl) ?_
    refine wI (n_lss (a := d) (b := kk) rfl rfl rfl) ?_
    refine wF ([(eN kk), u1, (zf25 2), (zf25 3), (zf96 4), (ptr L15.bN 0), (zf25 6), (eN d), (eN nx), (eN ops), (eN i), (eN 0), (eN 0), (zf96 13)] ++ (zs zf25 14 15 ++ (zs zf96 29 17 ++ [(eN pv), (Value.bool (decide (pv = 0))), (zf96 48), (zf96 49), (eN nx), (Value.bool (decide (8 ≤ nx))), (eN d), (eN kk), (Value.bool (decide (d < kk)))] ++ (zs zf96 55 74)))) ?_
    refine wpL.done ?_
    refine then_n ?_
    refine cond_if rfl (fun c3 => ?_) (fun c3 => ?_)
    ·
     refine wpIn_seq ?_
     refine plain ?_
     refine wI (d_move rfl) ?_
     refine wI (n_add (a := d) (b := 1) rfl rfl (by omega)) ?_
     refine wI (d_assign rfl) ?_
     refine wF ([(eN kk), u1, (zf25 2), (zf25 3), (zf96 4), (ptr L15.bN 0), (zf25 6), (eN (d + 1)), (eN nx), (eN ops), (eN i), (eN 0), (eN 0), (zf96 13)] ++ (zs zf25 14 15 ++ (zs zf96 29 17 ++ [(eN pv), (Value.bool (decide (pv = 0))), (zf96 48), (zf96 49), (eN nx), (Value.bool (decide (8 ≤ nx))), (eN d), (eN kk), (Value.bool (decide (d < kk))), (eN d), (eN (d + 1))] ++ (zs zf96 57 72)))) ?_
     refine wpL.done ?_
     refine then_n ?_
     refine forget (fun zf98 => ([(eN kk), u1, (zf25 2), (zf25 3), (zf98 4), (ptr L15.bN 0), (zf25 6), (eN (d + 1)), (eN nx), (eN ops), (eN i), (eN 0), (zf98 12), (zf98 13)] ++ (zs zf25 14 15 ++ (zs zf98 29 100)))) (by kernel_rfl) (fun zf98 => ?_)
     refine wpIn_seq ?_
     refine plain ?_
     refine wI (d_move rfl) ?_
     refine wI (n_add (a := nx) (b := 1) rfl rfl (by omega)) ?_
     refine wI (d_assign rfl) ?_
     refine wF ([(eN kk), u1, (zf25 2), (zf25 3), (zf98 4), (ptr L15.bN 0), (zf25 6), (eN (d + 1)), (eN (nx + 1)), (eN ops), (eN i), (eN 0), (zf98 12), (zf98 13)] ++ (zs zf25 14 15 ++ (zs zf98 29 28 ++ [(eN nx), (eN (nx + 1))] ++ (zs zf98 59 70)))) ?_
     refine wpL.done ?_
     refine then_n ?_
     refine wpIn_seq ?_
     refine plain ?_
     refine wI (d_move rfl) ?_
     refine wI (n_add (a := ops) (b := 1) rfl rfl (by omega)) ?_
     refine wI (d_assign rfl) ?_
     refine wF ([(eN kk), u1, (zf25 2), (zf25 3), (zf98 4), (ptr L15.bN 0), (zf25 6), (eN (d + 1)), (eN (nx + 1)), (eN (ops + 1)), (eN i), (eN 0), (zf98 12), (zf98 13)] ++ (zs zf25 14 15 ++ (zs zf98 29 28 ++ [(eN nx), (eN (nx + 1)), (eN ops), (eN (ops + 1))] ++ (zs zf98 61 68)))) ?_
     refine wpL.done ?_
     refine then_n ?_
     refine wpIn_seq ?_
     refine plain ?_
     refine wI (d_move rfl) ?_
     refine wI (d_move rfl) ?_
     refine wI (n_eql (a := (d + 1)) (b := kk) rfl rfl rfl) ?_
     refine wF ([(eN kk), u1, (zf25 2), (zf25 3), (zf98 4), (ptr L15.bN 0), (zf25 6), (eN (d + 1)), (eN (nx + 1)), (eN (ops + 1)), (eN i), (eN 0), (zf98 12), (zf98 13)] ++ (zs zf25 14 15 ++ (zs zf98 29 28 ++ [(eN nx), (eN (nx + 1)), (eN ops), (eN (ops + 1)), (eN (d + 1)), (eN kk), (Value.bool (decide ((d + 1) = kk)))] ++ (zs zf98 64 65)))) ?_
     refine wpL.done ?_
     refine then_n ?_
     refine cond_if rfl (fun c4 => ?_) (fun c4 => ?_)
     ·
      refine plain ?_
      refine wI (d_assign rfl) ?_
      refine wF ([(eN kk), u1, (zf25 2), (zf25 3), (zf98 4), (ptr L15.bN 0), (zf25 6), (eN (d + 1)), (eN (nx + 1)), (eN (ops + 1)), (eN i), (eN 8), (zf98 12), (zf98 13)] ++ (zs zf25 14 15 ++ (zs zf98 29 28 ++ [(eN nx), (eN (nx + 1)), (eN ops), (eN (ops + 1)), (eN (d + 1)), (eN kk), (Value.bool (decide ((d + 1) = kk)))] ++ (zs zf98 64 65)))) ?_
      refine wpL.done ?_
      refine then_n ?_
      refine wpIn_seq ?_
      refine plain ?_
      refine wI (d_move rfl) ?_
      refine wI (d_sub (k := .i64) (m := ((nx + 1 : Nat) : Int)) (n := 1) rfl rfl (r := ((nx : Nat) : Int)) (by rw [IntWalk.i64_in _ (by omega)]; omega)) ?_
      refine wI (d_assign rfl) ?_
      refine wF ([(eN kk), u1, (zf25 2), (zf25 3), (zf98 4), (ptr L15.bN 0), (zf25 6), (eN (d + 1)), (eN (nx + 1)), (eN (ops + 1)), (eN i), (eN 8), (zf98 12), (eN nx)] ++ (zs zf25 14 15 ++ (zs zf98 29 28 ++ [(eN nx), (eN (nx + 1)), (eN ops), (eN (ops + 1)), (eN (d + 1)), (eN kk), (Value.bool (decide ((d + 1) = kk))), (eN (nx + 1)), (eN nx)] ++ (zs zf98 66 63)))) ?_
      refine wpL.done ?_
      refine then_n ?_
      refine forget (fun zf99 => ([(eN kk), u1, (zf25 2), (zf25 3), (zf99 4), (ptr L15.bN 0), (zf25 6), (eN (d + 1)), (eN (nx + 1)), (eN (ops + 1)), (eN i), (eN 8), (zf99 12), (eN nx)] ++ (zs zf25 14 15 ++ (zs zf99 29 100)))) (by kernel_rfl) (fun zf99 => ?_)
      refine wpIn_seq ?_
      refine wpIn_seq ?_
      refine plain ?_
      refine wI (d_move rfl) ?_
      refine wI (n_eql (a := 8) (b := 8) rfl rfl (decide_eq_true rfl)) ?_
      refine wI (d_move rfl) ?_
      refine wF ([(eN kk), u1, (zf25 2), (zf25 3), (zf99 4), (ptr L15.bN 0), (zf25 6), (eN (d + 1)), (eN (nx + 1)), (eN (ops + 1)), (eN i), (eN 8), (zf99 12), (eN nx)] ++ (zs zf25 14 15 ++ (zs zf99 29 37 ++ [(eN 8), (Value.bool true), (Value.bool true)] ++ (zs zf99 69 60)))) ?_
      refine wpL.onis rfl rfl rfl (nb rfl) rfl (d_move rfl) ?_
      refine wpL.onis rfl rfl rfl (nb rfl) rfl (d_move rfl) ?_
      refine wpL.onis rfl rfl rfl (nb rfl) rfl (n_lss (a := (d + 1)) (b := kk) rfl rfl (decide_eq_false (by omega))) ?_
      refine wF ([(eN kk), u1, (zf25 2), (zf25 3), (zf99 4), (ptr L15.bN 0), (zf25 6), (eN (d + 1)), (eN (nx + 1)), (eN (ops + 1)), (eN i), (eN 8), (zf99 12), (eN nx)] ++ (zs zf25 14 15 ++ (zs zf99 29 37 ++ [(eN 8), (Value.bool true), (Value.bool true), (eN (d + 1)), (eN kk), (Value.bool false)] ++ (zs zf99 72 57)))) ?_
      refine wI (d_pick (b := true) (v := (Value.bool false)) rfl rfl) ?_
      refine wF ([(eN kk), u1, (zf25 2), (zf25 3), (zf99 4), (ptr L15.bN 0), (zf25 6), (eN (d + 1)), (eN (nx + 1)), (eN (ops + 1)), (eN i), (eN 8), (zf99 12), (eN nx)] ++ (zs zf25 14 15 ++ (zs zf99 29 37 ++ [(eN 8), (Value.bool true), (Value.bool true), (eN (d + 1)), (eN kk), (Value.bool false), (Value.bool false)] ++ (zs zf99 73 56)))) ?_
      refine wpL.done ?_
      refine then_n ?_
      refine cond_f rfl ?_
      refine wpIn_skip ?_
      refine then_n ?_
      refine plain ?_
      refine wI (d_move rfl) ?_
      refine wI (d_move rfl) ?_
      refine wI (n_max rfl rfl) ?_
      refine wF ([(eN kk), u1, (zf25 2), (zf25 3), (zf99 4), (ptr L15.bN 0), (zf25 6), (eN (d + 1)), (eN (nx + 1)), (eN (ops + 1)), (eN i), (eN 8), (zf99 12), (eN nx)] ++ (zs zf25 14 15 ++ (zs zf99 29 37 ++ [(eN 8), (Value.bool true), (Value.bool true), (eN (d + 1)), (eN kk), (Value.bool false), (Value.bool false), (zf99 73), (ptr L15.bN 0), (eN nx), (eN (max nx 0))] ++ (zs zf99 77 52)))) ?_
      refine wO (d_make1 (n := 60) Try.underlying36 s_ti5 rfl rfl (by omega) (by omega) rfl) ?_
      rintro _ w100 ⟨o, rfl, g101, a102, o103⟩
      replace a102 : Arr 5 o ((List.replicate 60 0).map eB) w100 := by rw [List.map_replicate]; exact a102
      have l_o : (List.replicate 60 0 : List UInt8).length = 60 := by simp
      have g_oW_o : W.heap.size ≤ o := Nat.le_trans oW.size g101
      have g_o26_o : w21.heap.size ≤ o := Nat.le_trans o26.size g101
      replace h1 := h1.new o103 g101
      replace a16 := a16.new o103 g101
      replace oW := oW.tail0 o103
      replace o26 := o26.tail0 o103
      refine wO (d_call (xl := [.tmp 74, .const (.int .i64 0), .const (.int .i64 0), .tmp 76, .tmp 77]) (al := [(ptr L15.bN 0), (eN 0), (eN 0), (eN (max nx 0)), (sli o 0 60 60)]) Try.func20 (by kernel_rfl) rfl rfl rfl (prog_ok L15 s _ a16 ((0 : Nat) : Int) ((0 : Nat) : Int) ((max nx 0 : Nat) : Int) (List.replicate 60 0) (sli o 0 60 60) (lt_or1 a102.lt lt_no) (arr_keep a102 l_o (Nat.le_refl _) (nx_ors (a16.dis _ in1) (fun _ _ t => t.elim))) (by have := rep_len 60 0; first | omega | (simp; done) | (simp; omega)))) ?_
      rintro _ w104 ⟨rfl, a106, o105⟩
      replace a102 := a102.step o105 (a16.dis _ in1)
      replace h1 := h1.step o105 (sub2 sub1)
      replace oW := oW.tail o105 (fun k hk e => by have := g_oW_L15 k e; omega)
      replace o26 := o26.tail o105 (fun k _ e => sub1 k e)
      replace a16 := a106
      refine wI (d_assign rfl) ?_
      refine wF ([(eN kk), u1, (zf25 2), (zf25 3), (zf99 4), (ptr L15.bN 0), (zf25 6), (eN (d + 1)), (eN (nx + 1)), (eN (ops + 1)), (eN i), (eN 8), (eN (s.progR ((0 : Nat) : Int) ((0 : Nat) : Int) ((max nx 0 : Nat) : Int) (List.replicate 60 0))), (eN nx)] ++ (zs zf25 14 15 ++ (zs zf99 29 37 ++ [(eN 8), (Value.bool true), (Value.bool true), (eN (d + 1)), (eN kk), (Value.bool false), (Value.bool false), (zf99 73), (ptr L15.bN 0), (eN nx), (eN (max nx 0)), (sli o 0 60 60), (eN (s.progR ((0 : Nat) : Int) ((0 : Nat) : Int) ((max nx 0 : Nat) : Int) (List.replicate 60 0)))] ++ (zs zf99 79 50)))) ?_
      refine wpL.done ?_
      refine inb_n (then_n ?_)
      refine forget (fun zf107 => ([(eN kk), u1, (zf25 2), (zf25 3), (zf107 4), (ptr L15.bN 0), (zf25 6), (eN (d + 1)), (eN (nx + 1)), (eN (ops + 1)), (eN i), (eN 8), (eN (s.progR ((0 : Nat) : Int) ((0 : Nat) : Int) ((max nx 0 : Nat) : Int) (List.replicate 60 0))), (zf107 13)] ++ (zs zf25 14 15 ++ (zs zf107 29 100)))) (by kernel_rfl) (fun zf107 => ?_)
      refine wpIn_seq ?_
      have hI2 : StpI (s.prog ((0 : Nat) : Int) ((0 : Nat) : Int) ((max nx 0 : Nat) : Int) (List.replicate 60 0)) kk (d + 1) (nx + 1) (ops + 1) := (by rw [show max nx 0 = nx from by omega]; exact (stp_prog hI c3 hkk.2 (by omega) (by omega) List.length_replicate).2)
      have hf2 : s.progR ((0 : Nat) : Int) ((0 : Nat) : Int) ((max nx 0 : Nat) : Int) (List.replicate 60 0) = 8 := by rw [show max nx 0 = nx from by omega, (stp_prog hI c3 hkk.2 (by omega) (by omega) List.length_replicate).1, if_pos c4]
      refine wp_eq (l' := ([(eN kk), u1, (zf25 2), (zf25 3), (zf107 4), (ptr L15.bN 0), (zf25 6), (eN (d + 1)), (eN (nx + 1)), (eN (ops + 1)), (eN i), (eN 8), (eN 8), (zf107 13)] ++ (zs zf25 14 15 ++ (zs zf107 29 100)))) (show (([(eN kk), u1, (zf25 2), (zf25 3), (zf107 4), (ptr L15.bN 0), (zf25 6), (eN (d + 1)), (eN (nx + 1)), (eN (ops + 1)), (eN i), (eN 8), (eN (s.progR ((0 : Nat) : Int) ((0 : Nat) : Int) ((max nx 0 : Nat) : Int) (List.replicate 60 0))), (zf107 13)] ++ (zs zf25 14 15 ++ (zs zf107 29 100))) : List Value) = ([(eN kk), u1, (zf25 2), (zf25 3), (zf107 4), (ptr L15.bN 0), (zf25 6), (eN (d + 1)), (eN (nx + 1)), (eN (ops + 1)), (eN i), (eN 8), (eN 8), (zf107 13)] ++ (zs zf25 14 15 ++ (zs zf107 29 100))) from reslot ([(eN kk), u1, (zf25 2), (zf25 3), (zf107 4), (ptr L15.bN 0), (zf25 6), (eN (d + 1)), (eN (nx + 1)), (eN (ops + 1)), (eN i), (eN 8), (eN (s.progR ((0 : Nat) : Int) ((0 : Nat) : Int) ((max nx 0 : Nat) : Int) (List.replicate 60 0))), (zf107 13)] ++ (zs zf25 14 15 ++ (zs zf107 29 100))) 12 (congrArg eN hf2)) ?_
      obtain ⟨s9, es9⟩ : ∃ s9, s.prog ((0 : Nat) : Int) ((0 : Nat) : Int) ((max nx 0 : Nat) : Int) (List.replicate 60 0) = s9 := ⟨_, rfl⟩
      rw [es9] at hI2
      replace a16 := nd_to a16 es9
      clear hf2 es9
      refine plain ?_
      refine wI (d_move rfl) ?_
      refine wI (d_move rfl) ?_
      refine wI (n_neq (a := 8) (b := 8) rfl rfl (by rw [decide_eq_true rfl] <;> rfl)) ?_
      refine wF ([(eN kk), u1, (zf25 2), (zf25 3), (zf107 4), (ptr L15.bN 0), (zf25 6), (eN (d + 1)), (eN (nx + 1)), (eN (ops + 1)), (eN i), (eN 8), (eN 8), (zf107 13)] ++ (zs zf25 14 15 ++ (zs zf107 29 83 ++ [(eN 8), (eN 8), (Value.bool false)] ++ (zs zf107 115 14)))) ?_
      refine wI (d_move rfl) ?_
      refine wpL.onis rfl rfl rfl (nb rfl) rfl (d_move rfl) ?_
      refine wpL.on rfl rfl rfl (nb rfl) rfl (d_call (xl := [.tmp 116]) (al := [(ptr L15.bN 0)]) Try.func25 (by kernel_rfl) rfl rfl rfl (nandDead_ok L15 s9 _ a16)) ?_
      rintro _ w108 ⟨rfl, o109⟩
      replace h1 := h1.step0 o109
      replace a16 := a16.step0 o109
      replace a102 := a102.step0 o109
      replace oW := oW.tail0 o109
      replace o26 := o26.tail0 o109
      refine wF ([(eN kk), u1, (zf25 2), (zf25 3), (zf107 4), (ptr L15.bN 0), (zf25 6), (eN (d + 1)), (eN (nx + 1)), (eN (ops + 1)), (eN i), (eN 8), (eN 8), (zf107 13)] ++ (zs zf25 14 15 ++ (zs zf107 29 83 ++ [(eN 8), (eN 8), (Value.bool false), (Value.bool false), (ptr L15.bN 0), (Value.bool s9.dead)] ++ (zs zf107 118 11)))) ?_
      refine wpL.onis rfl rfl rfl (nb rfl) rfl (d_move rfl) ?_
      refine wpL.onis rfl rfl rfl (nb rfl) rfl (d_move rfl) ?_
      refine wpL.onis rfl rfl rfl (nb rfl) rfl (n_eql (a := (d + 1)) (b := kk) rfl rfl (decide_eq_true c4)) ?_
      refine wF ([(eN kk), u1, (zf25 2), (zf25 3), (zf107 4), (ptr L15.bN 0), (zf25 6), (eN (d + 1)), (eN (nx + 1)), (eN (ops + 1)), (eN i), (eN 8), (eN 8), (zf107 13)] ++ (zs zf25 14 15 ++ (zs zf107 29 83 ++ [(eN 8), (eN 8), (Value.bool false), (Value.bool false), (ptr L15.bN 0), (Value.bool s9.dead), (eN (d + 1)), (eN kk), (Value.bool true)] ++ (zs zf107 121 8)))) ?_
      refine wpL.onis rfl rfl rfl (nb rfl) rfl (d_bneq (r := false) Try.underlying4 rfl rfl (by rw [stp_dead hI2]; first | rfl | (simp; done) | (simp [c1]; done) | (simp [c4]; done))) ?_
      refine wI (d_pick (b := false) (v := (Value.bool false)) rfl rfl) ?_
      refine wI (d_move rfl) ?_
      refine wF ([(eN kk), u1, (zf25 2), (zf25 3), (zf107 4), (ptr L15.bN 0), (zf25 6), (eN (d + 1)), (eN (nx + 1)), (eN (ops + 1)), (eN i), (eN 8), (eN 8), (zf107 13)] ++ (zs zf25 14 15 ++ (zs zf107 29 83 ++ [(eN 8), (eN 8), (Value.bool false), (Value.bool false), (ptr L15.bN 0), (Value.bool s9.dead), (eN (d + 1)), (eN kk), (Value.bool true), (Value.bool false), (Value.bool false), (Value.bool false)] ++ (zs zf107 124 5)))) ?_
      refine wpL.onis rfl rfl rfl (nb rfl) rfl (d_move rfl) ?_
      refine wpL.on rfl rfl rfl (nb rfl) rfl (d_call (xl := [.tmp 124]) (al := [(ptr L15.bN 0)]) Try.func19 (by kernel_rfl) rfl rfl rfl (nandOps_ok L15 s9 _ a16)) ?_
      rintro _ w110 ⟨rfl, o111⟩
      replace h1 := h1.step0 o111
      replace a16 := a16.step0 o111
      replace a102 := a102.step0 o111
      replace oW := oW.tail0 o111
      replace o26 := o26.tail0 o111
      refine wpL.onis rfl rfl rfl (nb rfl) rfl (d_move rfl) ?_
      refine wF ([(eN kk), u1, (zf25 2), (zf25 3), (zf107 4), (ptr L15.bN 0), (zf25 6), (eN (d + 1)), (eN (nx + 1)), (eN (ops + 1)), (eN i), (eN 8), (eN 8), (zf107 13)] ++ (zs zf25 14 15 ++ (zs zf107 29 83 ++ [(eN 8), (eN 8), (Value.bool false), (Value.bool false), (ptr L15.bN 0), (Value.bool s9.dead), (eN (d + 1)), (eN kk), (Value.bool true), (Value.bool false), (Value.bool false), (Value.bool false), (ptr L15.bN 0), (eI s9.ops), (eN (ops + 1)), (zf107 127), (zf107 128)]))) ?_
      refine wpL.onis rfl rfl rfl (nb rfl) rfl (d_neq (k := .i64) (m := s9.ops) (n := ((ops + 1 : Nat) : Int)) rfl rfl (by rw [decide_eq_true (stp_ops hI2)] <;> rfl)) ?_
      refine wI (d_pick (b := false) (v := (Value.bool false)) rfl rfl) ?_
      refine wF ([(eN kk), u1, (zf25 2), (zf25 3), (zf107 4), (ptr L15.bN 0), (zf25 6), (eN (d + 1)), (eN (nx + 1)), (eN (ops + 1)), (eN i), (eN 8), (eN 8), (zf107 13)] ++ (zs zf25 14 15 ++ (zs zf107 29 83 ++ [(eN 8), (eN 8), (Value.bool false), (Value.bool false), (ptr L15.bN 0), (Value.bool s9.dead), (eN (d + 1)), (eN kk), (Value.bool true), (Value.bool false), (Value.bool false), (Value.bool false), (ptr L15.bN 0), (eI s9.ops), (eN (ops + 1)), (Value.bool false), (Value.bool false)]))) ?_
      refine wpL.done ?_
      refine then_n ?_
      refine forget (fun zf112 => ([(eN kk), u1, (zf25 2), (zf25 3), (zf112 4), (ptr L15.bN 0), (zf25 6), (eN (d + 1)), (eN (nx + 1)), (eN (ops + 1)), (eN i), (zf112 11), (zf112 12), (zf112 13)] ++ (zs zf25 14 15 ++ (zs zf112 29 99 ++ [(Value.bool false)])))) (by kernel_rfl) (fun zf112 => ?_)
      refine cond_f rfl ?_
      refine wpIn_skip ?_
      refine inb_n (then_n ?_)
      refine plain ?_
      refine wI (d_move rfl) ?_
      refine wI (n_add (a := i) (b := 1) rfl rfl (by omega)) ?_
      refine wI (d_assign rfl) ?_
      refine wF ([(eN kk), u1, (zf25 2), (zf25 3), (zf112 4), (ptr L15.bN 0), (zf25 6), (eN (d + 1)), (eN (nx + 1)), (eN (ops + 1)), (eN (i + 1)), (zf112 11), (zf112 12), (zf112 13)] ++ (zs zf25 14 15 ++ (zs zf112 29 8 ++ [(eN i), (eN (i + 1))] ++ (zs zf112 39 89 ++ [(Value.bool false)])))) ?_
      refine wpL.done ?_
      refine then_n ?_
      refine ⟨_, ⟨i + 1, d + 1, nx + 1, ops + 1, s9⟩, rfl, rfl, ⟨?_, ?_, ?_, ?_, ?_, ?_, ?_⟩, ?_⟩
      ·
       (try dsimp only)
       all_goals (omega)
      ·
       (try dsimp only)
       all_goals (omega)
      ·
       (try dsimp only)
       all_goals (omega)
      ·
       (try dsimp only)
       all_goals (omega)
      ·
       exact hI2
      ·
       exact o26
      ·
       exact a16.less (xx_skip xx_id)
      ·
       (try dsimp only)
       all_goals (omega)
     refine wpIn_skip ?_
     refine then_n ?_
     refine wpIn_seq ?_
     refine plain ?_
     refine wI (d_move rfl) ?_
     refine wI (d_sub (k := .i64) (m := ((nx + 1 : Nat) : Int)) (n := 1) rfl rfl (r := ((nx : Nat) : Int)) (by rw [IntWalk.i64_in _ (by omega)]; omega)) ?_
     refine wI (d_assign rfl) ?_
     refine wF ([(eN kk), u1, (zf25 2), (zf25 3), (zf98 4), (ptr L15.bN 0), (zf25 6), (eN (d + 1)), (eN (nx + 1)), (eN (ops + 1)), (eN i), (eN 0), (zf98 12), (eN nx)] ++ (zs zf25 14 15 ++ (zs zf98 29 28 ++ [(eN nx), (eN (nx + 1)), (eN ops), (eN (ops + 1)), (eN (d + 1)), (eN kk), (Value.bool (decide ((d + 1) = kk))), (eN (nx + 1)), (eN nx)] ++ (zs zf98 66 63)))) ?_
     refine wpL.done ?_
     refine then_n ?_
     refine forget (fun zf113 => ([(eN kk), u1, (zf25 2), (zf25 3), (zf113 4), (ptr L15.bN 0), (zf25 6), (eN (d + 1)), (eN (nx + 1)), (eN (ops + 1)), (eN i), (eN 0), (zf113 12), (eN nx)] ++ (zs zf25 14 15 ++ (zs zf113 29 100)))) (by kernel_rfl) (fun zf113 => ?_)
     refine wpIn_seq ?_
     refine wpIn_seq ?_
     refine plain ?_
     refine wI (d_move rfl) ?_
     refine wI (n_eql (a := 0) (b := 8) rfl rfl (decide_eq_false (by decide))) ?_
     refine wI (d_move rfl) ?_
     refine wF ([(eN kk), u1, (zf25 2), (zf25 3), (zf113 4), (ptr L15.bN 0), (zf25 6), (eN (d + 1)), (eN (nx + 1)), (eN (ops + 1)), (eN i), (eN 0), (zf113 12), (eN nx)] ++ (zs zf25 14 15 ++ (zs zf113 29 37 ++ [(eN 0), (Value.bool false), (Value.bool false)] ++ (zs zf113 69 60)))) ?_
     refine wpL.off rfl rfl rfl (nb rfl) rfl ?_
     refine wpL.off rfl rfl rfl (nb rfl) rfl ?_
     refine wF ([(eN kk), u1, (zf25 2), (zf25 3), (zf113 4), (ptr L15.bN 0), (zf25 6), (eN (d + 1)), (eN (nx + 1)), (eN (ops + 1)), (eN i), (eN 0), (zf113 12), (eN nx)] ++ (zs zf25 14 15 ++ (zs zf113 29 37 ++ [(eN 0), (Value.bool false), (Value.bool false), undef, undef] ++ (zs zf113 71 58)))) ?_
     refine wpL.off rfl rfl rfl (nb rfl) rfl ?_
     refine wI (d_pick (b := false) (v := (Value.bool false)) rfl rfl) ?_
     refine wF ([(eN kk), u1, (zf25 2), (zf25 3), (zf113 4), (ptr L15.bN 0), (zf25 6), (eN (d + 1)), (eN (nx + 1)), (eN (ops + 1)), (eN i), (eN 0), (zf113 12), (eN nx)] ++ (zs zf25 14 15 ++ (zs zf113 29 37 ++ [(eN 0), (Value.bool false), (Value.bool false), undef, undef, undef, (Value.bool false)] ++ (zs zf113 73 56)))) ?_
     refine wpL.done ?_
     refine then_n ?_
     refine cond_f rfl ?_
     refine wpIn_skip ?_
     refine then_n ?_
     refine plain ?_
     refine wI (d_move rfl) ?_
     refine wI (d_move rfl) ?_
     refine wI (n_max rfl rfl) ?_
     refine wF ([(eN kk), u1, (zf25 2), (zf25 3), (zf113 4), (ptr L15.bN 0), (zf25 6), (eN (d + 1)), (eN (nx + 1)), (eN (ops + 1)), (eN i), (eN 0), (zf113 12), (eN nx)] ++ (zs zf25 14 15 ++ (zs zf113 29 37 ++ [(eN 0), (Value.bool false), (Value.bool false), undef, undef, undef, (Value.bool false), (zf113 73), (ptr L15.bN 0), (eN nx), (eN (max nx 0))] ++ (zs zf113 77 52)))) ?_
     refine wO (d_make1 (n := 60) Try.underlying36 s_ti5 rfl rfl (by omega) (by omega) rfl) ?_
     rintro _ w114 ⟨o, rfl, g115, a116, o117⟩
     replace a116 : Arr 5 o ((List.replicate 60 0).map eB) w114 := by rw [List.map_replicate]; exact a116
     have l_o : (List.replicate 60 0 : List UInt8).length = 60 := by simp
     have g_oW_o : W.heap.size ≤ o := Nat.le_trans oW.size g115
     have g_o26_o : w21.heap.size ≤ o := Nat.le_trans o26.size g115
     replace h1 := h1.new o117 g115
     replace a16 := a16.new o117 g115
     replace oW := oW.tail0 o117
     replace o26 := o26.tail0 o117
     refine wO (d_call (xl := [.tmp 74, .const (.int .i64 0), .const (.int .i64 0), .tmp 76, .tmp 77]) (al := [(ptr L15.bN 0), (eN 0), (eN 0), (eN (max nx 0)), (sli o 0 60 60)]) Try.func20 (by kernel_rfl) rfl rfl rfl (prog_ok L15 s _ a16 ((0 : Nat) : Int) ((0 : Nat) : Int) ((max nx 0 : Nat) : Int) (List.replicate 60 0) (sli o 0 60 60) (lt_or1 a116.lt lt_no) (arr_keep a116 l_o (Nat.le_refl _) (nx_ors (a16.dis _ in1) (fun _ _ t => t.elim))) (by have := rep_len 60 0; first | omega | (simp; done) | (simp; omega)))) ?_
     rintro _ w118 ⟨rfl, a120, o119⟩
     replace a116 := a116.step o119 (a16.dis _ in1)
     replace h1 := h1.step o119 (sub2 sub1)
     replace oW := oW.tail o119 (fun k hk e => by have := g_oW_L15 k e; omega)
     replace o26 := o26.tail o119 (fun k _ e => sub1 k e)
     replace a16 := a120
     refine wI (d_assign rfl) ?_
     refine wF ([(eN kk), u1, (zf25 2), (zf25 3), (zf113 4), (ptr L15.bN 0), (zf25 6), (eN (d + 1)), (eN (nx + 1)), (eN (ops + 1)), (eN i), (eN 0), (eN (s.progR ((0 : Nat) : Int) ((0 : Nat) : Int) ((max nx 0 : Nat) : Int) (List.replicate 60 0))), (eN nx)] ++ (zs zf25 14 15 ++ (zs zf113 29 37 ++ [(eN 0), (Value.bool false), (Value.bool false), undef, undef, undef, (Value.bool false), (zf113 73), (ptr L15.bN 0), (eN nx), (eN (max nx 0)), (sli o 0 60 60), (eN (s.progR ((0 : Nat) : Int) ((0 : Nat) : Int) ((max nx 0 : Nat) : Int) (List.replicate 60 0)))] ++ (zs zf113 79 50)))) ?_
     refine wpL.done ?_
     refine inb_n (then_n ?_)
     refine forget (fun zf121 => ([(eN kk), u1, (zf25 2), (zf25 3), (zf121 4), (ptr L15.bN 0), (zf25 6), (eN (d + 1)), (eN (nx + 1)), (eN (ops + 1)), (eN i), (eN 0), (eN (s.progR ((0 : Nat) : Int) ((0 : Nat) : Int) ((max nx 0 : Nat) : Int) (List.replicate 60 0))), (zf121 13)] ++ (zs zf25 14 15 ++ (zs zf121 29 100)))) (by kernel_rfl) (fun zf121 => ?_)
     refine wpIn_seq ?_
     have hI2 : StpI (s.prog ((0 : Nat) : Int) ((0 : Nat) : Int) ((max nx 0 : Nat) : Int) (List.replicate 60 0)) kk (d + 1) (nx + 1) (ops + 1) := (by rw [show max nx 0 = nx from by omega]; exact (stp_prog hI c3 hkk.2 (by omega) (by omega) List.length_replicate).2)
     have hf2 : s.progR ((0 : Nat) : Int) ((0 : Nat) : Int) ((max nx 0 : Nat) : Int) (List.replicate 60 0) = 0 := by rw [show max nx 0 = nx from by omega, (stp_prog hI c3 hkk.2 (by omega) (by omega) List.length_replicate).1, if_neg c4]
     refine wp_eq (l' := ([(eN kk), u1, (zf25 2), (zf25 3), (zf121 4), (ptr L15.bN 0), (zf25 6), (eN (d + 1)), (eN (nx + 1)), (eN (ops + 1)), (eN i), (eN 0), (eN 0), (zf121 13)] ++ (zs zf25 14 15 ++ (zs zf121 29 100)))) (show (([(eN kk), u1, (zf25 2), (zf25 3), (zf121 4), (ptr L15.bN 0), (zf25 6), (eN (d + 1)), (eN (nx + 1)), (eN (ops + 1)), (eN i), (eN 0), (eN (s.progR ((0 : Nat) : Int) ((0 : Nat) : Int) ((max nx 0 : Nat) : Int) (List.replicate 60 0))), (zf121 13)] ++ (zs zf25 14 15 ++ (zs zf121 29 100))) : List Value) = ([(eN kk), u1, (zf25 2), (zf25 3), (zf121 4), (ptr L15.bN 0), (zf25 6), (eN (d + 1)), (eN (nx + 1)), (eN (ops + 1)), (eN i), (eN 0), (eN 0), (zf121 13)] ++ (zs zf25 14 15 ++ (zs zf121 29 100))) from reslot ([(eN kk), u1, (zf25 2), (zf25 3), (zf121 4), (ptr L15.bN 0), (zf25 6), (eN (d + 1)), (eN (nx + 1)), (eN (ops + 1)), (eN i), (eN 0), (eN (s.progR ((0 : Nat) : Int) ((0 : Nat) : Int) ((max nx 0 : Nat) : Int) (List.replicate 60 0))), (zf121 13)] ++ (zs zf25 14 15 ++ (zs zf121 29 100))) 12 (congrArg eN hf2)) ?_
     obtain ⟨s9, es9⟩ : ∃ s9, s.prog ((0 : Nat) : Int) ((0 : Nat) : Int) ((max nx 0 : Nat) : Int) (List.replicate 60 0) = s9 := ⟨_, rfl⟩
     rw [es9] at hI2
     replace a16 := nd_to a16 es9
     clear hf2 es9
     refine plain ?_
     refine wI (d_move rfl) ?_
     refine wI (d_move rfl) ?_
     refine wI (n_neq (a := 0) (b := 0) rfl rfl (by rw [decide_eq_true rfl] <;> rfl)) ?_
     refine wF ([(eN kk), u1, (zf25 2), (zf25 3), (zf121 4), (ptr L15.bN 0), (zf25 6), (eN (d + 1)), (eN (nx + 1)), (eN (ops + 1)), (eN i), (eN 0), (eN 0), (zf121 13)] ++ (zs zf25 14 15 ++ (zs zf121 29 83 ++ [(eN 0), (eN 0), (Value.bool false)] ++ (zs zf121 115 14)))) ?_
     refine wI (d_move rfl) ?_
     refine wpL.onis rfl rfl rfl (nb rfl) rfl (d_move rfl) ?_
     refine wpL.on rfl rfl rfl (nb rfl) rfl (d_call (xl := [.tmp 116]) (al := [(ptr L15.bN 0)]) Try.func25 (by kernel_rfl) rfl rfl rfl (nandDead_ok L15 s9 _ a16)) ?_
     rintro _ w122 ⟨rfl, o123⟩
     replace h1 := h1.step0 o123
     replace a16 := a16.step0 o123
     replace a116 := a116.step0 o123
     replace oW := oW.tail0 o123
     replace o26 := o26.tail0 o123
     refine wF ([(eN kk), u1, (zf25 2), (zf25 3), (zf121 4), (ptr L15.bN 0), (zf25 6), (eN (d + 1)), (eN (nx + 1)), (eN (ops + 1)), (eN i), (eN 0), (eN 0), (zf121 13)] ++ (zs zf25 14 15 ++ (zs zf121 29 83 ++ [(eN 0), (eN 0), (Value.bool false), (Value.bool false), (ptr L15.bN 0), (Value.bool s9.dead)] ++ (zs zf121 118 11)))) ?_
     refine wpL.onis rfl rfl rfl (nb rfl) rfl (d_move rfl) ?_
     refine wpL.onis rfl rfl rfl (nb rfl) rfl (d_move rfl) ?_
     refine wpL.onis rfl rfl rfl (nb rfl) rfl (n_eql (a := (d + 1)) (b := kk) rfl rfl (decide_eq_false c4)) ?_
     refine wF ([(eN kk), u1, (zf25 2), (zf25 3), (zf121 4), (ptr L15.bN 0), (zf25 6), (eN (d + 1)), (eN (nx + 1)), (eN (ops + 1)), (eN i), (eN 0), (eN 0), (zf121 13)] ++ (zs zf25 14 15 ++ (zs zf121 29 83 ++ [(eN 0), (eN 0), (Value.bool false), (Value.bool false), (ptr L15.bN 0), (Value.bool s9.dead), (eN (d + 1)), (eN kk), (Value.bool false)] ++ (zs zf121 121 8)))) ?_
     refine wpL.onis rfl rfl rfl (nb rfl) rfl (d_bneq (r := false) Try.underlying4 rfl rfl (by rw [stp_dead hI2]; first | rfl | (simp; done) | (simp [c1]; done) | (simp [c4]; done))) ?_
     refine wI (d_pick (b := false) (v := (Value.bool false)) rfl rfl) ?_
     refine wI (d_move rfl) ?_
     refine wF ([(eN kk), u1, (zf25 2), (zf25 3), (zf121 4), (ptr L15.bN 0), (zf25 6), (eN (d + 1)), (eN (nx + 1)), (eN (ops + 1)), (eN i), (eN 0), (eN 0), (zf121 13)] ++ (zs zf25 14 15 ++ (zs zf121 29 83 ++ [(eN 0), (eN 0), (Value.bool false), (Value.bool false), (ptr L15.bN 0), (Value.bool s9.dead), (eN (d + 1)), (eN kk), (Value.bool false), (Value.bool false), (Value.bool false), (Value.bool false)] ++ (zs zf121 124 5)))) ?_
     refine wpL.onis rfl rfl rfl (nb rfl) rfl (d_move rfl) ?_
     refine wpL.on rfl rfl rfl (nb rfl) rfl (d_call (xl := [.tmp 124]) (al := [(ptr L15.bN 0)]) Try.func19 (by kernel_rfl) rfl rfl rfl (nandOps_ok L15 s9 _ a16)) ?_
     rintro _ w124 ⟨rfl, o125⟩
     replace h1 := h1.step0 o125
     replace a16 := a16.step0 o125
     replace a116 := a116.step0 o125
     replace oW := oW.tail0 o125
     replace o26 := o26.tail0 o125
     refine wpL.onis rfl rfl rfl (nb rfl) rfl (d_move rfl) ?_
     refine wF ([(eN kk), u1, (zf25 2), (zf25 3), (zf121 4), (ptr L15.bN 0), (zf25 6), (eN (d + 1)), (eN (nx + 1)), (eN (ops + 1)), (eN i), (eN 0), (eN 0), (zf121 13)] ++ (zs zf25 14 15 ++ (zs zf121 29 83 ++ [(eN 0), (eN 0), (Value.bool false), (Value.bool false), (ptr L15.bN 0), (Value.bool s9.dead), (eN (d + 1)), (eN kk), (Value.bool false), (Value.bool false), (Value.bool false), (Value.bool false), (ptr L15.bN 0), (eI s9.ops), (eN (ops + 1)), (zf121 127), (zf121 128)]))) ?_
     refine wpL.onis rfl rfl rfl (nb rfl) rfl (d_neq (k := .i64) (m := s9.ops) (n := ((ops + 1 : Nat) : Int)) rfl rfl (by rw [decide_eq_true (stp_ops hI2)] <;> rfl)) ?_
     refine wI (d_pick (b := false) (v := (Value.bool false)) rfl rfl) ?_
     refine wF ([(eN kk), u1, (zf25 2), (zf25 3), (zf121 4), (ptr L15.bN 0), (zf25 6), (eN (d + 1)), (eN (nx + 1)), (eN (ops + 1)), (eN i), (eN 0), (eN 0), (zf121 13)] ++ (zs zf25 14 15 ++ (zs zf121 29 83 ++ [(eN 0), (eN 0), (Value.bool false), (Value.bool false), (ptr L15.bN 0), (Value.bool s9.dead), (eN (d + 1)), (eN kk), (Value.bool false), (Value.bool false), (Value.bool false), (Value.bool false), (ptr L15.bN 0), (eI s9.ops), (eN (ops + 1)), (Value.bool false), (Value.bool false)]))) ?_
     refine wpL.done ?_
     refine then_n ?_
     refine forget (fun zf126 => ([(eN kk), u1, (zf25 2), (zf25 3), (zf126 4), (ptr L15.bN 0), (zf25 6), (eN (d + 1)), (eN (nx + 1)), (eN (ops + 1)), (eN i), (zf126 11), (zf126 12), (zf126 13)] ++ (zs zf25 14 15 ++ (zs zf126 29 99 ++ [(Value.bool false)])))) (by kernel_rfl) (fun zf126 => ?_)
     refine cond_f rfl ?_
     refine wpIn_skip ?_
     refine inb_n (then_n ?_)
     refine plain ?_
     refine wI (d_move rfl) ?_
     refine wI (n_add (a := i) (b := 1) rfl rfl (by omega)) ?_
     refine wI (d_assign rfl) ?_
     refine wF ([(eN kk), u1, (zf25 2), (zf25 3), (zf126 4), (ptr L15.bN 0), (zf25 6), (eN (d + 1)), (eN (nx + 1)), (eN (ops + 1)), (eN (i + 1)), (zf126 11), (zf126 12), (zf126 13)] ++ (zs zf25 14 15 ++ (zs zf126 29 8 ++ [(eN i), (eN (i + 1))] ++ (zs zf126 39 89 ++ [(Value.bool false)])))) ?_
     refine wpL.done ?_
     refine then_n ?_
     refine ⟨_, ⟨i + 1, d + 1, nx + 1, ops + 1, s9⟩, rfl, rfl, ⟨?_, ?_, ?_, ?_, ?_, ?_, ?_⟩, ?_⟩
     ·
      (try dsimp only)
      all_goals (omega)
     ·
      (try dsimp only)
      all_goals (omega)
     ·
      (try dsimp only)
      all_goals (omega)
     ·
      (try dsimp only)
      all_goals (omega)
     ·
      exact hI2
     ·
      exact o26
     ·
      exact a16.less (xx_skip xx_id)
     ·
      (try dsimp only)
      all_goals (omega)
    omega
   refine plain ?_
   refine wI (n_eql (a := pv) (b := 1) rfl rfl rfl) ?_
   refine wI (d_assign rfl) ?_
   refine wF ([(eN kk), u1, (zf25 2), (zf25 3), (zf96 4), (ptr L15.bN 0), (zf25 6), (eN d), (eN nx), (eN ops), (eN i), (eN 0), (eN 0), (zf96 13)] ++ (zs zf25 14 15 ++ (zs zf96 29 17 ++ [(eN pv), (Value.bool (decide (pv = 1))), (zf96 48), (Value.bool (decide (pv = 1)))] ++ (zs zf96 50 79)))) ?_
   refine wpL.done ?_
   refine then_n ?_
   refine cond_if rfl (fun c127 => ?_) (fun c127 => ?_)
   ·
    refine wpIn_seq ?_
    refine wpIn_seq ?_
    refine plain ?_
    refine wI (d_move rfl) ?_
    refine wI (n_geq (a := nx) (b := 8) rfl rfl rfl) ?_
    refine wF ([(eN kk), u1, (zf25 2), (zf25 3), (zf96 4), (ptr L15.bN 0), (zf25 6), (eN d), (eN nx), (eN ops), (eN i), (eN 0), (eN 0), (zf96 13)] ++ (zs zf25 14 15 ++ (zs zf96 29 17 ++ [(eN pv), (Value.bool (decide (pv = 1))), (zf96 48), (Value.bool (decide (pv = 1))), (eN nx), (Value.bool (decide (8 ≤ nx)))] ++ (zs zf96 52 77)))) ?_
    refine wpL.done ?_
    refine then_n ?_
    refine cond_if rfl (fun c8 => ?_) (fun c8 => ?_)
    ·
     refine wpIn_exit ?_
     refine then_x (inb_x (by decide) (then_x (inb_e ?_)))
     refine then_n ?_
     refine plain ?_
     refine wI (d_move rfl) ?_
     refine wI (n_add (a := i) (b := 1) rfl rfl (by omega)) ?_
     refine wI (d_assign rfl) ?_
     refine wF ([(eN kk), u1, (zf25 2), (zf25 3), (zf96 4), (ptr L15.bN 0), (zf25 6), (eN d), (eN nx), (eN ops), (eN (i + 1)), (eN 0), (eN 0), (zf96 13)] ++ (zs zf25 14 15 ++ (zs zf96 29 8 ++ [(eN i), (eN (i + 1))] ++ (zs zf96 39 7 ++ [(eN pv), (Value.bool (decide (pv = 1))), (zf96 48), (Value.bool (decide (pv = 1))), (eN nx), (Value.bool (decide (8 ≤ nx)))] ++ (zs zf96 52 77))))) ?_
     refine wpL.done ?_
     refine then_n ?_
     refine ⟨_, ⟨i + 1, d, nx, ops, s⟩, rfl, rfl, ⟨?_, ?_, ?_, ?_, ?_, ?_, ?_⟩, ?_⟩
     ·
      (try dsimp only)
      all_goals (omega)
     ·
      (try dsimp only)
      all_goals (omega)
     ·
      (try dsimp only)
      all_goals (omega)
     ·
      (try dsimp only)
      all_goals (omega)
     ·
      exact hI
     ·
      exact o26
     ·
      exact a16
     ·
      (try dsimp only)
      all_goals (omega)
    refine wpIn_skip ?_
    refine then_n ?_
    refine wpIn_seq ?_
    refine wpIn_seq ?_
    refine plain ?_
    refine wI (d_move rfl) ?_
    refine wI (d_move rfl) ?_
    refine wI (n_lss (a := d) (b := kk) rfl rfl rfl) ?_
    refine wF ([(eN kk), u1, (zf25 2), (zf25 3), (zf96 4), (ptr L15.bN 0), (zf25 6), (eN d), (eN nx), (eN ops), (eN i), (eN 0), (eN 0), (zf96 13)] ++ (zs zf25 14 15 ++ (zs zf96 29 17 ++ [(eN pv), (Value.bool (decide (pv = 1))), (zf96 48), (Value.bool (decide (pv = 1))), (eN nx), (Value.bool (decide (8 ≤ nx))), (eN d), (eN kk), (Value.bool (decide (d < kk)))] ++ (zs zf96 55 74)))) ?_
    refine wpL.done ?_
    refine then_n ?_
    refine forget (fun zf128 => ([(eN kk), u1, (zf25 2), (zf25 3), (zf128 4), (ptr L15.bN 0), (zf25 6), (eN d), (eN nx), (eN ops), (eN i), (eN 0), (zf128 12), (zf128 13)] ++ (zs zf25 14 15 ++ (zs zf128 29 25 ++ [(Value.bool (decide (d < kk)))] ++ (zs zf128 55 74))))) (by kernel_rfl) (fun zf128 => ?_)
    refine cond_if rfl (fun c3 => ?_) (fun c3 => ?_)
    ·
     refine wpIn_seq ?_
     refine plain ?_
     refine wI (d_move rfl) ?_
     refine wI (n_add (a := d) (b := 1) rfl rfl (by omega)) ?_
     refine wI (d_assign rfl) ?_
     refine wF ([(eN kk), u1, (zf25 2), (zf25 3), (zf128 4), (ptr L15.bN 0), (zf25 6), (eN (d + 1)), (eN nx), (eN ops), (eN i), (eN 0), (zf128 12), (zf128 13)] ++ (zs zf25 14 15 ++ (zs zf128 29 25 ++ [(Value.bool (decide (d < kk))), (eN d), (eN (d + 1))] ++ (zs zf128 57 72)))) ?_
     refine wpL.done ?_
     refine then_n ?_
     refine wpIn_seq ?_
     refine plain ?_
     refine wI (d_move rfl) ?_
     refine wI (n_add (a := nx) (b := 1) rfl rfl (by omega)) ?_
     refine wI (d_assign rfl) ?_
     refine wF ([(eN kk), u1, (zf25 2), (zf25 3), (zf128 4), (ptr L15.bN 0), (zf25 6), (eN (d + 1)), (eN (nx + 1)), (eN ops), (eN i), (eN 0), (zf128 12), (zf128 13)] ++ (zs zf25 14 15 ++ (zs zf128 29 25 ++ [(Value.bool (decide (d < kk))), (eN d), (eN (d + 1)), (eN nx), (eN (nx + 1))] ++ (zs zf128 59 70)))) ?_
     refine wpL.done ?_
     refine then_n ?_
     refine wpIn_seq ?_
     refine plain ?_
     refine wI (d_move rfl) ?_
     refine wI (n_add (a := ops) (b := 1) rfl rfl (by omega)) ?_
     refine wI (d_assign rfl) ?_
     refine wF ([(eN kk), u1, (zf25 2), (zf25 3), (zf128 4), (ptr L15.bN 0), (zf25 6), (eN (d + 1)), (eN (nx + 1)), (eN (ops + 1)), (eN i), (eN 0), (zf128 12), (zf128 13)] ++ (zs zf25 14 15 ++ (zs zf128 29 25 ++ [(Value.bool (decide (d < kk))), (eN d), (eN (d + 1)), (eN nx), (eN (nx + 1)), (eN ops), (eN (ops + 1))] ++ (zs zf128 61 68)))) ?_
     refine wpL.done ?_
     refine then_n ?_
     refine wpIn_seq ?_
     refine plain ?_
     refine wI (d_move rfl) ?_
     refine wI (d_move rfl) ?_
     refine wI (n_eql (a := (d + 1)) (b := kk) rfl rfl rfl) ?_
     refine wF ([(eN kk), u1, (zf25 2), (zf25 3), (zf128 4), (ptr L15.bN 0), (zf25 6), (eN (d + 1)), (eN (nx + 1)), (eN (ops + 1)), (eN i), (eN 0), (zf128 12), (zf128 13)] ++ (zs zf25 14 15 ++ (zs zf128 29 25 ++ [(Value.bool (decide (d < kk))), (eN d), (eN (d + 1)), (eN nx), (eN (nx + 1)), (eN ops), (eN (ops + 1)), (eN (d + 1)), (eN kk), (Value.bool (decide ((d + 1) = kk)))] ++ (zs zf128 64 65)))) ?_
     refine wpL.done ?_
     refine then_n ?_
     refine forget (fun zf129 => ([(eN kk), u1, (zf25 2), (zf25 3), (zf129 4), (ptr L15.bN 0), (zf25 6), (eN (d + 1)), (eN (nx + 1)), (eN (ops + 1)), (eN i), (eN 0), (zf129 12), (zf129 13)] ++ (zs zf25 14 15 ++ (zs zf129 29 34 ++ [(Value.bool (decide ((d + 1) = kk)))] ++ (zs zf129 64 65))))) (by kernel_rfl) (fun zf129 => ?_)
     refine cond_if rfl (fun c4 => ?_) (fun c4 => ?_)
     ·
      refine plain ?_
      refine wI (d_assign rfl) ?_
      refine wF ([(eN kk), u1, (zf25 2), (zf25 3), (zf129 4), (ptr L15.bN 0), (zf25 6), (eN (d + 1)), (eN (nx + 1)), (eN (ops + 1)), (eN i), (eN 8), (zf129 12), (zf129 13)] ++ (zs zf25 14 15 ++ (zs zf129 29 34 ++ [(Value.bool (decide ((d + 1) = kk)))] ++ (zs zf129 64 65)))) ?_
      refine wpL.done ?_
      refine then_n ?_
      refine wpIn_seq ?_
      refine plain ?_
      refine wI (d_move rfl) ?_
      refine wI (d_sub (k := .i64) (m := ((nx + 1 : Nat) : Int)) (n := 1) rfl rfl (r := ((nx : Nat) : Int)) (by rw [IntWalk.i64_in _ (by omega)]; omega)) ?_
      refine wI (d_assign rfl) ?_
      refine wF ([(eN kk), u1, (zf25 2), (zf25 3), (zf129 4), (ptr L15.bN 0), (zf25 6), (eN (d + 1)), (eN (nx + 1)), (eN (ops + 1)), (eN i), (eN 8), (zf129 12), (eN nx)] ++ (zs zf25 14 15 ++ (zs zf129 29 34 ++ [(Value.bool (decide ((d + 1) = kk))), (eN (nx + 1)), (eN nx)] ++ (zs zf129 66 63)))) ?_
      refine wpL.done ?_
      refine then_n ?_
      refine wpIn_seq ?_
      refine wpIn_seq ?_
      refine plain ?_
      refine wI (d_move rfl) ?_
      refine wI (n_eql (a := 8) (b := 8) rfl rfl (decide_eq_true rfl)) ?_
      refine wI (d_move rfl) ?_
      refine wF ([(eN kk), u1, (zf25 2), (zf25 3), (zf129 4), (ptr L15.bN 0), (zf25 6), (eN (d + 1)), (eN (nx + 1)), (eN (ops + 1)), (eN i), (eN 8), (zf129 12), (eN nx)] ++ (zs zf25 14 15 ++ (zs zf129 29 34 ++ [(Value.bool (decide ((d + 1) = kk))), (eN (nx + 1)), (eN nx), (eN 8), (Value.bool true), (Value.bool true)] ++ (zs zf129 69 60)))) ?_
      refine wpL.onis rfl rfl rfl (nb rfl) rfl (d_move rfl) ?_
      refine wpL.onis rfl rfl rfl (nb rfl) rfl (d_move rfl) ?_
      refine wpL.onis rfl rfl rfl (nb rfl) rfl (n_lss (a := (d + 1)) (b := kk) rfl rfl (decide_eq_false (by omega))) ?_
      refine wF ([(eN kk), u1, (zf25 2), (zf25 3), (zf129 4), (ptr L15.bN 0), (zf25 6), (eN (d + 1)), (eN (nx + 1)), (eN (ops + 1)), (eN i), (eN 8), (zf129 12), (eN nx)] ++ (zs zf25 14 15 ++ (zs zf129 29 34 ++ [(Value.bool (decide ((d + 1) = kk))), (eN (nx + 1)), (eN nx), (eN 8), (Value.bool true), (Value.bool true), (eN (d + 1)), (eN kk), (Value.bool false)] ++ (zs zf129 72 57)))) ?_
      refine wI (d_pick (b := true) (v := (Value.bool false)) rfl rfl) ?_
      refine wF ([(eN kk), u1, (zf25 2), (zf25 3), (zf129 4), (ptr L15.bN 0), (zf25 6), (eN (d + 1)), (eN (nx + 1)), (eN (ops + 1)), (eN i), (eN 8), (zf129 12), (eN nx)] ++ (zs zf25 14 15 ++ (zs zf129 29 34 ++ [(Value.bool (decide ((d + 1) = kk))), (eN (nx + 1)), (eN nx), (eN 8), (Value.bool true), (Value.bool true), (eN (d + 1)), (eN kk), (Value.bool false), (Value.bool false)] ++ (zs zf129 73 56)))) ?_
      refine wpL.done ?_
      refine then_n ?_
      refine forget (fun zf130 => ([(eN kk), u1, (zf25 2), (zf25 3), (zf130 4), (ptr L15.bN 0), (zf25 6), (eN (d + 1)), (eN (nx + 1)), (eN (ops + 1)), (eN i), (eN 8), (zf130 12), (eN nx)] ++ (zs zf25 14 15 ++ (zs zf130 29 43 ++ [(Value.bool false)] ++ (zs zf130 73 56))))) (by kernel_rfl) (fun zf130 => ?_)
      refine cond_f rfl ?_
      refine wpIn_skip ?_
      refine then_n ?_
      refine plain ?_
      refine wI (d_move rfl) ?_
      refine wI (d_move rfl) ?_
      refine wI (n_max rfl rfl) ?_
      refine wF ([(eN kk), u1, (zf25 2), (zf25 3), (zf130 4), (ptr L15.bN 0), (zf25 6), (eN (d + 1)), (eN (nx + 1)), (eN (ops + 1)), (eN i), (eN 8), (zf130 12), (eN nx)] ++ (zs zf25 14 15 ++ (zs zf130 29 43 ++ [(Value.bool false), (zf130 73), (ptr L15.bN 0), (eN nx), (eN (max nx 0))] ++ (zs zf130 77 52)))) ?_
      refine wO (d_make1 (n := 60) Try.underlying36 s_ti5 rfl rfl (by omega) (by omega) rfl) ?_
      rintro _ w131 ⟨o, rfl, g132, a133, o134⟩
      replace a133 : Arr 5 o ((List.replicate 60 0).map eB) w131 := by rw [List.map_replicate]; exact a133
      have l_o : (List.replicate 60 0 : List UInt8).length = 60 := by simp
      have g_oW_o : W.heap.size ≤ o := Nat.le_trans oW.size g132
      have g_o26_o : w21.heap.size ≤ o := Nat.le_trans o26.size g132
      replace h1 := h1.new o134 g132
      replace a16 := a16.new o134 g132
      replace oW := oW.tail0 o134
      replace o26 := o26.tail0 o134
      refine wO (d_call (xl := [.tmp 74, .const (.int .i64 0), .const (.int .i64 0), .tmp 76, .tmp 77]) (al := [(ptr L15.bN 0), (eN 0), (eN 0), (eN (max nx 0)), (sli o 0 60 60)]) Try.func20 (by kernel_rfl) rfl rfl rfl (prog_ok L15 s _ a16 ((0 : Nat) : Int) ((0 : Nat) : Int) ((max nx 0 : Nat) : Int) (List.replicate 60 0) (sli o 0 60 60) (lt_or1 a133.lt lt_no) (arr_keep a133 l_o (Nat.le_refl _) (nx_ors (a16.dis _ in1) (fun _ _ t => t.elim))) (by have := rep_len 60 0; first | omega | (simp; done) | (simp; omega)))) ?_
      rintro _ w135 ⟨rfl, a137, o136⟩
      replace a133 := a133.step o136 (a16.dis _ in1)
      replace h1 := h1.step o136 (sub2 sub1)
      replace oW := oW.tail o136 (fun k hk e => by have := g_oW_L15 k e; omega)
      replace o26 := o26.tail o136 (fun k _ e => sub1 k e)
      replace a16 := a137
      refine wI (d_assign rfl) ?_
      refine wF ([(eN kk), u1, (zf25 2), (zf25 3), (zf130 4), (ptr L15.bN 0), (zf25 6), (eN (d + 1)), (eN (nx + 1)), (eN (ops + 1)), (eN i), (eN 8), (eN (s.progR ((0 : Nat) : Int) ((0 : Nat) : Int) ((max nx 0 : Nat) : Int) (List.replicate 60 0))), (eN nx)] ++ (zs zf25 14 15 ++ (zs zf130 29 43 ++ [(Value.bool false), (zf130 73), (ptr L15.bN 0), (eN nx), (eN (max nx 0)), (sli o 0 60 60), (eN (s.progR ((0 : Nat) : Int) ((0 : Nat) : Int) ((max nx 0 : Nat) : Int) (List.replicate 60 0)))] ++ (zs zf130 79 50)))) ?_
      refine wpL.done ?_
      refine inb_n (then_n ?_)
      refine wpIn_seq ?_
      have hI2 : StpI (s.prog ((0 : Nat) : Int) ((0 : Nat) : Int) ((max nx 0 : Nat) : Int) (List.replicate 60 0)) kk (d + 1) (nx + 1) (ops + 1) := (by rw [show max nx 0 = nx from by omega]; exact (stp_prog hI c3 hkk.2 (by omega) (by omega) List.length_replicate).2)
      have hf2 : s.progR ((0 : Nat) : Int) ((0 : Nat) : Int) ((max nx 0 : Nat) : Int) (List.replicate 60 0) = 8 := by rw [show max nx 0 = nx from by omega, (stp_prog hI c3 hkk.2 (by omega) (by omega) List.length_replicate).1, if_pos c4]
      refine wp_eq (l' := ([(eN kk), u1, (zf25 2), (zf25 3), (zf130 4), (ptr L15.bN 0), (zf25 6), (eN (d + 1)), (eN (nx + 1)), (eN (ops + 1)), (eN i), (eN 8), (eN 8), (eN nx)] ++ (zs zf25 14 15 ++ (zs zf130 29 43 ++ [(Value.bool false), (zf130 73), (ptr L15.bN 0), (eN nx), (eN (max nx 0)), (sli o 0 60 60), (eN (s.progR ((0 : Nat) : Int) ((0 : Nat) : Int) ((max nx 0 : Nat) : Int) (List.replicate 60 0)))] ++ (zs zf130 79 50))))) (show (([(eN kk), u1, (zf25 2), (zf25 3), (zf130 4), (ptr L15.bN 0), (zf25 6), (eN (d + 1)), (eN (nx + 1)), (eN (ops + 1)), (eN i), (eN 8), (eN (s.progR ((0 : Nat) : Int) ((0 : Nat) : Int) ((max nx 0 : Nat) : Int) (List.replicate 60 0))), (eN nx)] ++ (zs zf25 14 15 ++ (zs zf130 29 43 ++ [(Value.bool false), (zf130 73), (ptr L15.bN 0), (eN nx), (eN (max nx 0)), (sli o 0 60 60), (eN (s.progR ((0 : Nat) : Int) ((0 : Nat) : Int) ((max nx 0 : Nat) : Int) (List.replicate 60 0)))] ++ (zs zf130 79 50)))) : List Value) = ([(eN kk), u1, (zf25 2), (zf25 3), (zf130 4), (ptr L15.bN 0), (zf25 6), (eN (d + 1)), (eN (nx + 1)), (eN (ops + 1)), (eN i), (eN 8), (eN 8), (eN nx)] ++ (zs zf25 14 15 ++ (zs zf130 29 43 ++ [(Value.bool false), (zf130 73), (ptr L15.bN 0), (eN nx), (eN (max nx 0)), (sli o 0 60 60), (eN (s.progR ((0 : Nat) : Int) ((0 : Nat) : Int) ((max nx 0 : Nat) : Int) (List.replicate 60 0)))] ++ (zs zf130 79 50)))) from reslot ([(eN kk), u1, (zf25 2), (zf25 3), (zf130 4), (ptr L15.bN 0), (zf25 6), (eN (d + 1)), (eN (nx + 1)), (eN (ops + 1)), (eN i), (eN 8), (eN (s.progR ((0 : Nat) : Int) ((0 : Nat) : Int) ((max nx 0 : Nat) : Int) (List.replicate 60 0))), (eN nx)] ++ (zs zf25 14 15 ++ (zs zf130 29 43 ++ [(Value.bool false), (zf130 73), (ptr L15.bN 0), (eN nx), (eN (max nx 0)), (sli o 0 60 60), (eN (s.progR ((0 : Nat) : Int) ((0 : Nat) : Int) ((max nx 0 : Nat) : Int) (List.replicate 60 0)))] ++ (zs zf130 79 50)))) 12 (congrArg eN hf2)) ?_
      obtain ⟨s9, es9⟩ : ∃ s9, s.prog ((0 : Nat) : Int) ((0 : Nat) : Int) ((max nx 0 : Nat) : Int) (List.replicate 60 0) = s9 := ⟨_, rfl⟩
      rw [es9] at hI2
      replace a16 := nd_to a16 es9
      clear hf2 es9
      refine plain ?_
      refine wI (d_move rfl) ?_
      refine wI (d_move rfl) ?_
      refine wI (n_neq (a := 8) (b := 8) rfl rfl (by rw [decide_eq_true rfl] <;> rfl)) ?_
      refine wF ([(eN kk), u1, (zf25 2), (zf25 3), (zf130 4), (ptr L15.bN 0), (zf25 6), (eN (d + 1)), (eN (nx + 1)), (eN (ops + 1)), (eN i), (eN 8), (eN 8), (eN nx)] ++ (zs zf25 14 15 ++ (zs zf130 29 43 ++ [(Value.bool false), (zf130 73), (ptr L15.bN 0), (eN nx), (eN (max nx 0)), (sli o 0 60 60), (eN (s.progR ((0 : Nat) : Int) ((0 : Nat) : Int) ((max nx 0 : Nat) : Int) (List.replicate 60 0)))] ++ (zs zf130 79 33 ++ [(eN 8), (eN 8), (Value.bool false)] ++ (zs zf130 115 14))))) ?_
      refine wI (d_move rfl) ?_
      refine wpL.onis rfl rfl rfl (nb rfl) rfl (d_move rfl) ?_
      refine wpL.on rfl rfl rfl (nb rfl) rfl (d_call (xl := [.tmp 116]) (al := [(ptr L15.bN 0)]) Try.func25 (by kernel_rfl) rfl rfl rfl (nandDead_ok L15 s9 _ a16)) ?_
      rintro _ w138 ⟨rfl, o139⟩
      replace h1 := h1.step0 o139
      replace a16 := a16.step0 o139
      replace a133 := a133.step0 o139
      replace oW := oW.tail0 o139
      replace o26 := o26.tail0 o139
      refine wF ([(eN kk), u1, (zf25 2), (zf25 3), (zf130 4), (ptr L15.bN 0), (zf25 6), (eN (d + 1)), (eN (nx + 1)), (eN (ops + 1)), (eN i), (eN 8), (eN 8), (eN nx)] ++ (zs zf25 14 15 ++ (zs zf130 29 43 ++ [(Value.bool false), (zf130 73), (ptr L15.bN 0), (eN nx), (eN (max nx 0)), (sli o 0 60 60), (eN (s.progR ((0 : Nat) : Int) ((0 : Nat) : Int) ((max nx 0 : Nat) : Int) (List.replicate 60 0)))] ++ (zs zf130 79 33 ++ [(eN 8), (eN 8), (Value.bool false), (Value.bool false), (ptr L15.bN 0), (Value.bool s9.dead)] ++ (zs zf130 118 11))))) ?_
      refine wpL.onis rfl rfl rfl (nb rfl) rfl (d_move rfl) ?_
      refine wpL.onis rfl rfl rfl (nb rfl) rfl (d_move rfl) ?_
      refine wpL.onis rfl rfl rfl (nb rfl) rfl (n_eql (a := (d + 1)) (b := kk) rfl rfl (decide_eq_true c4)) ?_
      refine wF ([(eN kk), u1, (zf25 2), (zf25 3), (zf130 4), (ptr L15.bN 0), (zf25 6), (eN (d + 1)), (eN (nx + 1)), (eN (ops + 1)), (eN i), (eN 8), (eN 8), (eN nx)] ++ (zs zf25 14 15 ++ (zs zf130 29 43 ++ [(Value.bool false), (zf130 73), (ptr L15.bN 0), (eN nx), (eN (max nx 0)), (sli o 0 60 60), (eN (s.progR ((0 : Nat) : Int) ((0 : Nat) : Int) ((max nx 0 : Nat) : Int) (List.replicate 60 0)))] ++ (zs zf130 79 33 ++ [(eN 8), (eN 8), (Value.bool false), (Value.bool false), (ptr L15.bN 0), (Value.bool s9.dead), (eN (d + 1)), (eN kk), (Value.bool true)] ++ (zs zf130 121 8))))) ?_
      refine wpL.onis rfl rfl rfl (nb rfl) rfl (d_bneq (r := false) Try.underlying4 rfl rfl (by rw [stp_dead hI2]; first | rfl | (simp; done) | (simp [c1]; done) | (simp [c4]; done))) ?_
      refine wI (d_pick (b := false) (v := (Value.bool false)) rfl rfl) ?_
      refine wI (d_move rfl) ?_
      refine wF ([(eN kk), u1, (zf25 2), (zf25 3), (zf130 4), (ptr L15.bN 0), (zf25 6), (eN (d + 1)), (eN (nx + 1)), (eN (ops + 1)), (eN i), (eN 8), (eN 8), (eN nx)] ++ (zs zf25 14 15 ++ (zs zf130 29 43 ++ [(Value.bool false), (zf130 73), (ptr L15.bN 0), (eN nx), (eN (max nx 0)), (sli o 0 60 60), (eN (s.progR ((0 : Nat) : Int) ((0 : Nat) : Int) ((max nx 0 : Nat) : Int) (List.replicate 60 0)))] ++ (zs zf130 79 33 ++ [(eN 8), (eN 8), (Value.bool false), (Value.bool false), (ptr L15.bN 0), (Value.bool s9.dead), (eN (d + 1)), (eN kk), (Value.bool true), (Value.bool false), (Value.bool false), (Value.bool false)] ++ (zs zf130 124 5))))) ?_
      refine wpL.onis rfl rfl rfl (nb rfl) rfl (d_move rfl) ?_
      refine wpL.on rfl rfl rfl (nb rfl) rfl (d_call (xl := [.tmp 124]) (al := [(ptr L15.bN 0)]) Try.func19 (by kernel_rfl) rfl rfl rfl (nandOps_ok L15 s9 _ a16)) ?_
      rintro _ w140 ⟨rfl, o141⟩
      replace h1 := h1.step0 o141
      replace a16 := a16.step0 o141
      replace a133 := a133.step0 o141
      replace oW := oW.tail0 o141
      replace o26 := o26.tail0 o141
      refine wpL.onis rfl rfl rfl (nb rfl) rfl (d_move rfl) ?_
      refine wF ([(eN kk), u1, (zf25 2), (zf25 3), (zf130 4), (ptr L15.bN 0), (zf25 6), (eN (d + 1)), (eN (nx + 1)), (eN (ops + 1)), (eN i), (eN 8), (eN 8), (eN nx)] ++ (zs zf25 14 15 ++ (zs zf130 29 43 ++ [(Value.bool false), (zf130 73), (ptr L15.bN 0), (eN nx), (eN (max nx 0)), (sli o 0 60 60), (eN (s.progR ((0 : Nat) : Int) ((0 : Nat) : Int) ((max nx 0 : Nat) : Int) (List.replicate 60 0)))] ++ (zs zf130 79 33 ++ [(eN 8), (eN 8), (Value.bool false), (Value.bool false), (ptr L15.bN 0), (Value.bool s9.dead), (eN (d + 1)), (eN kk), (Value.bool true), (Value.bool false), (Value.bool false), (Value.bool false), (ptr L15.bN 0), (eI s9.ops), (eN (ops + 1)), (zf130 127), (zf130 128)])))) ?_
      refine wpL.onis rfl rfl rfl (nb rfl) rfl (d_neq (k := .i64) (m := s9.ops) (n := ((ops + 1 : Nat) : Int)) rfl rfl (by rw [decide_eq_true (stp_ops hI2)] <;> rfl)) ?_
      refine wI (d_pick (b := false) (v := (Value.bool false)) rfl rfl) ?_
      refine wF ([(eN kk), u1, (zf25 2), (zf25 3), (zf130 4), (ptr L15.bN 0), (zf25 6), (eN (d + 1)), (eN (nx + 1)), (eN (ops + 1)), (eN i), (eN 8), (eN 8), (eN nx)] ++ (zs zf25 14 15 ++ (zs zf130 29 43 ++ [(Value.bool false), (zf130 73), (ptr L15.bN 0), (eN nx), (eN (max nx 0)), (sli o 0 60 60), (eN (s.progR ((0 : Nat) : Int) ((0 : Nat) : Int) ((max nx 0 : Nat) : Int) (List.replicate 60 0)))] ++ (zs zf130 79 33 ++ [(eN 8), (eN 8), (Value.bool false), (Value.bool false), (ptr L15.bN 0), (Value.bool s9.dead), (eN (d + 1)), (eN kk), (Value.bool true), (Value.bool false), (Value.bool false), (Value.bool false), (ptr L15.bN 0), (eI s9.ops), (eN (ops + 1)), (Value.bool false), (Value.bool false)])))) ?_
      refine wpL.done ?_
      refine then_n ?_
      refine forget (fun zf142 => ([(eN kk), u1, (zf25 2), (zf25 3), (zf142 4), (ptr L15.bN 0), (zf25 6), (eN (d + 1)), (eN (nx + 1)), (eN (ops + 1)), (eN i), (zf142 11), (zf142 12), (zf142 13)] ++ (zs zf25 14 15 ++ (zs zf142 29 99 ++ [(Value.bool false)])))) (by kernel_rfl) (fun zf142 => ?_)
      refine cond_f rfl ?_
      refine wpIn_skip ?_
      refine inb_n (then_n ?_)
      refine plain ?_
      refine wI (d_move rfl) ?_
      refine wI (n_add (a := i) (b := 1) rfl rfl (by omega)) ?_
      refine wI (d_assign rfl) ?_
      refine wF ([(eN kk), u1, (zf25 2), (zf25 3), (zf142 4), (ptr L15.bN 0), (zf25 6), (eN (d + 1)), (eN (nx + 1)), (eN (ops + 1)), (eN (i + 1)), (zf142 11), (zf142 12), (zf142 13)] ++ (zs zf25 14 15 ++ (zs zf142 29 8 ++ [(eN i), (eN (i + 1))] ++ (zs zf142 39 89 ++ [(Value.bool false)])))) ?_
      refine wpL.done ?_
      refine then_n ?_
      refine ⟨_, ⟨i + 1, d + 1, nx + 1, ops + 1, s9⟩, rfl, rfl, ⟨?_, ?_, ?_, ?_, ?_, ?_, ?_⟩, ?_⟩
      ·
       (try dsimp only)
       all_goals (omega)
      ·
       (try dsimp only)
       all_goals (omega)
      ·
       (try dsimp only)
       all_goals (omega)
      ·
       (try dsimp only)
       all_goals (omega)
      ·
       exact hI2
      ·
       exact o26
      ·
       exact a16.less (xx_skip xx_id)
      ·
       (try dsimp only)
       all_goals (omega)
     refine wpIn_skip ?_
     refine then_n ?_
     refine wpIn_seq ?_
     refine plain ?_
     refine wI (d_move rfl) ?_
     refine wI (d_sub (k := .i64) (m := ((nx + 1 : Nat) : Int)) (n := 1) rfl rfl (r := ((nx : Nat) : Int)) (by rw [IntWalk.i64_in _ (by omega)]; omega)) ?_
     refine wI (d_assign rfl) ?_
     refine wF ([(eN kk), u1, (zf25 2), (zf25 3), (zf129 4), (ptr L15.bN 0), (zf25 6), (eN (d + 1)), (eN (nx + 1)), (eN (ops + 1)), (eN i), (eN 0), (zf129 12), (eN nx)] ++ (zs zf25 14 15 ++ (zs zf129 29 34 ++ [(Value.bool (decide ((d + 1) = kk))), (eN (nx + 1)), (eN nx)] ++ (zs zf129 66 63)))) ?_
     refine wpL.done ?_
     refine then_n ?_
     refine wpIn_seq ?_
     refine wpIn_seq ?_
     refine plain ?_
     refine wI (d_move rfl) ?_
     refine wI (n_eql (a := 0) (b := 8) rfl rfl (decide_eq_false (by decide))) ?_
     refine wI (d_move rfl) ?_
     refine wF ([(eN kk), u1, (zf25 2), (zf25 3), (zf129 4), (ptr L15.bN 0), (zf25 6), (eN (d + 1)), (eN (nx + 1)), (eN (ops + 1)), (eN i), (eN 0), (zf129 12), (eN nx)] ++ (zs zf25 14 15 ++ (zs zf129 29 34 ++ [(Value.bool (decide ((d + 1) = kk))), (eN (nx + 1)), (eN nx), (eN 0), (Value.bool false), (Value.bool false)] ++ (zs zf129 69 60)))) ?_
     refine wpL.off rfl rfl rfl (nb rfl) rfl ?_
     refine wpL.off rfl rfl rfl (nb rfl) rfl ?_
     refine wF ([(eN kk), u1, (zf25 2), (zf25 3), (zf129 4), (ptr L15.bN 0), (zf25 6), (eN (d + 1)), (eN (nx + 1)), (eN (ops + 1)), (eN i), (eN 0), (zf129 12), (eN nx)] ++ (zs zf25 14 15 ++ (zs zf129 29 34 ++ [(Value.bool (decide ((d + 1) = kk))), (eN (nx + 1)), (eN nx), (eN 0), (Value.bool false), (Value.bool false), undef, undef] ++ (zs zf129 71 58)))) ?_
     refine wpL.off rfl rfl rfl (nb rfl) rfl ?_
     refine wI (d_pick (b := false) (v := (Value.bool false)) rfl rfl) ?_
     refine wF ([(eN kk), u1, (zf25 2), (zf25 3), (zf129 4), (ptr L15.bN 0), (zf25 6), (eN (d + 1)), (eN (nx + 1)), (eN (ops + 1)), (eN i), (eN 0), (zf129 12), (eN nx)] ++ (zs zf25 14 15 ++ (zs zf129 29 34 ++ [(Value.bool (decide ((d + 1) = kk))), (eN (nx + 1)), (eN nx), (eN 0), (Value.bool false), (Value.bool false), undef, undef, undef, (Value.bool false)] ++ (zs zf129 73 56)))) ?_
     refine wpL.done ?_
     refine then_n ?_
     refine cond_f rfl ?_
     refine wpIn_skip ?_
     refine then_n ?_
     refine plain ?_
     refine wI (d_move rfl) ?_
     refine wI (d_move rfl) ?_
     refine wI (n_max rfl rfl) ?_
     refine wF ([(eN kk), u1, (zf25 2), (zf25 3), (zf129 4), (ptr L15.bN 0), (zf25 6), (eN (d + 1)), (eN (nx + 1)), (eN (ops + 1)), (eN i), (eN 0), (zf129 12), (eN nx)] ++ (zs zf25 14 15 ++ (zs zf129 29 34 ++ [(Value.bool (decide ((d + 1) = kk))), (eN (nx + 1)), (eN nx), (eN 0), (Value.bool false), (Value.bool false), undef, undef, undef, (Value.bool false), (zf129 73), (ptr L15.bN 0), (eN nx), (eN (max nx 0))] ++ (zs zf129 77 52)))) ?_
     refine wO (d_make1 (n := 60) Try.underlying36 s_ti5 rfl rfl (by omega) (by omega) rfl) ?_
     rintro _ w143 ⟨o, rfl, g144, a145, o146⟩
     replace a145 : Arr 5 o ((List.replicate 60 0).map eB) w143 := by rw [List.map_replicate]; exact a145
     have l_o : (List.replicate 60 0 : List UInt8).length = 60 := by simp
     have g_oW_o : W.heap.size ≤ o := Nat.le_trans oW.size g144
     have g_o26_o : w21.heap.size ≤ o := Nat.le_trans o26.size g144
     replace h1 := h1.new o146 g144
     replace a16 := a16.new o146 g144
     replace oW := oW.tail0 o146
     replace o26 := o26.tail0 o146
     refine wO (d_call (xl := [.tmp 74, .const (.int .i64 0), .const (.int .i64 0), .tmp 76, .tmp 77]) (al := [(ptr L15.bN 0), (eN 0), (eN 0), (eN (max nx 0)), (sli o 0 60 60)]) Try.func20 (by kernel_rfl) rfl rfl rfl (prog_ok L15 s _ a16 ((0 : Nat) : Int) ((0 : Nat) : Int) ((max nx 0 : Nat) : Int) (List.replicate 60 0) (sli o 0 60 60) (lt_or1 a145.lt lt_no) (arr_keep a145 l_o (Nat.le_refl _) (nx_ors (a16.dis _ in1) (fun _ _ t => t.elim))) (by have := rep_len 60 0; first | omega | (simp; done) | (simp; omega)))) ?_
     rintro _ w147 ⟨rfl, a149, o148⟩
     replace a145 := a145.step o148 (a16.dis _ in1)
     replace h1 := h1.step o148 (sub2 sub1)
     replace oW := oW.tail o148 (fun k hk e => by have := g_oW_L15 k e; omega)
     replace o26 := o26.tail o148 (fun k _ e => sub1 k e)
     replace a16 := a149
     refine wI (d_assign rfl) ?_
     refine wF ([(eN kk), u1, (zf25 2), (zf25 3), (zf129 4), (ptr L15.bN 0), (zf25 6), (eN (d + 1)), (eN (nx + 1)), (eN (ops + 1)), (eN i), (eN 0), (eN (s.progR ((0 : Nat) : Int) ((0 : Nat) : Int) ((max nx 0 : Nat) : Int) (List.replicate 60 0))), (eN nx)] ++ (zs zf25 14 15 ++ (zs zf129 29 34 ++ [(Value.bool (decide ((d + 1) = kk))), (eN (nx + 1)), (eN nx), (eN 0), (Value.bool false), (Value.bool false), undef, undef, undef, (Value.bool false), (zf129 73), (ptr L15.bN 0), (eN nx), (eN (max nx 0)), (sli o 0 60 60), (eN (s.progR ((0 : Nat) : Int) ((0 : Nat) : Int) ((max nx 0 : Nat) : Int) (List.replicate 60 0)))] ++ (zs zf129 79 50)))) ?_
     refine wpL.done ?_
     refine inb_n (then_n ?_)
     refine forget (fun zf150 => ([(eN kk), u1, (zf25 2), (zf25 3), (zf150 4), (ptr L15.bN 0), (zf25 6), (eN (d + 1)), (eN (nx + 1)), (eN (ops + 1)), (eN i), (eN 0), (eN (s.progR ((0 : Nat) : Int) ((0 : Nat) : Int) ((max nx 0 : Nat) : Int) (List.replicate 60 0))), (zf150 13)] ++ (zs zf25 14 15 ++ (zs zf150 29 100)))) (by kernel_rfl) (fun zf150 => ?_)
     refine wpIn_seq ?_
     have hI2 : StpI (s.prog ((0 : Nat) : Int) ((0 : Nat) : Int) ((max nx 0 : Nat) : Int) (List.replicate 60 0)) kk (d + 1) (nx + 1) (ops + 1) := (by rw [show max nx 0 = nx from by omega]; exact (stp_prog hI c3 hkk.2 (by omega) (by omega) List.length_replicate).2)
     have hf2 : s.progR ((0 : Nat) : Int) ((0 : Nat) : Int) ((max nx 0 : Nat) : Int) (List.replicate 60 0) = 0 := by rw [show max nx 0 = nx from by omega, (stp_prog hI c3 hkk.2 (by omega) (by omega) List.length_replicate).1, if_neg c4]
     refine wp_eq (l' := ([(eN kk), u1, (zf25 2), (zf25 3), (zf150 4), (ptr L15.bN 0), (zf25 6), (eN (d + 1)), (eN (nx + 1)), (eN (ops + 1)), (eN i), (eN 0), (eN 0), (zf150 13)] ++ (zs zf25 14 15 ++ (zs zf150 29 100)))) (show (([(eN kk), u1, (zf25 2), (zf25 3), (zf150 4), (ptr L15.bN 0), (zf25 6), (eN (d + 1)), (eN (nx + 1)), (eN (ops + 1)), (eN i), (eN 0), (eN (s.progR ((0 : Nat) : Int) ((0 : Nat) : Int) ((max nx 0 : Nat) : Int) (List.replicate 60 0))), (zf150 13)] ++ (zs zf25 14 15 ++ (zs zf150 29 100))) : List Value) = ([(eN kk), u1, (zf25 2), (zf25 3), (zf150 4), (ptr L15.bN 0), (zf25 6), (eN (d + 1)), (eN (nx + 1)), (eN (ops + 1)), (eN i), (eN 0), (eN 0), (zf150 13)] ++ (zs zf25 14 15 ++ (zs zf150 29 100))) from reslot ([(eN kk), u1, (zf25 2), (zf25 3), (zf150 4), (ptr L15.bN 0), (zf25 6), (eN (d + 1)), (eN (nx + 1)), (eN (ops + 1)), (eN i), (eN 0), (eN (s.progR ((0 : Nat) : Int) ((0 : Nat) : Int) ((max nx 0 : Nat) : Int) (List.replicate 60 0))), (zf150 13)] ++ (zs zf25 14 15 ++ (zs zf150 29 100))) 12 (congrArg eN hf2)) ?_
     obtain ⟨s9, es9⟩ : ∃ s9, s.prog ((0 : Nat) : Int) ((0 : Nat) : Int) ((max nx 0 : Nat) : Int) (List.replicate 60 0) = s9 := ⟨_, rfl⟩
     rw [es9] at hI2
     replace a16 := nd_to a16 es9
     clear hf2 es9
     refine plain ?_
     refine wI (d_move rfl) ?_
     refine wI (d_move rfl) ?_
     refine wI (n_neq (a := 0) (b := 0) rfl rfl (by rw [decide_eq_true rfl] <;> rfl)) ?_
     refine wF ([(eN kk), u1, (zf25 2), (zf25 3), (zf150 4), (ptr L15.bN 0), (zf25 6), (eN (d + 1)), (eN (nx + 1)), (eN (ops + 1)), (eN i), (eN 0), (eN 0), (zf150 13)] ++ (zs zf25 14 15 ++ (zs zf150 29 83 ++ [(eN 0), (eN 0), (Value.bool false)] ++ (zs zf150 115 14)))) ?_
     refine wI (d_move rfl) ?_
     refine wpL.onis rfl rfl rfl (nb rfl) rfl (d_move rfl) ?_
     refine wpL.on rfl rfl rfl (nb rfl) rfl (d_call (xl := [.tmp 116]) (al := [(ptr L15.bN 0)]) Try.func25 (by kernel_rfl) rfl rfl rfl (nandDead_ok L15 s9 _ a16)) ?_
     rintro _ w151 ⟨rfl, o152⟩
     replace h1 := h1.step0 o152
     replace a16 := a16.step0 o152
     replace a145 := a145.step0 o152
     replace oW := oW.tail0 o152
     replace o26 := o26.tail0 o152
     refine wF ([(eN kk), u1, (zf25 2), (zf25 3), (zf150 4), (ptr L15.bN 0), (zf25 6), (eN (d + 1)), (eN (nx + 1)), (eN (ops + 1)), (eN i), (eN 0), (eN 0), (zf150 13)] ++ (zs zf25 14 15 ++ (zs zf150 29 83 ++ [(eN 0), (eN 0), (Value.bool false), (Value.bool false), (ptr L15.bN 0), (Value.bool s9.dead)] ++ (zs zf150 118 11)))) ?_
     refine wpL.onis rfl rfl rfl (nb rfl) rfl (d_move rfl) ?_
     refine wpL.onis rfl rfl rfl (nb rfl) rfl (d_move rfl) ?_
     refine wpL.onis rfl rfl rfl (nb rfl) rfl (n_eql (a := (d + 1)) (b := kk) rfl rfl (decide_eq_false c4)) ?_
     refine wF ([(eN kk), u1, (zf25 2), (zf25 3), (zf150 4), (ptr L15.bN 0), (zf25 6), (eN (d + 1)), (eN (nx + 1)), (eN (ops + 1)), (eN i), (eN 0), (eN 0), (zf150 13)] ++ (zs zf25 14 15 ++ (zs zf150 29 83 ++ [(eN 0), (eN 0), (Value.bool false), (Value.bool false), (ptr L15.bN 0), (Value.bool s9.dead), (eN (d + 1)), (eN kk), (Value.bool false)] ++ (zs zf150 121 8)))) ?_
     refine wpL.onis rfl rfl rfl (nb rfl) rfl (d_bneq (r := false) Try.underlying4 rfl rfl (by rw [stp_dead hI2]; first | rfl | (simp; done) | (simp [c1]; done) | (simp [c4]; done))) ?_
     refine wI (d_pick (b := false) (v := (Value.bool false)) rfl rfl) ?_
     refine wI (d_move rfl) ?_
     refine wF ([(eN kk), u1, (zf25 2), (zf25 3), (zf150 4), (ptr L15.bN 0), (zf25 6), (eN (d + 1)), (eN (nx + 1)), (eN (ops + 1)), (eN i), (eN 0), (eN 0), (zf150 13)] ++ (zs zf25 14 15 ++ (zs zf150 29 83 ++ [(eN 0), (eN 0), (Value.bool false), (Value.bool false), (ptr L15.bN 0), (Value.bool s9.dead), (eN (d + 1)), (eN kk), (Value.bool false), (Value.bool false), (Value.bool false), (Value.bool false)] ++ (zs zf150 124 5)))) ?_
     refine wpL.onis rfl rfl rfl (nb rfl) rfl (d_move rfl) ?_
     refine wpL.on rfl rfl rfl (nb rfl) rfl (d_call (xl := [.tmp 124]) (al := [(ptr L15.bN 0)]) Try.func19 (by kernel_rfl) rfl rfl rfl (nandOps_ok L15 s9 _ a16)) ?_
     rintro _ w153 ⟨rfl, o154⟩
     replace h1 := h1.step0 o154
     replace a16 := a16.step0 o154
     replace a145 := a145.step0 o154
     replace oW := oW.tail0 o154
     replace o26 := o26.tail0 o154
     refine wpL.onis rfl rfl rfl (nb rfl) rfl (d_move rfl) ?_
     refine wF ([(eN kk), u1, (zf25 2), (zf25 3), (zf150 4), (ptr L15.bN 0), (zf25 6), (eN (d + 1)), (eN (nx + 1)), (eN (ops + 1)), (eN i), (eN 0), (eN 0), (zf150 13)] ++ (zs zf25 14 15 ++ (zs zf150 29 83 ++ [(eN 0), (eN 0), (Value.bool false), (Value.bool false), (ptr L15.bN 0), (Value.bool s9.dead), (eN (d + 1)), (eN kk), (Value.bool false), (Value.bool false), (Value.bool false), (Value.bool false), (ptr L15.bN 0), (eI s9.ops), (eN (ops + 1)), (zf150 127), (zf150 128)]))) ?_
     refine wpL.onis rfl rfl rfl (nb rfl) rfl (d_neq (k := .i64) (m := s9.ops) (n := ((ops + 1 : Nat) : Int)) rfl rfl (by rw [decide_eq_true (stp_ops hI2)] <;> rfl)) ?_
     refine wI (d_pick (b := false) (v := (Value.bool false)) rfl rfl) ?_
     refine wF ([(eN kk), u1, (zf25 2), (zf25 3), (zf150 4), (ptr L15.bN 0), (zf25 6), (eN (d + 1)), (eN (nx + 1)), (eN (ops + 1)), (eN i), (eN 0), (eN 0), (zf150 13)] ++ (zs zf25 14 15 ++ (zs zf150 29 83 ++ [(eN 0), (eN 0), (Value.bool false), (Value.bool false), (ptr L15.bN 0), (Value.bool s9.dead), (eN (d + 1)), (eN kk), (Value.bool false), (Value.bool false), (Value.bool false), (Value.bool false), (ptr L15.bN 0), (eI s9.ops), (eN (ops + 1)), (Value.bool false), (Value.bool false)]))) ?_
     refine wpL.done ?_
     refine then_n ?_
     refine forget (fun zf155 => ([(eN kk), u1, (zf25 2), (zf25 3), (zf155 4), (ptr L15.bN 0), (zf25 6), (eN (d + 1)), (eN (nx + 1)), (eN (ops + 1)), (eN i), (zf155 11), (zf155 12), (zf155 13)] ++ (zs zf25 14 15 ++ (zs zf155 29 99 ++ [(Value.bool false)])))) (by kernel_rfl) (fun zf155 => ?_)
     refine cond_f rfl ?_
     refine wpIn_skip ?_
     refine inb_n (then_n ?_)
     refine plain ?_
     refine wI (d_move rfl) ?_
     refine wI (n_add (a := i) (b := 1) rfl rfl (by omega)) ?_
     refine wI (d_assign rfl) ?_
     refine wF ([(eN kk), u1, (zf25 2), (zf25 3), (zf155 4), (ptr L15.bN 0), (zf25 6), (eN (d + 1)), (eN (nx + 1)), (eN (ops + 1)), (eN (i + 1)), (zf155 11), (zf155 12), (zf155 13)] ++ (zs zf25 14 15 ++ (zs zf155 29 8 ++ [(eN i), (eN (i + 1))] ++ (zs zf155 39 89 ++ [(Value.bool false)])))) ?_
     refine wpL.done ?_
     refine then_n ?_
     refine ⟨_, ⟨i + 1, d + 1, nx + 1, ops + 1, s9⟩, rfl, rfl, ⟨?_, ?_, ?_, ?_, ?_, ?_, ?_⟩, ?_⟩
     ·
      (try dsimp only)
      all_goals (omega)
     ·
      (try dsimp only)
      all_goals (omega)
     ·
      (try dsimp only)
      all_goals (omega)
     ·
      (try dsimp only)
      all_goals (omega)
     ·
      exact hI2
     ·
      exact o26
     ·
      exact a16.less (xx_skip xx_id)
     ·
      (try dsimp only)
      all_goals (omega)
    omega
   refine wpIn_seq ?_
   refine plain ?_
   refine wI (n_eql (a := pv) (b := 2) rfl rfl rfl) ?_
   refine wI (d_assign rfl) ?_
   refine wF ([(eN kk), u1, (zf25 2), (zf25 3), (zf96 4), (ptr L15.bN 0), (zf25 6), (eN d), (eN nx), (eN ops), (eN i), (eN 0), (eN 0), (zf96 13)] ++ (zs zf25 14 15 ++ (zs zf96 29 17 ++ [(eN pv), (Value.bool (decide (pv = 1))), (zf96 48), (Value.bool (decide (pv = 1)))] ++ (zs zf96 50 29 ++ [(Value.bool (decide (pv = 2))), (Value.bool (decide (pv = 2)))] ++ (zs zf96 81 48))))) ?_
   refine wpL.done ?_
   refine then_n ?_
   refine cond_if rfl (fun c156 => ?_) (fun c156 => ?_)
   ·
    refine wpIn_seq ?_
    refine wpIn_seq ?_
    refine plain ?_
    refine wI (d_move rfl) ?_
    refine wI (d_move rfl) ?_
    refine wI (n_lss (a := d) (b := kk) rfl rfl rfl) ?_
    refine wF ([(eN kk), u1, (zf25 2), (zf25 3), (zf96 4), (ptr L15.bN 0), (zf25 6), (eN d), (eN nx), (eN ops), (eN i), (eN 0), (eN 0), (zf96 13)] ++ (zs zf25 14 15 ++ (zs zf96 29 17 ++ [(eN pv), (Value.bool (decide (pv = 1))), (zf96 48), (Value.bool (decide (pv = 1)))] ++ (zs zf96 50 29 ++ [(Value.bool (decide (pv = 2))), (Value.bool (decide (pv = 2))), (eN d), (eN kk), (Value.bool (decide (d < kk)))] ++ (zs zf96 84 45))))) ?_
    refine wpL.done ?_
    refine then_n ?_
    refine forget (fun zf157 => ([(eN kk), u1, (zf25 2), (zf25 3), (zf157 4), (ptr L15.bN 0), (zf25 6), (eN d), (eN nx), (eN ops), (eN i), (eN 0), (zf157 12), (zf157 13)] ++ (zs zf25 14 15 ++ (zs zf157 29 54 ++ [(Value.bool (decide (d < kk)))] ++ (zs zf157 84 45))))) (by kernel_rfl) (fun zf157 => ?_)
    refine cond_if rfl (fun c3 => ?_) (fun c3 => ?_)
    ·
     refine wpIn_seq ?_
     refine plain ?_
     refine wI (d_move rfl) ?_
     refine wI (n_add (a := d) (b := 1) rfl rfl (by omega)) ?_
     refine wI (d_assign rfl) ?_
     refine wF ([(eN kk), u1, (zf25 2), (zf25 3), (zf157 4), (ptr L15.bN 0), (zf25 6), (eN (d + 1)), (eN nx), (eN ops), (eN i), (eN 0), (zf157 12), (zf157 13)] ++ (zs zf25 14 15 ++ (zs zf157 29 54 ++ [(Value.bool (decide (d < kk))), (eN d), (eN (d + 1))] ++ (zs zf157 86 43)))) ?_
     refine wpL.done ?_
     refine then_n ?_
     refine wpIn_seq ?_
     refine plain ?_
     refine wI (d_move rfl) ?_
     refine wI (n_add (a := ops) (b := 1) rfl rfl (by omega)) ?_
     refine wI (d_assign rfl) ?_
     refine wF ([(eN kk), u1, (zf25 2), (zf25 3), (zf157 4), (ptr L15.bN 0), (zf25 6), (eN (d + 1)), (eN nx), (eN (ops + 1)), (eN i), (eN 0), (zf157 12), (zf157 13)] ++ (zs zf25 14 15 ++ (zs zf157 29 54 ++ [(Value.bool (decide (d < kk))), (eN d), (eN (d + 1)), (eN ops), (eN (ops + 1))] ++ (zs zf157 88 41)))) ?_
     refine wpL.done ?_
     refine then_n ?_
     refine wpIn_seq ?_
     refine plain ?_
     refine wI (d_move rfl) ?_
     refine wI (d_move rfl) ?_
     refine wI (n_eql (a := (d + 1)) (b := kk) rfl rfl rfl) ?_
     refine wF ([(eN kk), u1, (zf25 2), (zf25 3), (zf157 4), (ptr L15.bN 0), (zf25 6), (eN (d + 1)), (eN nx), (eN (ops + 1)), (eN i), (eN 0), (zf157 12), (zf157 13)] ++ (zs zf25 14 15 ++ (zs zf157 29 54 ++ [(Value.bool (decide (d < kk))), (eN d), (eN (d + 1)), (eN ops), (eN (ops + 1)), (eN (d + 1)), (eN kk), (Value.bool (decide ((d + 1) = kk)))] ++ (zs zf157 91 38)))) ?_
     refine wpL.done ?_
     refine then_n ?_
     refine cond_if rfl (fun c4 => ?_) (fun c4 => ?_)
     ·
      refine plain ?_
      refine wI (d_assign rfl) ?_
      refine wF ([(eN kk), u1, (zf25 2), (zf25 3), (zf157 4), (ptr L15.bN 0), (zf25 6), (eN (d + 1)), (eN nx), (eN (ops + 1)), (eN i), (eN 8), (zf157 12), (zf157 13)] ++ (zs zf25 14 15 ++ (zs zf157 29 54 ++ [(Value.bool (decide (d < kk))), (eN d), (eN (d + 1)), (eN ops), (eN (ops + 1)), (eN (d + 1)), (eN kk), (Value.bool (decide ((d + 1) = kk)))] ++ (zs zf157 91 38)))) ?_
      refine wpL.done ?_
      refine then_n ?_
      refine forget (fun zf158 => ([(eN kk), u1, (zf25 2), (zf25 3), (zf158 4), (ptr L15.bN 0), (zf25 6), (eN (d + 1)), (eN nx), (eN (ops + 1)), (eN i), (eN 8), (zf158 12), (zf158 13)] ++ (zs zf25 14 15 ++ (zs zf158 29 100)))) (by kernel_rfl) (fun zf158 => ?_)
      refine plain ?_
      refine wI (d_move rfl) ?_
      refine wO (d_call (xl := [.tmp 91, .const (.int .i64 3), .const (.int .i64 3)]) (al := [(ptr L15.bN 0), (eN 3), (eN 3)]) Try.func23 (by kernel_rfl) rfl rfl rfl (erase_ok L15 s _ a16 ((3 : Nat) : Int) ((3 : Nat) : Int) lt_no)) ?_
      rintro _ w159 ⟨rfl, a161, o160⟩
      replace h1 := h1.step o160 sub1
      replace oW := oW.tail o160 (fun k hk e => by have := g_oW_L15 k e; omega)
      replace o26 := o26.tail o160 (fun k _ e => sub1 k e)
      replace a16 := a161
      refine wI (d_assign rfl) ?_
      refine wF ([(eN kk), u1, (zf25 2), (zf25 3), (zf158 4), (ptr L15.bN 0), (zf25 6), (eN (d + 1)), (eN nx), (eN (ops + 1)), (eN i), (eN 8), (eN (s.eraseR ((3 : Nat) : Int) ((3 : Nat) : Int))), (zf158 13)] ++ (zs zf25 14 15 ++ (zs zf158 29 62 ++ [(ptr L15.bN 0), (eN (s.eraseR ((3 : Nat) : Int) ((3 : Nat) : Int)))] ++ (zs zf158 93 36)))) ?_
      refine wpL.done ?_
      refine inb_n (then_n ?_)
      refine wpIn_seq ?_
      have hI2 : StpI (s.erase ((3 : Nat) : Int) ((3 : Nat) : Int)) kk (d + 1) nx (ops + 1) := (stp_erase hI c3 hkk.2 (by omega)).2
      have hf2 : s.eraseR ((3 : Nat) : Int) ((3 : Nat) : Int) = 8 := by rw [(stp_erase hI c3 hkk.2 (by omega)).1, if_pos c4]
      refine wp_eq (l' := ([(eN kk), u1, (zf25 2), (zf25 3), (zf158 4), (ptr L15.bN 0), (zf25 6), (eN (d + 1)), (eN nx), (eN (ops + 1)), (eN i), (eN 8), (eN 8), (zf158 13)] ++ (zs zf25 14 15 ++ (zs zf158 29 62 ++ [(ptr L15.bN 0), (eN (s.eraseR ((3 : Nat) : Int) ((3 : Nat) : Int)))] ++ (zs zf158 93 36))))) (show (([(eN kk), u1, (zf25 2), (zf25 3), (zf158 4), (ptr L15.bN 0), (zf25 6), (eN (d + 1)), (eN nx), (eN (ops + 1)), (eN i), (eN 8), (eN (s.eraseR ((3 : Nat) : Int) ((3 : Nat) : Int))), (zf158 13)] ++ (zs zf25 14 15 ++ (zs zf158 29 62 ++ [(ptr L15.bN 0), (eN (s.eraseR ((3 : Nat) : Int) ((3 : Nat) : Int)))] ++ (zs zf158 93 36)))) : List Value) = ([(eN kk), u1, (zf25 2), (zf25 3), (zf158 4), (ptr L15.bN 0), (zf25 6), (eN (d + 1)), (eN nx), (eN (ops + 1)), (eN i), (eN 8), (eN 8), (zf158 13)] ++ (zs zf25 14 15 ++ (zs zf158 29 62 ++ [(ptr L15.bN 0), (eN (s.eraseR ((3 : Nat) : Int) ((3 : Nat) : Int)))] ++ (zs zf158 93 36)))) from reslot ([(eN kk), u1, (zf25 2), (zf25 3), (zf158 4), (ptr L15.bN 0), (zf25 6), (eN (d + 1)), (eN nx), (eN (ops + 1)), (eN i), (eN 8), (eN (s.eraseR ((3 : Nat) : Int) ((3 : Nat) : Int))), (zf158 13)] ++ (zs zf25 14 15 ++ (zs zf158 29 62 ++ [(ptr L15.bN 0), (eN (s.eraseR ((3 : Nat) : Int) ((3 : Nat) : Int)))] ++ (zs zf158 93 36)))) 12 (congrArg eN hf2)) ?_
      obtain ⟨s9, es9⟩ : ∃ s9, s.erase ((3 : Nat) : Int) ((3 : Nat) : Int) = s9 := ⟨_, rfl⟩
      rw [es9] at hI2
      replace a16 := nd_to a16 es9
      clear hf2 es9
      refine plain ?_
      refine wI (d_move rfl) ?_
      refine wI (d_move rfl) ?_
      refine wI (n_neq (a := 8) (b := 8) rfl rfl (by rw [decide_eq_true rfl] <;> rfl)) ?_
      refine wF ([(eN kk), u1, (zf25 2), (zf25 3), (zf158 4), (ptr L15.bN 0), (zf25 6), (eN (d + 1)), (eN nx), (eN (ops + 1)), (eN i), (eN 8), (eN 8), (zf158 13)] ++ (zs zf25 14 15 ++ (zs zf158 29 62 ++ [(ptr L15.bN 0), (eN (s.eraseR ((3 : Nat) : Int) ((3 : Nat) : Int)))] ++ (zs zf158 93 19 ++ [(eN 8), (eN 8), (Value.bool false)] ++ (zs zf158 115 14))))) ?_
      refine wI (d_move rfl) ?_
      refine wpL.onis rfl rfl rfl (nb rfl) rfl (d_move rfl) ?_
      refine wpL.on rfl rfl rfl (nb rfl) rfl (d_call (xl := [.tmp 116]) (al := [(ptr L15.bN 0)]) Try.func25 (by kernel_rfl) rfl rfl rfl (nandDead_ok L15 s9 _ a16)) ?_
      rintro _ w162 ⟨rfl, o163⟩
      replace h1 := h1.step0 o163
      replace a16 := a16.step0 o163
      replace oW := oW.tail0 o163
      replace o26 := o26.tail0 o163
      refine wF ([(eN kk), u1, (zf25 2), (zf25 3), (zf158 4), (ptr L15.bN 0), (zf25 6), (eN (d + 1)), (eN nx), (eN (ops + 1)), (eN i), (eN 8), (eN 8), (zf158 13)] ++ (zs zf25 14 15 ++ (zs zf158 29 62 ++ [(ptr L15.bN 0), (eN (s.eraseR ((3 : Nat) : Int) ((3 : Nat) : Int)))] ++ (zs zf158 93 19 ++ [(eN 8), (eN 8), (Value.bool false), (Value.bool false), (ptr L15.bN 0), (Value.bool s9.dead)] ++ (zs zf158 118 11))))) ?_
      refine wpL.onis rfl rfl rfl (nb rfl) rfl (d_move rfl) ?_
      refine wpL.onis rfl rfl rfl (nb rfl) rfl (d_move rfl) ?_
      refine wpL.onis rfl rfl rfl (nb rfl) rfl (n_eql (a := (d + 1)) (b := kk) rfl rfl (decide_eq_true c4)) ?_
      refine wF ([(eN kk), u1, (zf25 2), (zf25 3), (zf158 4), (ptr L15.bN 0), (zf25 6), (eN (d + 1)), (eN nx), (eN (ops + 1)), (eN i), (eN 8), (eN 8), (zf158 13)] ++ (zs zf25 14 15 ++ (zs zf158 29 62 ++ [(ptr L15.bN 0), (eN (s.eraseR ((3 : Nat) : Int) ((3 : Nat) : Int)))] ++ (zs zf158 93 19 ++ [(eN 8), (eN 8), (Value.bool false), (Value.bool false), (ptr L15.bN 0), (Value.bool s9.dead), (eN (d + 1)), (eN kk), (Value.bool true)] ++ (zs zf158 121 8))))) ?_
      refine wpL.onis rfl rfl rfl (nb rfl) rfl (d_bneq (r := false) Try.underlying4 rfl rfl (by rw [stp_dead hI2]; first | rfl | (simp; done) | (simp [c1]; done) | (simp [c4]; done))) ?_
      refine wI (d_pick (b := false) (v := (Value.bool false)) rfl rfl) ?_
      refine wI (d_move rfl) ?_
      refine wF ([(eN kk), u1, (zf25 2), (zf25 3), (zf158 4), (ptr L15.bN 0), (zf25 6), (eN (d + 1)), (eN nx), (eN (ops + 1)), (eN i), (eN 8), (eN 8), (zf158 13)] ++ (zs zf25 14 15 ++ (zs zf158 29 62 ++ [(ptr L15.bN 0), (eN (s.eraseR ((3 : Nat) : Int) ((3 : Nat) : Int)))] ++ (zs zf158 93 19 ++ [(eN 8), (eN 8), (Value.bool false), (Value.bool false), (ptr L15.bN 0), (Value.bool s9.dead), (eN (d + 1)), (eN kk), (Value.bool true), (Value.bool false), (Value.bool false), (Value.bool false)] ++ (zs zf158 124 5))))) ?_
      refine wpL.onis rfl rfl rfl (nb rfl) rfl (d_move rfl) ?_
      refine wpL.on rfl rfl rfl (nb rfl) rfl (d_call (xl := [.tmp 124]) (al := [(ptr L15.bN 0)]) Try.func19 (by kernel_rfl) rfl rfl rfl (nandOps_ok L15 s9 _ a16)) ?_
      rintro _ w164 ⟨rfl, o165⟩
      replace h1 := h1.step0 o165
      replace a16 := a16.step0 o165
      replace oW := oW.tail0 o165
      replace o26 := o26.tail0 o165
      refine wpL.onis rfl rfl rfl (nb rfl) rfl (d_move rfl) ?_
      refine wF ([(eN kk), u1, (zf25 2), (zf25 3), (zf158 4), (ptr L15.bN 0), (zf25 6), (eN (d + 1)), (eN nx), (eN (ops + 1)), (eN i), (eN 8), (eN 8), (zf158 13)] ++ (zs zf25 14 15 ++ (zs zf158 29 62 ++ [(ptr L15.bN 0), (eN (s.eraseR ((3 : Nat) : Int) ((3 : Nat) : Int)))] ++ (zs zf158 93 19 ++ [(eN 8), (eN 8), (Value.bool false), (Value.bool false), (ptr L15.bN 0), (Value.bool s9.dead), (eN (d + 1)), (eN kk), (Value.bool true), (Value.bool false), (Value.bool false), (Value.bool false), (ptr L15.bN 0), (eI s9.ops), (eN (ops + 1)), (zf158 127), (zf158 128)])))) ?_
      refine wpL.onis rfl rfl rfl (nb rfl) rfl (d_neq (k := .i64) (m := s9.ops) (n := ((ops + 1 : Nat) : Int)) rfl rfl (by rw [decide_eq_true (stp_ops hI2)] <;> rfl)) ?_
      refine wI (d_pick (b := false) (v := (Value.bool false)) rfl rfl) ?_
      refine wF ([(eN kk), u1, (zf25 2), (zf25 3), (zf158 4), (ptr L15.bN 0), (zf25 6), (eN (d + 1)), (eN nx), (eN (ops + 1)), (eN i), (eN 8), (eN 8), (zf158 13)] ++ (zs zf25 14 15 ++ (zs zf158 29 62 ++ [(ptr L15.bN 0), (eN (s.eraseR ((3 : Nat) : Int) ((3 : Nat) : Int)))] ++ (zs zf158 93 19 ++ [(eN 8), (eN 8), (Value.bool false), (Value.bool false), (ptr L15.bN 0), (Value.bool s9.dead), (eN (d + 1)), (eN kk), (Value.bool true), (Value.bool false), (Value.bool false), (Value.bool false), (ptr L15.bN 0), (eI s9.ops), (eN (ops + 1)), (Value.bool false), (Value.bool false)])))) ?_
      refine wpL.done ?_
      refine then_n ?_
      refine forget (fun zf166 => ([(eN kk), u1, (zf25 2), (zf25 3), (zf166 4), (ptr L15.bN 0), (zf25 6), (eN (d + 1)), (eN nx), (eN (ops + 1)), (eN i), (zf166 11), (zf166 12), (zf166 13)] ++ (zs zf25 14 15 ++ (zs zf166 29 99 ++ [(Value.bool false)])))) (by kernel_rfl) (fun zf166 => ?_)
      refine cond_f rfl ?_
      refine wpIn_skip ?_
      refine inb_n (then_n ?_)
      refine plain ?_
      refine wI (d_move rfl) ?_
      refine wI (n_add (a := i) (b := 1) rfl rfl (by omega)) ?_
      refine wI (d_assign rfl) ?_
      refine wF ([(eN kk), u1, (zf25 2), (zf25 3), (zf166 4), (ptr L15.bN 0), (zf25 6), (eN (d + 1)), (eN nx), (eN (ops + 1)), (eN (i + 1)), (zf166 11), (zf166 12), (zf166 13)] ++ (zs zf25 14 15 ++ (zs zf166 29 8 ++ [(eN i), (eN (i + 1))] ++ (zs zf166 39 89 ++ [(Value.bool false)])))) ?_
      refine wpL.done ?_
      refine then_n ?_
      refine ⟨_, ⟨i + 1, d + 1, nx, ops + 1, s9⟩, rfl, rfl, ⟨?_, ?_, ?_, ?_, ?_, ?_, ?_⟩, ?_⟩
      ·
       (try dsimp only)
       all_goals (omega)
      ·
       (try dsimp only)
       all_goals (omega)
      ·
       (try dsimp only)
       all_goals (omega)
      ·
       (try dsimp only)
       all_goals (omega)
      ·
       exact hI2
      ·
       exact o26
      ·
       exact a16
      ·
       (try dsimp only)
       all_goals (omega)
     refine wpIn_skip ?_
     refine then_n ?_
     refine forget (fun zf167 => ([(eN kk), u1, (zf25 2), (zf25 3), (zf167 4), (ptr L15.bN 0), (zf25 6), (eN (d + 1)), (eN nx), (eN (ops + 1)), (eN i), (eN 0), (zf167 12), (zf167 13)] ++ (zs zf25 14 15 ++ (zs zf167 29 100)))) (by kernel_rfl) (fun zf167 => ?_)
     refine plain ?_
     refine wI (d_move rfl) ?_
     refine wO (d_call (xl := [.tmp 91, .const (.int .i64 3), .const (.int .i64 3)]) (al := [(ptr L15.bN 0), (eN 3), (eN 3)]) Try.func23 (by kernel_rfl) rfl rfl rfl (erase_ok L15 s _ a16 ((3 : Nat) : Int) ((3 : Nat) : Int) lt_no)) ?_
     rintro _ w168 ⟨rfl, a170, o169⟩
     replace h1 := h1.step o169 sub1
     replace oW := oW.tail o169 (fun k hk e => by have := g_oW_L15 k e; omega)
     replace o26 := o26.tail o169 (fun k _ e => sub1 k e)
     replace a16 := a170
     refine wI (d_assign rfl) ?_
     refine wF ([(eN kk), u1, (zf25 2), (zf25 3), (zf167 4), (ptr L15.bN 0), (zf25 6), (eN (d + 1)), (eN nx), (eN (ops + 1)), (eN i), (eN 0), (eN (s.eraseR ((3 : Nat) : Int) ((3 : Nat) : Int))), (zf167 13)] ++ (zs zf25 14 15 ++ (zs zf167 29 62 ++ [(ptr L15.bN 0), (eN (s.eraseR ((3 : Nat) : Int) ((3 : Nat) : Int)))] ++ (zs zf167 93 36)))) ?_
     refine wpL.done ?_
     refine inb_n (then_n ?_)
     refine wpIn_seq ?_
     have hI2 : StpI (s.erase ((3 : Nat) : Int) ((3 : Nat) : Int)) kk (d + 1) nx (ops + 1) := (stp_erase hI c3 hkk.2 (by omega)).2
     have hf2 : s.eraseR ((3 : Nat) : Int) ((3 : Nat) : Int) = 0 := by rw [(stp_erase hI c3 hkk.2 (by omega)).1, if_neg c4]
     refine wp_eq (l' := ([(eN kk), u1, (zf25 2), (zf25 3), (zf167 4), (ptr L15.bN 0), (zf25 6), (eN (d + 1)), (eN nx), (eN (ops + 1)), (eN i), (eN 0), (eN 0), (zf167 13)] ++ (zs zf25 14 15 ++ (zs zf167 29 62 ++ [(ptr L15.bN 0), (eN (s.eraseR ((3 : Nat) : Int) ((3 : Nat) : Int)))] ++ (zs zf167 93 36))))) (show (([(eN kk), u1, (zf25 2), (zf25 3), (zf167 4), (ptr L15.bN 0), (zf25 6), (eN (d + 1)), (eN nx), (eN (ops + 1)), (eN i), (eN 0), (eN (s.eraseR ((3 : Nat) : Int) ((3 : Nat) : Int))), (zf167 13)] ++ (zs zf25 14 15 ++ (zs zf167 29 62 ++ [(ptr L15.bN 0), (eN (s.eraseR ((3 : Nat) : Int) ((3 : Nat) : Int)))] ++ (zs zf167 93 36)))) : List Value) = ([(eN kk), u1, (zf25 2), (zf25 3), (zf167 4), (ptr L15.bN 0), (zf25 6), (eN (d + 1)), (eN nx), (eN (ops + 1)), (eN i), (eN 0), (eN 0), (zf167 13)] ++ (zs zf25 14 15 ++ (zs zf167 29 62 ++ [(ptr L15.bN 0), (eN (s.eraseR ((3 : Nat) : Int) ((3 : Nat) : Int)))] ++ (zs zf167 93 36)))) from reslot ([(eN kk), u1, (zf25 2), (zf25 3), (zf167 4), (ptr L15.bN 0), (zf25 6), (eN (d + 1)), (eN nx), (eN (ops + 1)), (eN i), (eN 0), (eN (s.eraseR ((3 : Nat) : Int) ((3 : Nat) : Int))), (zf167 13)] ++ (zs zf25 14 15 ++ (zs zf167 29 62 ++ [(ptr L15.bN 0), (eN (s.eraseR ((3 : Nat) : Int) ((3 : Nat) : Int)))] ++ (zs zf167 93 36)))) 12 (congrArg eN hf2)) ?_
     obtain ⟨s9, es9⟩ : ∃ s9, s.erase ((3 : Nat) : Int) ((3 : Nat) : Int) = s9 := ⟨_, rfl⟩
     rw [es9] at hI2
     replace a16 := nd_to a16 es9
     clear hf2 es9
     refine plain ?_
     refine wI (d_move rfl) ?_
     refine wI (d_move rfl) ?_
     refine wI (n_neq (a := 0) (b := 0) rfl rfl (by rw [decide_eq_true rfl] <;> rfl)) ?_
     refine wF ([(eN kk), u1, (zf25 2), (zf25 3), (zf167 4), (ptr L15.bN 0), (zf25 6), (eN (d + 1)), (eN nx), (eN (ops + 1)), (eN i), (eN 0), (eN 0), (zf167 13)] ++ (zs zf25 14 15 ++ (zs zf167 29 62 ++ [(ptr L15.bN 0), (eN (s.eraseR ((3 : Nat) : Int) ((3 : Nat) : Int)))] ++ (zs zf167 93 19 ++ [(eN 0), (eN 0), (Value.bool false)] ++ (zs zf167 115 14))))) ?_
     refine wI (d_move rfl) ?_
     refine wpL.onis rfl rfl rfl (nb rfl) rfl (d_move rfl) ?_
     refine wpL.on rfl rfl rfl (nb rfl) rfl (d_call (xl := [.tmp 116]) (al := [(ptr L15.bN 0)]) Try.func25 (by kernel_rfl) rfl rfl rfl (nandDead_ok L15 s9 _ a16)) ?_
     rintro _ w171 ⟨rfl, o172⟩
     replace h1 := h1.step0 o172
     replace a16 := a16.step0 o172
     replace oW := oW.tail0 o172
     replace o26 := o26.tail0 o172
     refine wF ([(eN kk), u1, (zf25 2), (zf25 3), (zf167 4), (ptr L15.bN 0), (zf25 6), (eN (d + 1)), (eN nx), (eN (ops + 1)), (eN i), (eN 0), (eN 0), (zf167 13)] ++ (zs zf25 14 15 ++ (zs zf167 29 62 ++ [(ptr L15.bN 0), (eN (s.eraseR ((3 : Nat) : Int) ((3 : Nat) : Int)))] ++ (zs zf167 93 19 ++ [(eN 0), (eN 0), (Value.bool false), (Value.bool false), (ptr L15.bN 0), (Value.bool s9.dead)] ++ (zs zf167 118 11))))) ?_
     refine wpL.onis rfl rfl rfl (nb rfl) rfl (d_move rfl) ?_
     refine wpL.onis rfl rfl rfl (nb rfl) rfl (d_move rfl) ?_
     refine wpL.onis rfl rfl rfl (nb rfl) rfl (n_eql (a := (d + 1)) (b := kk) rfl rfl (decide_eq_false c4)) ?_
     refine wF ([(eN kk), u1, (zf25 2), (zf25 3), (zf167 4), (ptr L15.bN 0), (zf25 6), (eN (d + 1)), (eN nx), (eN (ops + 1)), (eN i), (eN 0), (eN 0), (zf167 13)] ++ (zs zf25 14 15 ++ (zs zf167 29 62 ++ [(ptr L15.bN 0), (eN (s.eraseR ((3 : Nat) : Int) ((3 : Nat) : Int)))] ++ (zs zf167 93 19 ++ [(eN 0), (eN 0), (Value.bool false), (Value.bool false), (ptr L15.bN 0), (Value.bool s9.dead), (eN (d + 1)), (eN kk), (Value.bool false)] ++ (zs zf167 121 8))))) ?_
     refine wpL.onis rfl rfl rfl (nb rfl) rfl (d_bneq (r := false) Try.underlying4 rfl rfl (by rw [stp_dead hI2]; first | rfl | (simp; done) | (simp [c1]; done) | (simp [c4]; done))) ?_
     refine wI (d_pick (b := false) (v := (Value.bool false)) rfl rfl) ?_
     refine wI (d_move rfl) ?_
     refine wF ([(eN kk), u1, (zf25 2), (zf25 3), (zf167 4), (ptr L15.bN 0), (zf25 6), (eN (d + 1)), (eN nx), (eN (ops + 1)), (eN i), (eN 0), (eN 0), (zf167 13)] ++ (zs zf25 14 15 ++ (zs zf167 29 62 ++ [(ptr L15.bN 0), (eN (s.eraseR ((3 : Nat) : Int) ((3 : Nat) : Int)))] ++ (zs zf167 93 19 ++ [(eN 0), (eN 0), (Value.bool false), (Value.bool false), (ptr L15.bN 0), (Value.bool s9.dead), (eN (d + 1)), (eN kk), (Value.bool false), (Value.bool false), (Value.bool false), (Value.bool false)] ++ (zs zf167 124 5))))) ?_
     refine wpL.onis rfl rfl rfl (nb rfl) rfl (d_move rfl) ?_
     refine wpL.on rfl rfl rfl (nb rfl) rfl (d_call (xl := [.tmp 124]) (al := [(ptr L15.bN 0)]) Try.func19 (by kernel_rfl) rfl rfl rfl (nandOps_ok L15 s9 _ a16)) ?_
     rintro _ w173 ⟨rfl, o174⟩
     replace h1 := h1.step0 o174
     replace a16 := a16.step0 o174
     replace oW := oW.tail0 o174
     replace o26 := o26.tail0 o174
     refine wpL.onis rfl rfl rfl (nb rfl) rfl (d_move rfl) ?_
     refine wF ([(eN kk), u1, (zf25 2), (zf25 3), (zf167 4), (ptr L15.bN 0), (zf25 6), (eN (d + 1)), (eN nx), (eN (ops + 1)), (eN i), (eN 0), (eN 0), (zf167 13)] ++ (zs zf25 14 15 ++ (zs zf167 29 62 ++ [(ptr L15.bN 0), (eN (s.eraseR ((3 : Nat) : Int) ((3 : Nat) : Int)))] ++ (zs zf167 93 19 ++ [(eN 0), (eN 0), (Value.bool false), (Value.bool false), (ptr L15.bN 0), (Value.bool s9.dead), (eN (d + 1)), (eN kk), (Value.bool false), (Value.bool false), (Value.bool false), (Value.bool false), (ptr L15.bN 0), (eI s9.ops), (eN (ops + 1)), (zf167 127), (zf167 128)])))) ?_
     refine wpL.onis rfl rfl rfl (nb rfl) rfl (d_neq (k := .i64) (m := s9.ops) (n := ((ops + 1 : Nat) : Int)) rfl rfl (by rw [decide_eq_true (stp_ops hI2)] <;> rfl)) ?_
     refine wI (d_pick (b := false) (v := (Value.bool false)) rfl rfl) ?_
     refine wF ([(eN kk), u1, (zf25 2), (zf25 3), (zf167 4), (ptr L15.bN 0), (zf25 6), (eN (d + 1)), (eN nx), (eN (ops + 1)), (eN i), (eN 0), (eN 0), (zf167 13)] ++ (zs zf25 14 15 ++ (zs zf167 29 62 ++ [(ptr L15.bN 0), (eN (s.eraseR ((3 : Nat) : Int) ((3 : Nat) : Int)))] ++ (zs zf167 93 19 ++ [(eN 0), (eN 0), (Value.bool false), (Value.bool false), (ptr L15.bN 0), (Value.bool s9.dead), (eN (d + 1)), (eN kk), (Value.bool false), (Value.bool false), (Value.bool false), (Value.bool false), (ptr L15.bN 0), (eI s9.ops), (eN (ops + 1)), (Value.bool false), (Value.bool false)])))) ?_
     refine wpL.done ?_
     refine then_n ?_
     refine forget (fun zf175 => ([(eN kk), u1, (zf25 2), (zf25 3), (zf175 4), (ptr L15.bN 0), (zf25 6), (eN (d + 1)), (eN nx), (eN (ops + 1)), (eN i), (zf175 11), (zf175 12), (zf175 13)] ++ (zs zf25 14 15 ++ (zs zf175 29 99 ++ [(Value.bool false)])))) (by kernel_rfl) (fun zf175 => ?_)
     refine cond_f rfl ?_
     refine wpIn_skip ?_
     refine inb_n (then_n ?_)
     refine plain ?_
     refine wI (d_move rfl) ?_
     refine wI (n_add (a := i) (b := 1) rfl rfl (by omega)) ?_
     refine wI (d_assign rfl) ?_
     refine wF ([(eN kk), u1, (zf25 2), (zf25 3), (zf175 4), (ptr L15.bN 0), (zf25 6), (eN (d + 1)), (eN nx), (eN (ops + 1)), (eN (i + 1)), (zf175 11), (zf175 12), (zf175 13)] ++ (zs zf25 14 15 ++ (zs zf175 29 8 ++ [(eN i), (eN (i + 1))] ++ (zs zf175 39 89 ++ [(Value.bool false)])))) ?_
     refine wpL.done ?_
     refine then_n ?_
     refine ⟨_, ⟨i + 1, d + 1, nx, ops + 1, s9⟩, rfl, rfl, ⟨?_, ?_, ?_, ?_, ?_, ?_, ?_⟩, ?_⟩
     ·
      (try dsimp only)
      all_goals (omega)
     ·
      (try dsimp only)
      all_goals (omega)
     ·
      (try dsimp only)
      all_goals (omega)
     ·
      (try dsimp only)
      all_goals (omega)
     ·
      exact hI2
     ·
      exact o26
     ·
      exact a16
     ·
      (try dsimp only)
      all_goals (omega)
    omega
   refine wpIn_seq ?_
   refine plain ?_
   refine wI (n_eql (a := pv) (b := 3) rfl rfl rfl) ?_
   refine wI (d_assign rfl) ?_
   refine wF ([(eN kk), u1, (zf25 2), (zf25 3), (zf96 4), (ptr L15.bN 0), (zf25 6), (eN d), (eN nx), (eN ops), (eN i), (eN 0), (eN 0), (zf96 13)] ++ (zs zf25 14 15 ++ (zs zf96 29 17 ++ [(eN pv), (Value.bool (decide (pv = 1))), (zf96 48), (Value.bool (decide (pv = 1)))] ++ (zs zf96 50 29 ++ [(Value.bool (decide (pv = 2))), (Value.bool (decide (pv = 2)))] ++ (zs zf96 81 12 ++ [(Value.bool (decide (pv = 3))), (Value.bool (decide (pv = 3)))] ++ (zs zf96 95 34)))))) ?_
   refine wpL.done ?_
   refine then_n ?_
   refine cond_if rfl (fun c176 => ?_) (fun c176 => ?_)
   ·
    refine wpIn_seq ?_
    refine wpIn_seq ?_
    refine plain ?_
    refine wI (d_move rfl) ?_
    refine wI (d_move rfl) ?_
    refine wI (n_lss (a := d) (b := kk) rfl rfl rfl) ?_
    refine wF ([(eN kk), u1, (zf25 2), (zf25 3), (zf96 4), (ptr L15.bN 0), (zf25 6), (eN d), (eN nx), (eN ops), (eN i), (eN 0), (eN 0), (zf96 13)] ++ (zs zf25 14 15 ++ (zs zf96 29 17 ++ [(eN pv), (Value.bool (decide (pv = 1))), (zf96 48), (Value.bool (decide (pv = 1)))] ++ (zs zf96 50 29 ++ [(Value.bool (decide (pv = 2))), (Value.bool (decide (pv = 2)))] ++ (zs zf96 81 12 ++ [(Value.bool (decide (pv = 3))), (Value.bool (decide (pv = 3))), (eN d), (eN kk), (Value.bool (decide (d < kk)))] ++ (zs zf96 98 31)))))) ?_
    refine wpL.done ?_
    refine then_n ?_
    refine forget (fun zf177 => ([(eN kk), u1, (zf25 2), (zf25 3), (zf177 4), (ptr L15.bN 0), (zf25 6), (eN d), (eN nx), (eN ops), (eN i), (eN 0), (zf177 12), (zf177 13)] ++ (zs zf25 14 15 ++ (zs zf177 29 68 ++ [(Value.bool (decide (d < kk)))] ++ (zs zf177 98 31))))) (by kernel_rfl) (fun zf177 => ?_)
    refine cond_if rfl (fun c3 => ?_) (fun c3 => ?_)
    ·
     refine plain ?_
     refine wI (d_move rfl) ?_
     refine wI (n_add (a := ops) (b := 1) rfl rfl (by omega)) ?_
     refine wI (d_assign rfl) ?_
     refine wF ([(eN kk), u1, (zf25 2), (zf25 3), (zf177 4), (ptr L15.bN 0), (zf25 6), (eN d), (eN nx), (eN (ops + 1)), (eN i), (eN 0), (zf177 12), (zf177 13)] ++ (zs zf25 14 15 ++ (zs zf177 29 68 ++ [(Value.bool (decide (d < kk))), (eN ops), (eN (ops + 1))] ++ (zs zf177 100 29)))) ?_
     refine wpL.done ?_
     refine then_n ?_
     refine plain ?_
     refine wI (d_move rfl) ?_
     refine wO (d_call (xl := [.tmp 101, .const (.int .i64 0), .const (.int .i64 0), .const (.int .i64 7)]) (al := [(ptr L15.bN 0), (eN 0), (eN 0), (eN 7)]) Try.func21 (by kernel_rfl) rfl rfl rfl (read_ok L15 s _ a16 ((0 : Nat) : Int) ((0 : Nat) : Int) ((7 : Nat) : Int) lt_no)) ?_
     rintro _ w178 ⟨u180, rfl, f181, a182, o179⟩
     replace f181 := f181.less (Y := (Ors L15.S (Old W.heap.size))) (ors_old a16.lt (old_old oW.size))
     replace h1 := h1.step o179 sub1
     replace oW := oW.tail o179 (fun k hk e => by have := g_oW_L15 k e; omega)
     replace o26 := o26.tail o179 (fun k _ e => sub1 k e)
     replace a16 := a182
     refine wI (d_move rfl) ?_
     refine wF ([(eN kk), u1, (zf25 2), (zf25 3), (zf177 4), (ptr L15.bN 0), (zf25 6), (eN d), (eN nx), (eN (ops + 1)), (eN i), (eN 0), (zf177 12), (zf177 13)] ++ (zs zf25 14 15 ++ (zs zf177 29 68 ++ [(Value.bool (decide (d < kk))), (eN ops), (eN (ops + 1)), (Value.tuple #[u180, (eN (s.askR (s.readOk ((0 : Nat) : Int) ((0 : Nat) : Int) ((7 : Nat) : Int))))]), (ptr L15.bN 0), (Value.tuple #[u180, (eN (s.askR (s.readOk ((0 : Nat) : Int) ((0 : Nat) : Int) ((7 : Nat) : Int))))])] ++ (zs zf177 103 26)))) ?_
     refine wI (d_extract (v := u180) rfl rfl) ?_
     refine wI (d_extract (v := (eN (s.askR (s.readOk ((0 : Nat) : Int) ((0 : Nat) : Int) ((7 : Nat) : Int))))) rfl rfl) ?_
     refine wI (d_assign rfl) ?_
     refine wF ([(eN kk), u1, (zf25 2), (zf25 3), (zf177 4), (ptr L15.bN 0), (zf25 6), (eN d), (eN nx), (eN (ops + 1)), (eN i), (eN 0), (eN (s.askR (s.readOk ((0 : Nat) : Int) ((0 : Nat) : Int) ((7 : Nat) : Int)))), (zf177 13)] ++ (zs zf25 14 15 ++ (zs zf177 29 68 ++ [(Value.bool (decide (d < kk))), (eN ops), (eN (ops + 1)), (Value.tuple #[u180, (eN (s.askR (s.readOk ((0 : Nat) : Int) ((0 : Nat) : Int) ((7 : Nat) : Int))))]), (ptr L15.bN 0), (Value.tuple #[u180, (eN (s.askR (s.readOk ((0 : Nat) : Int) ((0 : Nat) : Int) ((7 : Nat) : Int))))]), u180, (eN (s.askR (s.readOk ((0 : Nat) : Int) ((0 : Nat) : Int) ((7 : Nat) : Int))))] ++ (zs zf177 105 24)))) ?_
     refine wpL.done ?_
     refine inb_n (then_n ?_)
     refine forget (fun zf183 => ([(eN kk), u1, (zf25 2), (zf25 3), (zf183 4), (ptr L15.bN 0), (zf25 6), (eN d), (eN nx), (eN (ops + 1)), (eN i), (eN 0), (eN (s.askR (s.readOk ((0 : Nat) : Int) ((0 : Nat) : Int) ((7 : Nat) : Int)))), (zf183 13)] ++ (zs zf25 14 15 ++ (zs zf183 29 100)))) (by kernel_rfl) (fun zf183 => ?_)
     refine wpIn_seq ?_
     have hI2 : StpI (s.ask (s.readOk ((0 : Nat) : Int) ((0 : Nat) : Int) ((7 : Nat) : Int))) kk d nx (ops + 1) := (stp_read hI c3 (by omega)).2
     have hf2 : s.askR (s.readOk ((0 : Nat) : Int) ((0 : Nat) : Int) ((7 : Nat) : Int)) = 0 := (stp_read hI c3 (by omega)).1
     refine wp_eq (l' := ([(eN kk), u1, (zf25 2), (zf25 3), (zf183 4), (ptr L15.bN 0), (zf25 6), (eN d), (eN nx), (eN (ops + 1)), (eN i), (eN 0), (eN 0), (zf183 13)] ++ (zs zf25 14 15 ++ (zs zf183 29 100)))) (show (([(eN kk), u1, (zf25 2), (zf25 3), (zf183 4), (ptr L15.bN 0), (zf25 6), (eN d), (eN nx), (eN (ops + 1)), (eN i), (eN 0), (eN (s.askR (s.readOk ((0 : Nat) : Int) ((0 : Nat) : Int) ((7 : Nat) : Int)))), (zf183 13)] ++ (zs zf25 14 15 ++ (zs zf183 29 100))) : List Value) = ([(eN kk), u1, (zf25 2), (zf25 3), (zf183 4), (ptr L15.bN 0), (zf25 6), (eN d), (eN nx), (eN (ops + 1)), (eN i), (eN 0), (eN 0), (zf183 13)] ++ (zs zf25 14 15 ++ (zs zf183 29 100))) from reslot ([(eN kk), u1, (zf25 2), (zf25 3), (zf183 4), (ptr L15.bN 0), (zf25 6), (eN d), (eN nx), (eN (ops + 1)), (eN i), (eN 0), (eN (s.askR (s.readOk ((0 : Nat) : Int) ((0 : Nat) : Int) ((7 : Nat) : Int)))), (zf183 13)] ++ (zs zf25 14 15 ++ (zs zf183 29 100))) 12 (congrArg eN hf2)) ?_
     obtain ⟨s9, es9⟩ : ∃ s9, s.ask (s.readOk ((0 : Nat) : Int) ((0 : Nat) : Int) ((7 : Nat) : Int)) = s9 := ⟨_, rfl⟩
     rw [es9] at hI2
     replace a16 := nd_to a16 es9
     clear hf2 es9
     refine plain ?_
     refine wI (d_move rfl) ?_
     refine wI (d_move rfl) ?_
     refine wI (n_neq (a := 0) (b := 0) rfl rfl (by rw [decide_eq_true rfl] <;> rfl)) ?_
     refine wF ([(eN kk), u1, (zf25 2), (zf25 3), (zf183 4), (ptr L15.bN 0), (zf25 6), (eN d), (eN nx), (eN (ops + 1)), (eN i), (eN 0), (eN 0), (zf183 13)] ++ (zs zf25 14 15 ++ (zs zf183 29 83 ++ [(eN 0), (eN 0), (Value.bool false)] ++ (zs zf183 115 14)))) ?_
     refine wI (d_move rfl) ?_
     refine wpL.onis rfl rfl rfl (nb rfl) rfl (d_move rfl) ?_
     refine wpL.on rfl rfl rfl (nb rfl) rfl (d_call (xl := [.tmp 116]) (al := [(ptr L15.bN 0)]) Try.func25 (by kernel_rfl) rfl rfl rfl (nandDead_ok L15 s9 _ a16)) ?_
     rintro _ w184 ⟨rfl, o185⟩
     replace h1 := h1.step0 o185
     replace a16 := a16.step0 o185
     replace f181 := f181.step0 o185
     replace oW := oW.tail0 o185
     replace o26 := o26.tail0 o185
     refine wF ([(eN kk), u1, (zf25 2), (zf25 3), (zf183 4), (ptr L15.bN 0), (zf25 6), (eN d), (eN nx), (eN (ops + 1)), (eN i), (eN 0), (eN 0), (zf183 13)] ++ (zs zf25 14 15 ++ (zs zf183 29 83 ++ [(eN 0), (eN 0), (Value.bool false), (Value.bool false), (ptr L15.bN 0), (Value.bool s9.dead)] ++ (zs zf183 118 11)))) ?_
     refine wpL.onis rfl rfl rfl (nb rfl) rfl (d_move rfl) ?_
     refine wpL.onis rfl rfl rfl (nb rfl) rfl (d_move rfl) ?_
     refine wpL.onis rfl rfl rfl (nb rfl) rfl (n_eql (a := d) (b := kk) rfl rfl (decide_eq_false c1)) ?_
     refine wF ([(eN kk), u1, (zf25 2), (zf25 3), (zf183 4), (ptr L15.bN 0), (zf25 6), (eN d), (eN nx), (eN (ops + 1)), (eN i), (eN 0), (eN 0), (zf183 13)] ++ (zs zf25 14 15 ++ (zs zf183 29 83 ++ [(eN 0), (eN 0), (Value.bool false), (Value.bool false), (ptr L15.bN 0), (Value.bool s9.dead), (eN d), (eN kk), (Value.bool false)] ++ (zs zf183 121 8)))) ?_
     refine wpL.onis rfl rfl rfl (nb rfl) rfl (d_bneq (r := false) Try.underlying4 rfl rfl (by rw [stp_dead hI2]; first | rfl | (simp; done) | (simp [c1]; done) | (simp [c4]; done))) ?_
     refine wI (d_pick (b := false) (v := (Value.bool false)) rfl rfl) ?_
     refine wI (d_move rfl) ?_
     refine wF ([(eN kk), u1, (zf25 2), (zf25 3), (zf183 4), (ptr L15.bN 0), (zf25 6), (eN d), (eN nx), (eN (ops + 1)), (eN i), (eN 0), (eN 0), (zf183 13)] ++ (zs zf25 14 15 ++ (zs zf183 29 83 ++ [(eN 0), (eN 0), (Value.bool false), (Value.bool false), (ptr L15.bN 0), (Value.bool s9.dead), (eN d), (eN kk), (Value.bool false), (Value.bool false), (Value.bool false), (Value.bool false)] ++ (zs zf183 124 5)))) ?_
     refine wpL.onis rfl rfl rfl (nb rfl) rfl (d_move rfl) ?_
     refine wpL.on rfl rfl rfl (nb rfl) rfl (d_call (xl := [.tmp 124]) (al := [(ptr L15.bN 0)]) Try.func19 (by kernel_rfl) rfl rfl rfl (nandOps_ok L15 s9 _ a16)) ?_
     rintro _ w186 ⟨rfl, o187⟩
     replace h1 := h1.step0 o187
     replace a16 := a16.step0 o187
     replace f181 := f181.step0 o187
     replace oW := oW.tail0 o187
     replace o26 := o26.tail0 o187
     refine wpL.onis rfl rfl rfl (nb rfl) rfl (d_move rfl) ?_
     refine wF ([(eN kk), u1, (zf25 2), (zf25 3), (zf183 4), (ptr L15.bN 0), (zf25 6), (eN d), (eN nx), (eN (ops + 1)), (eN i), (eN 0), (eN 0), (zf183 13)] ++ (zs zf25 14 15 ++ (zs zf183 29 83 ++ [(eN 0), (eN 0), (Value.bool false), (Value.bool false), (ptr L15.bN 0), (Value.bool s9.dead), (eN d), (eN kk), (Value.bool false), (Value.bool false), (Value.bool false), (Value.bool false), (ptr L15.bN 0), (eI s9.ops), (eN (ops + 1)), (zf183 127), (zf183 128)]))) ?_
     refine wpL.onis rfl rfl rfl (nb rfl) rfl (d_neq (k := .i64) (m := s9.ops) (n := ((ops + 1 : Nat) : Int)) rfl rfl (by rw [decide_eq_true (stp_ops hI2)] <;> rfl)) ?_
     refine wI (d_pick (b := false) (v := (Value.bool false)) rfl rfl) ?_
     refine wF ([(eN kk), u1, (zf25 2), (zf25 3), (zf183 4), (ptr L15.bN 0), (zf25 6), (eN d), (eN nx), (eN (ops + 1)), (eN i), (eN 0), (eN 0), (zf183 13)] ++ (zs zf25 14 15 ++ (zs zf183 29 83 ++ [(eN 0), (eN 0), (Value.bool false), (Value.bool false), (ptr L15.bN 0), (Value.bool s9.dead), (eN d), (eN kk), (Value.bool false), (Value.bool false), (Value.bool false), (Value.bool false), (ptr L15.bN 0), (eI s9.ops), (eN (ops + 1)), (Value.bool false), (Value.bool false)]))) ?_
     refine wpL.done ?_
     refine then_n ?_
     refine forget (fun zf188 => ([(eN kk), u1, (zf25 2), (zf25 3), (zf188 4), (ptr L15.bN 0), (zf25 6), (eN d), (eN nx), (eN (ops + 1)), (eN i), (zf188 11), (zf188 12), (zf188 13)] ++ (zs zf25 14 15 ++ (zs zf188 29 99 ++ [(Value.bool false)])))) (by kernel_rfl) (fun zf188 => ?_)
     refine cond_f rfl ?_
     refine wpIn_skip ?_
     refine inb_n (then_n ?_)
     refine plain ?_
     refine wI (d_move rfl) ?_
     refine wI (n_add (a := i) (b := 1) rfl rfl (by omega)) ?_
     refine wI (d_assign rfl) ?_
     refine wF ([(eN kk), u1, (zf25 2), (zf25 3), (zf188 4), (ptr L15.bN 0), (zf25 6), (eN d), (eN nx), (eN (ops + 1)), (eN (i + 1)), (zf188 11), (zf188 12), (zf188 13)] ++ (zs zf25 14 15 ++ (zs zf188 29 8 ++ [(eN i), (eN (i + 1))] ++ (zs zf188 39 89 ++ [(Value.bool false)])))) ?_
     refine wpL.done ?_
     refine then_n ?_
     refine ⟨_, ⟨i + 1, d, nx, ops + 1, s9⟩, rfl, rfl, ⟨?_, ?_, ?_, ?_, ?_, ?_, ?_⟩, ?_⟩
     ·
      (try dsimp only)
      all_goals (omega)
     ·
      (try dsimp only)
      all_goals (omega)
     ·
      (try dsimp only)
      all_goals (omega)
     ·
      (try dsimp only)
      all_goals (omega)
     ·
      exact hI2
     ·
      exact o26
     ·
      exact a16
     ·
      (try dsimp only)
      all_goals (omega)
    omega
   refine wpIn_seq ?_
   refine plain ?_
   refine wI (n_eql (a := pv) (b := 4) rfl rfl rfl) ?_
   refine wI (d_assign rfl) ?_
   refine wF ([(eN kk), u1, (zf25 2), (zf25 3), (zf96 4), (ptr L15.bN 0), (zf25 6), (eN d), (eN nx), (eN ops), (eN i), (eN 0), (eN 0), (zf96 13)] ++ (zs zf25 14 15 ++ (zs zf96 29 17 ++ [(eN pv), (Value.bool (decide (pv = 1))), (zf96 48), (Value.bool (decide (pv = 1)))] ++ (zs zf96 50 29 ++ [(Value.bool (decide (pv = 2))), (Value.bool (decide (pv = 2)))] ++ (zs zf96 81 12 ++ [(Value.bool (decide (pv = 3))), (Value.bool (decide (pv = 3)))] ++ (zs zf96 95 10 ++ [(Value.bool (decide (pv = 4))), (Value.bool (decide (pv = 4)))] ++ (zs zf96 107 22))))))) ?_
   refine wpL.done ?_
   refine then_n ?_
   refine forget (fun zf189 => ([(eN kk), u1, (zf25 2), (zf25 3), (zf189 4), (ptr L15.bN 0), (zf25 6), (eN d), (eN nx), (eN ops), (eN i), (eN 0), (eN 0), (zf189 13)] ++ (zs zf25 14 15 ++ (zs zf189 29 76 ++ [(Value.bool (decide (pv = 4)))] ++ (zs zf189 106 23))))) (by kernel_rfl) (fun zf189 => ?_)
   refine cond_if rfl (fun c190 => ?_) (fun c190 => ?_)
   ·
    refine wpIn_seq ?_
    refine wpIn_seq ?_
    refine plain ?_
    refine wI (d_move rfl) ?_
    refine wI (d_move rfl) ?_
    refine wI (n_lss (a := d) (b := kk) rfl rfl rfl) ?_
    refine wF ([(eN kk), u1, (zf25 2), (zf25 3), (zf189 4), (ptr L15.bN 0), (zf25 6), (eN d), (eN nx), (eN ops), (eN i), (eN 0), (eN 0), (zf189 13)] ++ (zs zf25 14 15 ++ (zs zf189 29 76 ++ [(Value.bool (decide (pv = 4))), (zf189 106), (eN d), (eN kk), (Value.bool (decide (d < kk)))] ++ (zs zf189 110 19)))) ?_
    refine wpL.done ?_
    refine then_n ?_
    refine cond_if rfl (fun c3 => ?_) (fun c3 => ?_)
    ·
     refine plain ?_
     refine wI (d_assign rfl) ?_
     refine wF ([(eN kk), u1, (zf25 2), (zf25 3), (zf189 4), (ptr L15.bN 0), (zf25 6), (eN d), (eN nx), (eN ops), (eN i), (eN 1), (eN 0), (zf189 13)] ++ (zs zf25 14 15 ++ (zs zf189 29 76 ++ [(Value.bool (decide (pv = 4))), (zf189 106), (eN d), (eN kk), (Value.bool (decide (d < kk)))] ++ (zs zf189 110 19)))) ?_
     refine wpL.done ?_
     refine then_n ?_
     refine plain ?_
     refine wI (d_move rfl) ?_
     refine wO (d_call (xl := [.tmp 110, .const (.int .i64 9), .const (.int .i64 9)]) (al := [(ptr L15.bN 0), (eN 9), (eN 9)]) Try.func23 (by kernel_rfl) rfl rfl rfl (erase_ok L15 s _ a16 ((9 : Nat) : Int) ((9 : Nat) : Int) lt_no)) ?_
     rintro _ w191 ⟨rfl, a193, o192⟩
     replace h1 := h1.step o192 sub1
     replace oW := oW.tail o192 (fun k hk e => by have := g_oW_L15 k e; omega)
     replace o26 := o26.tail o192 (fun k _ e => sub1 k e)
     replace a16 := a193
     refine wI (d_assign rfl) ?_
     refine wF ([(eN kk), u1, (zf25 2), (zf25 3), (zf189 4), (ptr L15.bN 0), (zf25 6), (eN d), (eN nx), (eN ops), (eN i), (eN 1), (eN (s.eraseR ((9 : Nat) : Int) ((9 : Nat) : Int))), (zf189 13)] ++ (zs zf25 14 15 ++ (zs zf189 29 76 ++ [(Value.bool (decide (pv = 4))), (zf189 106), (eN d), (eN kk), (Value.bool (decide (d < kk))), (ptr L15.bN 0), (eN (s.eraseR ((9 : Nat) : Int) ((9 : Nat) : Int)))] ++ (zs zf189 112 17)))) ?_
     refine wpL.done ?_
     refine inb_n (then_n ?_)
     refine wpIn_seq ?_
     have hI2 : StpI (s.erase ((9 : Nat) : Int) ((9 : Nat) : Int)) kk d nx ops := (stp_wrong hI c3).2
     have hf2 : s.eraseR ((9 : Nat) : Int) ((9 : Nat) : Int) = 1 := (stp_wrong hI c3).1
     refine wp_eq (l' := ([(eN kk), u1, (zf25 2), (zf25 3), (zf189 4), (ptr L15.bN 0), (zf25 6), (eN d), (eN nx), (eN ops), (eN i), (eN 1), (eN 1), (zf189 13)] ++ (zs zf25 14 15 ++ (zs zf189 29 76 ++ [(Value.bool (decide (pv = 4))), (zf189 106), (eN d), (eN kk), (Value.bool (decide (d < kk))), (ptr L15.bN 0), (eN (s.eraseR ((9 : Nat) : Int) ((9 : Nat) : Int)))] ++ (zs zf189 112 17))))) (show (([(eN kk), u1, (zf25 2), (zf25 3), (zf189 4), (ptr L15.bN 0), (zf25 6), (eN d), (eN nx), (eN ops), (eN i), (eN 1), (eN (s.eraseR ((9 : Nat) : Int) ((9 : Nat) : Int))), (zf189 13)] ++ (zs zf25 14 15 ++ (zs zf189 29 76 ++ [(Value.bool (decide (pv = 4))), (zf189 106), (eN d), (eN kk), (Value.bool (decide (d < kk))), (ptr L15.bN 0), (eN (s.eraseR ((9 : Nat) : Int) ((9 : Nat) : Int)))] ++ (zs zf189 112 17)))) : List Value) = ([(eN kk), u1, (zf25 2), (zf25 3), (zf189 4), (ptr L15.bN 0), (zf25 6), (eN d), (eN nx), (eN ops), (eN i), (eN 1), (eN 1), (zf189 13)] ++ (zs zf25 14 15 ++ (zs zf189 29 76 ++ [(Value.bool (decide (pv = 4))), (zf189 106), (eN d), (eN kk), (Value.bool (decide (d < kk))), (ptr L15.bN 0), (eN (s.eraseR ((9 : Nat) : Int) ((9 : Nat) : Int)))] ++ (zs zf189 112 17)))) from reslot ([(eN kk), u1, (zf25 2), (zf25 3), (zf189 4), (ptr L15.bN 0), (zf25 6), (eN d), (eN nx), (eN ops), (eN i), (eN 1), (eN (s.eraseR ((9 : Nat) : Int) ((9 : Nat) : Int))), (zf189 13)] ++ (zs zf25 14 15 ++ (zs zf189 29 76 ++ [(Value.bool (decide (pv = 4))), (zf189 106), (eN d), (eN kk), (Value.bool (decide (d < kk))), (ptr L15.bN 0), (eN (s.eraseR ((9 : Nat) : Int) ((9 : Nat) : Int)))] ++ (zs zf189 112 17)))) 12 (congrArg eN hf2)) ?_
     obtain ⟨s9, es9⟩ : ∃ s9, s.erase ((9 : Nat) : Int) ((9 : Nat) : Int) = s9 := ⟨_, rfl⟩
     rw [es9] at hI2
     replace a16 := nd_to a16 es9
     clear hf2 es9
     refine plain ?_
     refine wI (d_move rfl) ?_
     refine wI (d_move rfl) ?_
     refine wI (n_neq (a := 1) (b := 1) rfl rfl (by rw [decide_eq_true rfl] <;> rfl)) ?_
     refine wF ([(eN kk), u1, (zf25 2), (zf25 3), (zf189 4), (ptr L15.bN 0), (zf25 6), (eN d), (eN nx), (eN ops), (eN i), (eN 1), (eN 1), (zf189 13)] ++ (zs zf25 14 15 ++ (zs zf189 29 76 ++ [(Value.bool (decide (pv = 4))), (zf189 106), (eN d), (eN kk), (Value.bool (decide (d < kk))), (ptr L15.bN 0), (eN (s.eraseR ((9 : Nat) : Int) ((9 : Nat) : Int))), (eN 1), (eN 1), (Value.bool false)] ++ (zs zf189 115 14)))) ?_
     refine wI (d_move rfl) ?_
     refine wpL.onis rfl rfl rfl (nb rfl) rfl (d_move rfl) ?_
     refine wpL.on rfl rfl rfl (nb rfl) rfl (d_call (xl := [.tmp 116]) (al := [(ptr L15.bN 0)]) Try.func25 (by kernel_rfl) rfl rfl rfl (nandDead_ok L15 s9 _ a16)) ?_
     rintro _ w194 ⟨rfl, o195⟩
     replace h1 := h1.step0 o195
     replace a16 := a16.step0 o195
     replace oW := oW.tail0 o195
     replace o26 := o26.tail0 o195
     refine wF ([(eN kk), u1, (zf25 2), (zf25 3), (zf189 4), (ptr L15.bN 0), (zf25 6), (eN d), (eN nx), (eN ops), (eN i), (eN 1), (eN 1), (zf189 13)] ++ (zs zf25 14 15 ++ (zs zf189 29 76 ++ [(Value.bool (decide (pv = 4))), (zf189 106), (eN d), (eN kk), (Value.bool (decide (d < kk))), (ptr L15.bN 0), (eN (s.eraseR ((9 : Nat) : Int) ((9 : Nat) : Int))), (eN 1), (eN 1), (Value.bool false), (Value.bool false), (ptr L15.bN 0), (Value.bool s9.dead)] ++ (zs zf189 118 11)))) ?_
     refine wpL.onis rfl rfl rfl (nb rfl) rfl (d_move rfl) ?_
     refine wpL.onis rfl rfl rfl (nb rfl) rfl (d_move rfl) ?_
     refine wpL.onis rfl rfl rfl (nb rfl) rfl (n_eql (a := d) (b := kk) rfl rfl (decide_eq_false c1)) ?_
     refine wF ([(eN kk), u1, (zf25 2), (zf25 3), (zf189 4), (ptr L15.bN 0), (zf25 6), (eN d), (eN nx), (eN ops), (eN i), (eN 1), (eN 1), (zf189 13)] ++ (zs zf25 14 15 ++ (zs zf189 29 76 ++ [(Value.bool (decide (pv = 4))), (zf189 106), (eN d), (eN kk), (Value.bool (decide (d < kk))), (ptr L15.bN 0), (eN (s.eraseR ((9 : Nat) : Int) ((9 : Nat) : Int))), (eN 1), (eN 1), (Value.bool false), (Value.bool false), (ptr L15.bN 0), (Value.bool s9.dead), (eN d), (eN kk), (Value.bool false)] ++ (zs zf189 121 8)))) ?_
     refine wpL.onis rfl rfl rfl (nb rfl) rfl (d_bneq (r := false) Try.underlying4 rfl rfl (by rw [stp_dead hI2]; first | rfl | (simp; done) | (simp [c1]; done) | (simp [c4]; done))) ?_
     refine wI (d_pick (b := false) (v := (Value.bool false)) rfl rfl) ?_
     refine wI (d_move rfl) ?_
     refine wF ([(eN kk), u1, (zf25 2), (zf25 3), (zf189 4), (ptr L15.bN 0), (zf25 6), (eN d), (eN nx), (eN ops), (eN i), (eN 1), (eN 1), (zf189 13)] ++ (zs zf25 14 15 ++ (zs zf189 29 76 ++ [(Value.bool (decide (pv = 4))), (zf189 106), (eN d), (eN kk), (Value.bool (decide (d < kk))), (ptr L15.bN 0), (eN (s.eraseR ((9 : Nat) : Int) ((9 : Nat) : Int))), (eN 1), (eN 1), (Value.bool false), (Value.bool false), (ptr L15.bN 0), (Value.bool s9.dead), (eN d), (eN kk), (Value.bool false), (Value.bool false), (Value.bool false), (Value.bool false)] ++ (zs zf189 124 5)))) ?_
     refine wpL.onis rfl rfl rfl (nb rfl) rfl (d_move rfl) ?_
     refine wpL.on rfl rfl rfl (nb rfl) rfl (d_call (xl := [.tmp 124]) (al := [(ptr L15.bN 0)]) Try.func19 (by kernel_rfl) rfl rfl rfl (nandOps_ok L15 s9 _ a16)) ?_
     rintro _ w196 ⟨rfl, o197⟩
     replace h1 := h1.step0 o197
     replace a16 := a16.step0 o197
     replace oW := oW.tail0 o197
     replace o26 := o26.tail0 o197
     refine wpL.onis rfl rfl rfl (nb rfl) rfl (d_move rfl) ?_
     refine wF ([(eN kk), u1, (zf25 2), (zf25 3), (zf189 4), (ptr L15.bN 0), (zf25 6), (eN d), (eN nx), (eN ops), (eN i), (eN 1), (eN 1), (zf189 13)] ++ (zs zf25 14 15 ++ (zs zf189 29 76 ++ [(Value.bool (decide (pv = 4))), (zf189 106), (eN d), (eN kk), (Value.bool (decide (d < kk))), (ptr L15.bN 0), (eN (s.eraseR ((9 : Nat) : Int) ((9 : Nat) : Int))), (eN 1), (eN 1), (Value.bool false), (Value.bool false), (ptr L15.bN 0), (Value.bool s9.dead), (eN d), (eN kk), (Value.bool false), (Value.bool false), (Value.bool false), (Value.bool false), (ptr L15.bN 0), (eI s9.ops), (eN ops), (zf189 127), (zf189 128)]))) ?_
     refine wpL.onis rfl rfl rfl (nb rfl) rfl (d_neq (k := .i64) (m := s9.ops) (n := ((ops : Nat) : Int)) rfl rfl (by rw [decide_eq_true (stp_ops hI2)] <;> rfl)) ?_
     refine wI (d_pick (b := false) (v := (Value.bool false)) rfl rfl) ?_
     refine wF ([(eN kk), u1, (zf25 2), (zf25 3), (zf189 4), (ptr L15.bN 0), (zf25 6), (eN d), (eN nx), (eN ops), (eN i), (eN 1), (eN 1), (zf189 13)] ++ (zs zf25 14 15 ++ (zs zf189 29 76 ++ [(Value.bool (decide (pv = 4))), (zf189 106), (eN d), (eN kk), (Value.bool (decide (d < kk))), (ptr L15.bN 0), (eN (s.eraseR ((9 : Nat) : Int) ((9 : Nat) : Int))), (eN 1), (eN 1), (Value.bool false), (Value.bool false), (ptr L15.bN 0), (Value.bool s9.dead), (eN d), (eN kk), (Value.bool false), (Value.bool false), (Value.bool false), (Value.bool false), (ptr L15.bN 0), (eI s9.ops), (eN ops), (Value.bool false), (Value.bool false)]))) ?_
     refine wpL.done ?_
     refine then_n ?_
     refine forget (fun zf198 => ([(eN kk), u1, (zf25 2), (zf25 3), (zf198 4), (ptr L15.bN 0), (zf25 6), (eN d), (eN nx), (eN ops), (eN i), (zf198 11), (zf198 12), (zf198 13)] ++ (zs zf25 14 15 ++ (zs zf198 29 99 ++ [(Value.bool false)])))) (by kernel_rfl) (fun zf198 => ?_)
     refine cond_f rfl ?_
     refine wpIn_skip ?_
     refine inb_n (then_n ?_)
     refine plain ?_
     refine wI (d_move rfl) ?_
     refine wI (n_add (a := i) (b := 1) rfl rfl (by omega)) ?_
     refine wI (d_assign rfl) ?_
     refine wF ([(eN kk), u1, (zf25 2), (zf25 3), (zf198 4), (ptr L15.bN 0), (zf25 6), (eN d), (eN nx), (eN ops), (eN (i + 1)), (zf198 11), (zf198 12), (zf198 13)] ++ (zs zf25 14 15 ++ (zs zf198 29 8 ++ [(eN i), (eN (i + 1))] ++ (zs zf198 39 89 ++ [(Value.bool false)])))) ?_
     refine wpL.done ?_
     refine then_n ?_
     refine ⟨_, ⟨i + 1, d, nx, ops, s9⟩, rfl, rfl, ⟨?_, ?_, ?_, ?_, ?_, ?_, ?_⟩, ?_⟩
     ·
      (try dsimp only)
      all_goals (omega)
     ·
      (try dsimp only)
      all_goals (omega)
     ·
      (try dsimp only)
      all_goals (omega)
     ·
      (try dsimp only)
      all_goals (omega)
     ·
      exact hI2
     ·
      exact o26
     ·
      exact a16
     ·
      (try dsimp only)
      all_goals (omega)
    omega
   omega
  refine wpIn_exit ?_
  refine then_x (then_x (inb_e ?_))
  refine then_n ?_
  refine forget (fun zf199 => (zs zf199 0 7 ++ [(eN d), (eN nx), (eN ops), (eN i)] ++ (zs zf199 11 118))) (by kernel_rfl) (fun zf199 => ?_)
  refine wpIn_seq ?_
  refine plain ?_
  refine wI (d_assign rfl) ?_
  refine wF ([(zf199 0), (zf199 1), (zf199 2), (zf199 3), (Value.bool true), (zf199 5), (zf199 6), (eN d), (eN nx), (eN ops), (eN i)] ++ (zs zf199 11 118)) ?_
  refine wpL.done ?_
  refine then_n ?_
  refine wpIn_ret ?_
  refine leave0 (v := (Value.bool true)) (res1 Try.results7 rfl) ?_
  exact ⟨rfl, oW⟩
 refine plain ?_
 refine wI (d_move rfl) ?_
 refine wI (d_move rfl) ?_
 refine wI (d_lenS rfl Try.underlying37 rfl h1) ?_
 refine wF ([(eN kk), u1, (zf25 2), (zf25 3), (z 4), (ptr L15.bN 0), (zf25 6), (eN d), (eN nx), (eN ops), (eN i), (z 11), (z 12), (z 13)] ++ (zs zf25 14 15 ++ [(eN i), u1, (eN ll.length)] ++ (zs z 32 97))) ?_
 refine wI (n_lss (a := i) (b := ll.length) rfl rfl (decide_eq_false k0)) ?_
 refine wI (d_move rfl) ?_
 refine wF ([(eN kk), u1, (zf25 2), (zf25 3), (z 4), (ptr L15.bN 0), (zf25 6), (eN d), (eN nx), (eN ops), (eN i), (z 11), (z 12), (z 13)] ++ (zs zf25 14 15 ++ [(eN i), u1, (eN ll.length), (Value.bool false), (Value.bool false)] ++ (zs z 34 95))) ?_
 refine wpL.off rfl rfl rfl (nb rfl) rfl ?_
 refine wpL.off rfl rfl rfl (nb rfl) rfl ?_
 refine wI (d_pick (b := false) (v := (Value.bool false)) rfl rfl) ?_
 refine wF ([(eN kk), u1, (zf25 2), (zf25 3), (z 4), (ptr L15.bN 0), (zf25 6), (eN d), (eN nx), (eN ops), (eN i), (z 11), (z 12), (z 13)] ++ (zs zf25 14 15 ++ [(eN i), u1, (eN ll.length), (Value.bool false), (Value.bool false), undef, undef, (Value.bool false)] ++ (zs z 37 92))) ?_
 refine wpL.done ?_
 refine then_n ?_
 refine cond_f rfl ?_
 refine wpIn_exit ?_
 refine then_x (then_x (inb_e ?_))
 refine then_n ?_
 refine forget (fun zf200 => (zs zf200 0 7 ++ [(eN d), (eN nx), (eN ops), (eN i)] ++ (zs zf200 11 118))) (by kernel_rfl) (fun zf200 => ?_)
 refine wpIn_seq ?_
 refine plain ?_
 refine wI (d_assign rfl) ?_
 refine wF ([(zf200 0), (zf200 1), (zf200 2), (zf200 3), (Value.bool true), (zf200 5), (zf200 6), (eN d), (eN nx), (eN ops), (eN i)] ++ (zs zf200 11 118)) ?_
 refine wpL.done ?_
 refine then_n ?_
 refine wpIn_ret ?_
 refine leave0 (v := (Value.bool true)) (res1 Try.results7 rfl) ?_
 exact ⟨rfl, oW⟩

end Go.Proofs.YtpamdlnobekihaaF
