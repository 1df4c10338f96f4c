import Derived.Test.YtpamdlnobekihaaFp
import Derived.Test.YtpamdlnobekihaaTy
import Derived.Test.YtpamdlnobekihaaHnandu
set_option linter.unusedVariables false
set_option linter.unusedSimpArgs false
namespace Go.Proofs.YtpamdlnobekihaaF
open Go Go.Shelf Go.Proofs.YtpamdlnobekihaaS Ram
set_option maxRecDepth 20000 in
set_option maxHeartbeats 4000000 in
theorem nandOrder_law (ll : List Int) (lb : List UInt8) (u1 : Value) (u2 : Value) (W : World) (h1 : Ps No (Seq kI ll u1) W) (h2 : Ps No (Seq kB lb u2) W) (g1 : ll.length ≤ 17592186043904) (g2 : lb.length ≤ 140737488351232) :
    CW Try.prog 5 #[u1, u2] W (Rt (RIs (.bool true) W)) := by
 have oW : Only No W W := Only.refl _ _
 refine enter (al := [u1, u2]) (k := 124) (l := ([u1, u2] ++ (us 124))) Try.func5 rfl Try.ntmps5 rfl rfl ?_
 refine wpIn_seq ?_
 refine plain ?_
 refine wI (d_assign rfl) ?_
 refine wF ([u1, u2, undef, undef, (Value.bool false)] ++ (us 121)) ?_
 refine wpL.done ?_
 refine then_n ?_
 refine wpIn_seq ?_
 refine wpIn_seq ?_
 refine plain ?_
 refine wO (d_call (xl := []) (al := []) Try.func11 (by kernel_rfl) rfl rfl rfl (law7Known_ok _)) ?_
 rintro _ w11 ⟨rfl, o12⟩
 replace h1 := h1.step0 o12
 replace h2 := h2.step0 o12
 replace oW := oW.tail0 o12
 refine wI (d_not rfl rfl) ?_
 refine wF ([u1, u2, undef, undef, (Value.bool false)] ++ (us 12 ++ [(Value.bool true), (Value.bool false)] ++ (us 107))) ?_
 refine wpL.done ?_
 refine then_n ?_
 refine cond_f rfl ?_
 refine wpIn_skip ?_
 refine then_n ?_
 refine wpIn_seq ?_
 refine plain ?_
 refine wI (d_buildS (pl := [(0, 1), (1, 1), (2, 1)]) (zs := [(eN 0), (eN 0), (eN 0)]) (cs := [(eN 6), (eN 8), (eN 8)]) Try.underlying23 s_ti23 ⟨_, _, _, _, rfl, s_ti3, ⟨_, _, _, _, rfl, s_ti3, ⟨_, _, _, _, rfl, s_ti3, rfl⟩⟩⟩ rfl (parts_cons (vs := [(eN 6)]) (cells_of (v := (eN 6)) rfl rfl) (parts_cons (vs := [(eN 8)]) (cells_of (v := (eN 8)) rfl rfl) (parts_cons (vs := [(eN 8)]) (cells_of (v := (eN 8)) rfl rfl) parts_nil))) rfl) ?_
 refine wO (d_call (xl := [.tmp 20, .const (.slice none 0 0)]) (al := [(Value.agg #[(eN 6), (eN 8), (eN 8)]), (Value.slice none 0 0)]) Try.func13 (by kernel_rfl) rfl rfl rfl (new0_ok 6 8 8 _ (by omega) (by omega) (by omega))) ?_
 rintro _ w13 ⟨L15, rfl, ⟨a16, g17⟩, o14⟩
 have g_oW_L15 : ∀ k, L15.S k → W.heap.size ≤ k := fun k hk => Nat.le_trans oW.size (g17 k hk)
 replace a16 := a16.less (Y := No) no_old
 replace h1 := h1.re (X' := Ors L15.S No) o14 (fun _ t => t.elim) (xx_news g17 xx_id)
 replace h2 := h2.re (X' := Ors L15.S No) o14 (fun _ t => t.elim) (xx_news g17 xx_id)
 replace oW := oW.tail0 o14
 refine wI (d_move rfl) ?_
 refine wF ([u1, u2, undef, undef, (Value.bool false)] ++ (us 12 ++ [(Value.bool true), (Value.bool false), (Value.tuple #[(ptr L15.bN 0), (eN 0)]), (Value.agg #[(eN 6), (eN 8), (eN 8)]), (Value.tuple #[(ptr L15.bN 0), (eN 0)])] ++ (us 104))) ?_
 refine wI (d_extract (v := (ptr L15.bN 0)) rfl rfl) ?_
 refine wI (d_extract (v := (eN 0)) rfl rfl) ?_
 refine wI (d_assign rfl) ?_
 refine wF ([u1, u2, undef, undef, (Value.bool false), (ptr L15.bN 0)] ++ (us 11 ++ [(Value.bool true), (Value.bool false), (Value.tuple #[(ptr L15.bN 0), (eN 0)]), (Value.agg #[(eN 6), (eN 8), (eN 8)]), (Value.tuple #[(ptr L15.bN 0), (eN 0)]), (ptr L15.bN 0), (eN 0)] ++ (us 102))) ?_
 refine wI (d_assign rfl) ?_
 refine wF ([u1, u2, undef, undef, (Value.bool false), (ptr L15.bN 0), (eN 0)] ++ (us 10 ++ [(Value.bool true), (Value.bool false), (Value.tuple #[(ptr L15.bN 0), (eN 0)]), (Value.agg #[(eN 6), (eN 8), (eN 8)]), (Value.tuple #[(ptr L15.bN 0), (eN 0)]), (ptr L15.bN 0), (eN 0)] ++ (us 102))) ?_
 refine wpL.done ?_
 refine then_n ?_
 refine wpIn_seq ?_
 refine wpIn_seq ?_
 refine plain ?_
 refine wI (d_move rfl) ?_
 refine wI (n_neq (a := 0) (b := 0) rfl rfl (by rw [decide_eq_true rfl] <;> rfl)) ?_
 refine wF ([u1, u2, undef, undef, (Value.bool false), (ptr L15.bN 0), (eN 0)] ++ (us 10 ++ [(Value.bool true), (Value.bool false), (Value.tuple #[(ptr L15.bN 0), (eN 0)]), (Value.agg #[(eN 6), (eN 8), (eN 8)]), (Value.tuple #[(ptr L15.bN 0), (eN 0)]), (ptr L15.bN 0), (eN 0), (eN 0), (Value.bool false)] ++ (us 100))) ?_
 refine wpL.done ?_
 refine then_n ?_
 refine cond_f rfl ?_
 refine wpIn_skip ?_
 refine then_n ?_
 refine wpIn_seq ?_
 refine plain ?_
 refine wI (d_assign rfl) ?_
 refine wI (d_assign rfl) ?_
 refine wF ([u1, u2, undef, undef, (Value.bool false), (ptr L15.bN 0), (eN 0), (eN 0), (eN 0)] ++ (us 8 ++ [(Value.bool true), (Value.bool false), (Value.tuple #[(ptr L15.bN 0), (eN 0)]), (Value.agg #[(eN 6), (eN 8), (eN 8)]), (Value.tuple #[(ptr L15.bN 0), (eN 0)]), (ptr L15.bN 0), (eN 0), (eN 0), (Value.bool false)] ++ (us 100))) ?_
 refine wpL.done ?_
 refine then_n ?_
 refine wpIn_seq ?_
 refine wpIn_seq ?_
 refine plain ?_
 refine wI (d_assign rfl) ?_
 refine wF ([u1, u2, undef, undef, (Value.bool false), (ptr L15.bN 0), (eN 0), (eN 0), (eN 0), (eN 0)] ++ (us 7 ++ [(Value.bool true), (Value.bool false), (Value.tuple #[(ptr L15.bN 0), (eN 0)]), (Value.agg #[(eN 6), (eN 8), (eN 8)]), (Value.tuple #[(ptr L15.bN 0), (eN 0)]), (ptr L15.bN 0), (eN 0), (eN 0), (Value.bool false)] ++ (us 100))) ?_
 refine wpL.done ?_
 refine then_n ?_
 refine wpIn_block ?_
 refine loop2 (fun (s_ : (Nat) × (Nat) × (Nat) × (NS)) => match s_ with | ⟨i, nx, wr, s⟩ => fun (z : Nat → Value) => (([u1, u2, undef, undef, (z 4), (ptr L15.bN 0), (eN 0), (eN nx), (eN wr), (eN i), (z 10), (z 11)] ++ (us 5 ++ [(Value.bool true), (Value.bool false), (Value.tuple #[(ptr L15.bN 0), (eN 0)]), (Value.agg #[(eN 6), (eN 8), (eN 8)]), (Value.tuple #[(ptr L15.bN 0), (eN 0)]), (ptr L15.bN 0), (eN 0), (eN 0), (Value.bool false)] ++ (zs z 26 40 ++ (us 60)))) : List Value)) (fun (s_ : (Nat) × (Nat) × (Nat) × (NS)) => match s_ with | ⟨i, nx, wr, s⟩ => fun (w_ : World) => (i ≤ 30) ∧ (wr ≤ i) ∧ (nx ≤ 8) ∧ (OrdI s nx wr (bytesL lb 60)) ∧ Only (Ors L15.S No) w13 w_ ∧ Nd L15 s No w_) (fun (s_ : (Nat) × (Nat) × (Nat) × (NS)) => match s_ with | ⟨i, nx, wr, s⟩ => 30 - i) ⟨0, 0, 0, (NS.new 6 8 8 (fun _ _ => false))⟩ rfl ?_ ?_
 ·
  refine ⟨?_, ?_, ?_, ?_, ?_, ?_⟩
  ·
   (try dsimp only)
   all_goals (omega)
  ·
   (try dsimp only)
   all_goals (omega)
  ·
   (try dsimp only)
   all_goals (omega)
  ·
   exact ord_new (bytesL lb 60)
  ·
   exact Only.refl _ _
  ·
   exact a16
 rintro ⟨i, nx, wr, s⟩ z w19 ⟨hi, hw, hn8, hI, o18, a16⟩
 (try dsimp only)
 replace h1 := h1.step o18 (ors_mono no_any)
 replace h2 := h2.step o18 (ors_mono no_any)
 replace oW := oW.tail o18 (tl_snew g_oW_L15 tl_no)
 refine wpIn_seq ?_
 refine wpIn_seq ?_
 by_cases k0 : i < ll.length
 ·
  refine plain ?_
  refine wI (d_move rfl) ?_
  refine wI (d_move rfl) ?_
  refine wI (d_lenS rfl Try.underlying37 rfl h1) ?_
  refine wF ([u1, u2, undef, undef, (z 4), (ptr L15.bN 0), (eN 0), (eN nx), (eN wr), (eN i), (z 10), (z 11)] ++ (us 5 ++ [(Value.bool true), (Value.bool false), (Value.tuple #[(ptr L15.bN 0), (eN 0)]), (Value.agg #[(eN 6), (eN 8), (eN 8)]), (Value.tuple #[(ptr L15.bN 0), (eN 0)]), (ptr L15.bN 0), (eN 0), (eN 0), (Value.bool false), (eN i), u1, (eN ll.length)] ++ (zs z 29 37 ++ (us 60)))) ?_
  refine wI (n_lss (a := i) (b := ll.length) rfl rfl (decide_eq_true k0)) ?_
  refine wI (d_move rfl) ?_
  refine wpL.onis rfl rfl rfl (nb rfl) rfl (d_move rfl) ?_
  refine wF ([u1, u2, undef, undef, (z 4), (ptr L15.bN 0), (eN 0), (eN nx), (eN wr), (eN i), (z 10), (z 11)] ++ (us 5 ++ [(Value.bool true), (Value.bool false), (Value.tuple #[(ptr L15.bN 0), (eN 0)]), (Value.agg #[(eN 6), (eN 8), (eN 8)]), (Value.tuple #[(ptr L15.bN 0), (eN 0)]), (ptr L15.bN 0), (eN 0), (eN 0), (Value.bool false), (eN i), u1, (eN ll.length), (Value.bool true), (Value.bool true), (eN i)] ++ (zs z 32 34 ++ (us 60)))) ?_
  refine wpL.onis rfl rfl rfl (nb rfl) rfl (n_lss (a := i) (b := 30) rfl rfl rfl) ?_
  refine wI (d_pick (b := true) (v := (Value.bool (decide (i < 30)))) rfl rfl) ?_
  refine wF ([u1, u2, undef, undef, (z 4), (ptr L15.bN 0), (eN 0), (eN nx), (eN wr), (eN i), (z 10), (z 11)] ++ (us 5 ++ [(Value.bool true), (Value.bool false), (Value.tuple #[(ptr L15.bN 0), (eN 0)]), (Value.agg #[(eN 6), (eN 8), (eN 8)]), (Value.tuple #[(ptr L15.bN 0), (eN 0)]), (ptr L15.bN 0), (eN 0), (eN 0), (Value.bool false), (eN i), u1, (eN ll.length), (Value.bool true), (Value.bool true), (eN i), (Value.bool (decide (i < 30))), (Value.bool (decide (i < 30)))] ++ (zs z 34 32 ++ (us 60)))) ?_
  refine wpL.done ?_
  refine then_n ?_
  refine cond_if rfl (fun ci => ?_) (fun ci => ?_)
  ·
   refine wpIn_skip ?_
   refine then_n ?_
   refine wpIn_seq ?_
   refine wpIn_block ?_
   refine wpIn_seq ?_
   refine plain ?_
   refine wI (d_move rfl) ?_
   refine wI (d_move rfl) ?_
   refine wI (d_ix (i := i) (xs := ll) Try.underlying37 s_ti3 rfl h1 (show _ = Value.int _ ((i : Nat) : Int) from rfl) (by first | omega | (simp; done) | (simp; omega))) ?_
   refine wF ([u1, u2, undef, undef, (z 4), (ptr L15.bN 0), (eN 0), (eN nx), (eN wr), (eN i), (z 10), (z 11)] ++ (us 5 ++ [(Value.bool true), (Value.bool false), (Value.tuple #[(ptr L15.bN 0), (eN 0)]), (Value.agg #[(eN 6), (eN 8), (eN 8)]), (Value.tuple #[(ptr L15.bN 0), (eN 0)]), (ptr L15.bN 0), (eN 0), (eN 0), (Value.bool false), (eN i), u1, (eN ll.length), (Value.bool true), (Value.bool true), (eN i), (Value.bool (decide (i < 30))), (Value.bool (decide (i < 30))), (z 34), (z 35), u1, (eN i), (ixp u1 i)] ++ (zs z 39 27 ++ (us 60)))) ?_
   refine wI (d_ldx (i := i) (xs := ll) (enc := eI) (v := (ll.getD i 0)) ⟨_, Try.underlying3, rfl⟩ rfl h1 (g_at (by first | omega | (simp; done) | (simp; omega)))) ?_
   refine wO (d_call (xl := [.tmp 39, .const (.int .i64 10)]) (al := [(eI (ll.getD i 0)), (eN 10)]) Try.func12 (by kernel_rfl) rfl rfl rfl (law7Within_ok (ll.getD i 0) 10 _ (by omega) (by omega))) ?_
   rintro _ w20 ⟨rfl, o21⟩
   replace h1 := h1.step0 o21
   replace h2 := h2.step0 o21
   replace a16 := a16.step0 o21
   replace oW := oW.tail0 o21
   replace o18 := o18.tail0 o21
   refine wI (d_assign rfl) ?_
   refine wF ([u1, u2, undef, undef, (z 4), (ptr L15.bN 0), (eN 0), (eN nx), (eN wr), (eN i), (eN (((ll.getD i 0) % ((10 : Nat) : Int)).toNat)), (z 11)] ++ (us 5 ++ [(Value.bool true), (Value.bool false), (Value.tuple #[(ptr L15.bN 0), (eN 0)]), (Value.agg #[(eN 6), (eN 8), (eN 8)]), (Value.tuple #[(ptr L15.bN 0), (eN 0)]), (ptr L15.bN 0), (eN 0), (eN 0), (Value.bool false), (eN i), u1, (eN ll.length), (Value.bool true), (Value.bool true), (eN i), (Value.bool (decide (i < 30))), (Value.bool (decide (i < 30))), (z 34), (z 35), u1, (eN i), (ixp u1 i), (eI (ll.getD i 0)), (eN (((ll.getD i 0) % ((10 : Nat) : Int)).toNat))] ++ (zs z 41 25 ++ (us 60)))) ?_
   refine wpL.done ?_
   refine then_n ?_
   refine wpIn_seq ?_
   refine wpIn_seq ?_
   refine plain ?_
   refine wI (d_move rfl) ?_
   refine wI (n_eql (a := (((ll.getD i 0) % ((10 : Nat) : Int)).toNat)) (b := 9) rfl rfl rfl) ?_
   refine wF ([u1, u2, undef, undef, (z 4), (ptr L15.bN 0), (eN 0), (eN nx), (eN wr), (eN i), (eN (((ll.getD i 0) % ((10 : Nat) : Int)).toNat)), (z 11)] ++ (us 5 ++ [(Value.bool true), (Value.bool false), (Value.tuple #[(ptr L15.bN 0), (eN 0)]), (Value.agg #[(eN 6), (eN 8), (eN 8)]), (Value.tuple #[(ptr L15.bN 0), (eN 0)]), (ptr L15.bN 0), (eN 0), (eN 0), (Value.bool false), (eN i), u1, (eN ll.length), (Value.bool true), (Value.bool true), (eN i), (Value.bool (decide (i < 30))), (Value.bool (decide (i < 30))), (z 34), (z 35), u1, (eN i), (ixp u1 i), (eI (ll.getD i 0)), (eN (((ll.getD i 0) % ((10 : Nat) : Int)).toNat)), (eN (((ll.getD i 0) % ((10 : Nat) : Int)).toNat)), (Value.bool (decide ((((ll.getD i 0) % ((10 : Nat) : Int)).toNat) = 9)))] ++ (zs z 43 23 ++ (us 60)))) ?_
   refine wpL.done ?_
   refine then_n ?_
   refine cond_if rfl (fun c9 => ?_) (fun c9 => ?_)
   ·
    refine wpIn_seq ?_
    refine wpIn_seq ?_
    refine plain ?_
    refine wI (d_move rfl) ?_
    refine wO (d_call (xl := [.tmp 43, .const (.int .i64 1), .const (.int .i64 2)]) (al := [(ptr L15.bN 0), (eN 1), (eN 2)]) Try.func23 (by kernel_rfl) rfl rfl rfl (erase_ok L15 s _ a16 ((1 : Nat) : Int) ((2 : Nat) : Int) lt_no)) ?_
    rintro _ w22 ⟨rfl, a24, o23⟩
    replace h1 := h1.step o23 sub1
    replace h2 := h2.step o23 sub1
    replace oW := oW.tail o23 (fun k hk e => by have := g_oW_L15 k e; omega)
    replace o18 := o18.tail o23 (fun k _ e => sub1 k e)
    replace a16 := a24
    refine wI (n_neq (a := (s.eraseR ((1 : Nat) : Int) ((2 : Nat) : Int))) (b := 0) rfl rfl (by rw [decide_eq_true ((ord_erase hI).1)] <;> rfl)) ?_
    refine wF ([u1, u2, undef, undef, (z 4), (ptr L15.bN 0), (eN 0), (eN nx), (eN wr), (eN i), (eN (((ll.getD i 0) % ((10 : Nat) : Int)).toNat)), (z 11)] ++ (us 5 ++ [(Value.bool true), (Value.bool false), (Value.tuple #[(ptr L15.bN 0), (eN 0)]), (Value.agg #[(eN 6), (eN 8), (eN 8)]), (Value.tuple #[(ptr L15.bN 0), (eN 0)]), (ptr L15.bN 0), (eN 0), (eN 0), (Value.bool false), (eN i), u1, (eN ll.length), (Value.bool true), (Value.bool true), (eN i), (Value.bool (decide (i < 30))), (Value.bool (decide (i < 30))), (z 34), (z 35), u1, (eN i), (ixp u1 i), (eI (ll.getD i 0)), (eN (((ll.getD i 0) % ((10 : Nat) : Int)).toNat)), (eN (((ll.getD i 0) % ((10 : Nat) : Int)).toNat)), (Value.bool (decide ((((ll.getD i 0) % ((10 : Nat) : Int)).toNat) = 9))), (ptr L15.bN 0), (eN (s.eraseR ((1 : Nat) : Int) ((2 : Nat) : Int))), (Value.bool false)] ++ (zs z 46 20 ++ (us 60)))) ?_
    refine wpL.done ?_
    refine then_n ?_
    refine cond_f rfl ?_
    refine wpIn_skip ?_
    refine then_n ?_
    refine wpIn_seq ?_
    refine plain ?_
    refine wI (d_assign rfl) ?_
    refine wF ([u1, u2, undef, undef, (z 4), (ptr L15.bN 0), (eN 0), (eN 0), (eN wr), (eN i), (eN (((ll.getD i 0) % ((10 : Nat) : Int)).toNat)), (z 11)] ++ (us 5 ++ [(Value.bool true), (Value.bool false), (Value.tuple #[(ptr L15.bN 0), (eN 0)]), (Value.agg #[(eN 6), (eN 8), (eN 8)]), (Value.tuple #[(ptr L15.bN 0), (eN 0)]), (ptr L15.bN 0), (eN 0), (eN 0), (Value.bool false), (eN i), u1, (eN ll.length), (Value.bool true), (Value.bool true), (eN i), (Value.bool (decide (i < 30))), (Value.bool (decide (i < 30))), (z 34), (z 35), u1, (eN i), (ixp u1 i), (eI (ll.getD i 0)), (eN (((ll.getD i 0) % ((10 : Nat) : Int)).toNat)), (eN (((ll.getD i 0) % ((10 : Nat) : Int)).toNat)), (Value.bool (decide ((((ll.getD i 0) % ((10 : Nat) : Int)).toNat) = 9))), (ptr L15.bN 0), (eN (s.eraseR ((1 : Nat) : Int) ((2 : Nat) : Int))), (Value.bool false)] ++ (zs z 46 20 ++ (us 60)))) ?_
    refine wpL.done ?_
    refine then_n ?_
    refine wpIn_exit ?_
    refine then_x (inb_e ?_)
    refine then_n ?_
    refine plain ?_
    refine wI (d_move rfl) ?_
    refine wI (n_add (a := i) (b := 1) rfl rfl (by omega)) ?_
    refine wI (d_assign rfl) ?_
    refine wF ([u1, u2, undef, undef, (z 4), (ptr L15.bN 0), (eN 0), (eN 0), (eN wr), (eN (i + 1)), (eN (((ll.getD i 0) % ((10 : Nat) : Int)).toNat)), (z 11)] ++ (us 5 ++ [(Value.bool true), (Value.bool false), (Value.tuple #[(ptr L15.bN 0), (eN 0)]), (Value.agg #[(eN 6), (eN 8), (eN 8)]), (Value.tuple #[(ptr L15.bN 0), (eN 0)]), (ptr L15.bN 0), (eN 0), (eN 0), (Value.bool false), (eN i), u1, (eN ll.length), (Value.bool true), (Value.bool true), (eN i), (Value.bool (decide (i < 30))), (Value.bool (decide (i < 30))), (eN i), (eN (i + 1)), u1, (eN i), (ixp u1 i), (eI (ll.getD i 0)), (eN (((ll.getD i 0) % ((10 : Nat) : Int)).toNat)), (eN (((ll.getD i 0) % ((10 : Nat) : Int)).toNat)), (Value.bool (decide ((((ll.getD i 0) % ((10 : Nat) : Int)).toNat) = 9))), (ptr L15.bN 0), (eN (s.eraseR ((1 : Nat) : Int) ((2 : Nat) : Int))), (Value.bool false)] ++ (zs z 46 20 ++ (us 60)))) ?_
    refine wpL.done ?_
    refine then_n ?_
    refine ⟨_, ⟨i + 1, 0, wr, (s.erase ((1 : Nat) : Int) ((2 : Nat) : Int))⟩, rfl, rfl, ⟨?_, ?_, ?_, ?_, ?_, ?_⟩, ?_⟩
    ·
     (try dsimp only)
     all_goals (omega)
    ·
     (try dsimp only)
     all_goals (omega)
    ·
     (try dsimp only)
     all_goals (omega)
    ·
     exact (ord_erase hI).2
    ·
     exact o18
    ·
     exact a16
    ·
     (try dsimp only)
     all_goals (omega)
   refine wpIn_skip ?_
   refine then_n ?_
   refine wpIn_seq ?_
   refine plain ?_
   refine wI (d_move rfl) ?_
   refine wI (d_move rfl) ?_
   refine wI (d_move rfl) ?_
   refine wF ([u1, u2, undef, undef, (z 4), (ptr L15.bN 0), (eN 0), (eN nx), (eN wr), (eN i), (eN (((ll.getD i 0) % ((10 : Nat) : Int)).toNat)), (z 11)] ++ (us 5 ++ [(Value.bool true), (Value.bool false), (Value.tuple #[(ptr L15.bN 0), (eN 0)]), (Value.agg #[(eN 6), (eN 8), (eN 8)]), (Value.tuple #[(ptr L15.bN 0), (eN 0)]), (ptr L15.bN 0), (eN 0), (eN 0), (Value.bool false), (eN i), u1, (eN ll.length), (Value.bool true), (Value.bool true), (eN i), (Value.bool (decide (i < 30))), (Value.bool (decide (i < 30))), (z 34), (z 35), u1, (eN i), (ixp u1 i), (eI (ll.getD i 0)), (eN (((ll.getD i 0) % ((10 : Nat) : Int)).toNat)), (eN (((ll.getD i 0) % ((10 : Nat) : Int)).toNat)), (Value.bool (decide ((((ll.getD i 0) % ((10 : Nat) : Int)).toNat) = 9))), (z 43), (z 44), (z 45), (ptr L15.bN 0), (eN (((ll.getD i 0) % ((10 : Nat) : Int)).toNat)), u2] ++ (zs z 49 17 ++ (us 60)))) ?_
   refine wO (d_call (xl := [.tmp 48, .const (.int .i64 60)]) (al := [u2, (eN 60)]) Try.func16 (by kernel_rfl) rfl rfl rfl (law7Bytes_ok lb 60 u2 _ (Ps.no h2) (by first | omega | (simp; done) | (simp; omega)) (by omega))) ?_
   rintro u27 w25 f28
   replace f28 := f28.ps
   obtain ⟨f28, o26⟩ := f28
   replace f28 := f28.less (Y := (Ors L15.S (Old W.heap.size))) (ors_old a16.lt (old_old oW.size))
   replace h1 := h1.step0 o26
   replace h2 := h2.step0 o26
   replace a16 := a16.step0 o26
   replace oW := oW.tail0 o26
   replace o18 := o18.tail0 o26
   refine wO (d_call (xl := [.tmp 46, .const (.int .i64 1), .const (.int .i64 2), .tmp 47, .tmp 49]) (al := [(ptr L15.bN 0), (eN 1), (eN 2), (eN (((ll.getD i 0) % ((10 : Nat) : Int)).toNat)), u27]) Try.func20 (by kernel_rfl) rfl rfl rfl (prog_ok L15 s _ a16 ((1 : Nat) : Int) ((2 : Nat) : Int) ((((ll.getD i 0) % ((10 : Nat) : Int)).toNat : Nat) : Int) (bytesL lb 60) u27 lt_no (f28.less (os_of sub1)) (by have := bytesL_len lb 60; first | omega | (simp; done) | (simp; omega)))) ?_
   rintro _ w29 ⟨rfl, a31, o30⟩
   replace h1 := h1.step o30 sub1
   replace h2 := h2.step o30 sub1
   replace f28 := f28.step o30 sub1
   replace oW := oW.tail o30 (fun k hk e => by have := g_oW_L15 k e; omega)
   replace o18 := o18.tail o30 (fun k _ e => sub1 k e)
   replace a16 := a31
   refine wI (d_assign rfl) ?_
   refine wF ([u1, u2, undef, undef, (z 4), (ptr L15.bN 0), (eN 0), (eN nx), (eN wr), (eN i), (eN (((ll.getD i 0) % ((10 : Nat) : Int)).toNat)), (eN (s.progR ((1 : Nat) : Int) ((2 : Nat) : Int) ((((ll.getD i 0) % ((10 : Nat) : Int)).toNat : Nat) : Int) (bytesL lb 60)))] ++ (us 5 ++ [(Value.bool true), (Value.bool false), (Value.tuple #[(ptr L15.bN 0), (eN 0)]), (Value.agg #[(eN 6), (eN 8), (eN 8)]), (Value.tuple #[(ptr L15.bN 0), (eN 0)]), (ptr L15.bN 0), (eN 0), (eN 0), (Value.bool false), (eN i), u1, (eN ll.length), (Value.bool true), (Value.bool true), (eN i), (Value.bool (decide (i < 30))), (Value.bool (decide (i < 30))), (z 34), (z 35), u1, (eN i), (ixp u1 i), (eI (ll.getD i 0)), (eN (((ll.getD i 0) % ((10 : Nat) : Int)).toNat)), (eN (((ll.getD i 0) % ((10 : Nat) : Int)).toNat)), (Value.bool (decide ((((ll.getD i 0) % ((10 : Nat) : Int)).toNat) = 9))), (z 43), (z 44), (z 45), (ptr L15.bN 0), (eN (((ll.getD i 0) % ((10 : Nat) : Int)).toNat)), u2, u27, (eN (s.progR ((1 : Nat) : Int) ((2 : Nat) : Int) ((((ll.getD i 0) % ((10 : Nat) : Int)).toNat : Nat) : Int) (bytesL lb 60)))] ++ (zs z 51 15 ++ (us 60)))) ?_
   refine wpL.done ?_
   refine then_n ?_
   refine wpIn_seq ?_
   by_cases k1 : (((ll.getD i 0) % ((10 : Nat) : Int)).toNat) = nx
   ·
    by_cases k2 : (((ll.getD i 0) % ((10 : Nat) : Int)).toNat) < 8
    ·
     refine plain ?_
     refine wI (d_move rfl) ?_
     refine wI (d_move rfl) ?_
     refine wI (n_eql (a := (((ll.getD i 0) % ((10 : Nat) : Int)).toNat)) (b := nx) rfl rfl (decide_eq_true k1)) ?_
     refine wF ([u1, u2, undef, undef, (z 4), (ptr L15.bN 0), (eN 0), (eN nx), (eN wr), (eN i), (eN (((ll.getD i 0) % ((10 : Nat) : Int)).toNat)), (eN (s.progR ((1 : Nat) : Int) ((2 : Nat) : Int) ((((ll.getD i 0) % ((10 : Nat) : Int)).toNat : Nat) : Int) (bytesL lb 60)))] ++ (us 5 ++ [(Value.bool true), (Value.bool false), (Value.tuple #[(ptr L15.bN 0), (eN 0)]), (Value.agg #[(eN 6), (eN 8), (eN 8)]), (Value.tuple #[(ptr L15.bN 0), (eN 0)]), (ptr L15.bN 0), (eN 0), (eN 0), (Value.bool false), (eN i), u1, (eN ll.length), (Value.bool true), (Value.bool true), (eN i), (Value.bool (decide (i < 30))), (Value.bool (decide (i < 30))), (z 34), (z 35), u1, (eN i), (ixp u1 i), (eI (ll.getD i 0)), (eN (((ll.getD i 0) % ((10 : Nat) : Int)).toNat)), (eN (((ll.getD i 0) % ((10 : Nat) : Int)).toNat)), (Value.bool (decide ((((ll.getD i 0) % ((10 : Nat) : Int)).toNat) = 9))), (z 43), (z 44), (z 45), (ptr L15.bN 0), (eN (((ll.getD i 0) % ((10 : Nat) : Int)).toNat)), u2, u27, (eN (s.progR ((1 : Nat) : Int) ((2 : Nat) : Int) ((((ll.getD i 0) % ((10 : Nat) : Int)).toNat : Nat) : Int) (bytesL lb 60))), (eN (((ll.getD i 0) % ((10 : Nat) : Int)).toNat)), (eN nx), (Value.bool true)] ++ (zs z 54 12 ++ (us 60)))) ?_
     refine wI (d_move rfl) ?_
     refine wpL.onis rfl rfl rfl (nb rfl) rfl (d_move rfl) ?_
     refine wpL.onis rfl rfl rfl (nb rfl) rfl (n_lss (a := (((ll.getD i 0) % ((10 : Nat) : Int)).toNat)) (b := 8) rfl rfl (decide_eq_true k2)) ?_
     refine wF ([u1, u2, undef, undef, (z 4), (ptr L15.bN 0), (eN 0), (eN nx), (eN wr), (eN i), (eN (((ll.getD i 0) % ((10 : Nat) : Int)).toNat)), (eN (s.progR ((1 : Nat) : Int) ((2 : Nat) : Int) ((((ll.getD i 0) % ((10 : Nat) : Int)).toNat : Nat) : Int) (bytesL lb 60)))] ++ (us 5 ++ [(Value.bool true), (Value.bool false), (Value.tuple #[(ptr L15.bN 0), (eN 0)]), (Value.agg #[(eN 6), (eN 8), (eN 8)]), (Value.tuple #[(ptr L15.bN 0), (eN 0)]), (ptr L15.bN 0), (eN 0), (eN 0), (Value.bool false), (eN i), u1, (eN ll.length), (Value.bool true), (Value.bool true), (eN i), (Value.bool (decide (i < 30))), (Value.bool (decide (i < 30))), (z 34), (z 35), u1, (eN i), (ixp u1 i), (eI (ll.getD i 0)), (eN (((ll.getD i 0) % ((10 : Nat) : Int)).toNat)), (eN (((ll.getD i 0) % ((10 : Nat) : Int)).toNat)), (Value.bool (decide ((((ll.getD i 0) % ((10 : Nat) : Int)).toNat) = 9))), (z 43), (z 44), (z 45), (ptr L15.bN 0), (eN (((ll.getD i 0) % ((10 : Nat) : Int)).toNat)), u2, u27, (eN (s.progR ((1 : Nat) : Int) ((2 : Nat) : Int) ((((ll.getD i 0) % ((10 : Nat) : Int)).toNat : Nat) : Int) (bytesL lb 60))), (eN (((ll.getD i 0) % ((10 : Nat) : Int)).toNat)), (eN nx), (Value.bool true), (Value.bool true), (eN (((ll.getD i 0) % ((10 : Nat) : Int)).toNat)), (Value.bool true)] ++ (zs z 57 9 ++ (us 60)))) ?_
     refine wI (d_pick (b := true) (v := (Value.bool true)) rfl rfl) ?_
     refine wF ([u1, u2, undef, undef, (z 4), (ptr L15.bN 0), (eN 0), (eN nx), (eN wr), (eN i), (eN (((ll.getD i 0) % ((10 : Nat) : Int)).toNat)), (eN (s.progR ((1 : Nat) : Int) ((2 : Nat) : Int) ((((ll.getD i 0) % ((10 : Nat) : Int)).toNat : Nat) : Int) (bytesL lb 60)))] ++ (us 5 ++ [(Value.bool true), (Value.bool false), (Value.tuple #[(ptr L15.bN 0), (eN 0)]), (Value.agg #[(eN 6), (eN 8), (eN 8)]), (Value.tuple #[(ptr L15.bN 0), (eN 0)]), (ptr L15.bN 0), (eN 0), (eN 0), (Value.bool false), (eN i), u1, (eN ll.length), (Value.bool true), (Value.bool true), (eN i), (Value.bool (decide (i < 30))), (Value.bool (decide (i < 30))), (z 34), (z 35), u1, (eN i), (ixp u1 i), (eI (ll.getD i 0)), (eN (((ll.getD i 0) % ((10 : Nat) : Int)).toNat)), (eN (((ll.getD i 0) % ((10 : Nat) : Int)).toNat)), (Value.bool (decide ((((ll.getD i 0) % ((10 : Nat) : Int)).toNat) = 9))), (z 43), (z 44), (z 45), (ptr L15.bN 0), (eN (((ll.getD i 0) % ((10 : Nat) : Int)).toNat)), u2, u27, (eN (s.progR ((1 : Nat) : Int) ((2 : Nat) : Int) ((((ll.getD i 0) % ((10 : Nat) : Int)).toNat : Nat) : Int) (bytesL lb 60))), (eN (((ll.getD i 0) % ((10 : Nat) : Int)).toNat)), (eN nx), (Value.bool true), (Value.bool true), (eN (((ll.getD i 0) % ((10 : Nat) : Int)).toNat)), (Value.bool true), (Value.bool true)] ++ (zs z 58 8 ++ (us 60)))) ?_
     refine wpL.done ?_
     refine then_n ?_
     refine cond_t rfl ?_
     refine wpIn_seq ?_
     refine plain ?_
     refine wI (d_move rfl) ?_
     refine wI (n_add (a := nx) (b := 1) rfl rfl (by omega)) ?_
     refine wI (d_assign rfl) ?_
     refine wF ([u1, u2, undef, undef, (z 4), (ptr L15.bN 0), (eN 0), (eN (nx + 1)), (eN wr), (eN i), (eN (((ll.getD i 0) % ((10 : Nat) : Int)).toNat)), (eN (s.progR ((1 : Nat) : Int) ((2 : Nat) : Int) ((((ll.getD i 0) % ((10 : Nat) : Int)).toNat : Nat) : Int) (bytesL lb 60)))] ++ (us 5 ++ [(Value.bool true), (Value.bool false), (Value.tuple #[(ptr L15.bN 0), (eN 0)]), (Value.agg #[(eN 6), (eN 8), (eN 8)]), (Value.tuple #[(ptr L15.bN 0), (eN 0)]), (ptr L15.bN 0), (eN 0), (eN 0), (Value.bool false), (eN i), u1, (eN ll.length), (Value.bool true), (Value.bool true), (eN i), (Value.bool (decide (i < 30))), (Value.bool (decide (i < 30))), (z 34), (z 35), u1, (eN i), (ixp u1 i), (eI (ll.getD i 0)), (eN (((ll.getD i 0) % ((10 : Nat) : Int)).toNat)), (eN (((ll.getD i 0) % ((10 : Nat) : Int)).toNat)), (Value.bool (decide ((((ll.getD i 0) % ((10 : Nat) : Int)).toNat) = 9))), (z 43), (z 44), (z 45), (ptr L15.bN 0), (eN (((ll.getD i 0) % ((10 : Nat) : Int)).toNat)), u2, u27, (eN (s.progR ((1 : Nat) : Int) ((2 : Nat) : Int) ((((ll.getD i 0) % ((10 : Nat) : Int)).toNat : Nat) : Int) (bytesL lb 60))), (eN (((ll.getD i 0) % ((10 : Nat) : Int)).toNat)), (eN nx), (Value.bool true), (Value.bool true), (eN (((ll.getD i 0) % ((10 : Nat) : Int)).toNat)), (Value.bool true), (Value.bool true), (eN nx), (eN (nx + 1))] ++ (zs z 60 6 ++ (us 60)))) ?_
     refine wpL.done ?_
     refine then_n ?_
     refine wpIn_seq ?_
     refine plain ?_
     refine wI (d_move rfl) ?_
     refine wI (n_neq (a := (s.progR ((1 : Nat) : Int) ((2 : Nat) : Int) ((((ll.getD i 0) % ((10 : Nat) : Int)).toNat : Nat) : Int) (bytesL lb 60))) (b := 0) rfl rfl (by rw [decide_eq_true ((ord_yes hI (bytesL_len _ _) k1 k2).1)] <;> rfl)) ?_
     refine wF ([u1, u2, undef, undef, (z 4), (ptr L15.bN 0), (eN 0), (eN (nx + 1)), (eN wr), (eN i), (eN (((ll.getD i 0) % ((10 : Nat) : Int)).toNat)), (eN (s.progR ((1 : Nat) : Int) ((2 : Nat) : Int) ((((ll.getD i 0) % ((10 : Nat) : Int)).toNat : Nat) : Int) (bytesL lb 60)))] ++ (us 5 ++ [(Value.bool true), (Value.bool false), (Value.tuple #[(ptr L15.bN 0), (eN 0)]), (Value.agg #[(eN 6), (eN 8), (eN 8)]), (Value.tuple #[(ptr L15.bN 0), (eN 0)]), (ptr L15.bN 0), (eN 0), (eN 0), (Value.bool false), (eN i), u1, (eN ll.length), (Value.bool true), (Value.bool true), (eN i), (Value.bool (decide (i < 30))), (Value.bool (decide (i < 30))), (z 34), (z 35), u1, (eN i), (ixp u1 i), (eI (ll.getD i 0)), (eN (((ll.getD i 0) % ((10 : Nat) : Int)).toNat)), (eN (((ll.getD i 0) % ((10 : Nat) : Int)).toNat)), (Value.bool (decide ((((ll.getD i 0) % ((10 : Nat) : Int)).toNat) = 9))), (z 43), (z 44), (z 45), (ptr L15.bN 0), (eN (((ll.getD i 0) % ((10 : Nat) : Int)).toNat)), u2, u27, (eN (s.progR ((1 : Nat) : Int) ((2 : Nat) : Int) ((((ll.getD i 0) % ((10 : Nat) : Int)).toNat : Nat) : Int) (bytesL lb 60))), (eN (((ll.getD i 0) % ((10 : Nat) : Int)).toNat)), (eN nx), (Value.bool true), (Value.bool true), (eN (((ll.getD i 0) % ((10 : Nat) : Int)).toNat)), (Value.bool true), (Value.bool true), (eN nx), (eN (nx + 1)), (eN (s.progR ((1 : Nat) : Int) ((2 : Nat) : Int) ((((ll.getD i 0) % ((10 : Nat) : Int)).toNat : Nat) : Int) (bytesL lb 60))), (Value.bool false), (z 62), (z 63), (z 64), (z 65)] ++ (us 60))) ?_
     refine wpL.done ?_
     refine then_n ?_
     refine cond_f rfl ?_
     refine wpIn_skip ?_
     refine inb_n (then_n ?_)
     refine plain ?_
     refine wI (d_move rfl) ?_
     refine wI (n_add (a := i) (b := 1) rfl rfl (by omega)) ?_
     refine wI (d_assign rfl) ?_
     refine wF ([u1, u2, undef, undef, (z 4), (ptr L15.bN 0), (eN 0), (eN (nx + 1)), (eN wr), (eN (i + 1)), (eN (((ll.getD i 0) % ((10 : Nat) : Int)).toNat)), (eN (s.progR ((1 : Nat) : Int) ((2 : Nat) : Int) ((((ll.getD i 0) % ((10 : Nat) : Int)).toNat : Nat) : Int) (bytesL lb 60)))] ++ (us 5 ++ [(Value.bool true), (Value.bool false), (Value.tuple #[(ptr L15.bN 0), (eN 0)]), (Value.agg #[(eN 6), (eN 8), (eN 8)]), (Value.tuple #[(ptr L15.bN 0), (eN 0)]), (ptr L15.bN 0), (eN 0), (eN 0), (Value.bool false), (eN i), u1, (eN ll.length), (Value.bool true), (Value.bool true), (eN i), (Value.bool (decide (i < 30))), (Value.bool (decide (i < 30))), (eN i), (eN (i + 1)), u1, (eN i), (ixp u1 i), (eI (ll.getD i 0)), (eN (((ll.getD i 0) % ((10 : Nat) : Int)).toNat)), (eN (((ll.getD i 0) % ((10 : Nat) : Int)).toNat)), (Value.bool (decide ((((ll.getD i 0) % ((10 : Nat) : Int)).toNat) = 9))), (z 43), (z 44), (z 45), (ptr L15.bN 0), (eN (((ll.getD i 0) % ((10 : Nat) : Int)).toNat)), u2, u27, (eN (s.progR ((1 : Nat) : Int) ((2 : Nat) : Int) ((((ll.getD i 0) % ((10 : Nat) : Int)).toNat : Nat) : Int) (bytesL lb 60))), (eN (((ll.getD i 0) % ((10 : Nat) : Int)).toNat)), (eN nx), (Value.bool true), (Value.bool true), (eN (((ll.getD i 0) % ((10 : Nat) : Int)).toNat)), (Value.bool true), (Value.bool true), (eN nx), (eN (nx + 1)), (eN (s.progR ((1 : Nat) : Int) ((2 : Nat) : Int) ((((ll.getD i 0) % ((10 : Nat) : Int)).toNat : Nat) : Int) (bytesL lb 60))), (Value.bool false), (z 62), (z 63), (z 64), (z 65)] ++ (us 60))) ?_
     refine wpL.done ?_
     refine then_n ?_
     refine ⟨_, ⟨i + 1, nx + 1, wr, (s.prog ((1 : Nat) : Int) ((2 : Nat) : Int) ((((ll.getD i 0) % ((10 : Nat) : Int)).toNat : Nat) : Int) (bytesL lb 60))⟩, rfl, rfl, ⟨?_, ?_, ?_, ?_, ?_, ?_⟩, ?_⟩
     ·
      (try dsimp only)
      all_goals (omega)
     ·
      (try dsimp only)
      all_goals (omega)
     ·
      (try dsimp only)
      all_goals (omega)
     ·
      exact (ord_yes hI (bytesL_len _ _) k1 k2).2
     ·
      exact o18
     ·
      exact a16
     ·
      (try dsimp only)
      all_goals (omega)
    refine plain ?_
    refine wI (d_move rfl) ?_
    refine wI (d_move rfl) ?_
    refine wI (n_eql (a := (((ll.getD i 0) % ((10 : Nat) : Int)).toNat)) (b := nx) rfl rfl (decide_eq_true k1)) ?_
    refine wF ([u1, u2, undef, undef, (z 4), (ptr L15.bN 0), (eN 0), (eN nx), (eN wr), (eN i), (eN (((ll.getD i 0) % ((10 : Nat) : Int)).toNat)), (eN (s.progR ((1 : Nat) : Int) ((2 : Nat) : Int) ((((ll.getD i 0) % ((10 : Nat) : Int)).toNat : Nat) : Int) (bytesL lb 60)))] ++ (us 5 ++ [(Value.bool true), (Value.bool false), (Value.tuple #[(ptr L15.bN 0), (eN 0)]), (Value.agg #[(eN 6), (eN 8), (eN 8)]), (Value.tuple #[(ptr L15.bN 0), (eN 0)]), (ptr L15.bN 0), (eN 0), (eN 0), (Value.bool false), (eN i), u1, (eN ll.length), (Value.bool true), (Value.bool true), (eN i), (Value.bool (decide (i < 30))), (Value.bool (decide (i < 30))), (z 34), (z 35), u1, (eN i), (ixp u1 i), (eI (ll.getD i 0)), (eN (((ll.getD i 0) % ((10 : Nat) : Int)).toNat)), (eN (((ll.getD i 0) % ((10 : Nat) : Int)).toNat)), (Value.bool (decide ((((ll.getD i 0) % ((10 : Nat) : Int)).toNat) = 9))), (z 43), (z 44), (z 45), (ptr L15.bN 0), (eN (((ll.getD i 0) % ((10 : Nat) : Int)).toNat)), u2, u27, (eN (s.progR ((1 : Nat) : Int) ((2 : Nat) : Int) ((((ll.getD i 0) % ((10 : Nat) : Int)).toNat : Nat) : Int) (bytesL lb 60))), (eN (((ll.getD i 0) % ((10 : Nat) : Int)).toNat)), (eN nx), (Value.bool true)] ++ (zs z 54 12 ++ (us 60)))) ?_
    refine wI (d_move rfl) ?_
    refine wpL.onis rfl rfl rfl (nb rfl) rfl (d_move rfl) ?_
    refine wpL.onis rfl rfl rfl (nb rfl) rfl (n_lss (a := (((ll.getD i 0) % ((10 : Nat) : Int)).toNat)) (b := 8) rfl rfl (decide_eq_false k2)) ?_
    refine wF ([u1, u2, undef, undef, (z 4), (ptr L15.bN 0), (eN 0), (eN nx), (eN wr), (eN i), (eN (((ll.getD i 0) % ((10 : Nat) : Int)).toNat)), (eN (s.progR ((1 : Nat) : Int) ((2 : Nat) : Int) ((((ll.getD i 0) % ((10 : Nat) : Int)).toNat : Nat) : Int) (bytesL lb 60)))] ++ (us 5 ++ [(Value.bool true), (Value.bool false), (Value.tuple #[(ptr L15.bN 0), (eN 0)]), (Value.agg #[(eN 6), (eN 8), (eN 8)]), (Value.tuple #[(ptr L15.bN 0), (eN 0)]), (ptr L15.bN 0), (eN 0), (eN 0), (Value.bool false), (eN i), u1, (eN ll.length), (Value.bool true), (Value.bool true), (eN i), (Value.bool (decide (i < 30))), (Value.bool (decide (i < 30))), (z 34), (z 35), u1, (eN i), (ixp u1 i), (eI (ll.getD i 0)), (eN (((ll.getD i 0) % ((10 : Nat) : Int)).toNat)), (eN (((ll.getD i 0) % ((10 : Nat) : Int)).toNat)), (Value.bool (decide ((((ll.getD i 0) % ((10 : Nat) : Int)).toNat) = 9))), (z 43), (z 44), (z 45), (ptr L15.bN 0), (eN (((ll.getD i 0) % ((10 : Nat) : Int)).toNat)), u2, u27, (eN (s.progR ((1 : Nat) : Int) ((2 : Nat) : Int) ((((ll.getD i 0) % ((10 : Nat) : Int)).toNat : Nat) : Int) (bytesL lb 60))), (eN (((ll.getD i 0) % ((10 : Nat) : Int)).toNat)), (eN nx), (Value.bool true), (Value.bool true), (eN (((ll.getD i 0) % ((10 : Nat) : Int)).toNat)), (Value.bool false)] ++ (zs z 57 9 ++ (us 60)))) ?_
    refine wI (d_pick (b := true) (v := (Value.bool false)) rfl rfl) ?_
    refine wF ([u1, u2, undef, undef, (z 4), (ptr L15.bN 0), (eN 0), (eN nx), (eN wr), (eN i), (eN (((ll.getD i 0) % ((10 : Nat) : Int)).toNat)), (eN (s.progR ((1 : Nat) : Int) ((2 : Nat) : Int) ((((ll.getD i 0) % ((10 : Nat) : Int)).toNat : Nat) : Int) (bytesL lb 60)))] ++ (us 5 ++ [(Value.bool true), (Value.bool false), (Value.tuple #[(ptr L15.bN 0), (eN 0)]), (Value.agg #[(eN 6), (eN 8), (eN 8)]), (Value.tuple #[(ptr L15.bN 0), (eN 0)]), (ptr L15.bN 0), (eN 0), (eN 0), (Value.bool false), (eN i), u1, (eN ll.length), (Value.bool true), (Value.bool true), (eN i), (Value.bool (decide (i < 30))), (Value.bool (decide (i < 30))), (z 34), (z 35), u1, (eN i), (ixp u1 i), (eI (ll.getD i 0)), (eN (((ll.getD i 0) % ((10 : Nat) : Int)).toNat)), (eN (((ll.getD i 0) % ((10 : Nat) : Int)).toNat)), (Value.bool (decide ((((ll.getD i 0) % ((10 : Nat) : Int)).toNat) = 9))), (z 43), (z 44), (z 45), (ptr L15.bN 0), (eN (((ll.getD i 0) % ((10 : Nat) : Int)).toNat)), u2, u27, (eN (s.progR ((1 : Nat) : Int) ((2 : Nat) : Int) ((((ll.getD i 0) % ((10 : Nat) : Int)).toNat : Nat) : Int) (bytesL lb 60))), (eN (((ll.getD i 0) % ((10 : Nat) : Int)).toNat)), (eN nx), (Value.bool true), (Value.bool true), (eN (((ll.getD i 0) % ((10 : Nat) : Int)).toNat)), (Value.bool false), (Value.bool false)] ++ (zs z 58 8 ++ (us 60)))) ?_
    refine wpL.done ?_
    refine then_n ?_
    refine cond_f rfl ?_
    refine wpIn_seq ?_
    refine plain ?_
    refine wI (d_move rfl) ?_
    refine wI (n_add (a := wr) (b := 1) rfl rfl (by omega)) ?_
    refine wI (d_assign rfl) ?_
    refine wF ([u1, u2, undef, undef, (z 4), (ptr L15.bN 0), (eN 0), (eN nx), (eN (wr + 1)), (eN i), (eN (((ll.getD i 0) % ((10 : Nat) : Int)).toNat)), (eN (s.progR ((1 : Nat) : Int) ((2 : Nat) : Int) ((((ll.getD i 0) % ((10 : Nat) : Int)).toNat : Nat) : Int) (bytesL lb 60)))] ++ (us 5 ++ [(Value.bool true), (Value.bool false), (Value.tuple #[(ptr L15.bN 0), (eN 0)]), (Value.agg #[(eN 6), (eN 8), (eN 8)]), (Value.tuple #[(ptr L15.bN 0), (eN 0)]), (ptr L15.bN 0), (eN 0), (eN 0), (Value.bool false), (eN i), u1, (eN ll.length), (Value.bool true), (Value.bool true), (eN i), (Value.bool (decide (i < 30))), (Value.bool (decide (i < 30))), (z 34), (z 35), u1, (eN i), (ixp u1 i), (eI (ll.getD i 0)), (eN (((ll.getD i 0) % ((10 : Nat) : Int)).toNat)), (eN (((ll.getD i 0) % ((10 : Nat) : Int)).toNat)), (Value.bool (decide ((((ll.getD i 0) % ((10 : Nat) : Int)).toNat) = 9))), (z 43), (z 44), (z 45), (ptr L15.bN 0), (eN (((ll.getD i 0) % ((10 : Nat) : Int)).toNat)), u2, u27, (eN (s.progR ((1 : Nat) : Int) ((2 : Nat) : Int) ((((ll.getD i 0) % ((10 : Nat) : Int)).toNat : Nat) : Int) (bytesL lb 60))), (eN (((ll.getD i 0) % ((10 : Nat) : Int)).toNat)), (eN nx), (Value.bool true), (Value.bool true), (eN (((ll.getD i 0) % ((10 : Nat) : Int)).toNat)), (Value.bool false), (Value.bool false), (z 58), (z 59), (z 60), (z 61), (eN wr), (eN (wr + 1)), (z 64), (z 65)] ++ (us 60))) ?_
    refine wpL.done ?_
    refine then_n ?_
    refine wpIn_seq ?_
    refine plain ?_
    refine wI (d_move rfl) ?_
    refine wI (n_neq (a := (s.progR ((1 : Nat) : Int) ((2 : Nat) : Int) ((((ll.getD i 0) % ((10 : Nat) : Int)).toNat : Nat) : Int) (bytesL lb 60))) (b := 1) rfl rfl (by rw [decide_eq_true ((ord_no hI (fun h => k2 h.2) (by omega)).1)] <;> rfl)) ?_
    refine wF ([u1, u2, undef, undef, (z 4), (ptr L15.bN 0), (eN 0), (eN nx), (eN (wr + 1)), (eN i), (eN (((ll.getD i 0) % ((10 : Nat) : Int)).toNat)), (eN (s.progR ((1 : Nat) : Int) ((2 : Nat) : Int) ((((ll.getD i 0) % ((10 : Nat) : Int)).toNat : Nat) : Int) (bytesL lb 60)))] ++ (us 5 ++ [(Value.bool true), (Value.bool false), (Value.tuple #[(ptr L15.bN 0), (eN 0)]), (Value.agg #[(eN 6), (eN 8), (eN 8)]), (Value.tuple #[(ptr L15.bN 0), (eN 0)]), (ptr L15.bN 0), (eN 0), (eN 0), (Value.bool false), (eN i), u1, (eN ll.length), (Value.bool true), (Value.bool true), (eN i), (Value.bool (decide (i < 30))), (Value.bool (decide (i < 30))), (z 34), (z 35), u1, (eN i), (ixp u1 i), (eI (ll.getD i 0)), (eN (((ll.getD i 0) % ((10 : Nat) : Int)).toNat)), (eN (((ll.getD i 0) % ((10 : Nat) : Int)).toNat)), (Value.bool (decide ((((ll.getD i 0) % ((10 : Nat) : Int)).toNat) = 9))), (z 43), (z 44), (z 45), (ptr L15.bN 0), (eN (((ll.getD i 0) % ((10 : Nat) : Int)).toNat)), u2, u27, (eN (s.progR ((1 : Nat) : Int) ((2 : Nat) : Int) ((((ll.getD i 0) % ((10 : Nat) : Int)).toNat : Nat) : Int) (bytesL lb 60))), (eN (((ll.getD i 0) % ((10 : Nat) : Int)).toNat)), (eN nx), (Value.bool true), (Value.bool true), (eN (((ll.getD i 0) % ((10 : Nat) : Int)).toNat)), (Value.bool false), (Value.bool false), (z 58), (z 59), (z 60), (z 61), (eN wr), (eN (wr + 1)), (eN (s.progR ((1 : Nat) : Int) ((2 : Nat) : Int) ((((ll.getD i 0) % ((10 : Nat) : Int)).toNat : Nat) : Int) (bytesL lb 60))), (Value.bool false)] ++ (us 60))) ?_
    refine wpL.done ?_
    refine then_n ?_
    refine cond_f rfl ?_
    refine wpIn_skip ?_
    refine inb_n (then_n ?_)
    refine plain ?_
    refine wI (d_move rfl) ?_
    refine wI (n_add (a := i) (b := 1) rfl rfl (by omega)) ?_
    refine wI (d_assign rfl) ?_
    refine wF ([u1, u2, undef, undef, (z 4), (ptr L15.bN 0), (eN 0), (eN nx), (eN (wr + 1)), (eN (i + 1)), (eN (((ll.getD i 0) % ((10 : Nat) : Int)).toNat)), (eN (s.progR ((1 : Nat) : Int) ((2 : Nat) : Int) ((((ll.getD i 0) % ((10 : Nat) : Int)).toNat : Nat) : Int) (bytesL lb 60)))] ++ (us 5 ++ [(Value.bool true), (Value.bool false), (Value.tuple #[(ptr L15.bN 0), (eN 0)]), (Value.agg #[(eN 6), (eN 8), (eN 8)]), (Value.tuple #[(ptr L15.bN 0), (eN 0)]), (ptr L15.bN 0), (eN 0), (eN 0), (Value.bool false), (eN i), u1, (eN ll.length), (Value.bool true), (Value.bool true), (eN i), (Value.bool (decide (i < 30))), (Value.bool (decide (i < 30))), (eN i), (eN (i + 1)), u1, (eN i), (ixp u1 i), (eI (ll.getD i 0)), (eN (((ll.getD i 0) % ((10 : Nat) : Int)).toNat)), (eN (((ll.getD i 0) % ((10 : Nat) : Int)).toNat)), (Value.bool (decide ((((ll.getD i 0) % ((10 : Nat) : Int)).toNat) = 9))), (z 43), (z 44), (z 45), (ptr L15.bN 0), (eN (((ll.getD i 0) % ((10 : Nat) : Int)).toNat)), u2, u27, (eN (s.progR ((1 : Nat) : Int) ((2 : Nat) : Int) ((((ll.getD i 0) % ((10 : Nat) : Int)).toNat : Nat) : Int) (bytesL lb 60))), (eN (((ll.getD i 0) % ((10 : Nat) : Int)).toNat)), (eN nx), (Value.bool true), (Value.bool true), (eN (((ll.getD i 0) % ((10 : Nat) : Int)).toNat)), (Value.bool false), (Value.bool false), (z 58), (z 59), (z 60), (z 61), (eN wr), (eN (wr + 1)), (eN (s.progR ((1 : Nat) : Int) ((2 : Nat) : Int) ((((ll.getD i 0) % ((10 : Nat) : Int)).toNat : Nat) : Int) (bytesL lb 60))), (Value.bool false)] ++ (us 60))) ?_
    refine wpL.done ?_
    refine then_n ?_
    refine ⟨_, ⟨i + 1, nx, wr + 1, (s.prog ((1 : Nat) : Int) ((2 : Nat) : Int) ((((ll.getD i 0) % ((10 : Nat) : Int)).toNat : Nat) : Int) (bytesL lb 60))⟩, rfl, rfl, ⟨?_, ?_, ?_, ?_, ?_, ?_⟩, ?_⟩
    ·
     (try dsimp only)
     all_goals (omega)
    ·
     (try dsimp only)
     all_goals (omega)
    ·
     (try dsimp only)
     all_goals (omega)
    ·
     exact (ord_no hI (fun h => k2 h.2) (by omega)).2
    ·
     exact o18
    ·
     exact a16
    ·
     (try dsimp only)
     all_goals (omega)
   refine plain ?_
   refine wI (d_move rfl) ?_
   refine wI (d_move rfl) ?_
   refine wI (n_eql (a := (((ll.getD i 0) % ((10 : Nat) : Int)).toNat)) (b := nx) rfl rfl (decide_eq_false k1)) ?_
   refine wF ([u1, u2, undef, undef, (z 4), (ptr L15.bN 0), (eN 0), (eN nx), (eN wr), (eN i), (eN (((ll.getD i 0) % ((10 : Nat) : Int)).toNat)), (eN (s.progR ((1 : Nat) : Int) ((2 : Nat) : Int) ((((ll.getD i 0) % ((10 : Nat) : Int)).toNat : Nat) : Int) (bytesL lb 60)))] ++ (us 5 ++ [(Value.bool true), (Value.bool false), (Value.tuple #[(ptr L15.bN 0), (eN 0)]), (Value.agg #[(eN 6), (eN 8), (eN 8)]), (Value.tuple #[(ptr L15.bN 0), (eN 0)]), (ptr L15.bN 0), (eN 0), (eN 0), (Value.bool false), (eN i), u1, (eN ll.length), (Value.bool true), (Value.bool true), (eN i), (Value.bool (decide (i < 30))), (Value.bool (decide (i < 30))), (z 34), (z 35), u1, (eN i), (ixp u1 i), (eI (ll.getD i 0)), (eN (((ll.getD i 0) % ((10 : Nat) : Int)).toNat)), (eN (((ll.getD i 0) % ((10 : Nat) : Int)).toNat)), (Value.bool (decide ((((ll.getD i 0) % ((10 : Nat) : Int)).toNat) = 9))), (z 43), (z 44), (z 45), (ptr L15.bN 0), (eN (((ll.getD i 0) % ((10 : Nat) : Int)).toNat)), u2, u27, (eN (s.progR ((1 : Nat) : Int) ((2 : Nat) : Int) ((((ll.getD i 0) % ((10 : Nat) : Int)).toNat : Nat) : Int) (bytesL lb 60))), (eN (((ll.getD i 0) % ((10 : Nat) : Int)).toNat)), (eN nx), (Value.bool false)] ++ (zs z 54 12 ++ (us 60)))) ?_
   refine wI (d_move rfl) ?_
   refine wpL.off rfl rfl rfl (nb rfl) rfl ?_
   refine wF ([u1, u2, undef, undef, (z 4), (ptr L15.bN 0), (eN 0), (eN nx), (eN wr), (eN i), (eN (((ll.getD i 0) % ((10 : Nat) : Int)).toNat)), (eN (s.progR ((1 : Nat) : Int) ((2 : Nat) : Int) ((((ll.getD i 0) % ((10 : Nat) : Int)).toNat : Nat) : Int) (bytesL lb 60)))] ++ (us 5 ++ [(Value.bool true), (Value.bool false), (Value.tuple #[(ptr L15.bN 0), (eN 0)]), (Value.agg #[(eN 6), (eN 8), (eN 8)]), (Value.tuple #[(ptr L15.bN 0), (eN 0)]), (ptr L15.bN 0), (eN 0), (eN 0), (Value.bool false), (eN i), u1, (eN ll.length), (Value.bool true), (Value.bool true), (eN i), (Value.bool (decide (i < 30))), (Value.bool (decide (i < 30))), (z 34), (z 35), u1, (eN i), (ixp u1 i), (eI (ll.getD i 0)), (eN (((ll.getD i 0) % ((10 : Nat) : Int)).toNat)), (eN (((ll.getD i 0) % ((10 : Nat) : Int)).toNat)), (Value.bool (decide ((((ll.getD i 0) % ((10 : Nat) : Int)).toNat) = 9))), (z 43), (z 44), (z 45), (ptr L15.bN 0), (eN (((ll.getD i 0) % ((10 : Nat) : Int)).toNat)), u2, u27, (eN (s.progR ((1 : Nat) : Int) ((2 : Nat) : Int) ((((ll.getD i 0) % ((10 : Nat) : Int)).toNat : Nat) : Int) (bytesL lb 60))), (eN (((ll.getD i 0) % ((10 : Nat) : Int)).toNat)), (eN nx), (Value.bool false), (Value.bool false), undef] ++ (zs z 56 10 ++ (us 60)))) ?_
   refine wpL.off rfl rfl rfl (nb rfl) rfl ?_
   refine wI (d_pick (b := false) (v := (Value.bool false)) rfl rfl) ?_
   refine wF ([u1, u2, undef, undef, (z 4), (ptr L15.bN 0), (eN 0), (eN nx), (eN wr), (eN i), (eN (((ll.getD i 0) % ((10 : Nat) : Int)).toNat)), (eN (s.progR ((1 : Nat) : Int) ((2 : Nat) : Int) ((((ll.getD i 0) % ((10 : Nat) : Int)).toNat : Nat) : Int) (bytesL lb 60)))] ++ (us 5 ++ [(Value.bool true), (Value.bool false), (Value.tuple #[(ptr L15.bN 0), (eN 0)]), (Value.agg #[(eN 6), (eN 8), (eN 8)]), (Value.tuple #[(ptr L15.bN 0), (eN 0)]), (ptr L15.bN 0), (eN 0), (eN 0), (Value.bool false), (eN i), u1, (eN ll.length), (Value.bool true), (Value.bool true), (eN i), (Value.bool (decide (i < 30))), (Value.bool (decide (i < 30))), (z 34), (z 35), u1, (eN i), (ixp u1 i), (eI (ll.getD i 0)), (eN (((ll.getD i 0) % ((10 : Nat) : Int)).toNat)), (eN (((ll.getD i 0) % ((10 : Nat) : Int)).toNat)), (Value.bool (decide ((((ll.getD i 0) % ((10 : Nat) : Int)).toNat) = 9))), (z 43), (z 44), (z 45), (ptr L15.bN 0), (eN (((ll.getD i 0) % ((10 : Nat) : Int)).toNat)), u2, u27, (eN (s.progR ((1 : Nat) : Int) ((2 : Nat) : Int) ((((ll.getD i 0) % ((10 : Nat) : Int)).toNat : Nat) : Int) (bytesL lb 60))), (eN (((ll.getD i 0) % ((10 : Nat) : Int)).toNat)), (eN nx), (Value.bool false), (Value.bool false), undef, undef, (Value.bool false)] ++ (zs z 58 8 ++ (us 60)))) ?_
   refine wpL.done ?_
   refine then_n ?_
   refine cond_f rfl ?_
   refine wpIn_seq ?_
   refine plain ?_
   refine wI (d_move rfl) ?_
   refine wI (n_add (a := wr) (b := 1) rfl rfl (by omega)) ?_
   refine wI (d_assign rfl) ?_
   refine wF ([u1, u2, undef, undef, (z 4), (ptr L15.bN 0), (eN 0), (eN nx), (eN (wr + 1)), (eN i), (eN (((ll.getD i 0) % ((10 : Nat) : Int)).toNat)), (eN (s.progR ((1 : Nat) : Int) ((2 : Nat) : Int) ((((ll.getD i 0) % ((10 : Nat) : Int)).toNat : Nat) : Int) (bytesL lb 60)))] ++ (us 5 ++ [(Value.bool true), (Value.bool false), (Value.tuple #[(ptr L15.bN 0), (eN 0)]), (Value.agg #[(eN 6), (eN 8), (eN 8)]), (Value.tuple #[(ptr L15.bN 0), (eN 0)]), (ptr L15.bN 0), (eN 0), (eN 0), (Value.bool false), (eN i), u1, (eN ll.length), (Value.bool true), (Value.bool true), (eN i), (Value.bool (decide (i < 30))), (Value.bool (decide (i < 30))), (z 34), (z 35), u1, (eN i), (ixp u1 i), (eI (ll.getD i 0)), (eN (((ll.getD i 0) % ((10 : Nat) : Int)).toNat)), (eN (((ll.getD i 0) % ((10 : Nat) : Int)).toNat)), (Value.bool (decide ((((ll.getD i 0) % ((10 : Nat) : Int)).toNat) = 9))), (z 43), (z 44), (z 45), (ptr L15.bN 0), (eN (((ll.getD i 0) % ((10 : Nat) : Int)).toNat)), u2, u27, (eN (s.progR ((1 : Nat) : Int) ((2 : Nat) : Int) ((((ll.getD i 0) % ((10 : Nat) : Int)).toNat : Nat) : Int) (bytesL lb 60))), (eN (((ll.getD i 0) % ((10 : Nat) : Int)).toNat)), (eN nx), (Value.bool false), (Value.bool false), undef, undef, (Value.bool false), (z 58), (z 59), (z 60), (z 61), (eN wr), (eN (wr + 1)), (z 64), (z 65)] ++ (us 60))) ?_
   refine wpL.done ?_
   refine then_n ?_
   refine wpIn_seq ?_
   refine plain ?_
   refine wI (d_move rfl) ?_
   refine wI (n_neq (a := (s.progR ((1 : Nat) : Int) ((2 : Nat) : Int) ((((ll.getD i 0) % ((10 : Nat) : Int)).toNat : Nat) : Int) (bytesL lb 60))) (b := 1) rfl rfl (by rw [decide_eq_true ((ord_no hI (fun h => k1 h.1) (by omega)).1)] <;> rfl)) ?_
   refine wF ([u1, u2, undef, undef, (z 4), (ptr L15.bN 0), (eN 0), (eN nx), (eN (wr + 1)), (eN i), (eN (((ll.getD i 0) % ((10 : Nat) : Int)).toNat)), (eN (s.progR ((1 : Nat) : Int) ((2 : Nat) : Int) ((((ll.getD i 0) % ((10 : Nat) : Int)).toNat : Nat) : Int) (bytesL lb 60)))] ++ (us 5 ++ [(Value.bool true), (Value.bool false), (Value.tuple #[(ptr L15.bN 0), (eN 0)]), (Value.agg #[(eN 6), (eN 8), (eN 8)]), (Value.tuple #[(ptr L15.bN 0), (eN 0)]), (ptr L15.bN 0), (eN 0), (eN 0), (Value.bool false), (eN i), u1, (eN ll.length), (Value.bool true), (Value.bool true), (eN i), (Value.bool (decide (i < 30))), (Value.bool (decide (i < 30))), (z 34), (z 35), u1, (eN i), (ixp u1 i), (eI (ll.getD i 0)), (eN (((ll.getD i 0) % ((10 : Nat) : Int)).toNat)), (eN (((ll.getD i 0) % ((10 : Nat) : Int)).toNat)), (Value.bool (decide ((((ll.getD i 0) % ((10 : Nat) : Int)).toNat) = 9))), (z 43), (z 44), (z 45), (ptr L15.bN 0), (eN (((ll.getD i 0) % ((10 : Nat) : Int)).toNat)), u2, u27, (eN (s.progR ((1 : Nat) : Int) ((2 : Nat) : Int) ((((ll.getD i 0) % ((10 : Nat) : Int)).toNat : Nat) : Int) (bytesL lb 60))), (eN (((ll.getD i 0) % ((10 : Nat) : Int)).toNat)), (eN nx), (Value.bool false), (Value.bool false), undef, undef, (Value.bool false), (z 58), (z 59), (z 60), (z 61), (eN wr), (eN (wr + 1)), (eN (s.progR ((1 : Nat) : Int) ((2 : Nat) : Int) ((((ll.getD i 0) % ((10 : Nat) : Int)).toNat : Nat) : Int) (bytesL lb 60))), (Value.bool false)] ++ (us 60))) ?_
   refine wpL.done ?_
   refine then_n ?_
   refine cond_f rfl ?_
   refine wpIn_skip ?_
   refine inb_n (then_n ?_)
   refine plain ?_
   refine wI (d_move rfl) ?_
   refine wI (n_add (a := i) (b := 1) rfl rfl (by omega)) ?_
   refine wI (d_assign rfl) ?_
   refine wF ([u1, u2, undef, undef, (z 4), (ptr L15.bN 0), (eN 0), (eN nx), (eN (wr + 1)), (eN (i + 1)), (eN (((ll.getD i 0) % ((10 : Nat) : Int)).toNat)), (eN (s.progR ((1 : Nat) : Int) ((2 : Nat) : Int) ((((ll.getD i 0) % ((10 : Nat) : Int)).toNat : Nat) : Int) (bytesL lb 60)))] ++ (us 5 ++ [(Value.bool true), (Value.bool false), (Value.tuple #[(ptr L15.bN 0), (eN 0)]), (Value.agg #[(eN 6), (eN 8), (eN 8)]), (Value.tuple #[(ptr L15.bN 0), (eN 0)]), (ptr L15.bN 0), (eN 0), (eN 0), (Value.bool false), (eN i), u1, (eN ll.length), (Value.bool true), (Value.bool true), (eN i), (Value.bool (decide (i < 30))), (Value.bool (decide (i < 30))), (eN i), (eN (i + 1)), u1, (eN i), (ixp u1 i), (eI (ll.getD i 0)), (eN (((ll.getD i 0) % ((10 : Nat) : Int)).toNat)), (eN (((ll.getD i 0) % ((10 : Nat) : Int)).toNat)), (Value.bool (decide ((((ll.getD i 0) % ((10 : Nat) : Int)).toNat) = 9))), (z 43), (z 44), (z 45), (ptr L15.bN 0), (eN (((ll.getD i 0) % ((10 : Nat) : Int)).toNat)), u2, u27, (eN (s.progR ((1 : Nat) : Int) ((2 : Nat) : Int) ((((ll.getD i 0) % ((10 : Nat) : Int)).toNat : Nat) : Int) (bytesL lb 60))), (eN (((ll.getD i 0) % ((10 : Nat) : Int)).toNat)), (eN nx), (Value.bool false), (Value.bool false), undef, undef, (Value.bool false), (z 58), (z 59), (z 60), (z 61), (eN wr), (eN (wr + 1)), (eN (s.progR ((1 : Nat) : Int) ((2 : Nat) : Int) ((((ll.getD i 0) % ((10 : Nat) : Int)).toNat : Nat) : Int) (bytesL lb 60))), (Value.bool false)] ++ (us 60))) ?_
   refine wpL.done ?_
   refine then_n ?_
   refine ⟨_, ⟨i + 1, nx, wr + 1, (s.prog ((1 : Nat) : Int) ((2 : Nat) : Int) ((((ll.getD i 0) % ((10 : Nat) : Int)).toNat : Nat) : Int) (bytesL lb 60))⟩, rfl, rfl, ⟨?_, ?_, ?_, ?_, ?_, ?_⟩, ?_⟩
   ·
    (try dsimp only)
    all_goals (omega)
   ·
    (try dsimp only)
    all_goals (omega)
   ·
    (try dsimp only)
    all_goals (omega)
   ·
    exact (ord_no hI (fun h => k1 h.1) (by omega)).2
   ·
    exact o18
   ·
    exact a16
   ·
    (try dsimp only)
    all_goals (omega)
  refine wpIn_exit ?_
  refine then_x (then_x (inb_e ?_))
  refine then_n ?_
  refine wpIn_seq ?_
  refine wpIn_seq ?_
  refine plain ?_
  refine wI (d_assign rfl) ?_
  refine wF ([u1, u2, undef, undef, (z 4), (ptr L15.bN 0), (eN 0), (eN nx), (eN wr), (eN i), (z 10), (z 11), (eN 0), undef, undef, undef, undef, (Value.bool true), (Value.bool false), (Value.tuple #[(ptr L15.bN 0), (eN 0)]), (Value.agg #[(eN 6), (eN 8), (eN 8)]), (Value.tuple #[(ptr L15.bN 0), (eN 0)]), (ptr L15.bN 0), (eN 0), (eN 0), (Value.bool false), (eN i), u1, (eN ll.length), (Value.bool true), (Value.bool true), (eN i), (Value.bool (decide (i < 30))), (Value.bool (decide (i < 30)))] ++ (zs z 34 32 ++ (us 60))) ?_
  refine wpL.done ?_
  refine then_n ?_
  refine wpIn_block ?_
  refine loop2 (fun (s_ : (Nat) × (NS)) => match s_ with | ⟨p, s2⟩ => fun (z : Nat → Value) => (([u1, u2, undef, undef, (z 4), (ptr L15.bN 0), (eN 0), (eN nx), (eN wr), (eN i), (z 10), (z 11), (eN p), (z 13), (z 14), (z 15), (z 16), (Value.bool true), (Value.bool false), (Value.tuple #[(ptr L15.bN 0), (eN 0)]), (Value.agg #[(eN 6), (eN 8), (eN 8)]), (Value.tuple #[(ptr L15.bN 0), (eN 0)]), (ptr L15.bN 0), (eN 0), (eN 0), (Value.bool false), (eN i), u1, (eN ll.length), (Value.bool true), (Value.bool true), (eN i), (Value.bool (decide (i < 30))), (Value.bool (decide (i < 30)))] ++ (zs z 34 88 ++ [undef, undef, undef, undef])) : List Value)) (fun (s_ : (Nat) × (NS)) => match s_ with | ⟨p, s2⟩ => fun (w_ : World) => (p ≤ 8) ∧ (OrdI s2 nx wr (bytesL lb 60)) ∧ Only (Ors L15.S No) w19 w_ ∧ Nd L15 s2 No w_) (fun (s_ : (Nat) × (NS)) => match s_ with | ⟨p, s2⟩ => 8 - p) ⟨0, (s)⟩ rfl ?_ ?_
  ·
   refine ⟨?_, ?_, ?_, ?_⟩
   ·
    (try dsimp only)
    all_goals (omega)
   ·
    exact hI
   ·
    exact Only.refl _ _
   ·
    exact a16
  rintro ⟨p, s2⟩ z w33 ⟨hp, hJ, o32, a16⟩
  (try dsimp only)
  replace h1 := h1.step o32 (ors_mono no_any)
  replace h2 := h2.step o32 (ors_mono no_any)
  replace oW := oW.tail o32 (tl_snew g_oW_L15 tl_no)
  replace o18 := o18.tail o32 (tl_sin sub1 tl_no)
  refine wpIn_seq ?_
  refine wpIn_seq ?_
  refine plain ?_
  refine wI (d_move rfl) ?_
  refine wI (n_lss (a := p) (b := 8) rfl rfl rfl) ?_
  refine wF ([u1, u2, undef, undef, (z 4), (ptr L15.bN 0), (eN 0), (eN nx), (eN wr), (eN i), (z 10), (z 11), (eN p), (z 13), (z 14), (z 15), (z 16), (Value.bool true), (Value.bool false), (Value.tuple #[(ptr L15.bN 0), (eN 0)]), (Value.agg #[(eN 6), (eN 8), (eN 8)]), (Value.tuple #[(ptr L15.bN 0), (eN 0)]), (ptr L15.bN 0), (eN 0), (eN 0), (Value.bool false), (eN i), u1, (eN ll.length), (Value.bool true), (Value.bool true), (eN i), (Value.bool (decide (i < 30))), (Value.bool (decide (i < 30)))] ++ (zs z 34 32 ++ [(eN p), (Value.bool (decide (p < 8)))] ++ (zs z 68 54 ++ [undef, undef, undef, undef]))) ?_
  refine wpL.done ?_
  refine then_n ?_
  refine cond_if rfl (fun hp7 => ?_) (fun hp7 => ?_)
  ·
   refine wpIn_skip ?_
   refine then_n ?_
   refine wpIn_seq ?_
   refine wpIn_block ?_
   refine wpIn_seq ?_
   refine plain ?_
   refine wI (d_move rfl) ?_
   refine wI (d_move rfl) ?_
   refine wO (d_call (xl := [.tmp 71, .const (.int .i64 1), .const (.int .i64 2), .tmp 72]) (al := [(ptr L15.bN 0), (eN 1), (eN 2), (eN p)]) Try.func21 (by kernel_rfl) rfl rfl rfl (read_ok L15 s2 _ a16 ((1 : Nat) : Int) ((2 : Nat) : Int) ((p : Nat) : Int) lt_no)) ?_
   rintro _ w34 ⟨u36, rfl, f37, a38, o35⟩
   replace f37 := f37.less (Y := (Ors L15.S (Old W.heap.size))) (ors_old a16.lt (old_old oW.size))
   replace h1 := h1.step o35 sub1
   replace h2 := h2.step o35 sub1
   replace oW := oW.tail o35 (fun k hk e => by have := g_oW_L15 k e; omega)
   replace o18 := o18.tail o35 (fun k _ e => sub1 k e)
   replace o32 := o32.tail o35 (fun k _ e => sub1 k e)
   replace a16 := a38
   refine wF ([u1, u2, undef, undef, (z 4), (ptr L15.bN 0), (eN 0), (eN nx), (eN wr), (eN i), (z 10), (z 11), (eN p), (z 13), (z 14), (z 15), (z 16), (Value.bool true), (Value.bool false), (Value.tuple #[(ptr L15.bN 0), (eN 0)]), (Value.agg #[(eN 6), (eN 8), (eN 8)]), (Value.tuple #[(ptr L15.bN 0), (eN 0)]), (ptr L15.bN 0), (eN 0), (eN 0), (Value.bool false), (eN i), u1, (eN ll.length), (Value.bool true), (Value.bool true), (eN i), (Value.bool (decide (i < 30))), (Value.bool (decide (i < 30)))] ++ (zs z 34 32 ++ [(eN p), (Value.bool (decide (p < 8))), (z 68), (z 69), (z 70), (ptr L15.bN 0), (eN p), (Value.tuple #[u36, (eN (s2.askR (s2.readOk ((1 : Nat) : Int) ((2 : Nat) : Int) ((p : Nat) : Int))))])] ++ (zs z 74 48 ++ [undef, undef, undef, undef]))) ?_
   refine wI (d_move rfl) ?_
   refine wI (d_extract (v := u36) rfl rfl) ?_
   refine wI (d_extract (v := (eN (s2.askR (s2.readOk ((1 : Nat) : Int) ((2 : Nat) : Int) ((p : Nat) : Int))))) rfl rfl) ?_
   refine wF ([u1, u2, undef, undef, (z 4), (ptr L15.bN 0), (eN 0), (eN nx), (eN wr), (eN i), (z 10), (z 11), (eN p), (z 13), (z 14), (z 15), (z 16), (Value.bool true), (Value.bool false), (Value.tuple #[(ptr L15.bN 0), (eN 0)]), (Value.agg #[(eN 6), (eN 8), (eN 8)]), (Value.tuple #[(ptr L15.bN 0), (eN 0)]), (ptr L15.bN 0), (eN 0), (eN 0), (Value.bool false), (eN i), u1, (eN ll.length), (Value.bool true), (Value.bool true), (eN i), (Value.bool (decide (i < 30))), (Value.bool (decide (i < 30)))] ++ (zs z 34 32 ++ [(eN p), (Value.bool (decide (p < 8))), (z 68), (z 69), (Value.tuple #[u36, (eN (s2.askR (s2.readOk ((1 : Nat) : Int) ((2 : Nat) : Int) ((p : Nat) : Int))))]), (ptr L15.bN 0), (eN p), (Value.tuple #[u36, (eN (s2.askR (s2.readOk ((1 : Nat) : Int) ((2 : Nat) : Int) ((p : Nat) : Int))))]), u36, (eN (s2.askR (s2.readOk ((1 : Nat) : Int) ((2 : Nat) : Int) ((p : Nat) : Int))))] ++ (zs z 76 46 ++ [undef, undef, undef, undef]))) ?_
   refine wI (d_assign rfl) ?_
   refine wI (d_assign rfl) ?_
   refine wF ([u1, u2, undef, undef, (z 4), (ptr L15.bN 0), (eN 0), (eN nx), (eN wr), (eN i), (z 10), (z 11), (eN p), u36, (eN (s2.askR (s2.readOk ((1 : Nat) : Int) ((2 : Nat) : Int) ((p : Nat) : Int)))), (z 15), (z 16), (Value.bool true), (Value.bool false), (Value.tuple #[(ptr L15.bN 0), (eN 0)]), (Value.agg #[(eN 6), (eN 8), (eN 8)]), (Value.tuple #[(ptr L15.bN 0), (eN 0)]), (ptr L15.bN 0), (eN 0), (eN 0), (Value.bool false), (eN i), u1, (eN ll.length), (Value.bool true), (Value.bool true), (eN i), (Value.bool (decide (i < 30))), (Value.bool (decide (i < 30)))] ++ (zs z 34 32 ++ [(eN p), (Value.bool (decide (p < 8))), (z 68), (z 69), (Value.tuple #[u36, (eN (s2.askR (s2.readOk ((1 : Nat) : Int) ((2 : Nat) : Int) ((p : Nat) : Int))))]), (ptr L15.bN 0), (eN p), (Value.tuple #[u36, (eN (s2.askR (s2.readOk ((1 : Nat) : Int) ((2 : Nat) : Int) ((p : Nat) : Int))))]), u36, (eN (s2.askR (s2.readOk ((1 : Nat) : Int) ((2 : Nat) : Int) ((p : Nat) : Int))))] ++ (zs z 76 46 ++ [undef, undef, undef, undef]))) ?_
   refine wpL.done ?_
   refine then_n ?_
   refine wpIn_seq ?_
   refine plain ?_
   refine wI (d_move rfl) ?_
   refine wI (d_move rfl) ?_
   refine wO (d_call (xl := [.tmp 77, .const (.int .i64 1), .const (.int .i64 3), .tmp 78]) (al := [(ptr L15.bN 0), (eN 1), (eN 3), (eN p)]) Try.func21 (by kernel_rfl) rfl rfl rfl (read_ok L15 (s2.ask (s2.readOk ((1 : Nat) : Int) ((2 : Nat) : Int) ((p : Nat) : Int))) _ a16 ((1 : Nat) : Int) ((3 : Nat) : Int) ((p : Nat) : Int) lt_no)) ?_
   rintro _ w39 ⟨u41, rfl, f42, a43, o40⟩
   replace f42 := f42.less (Y := (Ors L15.S (Old W.heap.size))) (ors_old a16.lt (old_old oW.size))
   replace h1 := h1.step o40 sub1
   replace h2 := h2.step o40 sub1
   replace f37 := f37.step o40 sub1
   replace oW := oW.tail o40 (fun k hk e => by have := g_oW_L15 k e; omega)
   replace o18 := o18.tail o40 (fun k _ e => sub1 k e)
   replace o32 := o32.tail o40 (fun k _ e => sub1 k e)
   replace a16 := a43
   refine wF ([u1, u2, undef, undef, (z 4), (ptr L15.bN 0), (eN 0), (eN nx), (eN wr), (eN i), (z 10), (z 11), (eN p), u36, (eN (s2.askR (s2.readOk ((1 : Nat) : Int) ((2 : Nat) : Int) ((p : Nat) : Int)))), (z 15), (z 16), (Value.bool true), (Value.bool false), (Value.tuple #[(ptr L15.bN 0), (eN 0)]), (Value.agg #[(eN 6), (eN 8), (eN 8)]), (Value.tuple #[(ptr L15.bN 0), (eN 0)]), (ptr L15.bN 0), (eN 0), (eN 0), (Value.bool false), (eN i), u1, (eN ll.length), (Value.bool true), (Value.bool true), (eN i), (Value.bool (decide (i < 30))), (Value.bool (decide (i < 30)))] ++ (zs z 34 32 ++ [(eN p), (Value.bool (decide (p < 8))), (z 68), (z 69), (Value.tuple #[u36, (eN (s2.askR (s2.readOk ((1 : Nat) : Int) ((2 : Nat) : Int) ((p : Nat) : Int))))]), (ptr L15.bN 0), (eN p), (Value.tuple #[u36, (eN (s2.askR (s2.readOk ((1 : Nat) : Int) ((2 : Nat) : Int) ((p : Nat) : Int))))]), u36, (eN (s2.askR (s2.readOk ((1 : Nat) : Int) ((2 : Nat) : Int) ((p : Nat) : Int)))), (z 76), (ptr L15.bN 0), (eN p), (Value.tuple #[u41, (eN ((s2.ask (s2.readOk ((1 : Nat) : Int) ((2 : Nat) : Int) ((p : Nat) : Int))).askR ((s2.ask (s2.readOk ((1 : Nat) : Int) ((2 : Nat) : Int) ((p : Nat) : Int))).readOk ((1 : Nat) : Int) ((3 : Nat) : Int) ((p : Nat) : Int))))])] ++ (zs z 80 42 ++ [undef, undef, undef, undef]))) ?_
   refine wI (d_move rfl) ?_
   refine wI (d_extract (v := u41) rfl rfl) ?_
   refine wI (d_extract (v := (eN ((s2.ask (s2.readOk ((1 : Nat) : Int) ((2 : Nat) : Int) ((p : Nat) : Int))).askR ((s2.ask (s2.readOk ((1 : Nat) : Int) ((2 : Nat) : Int) ((p : Nat) : Int))).readOk ((1 : Nat) : Int) ((3 : Nat) : Int) ((p : Nat) : Int))))) rfl rfl) ?_
   refine wF ([u1, u2, undef, undef, (z 4), (ptr L15.bN 0), (eN 0), (eN nx), (eN wr), (eN i), (z 10), (z 11), (eN p), u36, (eN (s2.askR (s2.readOk ((1 : Nat) : Int) ((2 : Nat) : Int) ((p : Nat) : Int)))), (z 15), (z 16), (Value.bool true), (Value.bool false), (Value.tuple #[(ptr L15.bN 0), (eN 0)]), (Value.agg #[(eN 6), (eN 8), (eN 8)]), (Value.tuple #[(ptr L15.bN 0), (eN 0)]), (ptr L15.bN 0), (eN 0), (eN 0), (Value.bool false), (eN i), u1, (eN ll.length), (Value.bool true), (Value.bool true), (eN i), (Value.bool (decide (i < 30))), (Value.bool (decide (i < 30)))] ++ (zs z 34 32 ++ [(eN p), (Value.bool (decide (p < 8))), (z 68), (z 69), (Value.tuple #[u36, (eN (s2.askR (s2.readOk ((1 : Nat) : Int) ((2 : Nat) : Int) ((p : Nat) : Int))))]), (ptr L15.bN 0), (eN p), (Value.tuple #[u36, (eN (s2.askR (s2.readOk ((1 : Nat) : Int) ((2 : Nat) : Int) ((p : Nat) : Int))))]), u36, (eN (s2.askR (s2.readOk ((1 : Nat) : Int) ((2 : Nat) : Int) ((p : Nat) : Int)))), (Value.tuple #[u41, (eN ((s2.ask (s2.readOk ((1 : Nat) : Int) ((2 : Nat) : Int) ((p : Nat) : Int))).askR ((s2.ask (s2.readOk ((1 : Nat) : Int) ((2 : Nat) : Int) ((p : Nat) : Int))).readOk ((1 : Nat) : Int) ((3 : Nat) : Int) ((p : Nat) : Int))))]), (ptr L15.bN 0), (eN p), (Value.tuple #[u41, (eN ((s2.ask (s2.readOk ((1 : Nat) : Int) ((2 : Nat) : Int) ((p : Nat) : Int))).askR ((s2.ask (s2.readOk ((1 : Nat) : Int) ((2 : Nat) : Int) ((p : Nat) : Int))).readOk ((1 : Nat) : Int) ((3 : Nat) : Int) ((p : Nat) : Int))))]), u41, (eN ((s2.ask (s2.readOk ((1 : Nat) : Int) ((2 : Nat) : Int) ((p : Nat) : Int))).askR ((s2.ask (s2.readOk ((1 : Nat) : Int) ((2 : Nat) : Int) ((p : Nat) : Int))).readOk ((1 : Nat) : Int) ((3 : Nat) : Int) ((p : Nat) : Int))))] ++ (zs z 82 40 ++ [undef, undef, undef, undef]))) ?_
   refine wI (d_assign rfl) ?_
   refine wI (d_assign rfl) ?_
   refine wF ([u1, u2, undef, undef, (z 4), (ptr L15.bN 0), (eN 0), (eN nx), (eN wr), (eN i), (z 10), (z 11), (eN p), u36, (eN (s2.askR (s2.readOk ((1 : Nat) : Int) ((2 : Nat) : Int) ((p : Nat) : Int)))), u41, (eN ((s2.ask (s2.readOk ((1 : Nat) : Int) ((2 : Nat) : Int) ((p : Nat) : Int))).askR ((s2.ask (s2.readOk ((1 : Nat) : Int) ((2 : Nat) : Int) ((p : Nat) : Int))).readOk ((1 : Nat) : Int) ((3 : Nat) : Int) ((p : Nat) : Int)))), (Value.bool true), (Value.bool false), (Value.tuple #[(ptr L15.bN 0), (eN 0)]), (Value.agg #[(eN 6), (eN 8), (eN 8)]), (Value.tuple #[(ptr L15.bN 0), (eN 0)]), (ptr L15.bN 0), (eN 0), (eN 0), (Value.bool false), (eN i), u1, (eN ll.length), (Value.bool true), (Value.bool true), (eN i), (Value.bool (decide (i < 30))), (Value.bool (decide (i < 30)))] ++ (zs z 34 32 ++ [(eN p), (Value.bool (decide (p < 8))), (z 68), (z 69), (Value.tuple #[u36, (eN (s2.askR (s2.readOk ((1 : Nat) : Int) ((2 : Nat) : Int) ((p : Nat) : Int))))]), (ptr L15.bN 0), (eN p), (Value.tuple #[u36, (eN (s2.askR (s2.readOk ((1 : Nat) : Int) ((2 : Nat) : Int) ((p : Nat) : Int))))]), u36, (eN (s2.askR (s2.readOk ((1 : Nat) : Int) ((2 : Nat) : Int) ((p : Nat) : Int)))), (Value.tuple #[u41, (eN ((s2.ask (s2.readOk ((1 : Nat) : Int) ((2 : Nat) : Int) ((p : Nat) : Int))).askR ((s2.ask (s2.readOk ((1 : Nat) : Int) ((2 : Nat) : Int) ((p : Nat) : Int))).readOk ((1 : Nat) : Int) ((3 : Nat) : Int) ((p : Nat) : Int))))]), (ptr L15.bN 0), (eN p), (Value.tuple #[u41, (eN ((s2.ask (s2.readOk ((1 : Nat) : Int) ((2 : Nat) : Int) ((p : Nat) : Int))).askR ((s2.ask (s2.readOk ((1 : Nat) : Int) ((2 : Nat) : Int) ((p : Nat) : Int))).readOk ((1 : Nat) : Int) ((3 : Nat) : Int) ((p : Nat) : Int))))]), u41, (eN ((s2.ask (s2.readOk ((1 : Nat) : Int) ((2 : Nat) : Int) ((p : Nat) : Int))).askR ((s2.ask (s2.readOk ((1 : Nat) : Int) ((2 : Nat) : Int) ((p : Nat) : Int))).readOk ((1 : Nat) : Int) ((3 : Nat) : Int) ((p : Nat) : Int))))] ++ (zs z 82 40 ++ [undef, undef, undef, undef]))) ?_
   refine wpL.done ?_
   refine then_n ?_
   refine wpIn_seq ?_
   by_cases k3 : p < nx
   ·
    refine drawn' (O := (Ors L15.S No)) (n := 40) [0, 1, 3, 7, 15, 31, 63, 127, 127, 511, 1023, 2047, 4095, 2047, 10239, 26623, 65535, 131071, 262143, 524287, 1048575, 1048575, 4194303, 8388607, 16777215, 33554431, 16777215, 83886079, 218103807, 536870911, 1073741823, 2147483647, 4294967295, 8589934591, 17179869183, 8589934591, 42949672959, 111669149695, 274877906943, 549755813887] [(0, 82), (1, 83), (2, 84), (3, 85), (4, 86), (5, 87), (6, 88), (7, 89), (8, 90), (9, 91), (10, 92), (11, 93), (12, 94), (13, 95), (14, 96), (15, 97), (16, 98), (17, 99), (18, 100), (19, 101), (20, 102), (21, 103), (22, 104), (23, 105), (24, 106), (25, 107), (26, 108), (27, 109), (28, 110), (29, 111), (30, 112), (31, 113), (32, 114), (33, 115), (34, 116), (35, 117), (36, 118), (37, 119), (38, 120), (39, 121)] [0, 1, 2, 3, 4, 5, 6, 7, 8, 9, 10, 11, 12, 13, 14, 15, 16, 17, 18, 19, 20, 21, 22, 23, 24, 25, 26, 27, 28, 29, 30, 31, 32, 33, 34, 35, 36, 37, 38, 39] [] (fun i_ => ([RF.is (Ors L15.S No) (eN (s2.askR (s2.readOk ((1 : Nat) : Int) ((2 : Nat) : Int) ((p : Nat) : Int)))), RF.is (Ors L15.S No) (Value.bool false), RF.is (Ors L15.S No) (Value.bool false), RF.is (Ors L15.S No) (eN ((s2.ask (s2.readOk ((1 : Nat) : Int) ((2 : Nat) : Int) ((p : Nat) : Int))).askR ((s2.ask (s2.readOk ((1 : Nat) : Int) ((2 : Nat) : Int) ((p : Nat) : Int))).readOk ((1 : Nat) : Int) ((3 : Nat) : Int) ((p : Nat) : Int)))), RF.is (Ors L15.S No) (Value.bool false), RF.is (Ors L15.S No) (Value.bool false), RF.is (Ors L15.S No) (Value.bool false), RF.is (Ors L15.S No) (eN p), RF.is (Ors L15.S No) (eN nx), RF.is (Ors L15.S No) (Value.bool true), RF.is (Ors L15.S No) (Value.bool true), RF.is (Ors L15.S No) u36, RF.is (Ors L15.S No) (Value.string (strOf (s2.readL ((1 : Nat) : Int) ((2 : Nat) : Int) ((p : Nat) : Int)))), RF.is (Ors L15.S No) u2, RF.ps (Ors L15.S No) (Ors L15.S (Old W.heap.size)) (Seq kB (bytesL lb 60)) (ors_mono no_any), RF.is (Ors L15.S No) (Value.string (strOf (bytesL lb 60))), RF.is (Ors L15.S No) (Value.bool false), RF.is (Ors L15.S No) (Value.bool false), RF.is (Ors L15.S No) (Value.bool false), RF.is (Ors L15.S No) (Value.bool false), RF.is (Ors L15.S No) (eN p), RF.is (Ors L15.S No) (eN nx), RF.is (Ors L15.S No) (Value.bool false), RF.is (Ors L15.S No) (Value.bool false), RF.is (Ors L15.S No) undef, RF.is (Ors L15.S No) undef, RF.is (Ors L15.S No) undef, RF.is (Ors L15.S No) undef, RF.is (Ors L15.S No) undef, RF.is (Ors L15.S No) undef, RF.is (Ors L15.S No) (Value.bool false), RF.is (Ors L15.S No) (Value.bool false), RF.is (Ors L15.S No) (Value.bool false), RF.is (Ors L15.S No) u41, RF.is (Ors L15.S No) (Value.string (strOf ((s2.ask (s2.readOk ((1 : Nat) : Int) ((2 : Nat) : Int) ((p : Nat) : Int))).readL ((1 : Nat) : Int) ((3 : Nat) : Int) ((p : Nat) : Int)))), RF.ps (Ors L15.S No) (Ors L15.S (Old W.heap.size)) (Seq kB [255]) (ors_mono no_any), RF.ps (Ors L15.S No) (Ors L15.S (Old W.heap.size)) (Seq kB (bytesL [255] 60)) (ors_mono no_any), RF.is (Ors L15.S No) (Value.string (strOf (bytesL [255] 60))), RF.is (Ors L15.S No) (Value.bool false), RF.is (Ors L15.S No) (Value.bool false)] : List (RF (Ors L15.S No))).getD i_ (RF.any (Ors L15.S No))) (fun _ w_ => Nd L15 ((s2.ask (s2.readOk ((1 : Nat) : Int) ((2 : Nat) : Int) ((p : Nat) : Int))).ask ((s2.ask (s2.readOk ((1 : Nat) : Int) ((2 : Nat) : Int) ((p : Nat) : Int))).readOk ((1 : Nat) : Int) ((3 : Nat) : Int) ((p : Nat) : Int))) No w_) (fun v44 => ([u1, u2, undef, undef, (z 4), (ptr L15.bN 0), (eN 0), (eN nx), (eN wr), (eN i), (z 10), (z 11), (eN p), u36, (eN (s2.askR (s2.readOk ((1 : Nat) : Int) ((2 : Nat) : Int) ((p : Nat) : Int)))), u41, (eN ((s2.ask (s2.readOk ((1 : Nat) : Int) ((2 : Nat) : Int) ((p : Nat) : Int))).askR ((s2.ask (s2.readOk ((1 : Nat) : Int) ((2 : Nat) : Int) ((p : Nat) : Int))).readOk ((1 : Nat) : Int) ((3 : Nat) : Int) ((p : Nat) : Int)))), (Value.bool true), (Value.bool false), (Value.tuple #[(ptr L15.bN 0), (eN 0)]), (Value.agg #[(eN 6), (eN 8), (eN 8)]), (Value.tuple #[(ptr L15.bN 0), (eN 0)]), (ptr L15.bN 0), (eN 0), (eN 0), (Value.bool false), (eN i), u1, (eN ll.length), (Value.bool true), (Value.bool true), (eN i), (Value.bool (decide (i < 30))), (Value.bool (decide (i < 30)))] ++ (zs z 34 32 ++ [(eN p), (Value.bool (decide (p < 8))), (z 68), (z 69), (Value.tuple #[u36, (eN (s2.askR (s2.readOk ((1 : Nat) : Int) ((2 : Nat) : Int) ((p : Nat) : Int))))]), (ptr L15.bN 0), (eN p), (Value.tuple #[u36, (eN (s2.askR (s2.readOk ((1 : Nat) : Int) ((2 : Nat) : Int) ((p : Nat) : Int))))]), u36, (eN (s2.askR (s2.readOk ((1 : Nat) : Int) ((2 : Nat) : Int) ((p : Nat) : Int)))), (Value.tuple #[u41, (eN ((s2.ask (s2.readOk ((1 : Nat) : Int) ((2 : Nat) : Int) ((p : Nat) : Int))).askR ((s2.ask (s2.readOk ((1 : Nat) : Int) ((2 : Nat) : Int) ((p : Nat) : Int))).readOk ((1 : Nat) : Int) ((3 : Nat) : Int) ((p : Nat) : Int))))]), (ptr L15.bN 0), (eN p), (Value.tuple #[u41, (eN ((s2.ask (s2.readOk ((1 : Nat) : Int) ((2 : Nat) : Int) ((p : Nat) : Int))).askR ((s2.ask (s2.readOk ((1 : Nat) : Int) ((2 : Nat) : Int) ((p : Nat) : Int))).readOk ((1 : Nat) : Int) ((3 : Nat) : Int) ((p : Nat) : Int))))]), u41, (eN ((s2.ask (s2.readOk ((1 : Nat) : Int) ((2 : Nat) : Int) ((p : Nat) : Int))).askR ((s2.ask (s2.readOk ((1 : Nat) : Int) ((2 : Nat) : Int) ((p : Nat) : Int))).readOk ((1 : Nat) : Int) ((3 : Nat) : Int) ((p : Nat) : Int)))), (v44 0), (v44 1), (v44 2), (v44 3), (v44 4), (v44 5), (v44 6), (v44 7), (v44 8), (v44 9), (v44 10), (v44 11), (v44 12), (v44 13), (v44 14), (v44 15), (v44 16), (v44 17), (v44 18), (v44 19), (v44 20), (v44 21), (v44 22), (v44 23), (v44 24), (v44 25), (v44 26), (v44 27), (v44 28), (v44 29), (v44 30), (v44 31), (v44 32), (v44 33), (v44 34), (v44 35), (v44 36), (v44 37), (v44 38), (v44 39), undef, undef, undef, undef]))) s_mx (by kernel_rfl) rfl (by kernel_rfl) (by rfl) (fun v_ => by kernel_rfl) (fun _ => fun w_ w2_ h ho => by have r_a16 := h; exact r_a16.step0 ho) a16 ?_ ?_ ?_
    ·
     refine ls_cons ?_ ?_
     ·
      intro v44 lo hi w_ k_ hO hd _ _ hk_ _ hR hold
      have r_a16 := hR
      clear hd hold
      refine ⟨_, rfl, gd rfl ?_⟩
      exact Does.is (d_move rfl)
     refine ls_cons ?_ ?_
     ·
      intro v44 lo hi w_ k_ hO hd _ _ hk_ _ hR hold
      have r_a16 := hR
      have e0 : v44 0 = (eN (s2.askR (s2.readOk ((1 : Nat) : Int) ((2 : Nat) : Int) ((p : Nat) : Int)))) := hd 0 (by kernel_rfl)
      clear hd hold
      refine ⟨_, rfl, gd rfl ?_⟩
      exact Does.is (n_neq (a := (s2.askR (s2.readOk ((1 : Nat) : Int) ((2 : Nat) : Int) ((p : Nat) : Int)))) (b := 0) e0 rfl (by rw [decide_eq_true ((ord_read hJ hp7).1)] <;> rfl))
     refine ls_cons ?_ ?_
     ·
      intro v44 lo hi w_ k_ hO hd _ _ hk_ _ hR hold
      have r_a16 := hR
      have e1 : v44 1 = (Value.bool false) := hd 1 (by kernel_rfl)
      clear hd hold
      refine ⟨_, rfl, gd rfl ?_⟩
      exact Does.is (d_move (v := (Value.bool false)) e1)
     refine ls_cons ?_ ?_
     ·
      intro v44 lo hi w_ k_ hO hd _ _ hk_ _ hR hold
      have r_a16 := hR
      have e2 : v44 2 = (Value.bool false) := hd 2 (by kernel_rfl)
      clear hd hold
      refine ⟨_, rfl, gd_on rfl rfl rfl (nb rfl) e2 ?_⟩
      exact Does.is (d_move rfl)
     refine ls_cons ?_ ?_
     ·
      intro v44 lo hi w_ k_ hO hd _ _ hk_ _ hR hold
      have r_a16 := hR
      have e2 : v44 2 = (Value.bool false) := hd 2 (by kernel_rfl)
      have e3 : v44 3 = (eN ((s2.ask (s2.readOk ((1 : Nat) : Int) ((2 : Nat) : Int) ((p : Nat) : Int))).askR ((s2.ask (s2.readOk ((1 : Nat) : Int) ((2 : Nat) : Int) ((p : Nat) : Int))).readOk ((1 : Nat) : Int) ((3 : Nat) : Int) ((p : Nat) : Int)))) := hd 3 (by kernel_rfl)
      clear hd hold
      refine ⟨_, rfl, gd_on rfl rfl rfl (nb rfl) e2 ?_⟩
      exact Does.is (n_neq (a := ((s2.ask (s2.readOk ((1 : Nat) : Int) ((2 : Nat) : Int) ((p : Nat) : Int))).askR ((s2.ask (s2.readOk ((1 : Nat) : Int) ((2 : Nat) : Int) ((p : Nat) : Int))).readOk ((1 : Nat) : Int) ((3 : Nat) : Int) ((p : Nat) : Int)))) (b := 0) e3 rfl (by rw [decide_eq_true ((ord_read3 (ord_read hJ hp7).2.2 hp7).1)] <;> rfl))
     refine ls_cons ?_ ?_
     ·
      intro v44 lo hi w_ k_ hO hd _ _ hk_ _ hR hold
      have r_a16 := hR
      have e2 : v44 2 = (Value.bool false) := hd 2 (by kernel_rfl)
      have e4 : v44 4 = (Value.bool false) := hd 4 (by kernel_rfl)
      clear hd hold
      refine ⟨_, rfl, gd rfl ?_⟩
      exact Does.is (d_pick (b := false) (v := (Value.bool false)) e2 e4)
     refine ls_cons ?_ ?_
     ·
      intro v44 lo hi w_ k_ hO hd _ _ hk_ _ hR hold
      have r_a16 := hR
      have e5 : v44 5 = (Value.bool false) := hd 5 (by kernel_rfl)
      clear hd hold
      refine ⟨_, rfl, gd rfl ?_⟩
      exact Does.is (d_move (v := (Value.bool false)) e5)
     refine ls_cons ?_ ?_
     ·
      intro v44 lo hi w_ k_ hO hd _ _ hk_ _ hR hold
      have r_a16 := hR
      have e6 : v44 6 = (Value.bool false) := hd 6 (by kernel_rfl)
      clear hd hold
      refine ⟨_, rfl, gd_on rfl rfl rfl (nb rfl) e6 ?_⟩
      exact Does.is (d_move rfl)
     refine ls_cons ?_ ?_
     ·
      intro v44 lo hi w_ k_ hO hd _ _ hk_ _ hR hold
      have r_a16 := hR
      have e6 : v44 6 = (Value.bool false) := hd 6 (by kernel_rfl)
      clear hd hold
      refine ⟨_, rfl, gd_on rfl rfl rfl (nb rfl) e6 ?_⟩
      exact Does.is (d_move rfl)
     refine ls_cons ?_ ?_
     ·
      intro v44 lo hi w_ k_ hO hd _ _ hk_ _ hR hold
      have r_a16 := hR
      have e6 : v44 6 = (Value.bool false) := hd 6 (by kernel_rfl)
      have e7 : v44 7 = (eN p) := hd 7 (by kernel_rfl)
      have e8 : v44 8 = (eN nx) := hd 8 (by kernel_rfl)
      clear hd hold
      refine ⟨_, rfl, gd_on rfl rfl rfl (nb rfl) e6 ?_⟩
      exact Does.is (n_lss (a := p) (b := nx) e7 e8 (decide_eq_true k3))
     refine ls_cons ?_ ?_
     ·
      intro v44 lo hi w_ k_ hO hd _ _ hk_ _ hR hold
      have r_a16 := hR
      have e6 : v44 6 = (Value.bool false) := hd 6 (by kernel_rfl)
      have e9 : v44 9 = (Value.bool true) := hd 9 (by kernel_rfl)
      clear hd hold
      refine ⟨_, rfl, gd_on rfl rfl rfl (nb rfl) e6 ?_⟩
      exact Does.is (d_move (v := (Value.bool true)) e9)
     refine ls_cons ?_ ?_
     ·
      intro v44 lo hi w_ k_ hO hd _ _ hk_ _ hR hold
      have r_a16 := hR
      have e10 : v44 10 = (Value.bool true) := hd 10 (by kernel_rfl)
      clear hd hold
      refine ⟨_, rfl, gd_on rfl rfl rfl (nb rfl) e10 ?_⟩
      exact Does.is (d_move rfl)
     refine ls_cons ?_ ?_
     ·
      intro v44 lo hi w_ k_ hO hd _ _ hk_ _ hR hold
      have r_a16 := hR
      have e10 : v44 10 = (Value.bool true) := hd 10 (by kernel_rfl)
      have e11 : v44 11 = u36 := hd 11 (by kernel_rfl)
      clear hd hold
      refine ⟨_, rfl, gd_on rfl rfl rfl (nb rfl) e10 ?_⟩
      exact Does.is (d_str Try.underlying36 Try.underlying5 Try.underlying9 e11 (f37.step hO (ors_mono no_any)))
     refine ls_cons ?_ ?_
     ·
      intro v44 lo hi w_ k_ hO hd _ _ hk_ _ hR hold
      have r_a16 := hR
      have e10 : v44 10 = (Value.bool true) := hd 10 (by kernel_rfl)
      clear hd hold
      refine ⟨_, rfl, gd_on rfl rfl rfl (nb rfl) e10 ?_⟩
      exact Does.is (d_move rfl)
     refine ls_cons ?_ ?_
     ·
      intro v44 lo hi w_ k_ hO hd _ _ hk_ _ hR hold
      have r_a16 := hR
      have e10 : v44 10 = (Value.bool true) := hd 10 (by kernel_rfl)
      have e13 : v44 13 = u2 := hd 13 (by kernel_rfl)
      clear hd hold
      refine ⟨_, rfl, gd_on rfl rfl rfl (nb rfl) e10 ?_⟩
      refine Does.mono (R := ROw 5 eB (bytesL lb 60) w_) ?_ (fun u w' h => ⟨(h.ps).1.less (ors_old r_a16.lt (old_old (Nat.le_trans oW.size hO.size))), (h.ps).2⟩)
      exact d_call (xl := [.tmp 95, .const (.int .i64 60)]) (al := [u2, (eN 60)]) Try.func16 (by kernel_rfl) rfl (show ([(v44 13), (eN 60)] : List Value) = [u2, (eN 60)] from by rw [e13]) rfl (law7Bytes_ok lb 60 u2 _ (Ps.no (h2.step hO (ors_mono no_any))) (by first | omega | (simp; done) | (simp; omega)) (by omega))
     refine ls_cons ?_ ?_
     ·
      intro v44 lo hi w_ k_ hO hd _ _ hk_ _ hR hold
      have r_a16 := hR
      have e10 : v44 10 = (Value.bool true) := hd 10 (by kernel_rfl)
      have d14 : Ps (Ors L15.S (Old W.heap.size)) (Seq kB (bytesL lb 60) (v44 14)) w_ := hd 14 (by kernel_rfl)
      clear hd hold
      refine ⟨_, rfl, gd_on rfl rfl rfl (nb rfl) e10 ?_⟩
      exact Does.is (d_str Try.underlying36 Try.underlying5 Try.underlying9 rfl d14)
     refine ls_cons ?_ ?_
     ·
      intro v44 lo hi w_ k_ hO hd _ _ hk_ _ hR hold
      have r_a16 := hR
      have e10 : v44 10 = (Value.bool true) := hd 10 (by kernel_rfl)
      have e12 : v44 12 = (Value.string (strOf (s2.readL ((1 : Nat) : Int) ((2 : Nat) : Int) ((p : Nat) : Int)))) := hd 12 (by kernel_rfl)
      have e15 : v44 15 = (Value.string (strOf (bytesL lb 60))) := hd 15 (by kernel_rfl)
      clear hd hold
      refine ⟨_, rfl, gd_on rfl rfl rfl (nb rfl) e10 ?_⟩
      exact Does.is (d_sneq (a := (s2.readL ((1 : Nat) : Int) ((2 : Nat) : Int) ((p : Nat) : Int))) (c := (bytesL lb 60)) e12 e15 (by rw [decide_eq_true (by rw [(ord_read hJ hp7).2.1, if_pos k3])] <;> rfl))
     refine ls_cons ?_ ?_
     ·
      intro v44 lo hi w_ k_ hO hd _ _ hk_ _ hR hold
      have r_a16 := hR
      have e10 : v44 10 = (Value.bool true) := hd 10 (by kernel_rfl)
      have e16 : v44 16 = (Value.bool false) := hd 16 (by kernel_rfl)
      have e6 : v44 6 = (Value.bool false) := hd 6 (by kernel_rfl)
      clear hd hold
      refine ⟨_, rfl, gd_on rfl rfl rfl (nb rfl) e6 ?_⟩
      exact Does.is (d_pick (b := true) (v := (Value.bool false)) e10 e16)
     refine ls_cons ?_ ?_
     ·
      intro v44 lo hi w_ k_ hO hd _ _ hk_ _ hR hold
      have r_a16 := hR
      have e17 : v44 17 = (Value.bool false) := hd 17 (by kernel_rfl)
      have e6 : v44 6 = (Value.bool false) := hd 6 (by kernel_rfl)
      clear hd hold
      refine ⟨_, rfl, gd rfl ?_⟩
      exact Does.is (d_pick (b := false) (v := (Value.bool false)) e6 e17)
     refine ls_cons ?_ ?_
     ·
      intro v44 lo hi w_ k_ hO hd _ _ hk_ _ hR hold
      have r_a16 := hR
      have e18 : v44 18 = (Value.bool false) := hd 18 (by kernel_rfl)
      clear hd hold
      refine ⟨_, rfl, gd rfl ?_⟩
      exact Does.is (d_move (v := (Value.bool false)) e18)
     refine ls_cons ?_ ?_
     ·
      intro v44 lo hi w_ k_ hO hd _ _ hk_ _ hR hold
      have r_a16 := hR
      have e19 : v44 19 = (Value.bool false) := hd 19 (by kernel_rfl)
      clear hd hold
      refine ⟨_, rfl, gd_on rfl rfl rfl (nb rfl) e19 ?_⟩
      exact Does.is (d_move rfl)
     refine ls_cons ?_ ?_
     ·
      intro v44 lo hi w_ k_ hO hd _ _ hk_ _ hR hold
      have r_a16 := hR
      have e19 : v44 19 = (Value.bool false) := hd 19 (by kernel_rfl)
      clear hd hold
      refine ⟨_, rfl, gd_on rfl rfl rfl (nb rfl) e19 ?_⟩
      exact Does.is (d_move rfl)
     refine ls_cons ?_ ?_
     ·
      intro v44 lo hi w_ k_ hO hd _ _ hk_ _ hR hold
      have r_a16 := hR
      have e19 : v44 19 = (Value.bool false) := hd 19 (by kernel_rfl)
      have e20 : v44 20 = (eN p) := hd 20 (by kernel_rfl)
      have e21 : v44 21 = (eN nx) := hd 21 (by kernel_rfl)
      clear hd hold
      refine ⟨_, rfl, gd_on rfl rfl rfl (nb rfl) e19 ?_⟩
      exact Does.is (n_geq (a := p) (b := nx) e20 e21 (decide_eq_false (by omega)))
     refine ls_cons ?_ ?_
     ·
      intro v44 lo hi w_ k_ hO hd _ _ hk_ _ hR hold
      have r_a16 := hR
      have e19 : v44 19 = (Value.bool false) := hd 19 (by kernel_rfl)
      have e22 : v44 22 = (Value.bool false) := hd 22 (by kernel_rfl)
      clear hd hold
      refine ⟨_, rfl, gd_on rfl rfl rfl (nb rfl) e19 ?_⟩
      exact Does.is (d_move (v := (Value.bool false)) e22)
     refine ls_cons ?_ ?_
     ·
      intro v44 lo hi w_ k_ hO hd _ _ hk_ _ hR hold
      have r_a16 := hR
      have e23 : v44 23 = (Value.bool false) := hd 23 (by kernel_rfl)
      clear hd hold
      refine ⟨_, rfl, gd_off rfl rfl rfl (nb rfl) e23 ?_⟩
      exact ⟨rfl, Only.refl _ _⟩
     refine ls_cons ?_ ?_
     ·
      intro v44 lo hi w_ k_ hO hd _ _ hk_ _ hR hold
      have r_a16 := hR
      have e23 : v44 23 = (Value.bool false) := hd 23 (by kernel_rfl)
      clear hd hold
      refine ⟨_, rfl, gd_off rfl rfl rfl (nb rfl) e23 ?_⟩
      exact ⟨rfl, Only.refl _ _⟩
     refine ls_cons ?_ ?_
     ·
      intro v44 lo hi w_ k_ hO hd _ _ hk_ _ hR hold
      have r_a16 := hR
      have e23 : v44 23 = (Value.bool false) := hd 23 (by kernel_rfl)
      clear hd hold
      refine ⟨_, rfl, gd_off rfl rfl rfl (nb rfl) e23 ?_⟩
      exact ⟨rfl, Only.refl _ _⟩
     refine ls_cons ?_ ?_
     ·
      intro v44 lo hi w_ k_ hO hd _ _ hk_ _ hR hold
      have r_a16 := hR
      have e23 : v44 23 = (Value.bool false) := hd 23 (by kernel_rfl)
      clear hd hold
      refine ⟨_, rfl, gd_off rfl rfl rfl (nb rfl) e23 ?_⟩
      exact ⟨rfl, Only.refl _ _⟩
     refine ls_cons ?_ ?_
     ·
      intro v44 lo hi w_ k_ hO hd _ _ hk_ _ hR hold
      have r_a16 := hR
      have e23 : v44 23 = (Value.bool false) := hd 23 (by kernel_rfl)
      clear hd hold
      refine ⟨_, rfl, gd_off rfl rfl rfl (nb rfl) e23 ?_⟩
      exact ⟨rfl, Only.refl _ _⟩
     refine ls_cons ?_ ?_
     ·
      intro v44 lo hi w_ k_ hO hd _ _ hk_ _ hR hold
      have r_a16 := hR
      have e23 : v44 23 = (Value.bool false) := hd 23 (by kernel_rfl)
      clear hd hold
      refine ⟨_, rfl, gd_off rfl rfl rfl (nb rfl) e23 ?_⟩
      exact ⟨rfl, Only.refl _ _⟩
     refine ls_cons ?_ ?_
     ·
      intro v44 lo hi w_ k_ hO hd _ _ hk_ _ hR hold
      have r_a16 := hR
      have e19 : v44 19 = (Value.bool false) := hd 19 (by kernel_rfl)
      have e23 : v44 23 = (Value.bool false) := hd 23 (by kernel_rfl)
      clear hd hold
      refine ⟨_, rfl, gd_on rfl rfl rfl (nb rfl) e19 ?_⟩
      exact Does.is (d_pick (b := false) (v := (Value.bool false)) e23 rfl)
     refine ls_cons ?_ ?_
     ·
      intro v44 lo hi w_ k_ hO hd _ _ hk_ _ hR hold
      have r_a16 := hR
      have e19 : v44 19 = (Value.bool false) := hd 19 (by kernel_rfl)
      have e30 : v44 30 = (Value.bool false) := hd 30 (by kernel_rfl)
      clear hd hold
      refine ⟨_, rfl, gd rfl ?_⟩
      exact Does.is (d_pick (b := false) (v := (Value.bool false)) e19 e30)
     refine ls_cons ?_ ?_
     ·
      intro v44 lo hi w_ k_ hO hd _ _ hk_ _ hR hold
      have r_a16 := hR
      have e31 : v44 31 = (Value.bool false) := hd 31 (by kernel_rfl)
      clear hd hold
      refine ⟨_, rfl, gd rfl ?_⟩
      exact Does.is (d_move (v := (Value.bool false)) e31)
     refine ls_cons ?_ ?_
     ·
      intro v44 lo hi w_ k_ hO hd _ _ hk_ _ hR hold
      have r_a16 := hR
      have e32 : v44 32 = (Value.bool false) := hd 32 (by kernel_rfl)
      clear hd hold
      refine ⟨_, rfl, gd_on rfl rfl rfl (nb rfl) e32 ?_⟩
      exact Does.is (d_move rfl)
     refine ls_cons ?_ ?_
     ·
      intro v44 lo hi w_ k_ hO hd _ _ hk_ _ hR hold
      have r_a16 := hR
      have e32 : v44 32 = (Value.bool false) := hd 32 (by kernel_rfl)
      have e33 : v44 33 = u41 := hd 33 (by kernel_rfl)
      clear hd hold
      refine ⟨_, rfl, gd_on rfl rfl rfl (nb rfl) e32 ?_⟩
      exact Does.is (d_str Try.underlying36 Try.underlying5 Try.underlying9 e33 (f42.step hO (ors_mono no_any)))
     refine ls_cons ?_ ?_
     ·
      intro v44 lo hi w_ k_ hO hd _ _ hk_ _ hR hold
      have r_a16 := hR
      have e32 : v44 32 = (Value.bool false) := hd 32 (by kernel_rfl)
      clear hd hold
      refine ⟨_, rfl, gd_on rfl rfl rfl (nb rfl) e32 ?_⟩
      refine Does.mono (d_buildL (cs := [(eB 255)]) Try.underlying36 s_ti5 rfl (nb rfl) (parts_cons (vs := [(eB 255)]) (cells_of (v := (eB 255)) rfl rfl) parts_nil) rfl) (fun u w' h => ⟨(made_seq (n := 1) (xs := [255]) (enc := eB) h rfl).1.less (ors_old r_a16.lt (old_old (Nat.le_trans oW.size hO.size))), (made_seq (n := 1) (xs := [255]) (enc := eB) h rfl).2⟩)
     refine ls_cons ?_ ?_
     ·
      intro v44 lo hi w_ k_ hO hd _ _ hk_ _ hR hold
      have r_a16 := hR
      have e32 : v44 32 = (Value.bool false) := hd 32 (by kernel_rfl)
      have d35 : Ps (Ors L15.S (Old W.heap.size)) (Seq kB [255] (v44 35)) w_ := hd 35 (by kernel_rfl)
      clear hd hold
      refine ⟨_, rfl, gd_on rfl rfl rfl (nb rfl) e32 ?_⟩
      refine Does.mono (R := ROw 5 eB (bytesL [255] 60) w_) ?_ (fun u w' h => ⟨(h.ps).1.less (ors_old r_a16.lt (old_old (Nat.le_trans oW.size hO.size))), (h.ps).2⟩)
      exact d_call (xl := [.tmp 117, .const (.int .i64 60)]) (al := [(v44 35), (eN 60)]) Try.func16 (by kernel_rfl) rfl rfl rfl (law7Bytes_ok [255] 60 (v44 35) _ (Ps.no d35) (by first | omega | (simp; done) | (simp; omega)) (by omega))
     refine ls_cons ?_ ?_
     ·
      intro v44 lo hi w_ k_ hO hd _ _ hk_ _ hR hold
      have r_a16 := hR
      have e32 : v44 32 = (Value.bool false) := hd 32 (by kernel_rfl)
      have d36 : Ps (Ors L15.S (Old W.heap.size)) (Seq kB (bytesL [255] 60) (v44 36)) w_ := hd 36 (by kernel_rfl)
      clear hd hold
      refine ⟨_, rfl, gd_on rfl rfl rfl (nb rfl) e32 ?_⟩
      exact Does.is (d_str Try.underlying36 Try.underlying5 Try.underlying9 rfl d36)
     refine ls_cons ?_ ?_
     ·
      intro v44 lo hi w_ k_ hO hd _ _ hk_ _ hR hold
      have r_a16 := hR
      have e32 : v44 32 = (Value.bool false) := hd 32 (by kernel_rfl)
      have e34 : v44 34 = (Value.string (strOf ((s2.ask (s2.readOk ((1 : Nat) : Int) ((2 : Nat) : Int) ((p : Nat) : Int))).readL ((1 : Nat) : Int) ((3 : Nat) : Int) ((p : Nat) : Int)))) := hd 34 (by kernel_rfl)
      have e37 : v44 37 = (Value.string (strOf (bytesL [255] 60))) := hd 37 (by kernel_rfl)
      clear hd hold
      refine ⟨_, rfl, gd_on rfl rfl rfl (nb rfl) e32 ?_⟩
      exact Does.is (d_sneq (a := ((s2.ask (s2.readOk ((1 : Nat) : Int) ((2 : Nat) : Int) ((p : Nat) : Int))).readL ((1 : Nat) : Int) ((3 : Nat) : Int) ((p : Nat) : Int))) (c := (bytesL [255] 60)) e34 e37 (by rw [decide_eq_true (by rw [(ord_read3 (ord_read hJ hp7).2.2 hp7).2.1]; exact onesW_bytes.symm)] <;> rfl))
     refine ls_cons ?_ ?_
     ·
      intro v44 lo hi w_ k_ hO hd _ _ hk_ _ hR hold
      have r_a16 := hR
      have e32 : v44 32 = (Value.bool false) := hd 32 (by kernel_rfl)
      have e38 : v44 38 = (Value.bool false) := hd 38 (by kernel_rfl)
      clear hd hold
      refine ⟨_, rfl, gd rfl ?_⟩
      exact Does.is (d_pick (b := false) (v := (Value.bool false)) e32 e38)
     exact ls_nil
    ·
     exact ms_nil
    intro v44 lo_ hi_ w45 o46 hd iv_ hR
    have e0 : v44 0 = (eN (s2.askR (s2.readOk ((1 : Nat) : Int) ((2 : Nat) : Int) ((p : Nat) : Int)))) := hd 0 (by decide)
    have e1 : v44 1 = (Value.bool false) := hd 1 (by decide)
    have e2 : v44 2 = (Value.bool false) := hd 2 (by decide)
    have e3 : v44 3 = (eN ((s2.ask (s2.readOk ((1 : Nat) : Int) ((2 : Nat) : Int) ((p : Nat) : Int))).askR ((s2.ask (s2.readOk ((1 : Nat) : Int) ((2 : Nat) : Int) ((p : Nat) : Int))).readOk ((1 : Nat) : Int) ((3 : Nat) : Int) ((p : Nat) : Int)))) := hd 3 (by decide)
    have e4 : v44 4 = (Value.bool false) := hd 4 (by decide)
    have e5 : v44 5 = (Value.bool false) := hd 5 (by decide)
    have e6 : v44 6 = (Value.bool false) := hd 6 (by decide)
    have e7 : v44 7 = (eN p) := hd 7 (by decide)
    have e8 : v44 8 = (eN nx) := hd 8 (by decide)
    have e9 : v44 9 = (Value.bool true) := hd 9 (by decide)
    have e10 : v44 10 = (Value.bool true) := hd 10 (by decide)
    have e11 : v44 11 = u36 := hd 11 (by decide)
    have e12 : v44 12 = (Value.string (strOf (s2.readL ((1 : Nat) : Int) ((2 : Nat) : Int) ((p : Nat) : Int)))) := hd 12 (by decide)
    have e13 : v44 13 = u2 := hd 13 (by decide)
    have e15 : v44 15 = (Value.string (strOf (bytesL lb 60))) := hd 15 (by decide)
    have e16 : v44 16 = (Value.bool false) := hd 16 (by decide)
    have e17 : v44 17 = (Value.bool false) := hd 17 (by decide)
    have e18 : v44 18 = (Value.bool false) := hd 18 (by decide)
    have e19 : v44 19 = (Value.bool false) := hd 19 (by decide)
    have e20 : v44 20 = (eN p) := hd 20 (by decide)
    have e21 : v44 21 = (eN nx) := hd 21 (by decide)
    have e22 : v44 22 = (Value.bool false) := hd 22 (by decide)
    have e23 : v44 23 = (Value.bool false) := hd 23 (by decide)
    have e24 : v44 24 = undef := hd 24 (by decide)
    have e25 : v44 25 = undef := hd 25 (by decide)
    have e26 : v44 26 = undef := hd 26 (by decide)
    have e27 : v44 27 = undef := hd 27 (by decide)
    have e28 : v44 28 = undef := hd 28 (by decide)
    have e29 : v44 29 = undef := hd 29 (by decide)
    have e30 : v44 30 = (Value.bool false) := hd 30 (by decide)
    have e31 : v44 31 = (Value.bool false) := hd 31 (by decide)
    have e32 : v44 32 = (Value.bool false) := hd 32 (by decide)
    have e33 : v44 33 = u41 := hd 33 (by decide)
    have e34 : v44 34 = (Value.string (strOf ((s2.ask (s2.readOk ((1 : Nat) : Int) ((2 : Nat) : Int) ((p : Nat) : Int))).readL ((1 : Nat) : Int) ((3 : Nat) : Int) ((p : Nat) : Int)))) := hd 34 (by decide)
    have e37 : v44 37 = (Value.string (strOf (bytesL [255] 60))) := hd 37 (by decide)
    have e38 : v44 38 = (Value.bool false) := hd 38 (by decide)
    have e39 : v44 39 = (Value.bool false) := hd 39 (by decide)
    have f_v44_14 : Ps (Ors L15.S (Old W.heap.size)) (Seq kB (bytesL lb 60) (v44 14)) w45 := hd 14 (by decide)
    have f_v44_35 : Ps (Ors L15.S (Old W.heap.size)) (Seq kB [255] (v44 35)) w45 := hd 35 (by decide)
    have f_v44_36 : Ps (Ors L15.S (Old W.heap.size)) (Seq kB (bytesL [255] 60) (v44 36)) w45 := hd 36 (by decide)
    clear hd iv_ lo_ hi_
    refine fr_eq (l' := ([u1, u2, undef, undef, (z 4), (ptr L15.bN 0), (eN 0), (eN nx), (eN wr), (eN i), (z 10), (z 11), (eN p), u36, (eN (s2.askR (s2.readOk ((1 : Nat) : Int) ((2 : Nat) : Int) ((p : Nat) : Int)))), u41, (eN ((s2.ask (s2.readOk ((1 : Nat) : Int) ((2 : Nat) : Int) ((p : Nat) : Int))).askR ((s2.ask (s2.readOk ((1 : Nat) : Int) ((2 : Nat) : Int) ((p : Nat) : Int))).readOk ((1 : Nat) : Int) ((3 : Nat) : Int) ((p : Nat) : Int)))), (Value.bool true), (Value.bool false), (Value.tuple #[(ptr L15.bN 0), (eN 0)]), (Value.agg #[(eN 6), (eN 8), (eN 8)]), (Value.tuple #[(ptr L15.bN 0), (eN 0)]), (ptr L15.bN 0), (eN 0), (eN 0), (Value.bool false), (eN i), u1, (eN ll.length), (Value.bool true), (Value.bool true), (eN i), (Value.bool (decide (i < 30))), (Value.bool (decide (i < 30)))] ++ (zs z 34 32 ++ [(eN p), (Value.bool (decide (p < 8))), (z 68), (z 69), (Value.tuple #[u36, (eN (s2.askR (s2.readOk ((1 : Nat) : Int) ((2 : Nat) : Int) ((p : Nat) : Int))))]), (ptr L15.bN 0), (eN p), (Value.tuple #[u36, (eN (s2.askR (s2.readOk ((1 : Nat) : Int) ((2 : Nat) : Int) ((p : Nat) : Int))))]), u36, (eN (s2.askR (s2.readOk ((1 : Nat) : Int) ((2 : Nat) : Int) ((p : Nat) : Int)))), (Value.tuple #[u41, (eN ((s2.ask (s2.readOk ((1 : Nat) : Int) ((2 : Nat) : Int) ((p : Nat) : Int))).askR ((s2.ask (s2.readOk ((1 : Nat) : Int) ((2 : Nat) : Int) ((p : Nat) : Int))).readOk ((1 : Nat) : Int) ((3 : Nat) : Int) ((p : Nat) : Int))))]), (ptr L15.bN 0), (eN p), (Value.tuple #[u41, (eN ((s2.ask (s2.readOk ((1 : Nat) : Int) ((2 : Nat) : Int) ((p : Nat) : Int))).askR ((s2.ask (s2.readOk ((1 : Nat) : Int) ((2 : Nat) : Int) ((p : Nat) : Int))).readOk ((1 : Nat) : Int) ((3 : Nat) : Int) ((p : Nat) : Int))))]), u41, (eN ((s2.ask (s2.readOk ((1 : Nat) : Int) ((2 : Nat) : Int) ((p : Nat) : Int))).askR ((s2.ask (s2.readOk ((1 : Nat) : Int) ((2 : Nat) : Int) ((p : Nat) : Int))).readOk ((1 : Nat) : Int) ((3 : Nat) : Int) ((p : Nat) : Int)))), (eN (s2.askR (s2.readOk ((1 : Nat) : Int) ((2 : Nat) : Int) ((p : Nat) : Int)))), (Value.bool false), (Value.bool false), (eN ((s2.ask (s2.readOk ((1 : Nat) : Int) ((2 : Nat) : Int) ((p : Nat) : Int))).askR ((s2.ask (s2.readOk ((1 : Nat) : Int) ((2 : Nat) : Int) ((p : Nat) : Int))).readOk ((1 : Nat) : Int) ((3 : Nat) : Int) ((p : Nat) : Int)))), (Value.bool false), (Value.bool false), (Value.bool false), (eN p), (eN nx), (Value.bool true), (Value.bool true), u36, (Value.string (strOf (s2.readL ((1 : Nat) : Int) ((2 : Nat) : Int) ((p : Nat) : Int)))), u2, (v44 14), (Value.string (strOf (bytesL lb 60))), (Value.bool false), (Value.bool false), (Value.bool false), (Value.bool false), (eN p), (eN nx), (Value.bool false), (Value.bool false)] ++ (us 6 ++ [(Value.bool false), (Value.bool false), (Value.bool false), u41, (Value.string (strOf ((s2.ask (s2.readOk ((1 : Nat) : Int) ((2 : Nat) : Int) ((p : Nat) : Int))).readL ((1 : Nat) : Int) ((3 : Nat) : Int) ((p : Nat) : Int)))), (v44 35), (v44 36), (Value.string (strOf (bytesL [255] 60))), (Value.bool false), (Value.bool false), undef, undef, undef, undef])))) (by rw [e0, e1, e2, e3, e4, e5, e6, e7, e8, e9, e10, e11, e12, e13, e15, e16, e17, e18, e19, e20, e21, e22, e23, e24, e25, e26, e27, e28, e29, e30, e31, e32, e33, e34, e37, e38, e39] <;> rfl) ?_
    clear e0 e1 e2 e3 e4 e5 e6 e7 e8 e9 e10 e11 e12 e13 e15 e16 e17 e18 e19 e20 e21 e22 e23 e24 e25 e26 e27 e28 e29 e30 e31 e32 e33 e34 e37 e38 e39
    replace h1 := h1.step o46 (ors_mono no_any)
    replace h2 := h2.step o46 (ors_mono no_any)
    replace f37 := f37.step o46 (ors_mono no_any)
    replace f42 := f42.step o46 (ors_mono no_any)
    replace a16 := hR
    clear hR
    replace oW := oW.tail o46 (tl_snew g_oW_L15 tl_no)
    replace o18 := o18.tail o46 (tl_sin sub1 tl_no)
    replace o32 := o32.tail o46 (tl_sin sub1 tl_no)
    refine then_n ?_
    refine cond_f rfl ?_
    refine wpIn_skip ?_
    refine inb_n (then_n ?_)
    refine plain ?_
    refine wI (d_move rfl) ?_
    refine wI (n_add (a := p) (b := 1) rfl rfl (by omega)) ?_
    refine wI (d_assign rfl) ?_
    refine wF ([u1, u2, undef, undef, (z 4), (ptr L15.bN 0), (eN 0), (eN nx), (eN wr), (eN i), (z 10), (z 11), (eN (p + 1)), u36, (eN (s2.askR (s2.readOk ((1 : Nat) : Int) ((2 : Nat) : Int) ((p : Nat) : Int)))), u41, (eN ((s2.ask (s2.readOk ((1 : Nat) : Int) ((2 : Nat) : Int) ((p : Nat) : Int))).askR ((s2.ask (s2.readOk ((1 : Nat) : Int) ((2 : Nat) : Int) ((p : Nat) : Int))).readOk ((1 : Nat) : Int) ((3 : Nat) : Int) ((p : Nat) : Int)))), (Value.bool true), (Value.bool false), (Value.tuple #[(ptr L15.bN 0), (eN 0)]), (Value.agg #[(eN 6), (eN 8), (eN 8)]), (Value.tuple #[(ptr L15.bN 0), (eN 0)]), (ptr L15.bN 0), (eN 0), (eN 0), (Value.bool false), (eN i), u1, (eN ll.length), (Value.bool true), (Value.bool true), (eN i), (Value.bool (decide (i < 30))), (Value.bool (decide (i < 30)))] ++ (zs z 34 32 ++ [(eN p), (Value.bool (decide (p < 8))), (eN p), (eN (p + 1)), (Value.tuple #[u36, (eN (s2.askR (s2.readOk ((1 : Nat) : Int) ((2 : Nat) : Int) ((p : Nat) : Int))))]), (ptr L15.bN 0), (eN p), (Value.tuple #[u36, (eN (s2.askR (s2.readOk ((1 : Nat) : Int) ((2 : Nat) : Int) ((p : Nat) : Int))))]), u36, (eN (s2.askR (s2.readOk ((1 : Nat) : Int) ((2 : Nat) : Int) ((p : Nat) : Int)))), (Value.tuple #[u41, (eN ((s2.ask (s2.readOk ((1 : Nat) : Int) ((2 : Nat) : Int) ((p : Nat) : Int))).askR ((s2.ask (s2.readOk ((1 : Nat) : Int) ((2 : Nat) : Int) ((p : Nat) : Int))).readOk ((1 : Nat) : Int) ((3 : Nat) : Int) ((p : Nat) : Int))))]), (ptr L15.bN 0), (eN p), (Value.tuple #[u41, (eN ((s2.ask (s2.readOk ((1 : Nat) : Int) ((2 : Nat) : Int) ((p : Nat) : Int))).askR ((s2.ask (s2.readOk ((1 : Nat) : Int) ((2 : Nat) : Int) ((p : Nat) : Int))).readOk ((1 : Nat) : Int) ((3 : Nat) : Int) ((p : Nat) : Int))))]), u41, (eN ((s2.ask (s2.readOk ((1 : Nat) : Int) ((2 : Nat) : Int) ((p : Nat) : Int))).askR ((s2.ask (s2.readOk ((1 : Nat) : Int) ((2 : Nat) : Int) ((p : Nat) : Int))).readOk ((1 : Nat) : Int) ((3 : Nat) : Int) ((p : Nat) : Int)))), (eN (s2.askR (s2.readOk ((1 : Nat) : Int) ((2 : Nat) : Int) ((p : Nat) : Int)))), (Value.bool false), (Value.bool false), (eN ((s2.ask (s2.readOk ((1 : Nat) : Int) ((2 : Nat) : Int) ((p : Nat) : Int))).askR ((s2.ask (s2.readOk ((1 : Nat) : Int) ((2 : Nat) : Int) ((p : Nat) : Int))).readOk ((1 : Nat) : Int) ((3 : Nat) : Int) ((p : Nat) : Int)))), (Value.bool false), (Value.bool false), (Value.bool false), (eN p), (eN nx), (Value.bool true), (Value.bool true), u36, (Value.string (strOf (s2.readL ((1 : Nat) : Int) ((2 : Nat) : Int) ((p : Nat) : Int)))), u2, (v44 14), (Value.string (strOf (bytesL lb 60))), (Value.bool false), (Value.bool false), (Value.bool false), (Value.bool false), (eN p), (eN nx), (Value.bool false), (Value.bool false)] ++ (us 6 ++ [(Value.bool false), (Value.bool false), (Value.bool false), u41, (Value.string (strOf ((s2.ask (s2.readOk ((1 : Nat) : Int) ((2 : Nat) : Int) ((p : Nat) : Int))).readL ((1 : Nat) : Int) ((3 : Nat) : Int) ((p : Nat) : Int)))), (v44 35), (v44 36), (Value.string (strOf (bytesL [255] 60))), (Value.bool false), (Value.bool false), undef, undef, undef, undef]))) ?_
    refine wpL.done ?_
    refine then_n ?_
    refine ⟨_, ⟨p + 1, ((s2.ask (s2.readOk ((1 : Nat) : Int) ((2 : Nat) : Int) ((p : Nat) : Int))).ask ((s2.ask (s2.readOk ((1 : Nat) : Int) ((2 : Nat) : Int) ((p : Nat) : Int))).readOk ((1 : Nat) : Int) ((3 : Nat) : Int) ((p : Nat) : Int)))⟩, rfl, rfl, ⟨?_, ?_, ?_, ?_⟩, ?_⟩
    ·
     (try dsimp only)
     all_goals (omega)
    ·
     exact (ord_read3 (ord_read hJ hp7).2.2 hp7).2.2
    ·
     exact o32
    ·
     exact a16
    ·
     (try dsimp only)
     all_goals (omega)
   refine drawn' (O := (Ors L15.S No)) (n := 40) [0, 1, 3, 7, 15, 31, 63, 127, 127, 511, 1023, 2047, 4095, 2047, 10239, 26623, 65535, 131071, 262143, 524287, 1048575, 1048575, 4194303, 8388607, 16777215, 33554431, 16777215, 83886079, 218103807, 536870911, 1073741823, 2147483647, 4294967295, 8589934591, 17179869183, 8589934591, 42949672959, 111669149695, 274877906943, 549755813887] [(0, 82), (1, 83), (2, 84), (3, 85), (4, 86), (5, 87), (6, 88), (7, 89), (8, 90), (9, 91), (10, 92), (11, 93), (12, 94), (13, 95), (14, 96), (15, 97), (16, 98), (17, 99), (18, 100), (19, 101), (20, 102), (21, 103), (22, 104), (23, 105), (24, 106), (25, 107), (26, 108), (27, 109), (28, 110), (29, 111), (30, 112), (31, 113), (32, 114), (33, 115), (34, 116), (35, 117), (36, 118), (37, 119), (38, 120), (39, 121)] [0, 1, 2, 3, 4, 5, 6, 7, 8, 9, 10, 11, 12, 13, 14, 15, 16, 17, 18, 19, 20, 21, 22, 23, 24, 25, 26, 27, 28, 29, 30, 31, 32, 33, 34, 35, 36, 37, 38, 39] [] (fun i_ => ([RF.is (Ors L15.S No) (eN (s2.askR (s2.readOk ((1 : Nat) : Int) ((2 : Nat) : Int) ((p : Nat) : Int)))), RF.is (Ors L15.S No) (Value.bool false), RF.is (Ors L15.S No) (Value.bool false), RF.is (Ors L15.S No) (eN ((s2.ask (s2.readOk ((1 : Nat) : Int) ((2 : Nat) : Int) ((p : Nat) : Int))).askR ((s2.ask (s2.readOk ((1 : Nat) : Int) ((2 : Nat) : Int) ((p : Nat) : Int))).readOk ((1 : Nat) : Int) ((3 : Nat) : Int) ((p : Nat) : Int)))), RF.is (Ors L15.S No) (Value.bool false), RF.is (Ors L15.S No) (Value.bool false), RF.is (Ors L15.S No) (Value.bool false), RF.is (Ors L15.S No) (eN p), RF.is (Ors L15.S No) (eN nx), RF.is (Ors L15.S No) (Value.bool false), RF.is (Ors L15.S No) (Value.bool false), RF.is (Ors L15.S No) undef, RF.is (Ors L15.S No) undef, RF.is (Ors L15.S No) undef, RF.is (Ors L15.S No) undef, RF.is (Ors L15.S No) undef, RF.is (Ors L15.S No) undef, RF.is (Ors L15.S No) (Value.bool false), RF.is (Ors L15.S No) (Value.bool false), RF.is (Ors L15.S No) (Value.bool false), RF.is (Ors L15.S No) (eN p), RF.is (Ors L15.S No) (eN nx), RF.is (Ors L15.S No) (Value.bool true), RF.is (Ors L15.S No) (Value.bool true), RF.is (Ors L15.S No) u36, RF.is (Ors L15.S No) (Value.string (strOf (s2.readL ((1 : Nat) : Int) ((2 : Nat) : Int) ((p : Nat) : Int)))), RF.ps (Ors L15.S No) (Ors L15.S (Old W.heap.size)) (Seq kB [255]) (ors_mono no_any), RF.ps (Ors L15.S No) (Ors L15.S (Old W.heap.size)) (Seq kB (bytesL [255] 60)) (ors_mono no_any), RF.is (Ors L15.S No) (Value.string (strOf (bytesL [255] 60))), RF.is (Ors L15.S No) (Value.bool false), RF.is (Ors L15.S No) (Value.bool false), RF.is (Ors L15.S No) (Value.bool false), RF.is (Ors L15.S No) (Value.bool false), RF.is (Ors L15.S No) u41, RF.is (Ors L15.S No) (Value.string (strOf ((s2.ask (s2.readOk ((1 : Nat) : Int) ((2 : Nat) : Int) ((p : Nat) : Int))).readL ((1 : Nat) : Int) ((3 : Nat) : Int) ((p : Nat) : Int)))), RF.ps (Ors L15.S No) (Ors L15.S (Old W.heap.size)) (Seq kB [255]) (ors_mono no_any), RF.ps (Ors L15.S No) (Ors L15.S (Old W.heap.size)) (Seq kB (bytesL [255] 60)) (ors_mono no_any), RF.is (Ors L15.S No) (Value.string (strOf (bytesL [255] 60))), RF.is (Ors L15.S No) (Value.bool false), RF.is (Ors L15.S No) (Value.bool false)] : List (RF (Ors L15.S No))).getD i_ (RF.any (Ors L15.S No))) (fun _ w_ => Nd L15 ((s2.ask (s2.readOk ((1 : Nat) : Int) ((2 : Nat) : Int) ((p : Nat) : Int))).ask ((s2.ask (s2.readOk ((1 : Nat) : Int) ((2 : Nat) : Int) ((p : Nat) : Int))).readOk ((1 : Nat) : Int) ((3 : Nat) : Int) ((p : Nat) : Int))) No w_) (fun v47 => ([u1, u2, undef, undef, (z 4), (ptr L15.bN 0), (eN 0), (eN nx), (eN wr), (eN i), (z 10), (z 11), (eN p), u36, (eN (s2.askR (s2.readOk ((1 : Nat) : Int) ((2 : Nat) : Int) ((p : Nat) : Int)))), u41, (eN ((s2.ask (s2.readOk ((1 : Nat) : Int) ((2 : Nat) : Int) ((p : Nat) : Int))).askR ((s2.ask (s2.readOk ((1 : Nat) : Int) ((2 : Nat) : Int) ((p : Nat) : Int))).readOk ((1 : Nat) : Int) ((3 : Nat) : Int) ((p : Nat) : Int)))), (Value.bool true), (Value.bool false), (Value.tuple #[(ptr L15.bN 0), (eN 0)]), (Value.agg #[(eN 6), (eN 8), (eN 8)]), (Value.tuple #[(ptr L15.bN 0), (eN 0)]), (ptr L15.bN 0), (eN 0), (eN 0), (Value.bool false), (eN i), u1, (eN ll.length), (Value.bool true), (Value.bool true), (eN i), (Value.bool (decide (i < 30))), (Value.bool (decide (i < 30)))] ++ (zs z 34 32 ++ [(eN p), (Value.bool (decide (p < 8))), (z 68), (z 69), (Value.tuple #[u36, (eN (s2.askR (s2.readOk ((1 : Nat) : Int) ((2 : Nat) : Int) ((p : Nat) : Int))))]), (ptr L15.bN 0), (eN p), (Value.tuple #[u36, (eN (s2.askR (s2.readOk ((1 : Nat) : Int) ((2 : Nat) : Int) ((p : Nat) : Int))))]), u36, (eN (s2.askR (s2.readOk ((1 : Nat) : Int) ((2 : Nat) : Int) ((p : Nat) : Int)))), (Value.tuple #[u41, (eN ((s2.ask (s2.readOk ((1 : Nat) : Int) ((2 : Nat) : Int) ((p : Nat) : Int))).askR ((s2.ask (s2.readOk ((1 : Nat) : Int) ((2 : Nat) : Int) ((p : Nat) : Int))).readOk ((1 : Nat) : Int) ((3 : Nat) : Int) ((p : Nat) : Int))))]), (ptr L15.bN 0), (eN p), (Value.tuple #[u41, (eN ((s2.ask (s2.readOk ((1 : Nat) : Int) ((2 : Nat) : Int) ((p : Nat) : Int))).askR ((s2.ask (s2.readOk ((1 : Nat) : Int) ((2 : Nat) : Int) ((p : Nat) : Int))).readOk ((1 : Nat) : Int) ((3 : Nat) : Int) ((p : Nat) : Int))))]), u41, (eN ((s2.ask (s2.readOk ((1 : Nat) : Int) ((2 : Nat) : Int) ((p : Nat) : Int))).askR ((s2.ask (s2.readOk ((1 : Nat) : Int) ((2 : Nat) : Int) ((p : Nat) : Int))).readOk ((1 : Nat) : Int) ((3 : Nat) : Int) ((p : Nat) : Int)))), (v47 0), (v47 1), (v47 2), (v47 3), (v47 4), (v47 5), (v47 6), (v47 7), (v47 8), (v47 9), (v47 10), (v47 11), (v47 12), (v47 13), (v47 14), (v47 15), (v47 16), (v47 17), (v47 18), (v47 19), (v47 20), (v47 21), (v47 22), (v47 23), (v47 24), (v47 25), (v47 26), (v47 27), (v47 28), (v47 29), (v47 30), (v47 31), (v47 32), (v47 33), (v47 34), (v47 35), (v47 36), (v47 37), (v47 38), (v47 39), undef, undef, undef, undef]))) s_mx (by kernel_rfl) rfl (by kernel_rfl) (by rfl) (fun v_ => by kernel_rfl) (fun _ => fun w_ w2_ h ho => by have r_a16 := h; exact r_a16.step0 ho) a16 ?_ ?_ ?_
   ·
    refine ls_cons ?_ ?_
    ·
     intro v47 lo hi w_ k_ hO hd _ _ hk_ _ hR hold
     have r_a16 := hR
     clear hd hold
     refine ⟨_, rfl, gd rfl ?_⟩
     exact Does.is (d_move rfl)
    refine ls_cons ?_ ?_
    ·
     intro v47 lo hi w_ k_ hO hd _ _ hk_ _ hR hold
     have r_a16 := hR
     have e0 : v47 0 = (eN (s2.askR (s2.readOk ((1 : Nat) : Int) ((2 : Nat) : Int) ((p : Nat) : Int)))) := hd 0 (by kernel_rfl)
     clear hd hold
     refine ⟨_, rfl, gd rfl ?_⟩
     exact Does.is (n_neq (a := (s2.askR (s2.readOk ((1 : Nat) : Int) ((2 : Nat) : Int) ((p : Nat) : Int)))) (b := 0) e0 rfl (by rw [decide_eq_true ((ord_read hJ hp7).1)] <;> rfl))
    refine ls_cons ?_ ?_
    ·
     intro v47 lo hi w_ k_ hO hd _ _ hk_ _ hR hold
     have r_a16 := hR
     have e1 : v47 1 = (Value.bool false) := hd 1 (by kernel_rfl)
     clear hd hold
     refine ⟨_, rfl, gd rfl ?_⟩
     exact Does.is (d_move (v := (Value.bool false)) e1)
    refine ls_cons ?_ ?_
    ·
     intro v47 lo hi w_ k_ hO hd _ _ hk_ _ hR hold
     have r_a16 := hR
     have e2 : v47 2 = (Value.bool false) := hd 2 (by kernel_rfl)
     clear hd hold
     refine ⟨_, rfl, gd_on rfl rfl rfl (nb rfl) e2 ?_⟩
     exact Does.is (d_move rfl)
    refine ls_cons ?_ ?_
    ·
     intro v47 lo hi w_ k_ hO hd _ _ hk_ _ hR hold
     have r_a16 := hR
     have e2 : v47 2 = (Value.bool false) := hd 2 (by kernel_rfl)
     have e3 : v47 3 = (eN ((s2.ask (s2.readOk ((1 : Nat) : Int) ((2 : Nat) : Int) ((p : Nat) : Int))).askR ((s2.ask (s2.readOk ((1 : Nat) : Int) ((2 : Nat) : Int) ((p : Nat) : Int))).readOk ((1 : Nat) : Int) ((3 : Nat) : Int) ((p : Nat) : Int)))) := hd 3 (by kernel_rfl)
     clear hd hold
     refine ⟨_, rfl, gd_on rfl rfl rfl (nb rfl) e2 ?_⟩
     exact Does.is (n_neq (a := ((s2.ask (s2.readOk ((1 : Nat) : Int) ((2 : Nat) : Int) ((p : Nat) : Int))).askR ((s2.ask (s2.readOk ((1 : Nat) : Int) ((2 : Nat) : Int) ((p : Nat) : Int))).readOk ((1 : Nat) : Int) ((3 : Nat) : Int) ((p : Nat) : Int)))) (b := 0) e3 rfl (by rw [decide_eq_true ((ord_read3 (ord_read hJ hp7).2.2 hp7).1)] <;> rfl))
    refine ls_cons ?_ ?_
    ·
     intro v47 lo hi w_ k_ hO hd _ _ hk_ _ hR hold
     have r_a16 := hR
     have e2 : v47 2 = (Value.bool false) := hd 2 (by kernel_rfl)
     have e4 : v47 4 = (Value.bool false) := hd 4 (by kernel_rfl)
     clear hd hold
     refine ⟨_, rfl, gd rfl ?_⟩
     exact Does.is (d_pick (b := false) (v := (Value.bool false)) e2 e4)
    refine ls_cons ?_ ?_
    ·
     intro v47 lo hi w_ k_ hO hd _ _ hk_ _ hR hold
     have r_a16 := hR
     have e5 : v47 5 = (Value.bool false) := hd 5 (by kernel_rfl)
     clear hd hold
     refine ⟨_, rfl, gd rfl ?_⟩
     exact Does.is (d_move (v := (Value.bool false)) e5)
    refine ls_cons ?_ ?_
    ·
     intro v47 lo hi w_ k_ hO hd _ _ hk_ _ hR hold
     have r_a16 := hR
     have e6 : v47 6 = (Value.bool false) := hd 6 (by kernel_rfl)
     clear hd hold
     refine ⟨_, rfl, gd_on rfl rfl rfl (nb rfl) e6 ?_⟩
     exact Does.is (d_move rfl)
    refine ls_cons ?_ ?_
    ·
     intro v47 lo hi w_ k_ hO hd _ _ hk_ _ hR hold
     have r_a16 := hR
     have e6 : v47 6 = (Value.bool false) := hd 6 (by kernel_rfl)
     clear hd hold
     refine ⟨_, rfl, gd_on rfl rfl rfl (nb rfl) e6 ?_⟩
     exact Does.is (d_move rfl)
    refine ls_cons ?_ ?_
    ·
     intro v47 lo hi w_ k_ hO hd _ _ hk_ _ hR hold
     have r_a16 := hR
     have e6 : v47 6 = (Value.bool false) := hd 6 (by kernel_rfl)
     have e7 : v47 7 = (eN p) := hd 7 (by kernel_rfl)
     have e8 : v47 8 = (eN nx) := hd 8 (by kernel_rfl)
     clear hd hold
     refine ⟨_, rfl, gd_on rfl rfl rfl (nb rfl) e6 ?_⟩
     exact Does.is (n_lss (a := p) (b := nx) e7 e8 (decide_eq_false k3))
    refine ls_cons ?_ ?_
    ·
     intro v47 lo hi w_ k_ hO hd _ _ hk_ _ hR hold
     have r_a16 := hR
     have e6 : v47 6 = (Value.bool false) := hd 6 (by kernel_rfl)
     have e9 : v47 9 = (Value.bool false) := hd 9 (by kernel_rfl)
     clear hd hold
     refine ⟨_, rfl, gd_on rfl rfl rfl (nb rfl) e6 ?_⟩
     exact Does.is (d_move (v := (Value.bool false)) e9)
    refine ls_cons ?_ ?_
    ·
     intro v47 lo hi w_ k_ hO hd _ _ hk_ _ hR hold
     have r_a16 := hR
     have e10 : v47 10 = (Value.bool false) := hd 10 (by kernel_rfl)
     clear hd hold
     refine ⟨_, rfl, gd_off rfl rfl rfl (nb rfl) e10 ?_⟩
     exact ⟨rfl, Only.refl _ _⟩
    refine ls_cons ?_ ?_
    ·
     intro v47 lo hi w_ k_ hO hd _ _ hk_ _ hR hold
     have r_a16 := hR
     have e10 : v47 10 = (Value.bool false) := hd 10 (by kernel_rfl)
     clear hd hold
     refine ⟨_, rfl, gd_off rfl rfl rfl (nb rfl) e10 ?_⟩
     exact ⟨rfl, Only.refl _ _⟩
    refine ls_cons ?_ ?_
    ·
     intro v47 lo hi w_ k_ hO hd _ _ hk_ _ hR hold
     have r_a16 := hR
     have e10 : v47 10 = (Value.bool false) := hd 10 (by kernel_rfl)
     clear hd hold
     refine ⟨_, rfl, gd_off rfl rfl rfl (nb rfl) e10 ?_⟩
     exact ⟨rfl, Only.refl _ _⟩
    refine ls_cons ?_ ?_
    ·
     intro v47 lo hi w_ k_ hO hd _ _ hk_ _ hR hold
     have r_a16 := hR
     have e10 : v47 10 = (Value.bool false) := hd 10 (by kernel_rfl)
     clear hd hold
     refine ⟨_, rfl, gd_off rfl rfl rfl (nb rfl) e10 ?_⟩
     exact ⟨rfl, Only.refl _ _⟩
    refine ls_cons ?_ ?_
    ·
     intro v47 lo hi w_ k_ hO hd _ _ hk_ _ hR hold
     have r_a16 := hR
     have e10 : v47 10 = (Value.bool false) := hd 10 (by kernel_rfl)
     clear hd hold
     refine ⟨_, rfl, gd_off rfl rfl rfl (nb rfl) e10 ?_⟩
     exact ⟨rfl, Only.refl _ _⟩
    refine ls_cons ?_ ?_
    ·
     intro v47 lo hi w_ k_ hO hd _ _ hk_ _ hR hold
     have r_a16 := hR
     have e10 : v47 10 = (Value.bool false) := hd 10 (by kernel_rfl)
     clear hd hold
     refine ⟨_, rfl, gd_off rfl rfl rfl (nb rfl) e10 ?_⟩
     exact ⟨rfl, Only.refl _ _⟩
    refine ls_cons ?_ ?_
    ·
     intro v47 lo hi w_ k_ hO hd _ _ hk_ _ hR hold
     have r_a16 := hR
     have e10 : v47 10 = (Value.bool false) := hd 10 (by kernel_rfl)
     have e6 : v47 6 = (Value.bool false) := hd 6 (by kernel_rfl)
     clear hd hold
     refine ⟨_, rfl, gd_on rfl rfl rfl (nb rfl) e6 ?_⟩
     exact Does.is (d_pick (b := false) (v := (Value.bool false)) e10 rfl)
    refine ls_cons ?_ ?_
    ·
     intro v47 lo hi w_ k_ hO hd _ _ hk_ _ hR hold
     have r_a16 := hR
     have e17 : v47 17 = (Value.bool false) := hd 17 (by kernel_rfl)
     have e6 : v47 6 = (Value.bool false) := hd 6 (by kernel_rfl)
     clear hd hold
     refine ⟨_, rfl, gd rfl ?_⟩
     exact Does.is (d_pick (b := false) (v := (Value.bool false)) e6 e17)
    refine ls_cons ?_ ?_
    ·
     intro v47 lo hi w_ k_ hO hd _ _ hk_ _ hR hold
     have r_a16 := hR
     have e18 : v47 18 = (Value.bool false) := hd 18 (by kernel_rfl)
     clear hd hold
     refine ⟨_, rfl, gd rfl ?_⟩
     exact Does.is (d_move (v := (Value.bool false)) e18)
    refine ls_cons ?_ ?_
    ·
     intro v47 lo hi w_ k_ hO hd _ _ hk_ _ hR hold
     have r_a16 := hR
     have e19 : v47 19 = (Value.bool false) := hd 19 (by kernel_rfl)
     clear hd hold
     refine ⟨_, rfl, gd_on rfl rfl rfl (nb rfl) e19 ?_⟩
     exact Does.is (d_move rfl)
    refine ls_cons ?_ ?_
    ·
     intro v47 lo hi w_ k_ hO hd _ _ hk_ _ hR hold
     have r_a16 := hR
     have e19 : v47 19 = (Value.bool false) := hd 19 (by kernel_rfl)
     clear hd hold
     refine ⟨_, rfl, gd_on rfl rfl rfl (nb rfl) e19 ?_⟩
     exact Does.is (d_move rfl)
    refine ls_cons ?_ ?_
    ·
     intro v47 lo hi w_ k_ hO hd _ _ hk_ _ hR hold
     have r_a16 := hR
     have e19 : v47 19 = (Value.bool false) := hd 19 (by kernel_rfl)
     have e20 : v47 20 = (eN p) := hd 20 (by kernel_rfl)
     have e21 : v47 21 = (eN nx) := hd 21 (by kernel_rfl)
     clear hd hold
     refine ⟨_, rfl, gd_on rfl rfl rfl (nb rfl) e19 ?_⟩
     exact Does.is (n_geq (a := p) (b := nx) e20 e21 (decide_eq_true (by omega)))
    refine ls_cons ?_ ?_
    ·
     intro v47 lo hi w_ k_ hO hd _ _ hk_ _ hR hold
     have r_a16 := hR
     have e19 : v47 19 = (Value.bool false) := hd 19 (by kernel_rfl)
     have e22 : v47 22 = (Value.bool true) := hd 22 (by kernel_rfl)
     clear hd hold
     refine ⟨_, rfl, gd_on rfl rfl rfl (nb rfl) e19 ?_⟩
     exact Does.is (d_move (v := (Value.bool true)) e22)
    refine ls_cons ?_ ?_
    ·
     intro v47 lo hi w_ k_ hO hd _ _ hk_ _ hR hold
     have r_a16 := hR
     have e23 : v47 23 = (Value.bool true) := hd 23 (by kernel_rfl)
     clear hd hold
     refine ⟨_, rfl, gd_on rfl rfl rfl (nb rfl) e23 ?_⟩
     exact Does.is (d_move rfl)
    refine ls_cons ?_ ?_
    ·
     intro v47 lo hi w_ k_ hO hd _ _ hk_ _ hR hold
     have r_a16 := hR
     have e23 : v47 23 = (Value.bool true) := hd 23 (by kernel_rfl)
     have e24 : v47 24 = u36 := hd 24 (by kernel_rfl)
     clear hd hold
     refine ⟨_, rfl, gd_on rfl rfl rfl (nb rfl) e23 ?_⟩
     exact Does.is (d_str Try.underlying36 Try.underlying5 Try.underlying9 e24 (f37.step hO (ors_mono no_any)))
    refine ls_cons ?_ ?_
    ·
     intro v47 lo hi w_ k_ hO hd _ _ hk_ _ hR hold
     have r_a16 := hR
     have e23 : v47 23 = (Value.bool true) := hd 23 (by kernel_rfl)
     clear hd hold
     refine ⟨_, rfl, gd_on rfl rfl rfl (nb rfl) e23 ?_⟩
     refine Does.mono (d_buildL (cs := [(eB 255)]) Try.underlying36 s_ti5 rfl (nb rfl) (parts_cons (vs := [(eB 255)]) (cells_of (v := (eB 255)) rfl rfl) parts_nil) rfl) (fun u w' h => ⟨(made_seq (n := 1) (xs := [255]) (enc := eB) h rfl).1.less (ors_old r_a16.lt (old_old (Nat.le_trans oW.size hO.size))), (made_seq (n := 1) (xs := [255]) (enc := eB) h rfl).2⟩)
    refine ls_cons ?_ ?_
    ·
     intro v47 lo hi w_ k_ hO hd _ _ hk_ _ hR hold
     have r_a16 := hR
     have e23 : v47 23 = (Value.bool true) := hd 23 (by kernel_rfl)
     have d26 : Ps (Ors L15.S (Old W.heap.size)) (Seq kB [255] (v47 26)) w_ := hd 26 (by kernel_rfl)
     clear hd hold
     refine ⟨_, rfl, gd_on rfl rfl rfl (nb rfl) e23 ?_⟩
     refine Does.mono (R := ROw 5 eB (bytesL [255] 60) w_) ?_ (fun u w' h => ⟨(h.ps).1.less (ors_old r_a16.lt (old_old (Nat.le_trans oW.size hO.size))), (h.ps).2⟩)
     exact d_call (xl := [.tmp 108, .const (.int .i64 60)]) (al := [(v47 26), (eN 60)]) Try.func16 (by kernel_rfl) rfl rfl rfl (law7Bytes_ok [255] 60 (v47 26) _ (Ps.no d26) (by first | omega | (simp; done) | (simp; omega)) (by omega))
    refine ls_cons ?_ ?_
    ·
     intro v47 lo hi w_ k_ hO hd _ _ hk_ _ hR hold
     have r_a16 := hR
     have e23 : v47 23 = (Value.bool true) := hd 23 (by kernel_rfl)
     have d27 : Ps (Ors L15.S (Old W.heap.size)) (Seq kB (bytesL [255] 60) (v47 27)) w_ := hd 27 (by kernel_rfl)
     clear hd hold
     refine ⟨_, rfl, gd_on rfl rfl rfl (nb rfl) e23 ?_⟩
     exact Does.is (d_str Try.underlying36 Try.underlying5 Try.underlying9 rfl d27)
    refine ls_cons ?_ ?_
    ·
     intro v47 lo hi w_ k_ hO hd _ _ hk_ _ hR hold
     have r_a16 := hR
     have e23 : v47 23 = (Value.bool true) := hd 23 (by kernel_rfl)
     have e25 : v47 25 = (Value.string (strOf (s2.readL ((1 : Nat) : Int) ((2 : Nat) : Int) ((p : Nat) : Int)))) := hd 25 (by kernel_rfl)
     have e28 : v47 28 = (Value.string (strOf (bytesL [255] 60))) := hd 28 (by kernel_rfl)
     clear hd hold
     refine ⟨_, rfl, gd_on rfl rfl rfl (nb rfl) e23 ?_⟩
     exact Does.is (d_sneq (a := (s2.readL ((1 : Nat) : Int) ((2 : Nat) : Int) ((p : Nat) : Int))) (c := (bytesL [255] 60)) e25 e28 (by rw [decide_eq_true (by rw [(ord_read hJ hp7).2.1, if_neg k3]; exact onesW_bytes.symm)] <;> rfl))
    refine ls_cons ?_ ?_
    ·
     intro v47 lo hi w_ k_ hO hd _ _ hk_ _ hR hold
     have r_a16 := hR
     have e19 : v47 19 = (Value.bool false) := hd 19 (by kernel_rfl)
     have e23 : v47 23 = (Value.bool true) := hd 23 (by kernel_rfl)
     have e29 : v47 29 = (Value.bool false) := hd 29 (by kernel_rfl)
     clear hd hold
     refine ⟨_, rfl, gd_on rfl rfl rfl (nb rfl) e19 ?_⟩
     exact Does.is (d_pick (b := true) (v := (Value.bool false)) e23 e29)
    refine ls_cons ?_ ?_
    ·
     intro v47 lo hi w_ k_ hO hd _ _ hk_ _ hR hold
     have r_a16 := hR
     have e19 : v47 19 = (Value.bool false) := hd 19 (by kernel_rfl)
     have e30 : v47 30 = (Value.bool false) := hd 30 (by kernel_rfl)
     clear hd hold
     refine ⟨_, rfl, gd rfl ?_⟩
     exact Does.is (d_pick (b := false) (v := (Value.bool false)) e19 e30)
    refine ls_cons ?_ ?_
    ·
     intro v47 lo hi w_ k_ hO hd _ _ hk_ _ hR hold
     have r_a16 := hR
     have e31 : v47 31 = (Value.bool false) := hd 31 (by kernel_rfl)
     clear hd hold
     refine ⟨_, rfl, gd rfl ?_⟩
     exact Does.is (d_move (v := (Value.bool false)) e31)
    refine ls_cons ?_ ?_
    ·
     intro v47 lo hi w_ k_ hO hd _ _ hk_ _ hR hold
     have r_a16 := hR
     have e32 : v47 32 = (Value.bool false) := hd 32 (by kernel_rfl)
     clear hd hold
     refine ⟨_, rfl, gd_on rfl rfl rfl (nb rfl) e32 ?_⟩
     exact Does.is (d_move rfl)
    refine ls_cons ?_ ?_
    ·
     intro v47 lo hi w_ k_ hO hd _ _ hk_ _ hR hold
     have r_a16 := hR
     have e32 : v47 32 = (Value.bool false) := hd 32 (by kernel_rfl)
     have e33 : v47 33 = u41 := hd 33 (by kernel_rfl)
     clear hd hold
     refine ⟨_, rfl, gd_on rfl rfl rfl (nb rfl) e32 ?_⟩
     exact Does.is (d_str Try.underlying36 Try.underlying5 Try.underlying9 e33 (f42.step hO (ors_mono no_any)))
    refine ls_cons ?_ ?_
    ·
     intro v47 lo hi w_ k_ hO hd _ _ hk_ _ hR hold
     have r_a16 := hR
     have e32 : v47 32 = (Value.bool false) := hd 32 (by kernel_rfl)
     clear hd hold
     refine ⟨_, rfl, gd_on rfl rfl rfl (nb rfl) e32 ?_⟩
     refine Does.mono (d_buildL (cs := [(eB 255)]) Try.underlying36 s_ti5 rfl (nb rfl) (parts_cons (vs := [(eB 255)]) (cells_of (v := (eB 255)) rfl rfl) parts_nil) rfl) (fun u w' h => ⟨(made_seq (n := 1) (xs := [255]) (enc := eB) h rfl).1.less (ors_old r_a16.lt (old_old (Nat.le_trans oW.size hO.size))), (made_seq (n := 1) (xs := [255]) (enc := eB) h rfl).2⟩)
    refine ls_cons ?_ ?_
    ·
     intro v47 lo hi w_ k_ hO hd _ _ hk_ _ hR hold
     have r_a16 := hR
     have e32 : v47 32 = (Value.bool false) := hd 32 (by kernel_rfl)
     have d35 : Ps (Ors L15.S (Old W.heap.size)) (Seq kB [255] (v47 35)) w_ := hd 35 (by kernel_rfl)
     clear hd hold
     refine ⟨_, rfl, gd_on rfl rfl rfl (nb rfl) e32 ?_⟩
     refine Does.mono (R := ROw 5 eB (bytesL [255] 60) w_) ?_ (fun u w' h => ⟨(h.ps).1.less (ors_old r_a16.lt (old_old (Nat.le_trans oW.size hO.size))), (h.ps).2⟩)
     exact d_call (xl := [.tmp 117, .const (.int .i64 60)]) (al := [(v47 35), (eN 60)]) Try.func16 (by kernel_rfl) rfl rfl rfl (law7Bytes_ok [255] 60 (v47 35) _ (Ps.no d35) (by first | omega | (simp; done) | (simp; omega)) (by omega))
    refine ls_cons ?_ ?_
    ·
     intro v47 lo hi w_ k_ hO hd _ _ hk_ _ hR hold
     have r_a16 := hR
     have e32 : v47 32 = (Value.bool false) := hd 32 (by kernel_rfl)
     have d36 : Ps (Ors L15.S (Old W.heap.size)) (Seq kB (bytesL [255] 60) (v47 36)) w_ := hd 36 (by kernel_rfl)
     clear hd hold
     refine ⟨_, rfl, gd_on rfl rfl rfl (nb rfl) e32 ?_⟩
     exact Does.is (d_str Try.underlying36 Try.underlying5 Try.underlying9 rfl d36)
    refine ls_cons ?_ ?_
    ·
     intro v47 lo hi w_ k_ hO hd _ _ hk_ _ hR hold
     have r_a16 := hR
     have e32 : v47 32 = (Value.bool false) := hd 32 (by kernel_rfl)
     have e34 : v47 34 = (Value.string (strOf ((s2.ask (s2.readOk ((1 : Nat) : Int) ((2 : Nat) : Int) ((p : Nat) : Int))).readL ((1 : Nat) : Int) ((3 : Nat) : Int) ((p : Nat) : Int)))) := hd 34 (by kernel_rfl)
     have e37 : v47 37 = (Value.string (strOf (bytesL [255] 60))) := hd 37 (by kernel_rfl)
     clear hd hold
     refine ⟨_, rfl, gd_on rfl rfl rfl (nb rfl) e32 ?_⟩
     exact Does.is (d_sneq (a := ((s2.ask (s2.readOk ((1 : Nat) : Int) ((2 : Nat) : Int) ((p : Nat) : Int))).readL ((1 : Nat) : Int) ((3 : Nat) : Int) ((p : Nat) : Int))) (c := (bytesL [255] 60)) e34 e37 (by rw [decide_eq_true (by rw [(ord_read3 (ord_read hJ hp7).2.2 hp7).2.1]; exact onesW_bytes.symm)] <;> rfl))
    refine ls_cons ?_ ?_
    ·
     intro v47 lo hi w_ k_ hO hd _ _ hk_ _ hR hold
     have r_a16 := hR
     have e32 : v47 32 = (Value.bool false) := hd 32 (by kernel_rfl)
     have e38 : v47 38 = (Value.bool false) := hd 38 (by kernel_rfl)
     clear hd hold
     refine ⟨_, rfl, gd rfl ?_⟩
     exact Does.is (d_pick (b := false) (v := (Value.bool false)) e32 e38)
    exact ls_nil
   ·
    exact ms_nil
   intro v47 lo_ hi_ w48 o49 hd iv_ hR
   have e0 : v47 0 = (eN (s2.askR (s2.readOk ((1 : Nat) : Int) ((2 : Nat) : Int) ((p : Nat) : Int)))) := hd 0 (by decide)
   have e1 : v47 1 = (Value.bool false) := hd 1 (by decide)
   have e2 : v47 2 = (Value.bool false) := hd 2 (by decide)
   have e3 : v47 3 = (eN ((s2.ask (s2.readOk ((1 : Nat) : Int) ((2 : Nat) : Int) ((p : Nat) : Int))).askR ((s2.ask (s2.readOk ((1 : Nat) : Int) ((2 : Nat) : Int) ((p : Nat) : Int))).readOk ((1 : Nat) : Int) ((3 : Nat) : Int) ((p : Nat) : Int)))) := hd 3 (by decide)
   have e4 : v47 4 = (Value.bool false) := hd 4 (by decide)
   have e5 : v47 5 = (Value.bool false) := hd 5 (by decide)
   have e6 : v47 6 = (Value.bool false) := hd 6 (by decide)
   have e7 : v47 7 = (eN p) := hd 7 (by decide)
   have e8 : v47 8 = (eN nx) := hd 8 (by decide)
   have e9 : v47 9 = (Value.bool false) := hd 9 (by decide)
   have e10 : v47 10 = (Value.bool false) := hd 10 (by decide)
   have e11 : v47 11 = undef := hd 11 (by decide)
   have e12 : v47 12 = undef := hd 12 (by decide)
   have e13 : v47 13 = undef := hd 13 (by decide)
   have e14 : v47 14 = undef := hd 14 (by decide)
   have e15 : v47 15 = undef := hd 15 (by decide)
   have e16 : v47 16 = undef := hd 16 (by decide)
   have e17 : v47 17 = (Value.bool false) := hd 17 (by decide)
   have e18 : v47 18 = (Value.bool false) := hd 18 (by decide)
   have e19 : v47 19 = (Value.bool false) := hd 19 (by decide)
   have e20 : v47 20 = (eN p) := hd 20 (by decide)
   have e21 : v47 21 = (eN nx) := hd 21 (by decide)
   have e22 : v47 22 = (Value.bool true) := hd 22 (by decide)
   have e23 : v47 23 = (Value.bool true) := hd 23 (by decide)
   have e24 : v47 24 = u36 := hd 24 (by decide)
   have e25 : v47 25 = (Value.string (strOf (s2.readL ((1 : Nat) : Int) ((2 : Nat) : Int) ((p : Nat) : Int)))) := hd 25 (by decide)
   have e28 : v47 28 = (Value.string (strOf (bytesL [255] 60))) := hd 28 (by decide)
   have e29 : v47 29 = (Value.bool false) := hd 29 (by decide)
   have e30 : v47 30 = (Value.bool false) := hd 30 (by decide)
   have e31 : v47 31 = (Value.bool false) := hd 31 (by decide)
   have e32 : v47 32 = (Value.bool false) := hd 32 (by decide)
   have e33 : v47 33 = u41 := hd 33 (by decide)
   have e34 : v47 34 = (Value.string (strOf ((s2.ask (s2.readOk ((1 : Nat) : Int) ((2 : Nat) : Int) ((p : Nat) : Int))).readL ((1 : Nat) : Int) ((3 : Nat) : Int) ((p : Nat) : Int)))) := hd 34 (by decide)
   have e37 : v47 37 = (Value.string (strOf (bytesL [255] 60))) := hd 37 (by decide)
   have e38 : v47 38 = (Value.bool false) := hd 38 (by decide)
   have e39 : v47 39 = (Value.bool false) := hd 39 (by decide)
   have f_v47_26 : Ps (Ors L15.S (Old W.heap.size)) (Seq kB [255] (v47 26)) w48 := hd 26 (by decide)
   have f_v47_27 : Ps (Ors L15.S (Old W.heap.size)) (Seq kB (bytesL [255] 60) (v47 27)) w48 := hd 27 (by decide)
   have f_v47_35 : Ps (Ors L15.S (Old W.heap.size)) (Seq kB [255] (v47 35)) w48 := hd 35 (by decide)
   have f_v47_36 : Ps (Ors L15.S (Old W.heap.size)) (Seq kB (bytesL [255] 60) (v47 36)) w48 := hd 36 (by decide)
   clear hd iv_ lo_ hi_
   refine fr_eq (l' := ([u1, u2, undef, undef, (z 4), (ptr L15.bN 0), (eN 0), (eN nx), (eN wr), (eN i), (z 10), (z 11), (eN p), u36, (eN (s2.askR (s2.readOk ((1 : Nat) : Int) ((2 : Nat) : Int) ((p : Nat) : Int)))), u41, (eN ((s2.ask (s2.readOk ((1 : Nat) : Int) ((2 : Nat) : Int) ((p : Nat) : Int))).askR ((s2.ask (s2.readOk ((1 : Nat) : Int) ((2 : Nat) : Int) ((p : Nat) : Int))).readOk ((1 : Nat) : Int) ((3 : Nat) : Int) ((p : Nat) : Int)))), (Value.bool true), (Value.bool false), (Value.tuple #[(ptr L15.bN 0), (eN 0)]), (Value.agg #[(eN 6), (eN 8), (eN 8)]), (Value.tuple #[(ptr L15.bN 0), (eN 0)]), (ptr L15.bN 0), (eN 0), (eN 0), (Value.bool false), (eN i), u1, (eN ll.length), (Value.bool true), (Value.bool true), (eN i), (Value.bool (decide (i < 30))), (Value.bool (decide (i < 30)))] ++ (zs z 34 32 ++ [(eN p), (Value.bool (decide (p < 8))), (z 68), (z 69), (Value.tuple #[u36, (eN (s2.askR (s2.readOk ((1 : Nat) : Int) ((2 : Nat) : Int) ((p : Nat) : Int))))]), (ptr L15.bN 0), (eN p), (Value.tuple #[u36, (eN (s2.askR (s2.readOk ((1 : Nat) : Int) ((2 : Nat) : Int) ((p : Nat) : Int))))]), u36, (eN (s2.askR (s2.readOk ((1 : Nat) : Int) ((2 : Nat) : Int) ((p : Nat) : Int)))), (Value.tuple #[u41, (eN ((s2.ask (s2.readOk ((1 : Nat) : Int) ((2 : Nat) : Int) ((p : Nat) : Int))).askR ((s2.ask (s2.readOk ((1 : Nat) : Int) ((2 : Nat) : Int) ((p : Nat) : Int))).readOk ((1 : Nat) : Int) ((3 : Nat) : Int) ((p : Nat) : Int))))]), (ptr L15.bN 0), (eN p), (Value.tuple #[u41, (eN ((s2.ask (s2.readOk ((1 : Nat) : Int) ((2 : Nat) : Int) ((p : Nat) : Int))).askR ((s2.ask (s2.readOk ((1 : Nat) : Int) ((2 : Nat) : Int) ((p : Nat) : Int))).readOk ((1 : Nat) : Int) ((3 : Nat) : Int) ((p : Nat) : Int))))]), u41, (eN ((s2.ask (s2.readOk ((1 : Nat) : Int) ((2 : Nat) : Int) ((p : Nat) : Int))).askR ((s2.ask (s2.readOk ((1 : Nat) : Int) ((2 : Nat) : Int) ((p : Nat) : Int))).readOk ((1 : Nat) : Int) ((3 : Nat) : Int) ((p : Nat) : Int)))), (eN (s2.askR (s2.readOk ((1 : Nat) : Int) ((2 : Nat) : Int) ((p : Nat) : Int)))), (Value.bool false), (Value.bool false), (eN ((s2.ask (s2.readOk ((1 : Nat) : Int) ((2 : Nat) : Int) ((p : Nat) : Int))).askR ((s2.ask (s2.readOk ((1 : Nat) : Int) ((2 : Nat) : Int) ((p : Nat) : Int))).readOk ((1 : Nat) : Int) ((3 : Nat) : Int) ((p : Nat) : Int)))), (Value.bool false), (Value.bool false), (Value.bool false), (eN p), (eN nx), (Value.bool false), (Value.bool false)] ++ (us 6 ++ [(Value.bool false), (Value.bool false), (Value.bool false), (eN p), (eN nx), (Value.bool true), (Value.bool true), u36, (Value.string (strOf (s2.readL ((1 : Nat) : Int) ((2 : Nat) : Int) ((p : Nat) : Int)))), (v47 26), (v47 27), (Value.string (strOf (bytesL [255] 60))), (Value.bool false), (Value.bool false), (Value.bool false), (Value.bool false), u41, (Value.string (strOf ((s2.ask (s2.readOk ((1 : Nat) : Int) ((2 : Nat) : Int) ((p : Nat) : Int))).readL ((1 : Nat) : Int) ((3 : Nat) : Int) ((p : Nat) : Int)))), (v47 35), (v47 36), (Value.string (strOf (bytesL [255] 60))), (Value.bool false), (Value.bool false), undef, undef, undef, undef])))) (by rw [e0, e1, e2, e3, e4, e5, e6, e7, e8, e9, e10, e11, e12, e13, e14, e15, e16, e17, e18, e19, e20, e21, e22, e23, e24, e25, e28, e29, e30, e31, e32, e33, e34, e37, e38, e39] <;> rfl) ?_
   clear e0 e1 e2 e3 e4 e5 e6 e7 e8 e9 e10 e11 e12 e13 e14 e15 e16 e17 e18 e19 e20 e21 e22 e23 e24 e25 e28 e29 e30 e31 e32 e33 e34 e37 e38 e39
   replace h1 := h1.step o49 (ors_mono no_any)
   replace h2 := h2.step o49 (ors_mono no_any)
   replace f37 := f37.step o49 (ors_mono no_any)
   replace f42 := f42.step o49 (ors_mono no_any)
   replace a16 := hR
   clear hR
   replace oW := oW.tail o49 (tl_snew g_oW_L15 tl_no)
   replace o18 := o18.tail o49 (tl_sin sub1 tl_no)
   replace o32 := o32.tail o49 (tl_sin sub1 tl_no)
   refine then_n ?_
   refine cond_f rfl ?_
   refine wpIn_skip ?_
   refine inb_n (then_n ?_)
   refine plain ?_
   refine wI (d_move rfl) ?_
   refine wI (n_add (a := p) (b := 1) rfl rfl (by omega)) ?_
   refine wI (d_assign rfl) ?_
   refine wF ([u1, u2, undef, undef, (z 4), (ptr L15.bN 0), (eN 0), (eN nx), (eN wr), (eN i), (z 10), (z 11), (eN (p + 1)), u36, (eN (s2.askR (s2.readOk ((1 : Nat) : Int) ((2 : Nat) : Int) ((p : Nat) : Int)))), u41, (eN ((s2.ask (s2.readOk ((1 : Nat) : Int) ((2 : Nat) : Int) ((p : Nat) : Int))).askR ((s2.ask (s2.readOk ((1 : Nat) : Int) ((2 : Nat) : Int) ((p : Nat) : Int))).readOk ((1 : Nat) : Int) ((3 : Nat) : Int) ((p : Nat) : Int)))), (Value.bool true), (Value.bool false), (Value.tuple #[(ptr L15.bN 0), (eN 0)]), (Value.agg #[(eN 6), (eN 8), (eN 8)]), (Value.tuple #[(ptr L15.bN 0), (eN 0)]), (ptr L15.bN 0), (eN 0), (eN 0), (Value.bool false), (eN i), u1, (eN ll.length), (Value.bool true), (Value.bool true), (eN i), (Value.bool (decide (i < 30))), (Value.bool (decide (i < 30)))] ++ (zs z 34 32 ++ [(eN p), (Value.bool (decide (p < 8))), (eN p), (eN (p + 1)), (Value.tuple #[u36, (eN (s2.askR (s2.readOk ((1 : Nat) : Int) ((2 : Nat) : Int) ((p : Nat) : Int))))]), (ptr L15.bN 0), (eN p), (Value.tuple #[u36, (eN (s2.askR (s2.readOk ((1 : Nat) : Int) ((2 : Nat) : Int) ((p : Nat) : Int))))]), u36, (eN (s2.askR (s2.readOk ((1 : Nat) : Int) ((2 : Nat) : Int) ((p : Nat) : Int)))), (Value.tuple #[u41, (eN ((s2.ask (s2.readOk ((1 : Nat) : Int) ((2 : Nat) : Int) ((p : Nat) : Int))).askR ((s2.ask (s2.readOk ((1 : Nat) : Int) ((2 : Nat) : Int) ((p : Nat) : Int))).readOk ((1 : Nat) : Int) ((3 : Nat) : Int) ((p : Nat) : Int))))]), (ptr L15.bN 0), (eN p), (Value.tuple #[u41, (eN ((s2.ask (s2.readOk ((1 : Nat) : Int) ((2 : Nat) : Int) ((p : Nat) : Int))).askR ((s2.ask (s2.readOk ((1 : Nat) : Int) ((2 : Nat) : Int) ((p : Nat) : Int))).readOk ((1 : Nat) : Int) ((3 : Nat) : Int) ((p : Nat) : Int))))]), u41, (eN ((s2.ask (s2.readOk ((1 : Nat) : Int) ((2 : Nat) : Int) ((p : Nat) : Int))).askR ((s2.ask (s2.readOk ((1 : Nat) : Int) ((2 : Nat) : Int) ((p : Nat) : Int))).readOk ((1 : Nat) : Int) ((3 : Nat) : Int) ((p : Nat) : Int)))), (eN (s2.askR (s2.readOk ((1 : Nat) : Int) ((2 : Nat) : Int) ((p : Nat) : Int)))), (Value.bool false), (Value.bool false), (eN ((s2.ask (s2.readOk ((1 : Nat) : Int) ((2 : Nat) : Int) ((p : Nat) : Int))).askR ((s2.ask (s2.readOk ((1 : Nat) : Int) ((2 : Nat) : Int) ((p : Nat) : Int))).readOk ((1 : Nat) : Int) ((3 : Nat) : Int) ((p : Nat) : Int)))), (Value.bool false), (Value.bool false), (Value.bool false), (eN p), (eN nx), (Value.bool false), (Value.bool false)] ++ (us 6 ++ [(Value.bool false), (Value.bool false), (Value.bool false), (eN p), (eN nx), (Value.bool true), (Value.bool true), u36, (Value.string (strOf (s2.readL ((1 : Nat) : Int) ((2 : Nat) : Int) ((p : Nat) : Int)))), (v47 26), (v47 27), (Value.string (strOf (bytesL [255] 60))), (Value.bool false), (Value.bool false), (Value.bool false), (Value.bool false), u41, (Value.string (strOf ((s2.ask (s2.readOk ((1 : Nat) : Int) ((2 : Nat) : Int) ((p : Nat) : Int))).readL ((1 : Nat) : Int) ((3 : Nat) : Int) ((p : Nat) : Int)))), (v47 35), (v47 36), (Value.string (strOf (bytesL [255] 60))), (Value.bool false), (Value.bool false), undef, undef, undef, undef]))) ?_
   refine wpL.done ?_
   refine then_n ?_
   refine ⟨_, ⟨p + 1, ((s2.ask (s2.readOk ((1 : Nat) : Int) ((2 : Nat) : Int) ((p : Nat) : Int))).ask ((s2.ask (s2.readOk ((1 : Nat) : Int) ((2 : Nat) : Int) ((p : Nat) : Int))).readOk ((1 : Nat) : Int) ((3 : Nat) : Int) ((p : Nat) : Int)))⟩, rfl, rfl, ⟨?_, ?_, ?_, ?_⟩, ?_⟩
   ·
    (try dsimp only)
    all_goals (omega)
   ·
    exact (ord_read3 (ord_read hJ hp7).2.2 hp7).2.2
   ·
    exact o32
   ·
    exact a16
   ·
    (try dsimp only)
    all_goals (omega)
  refine wpIn_exit ?_
  refine then_x (then_x (inb_e ?_))
  refine then_n ?_
  refine wpIn_seq ?_
  refine plain ?_
  refine wI (d_move rfl) ?_
  refine wO (d_call (xl := [.tmp 122]) (al := [(ptr L15.bN 0)]) Try.func18 (by kernel_rfl) rfl rfl rfl (nandWrong_ok L15 s2 _ a16)) ?_
  rintro _ w50 ⟨rfl, o51⟩
  replace h1 := h1.step0 o51
  replace h2 := h2.step0 o51
  replace a16 := a16.step0 o51
  replace oW := oW.tail0 o51
  replace o18 := o18.tail0 o51
  replace o32 := o32.tail0 o51
  refine wI (d_move rfl) ?_
  refine wF ([u1, u2, undef, undef, (z 4), (ptr L15.bN 0), (eN 0), (eN nx), (eN wr), (eN i), (z 10), (z 11), (eN p), (z 13), (z 14), (z 15), (z 16), (Value.bool true), (Value.bool false), (Value.tuple #[(ptr L15.bN 0), (eN 0)]), (Value.agg #[(eN 6), (eN 8), (eN 8)]), (Value.tuple #[(ptr L15.bN 0), (eN 0)]), (ptr L15.bN 0), (eN 0), (eN 0), (Value.bool false), (eN i), u1, (eN ll.length), (Value.bool true), (Value.bool true), (eN i), (Value.bool (decide (i < 30))), (Value.bool (decide (i < 30)))] ++ (zs z 34 32 ++ [(eN p), (Value.bool (decide (p < 8)))] ++ (zs z 68 54 ++ [(ptr L15.bN 0), (eI s2.wrong), (eN wr), undef]))) ?_
  refine wI (d_eql (k := .i64) (m := s2.wrong) (n := ((wr : Nat) : Int)) rfl rfl (decide_eq_true (ord_wrong hJ))) ?_
  refine wI (d_assign rfl) ?_
  refine wF ([u1, u2, undef, undef, (Value.bool true), (ptr L15.bN 0), (eN 0), (eN nx), (eN wr), (eN i), (z 10), (z 11), (eN p), (z 13), (z 14), (z 15), (z 16), (Value.bool true), (Value.bool false), (Value.tuple #[(ptr L15.bN 0), (eN 0)]), (Value.agg #[(eN 6), (eN 8), (eN 8)]), (Value.tuple #[(ptr L15.bN 0), (eN 0)]), (ptr L15.bN 0), (eN 0), (eN 0), (Value.bool false), (eN i), u1, (eN ll.length), (Value.bool true), (Value.bool true), (eN i), (Value.bool (decide (i < 30))), (Value.bool (decide (i < 30)))] ++ (zs z 34 32 ++ [(eN p), (Value.bool (decide (p < 8)))] ++ (zs z 68 54 ++ [(ptr L15.bN 0), (eI s2.wrong), (eN wr), (Value.bool true)]))) ?_
  refine wpL.done ?_
  refine then_n ?_
  refine wpIn_ret ?_
  refine leave0 (v := (Value.bool true)) (res1 Try.results5 rfl) ?_
  exact ⟨rfl, oW⟩
 refine plain ?_
 refine wI (d_move rfl) ?_
 refine wI (d_move rfl) ?_
 refine wI (d_lenS rfl Try.underlying37 rfl h1) ?_
 refine wF ([u1, u2, undef, undef, (z 4), (ptr L15.bN 0), (eN 0), (eN nx), (eN wr), (eN i), (z 10), (z 11)] ++ (us 5 ++ [(Value.bool true), (Value.bool false), (Value.tuple #[(ptr L15.bN 0), (eN 0)]), (Value.agg #[(eN 6), (eN 8), (eN 8)]), (Value.tuple #[(ptr L15.bN 0), (eN 0)]), (ptr L15.bN 0), (eN 0), (eN 0), (Value.bool false), (eN i), u1, (eN ll.length)] ++ (zs z 29 37 ++ (us 60)))) ?_
 refine wI (n_lss (a := i) (b := ll.length) rfl rfl (decide_eq_false k0)) ?_
 refine wI (d_move rfl) ?_
 refine wF ([u1, u2, undef, undef, (z 4), (ptr L15.bN 0), (eN 0), (eN nx), (eN wr), (eN i), (z 10), (z 11)] ++ (us 5 ++ [(Value.bool true), (Value.bool false), (Value.tuple #[(ptr L15.bN 0), (eN 0)]), (Value.agg #[(eN 6), (eN 8), (eN 8)]), (Value.tuple #[(ptr L15.bN 0), (eN 0)]), (ptr L15.bN 0), (eN 0), (eN 0), (Value.bool false), (eN i), u1, (eN ll.length), (Value.bool false), (Value.bool false)] ++ (zs z 31 35 ++ (us 60)))) ?_
 refine wpL.off rfl rfl rfl (nb rfl) rfl ?_
 refine wpL.off rfl rfl rfl (nb rfl) rfl ?_
 refine wI (d_pick (b := false) (v := (Value.bool false)) rfl rfl) ?_
 refine wF ([u1, u2, undef, undef, (z 4), (ptr L15.bN 0), (eN 0), (eN nx), (eN wr), (eN i), (z 10), (z 11)] ++ (us 5 ++ [(Value.bool true), (Value.bool false), (Value.tuple #[(ptr L15.bN 0), (eN 0)]), (Value.agg #[(eN 6), (eN 8), (eN 8)]), (Value.tuple #[(ptr L15.bN 0), (eN 0)]), (ptr L15.bN 0), (eN 0), (eN 0), (Value.bool false), (eN i), u1, (eN ll.length), (Value.bool false), (Value.bool false), undef, undef, (Value.bool false)] ++ (zs z 34 32 ++ (us 60)))) ?_
 refine wpL.done ?_
 refine then_n ?_
 refine cond_f rfl ?_
 refine wpIn_exit ?_
 refine then_x (then_x (inb_e ?_))
 refine then_n ?_
 refine wpIn_seq ?_
 refine wpIn_seq ?_
 refine plain ?_
 refine wI (d_assign rfl) ?_
 refine wF ([u1, u2, undef, undef, (z 4), (ptr L15.bN 0), (eN 0), (eN nx), (eN wr), (eN i), (z 10), (z 11), (eN 0), undef, undef, undef, undef, (Value.bool true), (Value.bool false), (Value.tuple #[(ptr L15.bN 0), (eN 0)]), (Value.agg #[(eN 6), (eN 8), (eN 8)]), (Value.tuple #[(ptr L15.bN 0), (eN 0)]), (ptr L15.bN 0), (eN 0), (eN 0), (Value.bool false), (eN i), u1, (eN ll.length), (Value.bool false), (Value.bool false), undef, undef, (Value.bool false)] ++ (zs z 34 32 ++ (us 60))) ?_
 refine wpL.done ?_
 refine then_n ?_
 refine wpIn_block ?_
 refine loop2 (fun (s_ : (Nat) × (NS)) => match s_ with | ⟨p, s2⟩ => fun (z : Nat → Value) => (([u1, u2, undef, undef, (z 4), (ptr L15.bN 0), (eN 0), (eN nx), (eN wr), (eN i), (z 10), (z 11), (eN p), (z 13), (z 14), (z 15), (z 16), (Value.bool true), (Value.bool false), (Value.tuple #[(ptr L15.bN 0), (eN 0)]), (Value.agg #[(eN 6), (eN 8), (eN 8)]), (Value.tuple #[(ptr L15.bN 0), (eN 0)]), (ptr L15.bN 0), (eN 0), (eN 0), (Value.bool false), (eN i), u1, (eN ll.length), (Value.bool false), (Value.bool false), undef, undef, (Value.bool false)] ++ (zs z 34 88 ++ [undef, undef, undef, undef])) : List Value)) (fun (s_ : (Nat) × (NS)) => match s_ with | ⟨p, s2⟩ => fun (w_ : World) => (p ≤ 8) ∧ (OrdI s2 nx wr (bytesL lb 60)) ∧ Only (Ors L15.S No) w19 w_ ∧ Nd L15 s2 No w_) (fun (s_ : (Nat) × (NS)) => match s_ with | ⟨p, s2⟩ => 8 - p) ⟨0, (s)⟩ rfl ?_ ?_
 ·
  refine ⟨?_, ?_, ?_, ?_⟩
  ·
   (try dsimp only)
   all_goals (omega)
  ·
   exact hI
  ·
   exact Only.refl _ _
  ·
   exact a16
 rintro ⟨p, s2⟩ z w53 ⟨hp, hJ, o52, a16⟩
 (try dsimp only)
 replace h1 := h1.step o52 (ors_mono no_any)
 replace h2 := h2.step o52 (ors_mono no_any)
 replace oW := oW.tail o52 (tl_snew g_oW_L15 tl_no)
 replace o18 := o18.tail o52 (tl_sin sub1 tl_no)
 refine wpIn_seq ?_
 refine wpIn_seq ?_
 refine plain ?_
 refine wI (d_move rfl) ?_
 refine wI (n_lss (a := p) (b := 8) rfl rfl rfl) ?_
 refine wF ([u1, u2, undef, undef, (z 4), (ptr L15.bN 0), (eN 0), (eN nx), (eN wr), (eN i), (z 10), (z 11), (eN p), (z 13), (z 14), (z 15), (z 16), (Value.bool true), (Value.bool false), (Value.tuple #[(ptr L15.bN 0), (eN 0)]), (Value.agg #[(eN 6), (eN 8), (eN 8)]), (Value.tuple #[(ptr L15.bN 0), (eN 0)]), (ptr L15.bN 0), (eN 0), (eN 0), (Value.bool false), (eN i), u1, (eN ll.length), (Value.bool false), (Value.bool false), undef, undef, (Value.bool false)] ++ (zs z 34 32 ++ [(eN p), (Value.bool (decide (p < 8)))] ++ (zs z 68 54 ++ [undef, undef, undef, undef]))) ?_
 refine wpL.done ?_
 refine then_n ?_
 refine cond_if rfl (fun hp7 => ?_) (fun hp7 => ?_)
 ·
  refine wpIn_skip ?_
  refine then_n ?_
  refine wpIn_seq ?_
  refine wpIn_block ?_
  refine wpIn_seq ?_
  refine plain ?_
  refine wI (d_move rfl) ?_
  refine wI (d_move rfl) ?_
  refine wO (d_call (xl := [.tmp 71, .const (.int .i64 1), .const (.int .i64 2), .tmp 72]) (al := [(ptr L15.bN 0), (eN 1), (eN 2), (eN p)]) Try.func21 (by kernel_rfl) rfl rfl rfl (read_ok L15 s2 _ a16 ((1 : Nat) : Int) ((2 : Nat) : Int) ((p : Nat) : Int) lt_no)) ?_
  rintro _ w54 ⟨u56, rfl, f57, a58, o55⟩
  replace f57 := f57.less (Y := (Ors L15.S (Old W.heap.size))) (ors_old a16.lt (old_old oW.size))
  replace h1 := h1.step o55 sub1
  replace h2 := h2.step o55 sub1
  replace oW := oW.tail o55 (fun k hk e => by have := g_oW_L15 k e; omega)
  replace o18 := o18.tail o55 (fun k _ e => sub1 k e)
  replace o52 := o52.tail o55 (fun k _ e => sub1 k e)
  replace a16 := a58
  refine wF ([u1, u2, undef, undef, (z 4), (ptr L15.bN 0), (eN 0), (eN nx), (eN wr), (eN i), (z 10), (z 11), (eN p), (z 13), (z 14), (z 15), (z 16), (Value.bool true), (Value.bool false), (Value.tuple #[(ptr L15.bN 0), (eN 0)]), (Value.agg #[(eN 6), (eN 8), (eN 8)]), (Value.tuple #[(ptr L15.bN 0), (eN 0)]), (ptr L15.bN 0), (eN 0), (eN 0), (Value.bool false), (eN i), u1, (eN ll.length), (Value.bool false), (Value.bool false), undef, undef, (Value.bool false)] ++ (zs z 34 32 ++ [(eN p), (Value.bool (decide (p < 8))), (z 68), (z 69), (z 70), (ptr L15.bN 0), (eN p), (Value.tuple #[u56, (eN (s2.askR (s2.readOk ((1 : Nat) : Int) ((2 : Nat) : Int) ((p : Nat) : Int))))])] ++ (zs z 74 48 ++ [undef, undef, undef, undef]))) ?_
  refine wI (d_move rfl) ?_
  refine wI (d_extract (v := u56) rfl rfl) ?_
  refine wI (d_extract (v := (eN (s2.askR (s2.readOk ((1 : Nat) : Int) ((2 : Nat) : Int) ((p : Nat) : Int))))) rfl rfl) ?_
  refine wF ([u1, u2, undef, undef, (z 4), (ptr L15.bN 0), (eN 0), (eN nx), (eN wr), (eN i), (z 10), (z 11), (eN p), (z 13), (z 14), (z 15), (z 16), (Value.bool true), (Value.bool false), (Value.tuple #[(ptr L15.bN 0), (eN 0)]), (Value.agg #[(eN 6), (eN 8), (eN 8)]), (Value.tuple #[(ptr L15.bN 0), (eN 0)]), (ptr L15.bN 0), (eN 0), (eN 0), (Value.bool false), (eN i), u1, (eN ll.length), (Value.bool false), (Value.bool false), undef, undef, (Value.bool false)] ++ (zs z 34 32 ++ [(eN p), (Value.bool (decide (p < 8))), (z 68), (z 69), (Value.tuple #[u56, (eN (s2.askR (s2.readOk ((1 : Nat) : Int) ((2 : Nat) : Int) ((p : Nat) : Int))))]), (ptr L15.bN 0), (eN p), (Value.tuple #[u56, (eN (s2.askR (s2.readOk ((1 : Nat) : Int) ((2 : Nat) : Int) ((p : Nat) : Int))))]), u56, (eN (s2.askR (s2.readOk ((1 : Nat) : Int) ((2 : Nat) : Int) ((p : Nat) : Int))))] ++ (zs z 76 46 ++ [undef, undef, undef, undef]))) ?_
  refine wI (d_assign rfl) ?_
  refine wI (d_assign rfl) ?_
  refine wF ([u1, u2, undef, undef, (z 4), (ptr L15.bN 0), (eN 0), (eN nx), (eN wr), (eN i), (z 10), (z 11), (eN p), u56, (eN (s2.askR (s2.readOk ((1 : Nat) : Int) ((2 : Nat) : Int) ((p : Nat) : Int)))), (z 15), (z 16), (Value.bool true), (Value.bool false), (Value.tuple #[(ptr L15.bN 0), (eN 0)]), (Value.agg #[(eN 6), (eN 8), (eN 8)]), (Value.tuple #[(ptr L15.bN 0), (eN 0)]), (ptr L15.bN 0), (eN 0), (eN 0), (Value.bool false), (eN i), u1, (eN ll.length), (Value.bool false), (Value.bool false), undef, undef, (Value.bool false)] ++ (zs z 34 32 ++ [(eN p), (Value.bool (decide (p < 8))), (z 68), (z 69), (Value.tuple #[u56, (eN (s2.askR (s2.readOk ((1 : Nat) : Int) ((2 : Nat) : Int) ((p : Nat) : Int))))]), (ptr L15.bN 0), (eN p), (Value.tuple #[u56, (eN (s2.askR (s2.readOk ((1 : Nat) : Int) ((2 : Nat) : Int) ((p : Nat) : Int))))]), u56, (eN (s2.askR (s2.readOk ((1 : Nat) : Int) ((2 : Nat) : Int) ((p : Nat) : Int))))] ++ (zs z 76 46 ++ [undef, undef, undef, undef]))) ?_
  refine wpL.done ?_
  refine then_n ?_
  refine wpIn_seq ?_
  refine plain ?_
  refine wI (d_move rfl) ?_
  refine wI (d_move rfl) ?_
  refine wO (d_call (xl := [.tmp 77, .const (.int .i64 1), .const (.int .i64 3), .tmp 78]) (al := [(ptr L15.bN 0), (eN 1), (eN 3), (eN p)]) Try.func21 (by kernel_rfl) rfl rfl rfl (read_ok L15 (s2.ask (s2.readOk ((1 : Nat) : Int) ((2 : Nat) : Int) ((p : Nat) : Int))) _ a16 ((1 : Nat) : Int) ((3 : Nat) : Int) ((p : Nat) : Int) lt_no)) ?_
  rintro _ w59 ⟨u61, rfl, f62, a63, o60⟩
  replace f62 := f62.less (Y := (Ors L15.S (Old W.heap.size))) (ors_old a16.lt (old_old oW.size))
  replace h1 := h1.step o60 sub1
  replace h2 := h2.step o60 sub1
  replace f57 := f57.step o60 sub1
  replace oW := oW.tail o60 (fun k hk e => by have := g_oW_L15 k e; omega)
  replace o18 := o18.tail o60 (fun k _ e => sub1 k e)
  replace o52 := o52.tail o60 (fun k _ e => sub1 k e)
  replace a16 := a63
  refine wF ([u1, u2, undef, undef, (z 4), (ptr L15.bN 0), (eN 0), (eN nx), (eN wr), (eN i), (z 10), (z 11), (eN p), u56, (eN (s2.askR (s2.readOk ((1 : Nat) : Int) ((2 : Nat) : Int) ((p : Nat) : Int)))), (z 15), (z 16), (Value.bool true), (Value.bool false), (Value.tuple #[(ptr L15.bN 0), (eN 0)]), (Value.agg #[(eN 6), (eN 8), (eN 8)]), (Value.tuple #[(ptr L15.bN 0), (eN 0)]), (ptr L15.bN 0), (eN 0), (eN 0), (Value.bool false), (eN i), u1, (eN ll.length), (Value.bool false), (Value.bool false), undef, undef, (Value.bool false)] ++ (zs z 34 32 ++ [(eN p), (Value.bool (decide (p < 8))), (z 68), (z 69), (Value.tuple #[u56, (eN (s2.askR (s2.readOk ((1 : Nat) : Int) ((2 : Nat) : Int) ((p : Nat) : Int))))]), (ptr L15.bN 0), (eN p), (Value.tuple #[u56, (eN (s2.askR (s2.readOk ((1 : Nat) : Int) ((2 : Nat) : Int) ((p : Nat) : Int))))]), u56, (eN (s2.askR (s2.readOk ((1 : Nat) : Int) ((2 : Nat) : Int) ((p : Nat) : Int)))), (z 76), (ptr L15.bN 0), (eN p), (Value.tuple #[u61, (eN ((s2.ask (s2.readOk ((1 : Nat) : Int) ((2 : Nat) : Int) ((p : Nat) : Int))).askR ((s2.ask (s2.readOk ((1 : Nat) : Int) ((2 : Nat) : Int) ((p : Nat) : Int))).readOk ((1 : Nat) : Int) ((3 : Nat) : Int) ((p : Nat) : Int))))])] ++ (zs z 80 42 ++ [undef, undef, undef, undef]))) ?_
  refine wI (d_move rfl) ?_
  refine wI (d_extract (v := u61) rfl rfl) ?_
  refine wI (d_extract (v := (eN ((s2.ask (s2.readOk ((1 : Nat) : Int) ((2 : Nat) : Int) ((p : Nat) : Int))).askR ((s2.ask (s2.readOk ((1 : Nat) : Int) ((2 : Nat) : Int) ((p : Nat) : Int))).readOk ((1 : Nat) : Int) ((3 : Nat) : Int) ((p : Nat) : Int))))) rfl rfl) ?_
  refine wF ([u1, u2, undef, undef, (z 4), (ptr L15.bN 0), (eN 0), (eN nx), (eN wr), (eN i), (z 10), (z 11), (eN p), u56, (eN (s2.askR (s2.readOk ((1 : Nat) : Int) ((2 : Nat) : Int) ((p : Nat) : Int)))), (z 15), (z 16), (Value.bool true), (Value.bool false), (Value.tuple #[(ptr L15.bN 0), (eN 0)]), (Value.agg #[(eN 6), (eN 8), (eN 8)]), (Value.tuple #[(ptr L15.bN 0), (eN 0)]), (ptr L15.bN 0), (eN 0), (eN 0), (Value.bool false), (eN i), u1, (eN ll.length), (Value.bool false), (Value.bool false), undef, undef, (Value.bool false)] ++ (zs z 34 32 ++ [(eN p), (Value.bool (decide (p < 8))), (z 68), (z 69), (Value.tuple #[u56, (eN (s2.askR (s2.readOk ((1 : Nat) : Int) ((2 : Nat) : Int) ((p : Nat) : Int))))]), (ptr L15.bN 0), (eN p), (Value.tuple #[u56, (eN (s2.askR (s2.readOk ((1 : Nat) : Int) ((2 : Nat) : Int) ((p : Nat) : Int))))]), u56, (eN (s2.askR (s2.readOk ((1 : Nat) : Int) ((2 : Nat) : Int) ((p : Nat) : Int)))), (Value.tuple #[u61, (eN ((s2.ask (s2.readOk ((1 : Nat) : Int) ((2 : Nat) : Int) ((p : Nat) : Int))).askR ((s2.ask (s2.readOk ((1 : Nat) : Int) ((2 : Nat) : Int) ((p : Nat) : Int))).readOk ((1 : Nat) : Int) ((3 : Nat) : Int) ((p : Nat) : Int))))]), (ptr L15.bN 0), (eN p), (Value.tuple #[u61, (eN ((s2.ask (s2.readOk ((1 : Nat) : Int) ((2 : Nat) : Int) ((p : Nat) : Int))).askR ((s2.ask (s2.readOk ((1 : Nat) : Int) ((2 : Nat) : Int) ((p : Nat) : Int))).readOk ((1 : Nat) : Int) ((3 : Nat) : Int) ((p : Nat) : Int))))]), u61, (eN ((s2.ask (s2.readOk ((1 : Nat) : Int) ((2 : Nat) : Int) ((p : Nat) : Int))).askR ((s2.ask (s2.readOk ((1 : Nat) : Int) ((2 : Nat) : Int) ((p : Nat) : Int))).readOk ((1 : Nat) : Int) ((3 : Nat) : Int) ((p : Nat) : Int))))] ++ (zs z 82 40 ++ [undef, undef, undef, undef]))) ?_
  refine wI (d_assign rfl) ?_
  refine wI (d_assign rfl) ?_
  refine wF ([u1, u2, undef, undef, (z 4), (ptr L15.bN 0), (eN 0), (eN nx), (eN wr), (eN i), (z 10), (z 11), (eN p), u56, (eN (s2.askR (s2.readOk ((1 : Nat) : Int) ((2 : Nat) : Int) ((p : Nat) : Int)))), u61, (eN ((s2.ask (s2.readOk ((1 : Nat) : Int) ((2 : Nat) : Int) ((p : Nat) : Int))).askR ((s2.ask (s2.readOk ((1 : Nat) : Int) ((2 : Nat) : Int) ((p : Nat) : Int))).readOk ((1 : Nat) : Int) ((3 : Nat) : Int) ((p : Nat) : Int)))), (Value.bool true), (Value.bool false), (Value.tuple #[(ptr L15.bN 0), (eN 0)]), (Value.agg #[(eN 6), (eN 8), (eN 8)]), (Value.tuple #[(ptr L15.bN 0), (eN 0)]), (ptr L15.bN 0), (eN 0), (eN 0), (Value.bool false), (eN i), u1, (eN ll.length), (Value.bool false), (Value.bool false), undef, undef, (Value.bool false)] ++ (zs z 34 32 ++ [(eN p), (Value.bool (decide (p < 8))), (z 68), (z 69), (Value.tuple #[u56, (eN (s2.askR (s2.readOk ((1 : Nat) : Int) ((2 : Nat) : Int) ((p : Nat) : Int))))]), (ptr L15.bN 0), (eN p), (Value.tuple #[u56, (eN (s2.askR (s2.readOk ((1 : Nat) : Int) ((2 : Nat) : Int) ((p : Nat) : Int))))]), u56, (eN (s2.askR (s2.readOk ((1 : Nat) : Int) ((2 : Nat) : Int) ((p : Nat) : Int)))), (Value.tuple #[u61, (eN ((s2.ask (s2.readOk ((1 : Nat) : Int) ((2 : Nat) : Int) ((p : Nat) : Int))).askR ((s2.ask (s2.readOk ((1 : Nat) : Int) ((2 : Nat) : Int) ((p : Nat) : Int))).readOk ((1 : Nat) : Int) ((3 : Nat) : Int) ((p : Nat) : Int))))]), (ptr L15.bN 0), (eN p), (Value.tuple #[u61, (eN ((s2.ask (s2.readOk ((1 : Nat) : Int) ((2 : Nat) : Int) ((p : Nat) : Int))).askR ((s2.ask (s2.readOk ((1 : Nat) : Int) ((2 : Nat) : Int) ((p : Nat) : Int))).readOk ((1 : Nat) : Int) ((3 : Nat) : Int) ((p : Nat) : Int))))]), u61, (eN ((s2.ask (s2.readOk ((1 : Nat) : Int) ((2 : Nat) : Int) ((p : Nat) : Int))).askR ((s2.ask (s2.readOk ((1 : Nat) : Int) ((2 : Nat) : Int) ((p : Nat) : Int))).readOk ((1 : Nat) : Int) ((3 : Nat) : Int) ((p : Nat) : Int))))] ++ (zs z 82 40 ++ [undef, undef, undef, undef]))) ?_
  refine wpL.done ?_
  refine then_n ?_
  refine wpIn_seq ?_
  by_cases k3 : p < nx
  ·
   refine drawn' (O := (Ors L15.S No)) (n := 40) [0, 1, 3, 7, 15, 31, 63, 127, 127, 511, 1023, 2047, 4095, 2047, 10239, 26623, 65535, 131071, 262143, 524287, 1048575, 1048575, 4194303, 8388607, 16777215, 33554431, 16777215, 83886079, 218103807, 536870911, 1073741823, 2147483647, 4294967295, 8589934591, 17179869183, 8589934591, 42949672959, 111669149695, 274877906943, 549755813887] [(0, 82), (1, 83), (2, 84), (3, 85), (4, 86), (5, 87), (6, 88), (7, 89), (8, 90), (9, 91), (10, 92), (11, 93), (12, 94), (13, 95), (14, 96), (15, 97), (16, 98), (17, 99), (18, 100), (19, 101), (20, 102), (21, 103), (22, 104), (23, 105), (24, 106), (25, 107), (26, 108), (27, 109), (28, 110), (29, 111), (30, 112), (31, 113), (32, 114), (33, 115), (34, 116), (35, 117), (36, 118), (37, 119), (38, 120), (39, 121)] [0, 1, 2, 3, 4, 5, 6, 7, 8, 9, 10, 11, 12, 13, 14, 15, 16, 17, 18, 19, 20, 21, 22, 23, 24, 25, 26, 27, 28, 29, 30, 31, 32, 33, 34, 35, 36, 37, 38, 39] [] (fun i_ => ([RF.is (Ors L15.S No) (eN (s2.askR (s2.readOk ((1 : Nat) : Int) ((2 : Nat) : Int) ((p : Nat) : Int)))), RF.is (Ors L15.S No) (Value.bool false), RF.is (Ors L15.S No) (Value.bool false), RF.is (Ors L15.S No) (eN ((s2.ask (s2.readOk ((1 : Nat) : Int) ((2 : Nat) : Int) ((p : Nat) : Int))).askR ((s2.ask (s2.readOk ((1 : Nat) : Int) ((2 : Nat) : Int) ((p : Nat) : Int))).readOk ((1 : Nat) : Int) ((3 : Nat) : Int) ((p : Nat) : Int)))), RF.is (Ors L15.S No) (Value.bool false), RF.is (Ors L15.S No) (Value.bool false), RF.is (Ors L15.S No) (Value.bool false), RF.is (Ors L15.S No) (eN p), RF.is (Ors L15.S No) (eN nx), RF.is (Ors L15.S No) (Value.bool true), RF.is (Ors L15.S No) (Value.bool true), RF.is (Ors L15.S No) u56, RF.is (Ors L15.S No) (Value.string (strOf (s2.readL ((1 : Nat) : Int) ((2 : Nat) : Int) ((p : Nat) : Int)))), RF.is (Ors L15.S No) u2, RF.ps (Ors L15.S No) (Ors L15.S (Old W.heap.size)) (Seq kB (bytesL lb 60)) (ors_mono no_any), RF.is (Ors L15.S No) (Value.string (strOf (bytesL lb 60))), RF.is (Ors L15.S No) (Value.bool false), RF.is (Ors L15.S No) (Value.bool false), RF.is (Ors L15.S No) (Value.bool false), RF.is (Ors L15.S No) (Value.bool false), RF.is (Ors L15.S No) (eN p), RF.is (Ors L15.S No) (eN nx), RF.is (Ors L15.S No) (Value.bool false), RF.is (Ors L15.S No) (Value.bool false), RF.is (Ors L15.S No) undef, RF.is (Ors L15.S No) undef, RF.is (Ors L15.S No) undef, RF.is (Ors L15.S No) undef, RF.is (Ors L15.S No) undef, RF.is (Ors L15.S No) undef, RF.is (Ors L15.S No) (Value.bool false), RF.is (Ors L15.S No) (Value.bool false), RF.is (Ors L15.S No) (Value.bool false), RF.is (Ors L15.S No) u61, RF.is (Ors L15.S No) (Value.string (strOf ((s2.ask (s2.readOk ((1 : Nat) : Int) ((2 : Nat) : Int) ((p : Nat) : Int))).readL ((1 : Nat) : Int) ((3 : Nat) : Int) ((p : Nat) : Int)))), RF.ps (Ors L15.S No) (Ors L15.S (Old W.heap.size)) (Seq kB [255]) (ors_mono no_any), RF.ps (Ors L15.S No) (Ors L15.S (Old W.heap.size)) (Seq kB (bytesL [255] 60)) (ors_mono no_any), RF.is (Ors L15.S No) (Value.string (strOf (bytesL [255] 60))), RF.is (Ors L15.S No) (Value.bool false), RF.is (Ors L15.S No) (Value.bool false)] : List (RF (Ors L15.S No))).getD i_ (RF.any (Ors L15.S No))) (fun _ w_ => Nd L15 ((s2.ask (s2.readOk ((1 : Nat) : Int) ((2 : Nat) : Int) ((p : Nat) : Int))).ask ((s2.ask (s2.readOk ((1 : Nat) : Int) ((2 : Nat) : Int) ((p : Nat) : Int))).readOk ((1 : Nat) : Int) ((3 : Nat) : Int) ((p : Nat) : Int))) No w_) (fun v64 => ([u1, u2, undef, undef, (z 4), (ptr L15.bN 0), (eN 0), (eN nx), (eN wr), (eN i), (z 10), (z 11), (eN p), u56, (eN (s2.askR (s2.readOk ((1 : Nat) : Int) ((2 : Nat) : Int) ((p : Nat) : Int)))), u61, (eN ((s2.ask (s2.readOk ((1 : Nat) : Int) ((2 : Nat) : Int) ((p : Nat) : Int))).askR ((s2.ask (s2.readOk ((1 : Nat) : Int) ((2 : Nat) : Int) ((p : Nat) : Int))).readOk ((1 : Nat) : Int) ((3 : Nat) : Int) ((p : Nat) : Int)))), (Value.bool true), (Value.bool false), (Value.tuple #[(ptr L15.bN 0), (eN 0)]), (Value.agg #[(eN 6), (eN 8), (eN 8)]), (Value.tuple #[(ptr L15.bN 0), (eN 0)]), (ptr L15.bN 0), (eN 0), (eN 0), (Value.bool false), (eN i), u1, (eN ll.length), (Value.bool false), (Value.bool false), undef, undef, (Value.bool false)] ++ (zs z 34 32 ++ [(eN p), (Value.bool (decide (p < 8))), (z 68), (z 69), (Value.tuple #[u56, (eN (s2.askR (s2.readOk ((1 : Nat) : Int) ((2 : Nat) : Int) ((p : Nat) : Int))))]), (ptr L15.bN 0), (eN p), (Value.tuple #[u56, (eN (s2.askR (s2.readOk ((1 : Nat) : Int) ((2 : Nat) : Int) ((p : Nat) : Int))))]), u56, (eN (s2.askR (s2.readOk ((1 : Nat) : Int) ((2 : Nat) : Int) ((p : Nat) : Int)))), (Value.tuple #[u61, (eN ((s2.ask (s2.readOk ((1 : Nat) : Int) ((2 : Nat) : Int) ((p : Nat) : Int))).askR ((s2.ask (s2.readOk ((1 : Nat) : Int) ((2 : Nat) : Int) ((p : Nat) : Int))).readOk ((1 : Nat) : Int) ((3 : Nat) : Int) ((p : Nat) : Int))))]), (ptr L15.bN 0), (eN p), (Value.tuple #[u61, (eN ((s2.ask (s2.readOk ((1 : Nat) : Int) ((2 : Nat) : Int) ((p : Nat) : Int))).askR ((s2.ask (s2.readOk ((1 : Nat) : Int) ((2 : Nat) : Int) ((p : Nat) : Int))).readOk ((1 : Nat) : Int) ((3 : Nat) : Int) ((p : Nat) : Int))))]), u61, (eN ((s2.ask (s2.readOk ((1 : Nat) : Int) ((2 : Nat) : Int) ((p : Nat) : Int))).askR ((s2.ask (s2.readOk ((1 : Nat) : Int) ((2 : Nat) : Int) ((p : Nat) : Int))).readOk ((1 : Nat) : Int) ((3 : Nat) : Int) ((p : Nat) : Int)))), (v64 0), (v64 1), (v64 2), (v64 3), (v64 4), (v64 5), (v64 6), (v64 7), (v64 8), (v64 9), (v64 10), (v64 11), (v64 12), (v64 13), (v64 14), (v64 15), (v64 16), (v64 17), (v64 18), (v64 19), (v64 20), (v64 21), (v64 22), (v64 23), (v64 24), (v64 25), (v64 26), (v64 27), (v64 28), (v64 29), (v64 30), (v64 31), (v64 32), (v64 33), (v64 34), (v64 35), (v64 36), (v64 37), (v64 38), (v64 39), undef, undef, undef, undef]))) s_mx (by kernel_rfl) rfl (by kernel_rfl) (by rfl) (fun v_ => by kernel_rfl) (fun _ => fun w_ w2_ h ho => by have r_a16 := h; exact r_a16.step0 ho) a16 ?_ ?_ ?_
   ·
    refine ls_cons ?_ ?_
    ·
     intro v64 lo hi w_ k_ hO hd _ _ hk_ _ hR hold
     have r_a16 := hR
     clear hd hold
     refine ⟨_, rfl, gd rfl ?_⟩
     exact Does.is (d_move rfl)
    refine ls_cons ?_ ?_
    ·
     intro v64 lo hi w_ k_ hO hd _ _ hk_ _ hR hold
     have r_a16 := hR
     have e0 : v64 0 = (eN (s2.askR (s2.readOk ((1 : Nat) : Int) ((2 : Nat) : Int) ((p : Nat) : Int)))) := hd 0 (by kernel_rfl)
     clear hd hold
     refine ⟨_, rfl, gd rfl ?_⟩
     exact Does.is (n_neq (a := (s2.askR (s2.readOk ((1 : Nat) : Int) ((2 : Nat) : Int) ((p : Nat) : Int)))) (b := 0) e0 rfl (by rw [decide_eq_true ((ord_read hJ hp7).1)] <;> rfl))
    refine ls_cons ?_ ?_
    ·
     intro v64 lo hi w_ k_ hO hd _ _ hk_ _ hR hold
     have r_a16 := hR
     have e1 : v64 1 = (Value.bool false) := hd 1 (by kernel_rfl)
     clear hd hold
     refine ⟨_, rfl, gd rfl ?_⟩
     exact Does.is (d_move (v := (Value.bool false)) e1)
    refine ls_cons ?_ ?_
    ·
     intro v64 lo hi w_ k_ hO hd _ _ hk_ _ hR hold
     have r_a16 := hR
     have e2 : v64 2 = (Value.bool false) := hd 2 (by kernel_rfl)
     clear hd hold
     refine ⟨_, rfl, gd_on rfl rfl rfl (nb rfl) e2 ?_⟩
     exact Does.is (d_move rfl)
    refine ls_cons ?_ ?_
    ·
     intro v64 lo hi w_ k_ hO hd _ _ hk_ _ hR hold
     have r_a16 := hR
     have e2 : v64 2 = (Value.bool false) := hd 2 (by kernel_rfl)
     have e3 : v64 3 = (eN ((s2.ask (s2.readOk ((1 : Nat) : Int) ((2 : Nat) : Int) ((p : Nat) : Int))).askR ((s2.ask (s2.readOk ((1 : Nat) : Int) ((2 : Nat) : Int) ((p : Nat) : Int))).readOk ((1 : Nat) : Int) ((3 : Nat) : Int) ((p : Nat) : Int)))) := hd 3 (by kernel_rfl)
     clear hd hold
     refine ⟨_, rfl, gd_on rfl rfl rfl (nb rfl) e2 ?_⟩
     exact Does.is (n_neq (a := ((s2.ask (s2.readOk ((1 : Nat) : Int) ((2 : Nat) : Int) ((p : Nat) : Int))).askR ((s2.ask (s2.readOk ((1 : Nat) : Int) ((2 : Nat) : Int) ((p : Nat) : Int))).readOk ((1 : Nat) : Int) ((3 : Nat) : Int) ((p : Nat) : Int)))) (b := 0) e3 rfl (by rw [decide_eq_true ((ord_read3 (ord_read hJ hp7).2.2 hp7).1)] <;> rfl))
    refine ls_cons ?_ ?_
    ·
     intro v64 lo hi w_ k_ hO hd _ _ hk_ _ hR hold
     have r_a16 := hR
     have e2 : v64 2 = (Value.bool false) := hd 2 (by kernel_rfl)
     have e4 : v64 4 = (Value.bool false) := hd 4 (by kernel_rfl)
     clear hd hold
     refine ⟨_, rfl, gd rfl ?_⟩
     exact Does.is (d_pick (b := false) (v := (Value.bool false)) e2 e4)
    refine ls_cons ?_ ?_
    ·
     intro v64 lo hi w_ k_ hO hd _ _ hk_ _ hR hold
     have r_a16 := hR
     have e5 : v64 5 = (Value.bool false) := hd 5 (by kernel_rfl)
     clear hd hold
     refine ⟨_, rfl, gd rfl ?_⟩
     exact Does.is (d_move (v := (Value.bool false)) e5)
    refine ls_cons ?_ ?_
    ·
     intro v64 lo hi w_ k_ hO hd _ _ hk_ _ hR hold
     have r_a16 := hR
     have e6 : v64 6 = (Value.bool false) := hd 6 (by kernel_rfl)
     clear hd hold
     refine ⟨_, rfl, gd_on rfl rfl rfl (nb rfl) e6 ?_⟩
     exact Does.is (d_move rfl)
    refine ls_cons ?_ ?_
    ·
     intro v64 lo hi w_ k_ hO hd _ _ hk_ _ hR hold
     have r_a16 := hR
     have e6 : v64 6 = (Value.bool false) := hd 6 (by kernel_rfl)
     clear hd hold
     refine ⟨_, rfl, gd_on rfl rfl rfl (nb rfl) e6 ?_⟩
     exact Does.is (d_move rfl)
    refine ls_cons ?_ ?_
    ·
     intro v64 lo hi w_ k_ hO hd _ _ hk_ _ hR hold
     have r_a16 := hR
     have e6 : v64 6 = (Value.bool false) := hd 6 (by kernel_rfl)
     have e7 : v64 7 = (eN p) := hd 7 (by kernel_rfl)
     have e8 : v64 8 = (eN nx) := hd 8 (by kernel_rfl)
     clear hd hold
     refine ⟨_, rfl, gd_on rfl rfl rfl (nb rfl) e6 ?_⟩
     exact Does.is (n_lss (a := p) (b := nx) e7 e8 (decide_eq_true k3))
    refine ls_cons ?_ ?_
    ·
     intro v64 lo hi w_ k_ hO hd _ _ hk_ _ hR hold
     have r_a16 := hR
     have e6 : v64 6 = (Value.bool false) := hd 6 (by kernel_rfl)
     have e9 : v64 9 = (Value.bool true) := hd 9 (by kernel_rfl)
     clear hd hold
     refine ⟨_, rfl, gd_on rfl rfl rfl (nb rfl) e6 ?_⟩
     exact Does.is (d_move (v := (Value.bool true)) e9)
    refine ls_cons ?_ ?_
    ·
     intro v64 lo hi w_ k_ hO hd _ _ hk_ _ hR hold
     have r_a16 := hR
     have e10 : v64 10 = (Value.bool true) := hd 10 (by kernel_rfl)
     clear hd hold
     refine ⟨_, rfl, gd_on rfl rfl rfl (nb rfl) e10 ?_⟩
     exact Does.is (d_move rfl)
    refine ls_cons ?_ ?_
    ·
     intro v64 lo hi w_ k_ hO hd _ _ hk_ _ hR hold
     have r_a16 := hR
     have e10 : v64 10 = (Value.bool true) := hd 10 (by kernel_rfl)
     have e11 : v64 11 = u56 := hd 11 (by kernel_rfl)
     clear hd hold
     refine ⟨_, rfl, gd_on rfl rfl rfl (nb rfl) e10 ?_⟩
     exact Does.is (d_str Try.underlying36 Try.underlying5 Try.underlying9 e11 (f57.step hO (ors_mono no_any)))
    refine ls_cons ?_ ?_
    ·
     intro v64 lo hi w_ k_ hO hd _ _ hk_ _ hR hold
     have r_a16 := hR
     have e10 : v64 10 = (Value.bool true) := hd 10 (by kernel_rfl)
     clear hd hold
     refine ⟨_, rfl, gd_on rfl rfl rfl (nb rfl) e10 ?_⟩
     exact Does.is (d_move rfl)
    refine ls_cons ?_ ?_
    ·
     intro v64 lo hi w_ k_ hO hd _ _ hk_ _ hR hold
     have r_a16 := hR
     have e10 : v64 10 = (Value.bool true) := hd 10 (by kernel_rfl)
     have e13 : v64 13 = u2 := hd 13 (by kernel_rfl)
     clear hd hold
     refine ⟨_, rfl, gd_on rfl rfl rfl (nb rfl) e10 ?_⟩
     refine Does.mono (R := ROw 5 eB (bytesL lb 60) w_) ?_ (fun u w' h => ⟨(h.ps).1.less (ors_old r_a16.lt (old_old (Nat.le_trans oW.size hO.size))), (h.ps).2⟩)
     exact d_call (xl := [.tmp 95, .const (.int .i64 60)]) (al := [u2, (eN 60)]) Try.func16 (by kernel_rfl) rfl (show ([(v64 13), (eN 60)] : List Value) = [u2, (eN 60)] from by rw [e13]) rfl (law7Bytes_ok lb 60 u2 _ (Ps.no (h2.step hO (ors_mono no_any))) (by first | omega | (simp; done) | (simp; omega)) (by omega))
    refine ls_cons ?_ ?_
    ·
     intro v64 lo hi w_ k_ hO hd _ _ hk_ _ hR hold
     have r_a16 := hR
     have e10 : v64 10 = (Value.bool true) := hd 10 (by kernel_rfl)
     have d14 : Ps (Ors L15.S (Old W.heap.size)) (Seq kB (bytesL lb 60) (v64 14)) w_ := hd 14 (by kernel_rfl)
     clear hd hold
     refine ⟨_, rfl, gd_on rfl rfl rfl (nb rfl) e10 ?_⟩
     exact Does.is (d_str Try.underlying36 Try.underlying5 Try.underlying9 rfl d14)
    refine ls_cons ?_ ?_
    ·
     intro v64 lo hi w_ k_ hO hd _ _ hk_ _ hR hold
     have r_a16 := hR
     have e10 : v64 10 = (Value.bool true) := hd 10 (by kernel_rfl)
     have e12 : v64 12 = (Value.string (strOf (s2.readL ((1 : Nat) : Int) ((2 : Nat) : Int) ((p : Nat) : Int)))) := hd 12 (by kernel_rfl)
     have e15 : v64 15 = (Value.string (strOf (bytesL lb 60))) := hd 15 (by kernel_rfl)
     clear hd hold
     refine ⟨_, rfl, gd_on rfl rfl rfl (nb rfl) e10 ?_⟩
     exact Does.is (d_sneq (a := (s2.readL ((1 : Nat) : Int) ((2 : Nat) : Int) ((p : Nat) : Int))) (c := (bytesL lb 60)) e12 e15 (by rw [decide_eq_true (by rw [(ord_read hJ hp7).2.1, if_pos k3])] <;> rfl))
    refine ls_cons ?_ ?_
    ·
     intro v64 lo hi w_ k_ hO hd _ _ hk_ _ hR hold
     have r_a16 := hR
     have e10 : v64 10 = (Value.bool true) := hd 10 (by kernel_rfl)
     have e16 : v64 16 = (Value.bool false) := hd 16 (by kernel_rfl)
     have e6 : v64 6 = (Value.bool false) := hd 6 (by kernel_rfl)
     clear hd hold
     refine ⟨_, rfl, gd_on rfl rfl rfl (nb rfl) e6 ?_⟩
     exact Does.is (d_pick (b := true) (v := (Value.bool false)) e10 e16)
    refine ls_cons ?_ ?_
    ·
     intro v64 lo hi w_ k_ hO hd _ _ hk_ _ hR hold
     have r_a16 := hR
     have e17 : v64 17 = (Value.bool false) := hd 17 (by kernel_rfl)
     have e6 : v64 6 = (Value.bool false) := hd 6 (by kernel_rfl)
     clear hd hold
     refine ⟨_, rfl, gd rfl ?_⟩
     exact Does.is (d_pick (b := false) (v := (Value.bool false)) e6 e17)
    refine ls_cons ?_ ?_
    ·
     intro v64 lo hi w_ k_ hO hd _ _ hk_ _ hR hold
     have r_a16 := hR
     have e18 : v64 18 = (Value.bool false) := hd 18 (by kernel_rfl)
     clear hd hold
     refine ⟨_, rfl, gd rfl ?_⟩
     exact Does.is (d_move (v := (Value.bool false)) e18)
    refine ls_cons ?_ ?_
    ·
     intro v64 lo hi w_ k_ hO hd _ _ hk_ _ hR hold
     have r_a16 := hR
     have e19 : v64 19 = (Value.bool false) := hd 19 (by kernel_rfl)
     clear hd hold
     refine ⟨_, rfl, gd_on rfl rfl rfl (nb rfl) e19 ?_⟩
     exact Does.is (d_move rfl)
    refine ls_cons ?_ ?_
    ·
     intro v64 lo hi w_ k_ hO hd _ _ hk_ _ hR hold
     have r_a16 := hR
     have e19 : v64 19 = (Value.bool false) := hd 19 (by kernel_rfl)
     clear hd hold
     refine ⟨_, rfl, gd_on rfl rfl rfl (nb rfl) e19 ?_⟩
     exact Does.is (d_move rfl)
    refine ls_cons ?_ ?_
    ·
     intro v64 lo hi w_ k_ hO hd _ _ hk_ _ hR hold
     have r_a16 := hR
     have e19 : v64 19 = (Value.bool false) := hd 19 (by kernel_rfl)
     have e20 : v64 20 = (eN p) := hd 20 (by kernel_rfl)
     have e21 : v64 21 = (eN nx) := hd 21 (by kernel_rfl)
     clear hd hold
     refine ⟨_, rfl, gd_on rfl rfl rfl (nb rfl) e19 ?_⟩
     exact Does.is (n_geq (a := p) (b := nx) e20 e21 (decide_eq_false (by omega)))
    refine ls_cons ?_ ?_
    ·
     intro v64 lo hi w_ k_ hO hd _ _ hk_ _ hR hold
     have r_a16 := hR
     have e19 : v64 19 = (Value.bool false) := hd 19 (by kernel_rfl)
     have e22 : v64 22 = (Value.bool false) := hd 22 (by kernel_rfl)
     clear hd hold
     refine ⟨_, rfl, gd_on rfl rfl rfl (nb rfl) e19 ?_⟩
     exact Does.is (d_move (v := (Value.bool false)) e22)
    refine ls_cons ?_ ?_
    ·
     intro v64 lo hi w_ k_ hO hd _ _ hk_ _ hR hold
     have r_a16 := hR
     have e23 : v64 23 = (Value.bool false) := hd 23 (by kernel_rfl)
     clear hd hold
     refine ⟨_, rfl, gd_off rfl rfl rfl (nb rfl) e23 ?_⟩
     exact ⟨rfl, Only.refl _ _⟩
    refine ls_cons ?_ ?_
    ·
     intro v64 lo hi w_ k_ hO hd _ _ hk_ _ hR hold
     have r_a16 := hR
     have e23 : v64 23 = (Value.bool false) := hd 23 (by kernel_rfl)
     clear hd hold
     refine ⟨_, rfl, gd_off rfl rfl rfl (nb rfl) e23 ?_⟩
     exact ⟨rfl, Only.refl _ _⟩
    refine ls_cons ?_ ?_
    ·
     intro v64 lo hi w_ k_ hO hd _ _ hk_ _ hR hold
     have r_a16 := hR
     have e23 : v64 23 = (Value.bool false) := hd 23 (by kernel_rfl)
     clear hd hold
     refine ⟨_, rfl, gd_off rfl rfl rfl (nb rfl) e23 ?_⟩
     exact ⟨rfl, Only.refl _ _⟩
    refine ls_cons ?_ ?_
    ·
     intro v64 lo hi w_ k_ hO hd _ _ hk_ _ hR hold
     have r_a16 := hR
     have e23 : v64 23 = (Value.bool false) := hd 23 (by kernel_rfl)
     clear hd hold
     refine ⟨_, rfl, gd_off rfl rfl rfl (nb rfl) e23 ?_⟩
     exact ⟨rfl, Only.refl _ _⟩
    refine ls_cons ?_ ?_
    ·
     intro v64 lo hi w_ k_ hO hd _ _ hk_ _ hR hold
     have r_a16 := hR
     have e23 : v64 23 = (Value.bool false) := hd 23 (by kernel_rfl)
     clear hd hold
     refine ⟨_, rfl, gd_off rfl rfl rfl (nb rfl) e23 ?_⟩
     exact ⟨rfl, Only.refl _ _⟩
    refine ls_cons ?_ ?_
    ·
     intro v64 lo hi w_ k_ hO hd _ _ hk_ _ hR hold
     have r_a16 := hR
     have e23 : v64 23 = (Value.bool false) := hd 23 (by kernel_rfl)
     clear hd hold
     refine ⟨_, rfl, gd_off rfl rfl rfl (nb rfl) e23 ?_⟩
     exact ⟨rfl, Only.refl _ _⟩
    refine ls_cons ?_ ?_
    ·
     intro v64 lo hi w_ k_ hO hd _ _ hk_ _ hR hold
     have r_a16 := hR
     have e19 : v64 19 = (Value.bool false) := hd 19 (by kernel_rfl)
     have e23 : v64 23 = (Value.bool false) := hd 23 (by kernel_rfl)
     clear hd hold
     refine ⟨_, rfl, gd_on rfl rfl rfl (nb rfl) e19 ?_⟩
     exact Does.is (d_pick (b := false) (v := (Value.bool false)) e23 rfl)
    refine ls_cons ?_ ?_
    ·
     intro v64 lo hi w_ k_ hO hd _ _ hk_ _ hR hold
     have r_a16 := hR
     have e19 : v64 19 = (Value.bool false) := hd 19 (by kernel_rfl)
     have e30 : v64 30 = (Value.bool false) := hd 30 (by kernel_rfl)
     clear hd hold
     refine ⟨_, rfl, gd rfl ?_⟩
     exact Does.is (d_pick (b := false) (v := (Value.bool false)) e19 e30)
    refine ls_cons ?_ ?_
    ·
     intro v64 lo hi w_ k_ hO hd _ _ hk_ _ hR hold
     have r_a16 := hR
     have e31 : v64 31 = (Value.bool false) := hd 31 (by kernel_rfl)
     clear hd hold
     refine ⟨_, rfl, gd rfl ?_⟩
     exact Does.is (d_move (v := (Value.bool false)) e31)
    refine ls_cons ?_ ?_
    ·
     intro v64 lo hi w_ k_ hO hd _ _ hk_ _ hR hold
     have r_a16 := hR
     have e32 : v64 32 = (Value.bool false) := hd 32 (by kernel_rfl)
     clear hd hold
     refine ⟨_, rfl, gd_on rfl rfl rfl (nb rfl) e32 ?_⟩
     exact Does.is (d_move rfl)
    refine ls_cons ?_ ?_
    ·
     intro v64 lo hi w_ k_ hO hd _ _ hk_ _ hR hold
     have r_a16 := hR
     have e32 : v64 32 = (Value.bool false) := hd 32 (by kernel_rfl)
     have e33 : v64 33 = u61 := hd 33 (by kernel_rfl)
     clear hd hold
     refine ⟨_, rfl, gd_on rfl rfl rfl (nb rfl) e32 ?_⟩
     exact Does.is (d_str Try.underlying36 Try.underlying5 Try.underlying9 e33 (f62.step hO (ors_mono no_any)))
    refine ls_cons ?_ ?_
    ·
     intro v64 lo hi w_ k_ hO hd _ _ hk_ _ hR hold
     have r_a16 := hR
     have e32 : v64 32 = (Value.bool false) := hd 32 (by kernel_rfl)
     clear hd hold
     refine ⟨_, rfl, gd_on rfl rfl rfl (nb rfl) e32 ?_⟩
     refine Does.mono (d_buildL (cs := [(eB 255)]) Try.underlying36 s_ti5 rfl (nb rfl) (parts_cons (vs := [(eB 255)]) (cells_of (v := (eB 255)) rfl rfl) parts_nil) rfl) (fun u w' h => ⟨(made_seq (n := 1) (xs := [255]) (enc := eB) h rfl).1.less (ors_old r_a16.lt (old_old (Nat.le_trans oW.size hO.size))), (made_seq (n := 1) (xs := [255]) (enc := eB) h rfl).2⟩)
    refine ls_cons ?_ ?_
    ·
     intro v64 lo hi w_ k_ hO hd _ _ hk_ _ hR hold
     have r_a16 := hR
     have e32 : v64 32 = (Value.bool false) := hd 32 (by kernel_rfl)
     have d35 : Ps (Ors L15.S (Old W.heap.size)) (Seq kB [255] (v64 35)) w_ := hd 35 (by kernel_rfl)
     clear hd hold
     refine ⟨_, rfl, gd_on rfl rfl rfl (nb rfl) e32 ?_⟩
     refine Does.mono (R := ROw 5 eB (bytesL [255] 60) w_) ?_ (fun u w' h => ⟨(h.ps).1.less (ors_old r_a16.lt (old_old (Nat.le_trans oW.size hO.size))), (h.ps).2⟩)
     exact d_call (xl := [.tmp 117, .const (.int .i64 60)]) (al := [(v64 35), (eN 60)]) Try.func16 (by kernel_rfl) rfl rfl rfl (law7Bytes_ok [255] 60 (v64 35) _ (Ps.no d35) (by first | omega | (simp; done) | (simp; omega)) (by omega))
    refine ls_cons ?_ ?_
    ·
     intro v64 lo hi w_ k_ hO hd _ _ hk_ _ hR hold
     have r_a16 := hR
     have e32 : v64 32 = (Value.bool false) := hd 32 (by kernel_rfl)
     have d36 : Ps (Ors L15.S (Old W.heap.size)) (Seq kB (bytesL [255] 60) (v64 36)) w_ := hd 36 (by kernel_rfl)
     clear hd hold
     refine ⟨_, rfl, gd_on rfl rfl rfl (nb rfl) e32 ?_⟩
     exact Does.is (d_str Try.underlying36 Try.underlying5 Try.underlying9 rfl d36)
    refine ls_cons ?_ ?_
    ·
     intro v64 lo hi w_ k_ hO hd _ _ hk_ _ hR hold
     have r_a16 := hR
     have e32 : v64 32 = (Value.bool false) := hd 32 (by kernel_rfl)
     have e34 : v64 34 = (Value.string (strOf ((s2.ask (s2.readOk ((1 : Nat) : Int) ((2 : Nat) : Int) ((p : Nat) : Int))).readL ((1 : Nat) : Int) ((3 : Nat) : Int) ((p : Nat) : Int)))) := hd 34 (by kernel_rfl)
     have e37 : v64 37 = (Value.string (strOf (bytesL [255] 60))) := hd 37 (by kernel_rfl)
     clear hd hold
     refine ⟨_, rfl, gd_on rfl rfl rfl (nb rfl) e32 ?_⟩
     exact Does.is (d_sneq (a := ((s2.ask (s2.readOk ((1 : Nat) : Int) ((2 : Nat) : Int) ((p : Nat) : Int))).readL ((1 : Nat) : Int) ((3 : Nat) : Int) ((p : Nat) : Int))) (c := (bytesL [255] 60)) e34 e37 (by rw [decide_eq_true (by rw [(ord_read3 (ord_read hJ hp7).2.2 hp7).2.1]; exact onesW_bytes.symm)] <;> rfl))
    refine ls_cons ?_ ?_
    ·
     intro v64 lo hi w_ k_ hO hd _ _ hk_ _ hR hold
     have r_a16 := hR
     have e32 : v64 32 = (Value.bool false) := hd 32 (by kernel_rfl)
     have e38 : v64 38 = (Value.bool false) := hd 38 (by kernel_rfl)
     clear hd hold
     refine ⟨_, rfl, gd rfl ?_⟩
     exact Does.is (d_pick (b := false) (v := (Value.bool false)) e32 e38)
    exact ls_nil
   ·
    exact ms_nil
   intro v64 lo_ hi_ w65 o66 hd iv_ hR
   have e0 : v64 0 = (eN (s2.askR (s2.readOk ((1 : Nat) : Int) ((2 : Nat) : Int) ((p : Nat) : Int)))) := hd 0 (by decide)
   have e1 : v64 1 = (Value.bool false) := hd 1 (by decide)
   have e2 : v64 2 = (Value.bool false) := hd 2 (by decide)
   have e3 : v64 3 = (eN ((s2.ask (s2.readOk ((1 : Nat) : Int) ((2 : Nat) : Int) ((p : Nat) : Int))).askR ((s2.ask (s2.readOk ((1 : Nat) : Int) ((2 : Nat) : Int) ((p : Nat) : Int))).readOk ((1 : Nat) : Int) ((3 : Nat) : Int) ((p : Nat) : Int)))) := hd 3 (by decide)
   have e4 : v64 4 = (Value.bool false) := hd 4 (by decide)
   have e5 : v64 5 = (Value.bool false) := hd 5 (by decide)
   have e6 : v64 6 = (Value.bool false) := hd 6 (by decide)
   have e7 : v64 7 = (eN p) := hd 7 (by decide)
   have e8 : v64 8 = (eN nx) := hd 8 (by decide)
   have e9 : v64 9 = (Value.bool true) := hd 9 (by decide)
   have e10 : v64 10 = (Value.bool true) := hd 10 (by decide)
   have e11 : v64 11 = u56 := hd 11 (by decide)
   have e12 : v64 12 = (Value.string (strOf (s2.readL ((1 : Nat) : Int) ((2 : Nat) : Int) ((p : Nat) : Int)))) := hd 12 (by decide)
   have e13 : v64 13 = u2 := hd 13 (by decide)
   have e15 : v64 15 = (Value.string (strOf (bytesL lb 60))) := hd 15 (by decide)
   have e16 : v64 16 = (Value.bool false) := hd 16 (by decide)
   have e17 : v64 17 = (Value.bool false) := hd 17 (by decide)
   have e18 : v64 18 = (Value.bool false) := hd 18 (by decide)
   have e19 : v64 19 = (Value.bool false) := hd 19 (by decide)
   have e20 : v64 20 = (eN p) := hd 20 (by decide)
   have e21 : v64 21 = (eN nx) := hd 21 (by decide)
   have e22 : v64 22 = (Value.bool false) := hd 22 (by decide)
   have e23 : v64 23 = (Value.bool false) := hd 23 (by decide)
   have e24 : v64 24 = undef := hd 24 (by decide)
   have e25 : v64 25 = undef := hd 25 (by decide)
   have e26 : v64 26 = undef := hd 26 (by decide)
   have e27 : v64 27 = undef := hd 27 (by decide)
   have e28 : v64 28 = undef := hd 28 (by decide)
   have e29 : v64 29 = undef := hd 29 (by decide)
   have e30 : v64 30 = (Value.bool false) := hd 30 (by decide)
   have e31 : v64 31 = (Value.bool false) := hd 31 (by decide)
   have e32 : v64 32 = (Value.bool false) := hd 32 (by decide)
   have e33 : v64 33 = u61 := hd 33 (by decide)
   have e34 : v64 34 = (Value.string (strOf ((s2.ask (s2.readOk ((1 : Nat) : Int) ((2 : Nat) : Int) ((p : Nat) : Int))).readL ((1 : Nat) : Int) ((3 : Nat) : Int) ((p : Nat) : Int)))) := hd 34 (by decide)
   have e37 : v64 37 = (Value.string (strOf (bytesL [255] 60))) := hd 37 (by decide)
   have e38 : v64 38 = (Value.bool false) := hd 38 (by decide)
   have e39 : v64 39 = (Value.bool false) := hd 39 (by decide)
   have f_v64_14 : Ps (Ors L15.S (Old W.heap.size)) (Seq kB (bytesL lb 60) (v64 14)) w65 := hd 14 (by decide)
   have f_v64_35 : Ps (Ors L15.S (Old W.heap.size)) (Seq kB [255] (v64 35)) w65 := hd 35 (by decide)
   have f_v64_36 : Ps (Ors L15.S (Old W.heap.size)) (Seq kB (bytesL [255] 60) (v64 36)) w65 := hd 36 (by decide)
   clear hd iv_ lo_ hi_
   refine fr_eq (l' := ([u1, u2, undef, undef, (z 4), (ptr L15.bN 0), (eN 0), (eN nx), (eN wr), (eN i), (z 10), (z 11), (eN p), u56, (eN (s2.askR (s2.readOk ((1 : Nat) : Int) ((2 : Nat) : Int) ((p : Nat) : Int)))), u61, (eN ((s2.ask (s2.readOk ((1 : Nat) : Int) ((2 : Nat) : Int) ((p : Nat) : Int))).askR ((s2.ask (s2.readOk ((1 : Nat) : Int) ((2 : Nat) : Int) ((p : Nat) : Int))).readOk ((1 : Nat) : Int) ((3 : Nat) : Int) ((p : Nat) : Int)))), (Value.bool true), (Value.bool false), (Value.tuple #[(ptr L15.bN 0), (eN 0)]), (Value.agg #[(eN 6), (eN 8), (eN 8)]), (Value.tuple #[(ptr L15.bN 0), (eN 0)]), (ptr L15.bN 0), (eN 0), (eN 0), (Value.bool false), (eN i), u1, (eN ll.length), (Value.bool false), (Value.bool false), undef, undef, (Value.bool false)] ++ (zs z 34 32 ++ [(eN p), (Value.bool (decide (p < 8))), (z 68), (z 69), (Value.tuple #[u56, (eN (s2.askR (s2.readOk ((1 : Nat) : Int) ((2 : Nat) : Int) ((p : Nat) : Int))))]), (ptr L15.bN 0), (eN p), (Value.tuple #[u56, (eN (s2.askR (s2.readOk ((1 : Nat) : Int) ((2 : Nat) : Int) ((p : Nat) : Int))))]), u56, (eN (s2.askR (s2.readOk ((1 : Nat) : Int) ((2 : Nat) : Int) ((p : Nat) : Int)))), (Value.tuple #[u61, (eN ((s2.ask (s2.readOk ((1 : Nat) : Int) ((2 : Nat) : Int) ((p : Nat) : Int))).askR ((s2.ask (s2.readOk ((1 : Nat) : Int) ((2 : Nat) : Int) ((p : Nat) : Int))).readOk ((1 : Nat) : Int) ((3 : Nat) : Int) ((p : Nat) : Int))))]), (ptr L15.bN 0), (eN p), (Value.tuple #[u61, (eN ((s2.ask (s2.readOk ((1 : Nat) : Int) ((2 : Nat) : Int) ((p : Nat) : Int))).askR ((s2.ask (s2.readOk ((1 : Nat) : Int) ((2 : Nat) : Int) ((p : Nat) : Int))).readOk ((1 : Nat) : Int) ((3 : Nat) : Int) ((p : Nat) : Int))))]), u61, (eN ((s2.ask (s2.readOk ((1 : Nat) : Int) ((2 : Nat) : Int) ((p : Nat) : Int))).askR ((s2.ask (s2.readOk ((1 : Nat) : Int) ((2 : Nat) : Int) ((p : Nat) : Int))).readOk ((1 : Nat) : Int) ((3 : Nat) : Int) ((p : Nat) : Int)))), (eN (s2.askR (s2.readOk ((1 : Nat) : Int) ((2 : Nat) : Int) ((p : Nat) : Int)))), (Value.bool false), (Value.bool false), (eN ((s2.ask (s2.readOk ((1 : Nat) : Int) ((2 : Nat) : Int) ((p : Nat) : Int))).askR ((s2.ask (s2.readOk ((1 : Nat) : Int) ((2 : Nat) : Int) ((p : Nat) : Int))).readOk ((1 : Nat) : Int) ((3 : Nat) : Int) ((p : Nat) : Int)))), (Value.bool false), (Value.bool false), (Value.bool false), (eN p), (eN nx), (Value.bool true), (Value.bool true), u56, (Value.string (strOf (s2.readL ((1 : Nat) : Int) ((2 : Nat) : Int) ((p : Nat) : Int)))), u2, (v64 14), (Value.string (strOf (bytesL lb 60))), (Value.bool false), (Value.bool false), (Value.bool false), (Value.bool false), (eN p), (eN nx), (Value.bool false), (Value.bool false)] ++ (us 6 ++ [(Value.bool false), (Value.bool false), (Value.bool false), u61, (Value.string (strOf ((s2.ask (s2.readOk ((1 : Nat) : Int) ((2 : Nat) : Int) ((p : Nat) : Int))).readL ((1 : Nat) : Int) ((3 : Nat) : Int) ((p : Nat) : Int)))), (v64 35), (v64 36), (Value.string (strOf (bytesL [255] 60))), (Value.bool false), (Value.bool false), undef, undef, undef, undef])))) (by rw [e0, e1, e2, e3, e4, e5, e6, e7, e8, e9, e10, e11, e12, e13, e15, e16, e17, e18, e19, e20, e21, e22, e23, e24, e25, e26, e27, e28, e29, e30, e31, e32, e33, e34, e37, e38, e39] <;> rfl) ?_
   clear e0 e1 e2 e3 e4 e5 e6 e7 e8 e9 e10 e11 e12 e13 e15 e16 e17 e18 e19 e20 e21 e22 e23 e24 e25 e26 e27 e28 e29 e30 e31 e32 e33 e34 e37 e38 e39
   replace h1 := h1.step o66 (ors_mono no_any)
   replace h2 := h2.step o66 (ors_mono no_any)
   replace f57 := f57.step o66 (ors_mono no_any)
   replace f62 := f62.step o66 (ors_mono no_any)
   replace a16 := hR
   clear hR
   replace oW := oW.tail o66 (tl_snew g_oW_L15 tl_no)
   replace o18 := o18.tail o66 (tl_sin sub1 tl_no)
   replace o52 := o52.tail o66 (tl_sin sub1 tl_no)
   refine then_n ?_
   refine cond_f rfl ?_
   refine wpIn_skip ?_
   refine inb_n (then_n ?_)
   refine plain ?_
   refine wI (d_move rfl) ?_
   refine wI (n_add (a := p) (b := 1) rfl rfl (by omega)) ?_
   refine wI (d_assign rfl) ?_
   refine wF ([u1, u2, undef, undef, (z 4), (ptr L15.bN 0), (eN 0), (eN nx), (eN wr), (eN i), (z 10), (z 11), (eN (p + 1)), u56, (eN (s2.askR (s2.readOk ((1 : Nat) : Int) ((2 : Nat) : Int) ((p : Nat) : Int)))), u61, (eN ((s2.ask (s2.readOk ((1 : Nat) : Int) ((2 : Nat) : Int) ((p : Nat) : Int))).askR ((s2.ask (s2.readOk ((1 : Nat) : Int) ((2 : Nat) : Int) ((p : Nat) : Int))).readOk ((1 : Nat) : Int) ((3 : Nat) : Int) ((p : Nat) : Int)))), (Value.bool true), (Value.bool false), (Value.tuple #[(ptr L15.bN 0), (eN 0)]), (Value.agg #[(eN 6), (eN 8), (eN 8)]), (Value.tuple #[(ptr L15.bN 0), (eN 0)]), (ptr L15.bN 0), (eN 0), (eN 0), (Value.bool false), (eN i), u1, (eN ll.length), (Value.bool false), (Value.bool false), undef, undef, (Value.bool false)] ++ (zs z 34 32 ++ [(eN p), (Value.bool (decide (p < 8))), (eN p), (eN (p + 1)), (Value.tuple #[u56, (eN (s2.askR (s2.readOk ((1 : Nat) : Int) ((2 : Nat) : Int) ((p : Nat) : Int))))]), (ptr L15.bN 0), (eN p), (Value.tuple #[u56, (eN (s2.askR (s2.readOk ((1 : Nat) : Int) ((2 : Nat) : Int) ((p : Nat) : Int))))]), u56, (eN (s2.askR (s2.readOk ((1 : Nat) : Int) ((2 : Nat) : Int) ((p : Nat) : Int)))), (Value.tuple #[u61, (eN ((s2.ask (s2.readOk ((1 : Nat) : Int) ((2 : Nat) : Int) ((p : Nat) : Int))).askR ((s2.ask (s2.readOk ((1 : Nat) : Int) ((2 : Nat) : Int) ((p : Nat) : Int))).readOk ((1 : Nat) : Int) ((3 : Nat) : Int) ((p : Nat) : Int))))]), (ptr L15.bN 0), (eN p), (Value.tuple #[u61, (eN ((s2.ask (s2.readOk ((1 : Nat) : Int) ((2 : Nat) : Int) ((p : Nat) : Int))).askR ((s2.ask (s2.readOk ((1 : Nat) : Int) ((2 : Nat) : Int) ((p : Nat) : Int))).readOk ((1 : Nat) : Int) ((3 : Nat) : Int) ((p : Nat) : Int))))]), u61, (eN ((s2.ask (s2.readOk ((1 : Nat) : Int) ((2 : Nat) : Int) ((p : Nat) : Int))).askR ((s2.ask (s2.readOk ((1 : Nat) : Int) ((2 : Nat) : Int) ((p : Nat) : Int))).readOk ((1 : Nat) : Int) ((3 : Nat) : Int) ((p : Nat) : Int)))), (eN (s2.askR (s2.readOk ((1 : Nat) : Int) ((2 : Nat) : Int) ((p : Nat) : Int)))), (Value.bool false), (Value.bool false), (eN ((s2.ask (s2.readOk ((1 : Nat) : Int) ((2 : Nat) : Int) ((p : Nat) : Int))).askR ((s2.ask (s2.readOk ((1 : Nat) : Int) ((2 : Nat) : Int) ((p : Nat) : Int))).readOk ((1 : Nat) : Int) ((3 : Nat) : Int) ((p : Nat) : Int)))), (Value.bool false), (Value.bool false), (Value.bool false), (eN p), (eN nx), (Value.bool true), (Value.bool true), u56, (Value.string (strOf (s2.readL ((1 : Nat) : Int) ((2 : Nat) : Int) ((p : Nat) : Int)))), u2, (v64 14), (Value.string (strOf (bytesL lb 60))), (Value.bool false), (Value.bool false), (Value.bool false), (Value.bool false), (eN p), (eN nx), (Value.bool false), (Value.bool false)] ++ (us 6 ++ [(Value.bool false), (Value.bool false), (Value.bool false), u61, (Value.string (strOf ((s2.ask (s2.readOk ((1 : Nat) : Int) ((2 : Nat) : Int) ((p : Nat) : Int))).readL ((1 : Nat) : Int) ((3 : Nat) : Int) ((p : Nat) : Int)))), (v64 35), (v64 36), (Value.string (strOf (bytesL [255] 60))), (Value.bool false), (Value.bool false), undef, undef, undef, undef]))) ?_
   refine wpL.done ?_
   refine then_n ?_
   refine ⟨_, ⟨p + 1, ((s2.ask (s2.readOk ((1 : Nat) : Int) ((2 : Nat) : Int) ((p : Nat) : Int))).ask ((s2.ask (s2.readOk ((1 : Nat) : Int) ((2 : Nat) : Int) ((p : Nat) : Int))).readOk ((1 : Nat) : Int) ((3 : Nat) : Int) ((p : Nat) : Int)))⟩, rfl, rfl, ⟨?_, ?_, ?_, ?_⟩, ?_⟩
   ·
    (try dsimp only)
    all_goals (omega)
   ·
    exact (ord_read3 (ord_read hJ hp7).2.2 hp7).2.2
   ·
    exact o52
   ·
    exact a16
   ·
    (try dsimp only)
    all_goals (omega)
  refine drawn' (O := (Ors L15.S No)) (n := 40) [0, 1, 3, 7, 15, 31, 63, 127, 127, 511, 1023, 2047, 4095, 2047, 10239, 26623, 65535, 131071, 262143, 524287, 1048575, 1048575, 4194303, 8388607, 16777215, 33554431, 16777215, 83886079, 218103807, 536870911, 1073741823, 2147483647, 4294967295, 8589934591, 17179869183, 8589934591, 42949672959, 111669149695, 274877906943, 549755813887] [(0, 82), (1, 83), (2, 84), (3, 85), (4, 86), (5, 87), (6, 88), (7, 89), (8, 90), (9, 91), (10, 92), (11, 93), (12, 94), (13, 95), (14, 96), (15, 97), (16, 98), (17, 99), (18, 100), (19, 101), (20, 102), (21, 103), (22, 104), (23, 105), (24, 106), (25, 107), (26, 108), (27, 109), (28, 110), (29, 111), (30, 112), (31, 113), (32, 114), (33, 115), (34, 116), (35, 117), (36, 118), (37, 119), (38, 120), (39, 121)] [0, 1, 2, 3, 4, 5, 6, 7, 8, 9, 10, 11, 12, 13, 14, 15, 16, 17, 18, 19, 20, 21, 22, 23, 24, 25, 26, 27, 28, 29, 30, 31, 32, 33, 34, 35, 36, 37, 38, 39] [] (fun i_ => ([RF.is (Ors L15.S No) (eN (s2.askR (s2.readOk ((1 : Nat) : Int) ((2 : Nat) : Int) ((p : Nat) : Int)))), RF.is (Ors L15.S No) (Value.bool false), RF.is (Ors L15.S No) (Value.bool false), RF.is (Ors L15.S No) (eN ((s2.ask (s2.readOk ((1 : Nat) : Int) ((2 : Nat) : Int) ((p : Nat) : Int))).askR ((s2.ask (s2.readOk ((1 : Nat) : Int) ((2 : Nat) : Int) ((p : Nat) : Int))).readOk ((1 : Nat) : Int) ((3 : Nat) : Int) ((p : Nat) : Int)))), RF.is (Ors L15.S No) (Value.bool false), RF.is (Ors L15.S No) (Value.bool false), RF.is (Ors L15.S No) (Value.bool false), RF.is (Ors L15.S No) (eN p), RF.is (Ors L15.S No) (eN nx), RF.is (Ors L15.S No) (Value.bool false), RF.is (Ors L15.S No) (Value.bool false), RF.is (Ors L15.S No) undef, RF.is (Ors L15.S No) undef, RF.is (Ors L15.S No) undef, RF.is (Ors L15.S No) undef, RF.is (Ors L15.S No) undef, RF.is (Ors L15.S No) undef, RF.is (Ors L15.S No) (Value.bool false), RF.is (Ors L15.S No) (Value.bool false), RF.is (Ors L15.S No) (Value.bool false), RF.is (Ors L15.S No) (eN p), RF.is (Ors L15.S No) (eN nx), RF.is (Ors L15.S No) (Value.bool true), RF.is (Ors L15.S No) (Value.bool true), RF.is (Ors L15.S No) u56, RF.is (Ors L15.S No) (Value.string (strOf (s2.readL ((1 : Nat) : Int) ((2 : Nat) : Int) ((p : Nat) : Int)))), RF.ps (Ors L15.S No) (Ors L15.S (Old W.heap.size)) (Seq kB [255]) (ors_mono no_any), RF.ps (Ors L15.S No) (Ors L15.S (Old W.heap.size)) (Seq kB (bytesL [255] 60)) (ors_mono no_any), RF.is (Ors L15.S No) (Value.string (strOf (bytesL [255] 60))), RF.is (Ors L15.S No) (Value.bool false), RF.is (Ors L15.S No) (Value.bool false), RF.is (Ors L15.S No) (Value.bool false), RF.is (Ors L15.S No) (Value.bool false), RF.is (Ors L15.S No) u61, RF.is (Ors L15.S No) (Value.string (strOf ((s2.ask (s2.readOk ((1 : Nat) : Int) ((2 : Nat) : Int) ((p : Nat) : Int))).readL ((1 : Nat) : Int) ((3 : Nat) : Int) ((p : Nat) : Int)))), RF.ps (Ors L15.S No) (Ors L15.S (Old W.heap.size)) (Seq kB [255]) (ors_mono no_any), RF.ps (Ors L15.S No) (Ors L15.S (Old W.heap.size)) (Seq kB (bytesL [255] 60)) (ors_mono no_any), RF.is (Ors L15.S No) (Value.string (strOf (bytesL [255] 60))), RF.is (Ors L15.S No) (Value.bool false), RF.is (Ors L15.S No) (Value.bool false)] : List (RF (Ors L15.S No))).getD i_ (RF.any (Ors L15.S No))) (fun _ w_ => Nd L15 ((s2.ask (s2.readOk ((1 : Nat) : Int) ((2 : Nat) : Int) ((p : Nat) : Int))).ask ((s2.ask (s2.readOk ((1 : Nat) : Int) ((2 : Nat) : Int) ((p : Nat) : Int))).readOk ((1 : Nat) : Int) ((3 : Nat) : Int) ((p : Nat) : Int))) No w_) (fun v67 => ([u1, u2, undef, undef, (z 4), (ptr L15.bN 0), (eN 0), (eN nx), (eN wr), (eN i), (z 10), (z 11), (eN p), u56, (eN (s2.askR (s2.readOk ((1 : Nat) : Int) ((2 : Nat) : Int) ((p : Nat) : Int)))), u61, (eN ((s2.ask (s2.readOk ((1 : Nat) : Int) ((2 : Nat) : Int) ((p : Nat) : Int))).askR ((s2.ask (s2.readOk ((1 : Nat) : Int) ((2 : Nat) : Int) ((p : Nat) : Int))).readOk ((1 : Nat) : Int) ((3 : Nat) : Int) ((p : Nat) : Int)))), (Value.bool true), (Value.bool false), (Value.tuple #[(ptr L15.bN 0), (eN 0)]), (Value.agg #[(eN 6), (eN 8), (eN 8)]), (Value.tuple #[(ptr L15.bN 0), (eN 0)]), (ptr L15.bN 0), (eN 0), (eN 0), (Value.bool false), (eN i), u1, (eN ll.length), (Value.bool false), (Value.bool false), undef, undef, (Value.bool false)] ++ (zs z 34 32 ++ [(eN p), (Value.bool (decide (p < 8))), (z 68), (z 69), (Value.tuple #[u56, (eN (s2.askR (s2.readOk ((1 : Nat) : Int) ((2 : Nat) : Int) ((p : Nat) : Int))))]), (ptr L15.bN 0), (eN p), (Value.tuple #[u56, (eN (s2.askR (s2.readOk ((1 : Nat) : Int) ((2 : Nat) : Int) ((p : Nat) : Int))))]), u56, (eN (s2.askR (s2.readOk ((1 : Nat) : Int) ((2 : Nat) : Int) ((p : Nat) : Int)))), (Value.tuple #[u61, (eN ((s2.ask (s2.readOk ((1 : Nat) : Int) ((2 : Nat) : Int) ((p : Nat) : Int))).askR ((s2.ask (s2.readOk ((1 : Nat) : Int) ((2 : Nat) : Int) ((p : Nat) : Int))).readOk ((1 : Nat) : Int) ((3 : Nat) : Int) ((p : Nat) : Int))))]), (ptr L15.bN 0), (eN p), (Value.tuple #[u61, (eN ((s2.ask (s2.readOk ((1 : Nat) : Int) ((2 : Nat) : Int) ((p : Nat) : Int))).askR ((s2.ask (s2.readOk ((1 : Nat) : Int) ((2 : Nat) : Int) ((p : Nat) : Int))).readOk ((1 : Nat) : Int) ((3 : Nat) : Int) ((p : Nat) : Int))))]), u61, (eN ((s2.ask (s2.readOk ((1 : Nat) : Int) ((2 : Nat) : Int) ((p : Nat) : Int))).askR ((s2.ask (s2.readOk ((1 : Nat) : Int) ((2 : Nat) : Int) ((p : Nat) : Int))).readOk ((1 : Nat) : Int) ((3 : Nat) : Int) ((p : Nat) : Int)))), (v67 0), (v67 1), (v67 2), (v67 3), (v67 4), (v67 5), (v67 6), (v67 7), (v67 8), (v67 9), (v67 10), (v67 11), (v67 12), (v67 13), (v67 14), (v67 15), (v67 16), (v67 17), (v67 18), (v67 19), (v67 20), (v67 21), (v67 22), (v67 23), (v67 24), (v67 25), (v67 26), (v67 27), (v67 28), (v67 29), (v67 30), (v67 31), (v67 32), (v67 33), (v67 34), (v67 35), (v67 36), (v67 37), (v67 38), (v67 39), undef, undef, undef, undef]))) s_mx (by kernel_rfl) rfl (by kernel_rfl) (by rfl) (fun v_ => by kernel_rfl) (fun _ => fun w_ w2_ h ho => by have r_a16 := h; exact r_a16.step0 ho) a16 ?_ ?_ ?_
  ·
   refine ls_cons ?_ ?_
   ·
    intro v67 lo hi w_ k_ hO hd _ _ hk_ _ hR hold
    have r_a16 := hR
    clear hd hold
    refine ⟨_, rfl, gd rfl ?_⟩
    exact Does.is (d_move rfl)
   refine ls_cons ?_ ?_
   ·
    intro v67 lo hi w_ k_ hO hd _ _ hk_ _ hR hold
    have r_a16 := hR
    have e0 : v67 0 = (eN (s2.askR (s2.readOk ((1 : Nat) : Int) ((2 : Nat) : Int) ((p : Nat) : Int)))) := hd 0 (by kernel_rfl)
    clear hd hold
    refine ⟨_, rfl, gd rfl ?_⟩
    exact Does.is (n_neq (a := (s2.askR (s2.readOk ((1 : Nat) : Int) ((2 : Nat) : Int) ((p : Nat) : Int)))) (b := 0) e0 rfl (by rw [decide_eq_true ((ord_read hJ hp7).1)] <;> rfl))
   refine ls_cons ?_ ?_
   ·
    intro v67 lo hi w_ k_ hO hd _ _ hk_ _ hR hold
    have r_a16 := hR
    have e1 : v67 1 = (Value.bool false) := hd 1 (by kernel_rfl)
    clear hd hold
    refine ⟨_, rfl, gd rfl ?_⟩
    exact Does.is (d_move (v := (Value.bool false)) e1)
   refine ls_cons ?_ ?_
   ·
    intro v67 lo hi w_ k_ hO hd _ _ hk_ _ hR hold
    have r_a16 := hR
    have e2 : v67 2 = (Value.bool false) := hd 2 (by kernel_rfl)
    clear hd hold
    refine ⟨_, rfl, gd_on rfl rfl rfl (nb rfl) e2 ?_⟩
    exact Does.is (d_move rfl)
   refine ls_cons ?_ ?_
   ·
    intro v67 lo hi w_ k_ hO hd _ _ hk_ _ hR hold
    have r_a16 := hR
    have e2 : v67 2 = (Value.bool false) := hd 2 (by kernel_rfl)
    have e3 : v67 3 = (eN ((s2.ask (s2.readOk ((1 : Nat) : Int) ((2 : Nat) : Int) ((p : Nat) : Int))).askR ((s2.ask (s2.readOk ((1 : Nat) : Int) ((2 : Nat) : Int) ((p : Nat) : Int))).readOk ((1 : Nat) : Int) ((3 : Nat) : Int) ((p : Nat) : Int)))) := hd 3 (by kernel_rfl)
    clear hd hold
    refine ⟨_, rfl, gd_on rfl rfl rfl (nb rfl) e2 ?_⟩
    exact Does.is (n_neq (a := ((s2.ask (s2.readOk ((1 : Nat) : Int) ((2 : Nat) : Int) ((p : Nat) : Int))).askR ((s2.ask (s2.readOk ((1 : Nat) : Int) ((2 : Nat) : Int) ((p : Nat) : Int))).readOk ((1 : Nat) : Int) ((3 : Nat) : Int) ((p : Nat) : Int)))) (b := 0) e3 rfl (by rw [decide_eq_true ((ord_read3 (ord_read hJ hp7).2.2 hp7).1)] <;> rfl))
   refine ls_cons ?_ ?_
   ·
    intro v67 lo hi w_ k_ hO hd _ _ hk_ _ hR hold
    have r_a16 := hR
    have e2 : v67 2 = (Value.bool false) := hd 2 (by kernel_rfl)
    have e4 : v67 4 = (Value.bool false) := hd 4 (by kernel_rfl)
    clear hd hold
    refine ⟨_, rfl, gd rfl ?_⟩
    exact Does.is (d_pick (b := false) (v := (Value.bool false)) e2 e4)
   refine ls_cons ?_ ?_
   ·
    intro v67 lo hi w_ k_ hO hd _ _ hk_ _ hR hold
    have r_a16 := hR
    have e5 : v67 5 = (Value.bool false) := hd 5 (by kernel_rfl)
    clear hd hold
    refine ⟨_, rfl, gd rfl ?_⟩
    exact Does.is (d_move (v := (Value.bool false)) e5)
   refine ls_cons ?_ ?_
   ·
    intro v67 lo hi w_ k_ hO hd _ _ hk_ _ hR hold
    have r_a16 := hR
    have e6 : v67 6 = (Value.bool false) := hd 6 (by kernel_rfl)
    clear hd hold
    refine ⟨_, rfl, gd_on rfl rfl rfl (nb rfl) e6 ?_⟩
    exact Does.is (d_move rfl)
   refine ls_cons ?_ ?_
   ·
    intro v67 lo hi w_ k_ hO hd _ _ hk_ _ hR hold
    have r_a16 := hR
    have e6 : v67 6 = (Value.bool false) := hd 6 (by kernel_rfl)
    clear hd hold
    refine ⟨_, rfl, gd_on rfl rfl rfl (nb rfl) e6 ?_⟩
    exact Does.is (d_move rfl)
   refine ls_cons ?_ ?_
   ·
    intro v67 lo hi w_ k_ hO hd _ _ hk_ _ hR hold
    have r_a16 := hR
    have e6 : v67 6 = (Value.bool false) := hd 6 (by kernel_rfl)
    have e7 : v67 7 = (eN p) := hd 7 (by kernel_rfl)
    have e8 : v67 8 = (eN nx) := hd 8 (by kernel_rfl)
    clear hd hold
    refine ⟨_, rfl, gd_on rfl rfl rfl (nb rfl) e6 ?_⟩
    exact Does.is (n_lss (a := p) (b := nx) e7 e8 (decide_eq_false k3))
   refine ls_cons ?_ ?_
   ·
    intro v67 lo hi w_ k_ hO hd _ _ hk_ _ hR hold
    have r_a16 := hR
    have e6 : v67 6 = (Value.bool false) := hd 6 (by kernel_rfl)
    have e9 : v67 9 = (Value.bool false) := hd 9 (by kernel_rfl)
    clear hd hold
    refine ⟨_, rfl, gd_on rfl rfl rfl (nb rfl) e6 ?_⟩
    exact Does.is (d_move (v := (Value.bool false)) e9)
   refine ls_cons ?_ ?_
   ·
    intro v67 lo hi w_ k_ hO hd _ _ hk_ _ hR hold
    have r_a16 := hR
    have e10 : v67 10 = (Value.bool false) := hd 10 (by kernel_rfl)
    clear hd hold
    refine ⟨_, rfl, gd_off rfl rfl rfl (nb rfl) e10 ?_⟩
    exact ⟨rfl, Only.refl _ _⟩
   refine ls_cons ?_ ?_
   ·
    intro v67 lo hi w_ k_ hO hd _ _ hk_ _ hR hold
    have r_a16 := hR
    have e10 : v67 10 = (Value.bool false) := hd 10 (by kernel_rfl)
    clear hd hold
    refine ⟨_, rfl, gd_off rfl rfl rfl (nb rfl) e10 ?_⟩
    exact ⟨rfl, Only.refl _ _⟩
   refine ls_cons ?_ ?_
   ·
    intro v67 lo hi w_ k_ hO hd _ _ hk_ _ hR hold
    have r_a16 := hR
    have e10 : v67 10 = (Value.bool false) := hd 10 (by kernel_rfl)
    clear hd hold
    refine ⟨_, rfl, gd_off rfl rfl rfl (nb rfl) e10 ?_⟩
    exact ⟨rfl, Only.refl _ _⟩
   refine ls_cons ?_ ?_
   ·
    intro v67 lo hi w_ k_ hO hd _ _ hk_ _ hR hold
    have r_a16 := hR
    have e10 : v67 10 = (Value.bool false) := hd 10 (by kernel_rfl)
    clear hd hold
    refine ⟨_, rfl, gd_off rfl rfl rfl (nb rfl) e10 ?_⟩
    exact ⟨rfl, Only.refl _ _⟩
   refine ls_cons ?_ ?_
   ·
    intro v67 lo hi w_ k_ hO hd _ _ hk_ _ hR hold
    have r_a16 := hR
    have e10 : v67 10 = (Value.bool false) := hd 10 (by kernel_rfl)
    clear hd hold
    refine ⟨_, rfl, gd_off rfl rfl rfl (nb rfl) e10 ?_⟩
    exact ⟨rfl, Only.refl _ _⟩
   refine ls_cons ?_ ?_
   ·
    intro v67 lo hi w_ k_ hO hd _ _ hk_ _ hR hold
    have r_a16 := hR
    have e10 : v67 10 = (Value.bool false) := hd 10 (by kernel_rfl)
    clear hd hold
    refine ⟨_, rfl, gd_off rfl rfl rfl (nb rfl) e10 ?_⟩
    exact ⟨rfl, Only.refl _ _⟩
   refine ls_cons ?_ ?_
   ·
    intro v67 lo hi w_ k_ hO hd _ _ hk_ _ hR hold
    have r_a16 := hR
    have e10 : v67 10 = (Value.bool false) := hd 10 (by kernel_rfl)
    have e6 : v67 6 = (Value.bool false) := hd 6 (by kernel_rfl)
    clear hd hold
    refine ⟨_, rfl, gd_on rfl rfl rfl (nb rfl) e6 ?_⟩
    exact Does.is (d_pick (b := false) (v := (Value.bool false)) e10 rfl)
   refine ls_cons ?_ ?_
   ·
    intro v67 lo hi w_ k_ hO hd _ _ hk_ _ hR hold
    have r_a16 := hR
    have e17 : v67 17 = (Value.bool false) := hd 17 (by kernel_rfl)
    have e6 : v67 6 = (Value.bool false) := hd 6 (by kernel_rfl)
    clear hd hold
    refine ⟨_, rfl, gd rfl ?_⟩
    exact Does.is (d_pick (b := false) (v := (Value.bool false)) e6 e17)
   refine ls_cons ?_ ?_
   ·
    intro v67 lo hi w_ k_ hO hd _ _ hk_ _ hR hold
    have r_a16 := hR
    have e18 : v67 18 = (Value.bool false) := hd 18 (by kernel_rfl)
    clear hd hold
    refine ⟨_, rfl, gd rfl ?_⟩
    exact Does.is (d_move (v := (Value.bool false)) e18)
   refine ls_cons ?_ ?_
   ·
    intro v67 lo hi w_ k_ hO hd _ _ hk_ _ hR hold
    have r_a16 := hR
    have e19 : v67 19 = (Value.bool false) := hd 19 (by kernel_rfl)
    clear hd hold
    refine ⟨_, rfl, gd_on rfl rfl rfl (nb rfl) e19 ?_⟩
    exact Does.is (d_move rfl)
   refine ls_cons ?_ ?_
   ·
    intro v67 lo hi w_ k_ hO hd _ _ hk_ _ hR hold
    have r_a16 := hR
    have e19 : v67 19 = (Value.bool false) := hd 19 (by kernel_rfl)
    clear hd hold
    refine ⟨_, rfl, gd_on rfl rfl rfl (nb rfl) e19 ?_⟩
    exact Does.is (d_move rfl)
   refine ls_cons ?_ ?_
   ·
    intro v67 lo hi w_ k_ hO hd _ _ hk_ _ hR hold
    have r_a16 := hR
    have e19 : v67 19 = (Value.bool false) := hd 19 (by kernel_rfl)
    have e20 : v67 20 = (eN p) := hd 20 (by kernel_rfl)
    have e21 : v67 21 = (eN nx) := hd 21 (by kernel_rfl)
    clear hd hold
    refine ⟨_, rfl, gd_on rfl rfl rfl (nb rfl) e19 ?_⟩
    exact Does.is (n_geq (a := p) (b := nx) e20 e21 (decide_eq_true (by omega)))
   refine ls_cons ?_ ?_
   ·
    intro v67 lo hi w_ k_ hO hd _ _ hk_ _ hR hold
    have r_a16 := hR
    have e19 : v67 19 = (Value.bool false) := hd 19 (by kernel_rfl)
    have e22 : v67 22 = (Value.bool true) := hd 22 (by kernel_rfl)
    clear hd hold
    refine ⟨_, rfl, gd_on rfl rfl rfl (nb rfl) e19 ?_⟩
    exact Does.is (d_move (v := (Value.bool true)) e22)
   refine ls_cons ?_ ?_
   ·
    intro v67 lo hi w_ k_ hO hd _ _ hk_ _ hR hold
    have r_a16 := hR
    have e23 : v67 23 = (Value.bool true) := hd 23 (by kernel_rfl)
    clear hd hold
    refine ⟨_, rfl, gd_on rfl rfl rfl (nb rfl) e23 ?_⟩
    exact Does.is (d_move rfl)
   refine ls_cons ?_ ?_
   ·
    intro v67 lo hi w_ k_ hO hd _ _ hk_ _ hR hold
    have r_a16 := hR
    have e23 : v67 23 = (Value.bool true) := hd 23 (by kernel_rfl)
    have e24 : v67 24 = u56 := hd 24 (by kernel_rfl)
    clear hd hold
    refine ⟨_, rfl, gd_on rfl rfl rfl (nb rfl) e23 ?_⟩
    exact Does.is (d_str Try.underlying36 Try.underlying5 Try.underlying9 e24 (f57.step hO (ors_mono no_any)))
   refine ls_cons ?_ ?_
   ·
    intro v67 lo hi w_ k_ hO hd _ _ hk_ _ hR hold
    have r_a16 := hR
    have e23 : v67 23 = (Value.bool true) := hd 23 (by kernel_rfl)
    clear hd hold
    refine ⟨_, rfl, gd_on rfl rfl rfl (nb rfl) e23 ?_⟩
    refine Does.mono (d_buildL (cs := [(eB 255)]) Try.underlying36 s_ti5 rfl (nb rfl) (parts_cons (vs := [(eB 255)]) (cells_of (v := (eB 255)) rfl rfl) parts_nil) rfl) (fun u w' h => ⟨(made_seq (n := 1) (xs := [255]) (enc := eB) h rfl).1.less (ors_old r_a16.lt (old_old (Nat.le_trans oW.size hO.size))), (made_seq (n := 1) (xs := [255]) (enc := eB) h rfl).2⟩)
   refine ls_cons ?_ ?_
   ·
    intro v67 lo hi w_ k_ hO hd _ _ hk_ _ hR hold
    have r_a16 := hR
    have e23 : v67 23 = (Value.bool true) := hd 23 (by kernel_rfl)
    have d26 : Ps (Ors L15.S (Old W.heap.size)) (Seq kB [255] (v67 26)) w_ := hd 26 (by kernel_rfl)
    clear hd hold
    refine ⟨_, rfl, gd_on rfl rfl rfl (nb rfl) e23 ?_⟩
    refine Does.mono (R := ROw 5 eB (bytesL [255] 60) w_) ?_ (fun u w' h => ⟨(h.ps).1.less (ors_old r_a16.lt (old_old (Nat.le_trans oW.size hO.size))), (h.ps).2⟩)
    exact d_call (xl := [.tmp 108, .const (.int .i64 60)]) (al := [(v67 26), (eN 60)]) Try.func16 (by kernel_rfl) rfl rfl rfl (law7Bytes_ok [255] 60 (v67 26) _ (Ps.no d26) (by first | omega | (simp; done) | (simp; omega)) (by omega))
   refine ls_cons ?_ ?_
   ·
    intro v67 lo hi w_ k_ hO hd _ _ hk_ _ hR hold
    have r_a16 := hR
    have e23 : v67 23 = (Value.bool true) := hd 23 (by kernel_rfl)
    have d27 : Ps (Ors L15.S (Old W.heap.size)) (Seq kB (bytesL [255] 60) (v67 27)) w_ := hd 27 (by kernel_rfl)
    clear hd hold
    refine ⟨_, rfl, gd_on rfl rfl rfl (nb rfl) e23 ?_⟩
    exact Does.is (d_str Try.underlying36 Try.underlying5 Try.underlying9 rfl d27)
   refine ls_cons ?_ ?_
   ·
    intro v67 lo hi w_ k_ hO hd _ _ hk_ _ hR hold
    have r_a16 := hR
    have e23 : v67 23 = (Value.bool true) := hd 23 (by kernel_rfl)
    have e25 : v67 25 = (Value.string (strOf (s2.readL ((1 : Nat) : Int) ((2 : Nat) : Int) ((p : Nat) : Int)))) := hd 25 (by kernel_rfl)
    have e28 : v67 28 = (Value.string (strOf (bytesL [255] 60))) := hd 28 (by kernel_rfl)
    clear hd hold
    refine ⟨_, rfl, gd_on rfl rfl rfl (nb rfl) e23 ?_⟩
    exact Does.is (d_sneq (a := (s2.readL ((1 : Nat) : Int) ((2 : Nat) : Int) ((p : Nat) : Int))) (c := (bytesL [255] 60)) e25 e28 (by rw [decide_eq_true (by rw [(ord_read hJ hp7).2.1, if_neg k3]; exact onesW_bytes.symm)] <;> rfl))
   refine ls_cons ?_ ?_
   ·
    intro v67 lo hi w_ k_ hO hd _ _ hk_ _ hR hold
    have r_a16 := hR
    have e19 : v67 19 = (Value.bool false) := hd 19 (by kernel_rfl)
    have e23 : v67 23 = (Value.bool true) := hd 23 (by kernel_rfl)
    have e29 : v67 29 = (Value.bool false) := hd 29 (by kernel_rfl)
    clear hd hold
    refine ⟨_, rfl, gd_on rfl rfl rfl (nb rfl) e19 ?_⟩
    exact Does.is (d_pick (b := true) (v := (Value.bool false)) e23 e29)
   refine ls_cons ?_ ?_
   ·
    intro v67 lo hi w_ k_ hO hd _ _ hk_ _ hR hold
    have r_a16 := hR
    have e19 : v67 19 = (Value.bool false) := hd 19 (by kernel_rfl)
    have e30 : v67 30 = (Value.bool false) := hd 30 (by kernel_rfl)
    clear hd hold
    refine ⟨_, rfl, gd rfl ?_⟩
    exact Does.is (d_pick (b := false) (v := (Value.bool false)) e19 e30)
   refine ls_cons ?_ ?_
   ·
    intro v67 lo hi w_ k_ hO hd _ _ hk_ _ hR hold
    have r_a16 := hR
    have e31 : v67 31 = (Value.bool false) := hd 31 (by kernel_rfl)
    clear hd hold
    refine ⟨_, rfl, gd rfl ?_⟩
    exact Does.is (d_move (v := (Value.bool false)) e31)
   refine ls_cons ?_ ?_
   ·
    intro v67 lo hi w_ k_ hO hd _ _ hk_ _ hR hold
    have r_a16 := hR
    have e32 : v67 32 = (Value.bool false) := hd 32 (by kernel_rfl)
    clear hd hold
    refine ⟨_, rfl, gd_on rfl rfl rfl (nb rfl) e32 ?_⟩
    exact Does.is (d_move rfl)
   refine ls_cons ?_ ?_
   ·
    intro v67 lo hi w_ k_ hO hd _ _ hk_ _ hR hold
    have r_a16 := hR
    have e32 : v67 32 = (Value.bool false) := hd 32 (by kernel_rfl)
    have e33 : v67 33 = u61 := hd 33 (by kernel_rfl)
    clear hd hold
    refine ⟨_, rfl, gd_on rfl rfl rfl (nb rfl) e32 ?_⟩
    exact Does.is (d_str Try.underlying36 Try.underlying5 Try.underlying9 e33 (f62.step hO (ors_mono no_any)))
   refine ls_cons ?_ ?_
   ·
    intro v67 lo hi w_ k_ hO hd _ _ hk_ _ hR hold
    have r_a16 := hR
    have e32 : v67 32 = (Value.bool false) := hd 32 (by kernel_rfl)
    clear hd hold
    refine ⟨_, rfl, gd_on rfl rfl rfl (nb rfl) e32 ?_⟩
    refine Does.mono (d_buildL (cs := [(eB 255)]) Try.underlying36 s_ti5 rfl (nb rfl) (parts_cons (vs := [(eB 255)]) (cells_of (v := (eB 255)) rfl rfl) parts_nil) rfl) (fun u w' h => ⟨(made_seq (n := 1) (xs := [255]) (enc := eB) h rfl).1.less (ors_old r_a16.lt (old_old (Nat.le_trans oW.size hO.size))), (made_seq (n := 1) (xs := [255]) (enc := eB) h rfl).2⟩)
   refine ls_cons ?_ ?_
   ·
    intro v67 lo hi w_ k_ hO hd _ _ hk_ _ hR hold
    have r_a16 := hR
    have e32 : v67 32 = (Value.bool false) := hd 32 (by kernel_rfl)
    have d35 : Ps (Ors L15.S (Old W.heap.size)) (Seq kB [255] (v67 35)) w_ := hd 35 (by kernel_rfl)
    clear hd hold
    refine ⟨_, rfl, gd_on rfl rfl rfl (nb rfl) e32 ?_⟩
    refine Does.mono (R := ROw 5 eB (bytesL [255] 60) w_) ?_ (fun u w' h => ⟨(h.ps).1.less (ors_old r_a16.lt (old_old (Nat.le_trans oW.size hO.size))), (h.ps).2⟩)
    exact d_call (xl := [.tmp 117, .const (.int .i64 60)]) (al := [(v67 35), (eN 60)]) Try.func16 (by kernel_rfl) rfl rfl rfl (law7Bytes_ok [255] 60 (v67 35) _ (Ps.no d35) (by first | omega | (simp; done) | (simp; omega)) (by omega))
   refine ls_cons ?_ ?_
   ·
    intro v67 lo hi w_ k_ hO hd _ _ hk_ _ hR hold
    have r_a16 := hR
    have e32 : v67 32 = (Value.bool false) := hd 32 (by kernel_rfl)
    have d36 : Ps (Ors L15.S (Old W.heap.size)) (Seq kB (bytesL [255] 60) (v67 36)) w_ := hd 36 (by kernel_rfl)
    clear hd hold
    refine ⟨_, rfl, gd_on rfl rfl rfl (nb rfl) e32 ?_⟩
    exact Does.is (d_str Try.underlying36 Try.underlying5 Try.underlying9 rfl d36)
   refine ls_cons ?_ ?_
   ·
    intro v67 lo hi w_ k_ hO hd _ _ hk_ _ hR hold
    have r_a16 := hR
    have e32 : v67 32 = (Value.bool false) := hd 32 (by kernel_rfl)
    have e34 : v67 34 = (Value.string (strOf ((s2.ask (s2.readOk ((1 : Nat) : Int) ((2 : Nat) : Int) ((p : Nat) : Int))).readL ((1 : Nat) : Int) ((3 : Nat) : Int) ((p : Nat) : Int)))) := hd 34 (by kernel_rfl)
    have e37 : v67 37 = (Value.string (strOf (bytesL [255] 60))) := hd 37 (by kernel_rfl)
    clear hd hold
    refine ⟨_, rfl, gd_on rfl rfl rfl (nb rfl) e32 ?_⟩
    exact Does.is (d_sneq (a := ((s2.ask (s2.readOk ((1 : Nat) : Int) ((2 : Nat) : Int) ((p : Nat) : Int))).readL ((1 : Nat) : Int) ((3 : Nat) : Int) ((p : Nat) : Int))) (c := (bytesL [255] 60)) e34 e37 (by rw [decide_eq_true (by rw [(ord_read3 (ord_read hJ hp7).2.2 hp7).2.1]; exact onesW_bytes.symm)] <;> rfl))
   refine ls_cons ?_ ?_
   ·
    intro v67 lo hi w_ k_ hO hd _ _ hk_ _ hR hold
    have r_a16 := hR
    have e32 : v67 32 = (Value.bool false) := hd 32 (by kernel_rfl)
    have e38 : v67 38 = (Value.bool false) := hd 38 (by kernel_rfl)
    clear hd hold
    refine ⟨_, rfl, gd rfl ?_⟩
    exact Does.is (d_pick (b := false) (v := (Value.bool false)) e32 e38)
   exact ls_nil
  ·
   exact ms_nil
  intro v67 lo_ hi_ w68 o69 hd iv_ hR
  have e0 : v67 0 = (eN (s2.askR (s2.readOk ((1 : Nat) : Int) ((2 : Nat) : Int) ((p : Nat) : Int)))) := hd 0 (by decide)
  have e1 : v67 1 = (Value.bool false) := hd 1 (by decide)
  have e2 : v67 2 = (Value.bool false) := hd 2 (by decide)
  have e3 : v67 3 = (eN ((s2.ask (s2.readOk ((1 : Nat) : Int) ((2 : Nat) : Int) ((p : Nat) : Int))).askR ((s2.ask (s2.readOk ((1 : Nat) : Int) ((2 : Nat) : Int) ((p : Nat) : Int))).readOk ((1 : Nat) : Int) ((3 : Nat) : Int) ((p : Nat) : Int)))) := hd 3 (by decide)
  have e4 : v67 4 = (Value.bool false) := hd 4 (by decide)
  have e5 : v67 5 = (Value.bool false) := hd 5 (by decide)
  have e6 : v67 6 = (Value.bool false) := hd 6 (by decide)
  have e7 : v67 7 = (eN p) := hd 7 (by decide)
  have e8 : v67 8 = (eN nx) := hd 8 (by decide)
  have e9 : v67 9 = (Value.bool false) := hd 9 (by decide)
  have e10 : v67 10 = (Value.bool false) := hd 10 (by decide)
  have e11 : v67 11 = undef := hd 11 (by decide)
  have e12 : v67 12 = undef := hd 12 (by decide)
  have e13 : v67 13 = undef := hd 13 (by decide)
  have e14 : v67 14 = undef := hd 14 (by decide)
  have e15 : v67 15 = undef := hd 15 (by decide)
  have e16 : v67 16 = undef := hd 16 (by decide)
  have e17 : v67 17 = (Value.bool false) := hd 17 (by decide)
  have e18 : v67 18 = (Value.bool false) := hd 18 (by decide)
  have e19 : v67 19 = (Value.bool false) := hd 19 (by decide)
  have e20 : v67 20 = (eN p) := hd 20 (by decide)
  have e21 : v67 21 = (eN nx) := hd 21 (by decide)
  have e22 : v67 22 = (Value.bool true) := hd 22 (by decide)
  have e23 : v67 23 = (Value.bool true) := hd 23 (by decide)
  have e24 : v67 24 = u56 := hd 24 (by decide)
  have e25 : v67 25 = (Value.string (strOf (s2.readL ((1 : Nat) : Int) ((2 : Nat) : Int) ((p : Nat) : Int)))) := hd 25 (by decide)
  have e28 : v67 28 = (Value.string (strOf (bytesL [255] 60))) := hd 28 (by decide)
  have e29 : v67 29 = (Value.bool false) := hd 29 (by decide)
  have e30 : v67 30 = (Value.bool false) := hd 30 (by decide)
  have e31 : v67 31 = (Value.bool false) := hd 31 (by decide)
  have e32 : v67 32 = (Value.bool false) := hd 32 (by decide)
  have e33 : v67 33 = u61 := hd 33 (by decide)
  have e34 : v67 34 = (Value.string (strOf ((s2.ask (s2.readOk ((1 : Nat) : Int) ((2 : Nat) : Int) ((p : Nat) : Int))).readL ((1 : Nat) : Int) ((3 : Nat) : Int) ((p : Nat) : Int)))) := hd 34 (by decide)
  have e37 : v67 37 = (Value.string (strOf (bytesL [255] 60))) := hd 37 (by decide)
  have e38 : v67 38 = (Value.bool false) := hd 38 (by decide)
  have e39 : v67 39 = (Value.bool false) := hd 39 (by decide)
  have f_v67_26 : Ps (Ors L15.S (Old W.heap.size)) (Seq kB [255] (v67 26)) w68 := hd 26 (by decide)
  have f_v67_27 : Ps (Ors L15.S (Old W.heap.size)) (Seq kB (bytesL [255] 60) (v67 27)) w68 := hd 27 (by decide)
  have f_v67_35 : Ps (Ors L15.S (Old W.heap.size)) (Seq kB [255] (v67 35)) w68 := hd 35 (by decide)
  have f_v67_36 : Ps (Ors L15.S (Old W.heap.size)) (Seq kB (bytesL [255] 60) (v67 36)) w68 := hd 36 (by decide)
  clear hd iv_ lo_ hi_
  refine fr_eq (l' := ([u1, u2, undef, undef, (z 4), (ptr L15.bN 0), (eN 0), (eN nx), (eN wr), (eN i), (z 10), (z 11), (eN p), u56, (eN (s2.askR (s2.readOk ((1 : Nat) : Int) ((2 : Nat) : Int) ((p : Nat) : Int)))), u61, (eN ((s2.ask (s2.readOk ((1 : Nat) : Int) ((2 : Nat) : Int) ((p : Nat) : Int))).askR ((s2.ask (s2.readOk ((1 : Nat) : Int) ((2 : Nat) : Int) ((p : Nat) : Int))).readOk ((1 : Nat) : Int) ((3 : Nat) : Int) ((p : Nat) : Int)))), (Value.bool true), (Value.bool false), (Value.tuple #[(ptr L15.bN 0), (eN 0)]), (Value.agg #[(eN 6), (eN 8), (eN 8)]), (Value.tuple #[(ptr L15.bN 0), (eN 0)]), (ptr L15.bN 0), (eN 0), (eN 0), (Value.bool false), (eN i), u1, (eN ll.length), (Value.bool false), (Value.bool false), undef, undef, (Value.bool false)] ++ (zs z 34 32 ++ [(eN p), (Value.bool (decide (p < 8))), (z 68), (z 69), (Value.tuple #[u56, (eN (s2.askR (s2.readOk ((1 : Nat) : Int) ((2 : Nat) : Int) ((p : Nat) : Int))))]), (ptr L15.bN 0), (eN p), (Value.tuple #[u56, (eN (s2.askR (s2.readOk ((1 : Nat) : Int) ((2 : Nat) : Int) ((p : Nat) : Int))))]), u56, (eN (s2.askR (s2.readOk ((1 : Nat) : Int) ((2 : Nat) : Int) ((p : Nat) : Int)))), (Value.tuple #[u61, (eN ((s2.ask (s2.readOk ((1 : Nat) : Int) ((2 : Nat) : Int) ((p : Nat) : Int))).askR ((s2.ask (s2.readOk ((1 : Nat) : Int) ((2 : Nat) : Int) ((p : Nat) : Int))).readOk ((1 : Nat) : Int) ((3 : Nat) : Int) ((p : Nat) : Int))))]), (ptr L15.bN 0), (eN p), (Value.tuple #[u61, (eN ((s2.ask (s2.readOk ((1 : Nat) : Int) ((2 : Nat) : Int) ((p : Nat) : Int))).askR ((s2.ask (s2.readOk ((1 : Nat) : Int) ((2 : Nat) : Int) ((p : Nat) : Int))).readOk ((1 : Nat) : Int) ((3 : Nat) : Int) ((p : Nat) : Int))))]), u61, (eN ((s2.ask (s2.readOk ((1 : Nat) : Int) ((2 : Nat) : Int) ((p : Nat) : Int))).askR ((s2.ask (s2.readOk ((1 : Nat) : Int) ((2 : Nat) : Int) ((p : Nat) : Int))).readOk ((1 : Nat) : Int) ((3 : Nat) : Int) ((p : Nat) : Int)))), (eN (s2.askR (s2.readOk ((1 : Nat) : Int) ((2 : Nat) : Int) ((p : Nat) : Int)))), (Value.bool false), (Value.bool false), (eN ((s2.ask (s2.readOk ((1 : Nat) : Int) ((2 : Nat) : Int) ((p : Nat) : Int))).askR ((s2.ask (s2.readOk ((1 : Nat) : Int) ((2 : Nat) : Int) ((p : Nat) : Int))).readOk ((1 : Nat) : Int) ((3 : Nat) : Int) ((p : Nat) : Int)))), (Value.bool false), (Value.bool false), (Value.bool false), (eN p), (eN nx), (Value.bool false), (Value.bool false)] ++ (us 6 ++ [(Value.bool false), (Value.bool false), (Value.bool false), (eN p), (eN nx), (Value.bool true), (Value.bool true), u56, (Value.string (strOf (s2.readL ((1 : Nat) : Int) ((2 : Nat) : Int) ((p : Nat) : Int)))), (v67 26), (v67 27), (Value.string (strOf (bytesL [255] 60))), (Value.bool false), (Value.bool false), (Value.bool false), (Value.bool false), u61, (Value.string (strOf ((s2.ask (s2.readOk ((1 : Nat) : Int) ((2 : Nat) : Int) ((p : Nat) : Int))).readL ((1 : Nat) : Int) ((3 : Nat) : Int) ((p : Nat) : Int)))), (v67 35), (v67 36), (Value.string (strOf (bytesL [255] 60))), (Value.bool false), (Value.bool false), undef, undef, undef, undef])))) (by rw [e0, e1, e2, e3, e4, e5, e6, e7, e8, e9, e10, e11, e12, e13, e14, e15, e16, e17, e18, e19, e20, e21, e22, e23, e24, e25, e28, e29, e30, e31, e32, e33, e34, e37, e38, e39] <;> rfl) ?_
  clear e0 e1 e2 e3 e4 e5 e6 e7 e8 e9 e10 e11 e12 e13 e14 e15 e16 e17 e18 e19 e20 e21 e22 e23 e24 e25 e28 e29 e30 e31 e32 e33 e34 e37 e38 e39
  replace h1 := h1.step o69 (ors_mono no_any)
  replace h2 := h2.step o69 (ors_mono no_any)
  replace f57 := f57.step o69 (ors_mono no_any)
  replace f62 := f62.step o69 (ors_mono no_any)
  replace a16 := hR
  clear hR
  replace oW := oW.tail o69 (tl_snew g_oW_L15 tl_no)
  replace o18 := o18.tail o69 (tl_sin sub1 tl_no)
  replace o52 := o52.tail o69 (tl_sin sub1 tl_no)
  refine then_n ?_
  refine cond_f rfl ?_
  refine wpIn_skip ?_
  refine inb_n (then_n ?_)
  refine plain ?_
  refine wI (d_move rfl) ?_
  refine wI (n_add (a := p) (b := 1) rfl rfl (by omega)) ?_
  refine wI (d_assign rfl) ?_
  refine wF ([u1, u2, undef, undef, (z 4), (ptr L15.bN 0), (eN 0), (eN nx), (eN wr), (eN i), (z 10), (z 11), (eN (p + 1)), u56, (eN (s2.askR (s2.readOk ((1 : Nat) : Int) ((2 : Nat) : Int) ((p : Nat) : Int)))), u61, (eN ((s2.ask (s2.readOk ((1 : Nat) : Int) ((2 : Nat) : Int) ((p : Nat) : Int))).askR ((s2.ask (s2.readOk ((1 : Nat) : Int) ((2 : Nat) : Int) ((p : Nat) : Int))).readOk ((1 : Nat) : Int) ((3 : Nat) : Int) ((p : Nat) : Int)))), (Value.bool true), (Value.bool false), (Value.tuple #[(ptr L15.bN 0), (eN 0)]), (Value.agg #[(eN 6), (eN 8), (eN 8)]), (Value.tuple #[(ptr L15.bN 0), (eN 0)]), (ptr L15.bN 0), (eN 0), (eN 0), (Value.bool false), (eN i), u1, (eN ll.length), (Value.bool false), (Value.bool false), undef, undef, (Value.bool false)] ++ (zs z 34 32 ++ [(eN p), (Value.bool (decide (p < 8))), (eN p), (eN (p + 1)), (Value.tuple #[u56, (eN (s2.askR (s2.readOk ((1 : Nat) : Int) ((2 : Nat) : Int) ((p : Nat) : Int))))]), (ptr L15.bN 0), (eN p), (Value.tuple #[u56, (eN (s2.askR (s2.readOk ((1 : Nat) : Int) ((2 : Nat) : Int) ((p : Nat) : Int))))]), u56, (eN (s2.askR (s2.readOk ((1 : Nat) : Int) ((2 : Nat) : Int) ((p : Nat) : Int)))), (Value.tuple #[u61, (eN ((s2.ask (s2.readOk ((1 : Nat) : Int) ((2 : Nat) : Int) ((p : Nat) : Int))).askR ((s2.ask (s2.readOk ((1 : Nat) : Int) ((2 : Nat) : Int) ((p : Nat) : Int))).readOk ((1 : Nat) : Int) ((3 : Nat) : Int) ((p : Nat) : Int))))]), (ptr L15.bN 0), (eN p), (Value.tuple #[u61, (eN ((s2.ask (s2.readOk ((1 : Nat) : Int) ((2 : Nat) : Int) ((p : Nat) : Int))).askR ((s2.ask (s2.readOk ((1 : Nat) : Int) ((2 : Nat) : Int) ((p : Nat) : Int))).readOk ((1 : Nat) : Int) ((3 : Nat) : Int) ((p : Nat) : Int))))]), u61, (eN ((s2.ask (s2.readOk ((1 : Nat) : Int) ((2 : Nat) : Int) ((p : Nat) : Int))).askR ((s2.ask (s2.readOk ((1 : Nat) : Int) ((2 : Nat) : Int) ((p : Nat) : Int))).readOk ((1 : Nat) : Int) ((3 : Nat) : Int) ((p : Nat) : Int)))), (eN (s2.askR (s2.readOk ((1 : Nat) : Int) ((2 : Nat) : Int) ((p : Nat) : Int)))), (Value.bool false), (Value.bool false), (eN ((s2.ask (s2.readOk ((1 : Nat) : Int) ((2 : Nat) : Int) ((p : Nat) : Int))).askR ((s2.ask (s2.readOk ((1 : Nat) : Int) ((2 : Nat) : Int) ((p : Nat) : Int))).readOk ((1 : Nat) : Int) ((3 : Nat) : Int) ((p : Nat) : Int)))), (Value.bool false), (Value.bool false), (Value.bool false), (eN p), (eN nx), (Value.bool false), (Value.bool false)] ++ (us 6 ++ [(Value.bool false), (Value.bool false), (Value.bool false), (eN p), (eN nx), (Value.bool true), (Value.bool true), u56, (Value.string (strOf (s2.readL ((1 : Nat) : Int) ((2 : Nat) : Int) ((p : Nat) : Int)))), (v67 26), (v67 27), (Value.string (strOf (bytesL [255] 60))), (Value.bool false), (Value.bool false), (Value.bool false), (Value.bool false), u61, (Value.string (strOf ((s2.ask (s2.readOk ((1 : Nat) : Int) ((2 : Nat) : Int) ((p : Nat) : Int))).readL ((1 : Nat) : Int) ((3 : Nat) : Int) ((p : Nat) : Int)))), (v67 35), (v67 36), (Value.string (strOf (bytesL [255] 60))), (Value.bool false), (Value.bool false), undef, undef, undef, undef]))) ?_
  refine wpL.done ?_
  refine then_n ?_
  refine ⟨_, ⟨p + 1, ((s2.ask (s2.readOk ((1 : Nat) : Int) ((2 : Nat) : Int) ((p : Nat) : Int))).ask ((s2.ask (s2.readOk ((1 : Nat) : Int) ((2 : Nat) : Int) ((p : Nat) : Int))).readOk ((1 : Nat) : Int) ((3 : Nat) : Int) ((p : Nat) : Int)))⟩, rfl, rfl, ⟨?_, ?_, ?_, ?_⟩, ?_⟩
  ·
   (try dsimp only)
   all_goals (omega)
  ·
   exact (ord_read3 (ord_read hJ hp7).2.2 hp7).2.2
  ·
   exact o52
  ·
   exact a16
  ·
   (try dsimp only)
   all_goals (omega)
 refine wpIn_exit ?_
 refine then_x (then_x (inb_e ?_))
 refine then_n ?_
 refine wpIn_seq ?_
 refine plain ?_
 refine wI (d_move rfl) ?_
 refine wO (d_call (xl := [.tmp 122]) (al := [(ptr L15.bN 0)]) Try.func18 (by kernel_rfl) rfl rfl rfl (nandWrong_ok L15 s2 _ a16)) ?_
 rintro _ w70 ⟨rfl, o71⟩
 replace h1 := h1.step0 o71
 replace h2 := h2.step0 o71
 replace a16 := a16.step0 o71
 replace oW := oW.tail0 o71
 replace o18 := o18.tail0 o71
 replace o52 := o52.tail0 o71
 refine wI (d_move rfl) ?_
 refine wF ([u1, u2, undef, undef, (z 4), (ptr L15.bN 0), (eN 0), (eN nx), (eN wr), (eN i), (z 10), (z 11), (eN p), (z 13), (z 14), (z 15), (z 16), (Value.bool true), (Value.bool false), (Value.tuple #[(ptr L15.bN 0), (eN 0)]), (Value.agg #[(eN 6), (eN 8), (eN 8)]), (Value.tuple #[(ptr L15.bN 0), (eN 0)]), (ptr L15.bN 0), (eN 0), (eN 0), (Value.bool false), (eN i), u1, (eN ll.length), (Value.bool false), (Value.bool false), undef, undef, (Value.bool false)] ++ (zs z 34 32 ++ [(eN p), (Value.bool (decide (p < 8)))] ++ (zs z 68 54 ++ [(ptr L15.bN 0), (eI s2.wrong), (eN wr), undef]))) ?_
 refine wI (d_eql (k := .i64) (m := s2.wrong) (n := ((wr : Nat) : Int)) rfl rfl (decide_eq_true (ord_wrong hJ))) ?_
 refine wI (d_assign rfl) ?_
 refine wF ([u1, u2, undef, undef, (Value.bool true), (ptr L15.bN 0), (eN 0), (eN nx), (eN wr), (eN i), (z 10), (z 11), (eN p), (z 13), (z 14), (z 15), (z 16), (Value.bool true), (Value.bool false), (Value.tuple #[(ptr L15.bN 0), (eN 0)]), (Value.agg #[(eN 6), (eN 8), (eN 8)]), (Value.tuple #[(ptr L15.bN 0), (eN 0)]), (ptr L15.bN 0), (eN 0), (eN 0), (Value.bool false), (eN i), u1, (eN ll.length), (Value.bool false), (Value.bool false), undef, undef, (Value.bool false)] ++ (zs z 34 32 ++ [(eN p), (Value.bool (decide (p < 8)))] ++ (zs z 68 54 ++ [(ptr L15.bN 0), (eI s2.wrong), (eN wr), (Value.bool true)]))) ?_
 refine wpL.done ?_
 refine then_n ?_
 refine wpIn_ret ?_
 refine leave0 (v := (Value.bool true)) (res1 Try.results5 rfl) ?_
 exact ⟨rfl, oW⟩

end Go.Proofs.YtpamdlnobekihaaF
