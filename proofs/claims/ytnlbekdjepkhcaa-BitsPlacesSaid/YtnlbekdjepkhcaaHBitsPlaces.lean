import Derived.Test.YtnlbekdjepkhcaaFr
import Derived.Test.YtnlbekdjepkhcaaTy
import Derived.Test.YtnlbekdjepkhcaaHbitsu
set_option linter.unusedVariables false
set_option linter.unusedSimpArgs false
namespace Go.Proofs.YtnlbekdjepkhcaaF
open Go Go.Shelf Go.Proofs.YtnlbekdjepkhcaaS Ram
set_option maxRecDepth 20000 in
set_option maxHeartbeats 4000000 in
theorem bitsPlaces_law (lb : List UInt8) (ll : List Int) (by_ : Int) (u1 u2 : Value) (W : World) (h1 : Ps No (Seq kB lb u1) W) (h2 : Ps No (Seq kI ll u2) W) (g1 : lb.length ≤ 140737488351232) (g2 : ll.length ≤ 17592186043904) :
    CW Try.prog 6 #[u1, u2, (eI by_)] W (Rt (RIs (.bool true) W)) := by
 have oW : Only No W W := Only.refl _ _
 refine enter (al := [u1, u2, (eI by_)]) (k := 79) (l := ([u1, u2, (eI by_)] ++ (us 79))) Try.func6 rfl Try.ntmps6 rfl rfl ?_
 refine wpIn_seq ?_
 refine plain ?_
 refine wI (d_assign rfl) ?_
 refine wF ([u1, u2, (eI by_), undef, undef, undef, (Value.bool false)] ++ (us 75)) ?_
 refine wpL.done ?_
 refine then_n ?_
 refine wpIn_seq ?_
 refine wpIn_seq ?_
 refine plain ?_
 refine wO (d_call (xl := []) (al := []) Try.func18 (by kernel_rfl) rfl rfl rfl (law6Known_ok _)) ?_
 rintro _ w11 ⟨rfl, o12⟩
 replace h1 := h1.step0 o12
 replace h2 := h2.step0 o12
 replace oW := oW.tail0 o12
 refine wI (d_not rfl rfl) ?_
 refine wF ([u1, u2, (eI by_), undef, undef, undef, (Value.bool false), undef, undef, undef, (Value.bool true), (Value.bool false)] ++ (us 70)) ?_
 refine wpL.done ?_
 refine then_n ?_
 refine cond_f rfl ?_
 refine wpIn_skip ?_
 refine then_n ?_
 refine wpIn_seq ?_
 refine wpIn_seq ?_
 by_cases k0 : 60 < lb.length
 ·
  refine plain ?_
  refine wI (d_move rfl) ?_
  refine wI (d_lenS rfl Try.underlying28 rfl h1) ?_
  refine wI (n_gtr (a := lb.length) (b := 60) rfl rfl (decide_eq_true k0)) ?_
  refine wF ([u1, u2, (eI by_), undef, undef, undef, (Value.bool false), undef, undef, undef, (Value.bool true), (Value.bool false), u1, (eN lb.length), (Value.bool true)] ++ (us 67)) ?_
  refine wI (d_move rfl) ?_
  refine wpL.off rfl rfl rfl (nb rfl) rfl ?_
  refine wF ([u1, u2, (eI by_), undef, undef, undef, (Value.bool false), undef, undef, undef, (Value.bool true), (Value.bool false), u1, (eN lb.length), (Value.bool true), (Value.bool true)] ++ (us 66)) ?_
  refine wpL.off rfl rfl rfl (nb rfl) rfl ?_
  refine wpL.off rfl rfl rfl (nb rfl) rfl ?_
  refine wI (d_pick (b := true) (v := (Value.bool true)) rfl rfl) ?_
  refine wF ([u1, u2, (eI by_), undef, undef, undef, (Value.bool false), undef, undef, undef, (Value.bool true), (Value.bool false), u1, (eN lb.length), (Value.bool true), (Value.bool true), undef, undef, undef, (Value.bool true)] ++ (us 62)) ?_
  refine wpL.done ?_
  refine then_n ?_
  refine cond_t rfl ?_
  refine wpIn_seq ?_
  refine plain ?_
  refine wI (d_assign rfl) ?_
  refine wF ([u1, u2, (eI by_), undef, undef, undef, (Value.bool true), undef, undef, undef, (Value.bool true), (Value.bool false), u1, (eN lb.length), (Value.bool true), (Value.bool true), undef, undef, undef, (Value.bool true)] ++ (us 62)) ?_
  refine wpL.done ?_
  refine then_n ?_
  refine forget (fun zf13 => (zs zf13 0 6 ++ [(Value.bool true), undef, undef] ++ (zs zf13 9 73))) (by kernel_rfl) (fun zf13 => ?_)
  refine wpIn_ret ?_
  refine then_r ?_
  refine leave0 (v := (Value.bool true)) (res1 Try.results6 rfl) ?_
  exact ⟨rfl, oW⟩
 by_cases k1 : 30 < ll.length
 ·
  refine plain ?_
  refine wI (d_move rfl) ?_
  refine wI (d_lenS rfl Try.underlying28 rfl h1) ?_
  refine wI (n_gtr (a := lb.length) (b := 60) rfl rfl (decide_eq_false k0)) ?_
  refine wF ([u1, u2, (eI by_), undef, undef, undef, (Value.bool false), undef, undef, undef, (Value.bool true), (Value.bool false), u1, (eN lb.length), (Value.bool false)] ++ (us 67)) ?_
  refine wI (d_move rfl) ?_
  refine wpL.onis rfl rfl rfl (nb rfl) rfl (d_move rfl) ?_
  refine wpL.onis rfl rfl rfl (nb rfl) rfl (d_lenS rfl Try.underlying29 rfl h2) ?_
  refine wF ([u1, u2, (eI by_), undef, undef, undef, (Value.bool false), undef, undef, undef, (Value.bool true), (Value.bool false), u1, (eN lb.length), (Value.bool false), (Value.bool false), u2, (eN ll.length)] ++ (us 64)) ?_
  refine wpL.onis rfl rfl rfl (nb rfl) rfl (n_gtr (a := ll.length) (b := 30) rfl rfl (decide_eq_true k1)) ?_
  refine wI (d_pick (b := false) (v := (Value.bool true)) rfl rfl) ?_
  refine wF ([u1, u2, (eI by_), undef, undef, undef, (Value.bool false), undef, undef, undef, (Value.bool true), (Value.bool false), u1, (eN lb.length), (Value.bool false), (Value.bool false), u2, (eN ll.length), (Value.bool true), (Value.bool true)] ++ (us 62)) ?_
  refine wpL.done ?_
  refine then_n ?_
  refine forget (fun zf14 => ([u1, u2, (eI by_), (zf14 3), (zf14 4), (zf14 5), (zf14 6), undef, undef] ++ (zs zf14 9 10 ++ [(Value.bool true)] ++ (zs zf14 20 31 ++ (us 31))))) (by kernel_rfl) (fun zf14 => ?_)
  refine cond_t rfl ?_
  refine wpIn_seq ?_
  refine plain ?_
  refine wI (d_assign rfl) ?_
  refine wF ([u1, u2, (eI by_), (zf14 3), (zf14 4), (zf14 5), (Value.bool true), undef, undef] ++ (zs zf14 9 10 ++ [(Value.bool true)] ++ (zs zf14 20 31 ++ (us 31)))) ?_
  refine wpL.done ?_
  refine then_n ?_
  refine wpIn_ret ?_
  refine then_r ?_
  refine leave0 (v := (Value.bool true)) (res1 Try.results6 rfl) ?_
  exact ⟨rfl, oW⟩
 refine plain ?_
 refine wI (d_move rfl) ?_
 refine wI (d_lenS rfl Try.underlying28 rfl h1) ?_
 refine wI (n_gtr (a := lb.length) (b := 60) rfl rfl (decide_eq_false k0)) ?_
 refine wF ([u1, u2, (eI by_), undef, undef, undef, (Value.bool false), undef, undef, undef, (Value.bool true), (Value.bool false), u1, (eN lb.length), (Value.bool false)] ++ (us 67)) ?_
 refine wI (d_move rfl) ?_
 refine wpL.onis rfl rfl rfl (nb rfl) rfl (d_move rfl) ?_
 refine wpL.onis rfl rfl rfl (nb rfl) rfl (d_lenS rfl Try.underlying29 rfl h2) ?_
 refine wF ([u1, u2, (eI by_), undef, undef, undef, (Value.bool false), undef, undef, undef, (Value.bool true), (Value.bool false), u1, (eN lb.length), (Value.bool false), (Value.bool false), u2, (eN ll.length)] ++ (us 64)) ?_
 refine wpL.onis rfl rfl rfl (nb rfl) rfl (n_gtr (a := ll.length) (b := 30) rfl rfl (decide_eq_false k1)) ?_
 refine wI (d_pick (b := false) (v := (Value.bool false)) rfl rfl) ?_
 refine wF ([u1, u2, (eI by_), undef, undef, undef, (Value.bool false), undef, undef, undef, (Value.bool true), (Value.bool false), u1, (eN lb.length), (Value.bool false), (Value.bool false), u2, (eN ll.length), (Value.bool false), (Value.bool false)] ++ (us 62)) ?_
 refine wpL.done ?_
 refine then_n ?_
 refine forget (fun zf15 => ([u1, u2, (eI by_), (zf15 3), (zf15 4), (zf15 5), (zf15 6), undef, undef] ++ (zs zf15 9 10 ++ [(Value.bool false)] ++ (zs zf15 20 31 ++ (us 31))))) (by kernel_rfl) (fun zf15 => ?_)
 refine cond_f rfl ?_
 refine wpIn_skip ?_
 refine then_n ?_
 refine wpIn_seq ?_
 refine plain ?_
 refine wI (d_assign rfl) ?_
 refine wF ([u1, u2, (eI by_), (zf15 3), (zf15 4), (zf15 5), (zf15 6), (Value.slice none 0 0), undef] ++ (zs zf15 9 10 ++ [(Value.bool false)] ++ (zs zf15 20 31 ++ (us 31)))) ?_
 refine wpL.done ?_
 refine then_n ?_
 refine wpIn_seq ?_
 refine wpIn_seq ?_
 have a16 : Ow 3 1 none (Value.slice none 0 0) ([] : List Int).length (([] : List Int).map eI) w11 := Ow.nil _ _ _
 have q_oW_tr : Fr none none W.heap.size := Fr.none
 replace h1 := h1.qnone
 replace h2 := h2.qnone
 refine plain ?_
 refine wI (d_assign rfl) ?_
 refine wF ([u1, u2, (eI by_), (zf15 3), (zf15 4), (zf15 5), (zf15 6), (Value.slice none 0 0), (eN 0)] ++ (zs zf15 9 10 ++ [(Value.bool false)] ++ (zs zf15 20 31 ++ (us 31)))) ?_
 refine wpL.done ?_
 refine then_n ?_
 refine wpIn_block ?_
 have h_lts_tr := a16.lts
 refine loop2 (fun (s_ : (Nat) × (Option Nat) × (Value)) => match s_ with | ⟨i, bo_tr, u_tr⟩ => fun (z : Nat → Value) => (([u1, u2, (eI by_), (zf15 3), (zf15 4), (zf15 5), (zf15 6), u_tr, (eN i)] ++ (zs zf15 9 10 ++ [(Value.bool false)] ++ (zs z 20 21 ++ (zs zf15 41 10 ++ (us 31))))) : List Value)) (fun (s_ : (Nat) × (Option Nat) × (Value)) => match s_ with | ⟨i, bo_tr, u_tr⟩ => fun (w_ : World) => (i ≤ ll.length) ∧ Only (Orq none No) w11 w_ ∧ Ow 3 1 bo_tr u_tr (rotL ll ((by_ % ((ll.length : Nat) : Int)).toNat) i).length ((rotL ll ((by_ % ((ll.length : Nat) : Int)).toNat) i).map eI) w_ ∧ Fr bo_tr none w11.heap.size) (fun (s_ : (Nat) × (Option Nat) × (Value)) => match s_ with | ⟨i, bo_tr, u_tr⟩ => ll.length - i) ⟨0, none, (Value.slice none 0 0)⟩ rfl ?_ ?_
 ·
  refine ⟨?_, ?_, ?_, ?_⟩
  ·
   exact Nat.zero_le _
  ·
   exact Only.refl _ _
  ·
   exact a16
  ·
   exact Fr.same
 rintro ⟨i, bo_tr, u_tr⟩ z w18 ⟨hi, o17, a16, qq_tr⟩
 (try dsimp only)
 replace h1 := h1.re o17 (orq_mono no_any) (xx_re qq_tr xx_id)
 replace h2 := h2.re o17 (orq_mono no_any) (xx_re qq_tr xx_id)
 have tq_oW := oW.size
 replace oW := oW.tail o17 (tl_q q_oW_tr (fun _ e => by cases e) tl_no)
 replace q_oW_tr := qtr qq_tr q_oW_tr tq_oW
 have q_o17_tr := qq_tr
 refine wpIn_seq ?_
 refine wpIn_seq ?_
 refine plain ?_
 refine wI (d_move rfl) ?_
 refine wI (d_move rfl) ?_
 refine wI (d_lenS rfl Try.underlying29 rfl h2) ?_
 refine wF ([u1, u2, (eI by_), (zf15 3), (zf15 4), (zf15 5), (zf15 6), u_tr, (eN i)] ++ (zs zf15 9 10 ++ [(Value.bool false), (eN i), u2, (eN ll.length)] ++ (zs z 23 18 ++ (zs zf15 41 10 ++ (us 31))))) ?_
 refine wI (n_lss (a := i) (b := ll.length) rfl rfl rfl) ?_
 refine wF ([u1, u2, (eI by_), (zf15 3), (zf15 4), (zf15 5), (zf15 6), u_tr, (eN i)] ++ (zs zf15 9 10 ++ [(Value.bool false), (eN i), u2, (eN ll.length), (Value.bool (decide (i < ll.length)))] ++ (zs z 24 17 ++ (zs zf15 41 10 ++ (us 31))))) ?_
 refine wpL.done ?_
 refine then_n ?_
 refine cond_if rfl (fun c19 => ?_) (fun c19 => ?_)
 ·
  refine wpIn_skip ?_
  refine then_n ?_
  refine wpIn_seq ?_
  refine wpIn_block ?_
  refine plain ?_
  refine wI (d_move rfl) ?_
  refine wI (d_move rfl) ?_
  refine wI (d_move rfl) ?_
  refine wF ([u1, u2, (eI by_), (zf15 3), (zf15 4), (zf15 5), (zf15 6), u_tr, (eN i)] ++ (zs zf15 9 10 ++ [(Value.bool false), (eN i), u2, (eN ll.length), (Value.bool (decide (i < ll.length))), (z 24), (z 25), u_tr, u2, (eN i)] ++ (zs z 29 12 ++ (zs zf15 41 10 ++ (us 31))))) ?_
  refine wI (d_move rfl) ?_
  refine wI (d_move rfl) ?_
  refine wI (d_lenS rfl Try.underlying29 rfl h2) ?_
  refine wF ([u1, u2, (eI by_), (zf15 3), (zf15 4), (zf15 5), (zf15 6), u_tr, (eN i)] ++ (zs zf15 9 10 ++ [(Value.bool false), (eN i), u2, (eN ll.length), (Value.bool (decide (i < ll.length))), (z 24), (z 25), u_tr, u2, (eN i), (eI by_), u2, (eN ll.length)] ++ (zs z 32 9 ++ (zs zf15 41 10 ++ (us 31))))) ?_
  refine wO (d_call (xl := [.tmp 29, .tmp 31]) (al := [(eI by_), (eN ll.length)]) Try.func21 (by kernel_rfl) rfl rfl rfl (law6Within_ok by_ ll.length _ (by omega) (by omega))) ?_
  rintro _ w20 ⟨rfl, o21⟩
  replace h1 := h1.step0 o21
  replace h2 := h2.step0 o21
  replace a16 := a16.step0 o21
  replace oW := oW.tail0 o21
  replace o17 := o17.tail0 o21
  refine wI (n_add (a := i) (b := ((by_ % ((ll.length : Nat) : Int)).toNat)) rfl rfl (by have := Int.emod_lt_of_pos by_ (show (0 : Int) < ((ll.length : Nat) : Int) by omega); omega)) ?_
  refine wI (d_move rfl) ?_
  refine wF ([u1, u2, (eI by_), (zf15 3), (zf15 4), (zf15 5), (zf15 6), u_tr, (eN i)] ++ (zs zf15 9 10 ++ [(Value.bool false), (eN i), u2, (eN ll.length), (Value.bool (decide (i < ll.length))), (z 24), (z 25), u_tr, u2, (eN i), (eI by_), u2, (eN ll.length), (eN ((by_ % ((ll.length : Nat) : Int)).toNat)), (eN (i + ((by_ % ((ll.length : Nat) : Int)).toNat))), u2] ++ (zs z 35 6 ++ (zs zf15 41 10 ++ (us 31))))) ?_
  refine wI (d_lenS rfl Try.underlying29 rfl h2) ?_
  refine wI (n_rem (a := (i + ((by_ % ((ll.length : Nat) : Int)).toNat))) (b := ll.length) rfl rfl (by omega)) ?_
  refine wI (d_ix (i := ((i + ((by_ % ((ll.length : Nat) : Int)).toNat)) % ll.length)) (xs := ll) Try.underlying29 s_ti3 rfl h2 (show _ = Value.int _ (((i + ((by_ % ((ll.length : Nat) : Int)).toNat)) % ll.length : Nat) : Int) from rfl) (Nat.mod_lt _ (by omega))) ?_
  refine wF ([u1, u2, (eI by_), (zf15 3), (zf15 4), (zf15 5), (zf15 6), u_tr, (eN i)] ++ (zs zf15 9 10 ++ [(Value.bool false), (eN i), u2, (eN ll.length), (Value.bool (decide (i < ll.length))), (z 24), (z 25), u_tr, u2, (eN i), (eI by_), u2, (eN ll.length), (eN ((by_ % ((ll.length : Nat) : Int)).toNat)), (eN (i + ((by_ % ((ll.length : Nat) : Int)).toNat))), u2, (eN ll.length), (eN ((i + ((by_ % ((ll.length : Nat) : Int)).toNat)) % ll.length)), (ixp u2 ((i + ((by_ % ((ll.length : Nat) : Int)).toNat)) % ll.length)), (z 38), (z 39), (z 40)] ++ (zs zf15 41 10 ++ (us 31)))) ?_
  refine wI (d_ldx (i := ((i + ((by_ % ((ll.length : Nat) : Int)).toNat)) % ll.length)) (xs := ll) (enc := eI) (v := (ll.getD ((i + ((by_ % ((ll.length : Nat) : Int)).toNat)) % ll.length) 0)) ⟨_, Try.underlying3, rfl⟩ rfl h2 (g_at (Nat.mod_lt _ (by omega)))) ?_
  refine wO (d_buildL (cs := [(eI (ll.getD ((i + ((by_ % ((ll.length : Nat) : Int)).toNat)) % ll.length) 0))]) Try.underlying29 s_ti3 rfl (nb rfl) (parts_cons (vs := [(eI (ll.getD ((i + ((by_ % ((ll.length : Nat) : Int)).toNat)) % ll.length) 0))]) (cells_of (v := (eI (ll.getD ((i + ((by_ % ((ll.length : Nat) : Int)).toNat)) % ll.length) 0))) rfl rfl) parts_nil) rfl) ?_
  rintro _ w23 ⟨b22, rfl, g24, a25, o26⟩
  replace a25 : Arr 3 b22 (([(ll.getD ((i + ((by_ % ((ll.length : Nat) : Int)).toNat)) % ll.length) 0)] : List Int).map eI) w23 := a25
  have l_b22 : ([(ll.getD ((i + ((by_ % ((ll.length : Nat) : Int)).toNat)) % ll.length) 0)] : List Int).length = 1 := rfl
  have nq_tr_b22 : ∀ x, bo_tr = some x → ¬ x = b22 := fun x hx e => by have := a16.lts x hx; omega
  have g_oW_b22 : W.heap.size ≤ b22 := Nat.le_trans oW.size g24
  have g_o17_b22 : w11.heap.size ≤ b22 := Nat.le_trans o17.size g24
  replace h1 := h1.new o26 g24
  replace h2 := h2.new o26 g24
  replace a16 := a16.step0 o26
  replace oW := oW.tail0 o26
  replace o17 := o17.tail0 o26
  refine wO (d_append Try.underlying29 Try.underlying29 s_ti3 rfl rfl rfl a16 (SrcV.of_seq (arr_seq a25 l_b22 (Nat.le_refl _)) (fun _ => rfl)) (by have := rotL_len ll ((by_ % ((ll.length : Nat) : Int)).toNat) i; simp only [List.length_singleton]; omega) (by have := rotL_len ll ((by_ % ((ll.length : Nat) : Int)).toNat) i; simp only [List.length_singleton]; omega) rfl) ?_
  rintro u27 w28 ⟨bo29, a30, o31, q32⟩
  replace a30 : Ow 3 1 bo29 u27 ((rotL ll ((by_ % ((ll.length : Nat) : Int)).toNat) i) ++ ([(ll.getD ((i + ((by_ % ((ll.length : Nat) : Int)).toNat)) % ll.length) 0)] : List Int)).length (((rotL ll ((by_ % ((ll.length : Nat) : Int)).toNat) i) ++ ([(ll.getD ((i + ((by_ % ((ll.length : Nat) : Int)).toNat)) % ll.length) 0)] : List Int)).map eI) w28 := by rw [List.length_append, List.map_append]; exact a30
  replace h1 := h1.gr o31 (fun k e => (.inr (.inl e))) (xx_or1 (xx_re (Fr.of_or q32) xx_id))
  replace h2 := h2.gr o31 (fun k e => (.inr (.inl e))) (xx_or1 (xx_re (Fr.of_or q32) xx_id))
  have nq2 := nqs nq_tr_b22 (Fr.of_or q32) a25.lt
  replace a25 := a25.step o31 (fun e => nq_tr_b22 _ e rfl)
  replace nq_tr_b22 := nq2
  clear nq2
  have tq := oW.size
  replace oW := oW.tailr o31 q_oW_tr (fun _ e => by cases e)
  replace q_oW_tr := qtr (Fr.of_or q32) q_oW_tr tq
  clear tq
  have tq := o17.size
  replace o17 := o17.tailr o31 q_o17_tr (fun k e => (.inl e))
  replace q_o17_tr := qtr (Fr.of_or q32) q_o17_tr tq
  clear tq
  refine wF ([u1, u2, (eI by_), (zf15 3), (zf15 4), (zf15 5), (zf15 6), u_tr, (eN i)] ++ (zs zf15 9 10 ++ [(Value.bool false), (eN i), u2, (eN ll.length), (Value.bool (decide (i < ll.length))), (z 24), (z 25), u_tr, u2, (eN i), (eI by_), u2, (eN ll.length), (eN ((by_ % ((ll.length : Nat) : Int)).toNat)), (eN (i + ((by_ % ((ll.length : Nat) : Int)).toNat))), u2, (eN ll.length), (eN ((i + ((by_ % ((ll.length : Nat) : Int)).toNat)) % ll.length)), (ixp u2 ((i + ((by_ % ((ll.length : Nat) : Int)).toNat)) % ll.length)), (eI (ll.getD ((i + ((by_ % ((ll.length : Nat) : Int)).toNat)) % ll.length) 0)), (sli b22 0 1 1), u27] ++ (zs zf15 41 10 ++ (us 31)))) ?_
  refine wI (d_assign rfl) ?_
  refine wF ([u1, u2, (eI by_), (zf15 3), (zf15 4), (zf15 5), (zf15 6), u27, (eN i)] ++ (zs zf15 9 10 ++ [(Value.bool false), (eN i), u2, (eN ll.length), (Value.bool (decide (i < ll.length))), (z 24), (z 25), u_tr, u2, (eN i), (eI by_), u2, (eN ll.length), (eN ((by_ % ((ll.length : Nat) : Int)).toNat)), (eN (i + ((by_ % ((ll.length : Nat) : Int)).toNat))), u2, (eN ll.length), (eN ((i + ((by_ % ((ll.length : Nat) : Int)).toNat)) % ll.length)), (ixp u2 ((i + ((by_ % ((ll.length : Nat) : Int)).toNat)) % ll.length)), (eI (ll.getD ((i + ((by_ % ((ll.length : Nat) : Int)).toNat)) % ll.length) 0)), (sli b22 0 1 1), u27] ++ (zs zf15 41 10 ++ (us 31)))) ?_
  refine wpL.done ?_
  refine inb_n (then_n ?_)
  refine forget (fun zf33 => ([u1, u2, (eI by_), (zf15 3), (zf15 4), (zf15 5), (zf15 6), u27, (eN i)] ++ (zs zf15 9 10 ++ [(Value.bool false)] ++ (zs zf33 20 21 ++ (zs zf15 41 10 ++ (us 31)))))) (by kernel_rfl) (fun zf33 => ?_)
  refine plain ?_
  refine wI (d_move rfl) ?_
  refine wI (n_add (a := i) (b := 1) rfl rfl (by omega)) ?_
  refine wI (d_assign rfl) ?_
  refine wF ([u1, u2, (eI by_), (zf15 3), (zf15 4), (zf15 5), (zf15 6), u27, (eN (i + 1))] ++ (zs zf15 9 10 ++ [(Value.bool false), (zf33 20), (zf33 21), (zf33 22), (zf33 23), (eN i), (eN (i + 1))] ++ (zs zf33 26 15 ++ (zs zf15 41 10 ++ (us 31))))) ?_
  refine wpL.done ?_
  refine then_n ?_
  refine ⟨_, ⟨i + 1, bo29, u27⟩, rfl, rfl, ⟨?_, ?_, ?_, ?_⟩, ?_⟩
  ·
   (try dsimp only)
   all_goals (omega)
  ·
   exact o17
  ·
   (try dsimp only)
   all_goals (rw [← rotL_next]; exact a30)
  ·
   exact q_o17_tr
  ·
   (try dsimp only)
   all_goals (omega)
 refine wpIn_exit ?_
 refine then_x (then_x (inb_e ?_))
 refine then_n ?_
 refine wpIn_seq ?_
 refine plain ?_
 refine wI (d_move rfl) ?_
 refine wI (d_lenS rfl Try.underlying28 rfl h1) ?_
 refine wI (n_mul (a := 8) (b := lb.length) rfl rfl (by omega)) ?_
 refine wF ([u1, u2, (eI by_), (zf15 3), (zf15 4), (zf15 5), (zf15 6), u_tr, (eN i)] ++ (zs zf15 9 10 ++ [(Value.bool false), (eN i), u2, (eN ll.length), (Value.bool (decide (i < ll.length)))] ++ (zs z 24 17 ++ [u1, (eN lb.length), (eN (8 * lb.length))] ++ (zs zf15 44 7 ++ (us 31))))) ?_
 refine wI (d_move rfl) ?_
 refine wI (d_lenS rfl Try.underlying28 rfl h1) ?_
 refine wI (n_mul (a := 8) (b := lb.length) rfl rfl (by omega)) ?_
 refine wF ([u1, u2, (eI by_), (zf15 3), (zf15 4), (zf15 5), (zf15 6), u_tr, (eN i)] ++ (zs zf15 9 10 ++ [(Value.bool false), (eN i), u2, (eN ll.length), (Value.bool (decide (i < ll.length)))] ++ (zs z 24 17 ++ [u1, (eN lb.length), (eN (8 * lb.length)), u1, (eN lb.length), (eN (8 * lb.length)), (zf15 47), (zf15 48), (zf15 49), (zf15 50)] ++ (us 31)))) ?_
 refine wI (d_move rfl) ?_
 refine wO (d_call (xl := [.tmp 47, .const (.int .i64 99)]) (al := [(eI by_), (eN 99)]) Try.func21 (by kernel_rfl) rfl rfl rfl (law6Within_ok by_ 99 _ (by omega) (by omega))) ?_
 rintro _ w34 ⟨rfl, o35⟩
 replace h1 := h1.step0 o35
 replace h2 := h2.step0 o35
 replace a16 := a16.step0 o35
 replace oW := oW.tail0 o35
 replace o17 := o17.tail0 o35
 refine wI (n_add (a := (8 * lb.length)) (b := ((by_ % ((99 : Nat) : Int)).toNat)) rfl rfl (by omega)) ?_
 refine wF ([u1, u2, (eI by_), (zf15 3), (zf15 4), (zf15 5), (zf15 6), u_tr, (eN i)] ++ (zs zf15 9 10 ++ [(Value.bool false), (eN i), u2, (eN ll.length), (Value.bool (decide (i < ll.length)))] ++ (zs z 24 17 ++ [u1, (eN lb.length), (eN (8 * lb.length)), u1, (eN lb.length), (eN (8 * lb.length)), (eI by_), (eN ((by_ % ((99 : Nat) : Int)).toNat)), (eN (8 * lb.length + ((by_ % ((99 : Nat) : Int)).toNat))), (zf15 50)] ++ (us 31)))) ?_
 refine wO (d_buildL (cs := [(eI (-1)), (eN (8 * lb.length)), (eN (8 * lb.length + ((by_ % ((99 : Nat) : Int)).toNat))), (eN 9223372036854775807), (eI (-9223372036854775808))]) Try.underlying29 s_ti3 rfl (nb rfl) (parts_cons (vs := [(eI (-1))]) (cells_of (v := (eI (-1))) rfl rfl) (parts_cons (vs := [(eN (8 * lb.length))]) (cells_of (v := (eN (8 * lb.length))) rfl rfl) (parts_cons (vs := [(eN (8 * lb.length + ((by_ % ((99 : Nat) : Int)).toNat)))]) (cells_of (v := (eN (8 * lb.length + ((by_ % ((99 : Nat) : Int)).toNat)))) rfl rfl) (parts_cons (vs := [(eN 9223372036854775807)]) (cells_of (v := (eN 9223372036854775807)) rfl rfl) (parts_cons (vs := [(eI (-9223372036854775808))]) (cells_of (v := (eI (-9223372036854775808))) rfl rfl) parts_nil))))) rfl) ?_
 rintro _ w37 ⟨b36, rfl, g38, a39, o40⟩
 replace a39 : Arr 3 b36 (([(-1), ((8 * lb.length : Nat) : Int), ((8 * lb.length + ((by_ % ((99 : Nat) : Int)).toNat) : Nat) : Int), 9223372036854775807, (-9223372036854775808)] : List Int).map eI) w37 := a39
 have l_b36 : ([(-1), ((8 * lb.length : Nat) : Int), ((8 * lb.length + ((by_ % ((99 : Nat) : Int)).toNat) : Nat) : Int), 9223372036854775807, (-9223372036854775808)] : List Int).length = 5 := rfl
 have nq_tr_b36 : ∀ x, bo_tr = some x → ¬ x = b36 := fun x hx e => by have := a16.lts x hx; omega
 have g_oW_b36 : W.heap.size ≤ b36 := Nat.le_trans oW.size g38
 have g_o17_b36 : w11.heap.size ≤ b36 := Nat.le_trans o17.size g38
 replace h1 := h1.new o40 g38
 replace h2 := h2.new o40 g38
 replace a16 := a16.step0 o40
 replace oW := oW.tail0 o40
 replace o17 := o17.tail0 o40
 refine wI (d_assign rfl) ?_
 refine wF ([u1, u2, (eI by_), (zf15 3), (zf15 4), (zf15 5), (zf15 6), u_tr, (eN i), (sli b36 0 5 5)] ++ (zs zf15 10 9 ++ [(Value.bool false), (eN i), u2, (eN ll.length), (Value.bool (decide (i < ll.length)))] ++ (zs z 24 17 ++ [u1, (eN lb.length), (eN (8 * lb.length)), u1, (eN lb.length), (eN (8 * lb.length)), (eI by_), (eN ((by_ % ((99 : Nat) : Int)).toNat)), (eN (8 * lb.length + ((by_ % ((99 : Nat) : Int)).toNat))), (sli b36 0 5 5)] ++ (us 31)))) ?_
 refine wpL.done ?_
 refine then_n ?_
 refine forget (fun zf41 => ([u1, u2] ++ (zs zf41 2 5 ++ [u_tr, (eN i), (sli b36 0 5 5)] ++ (zs zf41 10 41 ++ (us 31))))) (by kernel_rfl) (fun zf41 => ?_)
 refine wpIn_seq ?_
 refine drawnG (O := (Or1 b36 (Orq bo_tr No))) (n := 32) 8 [0, 0, 3, 7, 0, 0, 55, 119, 255, 511, 1023, 1023, 1023, 7167, 1023, 31743, 65535, 131071, 1023, 263167, 1048575, 2097151, 4194303, 8388607, 8388607, 33554431, 67108863, 8388607, 142606335, 536870911, 1073741823, 2147483647] [(0, 51), (1, 52), (2, 53), (3, 54), (4, 55), (5, 56), (6, 57), (7, 58), (8, 59), (9, 60), (10, 61), (11, 62), (12, 63), (13, 64), (14, 65), (15, 66), (16, 67), (17, 68), (18, 69), (19, 70), (20, 71), (21, 72), (22, 73), (23, 74), (24, 75), (25, 76), (26, 77), (27, 78), (28, 79), (29, 80), (30, 81), (31, 6)] [(0, 51), (1, 52), (2, 53), (3, 54), (4, 55), (5, 56), (6, 57), (7, 58)] [0, 1, 2, 3, 4, 5, 6, 7] [] (fun i_ => ([RF.is (Or1 b36 (Orq bo_tr No)) u1, RF.is (Or1 b36 (Orq bo_tr No)) u_tr, RF.ps (Or1 b36 (Orq bo_tr No)) (Or1 b36 (Orq bo_tr (Old W.heap.size))) (Seq kB (flipI lb (rotL ll ((by_ % ((ll.length : Nat) : Int)).toNat) i))) (or1_mono (orq_mono no_any)), RF.is (Or1 b36 (Orq bo_tr No)) (Value.string (strOf (flipI lb (rotL ll ((by_ % ((ll.length : Nat) : Int)).toNat) i)))), RF.is (Or1 b36 (Orq bo_tr No)) u1, RF.is (Or1 b36 (Orq bo_tr No)) u2, RF.ps (Or1 b36 (Orq bo_tr No)) (Or1 b36 (Orq bo_tr (Old W.heap.size))) (Seq kB (flipI lb ll)) (or1_mono (orq_mono no_any)), RF.is (Or1 b36 (Orq bo_tr No)) (Value.string (strOf (flipI lb ll)))] : List (RF (Or1 b36 (Orq bo_tr No)))).getD i_ (RF.any (Or1 b36 (Orq bo_tr No)))) (fun _ w_ => Arr 3 b36 (([(-1), ((8 * lb.length : Nat) : Int), ((8 * lb.length + ((by_ % ((99 : Nat) : Int)).toNat) : Nat) : Int), 9223372036854775807, (-9223372036854775808)] : List Int).map eI) w_ ∧ Ow 3 1 bo_tr u_tr (rotL ll ((by_ % ((ll.length : Nat) : Int)).toNat) i).length ((rotL ll ((by_ % ((ll.length : Nat) : Int)).toNat) i).map eI) w_) (fun v42 => ([u1, u2, (zf41 2), (zf41 3), (zf41 4), (zf41 5), (v42 31), u_tr, (eN i), (sli b36 0 5 5)] ++ (zs zf41 10 41 ++ [(v42 0), (v42 1), (v42 2), (v42 3), (v42 4), (v42 5), (v42 6), (v42 7), (v42 8), (v42 9), (v42 10), (v42 11), (v42 12), (v42 13), (v42 14), (v42 15), (v42 16), (v42 17), (v42 18), (v42 19), (v42 20), (v42 21), (v42 22), (v42 23), (v42 24), (v42 25), (v42 26), (v42 27), (v42 28), (v42 29), (v42 30)]))) (fun v42 => ([u1, u2] ++ (zs zf41 2 5 ++ [u_tr, (eN i), (sli b36 0 5 5)] ++ (zs zf41 10 41 ++ [(v42 0), (v42 1), (v42 2), (v42 3), (v42 4), (v42 5), (v42 6), (v42 7)] ++ (us 23))))) s_mx (by kernel_rfl) rfl (by decide) (by rfl) (by kernel_rfl) (by kernel_rfl) (by kernel_rfl) (by rfl) (fun v_ => by kernel_rfl) (fun v_ => by kernel_rfl) (fun _ => fun w_ w2_ h ho => by obtain ⟨r_a39, r_a16⟩ := h; exact ⟨r_a39.step0 ho, r_a16.step0 ho⟩) ⟨a39, a16⟩ ?_ ?_ ?_
 ·
  refine ls_cons ?_ ?_
  ·
   intro v42 lo hi w_ k_ hO hd _ _ hk_ _ hR hold
   obtain ⟨r_a39, r_a16⟩ := hR
   clear hd hold
   refine ⟨_, rfl, gd rfl ?_⟩
   exact Does.is (d_move rfl)
  refine ls_cons ?_ ?_
  ·
   intro v42 lo hi w_ k_ hO hd _ _ hk_ _ hR hold
   obtain ⟨r_a39, r_a16⟩ := hR
   clear hd hold
   refine ⟨_, rfl, gd rfl ?_⟩
   exact Does.is (d_move rfl)
  refine ls_cons ?_ ?_
  ·
   intro v42 lo hi w_ k_ hO hd _ _ hk_ _ hR hold
   obtain ⟨r_a39, r_a16⟩ := hR
   have e0 : v42 0 = u1 := hd 0 (by kernel_rfl)
   have e1 : v42 1 = u_tr := hd 1 (by kernel_rfl)
   clear hd hold
   refine ⟨_, rfl, gd rfl ?_⟩
   refine Does.mono (R := ROw 5 eB (flipI lb (rotL ll ((by_ % ((ll.length : Nat) : Int)).toNat) i)) w_) ?_ (fun u w' h => ⟨(h.ps).1.less (or1_old r_a39.lt (orq_old r_a16.lts (old_old (Nat.le_trans oW.size hO.size)))), (h.ps).2⟩)
   exact d_call (xl := [.tmp 51, .tmp 52]) (al := [u1, u_tr]) Try.func20 (by kernel_rfl) rfl (show ([(v42 0), (v42 1)] : List Value) = [u1, u_tr] from by rw [e0, e1]) rfl (bitsFlip_ok lb (rotL ll ((by_ % ((ll.length : Nat) : Int)).toNat) i) u1 u_tr _ (Ps.no (h1.step hO (or1_mono (orq_mono no_any)))) (Ps.no (r_a16.seq (X := No) (fun _ _ h => h))) (by first | omega | (simp; done) | (simp; omega)) (by have := rotL_len ll ((by_ % ((ll.length : Nat) : Int)).toNat) i; first | omega | (simp; done) | (simp; omega)))
  refine ls_cons ?_ ?_
  ·
   intro v42 lo hi w_ k_ hO hd _ _ hk_ _ hR hold
   obtain ⟨r_a39, r_a16⟩ := hR
   have d2 : Ps (Or1 b36 (Orq bo_tr (Old W.heap.size))) (Seq kB (flipI lb (rotL ll ((by_ % ((ll.length : Nat) : Int)).toNat) i)) (v42 2)) w_ := hd 2 (by kernel_rfl)
   clear hd hold
   refine ⟨_, rfl, gd rfl ?_⟩
   exact Does.is (d_str Try.underlying28 Try.underlying5 Try.underlying9 rfl d2)
  refine ls_cons ?_ ?_
  ·
   intro v42 lo hi w_ k_ hO hd _ _ hk_ _ hR hold
   obtain ⟨r_a39, r_a16⟩ := hR
   clear hd hold
   refine ⟨_, rfl, gd rfl ?_⟩
   exact Does.is (d_move rfl)
  refine ls_cons ?_ ?_
  ·
   intro v42 lo hi w_ k_ hO hd _ _ hk_ _ hR hold
   obtain ⟨r_a39, r_a16⟩ := hR
   clear hd hold
   refine ⟨_, rfl, gd rfl ?_⟩
   exact Does.is (d_move rfl)
  refine ls_cons ?_ ?_
  ·
   intro v42 lo hi w_ k_ hO hd _ _ hk_ _ hR hold
   obtain ⟨r_a39, r_a16⟩ := hR
   have e4 : v42 4 = u1 := hd 4 (by kernel_rfl)
   have e5 : v42 5 = u2 := hd 5 (by kernel_rfl)
   clear hd hold
   refine ⟨_, rfl, gd rfl ?_⟩
   refine Does.mono (R := ROw 5 eB (flipI lb ll) w_) ?_ (fun u w' h => ⟨(h.ps).1.less (or1_old r_a39.lt (orq_old r_a16.lts (old_old (Nat.le_trans oW.size hO.size)))), (h.ps).2⟩)
   exact d_call (xl := [.tmp 55, .tmp 56]) (al := [u1, u2]) Try.func20 (by kernel_rfl) rfl (show ([(v42 4), (v42 5)] : List Value) = [u1, u2] from by rw [e4, e5]) rfl (bitsFlip_ok lb ll u1 u2 _ (Ps.no (h1.step hO (or1_mono (orq_mono no_any)))) (Ps.no (h2.step hO (or1_mono (orq_mono no_any)))) (by first | omega | (simp; done) | (simp; omega)) (by first | omega | (simp; done) | (simp; omega)))
  refine ls_cons ?_ ?_
  ·
   intro v42 lo hi w_ k_ hO hd _ _ hk_ _ hR hold
   obtain ⟨r_a39, r_a16⟩ := hR
   have d6 : Ps (Or1 b36 (Orq bo_tr (Old W.heap.size))) (Seq kB (flipI lb ll) (v42 6)) w_ := hd 6 (by kernel_rfl)
   clear hd hold
   refine ⟨_, rfl, gd rfl ?_⟩
   exact Does.is (d_str Try.underlying28 Try.underlying5 Try.underlying9 rfl d6)
  exact ls_nil
 ·
  exact ms_nil
 intro v42 lo_ hi_ w43 o44 hd hR
 have e0 : v42 0 = u1 := hd 0 (by decide)
 have e1 : v42 1 = u_tr := hd 1 (by decide)
 have e3 : v42 3 = (Value.string (strOf (flipI lb (rotL ll ((by_ % ((ll.length : Nat) : Int)).toNat) i)))) := hd 3 (by decide)
 have e4 : v42 4 = u1 := hd 4 (by decide)
 have e5 : v42 5 = u2 := hd 5 (by decide)
 have e7 : v42 7 = (Value.string (strOf (flipI lb ll))) := hd 7 (by decide)
 have f_v42_2 : Ps (Or1 b36 (Orq bo_tr (Old W.heap.size))) (Seq kB (flipI lb (rotL ll ((by_ % ((ll.length : Nat) : Int)).toNat) i)) (v42 2)) w43 := hd 2 (by decide)
 have f_v42_6 : Ps (Or1 b36 (Orq bo_tr (Old W.heap.size))) (Seq kB (flipI lb ll) (v42 6)) w43 := hd 6 (by decide)
 clear hd lo_ hi_
 refine rest_eq (l' := ([u1, u2] ++ (zs zf41 2 5 ++ [u_tr, (eN i), (sli b36 0 5 5)] ++ (zs zf41 10 41 ++ [u1, u_tr, (v42 2), (Value.string (strOf (flipI lb (rotL ll ((by_ % ((ll.length : Nat) : Int)).toNat) i)))), u1, u2, (v42 6), (Value.string (strOf (flipI lb ll)))] ++ (us 23))))) (by rw [e0, e1, e3, e4, e5, e7] <;> rfl) ?_
 clear e0 e1 e3 e4 e5 e7
 replace h1 := h1.step o44 (or1_mono (orq_mono no_any))
 replace h2 := h2.step o44 (or1_mono (orq_mono no_any))
 obtain ⟨xr_a39, xr_a16⟩ := hR
 replace a39 : Arr 3 b36 (([(-1), ((8 * lb.length : Nat) : Int), ((8 * lb.length + ((by_ % ((99 : Nat) : Int)).toNat) : Nat) : Int), 9223372036854775807, (-9223372036854775808)] : List Int).map eI) w43 := xr_a39
 replace a16 : Ow 3 1 bo_tr u_tr (rotL ll ((by_ % ((ll.length : Nat) : Int)).toNat) i).length ((rotL ll ((by_ % ((ll.length : Nat) : Int)).toNat) i).map eI) w43 := xr_a16
 clear xr_a39 xr_a16
 replace oW := oW.tail o44 (tl_new g_oW_b36 (tl_q q_oW_tr (fun _ e => by cases e) tl_no))
 replace o17 := o17.tail o44 (tl_new g_o17_b36 (tl_q q_o17_tr (fun k e => (.inl e)) tl_no))
 refine rest_seg (n := 32) (p := 8) (q := 10) [] [8, 9] [] [(0, 51), (1, 52), (2, 53), (3, 54), (4, 55), (5, 56), (6, 57), (7, 58), (8, 59), (9, 60), (10, 61), (11, 62), (12, 63), (13, 64), (14, 65), (15, 66), (16, 67), (17, 68), (18, 69), (19, 70), (20, 71), (21, 72), (22, 73), (23, 74), (24, 75), (25, 76), (26, 77), (27, 78), (28, 79), (29, 80), (30, 81), (31, 6)] [0, 0, 3, 7, 0, 0, 55, 119, 255, 511, 1023, 1023, 1023, 7167, 1023, 31743, 65535, 131071, 1023, 263167, 1048575, 2097151, 4194303, 8388607, 8388607, 33554431, 67108863, 8388607, 142606335, 536870911, 1073741823, 2147483647] (fun i_ => nth [] i_) ([u1, u2] ++ (zs zf41 2 5 ++ [u_tr, (eN i), (sli b36 0 5 5)] ++ (zs zf41 10 41 ++ [u1, u_tr, (v42 2), (Value.string (strOf (flipI lb (rotL ll ((by_ % ((ll.length : Nat) : Int)).toNat) i)))), u1, u2, (v42 6), (Value.string (strOf (flipI lb ll)))] ++ (us 23)))) (fun w_ => Ps (Or1 b36 (Orq bo_tr No)) (Seq kB lb u1) w_ ∧ Ps (Or1 b36 (Orq bo_tr No)) (Seq kI ll u2) w_ ∧ Ps (Or1 b36 (Orq bo_tr (Old W.heap.size))) (Seq kB (flipI lb (rotL ll ((by_ % ((ll.length : Nat) : Int)).toNat) i)) (v42 2)) w_ ∧ Ps (Or1 b36 (Orq bo_tr (Old W.heap.size))) (Seq kB (flipI lb ll) (v42 6)) w_ ∧ True) (by kernel_rfl) rfl (by decide) (by kernel_rfl) (by kernel_rfl) (by rfl) (by kernel_rfl) (by kernel_rfl) (by kernel_rfl) (by kernel_rfl) (by kernel_rfl) (by decide) ?_ ?_
 ·
  rintro w_ ⟨h1, h2, f_v42_2, f_v42_6, _⟩
  exact fl_nil
 refine wJ.is ⟨h1, h2, f_v42_2, f_v42_6, trivial⟩ rfl rfl (d_seql (a := (flipI lb (rotL ll ((by_ % ((ll.length : Nat) : Int)).toNat) i))) (c := (flipI lb ll)) rfl rfl (decide_eq_true (rot_flip lb ll ((by_ % ((ll.length : Nat) : Int)).toNat) (by omega)))) ?_
 refine wJ.flat ([u1, u2] ++ (zs zf41 2 5 ++ [u_tr, (eN i), (sli b36 0 5 5)] ++ (zs zf41 10 41 ++ [u1, u_tr, (v42 2), (Value.string (strOf (flipI lb (rotL ll ((by_ % ((ll.length : Nat) : Int)).toNat) i)))), u1, u2, (v42 6), (Value.string (strOf (flipI lb ll))), (Value.bool true)] ++ (us 22)))) (by kernel_rfl) ?_
 refine wJ.is ⟨h1, h2, f_v42_2, f_v42_6, trivial⟩ rfl rfl (d_move rfl) ?_
 refine wJ.flat ([u1, u2] ++ (zs zf41 2 5 ++ [u_tr, (eN i), (sli b36 0 5 5)] ++ (zs zf41 10 41 ++ [u1, u_tr, (v42 2), (Value.string (strOf (flipI lb (rotL ll ((by_ % ((ll.length : Nat) : Int)).toNat) i)))), u1, u2, (v42 6), (Value.string (strOf (flipI lb ll))), (Value.bool true), (Value.bool true)] ++ (us 21)))) (by kernel_rfl) ?_
 refine wJ.done ⟨h1, h2, f_v42_2, f_v42_6, trivial⟩ ?_
 refine rest_seg (n := 32) (p := 10) (q := 23) [10, 12, 14, 18, 19] [11, 13, 15, 16, 17, 20, 21, 22] [(10, 61), (12, 63), (14, 65), (18, 69), (19, 70)] [(0, 51), (1, 52), (2, 53), (3, 54), (4, 55), (5, 56), (6, 57), (7, 58), (8, 59), (9, 60), (10, 61), (11, 62), (12, 63), (13, 64), (14, 65), (15, 66), (16, 67), (17, 68), (18, 69), (19, 70), (20, 71), (21, 72), (22, 73), (23, 74), (24, 75), (25, 76), (26, 77), (27, 78), (28, 79), (29, 80), (30, 81), (31, 6)] [0, 0, 3, 7, 0, 0, 55, 119, 255, 511, 1023, 1023, 1023, 7167, 1023, 31743, 65535, 131071, 1023, 263167, 1048575, 2097151, 4194303, 8388607, 8388607, 33554431, 67108863, 8388607, 142606335, 536870911, 1073741823, 2147483647] (fun i_ => nth [undef, undef, undef, undef, undef, undef, undef, undef, undef, undef, u1, undef, u2, undef, u2, undef, undef, undef, u1, (Value.string (strOf lb))] i_) ([u1, u2] ++ (zs zf41 2 5 ++ [u_tr, (eN i), (sli b36 0 5 5)] ++ (zs zf41 10 41 ++ [u1, u_tr, (v42 2), (Value.string (strOf (flipI lb (rotL ll ((by_ % ((ll.length : Nat) : Int)).toNat) i)))), u1, u2, (v42 6), (Value.string (strOf (flipI lb ll))), (Value.bool true), (Value.bool true), u1, undef, u2, undef, u2, undef, undef, undef, u1, (Value.string (strOf lb))] ++ (us 11)))) (fun w_ => Ps (Or1 b36 (Orq bo_tr No)) (Seq kB lb u1) w_ ∧ Ps (Or1 b36 (Orq bo_tr No)) (Seq kI ll u2) w_ ∧ Ps (Or1 b36 (Orq bo_tr (Old W.heap.size))) (Seq kB (flipI lb (rotL ll ((by_ % ((ll.length : Nat) : Int)).toNat) i)) (v42 2)) w_ ∧ Ps (Or1 b36 (Orq bo_tr (Old W.heap.size))) (Seq kB (flipI lb ll) (v42 6)) w_ ∧ True) (by kernel_rfl) rfl (by decide) (by kernel_rfl) (by kernel_rfl) (by rfl) (by kernel_rfl) (by kernel_rfl) (by kernel_rfl) (by kernel_rfl) (by kernel_rfl) (by decide) ?_ ?_
 ·
  rintro w_ ⟨h1, h2, f_v42_2, f_v42_6, _⟩
  refine fl_cons ⟨_, rfl, gd_on rfl rfl rfl (nb rfl) rfl (d_move rfl)⟩ ?_
  refine fl_cons ⟨_, rfl, gd_on rfl rfl rfl (nb rfl) rfl (d_move rfl)⟩ ?_
  refine fl_cons ⟨_, rfl, gd_on rfl rfl rfl (nb rfl) rfl (d_move rfl)⟩ ?_
  refine fl_cons ⟨_, rfl, gd_on rfl rfl rfl (nb rfl) rfl (d_move rfl)⟩ ?_
  refine fl_cons ⟨_, rfl, gd_on rfl rfl rfl (nb rfl) rfl (d_str Try.underlying28 Try.underlying5 Try.underlying9 rfl h1)⟩ ?_
  exact fl_nil
 refine wJ.on ⟨h1, h2, f_v42_2, f_v42_6, trivial⟩ rfl rfl rfl rfl (nb rfl) rfl (d_buildL (cs := []) Try.underlying29 s_ti3 rfl (nb rfl) parts_nil rfl) ?_
 rintro _ w46 ⟨b45, rfl, g47, a48, o49⟩
 replace a48 : Arr 3 b45 (([] : List Int).map eI) w46 := a48
 have l_b45 : ([] : List Int).length = 0 := rfl
 have n_b36_b45 : b36 ≠ b45 := a39.ne g47
 have nq_tr_b45 : ∀ x, bo_tr = some x → ¬ x = b45 := fun x hx e => by have := a16.lts x hx; omega
 have g_oW_b45 : W.heap.size ≤ b45 := Nat.le_trans oW.size g47
 have g_o17_b45 : w11.heap.size ≤ b45 := Nat.le_trans o17.size g47
 replace h1 := h1.new o49 g47
 replace h2 := h2.new o49 g47
 replace f_v42_2 := f_v42_2.new o49 g47
 replace f_v42_6 := f_v42_6.new o49 g47
 replace a39 := a39.step0 o49
 replace a16 := a16.step0 o49
 replace oW := oW.tail0 o49
 replace o17 := o17.tail0 o49
 refine wJ.flat ([u1, u2] ++ (zs zf41 2 5 ++ [u_tr, (eN i), (sli b36 0 5 5)] ++ (zs zf41 10 41 ++ [u1, u_tr, (v42 2), (Value.string (strOf (flipI lb (rotL ll ((by_ % ((ll.length : Nat) : Int)).toNat) i)))), u1, u2, (v42 6), (Value.string (strOf (flipI lb ll))), (Value.bool true), (Value.bool true), u1, (sli b45 0 0 0), u2, undef, u2, undef, undef, undef, u1, (Value.string (strOf lb))] ++ (us 11)))) (by kernel_rfl) ?_
 have a50 := Ow.of_map2 a48 l_b45
 have nq_r1_b36 := nq_b (Ne.symm n_b36_b45)
 have nqq_tr_r1 := nqq_b1 nq_tr_b45
 have q_oW_r1 : Fr (some b45) none W.heap.size := Fr.new g_oW_b45
 have q_o17_r1 : Fr (some b45) none w11.heap.size := Fr.new g_o17_b45
 replace h1 := h1.less (Y := (Orq (some b45) (Or1 b36 (Orq bo_tr No)))) (xx_br (xx_or1 (xx_orq xx_id)))
 replace h2 := h2.less (Y := (Orq (some b45) (Or1 b36 (Orq bo_tr No)))) (xx_br (xx_or1 (xx_orq xx_id)))
 replace f_v42_2 := f_v42_2.less (Y := (Orq (some b45) (Or1 b36 (Orq bo_tr (Old W.heap.size))))) (xx_br (xx_or1 (xx_orq xx_id)))
 replace f_v42_6 := f_v42_6.less (Y := (Orq (some b45) (Or1 b36 (Orq bo_tr (Old W.heap.size))))) (xx_br (xx_or1 (xx_orq xx_id)))
 refine wJ.on ⟨h1.less (xx_skip (xx_or1 (xx_orq xx_id))), h2.less (xx_skip (xx_or1 (xx_orq xx_id))), f_v42_2.less (xx_skip (xx_or1 (xx_orq xx_id))), f_v42_6.less (xx_skip (xx_or1 (xx_orq xx_id))), trivial⟩ rfl rfl rfl rfl (nb rfl) rfl (d_append Try.underlying29 Try.underlying29 s_ti3 rfl rfl rfl a50 (SrcV.of_seq h2 (fun _ => rfl)) (by simp; omega) (by simp; omega) rfl) ?_
 rintro u51 w52 ⟨bo53, a54, o55, q56⟩
 replace a54 : Ow 3 1 bo53 u51 (ll).length ((ll).map eI) w52 := by simpa using a54
 replace h1 := h1.gr o55 (fun k e => (.inl e)) (xx_re (Fr.of_or q56) (xx_or1 (xx_orq xx_id)))
 replace h2 := h2.gr o55 (fun k e => (.inl e)) (xx_re (Fr.of_or q56) (xx_or1 (xx_orq xx_id)))
 replace f_v42_2 := f_v42_2.gr o55 (fun k e => (.inl e)) (xx_re (Fr.of_or q56) (xx_or1 (xx_orq xx_id)))
 replace f_v42_6 := f_v42_6.gr o55 (fun k e => (.inl e)) (xx_re (Fr.of_or q56) (xx_or1 (xx_orq xx_id)))
 have nq2 := nqs nq_r1_b36 (Fr.of_or q56) a39.lt
 replace a39 := a39.step o55 (fun e => nq_r1_b36 _ e rfl)
 replace nq_r1_b36 := nq2
 clear nq2
 have lt2 := a16.lts
 replace a16 := a16.step o55 (fun x hx e => nqq_tr_r1 x hx e)
 replace nqq_tr_r1 := nqq_step nqq_tr_r1 (Fr.of_or q56) lt2
 clear lt2
 have tq := oW.size
 replace oW := oW.tailr o55 q_oW_r1 (fun _ e => by cases e)
 replace q_oW_r1 := qtr (Fr.of_or q56) q_oW_r1 tq
 clear tq
 have tq := o17.size
 replace o17 := o17.tailr o55 q_o17_r1 (fun _ e => by cases e)
 replace q_o17_r1 := qtr (Fr.of_or q56) q_o17_r1 tq
 clear tq
 refine wJ.flat ([u1, u2] ++ (zs zf41 2 5 ++ [u_tr, (eN i), (sli b36 0 5 5)] ++ (zs zf41 10 41 ++ [u1, u_tr, (v42 2), (Value.string (strOf (flipI lb (rotL ll ((by_ % ((ll.length : Nat) : Int)).toNat) i)))), u1, u2, (v42 6), (Value.string (strOf (flipI lb ll))), (Value.bool true), (Value.bool true), u1, (sli b45 0 0 0), u2, u51, u2, undef, undef, undef, u1, (Value.string (strOf lb))] ++ (us 11)))) (by kernel_rfl) ?_
 refine wJ.on ⟨h1.less (xx_skip (xx_or1 (xx_orq xx_id))), h2.less (xx_skip (xx_or1 (xx_orq xx_id))), f_v42_2.less (xx_skip (xx_or1 (xx_orq xx_id))), f_v42_6.less (xx_skip (xx_or1 (xx_orq xx_id))), trivial⟩ rfl rfl rfl rfl (nb rfl) rfl (d_append Try.underlying29 Try.underlying29 s_ti3 rfl rfl rfl a54 (SrcV.of_seq h2 (fun _ => rfl)) (by omega) (by omega) rfl) ?_
 rintro u57 w58 ⟨bo59, a60, o61, q62⟩
 replace a60 : Ow 3 1 bo59 u57 (ll ++ ll).length ((ll ++ ll).map eI) w58 := by rw [List.length_append, List.map_append]; exact a60
 replace h1 := h1.gr o61 (fun k e => (.inl e)) (xx_re (Fr.of_or q62) (xx_or1 (xx_orq xx_id)))
 replace h2 := h2.gr o61 (fun k e => (.inl e)) (xx_re (Fr.of_or q62) (xx_or1 (xx_orq xx_id)))
 replace f_v42_2 := f_v42_2.gr o61 (fun k e => (.inl e)) (xx_re (Fr.of_or q62) (xx_or1 (xx_orq xx_id)))
 replace f_v42_6 := f_v42_6.gr o61 (fun k e => (.inl e)) (xx_re (Fr.of_or q62) (xx_or1 (xx_orq xx_id)))
 have nq2 := nqs nq_r1_b36 (Fr.of_or q62) a39.lt
 replace a39 := a39.step o61 (fun e => nq_r1_b36 _ e rfl)
 replace nq_r1_b36 := nq2
 clear nq2
 have lt2 := a16.lts
 replace a16 := a16.step o61 (fun x hx e => nqq_tr_r1 x hx e)
 replace nqq_tr_r1 := nqq_step nqq_tr_r1 (Fr.of_or q62) lt2
 clear lt2
 have tq := oW.size
 replace oW := oW.tailr o61 q_oW_r1 (fun _ e => by cases e)
 replace q_oW_r1 := qtr (Fr.of_or q62) q_oW_r1 tq
 clear tq
 have tq := o17.size
 replace o17 := o17.tailr o61 q_o17_r1 (fun _ e => by cases e)
 replace q_o17_r1 := qtr (Fr.of_or q62) q_o17_r1 tq
 clear tq
 refine wJ.flat ([u1, u2] ++ (zs zf41 2 5 ++ [u_tr, (eN i), (sli b36 0 5 5)] ++ (zs zf41 10 41 ++ [u1, u_tr, (v42 2), (Value.string (strOf (flipI lb (rotL ll ((by_ % ((ll.length : Nat) : Int)).toNat) i)))), u1, u2, (v42 6), (Value.string (strOf (flipI lb ll))), (Value.bool true), (Value.bool true), u1, (sli b45 0 0 0), u2, u51, u2, u57, undef, undef, u1, (Value.string (strOf lb))] ++ (us 11)))) (by kernel_rfl) ?_
 refine wJ.on ⟨h1.less (xx_skip (xx_or1 (xx_orq xx_id))), h2.less (xx_skip (xx_or1 (xx_orq xx_id))), f_v42_2.less (xx_skip (xx_or1 (xx_orq xx_id))), f_v42_6.less (xx_skip (xx_or1 (xx_orq xx_id))), trivial⟩ rfl rfl rfl rfl (nb rfl) rfl (d_call (xl := [.tmp 61, .tmp 66]) (al := [u1, u57]) Try.func20 (by kernel_rfl) rfl rfl rfl (bitsFlip_ok lb (ll ++ ll) u1 u57 _ (Ps.no h1) (Ps.no (a60.seq (X := No) (fun _ _ h => h))) (by first | omega | (simp; done) | (simp; omega)) (by first | omega | (simp; done) | (simp; omega)))) ?_
 rintro u65 w63 f66
 replace f66 := f66.ps
 obtain ⟨f66, o64⟩ := f66
 replace f66 := f66.less (Y := (Orq bo59 (Or1 b36 (Orq bo_tr (Old W.heap.size))))) (orq_old a60.lts (or1_old a39.lt (orq_old a16.lts (old_old oW.size))))
 replace h1 := h1.step0 o64
 replace h2 := h2.step0 o64
 replace f_v42_2 := f_v42_2.step0 o64
 replace f_v42_6 := f_v42_6.step0 o64
 replace a39 := a39.step0 o64
 replace a16 := a16.step0 o64
 replace a60 := a60.step0 o64
 replace oW := oW.tail0 o64
 replace o17 := o17.tail0 o64
 refine wJ.flat ([u1, u2] ++ (zs zf41 2 5 ++ [u_tr, (eN i), (sli b36 0 5 5)] ++ (zs zf41 10 41 ++ [u1, u_tr, (v42 2), (Value.string (strOf (flipI lb (rotL ll ((by_ % ((ll.length : Nat) : Int)).toNat) i)))), u1, u2, (v42 6), (Value.string (strOf (flipI lb ll))), (Value.bool true), (Value.bool true), u1, (sli b45 0 0 0), u2, u51, u2, u57, u65, undef, u1, (Value.string (strOf lb))] ++ (us 11)))) (by kernel_rfl) ?_
 refine wJ.onis ⟨h1.less (xx_skip (xx_or1 (xx_orq xx_id))), h2.less (xx_skip (xx_or1 (xx_orq xx_id))), f_v42_2.less (xx_skip (xx_or1 (xx_orq xx_id))), f_v42_6.less (xx_skip (xx_or1 (xx_orq xx_id))), trivial⟩ rfl rfl rfl rfl (nb rfl) rfl (d_str Try.underlying28 Try.underlying5 Try.underlying9 rfl f66) ?_
 refine wJ.flat ([u1, u2] ++ (zs zf41 2 5 ++ [u_tr, (eN i), (sli b36 0 5 5)] ++ (zs zf41 10 41 ++ [u1, u_tr, (v42 2), (Value.string (strOf (flipI lb (rotL ll ((by_ % ((ll.length : Nat) : Int)).toNat) i)))), u1, u2, (v42 6), (Value.string (strOf (flipI lb ll))), (Value.bool true), (Value.bool true), u1, (sli b45 0 0 0), u2, u51, u2, u57, u65, (Value.string (strOf (flipI lb (ll ++ ll)))), u1, (Value.string (strOf lb))] ++ (us 11)))) (by kernel_rfl) ?_
 refine wJ.onis ⟨h1.less (xx_skip (xx_or1 (xx_orq xx_id))), h2.less (xx_skip (xx_or1 (xx_orq xx_id))), f_v42_2.less (xx_skip (xx_or1 (xx_orq xx_id))), f_v42_6.less (xx_skip (xx_or1 (xx_orq xx_id))), trivial⟩ rfl rfl rfl rfl (nb rfl) rfl (d_seql (a := (flipI lb (ll ++ ll))) (c := lb) rfl rfl (decide_eq_true (two_flip lb ll))) ?_
 refine wJ.flat ([u1, u2] ++ (zs zf41 2 5 ++ [u_tr, (eN i), (sli b36 0 5 5)] ++ (zs zf41 10 41 ++ [u1, u_tr, (v42 2), (Value.string (strOf (flipI lb (rotL ll ((by_ % ((ll.length : Nat) : Int)).toNat) i)))), u1, u2, (v42 6), (Value.string (strOf (flipI lb ll))), (Value.bool true), (Value.bool true), u1, (sli b45 0 0 0), u2, u51, u2, u57, u65, (Value.string (strOf (flipI lb (ll ++ ll)))), u1, (Value.string (strOf lb)), (Value.bool true)] ++ (us 10)))) (by kernel_rfl) ?_
 refine wJ.is ⟨h1.less (xx_skip (xx_or1 (xx_orq xx_id))), h2.less (xx_skip (xx_or1 (xx_orq xx_id))), f_v42_2.less (xx_skip (xx_or1 (xx_orq xx_id))), f_v42_6.less (xx_skip (xx_or1 (xx_orq xx_id))), trivial⟩ rfl rfl (d_pick (b := true) (v := (Value.bool true)) rfl rfl) ?_
 refine wJ.flat ([u1, u2] ++ (zs zf41 2 5 ++ [u_tr, (eN i), (sli b36 0 5 5)] ++ (zs zf41 10 41 ++ [u1, u_tr, (v42 2), (Value.string (strOf (flipI lb (rotL ll ((by_ % ((ll.length : Nat) : Int)).toNat) i)))), u1, u2, (v42 6), (Value.string (strOf (flipI lb ll))), (Value.bool true), (Value.bool true), u1, (sli b45 0 0 0), u2, u51, u2, u57, u65, (Value.string (strOf (flipI lb (ll ++ ll)))), u1, (Value.string (strOf lb)), (Value.bool true), (Value.bool true)] ++ (us 9)))) (by kernel_rfl) ?_
 refine wJ.is ⟨h1.less (xx_skip (xx_or1 (xx_orq xx_id))), h2.less (xx_skip (xx_or1 (xx_orq xx_id))), f_v42_2.less (xx_skip (xx_or1 (xx_orq xx_id))), f_v42_6.less (xx_skip (xx_or1 (xx_orq xx_id))), trivial⟩ rfl rfl (d_move rfl) ?_
 refine wJ.flat ([u1, u2] ++ (zs zf41 2 5 ++ [u_tr, (eN i), (sli b36 0 5 5)] ++ (zs zf41 10 41 ++ [u1, u_tr, (v42 2), (Value.string (strOf (flipI lb (rotL ll ((by_ % ((ll.length : Nat) : Int)).toNat) i)))), u1, u2, (v42 6), (Value.string (strOf (flipI lb ll))), (Value.bool true), (Value.bool true), u1, (sli b45 0 0 0), u2, u51, u2, u57, u65, (Value.string (strOf (flipI lb (ll ++ ll)))), u1, (Value.string (strOf lb)), (Value.bool true), (Value.bool true), (Value.bool true)] ++ (us 8)))) (by kernel_rfl) ?_
 refine wJ.done ⟨h1.less (xx_skip (xx_or1 (xx_orq xx_id))), h2.less (xx_skip (xx_or1 (xx_orq xx_id))), f_v42_2.less (xx_skip (xx_or1 (xx_orq xx_id))), f_v42_6.less (xx_skip (xx_or1 (xx_orq xx_id))), trivial⟩ ?_
 refine rest_seg (n := 32) (p := 23) (q := 32) [23, 24, 27, 28] [25, 26, 29, 30, 31] [(23, 74), (24, 75), (27, 78), (28, 79)] [(0, 51), (1, 52), (2, 53), (3, 54), (4, 55), (5, 56), (6, 57), (7, 58), (8, 59), (9, 60), (10, 61), (11, 62), (12, 63), (13, 64), (14, 65), (15, 66), (16, 67), (17, 68), (18, 69), (19, 70), (20, 71), (21, 72), (22, 73), (23, 74), (24, 75), (25, 76), (26, 77), (27, 78), (28, 79), (29, 80), (30, 81), (31, 6)] [0, 0, 3, 7, 0, 0, 55, 119, 255, 511, 1023, 1023, 1023, 7167, 1023, 31743, 65535, 131071, 1023, 263167, 1048575, 2097151, 4194303, 8388607, 8388607, 33554431, 67108863, 8388607, 142606335, 536870911, 1073741823, 2147483647] (fun i_ => nth [undef, undef, undef, undef, undef, undef, undef, undef, undef, undef, undef, undef, undef, undef, undef, undef, undef, undef, undef, undef, undef, undef, undef, u1, (sli b36 0 5 5), undef, undef, u1, (Value.string (strOf lb))] i_) ([u1, u2] ++ (zs zf41 2 5 ++ [u_tr, (eN i), (sli b36 0 5 5)] ++ (zs zf41 10 41 ++ [u1, u_tr, (v42 2), (Value.string (strOf (flipI lb (rotL ll ((by_ % ((ll.length : Nat) : Int)).toNat) i)))), u1, u2, (v42 6), (Value.string (strOf (flipI lb ll))), (Value.bool true), (Value.bool true), u1, (sli b45 0 0 0), u2, u51, u2, u57, u65, (Value.string (strOf (flipI lb (ll ++ ll)))), u1, (Value.string (strOf lb)), (Value.bool true), (Value.bool true), (Value.bool true), u1, (sli b36 0 5 5), undef, undef, u1, (Value.string (strOf lb)), undef, undef]))) (fun w_ => Ps (Orq bo59 (Or1 b36 (Orq bo_tr No))) (Seq kB lb u1) w_ ∧ Ps (Orq bo59 (Or1 b36 (Orq bo_tr No))) (Seq kI ll u2) w_ ∧ Ps (Orq bo59 (Or1 b36 (Orq bo_tr (Old W.heap.size)))) (Seq kB (flipI lb (rotL ll ((by_ % ((ll.length : Nat) : Int)).toNat) i)) (v42 2)) w_ ∧ Ps (Orq bo59 (Or1 b36 (Orq bo_tr (Old W.heap.size)))) (Seq kB (flipI lb ll) (v42 6)) w_ ∧ Ps (Orq bo59 (Or1 b36 (Orq bo_tr (Old W.heap.size)))) (Seq kB (flipI lb (ll ++ ll)) u65) w_ ∧ True) (by kernel_rfl) rfl (by decide) (by kernel_rfl) (by kernel_rfl) (by rfl) (by kernel_rfl) (by kernel_rfl) (by kernel_rfl) (by kernel_rfl) (by kernel_rfl) (by decide) ?_ ?_
 ·
  rintro w_ ⟨h1, h2, f_v42_2, f_v42_6, f66, _⟩
  refine fl_cons ⟨_, rfl, gd_on rfl rfl rfl (nb rfl) rfl (d_move rfl)⟩ ?_
  refine fl_cons ⟨_, rfl, gd_on rfl rfl rfl (nb rfl) rfl (d_move rfl)⟩ ?_
  refine fl_cons ⟨_, rfl, gd_on rfl rfl rfl (nb rfl) rfl (d_move rfl)⟩ ?_
  refine fl_cons ⟨_, rfl, gd_on rfl rfl rfl (nb rfl) rfl (d_str Try.underlying28 Try.underlying5 Try.underlying9 rfl h1)⟩ ?_
  exact fl_nil
 refine wJ.on ⟨h1, h2, f_v42_2, f_v42_6, f66, trivial⟩ rfl rfl rfl rfl (nb rfl) rfl (d_call (xl := [.tmp 74, .tmp 75]) (al := [u1, (sli b36 0 5 5)]) Try.func20 (by kernel_rfl) rfl rfl rfl (bitsFlip_ok lb ([(-1), ((8 * lb.length : Nat) : Int), ((8 * lb.length + ((by_ % ((99 : Nat) : Int)).toNat) : Nat) : Int), 9223372036854775807, (-9223372036854775808)] : List Int) u1 (sli b36 0 5 5) _ (Ps.no h1) (Ps.no (arr_seq a39 l_b36 (Nat.le_refl _))) (by first | omega | (simp; done) | (simp; omega)) (by first | omega | (simp; done) | (simp; omega)))) ?_
 rintro u69 w67 f70
 replace f70 := f70.ps
 obtain ⟨f70, o68⟩ := f70
 replace f70 := f70.less (Y := (Orq bo59 (Or1 b36 (Orq bo_tr (Old W.heap.size))))) (orq_old a60.lts (or1_old a39.lt (orq_old a16.lts (old_old oW.size))))
 replace h1 := h1.step0 o68
 replace h2 := h2.step0 o68
 replace f_v42_2 := f_v42_2.step0 o68
 replace f_v42_6 := f_v42_6.step0 o68
 replace f66 := f66.step0 o68
 replace a39 := a39.step0 o68
 replace a16 := a16.step0 o68
 replace a60 := a60.step0 o68
 replace oW := oW.tail0 o68
 replace o17 := o17.tail0 o68
 refine wJ.flat ([u1, u2] ++ (zs zf41 2 5 ++ [u_tr, (eN i), (sli b36 0 5 5)] ++ (zs zf41 10 41 ++ [u1, u_tr, (v42 2), (Value.string (strOf (flipI lb (rotL ll ((by_ % ((ll.length : Nat) : Int)).toNat) i)))), u1, u2, (v42 6), (Value.string (strOf (flipI lb ll))), (Value.bool true), (Value.bool true), u1, (sli b45 0 0 0), u2, u51, u2, u57, u65, (Value.string (strOf (flipI lb (ll ++ ll)))), u1, (Value.string (strOf lb)), (Value.bool true), (Value.bool true), (Value.bool true), u1, (sli b36 0 5 5), u69, undef, u1, (Value.string (strOf lb)), undef, undef]))) (by kernel_rfl) ?_
 refine wJ.onis ⟨h1, h2, f_v42_2, f_v42_6, f66, trivial⟩ rfl rfl rfl rfl (nb rfl) rfl (d_str Try.underlying28 Try.underlying5 Try.underlying9 rfl f70) ?_
 refine wJ.flat ([u1, u2] ++ (zs zf41 2 5 ++ [u_tr, (eN i), (sli b36 0 5 5)] ++ (zs zf41 10 41 ++ [u1, u_tr, (v42 2), (Value.string (strOf (flipI lb (rotL ll ((by_ % ((ll.length : Nat) : Int)).toNat) i)))), u1, u2, (v42 6), (Value.string (strOf (flipI lb ll))), (Value.bool true), (Value.bool true), u1, (sli b45 0 0 0), u2, u51, u2, u57, u65, (Value.string (strOf (flipI lb (ll ++ ll)))), u1, (Value.string (strOf lb)), (Value.bool true), (Value.bool true), (Value.bool true), u1, (sli b36 0 5 5), u69, (Value.string (strOf (flipI lb ([(-1), ((8 * lb.length : Nat) : Int), ((8 * lb.length + ((by_ % ((99 : Nat) : Int)).toNat) : Nat) : Int), 9223372036854775807, (-9223372036854775808)] : List Int)))), u1, (Value.string (strOf lb)), undef, undef]))) (by kernel_rfl) ?_
 refine wJ.onis ⟨h1, h2, f_v42_2, f_v42_6, f66, trivial⟩ rfl rfl rfl rfl (nb rfl) rfl (d_seql (a := (flipI lb ([(-1), ((8 * lb.length : Nat) : Int), ((8 * lb.length + ((by_ % ((99 : Nat) : Int)).toNat) : Nat) : Int), 9223372036854775807, (-9223372036854775808)] : List Int))) (c := lb) rfl rfl (decide_eq_true (none_flip lb (by omega) (by omega) (by omega)))) ?_
 refine wJ.flat ([u1, u2] ++ (zs zf41 2 5 ++ [u_tr, (eN i), (sli b36 0 5 5)] ++ (zs zf41 10 41 ++ [u1, u_tr, (v42 2), (Value.string (strOf (flipI lb (rotL ll ((by_ % ((ll.length : Nat) : Int)).toNat) i)))), u1, u2, (v42 6), (Value.string (strOf (flipI lb ll))), (Value.bool true), (Value.bool true), u1, (sli b45 0 0 0), u2, u51, u2, u57, u65, (Value.string (strOf (flipI lb (ll ++ ll)))), u1, (Value.string (strOf lb)), (Value.bool true), (Value.bool true), (Value.bool true), u1, (sli b36 0 5 5), u69, (Value.string (strOf (flipI lb ([(-1), ((8 * lb.length : Nat) : Int), ((8 * lb.length + ((by_ % ((99 : Nat) : Int)).toNat) : Nat) : Int), 9223372036854775807, (-9223372036854775808)] : List Int)))), u1, (Value.string (strOf lb)), (Value.bool true), undef]))) (by kernel_rfl) ?_
 refine wJ.is ⟨h1, h2, f_v42_2, f_v42_6, f66, trivial⟩ rfl rfl (d_pick (b := true) (v := (Value.bool true)) rfl rfl) ?_
 refine wJ.flat ([u1, u2] ++ (zs zf41 2 5 ++ [u_tr, (eN i), (sli b36 0 5 5)] ++ (zs zf41 10 41 ++ [u1, u_tr, (v42 2), (Value.string (strOf (flipI lb (rotL ll ((by_ % ((ll.length : Nat) : Int)).toNat) i)))), u1, u2, (v42 6), (Value.string (strOf (flipI lb ll))), (Value.bool true), (Value.bool true), u1, (sli b45 0 0 0), u2, u51, u2, u57, u65, (Value.string (strOf (flipI lb (ll ++ ll)))), u1, (Value.string (strOf lb)), (Value.bool true), (Value.bool true), (Value.bool true), u1, (sli b36 0 5 5), u69, (Value.string (strOf (flipI lb ([(-1), ((8 * lb.length : Nat) : Int), ((8 * lb.length + ((by_ % ((99 : Nat) : Int)).toNat) : Nat) : Int), 9223372036854775807, (-9223372036854775808)] : List Int)))), u1, (Value.string (strOf lb)), (Value.bool true), (Value.bool true)]))) (by kernel_rfl) ?_
 refine wJ.is ⟨h1, h2, f_v42_2, f_v42_6, f66, trivial⟩ rfl rfl (d_assign rfl) ?_
 refine wJ.flat ([u1, u2, (zf41 2), (zf41 3), (zf41 4), (zf41 5), (Value.bool true), u_tr, (eN i), (sli b36 0 5 5)] ++ (zs zf41 10 41 ++ [u1, u_tr, (v42 2), (Value.string (strOf (flipI lb (rotL ll ((by_ % ((ll.length : Nat) : Int)).toNat) i)))), u1, u2, (v42 6), (Value.string (strOf (flipI lb ll))), (Value.bool true), (Value.bool true), u1, (sli b45 0 0 0), u2, u51, u2, u57, u65, (Value.string (strOf (flipI lb (ll ++ ll)))), u1, (Value.string (strOf lb)), (Value.bool true), (Value.bool true), (Value.bool true), u1, (sli b36 0 5 5), u69, (Value.string (strOf (flipI lb ([(-1), ((8 * lb.length : Nat) : Int), ((8 * lb.length + ((by_ % ((99 : Nat) : Int)).toNat) : Nat) : Int), 9223372036854775807, (-9223372036854775808)] : List Int)))), u1, (Value.string (strOf lb)), (Value.bool true), (Value.bool true)])) (by kernel_rfl) ?_
 refine wJ.done ⟨h1, h2, f_v42_2, f_v42_6, f66, trivial⟩ ?_
 refine rest_done rfl ?_
 refine then_n ?_
 refine forget (fun zf71 => (zs zf71 0 6 ++ [(Value.bool true), u_tr, (eN i)] ++ (zs zf71 9 73))) (by kernel_rfl) (fun zf71 => ?_)
 refine wpIn_ret ?_
 refine leave0 (v := (Value.bool true)) (res1 Try.results6 rfl) ?_
 exact ⟨rfl, oW⟩

end Go.Proofs.YtnlbekdjepkhcaaF
