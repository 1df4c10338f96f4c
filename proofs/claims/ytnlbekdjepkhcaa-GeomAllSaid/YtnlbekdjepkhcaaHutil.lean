import Derived.Test.YtnlbekdjepkhcaaFp
import Derived.Test.YtnlbekdjepkhcaaTy
import Derived.Test.YtnlbekdjepkhcaaMi
set_option linter.unusedVariables false
set_option linter.unusedSimpArgs false
namespace Go.Proofs.YtnlbekdjepkhcaaF
open Go Go.Shelf Go.Proofs.YtnlbekdjepkhcaaS Ram
set_option maxRecDepth 20000 in
set_option maxHeartbeats 1000000 in
theorem ref6Bit_ok (la : List UInt8) (k : Nat) (u1 : Value) (W : World) (h1 : Ps No (Seq kB la u1) W) (g1 : la.length ≤ 1048576) (g2 : k < 8 * la.length) :
    CW Try.prog 45 #[u1, (eN k)] W (Rt (RIs (eN (btN la k)) W)) := by
 have oW : Only No W W := Only.refl _ _
 refine enter (al := [u1, (eN k)]) (k := 14) (l := ([u1, (eN k)] ++ (us 14))) Try.func45 rfl Try.ntmps45 rfl rfl ?_
 refine wpIn_seq ?_
 refine plain ?_
 refine wI (d_assign rfl) ?_
 refine wF ([u1, (eN k), undef, undef, (eN 0)] ++ (us 11)) ?_
 refine wpL.done ?_
 refine then_n ?_
 refine wpIn_seq ?_
 refine plain ?_
 refine wI (d_move rfl) ?_
 refine wI (d_move rfl) ?_
 refine wI (n_quo (a := k) (b := 8) rfl rfl (by decide) (by omega)) ?_
 refine wF ([u1, (eN k), undef, undef, (eN 0), u1, (eN k), (eN (k / 8))] ++ (us 8)) ?_
 refine wI (d_ix (i := (k / 8)) (xs := la) Try.underlying28 s_ti5 rfl h1 (show _ = Value.int _ ((k / 8 : Nat) : Int) from rfl) (by first | omega | (simp; done) | (simp; omega))) ?_
 refine wI (d_ldx (i := (k / 8)) (xs := la) (enc := eB) (v := (la.getD (k / 8) 0)) ⟨_, Try.underlying5, rfl⟩ rfl h1 (g_at (by first | omega | (simp; done) | (simp; omega)))) ?_
 refine wI (d_move rfl) ?_
 refine wF ([u1, (eN k), undef, undef, (eN 0), u1, (eN k), (eN (k / 8)), (ixp u1 (k / 8)), (eB (la.getD (k / 8) 0)), (eN k)] ++ (us 5)) ?_
 refine wI (n_rem (a := k) (b := 8) rfl rfl (by decide)) ?_
 refine wI (n_toU Try.underlying3 Try.underlying31 rfl (by omega)) ?_
 refine wI (b_shr (a := (k % 8)) rfl rfl (by omega)) ?_
 refine wF [u1, (eN k), undef, undef, (eN 0), u1, (eN k), (eN (k / 8)), (ixp u1 (k / 8)), (eB (la.getD (k / 8) 0)), (eN k), (eN (k % 8)), (Value.int .u64 ((k % 8 : Nat) : Int)), (eB (shrB (la.getD (k / 8) 0) (k % 8))), undef, undef] ?_
 refine wI (n_ofB Try.underlying5 Try.underlying3 rfl) ?_
 refine wI (n_and (a := ((shrB (la.getD (k / 8) 0) (k % 8)).toNat)) (b := 1) rfl rfl (by have h__ := UInt8.toNat_lt (shrB (la.getD (k / 8) 0) (k % 8)); omega) (by omega)) ?_
 refine wI (d_assign rfl) ?_
 refine wF [u1, (eN k), undef, undef, (eN (((shrB (la.getD (k / 8) 0) (k % 8)).toNat) &&& 1)), u1, (eN k), (eN (k / 8)), (ixp u1 (k / 8)), (eB (la.getD (k / 8) 0)), (eN k), (eN (k % 8)), (Value.int .u64 ((k % 8 : Nat) : Int)), (eB (shrB (la.getD (k / 8) 0) (k % 8))), (eN ((shrB (la.getD (k / 8) 0) (k % 8)).toNat)), (eN (((shrB (la.getD (k / 8) 0) (k % 8)).toNat) &&& 1))] ?_
 refine wpL.done ?_
 refine then_n ?_
 refine wpIn_ret ?_
 refine leave0 (v := (eN (((shrB (la.getD (k / 8) 0) (k % 8)).toNat) &&& 1))) (res1 Try.results45 rfl) ?_
 exact ⟨rfl, oW⟩

set_option maxRecDepth 20000 in
set_option maxHeartbeats 1000000 in
theorem ref6Apart_ok (la lb : List UInt8) (u1 u2 : Value) (W : World) (h1 : Ps No (Seq kB la u1) W) (h2 : Ps No (Seq kB lb u2) W) (g1 : la.length ≤ 1048576) (g2 : lb.length ≤ 1048576) :
    CW Try.prog 25 #[u1, u2] W (Rt (ROw 3 eN (apR la lb) W)) := by
 have oW : Only No W W := Only.refl _ _
 refine enter (al := [u1, u2]) (k := 29) (l := ([u1, u2] ++ (us 29))) Try.func25 rfl Try.ntmps25 rfl rfl ?_
 refine wpIn_seq ?_
 refine plain ?_
 refine wI (d_assign rfl) ?_
 refine wF ([u1, u2, undef, undef, (Value.slice none 0 0)] ++ (us 26)) ?_
 refine wpL.done ?_
 refine then_n ?_
 refine wpIn_seq ?_
 refine wpIn_seq ?_
 refine plain ?_
 refine wI (d_move rfl) ?_
 refine wI (d_lenS rfl Try.underlying28 rfl h1) ?_
 refine wI (d_move rfl) ?_
 refine wF ([u1, u2, undef, undef, (Value.slice none 0 0), undef, undef, u1, (eN la.length), u2] ++ (us 21)) ?_
 refine wI (d_lenS rfl Try.underlying28 rfl h2) ?_
 refine wI (n_neq (a := la.length) (b := lb.length) rfl rfl rfl) ?_
 refine wF ([u1, u2, undef, undef, (Value.slice none 0 0), undef, undef, u1, (eN la.length), u2, (eN lb.length), (Value.bool (!decide (la.length = lb.length)))] ++ (us 19)) ?_
 refine wpL.done ?_
 refine then_n ?_
 refine cond_un rfl (fun c0 => ?_) (fun c0 => ?_)
 ·
  refine wpIn_seq ?_
  refine plain ?_
  refine wI (d_assign rfl) ?_
  refine wF ([u1, u2, undef, undef, (Value.slice none 0 0), undef, undef, u1, (eN la.length), u2, (eN lb.length), (Value.bool (!decide (la.length = lb.length)))] ++ (us 19)) ?_
  refine wpL.done ?_
  refine then_n ?_
  refine wpIn_ret ?_
  refine then_r ?_
  refine leave0 (v := (Value.slice none 0 0)) (res1 Try.results25 rfl) ?_
  exact ROw.nil ((if_neg c0).symm) oW
 refine wpIn_skip ?_
 refine then_n ?_
 refine wpIn_seq ?_
 refine plain ?_
 refine wI (d_assign rfl) ?_
 refine wF ([u1, u2, undef, undef, (Value.slice none 0 0), (Value.slice none 0 0), undef, u1, (eN la.length), u2, (eN lb.length), (Value.bool (!decide (la.length = lb.length)))] ++ (us 19)) ?_
 refine wpL.done ?_
 have a11 : Ow 3 1 none (Value.slice none 0 0) ([] : List (Nat)).length (([] : List (Nat)).map eN) W := Ow.nil _ _ _
 have q_oW_out : Fr none none W.heap.size := Fr.none
 replace h1 := h1.qnone
 replace h2 := h2.qnone
 refine then_n ?_
 refine wpIn_seq ?_
 refine wpIn_seq ?_
 refine plain ?_
 refine wI (d_assign rfl) ?_
 refine wF ([u1, u2, undef, undef, (Value.slice none 0 0), (Value.slice none 0 0), (eN 0), u1, (eN la.length), u2, (eN lb.length), (Value.bool (!decide (la.length = lb.length)))] ++ (us 19)) ?_
 refine wpL.done ?_
 refine then_n ?_
 refine wpIn_block ?_
 have h_lts_out := a11.lts
 refine loop2 (fun (s_ : (Nat) × (Option Nat) × (Value)) => match s_ with | ⟨k, bo_out, u_out⟩ => fun (z : Nat → Value) => (([u1, u2, undef, undef, (Value.slice none 0 0), u_out, (eN k), u1, (eN la.length), u2, (eN lb.length), (Value.bool (!decide (la.length = lb.length)))] ++ (zs z 12 18 ++ [undef])) : List Value)) (fun (s_ : (Nat) × (Option Nat) × (Value)) => match s_ with | ⟨k, bo_out, u_out⟩ => fun (w_ : World) => (k ≤ 8 * la.length) ∧ Only (Orq none No) W w_ ∧ Ow 3 1 bo_out u_out (apTo la lb k).length ((apTo la lb k).map eN) w_ ∧ Fr bo_out none W.heap.size) (fun (s_ : (Nat) × (Option Nat) × (Value)) => match s_ with | ⟨k, bo_out, u_out⟩ => 8 * la.length - k) ⟨0, none, (Value.slice none 0 0)⟩ rfl ?_ ?_
 ·
  refine ⟨?_, ?_, ?_, ?_⟩
  ·
   exact Nat.zero_le _
  ·
   exact Only.refl _ _
  ·
   exact a11
  ·
   exact Fr.same
 rintro ⟨k, bo_out, u_out⟩ z w13 ⟨hk, o12, a11, qq_out⟩
 (try dsimp only)
 replace h1 := h1.re o12 (orq_mono no_any) (xx_re qq_out xx_id)
 replace h2 := h2.re o12 (orq_mono no_any) (xx_re qq_out xx_id)
 have tq_oW := oW.size
 replace oW := oW.tail o12 (tl_q q_oW_out (fun _ e => by cases e) tl_no)
 replace q_oW_out := qtr qq_out q_oW_out tq_oW
 have q_o12_out := qq_out
 refine wpIn_seq ?_
 refine wpIn_seq ?_
 refine plain ?_
 refine wI (d_move rfl) ?_
 refine wI (d_move rfl) ?_
 refine wI (d_lenS rfl Try.underlying28 rfl h1) ?_
 refine wF ([u1, u2, undef, undef, (Value.slice none 0 0), u_out, (eN k), u1, (eN la.length), u2, (eN lb.length), (Value.bool (!decide (la.length = lb.length))), (eN k), u1, (eN la.length)] ++ (zs z 15 15 ++ [undef])) ?_
 refine wI (n_mul (a := 8) (b := la.length) rfl rfl (by omega)) ?_
 refine wI (n_lss (a := k) (b := (8 * la.length)) rfl rfl rfl) ?_
 refine wF ([u1, u2, undef, undef, (Value.slice none 0 0), u_out, (eN k), u1, (eN la.length), u2, (eN lb.length), (Value.bool (!decide (la.length = lb.length))), (eN k), u1, (eN la.length), (eN (8 * la.length)), (Value.bool (decide (k < (8 * la.length))))] ++ (zs z 17 13 ++ [undef])) ?_
 refine wpL.done ?_
 refine then_n ?_
 refine cond_if rfl (fun c1 => ?_) (fun c1 => ?_)
 ·
  refine wpIn_skip ?_
  refine then_n ?_
  refine wpIn_seq ?_
  refine wpIn_block ?_
  refine wpIn_seq ?_
  refine plain ?_
  refine wI (d_move rfl) ?_
  refine wI (d_move rfl) ?_
  refine wO (d_call (xl := [.tmp 19, .tmp 20]) (al := [u1, (eN k)]) Try.func45 (by kernel_rfl) rfl rfl rfl (ref6Bit_ok la k u1 _ (Ps.no h1) (by first | omega | (simp; done) | (simp; omega)) (by first | omega | (simp; done) | (simp; omega)))) ?_
  rintro _ w14 ⟨rfl, o15⟩
  replace h1 := h1.step0 o15
  replace h2 := h2.step0 o15
  replace a11 := a11.step0 o15
  replace oW := oW.tail0 o15
  replace o12 := o12.tail0 o15
  refine wF ([u1, u2, undef, undef, (Value.slice none 0 0), u_out, (eN k), u1, (eN la.length), u2, (eN lb.length), (Value.bool (!decide (la.length = lb.length))), (eN k), u1, (eN la.length), (eN (8 * la.length)), (Value.bool (decide (k < (8 * la.length)))), (z 17), (z 18), u1, (eN k), (eN (btN la k))] ++ (zs z 22 8 ++ [undef])) ?_
  refine wI (d_move rfl) ?_
  refine wI (d_move rfl) ?_
  refine wO (d_call (xl := [.tmp 22, .tmp 23]) (al := [u2, (eN k)]) Try.func45 (by kernel_rfl) rfl rfl rfl (ref6Bit_ok lb k u2 _ (Ps.no h2) (by first | omega | (simp; done) | (simp; omega)) (by first | omega | (simp; done) | (simp; omega)))) ?_
  rintro _ w16 ⟨rfl, o17⟩
  replace h1 := h1.step0 o17
  replace h2 := h2.step0 o17
  replace a11 := a11.step0 o17
  replace oW := oW.tail0 o17
  replace o12 := o12.tail0 o17
  refine wF ([u1, u2, undef, undef, (Value.slice none 0 0), u_out, (eN k), u1, (eN la.length), u2, (eN lb.length), (Value.bool (!decide (la.length = lb.length))), (eN k), u1, (eN la.length), (eN (8 * la.length)), (Value.bool (decide (k < (8 * la.length)))), (z 17), (z 18), u1, (eN k), (eN (btN la k)), u2, (eN k), (eN (btN lb k))] ++ (zs z 25 5 ++ [undef])) ?_
  refine wI (n_neq (a := (btN la k)) (b := (btN lb k)) rfl rfl rfl) ?_
  refine wF [u1, u2, undef, undef, (Value.slice none 0 0), u_out, (eN k), u1, (eN la.length), u2, (eN lb.length), (Value.bool (!decide (la.length = lb.length))), (eN k), u1, (eN la.length), (eN (8 * la.length)), (Value.bool (decide (k < (8 * la.length)))), (z 17), (z 18), u1, (eN k), (eN (btN la k)), u2, (eN k), (eN (btN lb k)), (Value.bool (!decide ((btN la k) = (btN lb k)))), (z 26), (z 27), (z 28), (z 29), undef] ?_
  refine wpL.done ?_
  refine then_n ?_
  refine forget (fun zf18 => ([u1, u2, undef, undef, (Value.slice none 0 0), u_out, (eN k), u1, (eN la.length), u2, (eN lb.length), (Value.bool (!decide (la.length = lb.length)))] ++ (zs zf18 12 13 ++ [(Value.bool (!decide ((btN la k) = (btN lb k)))), (zf18 26), (zf18 27), (zf18 28), (zf18 29), undef]))) (by kernel_rfl) (fun zf18 => ?_)
  refine cond_un rfl (fun c2 => ?_) (fun c2 => ?_)
  ·
   refine plain ?_
   refine wI (d_move rfl) ?_
   refine wI (d_move rfl) ?_
   refine wO (d_buildL (cs := [(eN k)]) Try.underlying29 s_ti3 rfl (nb rfl) (parts_cons (vs := [(eN k)]) (cells_of (v := (eN k)) rfl rfl) parts_nil) rfl) ?_
   rintro _ w20 ⟨b19, rfl, g21, a22, o23⟩
   replace a22 : Arr 3 b19 (([k] : List Nat).map eN) w20 := a22
   have l_b19 : ([k] : List Nat).length = 1 := rfl
   have nq_out_b19 : ∀ x, bo_out = some x → ¬ x = b19 := fun x hx e => by have := a11.lts x hx; omega
   have g_oW_b19 : W.heap.size ≤ b19 := Nat.le_trans oW.size g21
   have g_o12_b19 : W.heap.size ≤ b19 := Nat.le_trans o12.size g21
   replace h1 := h1.new o23 g21
   replace h2 := h2.new o23 g21
   replace a11 := a11.step0 o23
   replace oW := oW.tail0 o23
   replace o12 := o12.tail0 o23
   refine wF ([u1, u2, undef, undef, (Value.slice none 0 0), u_out, (eN k), u1, (eN la.length), u2, (eN lb.length), (Value.bool (!decide (la.length = lb.length)))] ++ (zs zf18 12 13 ++ [(Value.bool (!decide ((btN la k) = (btN lb k)))), u_out, (eN k), (sli b19 0 1 1), (zf18 29), undef])) ?_
   refine wO (d_append Try.underlying29 Try.underlying29 s_ti3 rfl rfl rfl a11 (SrcV.of_seq (arr_seq a22 l_b19 (Nat.le_refl _)) (fun _ => rfl)) (by have := apTo_len la lb k; simp only [List.length_singleton]; omega) (by have := apTo_len la lb k; simp only [List.length_singleton]; omega) rfl) ?_
   rintro u24 w25 ⟨bo26, a27, o28, q29⟩
   replace a27 : Ow 3 1 bo26 u24 ((apTo la lb k) ++ ([k] : List Nat)).length (((apTo la lb k) ++ ([k] : List Nat)).map eN) w25 := by rw [List.length_append, List.map_append]; exact a27
   replace h1 := h1.gr o28 (fun k e => (.inr (.inl e))) (xx_or1 (xx_re (Fr.of_or q29) xx_id))
   replace h2 := h2.gr o28 (fun k e => (.inr (.inl e))) (xx_or1 (xx_re (Fr.of_or q29) xx_id))
   have nq2 := nqs nq_out_b19 (Fr.of_or q29) a22.lt
   replace a22 := a22.step o28 (fun e => nq_out_b19 _ e rfl)
   replace nq_out_b19 := nq2
   clear nq2
   have tq := oW.size
   replace oW := oW.tailr o28 q_oW_out (fun _ e => by cases e)
   replace q_oW_out := qtr (Fr.of_or q29) q_oW_out tq
   clear tq
   have tq := o12.size
   replace o12 := o12.tailr o28 q_o12_out (fun k e => (.inl e))
   replace q_o12_out := qtr (Fr.of_or q29) q_o12_out tq
   clear tq
   refine wI (d_assign rfl) ?_
   refine wF ([u1, u2, undef, undef, (Value.slice none 0 0), u24, (eN k), u1, (eN la.length), u2, (eN lb.length), (Value.bool (!decide (la.length = lb.length)))] ++ (zs zf18 12 13 ++ [(Value.bool (!decide ((btN la k) = (btN lb k)))), u_out, (eN k), (sli b19 0 1 1), u24, undef])) ?_
   refine wpL.done ?_
   refine inb_n (then_n ?_)
   refine plain ?_
   refine wI (d_move rfl) ?_
   refine wI (n_add (a := k) (b := 1) rfl rfl (by omega)) ?_
   refine wI (d_assign rfl) ?_
   refine wF ([u1, u2, undef, undef, (Value.slice none 0 0), u24, (eN (k + 1)), u1, (eN la.length), u2, (eN lb.length), (Value.bool (!decide (la.length = lb.length)))] ++ (zs zf18 12 5 ++ [(eN k), (eN (k + 1))] ++ (zs zf18 19 6 ++ [(Value.bool (!decide ((btN la k) = (btN lb k)))), u_out, (eN k), (sli b19 0 1 1), u24, undef]))) ?_
   refine wpL.done ?_
   refine then_n ?_
   refine ⟨_, ⟨k + 1, bo26, u24⟩, rfl, rfl, ⟨?_, ?_, ?_, ?_⟩, ?_⟩
   ·
    (try dsimp only)
    all_goals (omega)
   ·
    exact o12
   ·
    (try dsimp only)
    all_goals (rw [← apTo_yes c2]; exact a27)
   ·
    exact q_o12_out
   ·
    (try dsimp only)
    all_goals (omega)
  refine wpIn_skip ?_
  refine inb_n (then_n ?_)
  refine plain ?_
  refine wI (d_move rfl) ?_
  refine wI (n_add (a := k) (b := 1) rfl rfl (by omega)) ?_
  refine wI (d_assign rfl) ?_
  refine wF ([u1, u2, undef, undef, (Value.slice none 0 0), u_out, (eN (k + 1)), u1, (eN la.length), u2, (eN lb.length), (Value.bool (!decide (la.length = lb.length)))] ++ (zs zf18 12 5 ++ [(eN k), (eN (k + 1))] ++ (zs zf18 19 6 ++ [(Value.bool (!decide ((btN la k) = (btN lb k)))), (zf18 26), (zf18 27), (zf18 28), (zf18 29), undef]))) ?_
  refine wpL.done ?_
  refine then_n ?_
  refine ⟨_, ⟨k + 1, bo_out, u_out⟩, rfl, rfl, ⟨?_, ?_, ?_, ?_⟩, ?_⟩
  ·
   (try dsimp only)
   all_goals (omega)
  ·
   exact o12
  ·
   (try dsimp only)
   all_goals (rw [apTo_no c2]; exact a11)
  ·
   exact q_o12_out
  ·
   (try dsimp only)
   all_goals (omega)
 refine wpIn_exit ?_
 refine then_x (then_x (inb_e ?_))
 refine then_n ?_
 refine forget (fun zf30 => (zs zf30 0 5 ++ [u_out, (eN k)] ++ (zs zf30 7 24))) (by kernel_rfl) (fun zf30 => ?_)
 refine wpIn_seq ?_
 refine plain ?_
 refine wI (d_move rfl) ?_
 refine wI (d_assign rfl) ?_
 refine wF ([(zf30 0), (zf30 1), (zf30 2), (zf30 3), u_out, u_out, (eN k)] ++ (zs zf30 7 23 ++ [u_out])) ?_
 refine wpL.done ?_
 refine then_n ?_
 refine wpIn_ret ?_
 refine leave0 (v := u_out) (res1 Try.results25 rfl) ?_
 exact ROw.mk_ a11 (by rw [show k = 8 * la.length by omega]; exact (if_pos c0).symm) q_oW_out oW

set_option maxRecDepth 20000 in
set_option maxHeartbeats 1000000 in
theorem ref6Flip_ok (la : List UInt8) (ls : List Nat) (u1 u2 : Value) (W : World) (h1 : Ps No (Seq kB la u1) W) (h2 : Ps No (Seq kN ls u2) W) (g1 : la.length ≤ 1048576) (g2 : ls.length ≤ 1048576) (g3 : ∀ k ∈ ls, k < 8 * la.length) :
    CW Try.prog 27 #[u1, u2] W (Rt (ROw 5 eB (flipL la ls) W)) := by
 have oW : Only No W W := Only.refl _ _
 refine enter (al := [u1, u2]) (k := 53) (l := ([u1, u2] ++ (us 53))) Try.func27 rfl Try.ntmps27 rfl rfl ?_
 refine wpIn_seq ?_
 refine plain ?_
 refine wI (d_assign rfl) ?_
 refine wF ([u1, u2, undef, undef, (Value.slice none 0 0)] ++ (us 50)) ?_
 refine wpL.done ?_
 refine then_n ?_
 refine wpIn_seq ?_
 refine plain ?_
 refine wO (d_buildL (cs := []) Try.underlying28 s_ti5 rfl (nb rfl) parts_nil rfl) ?_
 rintro _ w12 ⟨b11, rfl, g13, a14, o15⟩
 replace a14 : Arr 5 b11 (([] : List UInt8).map eB) w12 := a14
 have l_b11 : ([] : List UInt8).length = 0 := rfl
 have g_oW_b11 : W.heap.size ≤ b11 := Nat.le_trans oW.size g13
 replace h1 := h1.new o15 g13
 replace h2 := h2.new o15 g13
 replace oW := oW.tail0 o15
 refine wI (d_move rfl) ?_
 have a16 := Ow.of_map2 a14 l_b11
 have q_oW_o : Fr (some b11) none W.heap.size := Fr.new g_oW_b11
 replace h1 := h1.less (Y := (Orq (some b11) No)) (xx_br xx_id)
 replace h2 := h2.less (Y := (Orq (some b11) No)) (xx_br xx_id)
 refine wO (d_append Try.underlying28 Try.underlying28 s_ti5 rfl rfl rfl a16 (SrcV.of_seq h1 (fun _ => rfl)) (by simp; omega) (by simp; omega) rfl) ?_
 rintro u17 w18 ⟨bo19, a20, o21, q22⟩
 replace a20 : Ow 5 1 bo19 u17 (la).length ((la).map eB) w18 := by simpa using a20
 replace h1 := h1.gr o21 (fun k e => (.inl e)) (xx_re (Fr.of_or q22) xx_id)
 replace h2 := h2.gr o21 (fun k e => (.inl e)) (xx_re (Fr.of_or q22) xx_id)
 have tq := oW.size
 replace oW := oW.tailr o21 q_oW_o (fun _ e => by cases e)
 replace q_oW_o := qtr (Fr.of_or q22) q_oW_o tq
 clear tq
 refine wF ([u1, u2, undef, undef, (Value.slice none 0 0), undef, undef, (sli b11 0 0 0), u1, u17] ++ (us 45)) ?_
 refine wI (d_assign rfl) ?_
 refine wF ([u1, u2, undef, undef, (Value.slice none 0 0), u17, undef, (sli b11 0 0 0), u1, u17] ++ (us 45)) ?_
 refine wpL.done ?_
 refine then_n ?_
 refine wpIn_seq ?_
 refine wpIn_seq ?_
 refine plain ?_
 refine wI (d_assign rfl) ?_
 refine wF ([u1, u2, undef, undef, (Value.slice none 0 0), u17, (eN 0), (sli b11 0 0 0), u1, u17] ++ (us 45)) ?_
 refine wpL.done ?_
 refine then_n ?_
 refine wpIn_block ?_
 refine loop2 (fun (i : (Nat)) => fun (z : Nat → Value) => (([u1, u2, undef, undef, (Value.slice none 0 0), u17, (eN i), (sli b11 0 0 0), u1, u17] ++ (zs z 10 44 ++ [undef])) : List Value)) (fun (i : (Nat)) => fun (w_ : World) => (i ≤ ls.length) ∧ Only (Orq bo19 No) w18 w_ ∧ Ow 5 1 bo19 u17 (flipL la (ls.take i)).length ((flipL la (ls.take i)).map eB) w_) (fun (i : (Nat)) => ls.length - i) 0 rfl ?_ ?_
 ·
  refine ⟨?_, ?_, ?_⟩
  ·
   exact Nat.zero_le _
  ·
   exact Only.refl _ _
  ·
   exact a20
 rintro i z w24 ⟨hi, o23, a20⟩
 (try dsimp only)
 replace h1 := h1.step o23 (orq_mono no_any)
 replace h2 := h2.step o23 (orq_mono no_any)
 replace oW := oW.tail o23 (tl_q q_oW_o (fun _ e => by cases e) tl_no)
 have q_o23_o : Fr bo19 bo19 w18.heap.size := Fr.same
 refine wpIn_seq ?_
 refine wpIn_seq ?_
 refine plain ?_
 refine wI (d_move rfl) ?_
 refine wI (d_move rfl) ?_
 refine wI (d_lenS rfl Try.underlying29 rfl h2) ?_
 refine wF ([u1, u2, undef, undef, (Value.slice none 0 0), u17, (eN i), (sli b11 0 0 0), u1, u17, (eN i), u2, (eN ls.length)] ++ (zs z 13 41 ++ [undef])) ?_
 refine wI (n_lss (a := i) (b := ls.length) rfl rfl rfl) ?_
 refine wF ([u1, u2, undef, undef, (Value.slice none 0 0), u17, (eN i), (sli b11 0 0 0), u1, u17, (eN i), u2, (eN ls.length), (Value.bool (decide (i < ls.length)))] ++ (zs z 14 40 ++ [undef])) ?_
 refine wpL.done ?_
 refine then_n ?_
 refine cond_if rfl (fun c0 => ?_) (fun c0 => ?_)
 ·
  have hx_ := getD_lt g3 c0
  have hl_ := flipL_length la (ls.take i)
  refine wpIn_skip ?_
  refine then_n ?_
  refine wpIn_seq ?_
  refine wpIn_block ?_
  refine wpIn_seq ?_
  refine plain ?_
  refine wI (d_move rfl) ?_
  refine wI (d_move rfl) ?_
  refine wI (d_ix (i := i) (xs := ls) Try.underlying29 s_ti3 rfl h2 (show _ = Value.int _ ((i : Nat) : Int) from rfl) (by first | omega | (simp; done) | (simp; omega))) ?_
  refine wF ([u1, u2, undef, undef, (Value.slice none 0 0), u17, (eN i), (sli b11 0 0 0), u1, u17, (eN i), u2, (eN ls.length), (Value.bool (decide (i < ls.length))), (z 14), (z 15), u2, (eN i), (ixp u2 i)] ++ (zs z 19 35 ++ [undef])) ?_
  refine wI (d_ldx (i := i) (xs := ls) (enc := eN) (v := (ls.getD i 0)) ⟨_, Try.underlying3, rfl⟩ rfl h2 (g_at (by first | omega | (simp; done) | (simp; omega)))) ?_
  refine wI (n_geq (a := (ls.getD i 0)) (b := 0) rfl rfl (decide_eq_true (Nat.zero_le _))) ?_
  refine wI (d_move rfl) ?_
  refine wF ([u1, u2, undef, undef, (Value.slice none 0 0), u17, (eN i), (sli b11 0 0 0), u1, u17, (eN i), u2, (eN ls.length), (Value.bool (decide (i < ls.length))), (z 14), (z 15), u2, (eN i), (ixp u2 i), (eN (ls.getD i 0)), (Value.bool true), (Value.bool true)] ++ (zs z 22 32 ++ [undef])) ?_
  refine wpL.onis rfl rfl rfl (nb rfl) rfl (d_move rfl) ?_
  refine wpL.onis rfl rfl rfl (nb rfl) rfl (d_move rfl) ?_
  refine wpL.onis rfl rfl rfl (nb rfl) rfl (d_ix (i := i) (xs := ls) Try.underlying29 s_ti3 rfl h2 (show _ = Value.int _ ((i : Nat) : Int) from rfl) (by first | omega | (simp; done) | (simp; omega))) ?_
  refine wF ([u1, u2, undef, undef, (Value.slice none 0 0), u17, (eN i), (sli b11 0 0 0), u1, u17, (eN i), u2, (eN ls.length), (Value.bool (decide (i < ls.length))), (z 14), (z 15), u2, (eN i), (ixp u2 i), (eN (ls.getD i 0)), (Value.bool true), (Value.bool true), u2, (eN i), (ixp u2 i)] ++ (zs z 25 29 ++ [undef])) ?_
  refine wpL.onis rfl rfl rfl (nb rfl) rfl (d_ldx (i := i) (xs := ls) (enc := eN) (v := (ls.getD i 0)) ⟨_, Try.underlying3, rfl⟩ rfl h2 (g_at (by first | omega | (simp; done) | (simp; omega)))) ?_
  refine wpL.onis rfl rfl rfl (nb rfl) rfl (n_quo (a := (ls.getD i 0)) (b := 8) rfl rfl (by decide) (by omega)) ?_
  refine wpL.onis rfl rfl rfl (nb rfl) rfl (d_move rfl) ?_
  refine wF ([u1, u2, undef, undef, (Value.slice none 0 0), u17, (eN i), (sli b11 0 0 0), u1, u17, (eN i), u2, (eN ls.length), (Value.bool (decide (i < ls.length))), (z 14), (z 15), u2, (eN i), (ixp u2 i), (eN (ls.getD i 0)), (Value.bool true), (Value.bool true), u2, (eN i), (ixp u2 i), (eN (ls.getD i 0)), (eN ((ls.getD i 0) / 8)), u1] ++ (zs z 28 26 ++ [undef])) ?_
  refine wpL.onis rfl rfl rfl (nb rfl) rfl (d_lenS rfl Try.underlying28 rfl h1) ?_
  refine wpL.onis rfl rfl rfl (nb rfl) rfl (n_lss (a := ((ls.getD i 0) / 8)) (b := la.length) rfl rfl (decide_eq_true (by omega))) ?_
  refine wI (d_pick (b := true) (v := (Value.bool true)) rfl rfl) ?_
  refine wF ([u1, u2, undef, undef, (Value.slice none 0 0), u17, (eN i), (sli b11 0 0 0), u1, u17, (eN i), u2, (eN ls.length), (Value.bool (decide (i < ls.length))), (z 14), (z 15), u2, (eN i), (ixp u2 i), (eN (ls.getD i 0)), (Value.bool true), (Value.bool true), u2, (eN i), (ixp u2 i), (eN (ls.getD i 0)), (eN ((ls.getD i 0) / 8)), u1, (eN la.length), (Value.bool true), (Value.bool true)] ++ (zs z 31 23 ++ [undef])) ?_
  refine wpL.done ?_
  refine then_n ?_
  refine forget (fun zf25 => ([u1, u2, undef, undef, (Value.slice none 0 0), u17, (eN i), (sli b11 0 0 0), u1, u17] ++ (zs zf25 10 20 ++ [(Value.bool true)] ++ (zs z 31 23 ++ [undef])))) (by kernel_rfl) (fun zf25 => ?_)
  refine cond_t rfl ?_
  refine drawn_last (O := (Isq bo19)) (m := 23) (R := fun w_ => Ow 5 1 bo19 u17 ((flipL la (ls.take i)).set ((ls.getD i 0) / 8) (((flipL la (ls.take i)).getD ((ls.getD i 0) / 8) 0) ^^^ (shlB 1 ((ls.getD i 0) % 8)))).length (((flipL la (ls.take i)).set ((ls.getD i 0) / 8) (((flipL la (ls.take i)).getD ((ls.getD i 0) / 8) 0) ^^^ (shlB 1 ((ls.getD i 0) % 8)))).map eB) w_) [0, 0, 0, 6, 14, 30, 0, 0, 0, 384, 896, 1920, 4032, 8128, 0, 0, 49152, 114688, 245760, 507904, 1032192, 2097088, 4194303, 8388607] [(0, 31), (1, 32), (2, 33), (3, 34), (4, 35), (5, 36), (6, 37), (7, 38), (8, 39), (9, 40), (10, 41), (11, 42), (12, 43), (13, 44), (14, 45), (15, 46), (16, 47), (17, 48), (18, 49), (19, 50), (20, 51), (21, 52), (22, 53)] [u17, u2, (eN i), (ixp u2 i), (eN (ls.getD i 0)), (eN ((ls.getD i 0) / 8)), u17, u2, (eN i), (ixp u2 i), (eN (ls.getD i 0)), (eN ((ls.getD i 0) / 8)), (ixp u17 ((ls.getD i 0) / 8)), (eB ((flipL la (ls.take i)).getD ((ls.getD i 0) / 8) 0)), u2, (eN i), (ixp u2 i), (eN (ls.getD i 0)), (eN ((ls.getD i 0) % 8)), (Value.int .u64 (((ls.getD i 0) % 8 : Nat) : Int)), (eB (shlB 1 ((ls.getD i 0) % 8))), (eB (((flipL la (ls.take i)).getD ((ls.getD i 0) / 8) 0) ^^^ (shlB 1 ((ls.getD i 0) % 8)))), (ixp u17 ((ls.getD i 0) / 8))] ([u1, u2, undef, undef, (Value.slice none 0 0), u17, (eN i), (sli b11 0 0 0), u1, u17] ++ (zs zf25 10 20 ++ [(Value.bool true), u17, u2, (eN i), (ixp u2 i), (eN (ls.getD i 0)), (eN ((ls.getD i 0) / 8)), u17, u2, (eN i), (ixp u2 i), (eN (ls.getD i 0)), (eN ((ls.getD i 0) / 8)), (ixp u17 ((ls.getD i 0) / 8)), (eB ((flipL la (ls.take i)).getD ((ls.getD i 0) / 8) 0)), u2, (eN i), (ixp u2 i), (eN (ls.getD i 0)), (eN ((ls.getD i 0) % 8)), (Value.int .u64 (((ls.getD i 0) % 8 : Nat) : Int)), (eB (shlB 1 ((ls.getD i 0) % 8))), (eB (((flipL la (ls.take i)).getD ((ls.getD i 0) / 8) 0) ^^^ (shlB 1 ((ls.getD i 0) % 8)))), (ixp u17 ((ls.getD i 0) / 8)), undef])) s_mx (by kernel_rfl) (by kernel_rfl) rfl rfl (by decide) (by kernel_rfl) (by kernel_rfl) ?_ (fun _ _ h_ ho_ => h_.step0 ho_) ⟨_, rfl, rfl, fun w_ hO_ => gd rfl ((d_stx (i := ((ls.getD i 0) / 8)) (xs := (flipL la (ls.take i))) (enc := eB) (v := (((flipL la (ls.take i)).getD ((ls.getD i 0) / 8) 0) ^^^ (shlB 1 ((ls.getD i 0) % 8)))) s_ti5 rfl rfl rfl (a20.step0 hO_) (by have := flipL_length la (ls.take i); first | omega | (simp; done) | (simp; omega)) rfl).mono fun u_ w2_ h_ => ⟨h_.2, h_.1⟩)⟩ ?_
  ·
   intro w_ hO_
   refine AllG.cons (gi rfl (d_move rfl)) ?_
   refine AllG.cons (gi rfl (d_move rfl)) ?_
   refine AllG.cons (gi rfl (d_move rfl)) ?_
   refine AllG.cons (gi rfl (d_ix (i := i) (xs := ls) Try.underlying29 s_ti3 rfl (h2.step0 hO_) (show _ = Value.int _ ((i : Nat) : Int) from rfl) (by first | omega | (simp; done) | (simp; omega)))) ?_
   refine AllG.cons (gi rfl (d_ldx (i := i) (xs := ls) (enc := eN) (v := (ls.getD i 0)) ⟨_, Try.underlying3, rfl⟩ rfl (h2.step0 hO_) (g_at (by first | omega | (simp; done) | (simp; omega))))) ?_
   refine AllG.cons (gi rfl (n_quo (a := (ls.getD i 0)) (b := 8) rfl rfl (by decide) (by omega))) ?_
   refine AllG.cons (gi rfl (d_move rfl)) ?_
   refine AllG.cons (gi rfl (d_move rfl)) ?_
   refine AllG.cons (gi rfl (d_move rfl)) ?_
   refine AllG.cons (gi rfl (d_ix (i := i) (xs := ls) Try.underlying29 s_ti3 rfl (h2.step0 hO_) (show _ = Value.int _ ((i : Nat) : Int) from rfl) (by first | omega | (simp; done) | (simp; omega)))) ?_
   refine AllG.cons (gi rfl (d_ldx (i := i) (xs := ls) (enc := eN) (v := (ls.getD i 0)) ⟨_, Try.underlying3, rfl⟩ rfl (h2.step0 hO_) (g_at (by first | omega | (simp; done) | (simp; omega))))) ?_
   refine AllG.cons (gi rfl (n_quo (a := (ls.getD i 0)) (b := 8) rfl rfl (by decide) (by omega))) ?_
   refine AllG.cons (gi rfl (d_ix (i := ((ls.getD i 0) / 8)) (xs := (flipL la (ls.take i))) Try.underlying28 s_ti5 rfl ((a20.step0 hO_).seq (X := No) (fun _ _ h => h)) (show _ = Value.int _ (((ls.getD i 0) / 8 : Nat) : Int) from rfl) (by have := flipL_length la (ls.take i); first | omega | (simp; done) | (simp; omega)))) ?_
   refine AllG.cons (gi rfl (d_ldx (i := ((ls.getD i 0) / 8)) (xs := (flipL la (ls.take i))) (enc := eB) (v := ((flipL la (ls.take i)).getD ((ls.getD i 0) / 8) 0)) ⟨_, Try.underlying5, rfl⟩ rfl ((a20.step0 hO_).seq (X := No) (fun _ _ h => h)) (g_at (by have := flipL_length la (ls.take i); first | omega | (simp; done) | (simp; omega))))) ?_
   refine AllG.cons (gi rfl (d_move rfl)) ?_
   refine AllG.cons (gi rfl (d_move rfl)) ?_
   refine AllG.cons (gi rfl (d_ix (i := i) (xs := ls) Try.underlying29 s_ti3 rfl (h2.step0 hO_) (show _ = Value.int _ ((i : Nat) : Int) from rfl) (by first | omega | (simp; done) | (simp; omega)))) ?_
   refine AllG.cons (gi rfl (d_ldx (i := i) (xs := ls) (enc := eN) (v := (ls.getD i 0)) ⟨_, Try.underlying3, rfl⟩ rfl (h2.step0 hO_) (g_at (by first | omega | (simp; done) | (simp; omega))))) ?_
   refine AllG.cons (gi rfl (n_rem (a := (ls.getD i 0)) (b := 8) rfl rfl (by decide))) ?_
   refine AllG.cons (gi rfl (n_toU Try.underlying3 Try.underlying31 rfl (by omega))) ?_
   refine AllG.cons (gi rfl (b_shl (a := ((ls.getD i 0) % 8)) rfl rfl (by omega))) ?_
   refine AllG.cons (gi rfl (b_xor (c := ((flipL la (ls.take i)).getD ((ls.getD i 0) / 8) 0)) (e := (shlB 1 ((ls.getD i 0) % 8))) rfl rfl)) ?_
   refine AllG.cons (gi rfl (d_ix (i := ((ls.getD i 0) / 8)) (xs := (flipL la (ls.take i))) Try.underlying28 s_ti5 rfl ((a20.step0 hO_).seq (X := No) (fun _ _ h => h)) (show _ = Value.int _ (((ls.getD i 0) / 8 : Nat) : Int) from rfl) (by have := flipL_length la (ls.take i); first | omega | (simp; done) | (simp; omega)))) ?_
   exact AllG.nil
  intro w26 o27 a28
  replace h1 := h1.gr o27 (fun k e => (.inl e)) (xx_re Fr.same xx_id)
  replace h2 := h2.gr o27 (fun k e => (.inl e)) (xx_re Fr.same xx_id)
  have tq := oW.size
  replace oW := oW.tailr o27 q_oW_o (fun _ e => by cases e)
  replace q_oW_o := qtr Fr.same q_oW_o tq
  clear tq
  have tq := o23.size
  replace o23 := o23.tailr o27 q_o23_o (fun k e => (.inl e))
  replace q_o23_o := qtr Fr.same q_o23_o tq
  clear tq
  refine inb_n (then_n ?_)
  refine plain ?_
  refine wI (d_move rfl) ?_
  refine wI (n_add (a := i) (b := 1) rfl rfl (by omega)) ?_
  refine wI (d_assign rfl) ?_
  refine wF ([u1, u2, undef, undef, (Value.slice none 0 0), u17, (eN (i + 1)), (sli b11 0 0 0), u1, u17, (zf25 10), (zf25 11), (zf25 12), (zf25 13), (eN i), (eN (i + 1))] ++ (zs zf25 16 14 ++ [(Value.bool true), u17, u2, (eN i), (ixp u2 i), (eN (ls.getD i 0)), (eN ((ls.getD i 0) / 8)), u17, u2, (eN i), (ixp u2 i), (eN (ls.getD i 0)), (eN ((ls.getD i 0) / 8)), (ixp u17 ((ls.getD i 0) / 8)), (eB ((flipL la (ls.take i)).getD ((ls.getD i 0) / 8) 0)), u2, (eN i), (ixp u2 i), (eN (ls.getD i 0)), (eN ((ls.getD i 0) % 8)), (Value.int .u64 (((ls.getD i 0) % 8 : Nat) : Int)), (eB (shlB 1 ((ls.getD i 0) % 8))), (eB (((flipL la (ls.take i)).getD ((ls.getD i 0) / 8) 0) ^^^ (shlB 1 ((ls.getD i 0) % 8)))), (ixp u17 ((ls.getD i 0) / 8)), undef])) ?_
  refine wpL.done ?_
  refine then_n ?_
  refine ⟨_, (i + 1), rfl, rfl, ⟨?_, ?_, ?_⟩, ?_⟩
  ·
   (try dsimp only)
   all_goals (omega)
  ·
   exact o23
  ·
   (try dsimp only)
   all_goals (rw [flip_next la c0] at a28; exact a28)
  ·
   (try dsimp only)
   all_goals (omega)
 refine wpIn_exit ?_
 refine then_x (then_x (inb_e ?_))
 refine then_n ?_
 refine forget (fun zf29 => (zs zf29 0 5 ++ [u17, (eN i)] ++ (zs zf29 7 48))) (by kernel_rfl) (fun zf29 => ?_)
 refine wpIn_seq ?_
 refine plain ?_
 refine wI (d_move rfl) ?_
 refine wI (d_assign rfl) ?_
 refine wF ([(zf29 0), (zf29 1), (zf29 2), (zf29 3), u17, u17, (eN i)] ++ (zs zf29 7 47 ++ [u17])) ?_
 refine wpL.done ?_
 refine then_n ?_
 refine wpIn_ret ?_
 refine leave0 (v := u17) (res1 Try.results27 rfl) ?_
 exact ROw.mk_ a20 (by rw [show i = ls.length by omega, List.take_length]) q_oW_o oW

set_option maxRecDepth 20000 in
set_option maxHeartbeats 1000000 in
theorem l4within_ok (a : Int) (m : Nat) (W : World) (hm : 0 < m) (hm2 : m ≤ 1000000) :
    CW Try.prog 43 #[(eI a), (eN m)] W (Rt (RIs (eN (a % (m : Int)).toNat) W)) := by
 have oW : Only No W W := Only.refl _ _
 refine enter (al := [(eI a), (eN m)]) (k := 13) (l := ([(eI a), (eN m)] ++ (us 13))) Try.func43 rfl Try.ntmps43 rfl rfl ?_
 refine wpIn_seq ?_
 refine plain ?_
 refine wI (d_assign rfl) ?_
 refine wF ([(eI a), (eN m), undef, undef, (eN 0)] ++ (us 10)) ?_
 refine wpL.done ?_
 refine then_n ?_
 refine wpIn_seq ?_
 refine plain ?_
 refine wI (d_move rfl) ?_
 refine wI (d_move rfl) ?_
 refine wI (d_rem (k := .i64) (m := a) (n := ((m : Nat) : Int)) rfl rfl (by omega) (r := Int.tmod a (m : Int)) rfl) ?_
 refine wF ([(eI a), (eN m), undef, undef, (eN 0), undef, (eI a), (eN m), (eI (Int.tmod a (m : Int)))] ++ (us 6)) ?_
 refine wI (d_assign rfl) ?_
 refine wF ([(eI a), (eN m), undef, undef, (eN 0), (eI (Int.tmod a (m : Int))), (eI a), (eN m), (eI (Int.tmod a (m : Int)))] ++ (us 6)) ?_
 refine wpL.done ?_
 refine then_n ?_
 refine wpIn_seq ?_
 refine wpIn_seq ?_
 refine plain ?_
 refine wI (d_move rfl) ?_
 refine wI (d_lss (k := .i64) (m := Int.tmod a (m : Int)) (n := 0) rfl rfl rfl) ?_
 refine wF [(eI a), (eN m), undef, undef, (eN 0), (eI (Int.tmod a (m : Int))), (eI a), (eN m), (eI (Int.tmod a (m : Int))), (eI (Int.tmod a (m : Int))), (Value.bool (decide (Int.tmod a (m : Int) < 0))), undef, undef, undef, undef] ?_
 refine wpL.done ?_
 refine then_n ?_
 refine cond_if rfl (fun k1 => ?_) (fun k1 => ?_)
 ·
  refine plain ?_
  refine wI (d_move rfl) ?_
  refine wI (d_move rfl) ?_
  refine wI (d_add (k := .i64) (m := Int.tmod a (m : Int)) (n := ((m : Nat) : Int)) rfl rfl (r := (((a % (m : Int)).toNat : Nat) : Int)) (tmm_neg hm hm2 k1)) ?_
  refine wF [(eI a), (eN m), undef, undef, (eN 0), (eI (Int.tmod a (m : Int))), (eI a), (eN m), (eI (Int.tmod a (m : Int))), (eI (Int.tmod a (m : Int))), (Value.bool (decide (Int.tmod a (m : Int) < 0))), (eI (Int.tmod a (m : Int))), (eN m), (eN ((a % (m : Int)).toNat)), undef] ?_
  refine wI (d_assign rfl) ?_
  refine wF [(eI a), (eN m), undef, undef, (eN 0), (eN ((a % (m : Int)).toNat)), (eI a), (eN m), (eI (Int.tmod a (m : Int))), (eI (Int.tmod a (m : Int))), (Value.bool (decide (Int.tmod a (m : Int) < 0))), (eI (Int.tmod a (m : Int))), (eN m), (eN ((a % (m : Int)).toNat)), undef] ?_
  refine wpL.done ?_
  refine then_n ?_
  refine wpIn_seq ?_
  refine plain ?_
  refine wI (d_move rfl) ?_
  refine wI (d_assign rfl) ?_
  refine wF [(eI a), (eN m), undef, undef, (eN ((a % (m : Int)).toNat)), (eN ((a % (m : Int)).toNat)), (eI a), (eN m), (eI (Int.tmod a (m : Int))), (eI (Int.tmod a (m : Int))), (Value.bool (decide (Int.tmod a (m : Int) < 0))), (eI (Int.tmod a (m : Int))), (eN m), (eN ((a % (m : Int)).toNat)), (eN ((a % (m : Int)).toNat))] ?_
  refine wpL.done ?_
  refine then_n ?_
  refine wpIn_ret ?_
  refine leave0 (v := (eN ((a % (m : Int)).toNat))) (res1 Try.results43 rfl) ?_
  exact ⟨rfl, oW⟩
 refine wp_eq (l' := [(eI a), (eN m), undef, undef, (eN 0), (eN ((a % (m : Int)).toNat)), (eI a), (eN m), (eN ((a % (m : Int)).toNat)), (eN ((a % (m : Int)).toNat)), (Value.bool (decide (Int.tmod a (m : Int) < 0))), undef, undef, undef, undef]) (Eq.trans (Eq.trans (show ([(eI a), (eN m), undef, undef, (eN 0), (eI (Int.tmod a (m : Int))), (eI a), (eN m), (eI (Int.tmod a (m : Int))), (eI (Int.tmod a (m : Int))), (Value.bool (decide (Int.tmod a (m : Int) < 0))), undef, undef, undef, undef] : List Value) = [(eI a), (eN m), undef, undef, (eN 0), (eN ((a % (m : Int)).toNat)), (eI a), (eN m), (eI (Int.tmod a (m : Int))), (eI (Int.tmod a (m : Int))), (Value.bool (decide (Int.tmod a (m : Int) < 0))), undef, undef, undef, undef] from reslot [(eI a), (eN m), undef, undef, (eN 0), (eI (Int.tmod a (m : Int))), (eI a), (eN m), (eI (Int.tmod a (m : Int))), (eI (Int.tmod a (m : Int))), (Value.bool (decide (Int.tmod a (m : Int) < 0))), undef, undef, undef, undef] 5 (tmm_pos hm k1)) (show ([(eI a), (eN m), undef, undef, (eN 0), (eN ((a % (m : Int)).toNat)), (eI a), (eN m), (eI (Int.tmod a (m : Int))), (eI (Int.tmod a (m : Int))), (Value.bool (decide (Int.tmod a (m : Int) < 0))), undef, undef, undef, undef] : List Value) = [(eI a), (eN m), undef, undef, (eN 0), (eN ((a % (m : Int)).toNat)), (eI a), (eN m), (eN ((a % (m : Int)).toNat)), (eI (Int.tmod a (m : Int))), (Value.bool (decide (Int.tmod a (m : Int) < 0))), undef, undef, undef, undef] from reslot [(eI a), (eN m), undef, undef, (eN 0), (eN ((a % (m : Int)).toNat)), (eI a), (eN m), (eI (Int.tmod a (m : Int))), (eI (Int.tmod a (m : Int))), (Value.bool (decide (Int.tmod a (m : Int) < 0))), undef, undef, undef, undef] 8 (tmm_pos hm k1))) (show ([(eI a), (eN m), undef, undef, (eN 0), (eN ((a % (m : Int)).toNat)), (eI a), (eN m), (eN ((a % (m : Int)).toNat)), (eI (Int.tmod a (m : Int))), (Value.bool (decide (Int.tmod a (m : Int) < 0))), undef, undef, undef, undef] : List Value) = [(eI a), (eN m), undef, undef, (eN 0), (eN ((a % (m : Int)).toNat)), (eI a), (eN m), (eN ((a % (m : Int)).toNat)), (eN ((a % (m : Int)).toNat)), (Value.bool (decide (Int.tmod a (m : Int) < 0))), undef, undef, undef, undef] from reslot [(eI a), (eN m), undef, undef, (eN 0), (eN ((a % (m : Int)).toNat)), (eI a), (eN m), (eN ((a % (m : Int)).toNat)), (eI (Int.tmod a (m : Int))), (Value.bool (decide (Int.tmod a (m : Int) < 0))), undef, undef, undef, undef] 9 (tmm_pos hm k1))) ?_
 refine wpIn_skip ?_
 refine then_n ?_
 refine wpIn_seq ?_
 refine plain ?_
 refine wI (d_move rfl) ?_
 refine wI (d_assign rfl) ?_
 refine wF [(eI a), (eN m), undef, undef, (eN ((a % (m : Int)).toNat)), (eN ((a % (m : Int)).toNat)), (eI a), (eN m), (eN ((a % (m : Int)).toNat)), (eN ((a % (m : Int)).toNat)), (Value.bool (decide (Int.tmod a (m : Int) < 0))), undef, undef, undef, (eN ((a % (m : Int)).toNat))] ?_
 refine wpL.done ?_
 refine then_n ?_
 refine wpIn_ret ?_
 refine leave0 (v := (eN ((a % (m : Int)).toNat))) (res1 Try.results43 rfl) ?_
 exact ⟨rfl, oW⟩

set_option maxRecDepth 20000 in
set_option maxHeartbeats 1000000 in
theorem l4Places_ok (la : List Int) (n m : Nat) (u1 : Value) (W : World) (h1 : Ps No (Seq kI la u1) W) (gn : 0 < n) (gn2 : n ≤ 1000000) (gm : m ≤ 100000) (gl : la.length ≤ 140737488351232) :
    CW Try.prog 23 #[u1, (eN n), (eN m)] W (Rt (ROw 3 eN (placesL la n m) W)) := by
 have oW : Only No W W := Only.refl _ _
 refine enter (al := [u1, (eN n), (eN m)]) (k := 49) (l := ([u1, (eN n), (eN m)] ++ (us 49))) Try.func23 rfl Try.ntmps23 rfl rfl ?_
 refine wpIn_seq ?_
 refine plain ?_
 refine wI (d_assign rfl) ?_
 refine wF ([u1, (eN n), (eN m), undef, undef, undef, (Value.slice none 0 0)] ++ (us 45)) ?_
 refine wpL.done ?_
 refine then_n ?_
 refine wpIn_seq ?_
 refine plain ?_
 refine wI (d_assign rfl) ?_
 refine wF ([u1, (eN n), (eN m), undef, undef, undef, (Value.slice none 0 0), (Value.slice none 0 0)] ++ (us 44)) ?_
 refine wpL.done ?_
 have a11 : Ow 3 1 none (Value.slice none 0 0) ([] : List (Nat)).length (([] : List (Nat)).map eN) W := Ow.nil _ _ _
 have q_oW_out : Fr none none W.heap.size := Fr.none
 replace h1 := h1.qnone
 refine then_n ?_
 refine wpIn_seq ?_
 refine wpIn_seq ?_
 refine plain ?_
 refine wI (d_assign rfl) ?_
 refine wF ([u1, (eN n), (eN m), undef, undef, undef, (Value.slice none 0 0), (Value.slice none 0 0), (eN 0)] ++ (us 43)) ?_
 refine wpL.done ?_
 refine then_n ?_
 refine wpIn_block ?_
 have h_lts_out := a11.lts
 refine loop2 (fun (s_ : (Nat) × (Option Nat) × (Value)) => match s_ with | ⟨i, bo_out, u_out⟩ => fun (z : Nat → Value) => (([u1, (eN n), (eN m), undef, undef, undef, (Value.slice none 0 0), u_out, (eN i)] ++ (zs z 9 42 ++ [undef])) : List Value)) (fun (s_ : (Nat) × (Option Nat) × (Value)) => match s_ with | ⟨i, bo_out, u_out⟩ => fun (w_ : World) => (i ≤ la.length) ∧ Only (Orq none No) W w_ ∧ Ow 3 1 bo_out u_out (plTo la n m i).length ((plTo la n m i).map eN) w_ ∧ Fr bo_out none W.heap.size) (fun (s_ : (Nat) × (Option Nat) × (Value)) => match s_ with | ⟨i, bo_out, u_out⟩ => la.length - i) ⟨0, none, (Value.slice none 0 0)⟩ rfl ?_ ?_
 ·
  refine ⟨?_, ?_, ?_, ?_⟩
  ·
   exact Nat.zero_le _
  ·
   exact Only.refl _ _
  ·
   exact a11
  ·
   exact Fr.same
 rintro ⟨i, bo_out, u_out⟩ z w13 ⟨hi, o12, a11, qq_out⟩
 (try dsimp only)
 replace h1 := h1.re o12 (orq_mono no_any) (xx_re qq_out xx_id)
 have tq_oW := oW.size
 replace oW := oW.tail o12 (tl_q q_oW_out (fun _ e => by cases e) tl_no)
 replace q_oW_out := qtr qq_out q_oW_out tq_oW
 have q_o12_out := qq_out
 refine wpIn_seq ?_
 refine wpIn_seq ?_
 by_cases c0 : i < la.length
 ·
  refine plain ?_
  refine wI (d_move rfl) ?_
  refine wI (d_move rfl) ?_
  refine wI (d_lenS rfl Try.underlying29 rfl h1) ?_
  refine wF ([u1, (eN n), (eN m), undef, undef, undef, (Value.slice none 0 0), u_out, (eN i), (z 9), (z 10), (z 11), (eN i), u1, (eN la.length)] ++ (zs z 15 36 ++ [undef])) ?_
  refine wI (n_lss (a := i) (b := la.length) rfl rfl (decide_eq_true c0)) ?_
  refine wI (d_move rfl) ?_
  refine wpL.onis rfl rfl rfl (nb rfl) rfl (d_move rfl) ?_
  refine wF ([u1, (eN n), (eN m), undef, undef, undef, (Value.slice none 0 0), u_out, (eN i), (z 9), (z 10), (z 11), (eN i), u1, (eN la.length), (Value.bool true), (Value.bool true), u_out] ++ (zs z 18 33 ++ [undef])) ?_
  refine wpL.onis rfl rfl rfl (nb rfl) rfl (d_lenS rfl Try.underlying29 rfl (a11.seq (X := No) (fun _ _ h => h))) ?_
  refine wpL.onis rfl rfl rfl (nb rfl) rfl (d_move rfl) ?_
  refine wpL.onis rfl rfl rfl (nb rfl) rfl (n_lss (a := ((plTo la n m i).length)) (b := m) rfl rfl rfl) ?_
  refine wF ([u1, (eN n), (eN m), undef, undef, undef, (Value.slice none 0 0), u_out, (eN i), (z 9), (z 10), (z 11), (eN i), u1, (eN la.length), (Value.bool true), (Value.bool true), u_out, (eN ((plTo la n m i).length)), (eN m), (Value.bool (decide (((plTo la n m i).length) < m)))] ++ (zs z 21 30 ++ [undef])) ?_
  refine wI (d_pick (b := true) (v := (Value.bool (decide (((plTo la n m i).length) < m)))) rfl rfl) ?_
  refine wF ([u1, (eN n), (eN m), undef, undef, undef, (Value.slice none 0 0), u_out, (eN i), (z 9), (z 10), (z 11), (eN i), u1, (eN la.length), (Value.bool true), (Value.bool true), u_out, (eN ((plTo la n m i).length)), (eN m), (Value.bool (decide (((plTo la n m i).length) < m))), (Value.bool (decide (((plTo la n m i).length) < m)))] ++ (zs z 22 29 ++ [undef])) ?_
  refine wpL.done ?_
  refine then_n ?_
  refine forget (fun zf14 => ([u1, (eN n), (eN m), undef, undef, undef, (Value.slice none 0 0), u_out, (eN i), (zf14 9), (z 10), (z 11)] ++ (zs zf14 12 9 ++ [(Value.bool (decide (((plTo la n m i).length) < m)))] ++ (zs zf14 22 29 ++ [undef])))) (by kernel_rfl) (fun zf14 => ?_)
  refine cond_if rfl (fun c1 => ?_) (fun c1 => ?_)
  ·
   refine wpIn_skip ?_
   refine then_n ?_
   refine wpIn_seq ?_
   refine wpIn_block ?_
   refine wpIn_seq ?_
   refine plain ?_
   refine wI (d_move rfl) ?_
   refine wI (d_move rfl) ?_
   refine wI (d_ix (i := i) (xs := la) Try.underlying29 s_ti3 rfl h1 (show _ = Value.int _ ((i : Nat) : Int) from rfl) (by first | omega | (simp; done) | (simp; omega))) ?_
   refine wF ([u1, (eN n), (eN m), undef, undef, undef, (Value.slice none 0 0), u_out, (eN i), (zf14 9), (z 10), (z 11)] ++ (zs zf14 12 9 ++ [(Value.bool (decide (((plTo la n m i).length) < m))), (zf14 22), (zf14 23), u1, (eN i), (ixp u1 i)] ++ (zs zf14 27 24 ++ [undef]))) ?_
   refine wI (d_ldx (i := i) (xs := la) (enc := eI) (v := (la.getD i 0)) ⟨_, Try.underlying3, rfl⟩ rfl h1 (g_at (by first | omega | (simp; done) | (simp; omega)))) ?_
   refine wI (d_move rfl) ?_
   refine wO (d_call (xl := [.tmp 27, .tmp 28]) (al := [(eI (la.getD i 0)), (eN n)]) Try.func43 (by kernel_rfl) rfl rfl rfl (l4within_ok (la.getD i 0) n _ (by omega) (by omega))) ?_
   rintro _ w15 ⟨rfl, o16⟩
   replace h1 := h1.step0 o16
   replace a11 := a11.step0 o16
   replace oW := oW.tail0 o16
   replace o12 := o12.tail0 o16
   refine wF ([u1, (eN n), (eN m), undef, undef, undef, (Value.slice none 0 0), u_out, (eN i), (zf14 9), (z 10), (z 11)] ++ (zs zf14 12 9 ++ [(Value.bool (decide (((plTo la n m i).length) < m))), (zf14 22), (zf14 23), u1, (eN i), (ixp u1 i), (eI (la.getD i 0)), (eN n), (eN (((la.getD i 0) % ((n : Nat) : Int)).toNat))] ++ (zs zf14 30 21 ++ [undef]))) ?_
   refine wI (d_assign rfl) ?_
   refine wF ([u1, (eN n), (eN m), undef, undef, undef, (Value.slice none 0 0), u_out, (eN i), (eN (((la.getD i 0) % ((n : Nat) : Int)).toNat)), (z 10), (z 11)] ++ (zs zf14 12 9 ++ [(Value.bool (decide (((plTo la n m i).length) < m))), (zf14 22), (zf14 23), u1, (eN i), (ixp u1 i), (eI (la.getD i 0)), (eN n), (eN (((la.getD i 0) % ((n : Nat) : Int)).toNat))] ++ (zs zf14 30 21 ++ [undef]))) ?_
   refine wpL.done ?_
   refine then_n ?_
   refine wpIn_seq ?_
   refine plain ?_
   refine wI (d_assign rfl) ?_
   refine wF ([u1, (eN n), (eN m), undef, undef, undef, (Value.slice none 0 0), u_out, (eN i), (eN (((la.getD i 0) % ((n : Nat) : Int)).toNat)), (Value.bool false), (z 11)] ++ (zs zf14 12 9 ++ [(Value.bool (decide (((plTo la n m i).length) < m))), (zf14 22), (zf14 23), u1, (eN i), (ixp u1 i), (eI (la.getD i 0)), (eN n), (eN (((la.getD i 0) % ((n : Nat) : Int)).toNat))] ++ (zs zf14 30 21 ++ [undef]))) ?_
   refine wpL.done ?_
   refine fr_eq (l' := ([u1, (eN n), (eN m), undef, undef, undef, (Value.slice none 0 0), u_out, (eN i), (eN (((la.getD i 0) % ((n : Nat) : Int)).toNat)), (Value.bool (decide (((la.getD i 0) % ((n : Nat) : Int)).toNat ∈ (plTo la n m i).take 0))), (z 11)] ++ (zs zf14 12 9 ++ [(Value.bool (decide (((plTo la n m i).length) < m))), (zf14 22), (zf14 23), u1, (eN i), (ixp u1 i), (eI (la.getD i 0)), (eN n), (eN (((la.getD i 0) % ((n : Nat) : Int)).toNat))] ++ (zs zf14 30 21 ++ [undef])))) (show (([u1, (eN n), (eN m), undef, undef, undef, (Value.slice none 0 0), u_out, (eN i), (eN (((la.getD i 0) % ((n : Nat) : Int)).toNat)), (Value.bool false), (z 11)] ++ (zs zf14 12 9 ++ [(Value.bool (decide (((plTo la n m i).length) < m))), (zf14 22), (zf14 23), u1, (eN i), (ixp u1 i), (eI (la.getD i 0)), (eN n), (eN (((la.getD i 0) % ((n : Nat) : Int)).toNat))] ++ (zs zf14 30 21 ++ [undef]))) : List Value) = ([u1, (eN n), (eN m), undef, undef, undef, (Value.slice none 0 0), u_out, (eN i), (eN (((la.getD i 0) % ((n : Nat) : Int)).toNat)), (Value.bool (decide (((la.getD i 0) % ((n : Nat) : Int)).toNat ∈ (plTo la n m i).take 0))), (z 11)] ++ (zs zf14 12 9 ++ [(Value.bool (decide (((plTo la n m i).length) < m))), (zf14 22), (zf14 23), u1, (eN i), (ixp u1 i), (eI (la.getD i 0)), (eN n), (eN (((la.getD i 0) % ((n : Nat) : Int)).toNat))] ++ (zs zf14 30 21 ++ [undef]))) from reslot ([u1, (eN n), (eN m), undef, undef, undef, (Value.slice none 0 0), u_out, (eN i), (eN (((la.getD i 0) % ((n : Nat) : Int)).toNat)), (Value.bool false), (z 11)] ++ (zs zf14 12 9 ++ [(Value.bool (decide (((plTo la n m i).length) < m))), (zf14 22), (zf14 23), u1, (eN i), (ixp u1 i), (eI (la.getD i 0)), (eN n), (eN (((la.getD i 0) % ((n : Nat) : Int)).toNat))] ++ (zs zf14 30 21 ++ [undef]))) 10 (congrArg Value.bool (decide_eq_false (by simp)).symm)) ?_
   refine then_n ?_
   refine wpIn_seq ?_
   refine wpIn_seq ?_
   refine plain ?_
   refine wI (d_assign rfl) ?_
   refine wF ([u1, (eN n), (eN m), undef, undef, undef, (Value.slice none 0 0), u_out, (eN i), (eN (((la.getD i 0) % ((n : Nat) : Int)).toNat)), (Value.bool (decide (((la.getD i 0) % ((n : Nat) : Int)).toNat ∈ (plTo la n m i).take 0))), (eN 0)] ++ (zs zf14 12 9 ++ [(Value.bool (decide (((plTo la n m i).length) < m))), (zf14 22), (zf14 23), u1, (eN i), (ixp u1 i), (eI (la.getD i 0)), (eN n), (eN (((la.getD i 0) % ((n : Nat) : Int)).toNat))] ++ (zs zf14 30 21 ++ [undef]))) ?_
   refine wpL.done ?_
   refine then_n ?_
   refine wpIn_block ?_
   refine loop2 (fun (j : (Nat)) => fun (z : Nat → Value) => (([u1, (eN n), (eN m), undef, undef, undef, (Value.slice none 0 0), u_out, (eN i), (eN (((la.getD i 0) % ((n : Nat) : Int)).toNat)), (Value.bool (decide (((la.getD i 0) % ((n : Nat) : Int)).toNat ∈ (plTo la n m i).take j))), (eN j)] ++ (zs zf14 12 9 ++ [(Value.bool (decide (((plTo la n m i).length) < m))), (zf14 22), (zf14 23), u1, (eN i), (ixp u1 i), (eI (la.getD i 0)), (eN n), (eN (((la.getD i 0) % ((n : Nat) : Int)).toNat))] ++ (zs z 30 15 ++ (zs zf14 45 6 ++ [undef])))) : List Value)) (fun (j : (Nat)) => fun (w_ : World) => (j ≤ (plTo la n m i).length) ∧ Only (Orq bo_out No) w15 w_ ∧ Ow 3 1 bo_out u_out (plTo la n m i).length ((plTo la n m i).map eN) w_) (fun (j : (Nat)) => (plTo la n m i).length - j) 0 rfl ?_ ?_
   ·
    refine ⟨?_, ?_, ?_⟩
    ·
     exact Nat.zero_le _
    ·
     exact Only.refl _ _
    ·
     exact a11
   rintro j z w18 ⟨hj, o17, a11⟩
   (try dsimp only)
   replace h1 := h1.step o17 (orq_mono no_any)
   replace oW := oW.tail o17 (tl_q q_oW_out (fun _ e => by cases e) tl_no)
   replace o12 := o12.tail o17 (tl_q q_o12_out (fun k e => (.inl e)) tl_no)
   have q_o17_out : Fr bo_out bo_out w15.heap.size := Fr.same
   refine wpIn_seq ?_
   refine wpIn_seq ?_
   refine plain ?_
   refine wI (d_move rfl) ?_
   refine wI (d_move rfl) ?_
   refine wI (d_lenS rfl Try.underlying29 rfl (a11.seq (X := No) (fun _ _ h => h))) ?_
   refine wF ([u1, (eN n), (eN m), undef, undef, undef, (Value.slice none 0 0), u_out, (eN i), (eN (((la.getD i 0) % ((n : Nat) : Int)).toNat)), (Value.bool (decide (((la.getD i 0) % ((n : Nat) : Int)).toNat ∈ (plTo la n m i).take j))), (eN j)] ++ (zs zf14 12 9 ++ [(Value.bool (decide (((plTo la n m i).length) < m))), (zf14 22), (zf14 23), u1, (eN i), (ixp u1 i), (eI (la.getD i 0)), (eN n), (eN (((la.getD i 0) % ((n : Nat) : Int)).toNat)), (eN j), u_out, (eN ((plTo la n m i).length))] ++ (zs z 33 12 ++ (zs zf14 45 6 ++ [undef])))) ?_
   refine wI (n_lss (a := j) (b := ((plTo la n m i).length)) rfl rfl rfl) ?_
   refine wF ([u1, (eN n), (eN m), undef, undef, undef, (Value.slice none 0 0), u_out, (eN i), (eN (((la.getD i 0) % ((n : Nat) : Int)).toNat)), (Value.bool (decide (((la.getD i 0) % ((n : Nat) : Int)).toNat ∈ (plTo la n m i).take j))), (eN j)] ++ (zs zf14 12 9 ++ [(Value.bool (decide (((plTo la n m i).length) < m))), (zf14 22), (zf14 23), u1, (eN i), (ixp u1 i), (eI (la.getD i 0)), (eN n), (eN (((la.getD i 0) % ((n : Nat) : Int)).toNat)), (eN j), u_out, (eN ((plTo la n m i).length)), (Value.bool (decide (j < ((plTo la n m i).length))))] ++ (zs z 34 11 ++ (zs zf14 45 6 ++ [undef])))) ?_
   refine wpL.done ?_
   refine then_n ?_
   refine cond_if rfl (fun c2 => ?_) (fun c2 => ?_)
   ·
    refine wpIn_skip ?_
    refine then_n ?_
    refine wpIn_seq ?_
    refine wpIn_block ?_
    by_cases e0 : ((la.getD i 0) % ((n : Nat) : Int)).toNat ∈ (plTo la n m i).take j
    ·
     refine wp_eq (l' := ([u1, (eN n), (eN m), undef, undef, undef, (Value.slice none 0 0), u_out, (eN i), (eN (((la.getD i 0) % ((n : Nat) : Int)).toNat)), (Value.bool true), (eN j)] ++ (zs zf14 12 9 ++ [(Value.bool (decide (((plTo la n m i).length) < m))), (zf14 22), (zf14 23), u1, (eN i), (ixp u1 i), (eI (la.getD i 0)), (eN n), (eN (((la.getD i 0) % ((n : Nat) : Int)).toNat)), (eN j), u_out, (eN ((plTo la n m i).length)), (Value.bool (decide (j < ((plTo la n m i).length))))] ++ (zs z 34 11 ++ (zs zf14 45 6 ++ [undef]))))) (show (([u1, (eN n), (eN m), undef, undef, undef, (Value.slice none 0 0), u_out, (eN i), (eN (((la.getD i 0) % ((n : Nat) : Int)).toNat)), (Value.bool (decide (((la.getD i 0) % ((n : Nat) : Int)).toNat ∈ (plTo la n m i).take j))), (eN j)] ++ (zs zf14 12 9 ++ [(Value.bool (decide (((plTo la n m i).length) < m))), (zf14 22), (zf14 23), u1, (eN i), (ixp u1 i), (eI (la.getD i 0)), (eN n), (eN (((la.getD i 0) % ((n : Nat) : Int)).toNat)), (eN j), u_out, (eN ((plTo la n m i).length)), (Value.bool (decide (j < ((plTo la n m i).length))))] ++ (zs z 34 11 ++ (zs zf14 45 6 ++ [undef])))) : List Value) = ([u1, (eN n), (eN m), undef, undef, undef, (Value.slice none 0 0), u_out, (eN i), (eN (((la.getD i 0) % ((n : Nat) : Int)).toNat)), (Value.bool true), (eN j)] ++ (zs zf14 12 9 ++ [(Value.bool (decide (((plTo la n m i).length) < m))), (zf14 22), (zf14 23), u1, (eN i), (ixp u1 i), (eI (la.getD i 0)), (eN n), (eN (((la.getD i 0) % ((n : Nat) : Int)).toNat)), (eN j), u_out, (eN ((plTo la n m i).length)), (Value.bool (decide (j < ((plTo la n m i).length))))] ++ (zs z 34 11 ++ (zs zf14 45 6 ++ [undef])))) from reslot ([u1, (eN n), (eN m), undef, undef, undef, (Value.slice none 0 0), u_out, (eN i), (eN (((la.getD i 0) % ((n : Nat) : Int)).toNat)), (Value.bool (decide (((la.getD i 0) % ((n : Nat) : Int)).toNat ∈ (plTo la n m i).take j))), (eN j)] ++ (zs zf14 12 9 ++ [(Value.bool (decide (((plTo la n m i).length) < m))), (zf14 22), (zf14 23), u1, (eN i), (ixp u1 i), (eI (la.getD i 0)), (eN n), (eN (((la.getD i 0) % ((n : Nat) : Int)).toNat)), (eN j), u_out, (eN ((plTo la n m i).length)), (Value.bool (decide (j < ((plTo la n m i).length))))] ++ (zs z 34 11 ++ (zs zf14 45 6 ++ [undef])))) 10 (congrArg Value.bool (decide_eq_true e0))) ?_
     refine plain ?_
     refine wI (d_move rfl) ?_
     refine wI (d_move rfl) ?_
     refine wF ([u1, (eN n), (eN m), undef, undef, undef, (Value.slice none 0 0), u_out, (eN i), (eN (((la.getD i 0) % ((n : Nat) : Int)).toNat)), (Value.bool true), (eN j)] ++ (zs zf14 12 9 ++ [(Value.bool (decide (((plTo la n m i).length) < m))), (zf14 22), (zf14 23), u1, (eN i), (ixp u1 i), (eI (la.getD i 0)), (eN n), (eN (((la.getD i 0) % ((n : Nat) : Int)).toNat)), (eN j), u_out, (eN ((plTo la n m i).length)), (Value.bool (decide (j < ((plTo la n m i).length)))), (z 34), (z 35), (Value.bool true), (Value.bool true)] ++ (zs z 38 7 ++ (zs zf14 45 6 ++ [undef])))) ?_
     refine wpL.off rfl rfl rfl (nb rfl) rfl ?_
     refine wpL.off rfl rfl rfl (nb rfl) rfl ?_
     refine wpL.off rfl rfl rfl (nb rfl) rfl ?_
     refine wF ([u1, (eN n), (eN m), undef, undef, undef, (Value.slice none 0 0), u_out, (eN i), (eN (((la.getD i 0) % ((n : Nat) : Int)).toNat)), (Value.bool true), (eN j)] ++ (zs zf14 12 9 ++ [(Value.bool (decide (((plTo la n m i).length) < m))), (zf14 22), (zf14 23), u1, (eN i), (ixp u1 i), (eI (la.getD i 0)), (eN n), (eN (((la.getD i 0) % ((n : Nat) : Int)).toNat)), (eN j), u_out, (eN ((plTo la n m i).length)), (Value.bool (decide (j < ((plTo la n m i).length)))), (z 34), (z 35), (Value.bool true), (Value.bool true), undef, undef, undef, (z 41), (z 42), (z 43), (z 44)] ++ (zs zf14 45 6 ++ [undef]))) ?_
     refine wpL.off rfl rfl rfl (nb rfl) rfl ?_
     refine wpL.off rfl rfl rfl (nb rfl) rfl ?_
     refine wpL.off rfl rfl rfl (nb rfl) rfl ?_
     refine wI (d_pick (b := true) (v := (Value.bool true)) rfl rfl) ?_
     refine wF ([u1, (eN n), (eN m), undef, undef, undef, (Value.slice none 0 0), u_out, (eN i), (eN (((la.getD i 0) % ((n : Nat) : Int)).toNat)), (Value.bool true), (eN j)] ++ (zs zf14 12 9 ++ [(Value.bool (decide (((plTo la n m i).length) < m))), (zf14 22), (zf14 23), u1, (eN i), (ixp u1 i), (eI (la.getD i 0)), (eN n), (eN (((la.getD i 0) % ((n : Nat) : Int)).toNat)), (eN j), u_out, (eN ((plTo la n m i).length)), (Value.bool (decide (j < ((plTo la n m i).length)))), (z 34), (z 35), (Value.bool true), (Value.bool true)] ++ (us 6 ++ [(Value.bool true)] ++ (zs zf14 45 6 ++ [undef])))) ?_
     refine wI (d_assign rfl) ?_
     refine wF ([u1, (eN n), (eN m), undef, undef, undef, (Value.slice none 0 0), u_out, (eN i), (eN (((la.getD i 0) % ((n : Nat) : Int)).toNat)), (Value.bool true), (eN j)] ++ (zs zf14 12 9 ++ [(Value.bool (decide (((plTo la n m i).length) < m))), (zf14 22), (zf14 23), u1, (eN i), (ixp u1 i), (eI (la.getD i 0)), (eN n), (eN (((la.getD i 0) % ((n : Nat) : Int)).toNat)), (eN j), u_out, (eN ((plTo la n m i).length)), (Value.bool (decide (j < ((plTo la n m i).length)))), (z 34), (z 35), (Value.bool true), (Value.bool true)] ++ (us 6 ++ [(Value.bool true)] ++ (zs zf14 45 6 ++ [undef])))) ?_
     refine wpL.done ?_
     refine inb_n (then_n ?_)
     refine plain ?_
     refine wI (d_move rfl) ?_
     refine wI (n_add (a := j) (b := 1) rfl rfl (by omega)) ?_
     refine wI (d_assign rfl) ?_
     refine wF ([u1, (eN n), (eN m), undef, undef, undef, (Value.slice none 0 0), u_out, (eN i), (eN (((la.getD i 0) % ((n : Nat) : Int)).toNat)), (Value.bool true), (eN (j + 1))] ++ (zs zf14 12 9 ++ [(Value.bool (decide (((plTo la n m i).length) < m))), (zf14 22), (zf14 23), u1, (eN i), (ixp u1 i), (eI (la.getD i 0)), (eN n), (eN (((la.getD i 0) % ((n : Nat) : Int)).toNat)), (eN j), u_out, (eN ((plTo la n m i).length)), (Value.bool (decide (j < ((plTo la n m i).length)))), (eN j), (eN (j + 1)), (Value.bool true), (Value.bool true)] ++ (us 6 ++ [(Value.bool true)] ++ (zs zf14 45 6 ++ [undef])))) ?_
     refine wpL.done ?_
     refine then_n ?_
     refine ⟨([u1, (eN n), (eN m), undef, undef, undef, (Value.slice none 0 0), u_out, (eN i), (eN (((la.getD i 0) % ((n : Nat) : Int)).toNat)), (Value.bool (decide (((la.getD i 0) % ((n : Nat) : Int)).toNat ∈ (plTo la n m i).take (j + 1)))), (eN (j + 1))] ++ (zs zf14 12 9 ++ [(Value.bool (decide (((plTo la n m i).length) < m))), (zf14 22), (zf14 23), u1, (eN i), (ixp u1 i), (eI (la.getD i 0)), (eN n), (eN (((la.getD i 0) % ((n : Nat) : Int)).toNat)), (eN j), u_out, (eN ((plTo la n m i).length)), (Value.bool (decide (j < ((plTo la n m i).length)))), (eN j), (eN (j + 1)), (Value.bool true), (Value.bool true)] ++ (us 6 ++ [(Value.bool true)] ++ (zs zf14 45 6 ++ [undef])))), (j + 1), (congrArg (fun l_ => fr l_ _) (show (([u1, (eN n), (eN m), undef, undef, undef, (Value.slice none 0 0), u_out, (eN i), (eN (((la.getD i 0) % ((n : Nat) : Int)).toNat)), (Value.bool true), (eN (j + 1))] ++ (zs zf14 12 9 ++ [(Value.bool (decide (((plTo la n m i).length) < m))), (zf14 22), (zf14 23), u1, (eN i), (ixp u1 i), (eI (la.getD i 0)), (eN n), (eN (((la.getD i 0) % ((n : Nat) : Int)).toNat)), (eN j), u_out, (eN ((plTo la n m i).length)), (Value.bool (decide (j < ((plTo la n m i).length)))), (eN j), (eN (j + 1)), (Value.bool true), (Value.bool true)] ++ (us 6 ++ [(Value.bool true)] ++ (zs zf14 45 6 ++ [undef])))) : List Value) = ([u1, (eN n), (eN m), undef, undef, undef, (Value.slice none 0 0), u_out, (eN i), (eN (((la.getD i 0) % ((n : Nat) : Int)).toNat)), (Value.bool (decide (((la.getD i 0) % ((n : Nat) : Int)).toNat ∈ (plTo la n m i).take (j + 1)))), (eN (j + 1))] ++ (zs zf14 12 9 ++ [(Value.bool (decide (((plTo la n m i).length) < m))), (zf14 22), (zf14 23), u1, (eN i), (ixp u1 i), (eI (la.getD i 0)), (eN n), (eN (((la.getD i 0) % ((n : Nat) : Int)).toNat)), (eN j), u_out, (eN ((plTo la n m i).length)), (Value.bool (decide (j < ((plTo la n m i).length)))), (eN j), (eN (j + 1)), (Value.bool true), (Value.bool true)] ++ (us 6 ++ [(Value.bool true)] ++ (zs zf14 45 6 ++ [undef])))) from reslot ([u1, (eN n), (eN m), undef, undef, undef, (Value.slice none 0 0), u_out, (eN i), (eN (((la.getD i 0) % ((n : Nat) : Int)).toNat)), (Value.bool true), (eN (j + 1))] ++ (zs zf14 12 9 ++ [(Value.bool (decide (((plTo la n m i).length) < m))), (zf14 22), (zf14 23), u1, (eN i), (ixp u1 i), (eI (la.getD i 0)), (eN n), (eN (((la.getD i 0) % ((n : Nat) : Int)).toNat)), (eN j), u_out, (eN ((plTo la n m i).length)), (Value.bool (decide (j < ((plTo la n m i).length)))), (eN j), (eN (j + 1)), (Value.bool true), (Value.bool true)] ++ (us 6 ++ [(Value.bool true)] ++ (zs zf14 45 6 ++ [undef])))) 10 (congrArg Value.bool (decide_eq_true ((mem_take_next c2).2 (.inl e0))).symm))), rfl, ⟨?_, ?_, ?_⟩, ?_⟩
     ·
      (try dsimp only)
      all_goals (omega)
     ·
      exact o17
     ·
      exact a11
     ·
      (try dsimp only)
      all_goals (omega)
    refine wp_eq (l' := ([u1, (eN n), (eN m), undef, undef, undef, (Value.slice none 0 0), u_out, (eN i), (eN (((la.getD i 0) % ((n : Nat) : Int)).toNat)), (Value.bool false), (eN j)] ++ (zs zf14 12 9 ++ [(Value.bool (decide (((plTo la n m i).length) < m))), (zf14 22), (zf14 23), u1, (eN i), (ixp u1 i), (eI (la.getD i 0)), (eN n), (eN (((la.getD i 0) % ((n : Nat) : Int)).toNat)), (eN j), u_out, (eN ((plTo la n m i).length)), (Value.bool (decide (j < ((plTo la n m i).length))))] ++ (zs z 34 11 ++ (zs zf14 45 6 ++ [undef]))))) (show (([u1, (eN n), (eN m), undef, undef, undef, (Value.slice none 0 0), u_out, (eN i), (eN (((la.getD i 0) % ((n : Nat) : Int)).toNat)), (Value.bool (decide (((la.getD i 0) % ((n : Nat) : Int)).toNat ∈ (plTo la n m i).take j))), (eN j)] ++ (zs zf14 12 9 ++ [(Value.bool (decide (((plTo la n m i).length) < m))), (zf14 22), (zf14 23), u1, (eN i), (ixp u1 i), (eI (la.getD i 0)), (eN n), (eN (((la.getD i 0) % ((n : Nat) : Int)).toNat)), (eN j), u_out, (eN ((plTo la n m i).length)), (Value.bool (decide (j < ((plTo la n m i).length))))] ++ (zs z 34 11 ++ (zs zf14 45 6 ++ [undef])))) : List Value) = ([u1, (eN n), (eN m), undef, undef, undef, (Value.slice none 0 0), u_out, (eN i), (eN (((la.getD i 0) % ((n : Nat) : Int)).toNat)), (Value.bool false), (eN j)] ++ (zs zf14 12 9 ++ [(Value.bool (decide (((plTo la n m i).length) < m))), (zf14 22), (zf14 23), u1, (eN i), (ixp u1 i), (eI (la.getD i 0)), (eN n), (eN (((la.getD i 0) % ((n : Nat) : Int)).toNat)), (eN j), u_out, (eN ((plTo la n m i).length)), (Value.bool (decide (j < ((plTo la n m i).length))))] ++ (zs z 34 11 ++ (zs zf14 45 6 ++ [undef])))) from reslot ([u1, (eN n), (eN m), undef, undef, undef, (Value.slice none 0 0), u_out, (eN i), (eN (((la.getD i 0) % ((n : Nat) : Int)).toNat)), (Value.bool (decide (((la.getD i 0) % ((n : Nat) : Int)).toNat ∈ (plTo la n m i).take j))), (eN j)] ++ (zs zf14 12 9 ++ [(Value.bool (decide (((plTo la n m i).length) < m))), (zf14 22), (zf14 23), u1, (eN i), (ixp u1 i), (eI (la.getD i 0)), (eN n), (eN (((la.getD i 0) % ((n : Nat) : Int)).toNat)), (eN j), u_out, (eN ((plTo la n m i).length)), (Value.bool (decide (j < ((plTo la n m i).length))))] ++ (zs z 34 11 ++ (zs zf14 45 6 ++ [undef])))) 10 (congrArg Value.bool (decide_eq_false e0))) ?_
    refine plain ?_
    refine wI (d_move rfl) ?_
    refine wI (d_move rfl) ?_
    refine wpL.onis rfl rfl rfl (nb rfl) rfl (d_move rfl) ?_
    refine wF ([u1, (eN n), (eN m), undef, undef, undef, (Value.slice none 0 0), u_out, (eN i), (eN (((la.getD i 0) % ((n : Nat) : Int)).toNat)), (Value.bool false), (eN j)] ++ (zs zf14 12 9 ++ [(Value.bool (decide (((plTo la n m i).length) < m))), (zf14 22), (zf14 23), u1, (eN i), (ixp u1 i), (eI (la.getD i 0)), (eN n), (eN (((la.getD i 0) % ((n : Nat) : Int)).toNat)), (eN j), u_out, (eN ((plTo la n m i).length)), (Value.bool (decide (j < ((plTo la n m i).length)))), (z 34), (z 35), (Value.bool false), (Value.bool false), u_out] ++ (zs z 39 6 ++ (zs zf14 45 6 ++ [undef])))) ?_
    refine wpL.onis rfl rfl rfl (nb rfl) rfl (d_move rfl) ?_
    refine wpL.onis rfl rfl rfl (nb rfl) rfl (d_ix (i := j) (xs := (plTo la n m i)) Try.underlying29 s_ti3 rfl (a11.seq (X := No) (fun _ _ h => h)) (show _ = Value.int _ ((j : Nat) : Int) from rfl) (by first | omega | (simp; done) | (simp; omega))) ?_
    refine wpL.onis rfl rfl rfl (nb rfl) rfl (d_ldx (i := j) (xs := (plTo la n m i)) (enc := eN) (v := ((plTo la n m i).getD j 0)) ⟨_, Try.underlying3, rfl⟩ rfl (a11.seq (X := No) (fun _ _ h => h)) (g_at (by first | omega | (simp; done) | (simp; omega)))) ?_
    refine wF ([u1, (eN n), (eN m), undef, undef, undef, (Value.slice none 0 0), u_out, (eN i), (eN (((la.getD i 0) % ((n : Nat) : Int)).toNat)), (Value.bool false), (eN j)] ++ (zs zf14 12 9 ++ [(Value.bool (decide (((plTo la n m i).length) < m))), (zf14 22), (zf14 23), u1, (eN i), (ixp u1 i), (eI (la.getD i 0)), (eN n), (eN (((la.getD i 0) % ((n : Nat) : Int)).toNat)), (eN j), u_out, (eN ((plTo la n m i).length)), (Value.bool (decide (j < ((plTo la n m i).length)))), (z 34), (z 35), (Value.bool false), (Value.bool false), u_out, (eN j), (ixp u_out j), (eN ((plTo la n m i).getD j 0)), (z 42), (z 43), (z 44)] ++ (zs zf14 45 6 ++ [undef]))) ?_
    refine wpL.onis rfl rfl rfl (nb rfl) rfl (d_move rfl) ?_
    refine wpL.onis rfl rfl rfl (nb rfl) rfl (n_eql (a := ((plTo la n m i).getD j 0)) (b := (((la.getD i 0) % ((n : Nat) : Int)).toNat)) rfl rfl rfl) ?_
    refine wI (d_pick (b := false) (v := (Value.bool (decide (((plTo la n m i).getD j 0) = (((la.getD i 0) % ((n : Nat) : Int)).toNat))))) rfl rfl) ?_
    refine wF ([u1, (eN n), (eN m), undef, undef, undef, (Value.slice none 0 0), u_out, (eN i), (eN (((la.getD i 0) % ((n : Nat) : Int)).toNat)), (Value.bool false), (eN j)] ++ (zs zf14 12 9 ++ [(Value.bool (decide (((plTo la n m i).length) < m))), (zf14 22), (zf14 23), u1, (eN i), (ixp u1 i), (eI (la.getD i 0)), (eN n), (eN (((la.getD i 0) % ((n : Nat) : Int)).toNat)), (eN j), u_out, (eN ((plTo la n m i).length)), (Value.bool (decide (j < ((plTo la n m i).length)))), (z 34), (z 35), (Value.bool false), (Value.bool false), u_out, (eN j), (ixp u_out j), (eN ((plTo la n m i).getD j 0)), (eN (((la.getD i 0) % ((n : Nat) : Int)).toNat)), (Value.bool (decide (((plTo la n m i).getD j 0) = (((la.getD i 0) % ((n : Nat) : Int)).toNat)))), (Value.bool (decide (((plTo la n m i).getD j 0) = (((la.getD i 0) % ((n : Nat) : Int)).toNat))))] ++ (zs zf14 45 6 ++ [undef]))) ?_
    refine wI (d_assign rfl) ?_
    refine wF ([u1, (eN n), (eN m), undef, undef, undef, (Value.slice none 0 0), u_out, (eN i), (eN (((la.getD i 0) % ((n : Nat) : Int)).toNat)), (Value.bool (decide (((plTo la n m i).getD j 0) = (((la.getD i 0) % ((n : Nat) : Int)).toNat)))), (eN j)] ++ (zs zf14 12 9 ++ [(Value.bool (decide (((plTo la n m i).length) < m))), (zf14 22), (zf14 23), u1, (eN i), (ixp u1 i), (eI (la.getD i 0)), (eN n), (eN (((la.getD i 0) % ((n : Nat) : Int)).toNat)), (eN j), u_out, (eN ((plTo la n m i).length)), (Value.bool (decide (j < ((plTo la n m i).length)))), (z 34), (z 35), (Value.bool false), (Value.bool false), u_out, (eN j), (ixp u_out j), (eN ((plTo la n m i).getD j 0)), (eN (((la.getD i 0) % ((n : Nat) : Int)).toNat)), (Value.bool (decide (((plTo la n m i).getD j 0) = (((la.getD i 0) % ((n : Nat) : Int)).toNat)))), (Value.bool (decide (((plTo la n m i).getD j 0) = (((la.getD i 0) % ((n : Nat) : Int)).toNat))))] ++ (zs zf14 45 6 ++ [undef]))) ?_
    refine wpL.done ?_
    refine inb_n (then_n ?_)
    refine forget (fun zf19 => ([u1, (eN n), (eN m), undef, undef, undef, (Value.slice none 0 0), u_out, (eN i), (eN (((la.getD i 0) % ((n : Nat) : Int)).toNat)), (Value.bool (decide (((plTo la n m i).getD j 0) = (((la.getD i 0) % ((n : Nat) : Int)).toNat)))), (eN j)] ++ (zs zf14 12 9 ++ [(Value.bool (decide (((plTo la n m i).length) < m))), (zf14 22), (zf14 23), u1, (eN i), (ixp u1 i), (eI (la.getD i 0)), (eN n), (eN (((la.getD i 0) % ((n : Nat) : Int)).toNat))] ++ (zs zf19 30 15 ++ (zs zf14 45 6 ++ [undef]))))) (by kernel_rfl) (fun zf19 => ?_)
    refine plain ?_
    refine wI (d_move rfl) ?_
    refine wI (n_add (a := j) (b := 1) rfl rfl (by omega)) ?_
    refine wI (d_assign rfl) ?_
    refine wF ([u1, (eN n), (eN m), undef, undef, undef, (Value.slice none 0 0), u_out, (eN i), (eN (((la.getD i 0) % ((n : Nat) : Int)).toNat)), (Value.bool (decide (((plTo la n m i).getD j 0) = (((la.getD i 0) % ((n : Nat) : Int)).toNat)))), (eN (j + 1))] ++ (zs zf14 12 9 ++ [(Value.bool (decide (((plTo la n m i).length) < m))), (zf14 22), (zf14 23), u1, (eN i), (ixp u1 i), (eI (la.getD i 0)), (eN n), (eN (((la.getD i 0) % ((n : Nat) : Int)).toNat)), (zf19 30), (zf19 31), (zf19 32), (zf19 33), (eN j), (eN (j + 1))] ++ (zs zf19 36 9 ++ (zs zf14 45 6 ++ [undef])))) ?_
    refine wpL.done ?_
    refine then_n ?_
    refine ⟨([u1, (eN n), (eN m), undef, undef, undef, (Value.slice none 0 0), u_out, (eN i), (eN (((la.getD i 0) % ((n : Nat) : Int)).toNat)), (Value.bool (decide (((la.getD i 0) % ((n : Nat) : Int)).toNat ∈ (plTo la n m i).take (j + 1)))), (eN (j + 1))] ++ (zs zf14 12 9 ++ [(Value.bool (decide (((plTo la n m i).length) < m))), (zf14 22), (zf14 23), u1, (eN i), (ixp u1 i), (eI (la.getD i 0)), (eN n), (eN (((la.getD i 0) % ((n : Nat) : Int)).toNat)), (zf19 30), (zf19 31), (zf19 32), (zf19 33), (eN j), (eN (j + 1))] ++ (zs zf19 36 9 ++ (zs zf14 45 6 ++ [undef])))), (j + 1), (congrArg (fun l_ => fr l_ _) (show (([u1, (eN n), (eN m), undef, undef, undef, (Value.slice none 0 0), u_out, (eN i), (eN (((la.getD i 0) % ((n : Nat) : Int)).toNat)), (Value.bool (decide (((plTo la n m i).getD j 0) = (((la.getD i 0) % ((n : Nat) : Int)).toNat)))), (eN (j + 1))] ++ (zs zf14 12 9 ++ [(Value.bool (decide (((plTo la n m i).length) < m))), (zf14 22), (zf14 23), u1, (eN i), (ixp u1 i), (eI (la.getD i 0)), (eN n), (eN (((la.getD i 0) % ((n : Nat) : Int)).toNat)), (zf19 30), (zf19 31), (zf19 32), (zf19 33), (eN j), (eN (j + 1))] ++ (zs zf19 36 9 ++ (zs zf14 45 6 ++ [undef])))) : List Value) = ([u1, (eN n), (eN m), undef, undef, undef, (Value.slice none 0 0), u_out, (eN i), (eN (((la.getD i 0) % ((n : Nat) : Int)).toNat)), (Value.bool (decide (((la.getD i 0) % ((n : Nat) : Int)).toNat ∈ (plTo la n m i).take (j + 1)))), (eN (j + 1))] ++ (zs zf14 12 9 ++ [(Value.bool (decide (((plTo la n m i).length) < m))), (zf14 22), (zf14 23), u1, (eN i), (ixp u1 i), (eI (la.getD i 0)), (eN n), (eN (((la.getD i 0) % ((n : Nat) : Int)).toNat)), (zf19 30), (zf19 31), (zf19 32), (zf19 33), (eN j), (eN (j + 1))] ++ (zs zf19 36 9 ++ (zs zf14 45 6 ++ [undef])))) from reslot ([u1, (eN n), (eN m), undef, undef, undef, (Value.slice none 0 0), u_out, (eN i), (eN (((la.getD i 0) % ((n : Nat) : Int)).toNat)), (Value.bool (decide (((plTo la n m i).getD j 0) = (((la.getD i 0) % ((n : Nat) : Int)).toNat)))), (eN (j + 1))] ++ (zs zf14 12 9 ++ [(Value.bool (decide (((plTo la n m i).length) < m))), (zf14 22), (zf14 23), u1, (eN i), (ixp u1 i), (eI (la.getD i 0)), (eN n), (eN (((la.getD i 0) % ((n : Nat) : Int)).toNat)), (zf19 30), (zf19 31), (zf19 32), (zf19 33), (eN j), (eN (j + 1))] ++ (zs zf19 36 9 ++ (zs zf14 45 6 ++ [undef])))) 10 (congrArg Value.bool (by rw [decide_eq_decide, mem_take_next c2]; exact ⟨.inr, fun h => h.resolve_left e0⟩)))), rfl, ⟨?_, ?_, ?_⟩, ?_⟩
    ·
     (try dsimp only)
     all_goals (omega)
    ·
     exact o17
    ·
     exact a11
    ·
     (try dsimp only)
     all_goals (omega)
   refine wpIn_exit ?_
   refine then_x (then_x (inb_e ?_))
   refine then_n ?_
   refine forget (fun zf20 => ([u1, (eN n), (eN m), undef, undef, undef, (Value.slice none 0 0), u_out, (eN i), (eN (((la.getD i 0) % ((n : Nat) : Int)).toNat)), (Value.bool (decide (((la.getD i 0) % ((n : Nat) : Int)).toNat ∈ (plTo la n m i).take j))), (eN j)] ++ (zs zf20 12 39 ++ [undef]))) (by kernel_rfl) (fun zf20 => ?_)
   refine wpIn_seq ?_
   refine plain ?_
   refine wI (d_move rfl) ?_
   refine wI (d_not rfl rfl) ?_
   refine wF ([u1, (eN n), (eN m), undef, undef, undef, (Value.slice none 0 0), u_out, (eN i), (eN (((la.getD i 0) % ((n : Nat) : Int)).toNat)), (Value.bool (decide (((la.getD i 0) % ((n : Nat) : Int)).toNat ∈ (plTo la n m i).take j))), (eN j)] ++ (zs zf20 12 33 ++ [(Value.bool (decide (((la.getD i 0) % ((n : Nat) : Int)).toNat ∈ (plTo la n m i).take j))), (Value.bool (!(decide (((la.getD i 0) % ((n : Nat) : Int)).toNat ∈ (plTo la n m i).take j)))), (zf20 47), (zf20 48), (zf20 49), (zf20 50), undef])) ?_
   refine wpL.done ?_
   refine then_n ?_
   refine cond_b rfl (fun c3 => ?_) (fun c3 => ?_)
   ·
    have ht_ : (plTo la n m i).take j = (plTo la n m i) := List.take_of_length_le (by omega)
    rw [ht_] at c3
    refine plain ?_
    refine wI (d_move rfl) ?_
    refine wI (d_move rfl) ?_
    refine wO (d_buildL (cs := [(eN (((la.getD i 0) % ((n : Nat) : Int)).toNat))]) Try.underlying29 s_ti3 rfl (nb rfl) (parts_cons (vs := [(eN (((la.getD i 0) % ((n : Nat) : Int)).toNat))]) (cells_of (v := (eN (((la.getD i 0) % ((n : Nat) : Int)).toNat))) rfl rfl) parts_nil) rfl) ?_
    rintro _ w22 ⟨b21, rfl, g23, a24, o25⟩
    replace a24 : Arr 3 b21 (([((la.getD i 0) % ((n : Nat) : Int)).toNat] : List Nat).map eN) w22 := a24
    have l_b21 : ([((la.getD i 0) % ((n : Nat) : Int)).toNat] : List Nat).length = 1 := rfl
    have nq_out_b21 : ∀ x, bo_out = some x → ¬ x = b21 := fun x hx e => by have := a11.lts x hx; omega
    have g_oW_b21 : W.heap.size ≤ b21 := Nat.le_trans oW.size g23
    have g_o12_b21 : W.heap.size ≤ b21 := Nat.le_trans o12.size g23
    have g_o17_b21 : w15.heap.size ≤ b21 := Nat.le_trans o17.size g23
    replace h1 := h1.new o25 g23
    replace a11 := a11.step0 o25
    replace oW := oW.tail0 o25
    replace o12 := o12.tail0 o25
    replace o17 := o17.tail0 o25
    refine wF ([u1, (eN n), (eN m), undef, undef, undef, (Value.slice none 0 0), u_out, (eN i), (eN (((la.getD i 0) % ((n : Nat) : Int)).toNat)), (Value.bool (decide (((la.getD i 0) % ((n : Nat) : Int)).toNat ∈ (plTo la n m i).take j))), (eN j)] ++ (zs zf20 12 33 ++ [(Value.bool (decide (((la.getD i 0) % ((n : Nat) : Int)).toNat ∈ (plTo la n m i).take j))), (Value.bool (!(decide (((la.getD i 0) % ((n : Nat) : Int)).toNat ∈ (plTo la n m i).take j)))), u_out, (eN (((la.getD i 0) % ((n : Nat) : Int)).toNat)), (sli b21 0 1 1), (zf20 50), undef])) ?_
    refine wO (d_append Try.underlying29 Try.underlying29 s_ti3 rfl rfl rfl a11 (SrcV.of_seq (arr_seq a24 l_b21 (Nat.le_refl _)) (fun _ => rfl)) (by have := (plTo_ok la m gn i).2.2; simp only [List.length_singleton]; omega) (by have := (plTo_ok la m gn i).2.2; simp only [List.length_singleton]; omega) rfl) ?_
    rintro u26 w27 ⟨bo28, a29, o30, q31⟩
    replace a29 : Ow 3 1 bo28 u26 ((plTo la n m i) ++ ([((la.getD i 0) % ((n : Nat) : Int)).toNat] : List Nat)).length (((plTo la n m i) ++ ([((la.getD i 0) % ((n : Nat) : Int)).toNat] : List Nat)).map eN) w27 := by rw [List.length_append, List.map_append]; exact a29
    replace h1 := h1.gr o30 (fun k e => (.inr (.inl e))) (xx_or1 (xx_re (Fr.of_or q31) xx_id))
    have nq2 := nqs nq_out_b21 (Fr.of_or q31) a24.lt
    replace a24 := a24.step o30 (fun e => nq_out_b21 _ e rfl)
    replace nq_out_b21 := nq2
    clear nq2
    have tq := oW.size
    replace oW := oW.tailr o30 q_oW_out (fun _ e => by cases e)
    replace q_oW_out := qtr (Fr.of_or q31) q_oW_out tq
    clear tq
    have tq := o12.size
    replace o12 := o12.tailr o30 q_o12_out (fun k e => (.inl e))
    replace q_o12_out := qtr (Fr.of_or q31) q_o12_out tq
    clear tq
    have tq := o17.size
    replace o17 := o17.tailr o30 q_o17_out (fun k e => (.inl e))
    replace q_o17_out := qtr (Fr.of_or q31) q_o17_out tq
    clear tq
    refine wI (d_assign rfl) ?_
    refine wF ([u1, (eN n), (eN m), undef, undef, undef, (Value.slice none 0 0), u26, (eN i), (eN (((la.getD i 0) % ((n : Nat) : Int)).toNat)), (Value.bool (decide (((la.getD i 0) % ((n : Nat) : Int)).toNat ∈ (plTo la n m i).take j))), (eN j)] ++ (zs zf20 12 33 ++ [(Value.bool (decide (((la.getD i 0) % ((n : Nat) : Int)).toNat ∈ (plTo la n m i).take j))), (Value.bool (!(decide (((la.getD i 0) % ((n : Nat) : Int)).toNat ∈ (plTo la n m i).take j)))), u_out, (eN (((la.getD i 0) % ((n : Nat) : Int)).toNat)), (sli b21 0 1 1), u26, undef])) ?_
    refine wpL.done ?_
    refine inb_n (then_n ?_)
    refine plain ?_
    refine wI (d_move rfl) ?_
    refine wI (n_add (a := i) (b := 1) rfl rfl (by omega)) ?_
    refine wI (d_assign rfl) ?_
    refine wF ([u1, (eN n), (eN m), undef, undef, undef, (Value.slice none 0 0), u26, (eN (i + 1)), (eN (((la.getD i 0) % ((n : Nat) : Int)).toNat)), (Value.bool (decide (((la.getD i 0) % ((n : Nat) : Int)).toNat ∈ (plTo la n m i).take j))), (eN j)] ++ (zs zf20 12 10 ++ [(eN i), (eN (i + 1))] ++ (zs zf20 24 21 ++ [(Value.bool (decide (((la.getD i 0) % ((n : Nat) : Int)).toNat ∈ (plTo la n m i).take j))), (Value.bool (!(decide (((la.getD i 0) % ((n : Nat) : Int)).toNat ∈ (plTo la n m i).take j)))), u_out, (eN (((la.getD i 0) % ((n : Nat) : Int)).toNat)), (sli b21 0 1 1), u26, undef]))) ?_
    refine wpL.done ?_
    refine then_n ?_
    refine ⟨_, ⟨i + 1, bo28, u26⟩, rfl, rfl, ⟨?_, ?_, ?_, ?_⟩, ?_⟩
    ·
     (try dsimp only)
     all_goals (omega)
    ·
     exact o12
    ·
     (try dsimp only)
     all_goals (rw [plTo_new c0 c1 (by simpa using c3)] at a29; exact a29)
    ·
     exact q_o12_out
    ·
     (try dsimp only)
     all_goals (omega)
   have ht_ : (plTo la n m i).take j = (plTo la n m i) := List.take_of_length_le (by omega)
   rw [ht_] at c3
   refine wpIn_skip ?_
   refine inb_n (then_n ?_)
   refine plain ?_
   refine wI (d_move rfl) ?_
   refine wI (n_add (a := i) (b := 1) rfl rfl (by omega)) ?_
   refine wI (d_assign rfl) ?_
   refine wF ([u1, (eN n), (eN m), undef, undef, undef, (Value.slice none 0 0), u_out, (eN (i + 1)), (eN (((la.getD i 0) % ((n : Nat) : Int)).toNat)), (Value.bool (decide (((la.getD i 0) % ((n : Nat) : Int)).toNat ∈ (plTo la n m i).take j))), (eN j)] ++ (zs zf20 12 10 ++ [(eN i), (eN (i + 1))] ++ (zs zf20 24 21 ++ [(Value.bool (decide (((la.getD i 0) % ((n : Nat) : Int)).toNat ∈ (plTo la n m i).take j))), (Value.bool (!(decide (((la.getD i 0) % ((n : Nat) : Int)).toNat ∈ (plTo la n m i).take j)))), (zf20 47), (zf20 48), (zf20 49), (zf20 50), undef]))) ?_
   refine wpL.done ?_
   refine then_n ?_
   refine ⟨_, ⟨i + 1, bo_out, u_out⟩, rfl, rfl, ⟨?_, ?_, ?_, ?_⟩, ?_⟩
   ·
    (try dsimp only)
    all_goals (omega)
   ·
    exact o12
   ·
    (try dsimp only)
    all_goals (rw [← plTo_in c0 c1 (by simpa using c3)]; exact a11)
   ·
    exact q_o12_out
   ·
    (try dsimp only)
    all_goals (omega)
  refine wpIn_exit ?_
  refine then_x (then_x (inb_e ?_))
  refine then_n ?_
  refine wpIn_seq ?_
  refine plain ?_
  refine wI (d_move rfl) ?_
  refine wI (d_assign rfl) ?_
  refine wF ([u1, (eN n), (eN m), undef, undef, undef, u_out, u_out, (eN i), (zf14 9), (z 10), (z 11)] ++ (zs zf14 12 9 ++ [(Value.bool (decide (((plTo la n m i).length) < m)))] ++ (zs zf14 22 29 ++ [u_out]))) ?_
  refine wpL.done ?_
  refine then_n ?_
  refine wpIn_ret ?_
  refine leave0 (v := u_out) (res1 Try.results23 rfl) ?_
  exact ROw.mk_ a11 (plTo_stop hi (by omega)) q_oW_out oW
 refine plain ?_
 refine wI (d_move rfl) ?_
 refine wI (d_move rfl) ?_
 refine wI (d_lenS rfl Try.underlying29 rfl h1) ?_
 refine wF ([u1, (eN n), (eN m), undef, undef, undef, (Value.slice none 0 0), u_out, (eN i), (z 9), (z 10), (z 11), (eN i), u1, (eN la.length)] ++ (zs z 15 36 ++ [undef])) ?_
 refine wI (n_lss (a := i) (b := la.length) rfl rfl (decide_eq_false c0)) ?_
 refine wI (d_move rfl) ?_
 refine wF ([u1, (eN n), (eN m), undef, undef, undef, (Value.slice none 0 0), u_out, (eN i), (z 9), (z 10), (z 11), (eN i), u1, (eN la.length), (Value.bool false), (Value.bool false)] ++ (zs z 17 34 ++ [undef])) ?_
 refine wpL.off rfl rfl rfl (nb rfl) rfl ?_
 refine wpL.off rfl rfl rfl (nb rfl) rfl ?_
 refine wpL.off rfl rfl rfl (nb rfl) rfl ?_
 refine wF ([u1, (eN n), (eN m), undef, undef, undef, (Value.slice none 0 0), u_out, (eN i), (z 9), (z 10), (z 11), (eN i), u1, (eN la.length), (Value.bool false), (Value.bool false), undef, undef, undef] ++ (zs z 20 31 ++ [undef])) ?_
 refine wpL.off rfl rfl rfl (nb rfl) rfl ?_
 refine wI (d_pick (b := false) (v := (Value.bool false)) rfl rfl) ?_
 refine wF ([u1, (eN n), (eN m), undef, undef, undef, (Value.slice none 0 0), u_out, (eN i), (z 9), (z 10), (z 11), (eN i), u1, (eN la.length), (Value.bool false), (Value.bool false), undef, undef, undef, undef, (Value.bool false)] ++ (zs z 22 29 ++ [undef])) ?_
 refine wpL.done ?_
 refine then_n ?_
 refine cond_f rfl ?_
 refine wpIn_exit ?_
 refine then_x (then_x (inb_e ?_))
 refine then_n ?_
 refine forget (fun zf32 => (zs zf32 0 7 ++ [u_out, (eN i), (zf32 9), (z 10), (z 11)] ++ (zs zf32 12 40))) (by kernel_rfl) (fun zf32 => ?_)
 refine wpIn_seq ?_
 refine plain ?_
 refine wI (d_move rfl) ?_
 refine wI (d_assign rfl) ?_
 refine wF (zs zf32 0 6 ++ [u_out, u_out, (eN i), (zf32 9), (z 10), (z 11)] ++ (zs zf32 12 39 ++ [u_out])) ?_
 refine wpL.done ?_
 refine then_n ?_
 refine wpIn_ret ?_
 refine leave0 (v := u_out) (res1 Try.results23 rfl) ?_
 exact ROw.mk_ a11 (plTo_stop hi (by omega)) q_oW_out oW

end Go.Proofs.YtnlbekdjepkhcaaF
