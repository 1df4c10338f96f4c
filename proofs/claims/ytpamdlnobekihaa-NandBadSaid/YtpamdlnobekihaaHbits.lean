import Derived.Test.YtpamdlnobekihaaFp
import Derived.Test.YtpamdlnobekihaaTy
import Derived.Test.YtpamdlnobekihaaHutil
import Derived.Test.YtpamdlnobekihaaMk
set_option linter.unusedVariables false
set_option linter.unusedSimpArgs false
namespace Go.Proofs.YtpamdlnobekihaaF
open Go Go.Shelf Go.Proofs.YtpamdlnobekihaaS Ram
set_option maxRecDepth 20000 in
set_option maxHeartbeats 1000000 in
theorem cloneB_ok (la : List UInt8) (u1 : Value) (W : World) (h1 : Ps No (Seq kB la u1) W) (g1 : la.length ≤ 1048576) :
    CW Try.prog 51 #[u1] W (Rt (ROw 5 eB la W)) := by
 have oW : Only No W W := Only.refl _ _
 refine enter (al := [u1]) (k := 7) (l := ([u1] ++ (us 7))) Try.func51 rfl Try.ntmps51 rfl rfl ?_
 refine wpIn_seq ?_
 refine plain ?_
 refine wI (d_assign rfl) ?_
 refine wF ([u1, undef, (Value.slice none 0 0)] ++ (us 5)) ?_
 refine wpL.done ?_
 refine then_n ?_
 refine wpIn_seq ?_
 refine wpIn_seq ?_
 refine plain ?_
 refine wI (d_move rfl) ?_
 refine wO (d_eqnil Try.underlying36 rfl h1 rfl) ?_
 rintro _ _ ⟨t, rfl, ht, rfl⟩
 refine wF [u1, undef, (Value.slice none 0 0), u1, (Value.bool t), undef, undef, undef] ?_
 refine wpL.done ?_
 refine then_n ?_
 refine cond_b rfl (fun c0 => ?_) (fun c0 => ?_)
 ·
  refine wpIn_seq ?_
  refine plain ?_
  refine wI (d_assign rfl) ?_
  refine wF [u1, undef, (Value.slice none 0 0), u1, (Value.bool t), undef, undef, undef] ?_
  refine wpL.done ?_
  refine then_n ?_
  refine wpIn_ret ?_
  refine then_r ?_
  refine leave0 (v := (Value.slice none 0 0)) (res1 Try.results51 rfl) ?_
  exact ROw.nil ((ht c0).symm) oW
 refine wpIn_skip ?_
 refine then_n ?_
 refine wpIn_seq ?_
 refine plain ?_
 refine wO (d_buildL (cs := []) Try.underlying36 s_ti5 rfl (nb rfl) parts_nil rfl) ?_
 rintro _ w12 ⟨b11, rfl, g13, a14, o15⟩
 replace a14 : Arr 5 b11 (([] : List UInt8).map eB) w12 := a14
 have l_b11 : ([] : List UInt8).length = 0 := rfl
 have g_oW_b11 : W.heap.size ≤ b11 := Nat.le_trans oW.size g13
 replace h1 := h1.new o15 g13
 replace oW := oW.tail0 o15
 refine wI (d_move rfl) ?_
 have a16 := Ow.of_map2 a14 l_b11
 have q_oW_o : Fr (some b11) none W.heap.size := Fr.new g_oW_b11
 replace h1 := h1.less (Y := (Orq (some b11) No)) (xx_br xx_id)
 refine wO (d_append Try.underlying36 Try.underlying36 s_ti5 rfl rfl rfl a16 (SrcV.of_seq h1 (fun _ => rfl)) (by simp; omega) (by simp; omega) rfl) ?_
 rintro u17 w18 ⟨bo19, a20, o21, q22⟩
 replace a20 : Ow 5 1 bo19 u17 (la).length ((la).map eB) w18 := by simpa using a20
 replace h1 := h1.gr o21 (fun k e => (.inl e)) (xx_re (Fr.of_or q22) xx_id)
 have tq := oW.size
 replace oW := oW.tailr o21 q_oW_o (fun _ e => by cases e)
 replace q_oW_o := qtr (Fr.of_or q22) q_oW_o tq
 clear tq
 refine wF [u1, undef, (Value.slice none 0 0), u1, (Value.bool t), (sli b11 0 0 0), u1, u17] ?_
 refine wI (d_assign rfl) ?_
 refine wF [u1, undef, u17, u1, (Value.bool t), (sli b11 0 0 0), u1, u17] ?_
 refine wpL.done ?_
 refine then_n ?_
 refine wpIn_ret ?_
 refine leave0 (v := u17) (res1 Try.results51 rfl) ?_
 exact ROw.mk_ a20 rfl q_oW_o oW

set_option maxRecDepth 20000 in
set_option maxHeartbeats 1000000 in
theorem bitsFlip_ok (la : List UInt8) (ls : List Int) (u1 u2 : Value) (W : World) (h1 : Ps No (Seq kB la u1) W) (h2 : Ps No (Seq kI ls u2) W) (g1 : la.length ≤ 1048576) (g2 : ls.length ≤ 1048576) :
    CW Try.prog 52 #[u1, u2] W (Rt (ROw 5 eB (flipI la ls) W)) := by
 have oW : Only No W W := Only.refl _ _
 refine enter (al := [u1, u2]) (k := 36) (l := ([u1, u2] ++ (us 36))) Try.func52 rfl Try.ntmps52 rfl rfl ?_
 refine wpIn_seq ?_
 refine plain ?_
 refine wI (d_assign rfl) ?_
 refine wF ([u1, u2, undef, undef, (Value.slice none 0 0)] ++ (us 33)) ?_
 refine wpL.done ?_
 refine then_n ?_
 refine wpIn_seq ?_
 refine plain ?_
 refine wI (d_move rfl) ?_
 refine wO (d_call (xl := [.tmp 8]) (al := [u1]) Try.func51 (by kernel_rfl) rfl rfl rfl (cloneB_ok la u1 _ (Ps.no h1) (by first | omega | (simp; done) | (simp; omega)))) ?_
 rintro u13 w11 f14
 obtain ⟨bo15, f14, g16, o12⟩ := f14
 have q_oW_o := qnew g16 oW.size
 replace h1 := h1.newq o12 g16
 replace h2 := h2.newq o12 g16
 replace oW := oW.tail0 o12
 refine wI (d_assign rfl) ?_
 refine wF ([u1, u2, undef, undef, (Value.slice none 0 0), u13, undef, undef, u1, u13] ++ (us 28)) ?_
 refine wpL.done ?_
 refine then_n ?_
 refine wpIn_seq ?_
 refine wpIn_seq ?_
 refine plain ?_
 refine wI (d_move rfl) ?_
 refine wI (d_lenS rfl Try.underlying37 rfl h2) ?_
 refine wI (d_move rfl) ?_
 refine wF ([u1, u2, undef, undef, (Value.slice none 0 0), u13, undef, undef, u1, u13, u2, (eN ls.length), (eN 0)] ++ (us 25)) ?_
 refine wpL.done ?_
 refine then_n ?_
 refine wpIn_block ?_
 refine loop2 (fun (i : (Nat)) => fun (z : Nat → Value) => (([u1, u2, undef, undef, (Value.slice none 0 0), u13, undef, (z 7), u1, u13, u2, (eN ls.length), (eN i)] ++ (zs z 13 23 ++ [undef, undef])) : List Value)) (fun (i : (Nat)) => fun (w_ : World) => (i ≤ ls.length) ∧ Only (Orq bo15 No) w11 w_ ∧ Ow 5 1 bo15 u13 (flipI la (ls.take i)).length ((flipI la (ls.take i)).map eB) w_) (fun (i : (Nat)) => ls.length - i) 0 rfl ?_ ?_
 ·
  refine ⟨?_, ?_, ?_⟩
  ·
   exact Nat.zero_le _
  ·
   exact Only.refl _ _
  ·
   exact f14
 rintro i z w18 ⟨hi, o17, f14⟩
 (try dsimp only)
 replace h1 := h1.step o17 (orq_mono no_any)
 replace h2 := h2.step o17 (orq_mono no_any)
 replace oW := oW.tail o17 (tl_q q_oW_o (fun _ e => by cases e) tl_no)
 have q_o17_o : Fr bo15 bo15 w11.heap.size := Fr.same
 refine wpIn_seq ?_
 refine plain ?_
 refine wI (n_lss (a := i) (b := ls.length) rfl rfl rfl) ?_
 refine wF ([u1, u2, undef, undef, (Value.slice none 0 0), u13, undef, (z 7), u1, u13, u2, (eN ls.length), (eN i), (Value.bool (decide (i < ls.length)))] ++ (zs z 14 22 ++ [undef, undef])) ?_
 refine wpL.done ?_
 refine then_n ?_
 refine wpIn_seq ?_
 refine cond_if rfl (fun c0 => ?_) (fun c0 => ?_)
 ·
  refine wpIn_skip ?_
  refine then_n ?_
  refine wpIn_seq ?_
  refine wpIn_block ?_
  refine wpIn_seq ?_
  refine plain ?_
  refine wI (d_ix (i := i) (xs := ls) Try.underlying37 s_ti3 rfl h2 (show _ = Value.int _ ((i : Nat) : Int) from rfl) (by first | omega | (simp; done) | (simp; omega))) ?_
  refine wI (d_ldx (i := i) (xs := ls) (enc := eI) (v := (ls.getD i 0)) ⟨_, Try.underlying3, rfl⟩ rfl h2 (g_at (by first | omega | (simp; done) | (simp; omega)))) ?_
  refine wI (d_assign rfl) ?_
  refine wF ([u1, u2, undef, undef, (Value.slice none 0 0), u13, undef, (eI (ls.getD i 0)), u1, u13, u2, (eN ls.length), (eN i), (Value.bool (decide (i < ls.length))), (ixp u2 i), (eI (ls.getD i 0))] ++ (zs z 16 20 ++ [undef, undef])) ?_
  refine wpL.done ?_
  refine then_n ?_
  refine wpIn_seq ?_
  have hl_ := flipI_length la (ls.take i)
  by_cases k0 : 0 ≤ (ls.getD i 0)
  ·
   obtain ⟨n_, hn_⟩ := Int.eq_ofNat_of_zero_le k0
   refine wp_eq (l' := ([u1, u2, undef, undef, (Value.slice none 0 0), u13, undef, (eN n_), u1, u13, u2, (eN ls.length), (eN i), (Value.bool (decide (i < ls.length))), (ixp u2 i), (eI (ls.getD i 0))] ++ (zs z 16 20 ++ [undef, undef]))) (show (([u1, u2, undef, undef, (Value.slice none 0 0), u13, undef, (eI (ls.getD i 0)), u1, u13, u2, (eN ls.length), (eN i), (Value.bool (decide (i < ls.length))), (ixp u2 i), (eI (ls.getD i 0))] ++ (zs z 16 20 ++ [undef, undef])) : List Value) = ([u1, u2, undef, undef, (Value.slice none 0 0), u13, undef, (eN n_), u1, u13, u2, (eN ls.length), (eN i), (Value.bool (decide (i < ls.length))), (ixp u2 i), (eI (ls.getD i 0))] ++ (zs z 16 20 ++ [undef, undef])) from reslot ([u1, u2, undef, undef, (Value.slice none 0 0), u13, undef, (eI (ls.getD i 0)), u1, u13, u2, (eN ls.length), (eN i), (Value.bool (decide (i < ls.length))), (ixp u2 i), (eI (ls.getD i 0))] ++ (zs z 16 20 ++ [undef, undef])) 7 (congrArg eI hn_)) ?_
   refine plain ?_
   refine wI (d_move rfl) ?_
   refine wI (n_geq (a := n_) (b := 0) rfl rfl (decide_eq_true (by omega))) ?_
   refine wI (d_move rfl) ?_
   refine wF ([u1, u2, undef, undef, (Value.slice none 0 0), u13, undef, (eN n_), u1, u13, u2, (eN ls.length), (eN i), (Value.bool (decide (i < ls.length))), (ixp u2 i), (eI (ls.getD i 0)), (eN n_), (Value.bool true), (Value.bool true)] ++ (zs z 19 17 ++ [undef, undef])) ?_
   refine wpL.onis rfl rfl rfl (nb rfl) rfl (d_move rfl) ?_
   refine wpL.onis rfl rfl rfl (nb rfl) rfl (d_move rfl) ?_
   refine wpL.onis rfl rfl rfl (nb rfl) rfl (d_lenS rfl Try.underlying36 rfl (f14.seq (X := No) (fun _ _ h => h))) ?_
   refine wF ([u1, u2, undef, undef, (Value.slice none 0 0), u13, undef, (eN n_), u1, u13, u2, (eN ls.length), (eN i), (Value.bool (decide (i < ls.length))), (ixp u2 i), (eI (ls.getD i 0)), (eN n_), (Value.bool true), (Value.bool true), (eN n_), u13, (eN ((flipI la (ls.take i)).length))] ++ (zs z 22 14 ++ [undef, undef])) ?_
   refine wpL.onis rfl rfl rfl (nb rfl) rfl (n_mul (a := 8) (b := ((flipI la (ls.take i)).length)) rfl rfl (by omega)) ?_
   refine wpL.onis rfl rfl rfl (nb rfl) rfl (n_lss (a := n_) (b := (8 * ((flipI la (ls.take i)).length))) rfl rfl rfl) ?_
   refine wI (d_pick (b := true) (v := (Value.bool (decide (n_ < (8 * ((flipI la (ls.take i)).length)))))) rfl rfl) ?_
   refine wF ([u1, u2, undef, undef, (Value.slice none 0 0), u13, undef, (eN n_), u1, u13, u2, (eN ls.length), (eN i), (Value.bool (decide (i < ls.length))), (ixp u2 i), (eI (ls.getD i 0)), (eN n_), (Value.bool true), (Value.bool true), (eN n_), u13, (eN ((flipI la (ls.take i)).length)), (eN (8 * ((flipI la (ls.take i)).length))), (Value.bool (decide (n_ < (8 * ((flipI la (ls.take i)).length))))), (Value.bool (decide (n_ < (8 * ((flipI la (ls.take i)).length)))))] ++ (zs z 25 11 ++ [undef, undef])) ?_
   refine wpL.done ?_
   refine then_n ?_
   refine forget (fun zf19 => ([u1, u2, undef, undef, (Value.slice none 0 0), u13, undef, (eN n_), u1, u13, u2, (eN ls.length), (eN i)] ++ (zs zf19 13 11 ++ [(Value.bool (decide (n_ < (8 * ((flipI la (ls.take i)).length)))))] ++ (zs z 25 10 ++ [(zf19 35), undef, undef])))) (by kernel_rfl) (fun zf19 => ?_)
   refine cond_if rfl (fun k1 => ?_) (fun k1 => ?_)
   ·
    refine drawn_last (O := (Isq bo15)) (m := 10) (R := fun w_ => Ow 5 1 bo15 u13 ((flipI la (ls.take i)).set (n_ / 8) (((flipI la (ls.take i)).getD (n_ / 8) 0) ^^^ (shlB 1 (n_ % 8)))).length (((flipI la (ls.take i)).set (n_ / 8) (((flipI la (ls.take i)).getD (n_ / 8) 0) ^^^ (shlB 1 (n_ % 8)))).map eB) w_) [0, 0, 2, 7, 15, 0, 32, 96, 255, 511, 1023] [(0, 25), (1, 26), (2, 27), (3, 28), (4, 29), (5, 30), (6, 31), (7, 32), (8, 33), (9, 34)] [u13, (eN n_), (eN (n_ / 8)), (ixp u13 (n_ / 8)), (eB ((flipI la (ls.take i)).getD (n_ / 8) 0)), (eN n_), (eN (n_ % 8)), (eB (shlB 1 (n_ % 8))), (eB (((flipI la (ls.take i)).getD (n_ / 8) 0) ^^^ (shlB 1 (n_ % 8)))), (ixp u13 (n_ / 8))] ([u1, u2, undef, undef, (Value.slice none 0 0), u13, undef, (eN n_), u1, u13, u2, (eN ls.length), (eN i)] ++ (zs zf19 13 11 ++ [(Value.bool (decide (n_ < (8 * ((flipI la (ls.take i)).length))))), u13, (eN n_), (eN (n_ / 8)), (ixp u13 (n_ / 8)), (eB ((flipI la (ls.take i)).getD (n_ / 8) 0)), (eN n_), (eN (n_ % 8)), (eB (shlB 1 (n_ % 8))), (eB (((flipI la (ls.take i)).getD (n_ / 8) 0) ^^^ (shlB 1 (n_ % 8)))), (ixp u13 (n_ / 8)), (zf19 35), undef, undef])) s_mx (by kernel_rfl) (by kernel_rfl) rfl rfl (by decide) (by kernel_rfl) (by kernel_rfl) ?_ (fun _ _ h_ ho_ => h_.step0 ho_) ⟨_, rfl, rfl, fun w_ hO_ => gd rfl ((d_stx (i := (n_ / 8)) (xs := (flipI la (ls.take i))) (enc := eB) (v := (((flipI la (ls.take i)).getD (n_ / 8) 0) ^^^ (shlB 1 (n_ % 8)))) s_ti5 rfl rfl rfl (f14.step0 hO_) (by have := flipI_length la (ls.take i); first | omega | (simp; done) | (simp; omega)) rfl).mono fun u_ w2_ h_ => ⟨h_.2, h_.1⟩)⟩ ?_
    ·
     intro w_ hO_
     refine AllG.cons (gi rfl (d_move rfl)) ?_
     refine AllG.cons (gi rfl (d_move rfl)) ?_
     refine AllG.cons (gi rfl (n_quo (a := n_) (b := 8) rfl rfl (by decide) (by omega))) ?_
     refine AllG.cons (gi rfl (d_ix (i := (n_ / 8)) (xs := (flipI la (ls.take i))) Try.underlying36 s_ti5 rfl ((f14.step0 hO_).seq (X := No) (fun _ _ h => h)) (show _ = Value.int _ ((n_ / 8 : Nat) : Int) from rfl) (by have := flipI_length la (ls.take i); first | omega | (simp; done) | (simp; omega)))) ?_
     refine AllG.cons (gi rfl (d_ldx (i := (n_ / 8)) (xs := (flipI la (ls.take i))) (enc := eB) (v := ((flipI la (ls.take i)).getD (n_ / 8) 0)) ⟨_, Try.underlying5, rfl⟩ rfl ((f14.step0 hO_).seq (X := No) (fun _ _ h => h)) (g_at (by have := flipI_length la (ls.take i); first | omega | (simp; done) | (simp; omega))))) ?_
     refine AllG.cons (gi rfl (d_move rfl)) ?_
     refine AllG.cons (gi rfl (n_rem (a := n_) (b := 8) rfl rfl (by decide))) ?_
     refine AllG.cons (gi rfl (b_shl (a := (n_ % 8)) rfl rfl (by omega))) ?_
     refine AllG.cons (gi rfl (b_xor (c := ((flipI la (ls.take i)).getD (n_ / 8) 0)) (e := (shlB 1 (n_ % 8))) rfl rfl)) ?_
     refine AllG.cons (gi rfl (d_ix (i := (n_ / 8)) (xs := (flipI la (ls.take i))) Try.underlying36 s_ti5 rfl ((f14.step0 hO_).seq (X := No) (fun _ _ h => h)) (show _ = Value.int _ ((n_ / 8 : Nat) : Int) from rfl) (by have := flipI_length la (ls.take i); first | omega | (simp; done) | (simp; omega)))) ?_
     exact AllG.nil
    intro w20 o21 a22
    replace h1 := h1.gr o21 (fun k e => (.inl e)) (xx_re Fr.same xx_id)
    replace h2 := h2.gr o21 (fun k e => (.inl e)) (xx_re Fr.same xx_id)
    have tq := oW.size
    replace oW := oW.tailr o21 q_oW_o (fun _ e => by cases e)
    replace q_oW_o := qtr Fr.same q_oW_o tq
    clear tq
    have tq := o17.size
    replace o17 := o17.tailr o21 q_o17_o (fun k e => (.inl e))
    replace q_o17_o := qtr Fr.same q_o17_o tq
    clear tq
    refine inb_n (then_n ?_)
    refine plain ?_
    refine wI (n_add (a := i) (b := 1) rfl rfl (by omega)) ?_
    refine wI (d_move rfl) ?_
    refine wF ([u1, u2, undef, undef, (Value.slice none 0 0), u13, undef, (eN n_), u1, u13, u2, (eN ls.length), (eN (i + 1))] ++ (zs zf19 13 11 ++ [(Value.bool (decide (n_ < (8 * ((flipI la (ls.take i)).length))))), u13, (eN n_), (eN (n_ / 8)), (ixp u13 (n_ / 8)), (eB ((flipI la (ls.take i)).getD (n_ / 8) 0)), (eN n_), (eN (n_ % 8)), (eB (shlB 1 (n_ % 8))), (eB (((flipI la (ls.take i)).getD (n_ / 8) 0) ^^^ (shlB 1 (n_ % 8)))), (ixp u13 (n_ / 8)), (eN (i + 1)), undef, undef])) ?_
    refine wpL.done ?_
    refine then_n ?_
    refine ⟨_, (i + 1), rfl, rfl, ⟨?_, ?_, ?_⟩, ?_⟩
    ·
     (try dsimp only)
     all_goals (omega)
    ·
     exact o17
    ·
     (try dsimp only)
     all_goals (rw [flI_yes hn_ (by omega), flipI_next la c0] at a22; exact a22)
    ·
     (try dsimp only)
     all_goals (omega)
   refine wpIn_skip ?_
   refine inb_n (then_n ?_)
   refine plain ?_
   refine wI (n_add (a := i) (b := 1) rfl rfl (by omega)) ?_
   refine wI (d_move rfl) ?_
   refine wF ([u1, u2, undef, undef, (Value.slice none 0 0), u13, undef, (eN n_), u1, u13, u2, (eN ls.length), (eN (i + 1))] ++ (zs zf19 13 11 ++ [(Value.bool (decide (n_ < (8 * ((flipI la (ls.take i)).length)))))] ++ (zs z 25 10 ++ [(eN (i + 1)), undef, undef]))) ?_
   refine wpL.done ?_
   refine then_n ?_
   refine ⟨_, (i + 1), rfl, rfl, ⟨?_, ?_, ?_⟩, ?_⟩
   ·
    (try dsimp only)
    all_goals (omega)
   ·
    exact o17
   ·
    (try dsimp only)
    all_goals (rw [← flipI_next la c0, flI_no (fun h_ => absurd h_.2 (by omega))]; exact f14)
   ·
    (try dsimp only)
    all_goals (omega)
  refine plain ?_
  refine wI (d_move rfl) ?_
  refine wI (d_geq (k := .i64) (m := (ls.getD i 0)) (n := 0) rfl rfl (decide_eq_false k0)) ?_
  refine wI (d_move rfl) ?_
  refine wF ([u1, u2, undef, undef, (Value.slice none 0 0), u13, undef, (eI (ls.getD i 0)), u1, u13, u2, (eN ls.length), (eN i), (Value.bool (decide (i < ls.length))), (ixp u2 i), (eI (ls.getD i 0)), (eI (ls.getD i 0)), (Value.bool false), (Value.bool false)] ++ (zs z 19 17 ++ [undef, undef])) ?_
  refine wpL.off rfl rfl rfl (nb rfl) rfl ?_
  refine wpL.off rfl rfl rfl (nb rfl) rfl ?_
  refine wF ([u1, u2, undef, undef, (Value.slice none 0 0), u13, undef, (eI (ls.getD i 0)), u1, u13, u2, (eN ls.length), (eN i), (Value.bool (decide (i < ls.length))), (ixp u2 i), (eI (ls.getD i 0)), (eI (ls.getD i 0)), (Value.bool false), (Value.bool false), undef, undef] ++ (zs z 21 15 ++ [undef, undef])) ?_
  refine wpL.off rfl rfl rfl (nb rfl) rfl ?_
  refine wpL.off rfl rfl rfl (nb rfl) rfl ?_
  refine wpL.off rfl rfl rfl (nb rfl) rfl ?_
  refine wI (d_pick (b := false) (v := (Value.bool false)) rfl rfl) ?_
  refine wF ([u1, u2, undef, undef, (Value.slice none 0 0), u13, undef, (eI (ls.getD i 0)), u1, u13, u2, (eN ls.length), (eN i), (Value.bool (decide (i < ls.length))), (ixp u2 i), (eI (ls.getD i 0)), (eI (ls.getD i 0)), (Value.bool false), (Value.bool false)] ++ (us 5 ++ [(Value.bool false)] ++ (zs z 25 11 ++ [undef, undef]))) ?_
  refine wpL.done ?_
  refine then_n ?_
  refine cond_f rfl ?_
  refine wpIn_skip ?_
  refine inb_n (then_n ?_)
  refine forget (fun zf23 => ([u1, u2, undef, undef, (Value.slice none 0 0), u13, undef, (zf23 7), u1, u13, u2, (eN ls.length), (eN i)] ++ (zs zf23 13 12 ++ (zs z 25 10 ++ [(zf23 35), undef, undef])))) (by kernel_rfl) (fun zf23 => ?_)
  refine plain ?_
  refine wI (n_add (a := i) (b := 1) rfl rfl (by omega)) ?_
  refine wI (d_move rfl) ?_
  refine wF ([u1, u2, undef, undef, (Value.slice none 0 0), u13, undef, (zf23 7), u1, u13, u2, (eN ls.length), (eN (i + 1))] ++ (zs zf23 13 12 ++ (zs z 25 10 ++ [(eN (i + 1)), undef, undef]))) ?_
  refine wpL.done ?_
  refine then_n ?_
  refine ⟨_, (i + 1), rfl, rfl, ⟨?_, ?_, ?_⟩, ?_⟩
  ·
   (try dsimp only)
   all_goals (omega)
  ·
   exact o17
  ·
   (try dsimp only)
   all_goals (rw [← flipI_next la c0, flI_no (fun h_ => k0 h_.1)]; exact f14)
  ·
   (try dsimp only)
   all_goals (omega)
 refine wpIn_exit ?_
 refine then_x (then_x (inb_e ?_))
 refine then_n ?_
 refine forget (fun zf24 => (zs zf24 0 5 ++ [u13] ++ (zs zf24 6 6 ++ [(eN i)] ++ (zs zf24 13 25)))) (by kernel_rfl) (fun zf24 => ?_)
 refine wpIn_seq ?_
 refine plain ?_
 refine wI (d_move rfl) ?_
 refine wO (d_call (xl := [.tmp 36]) (al := [u13]) Try.func51 (by kernel_rfl) rfl rfl rfl (cloneB_ok (flipI la (ls.take i)) u13 _ (Ps.no (f14.seq (X := No) (fun _ _ h => h))) (by have := flipI_length la (ls.take i); first | omega | (simp; done) | (simp; omega)))) ?_
 rintro u27 w25 f28
 obtain ⟨bo29, f28, g30, o26⟩ := f28
 have nqq_o_o2 := nqq_new g30 f14.lts
 have q_oW_o2 := qnew g30 oW.size
 have q_o17_o2 := qnew g30 o17.size
 replace h1 := h1.newq o26 g30
 replace h2 := h2.newq o26 g30
 replace f14 := f14.step0 o26
 replace oW := oW.tail0 o26
 replace o17 := o17.tail0 o26
 refine wI (d_assign rfl) ?_
 refine wF ([(zf24 0), (zf24 1), (zf24 2), (zf24 3), u27, u13] ++ (zs zf24 6 6 ++ [(eN i)] ++ (zs zf24 13 23 ++ [u13, u27]))) ?_
 refine wpL.done ?_
 refine then_n ?_
 refine wpIn_ret ?_
 refine leave0 (v := u27) (res1 Try.results52 rfl) ?_
 exact ROw.mk_ f28 (by rw [show i = ls.length by omega, List.take_length]) q_oW_o2 oW

set_option maxRecDepth 20000 in
set_option maxHeartbeats 1000000 in
theorem bitsMix_ok (la lb lm : List UInt8) (u1 u2 u3 : Value) (W : World) (h1 : Ps No (Seq kB la u1) W) (h2 : Ps No (Seq kB lb u2) W) (h3 : Ps No (Seq kB lm u3) W) (g1 : la.length ≤ 1048576) (g2 : lb.length ≤ 1048576) (g3 : lm.length ≤ 1048576) :
    CW Try.prog 50 #[u1, u2, u3] W (Rt (ROw 5 eB (mixR la lb lm) W)) := by
 have oW : Only No W W := Only.refl _ _
 refine enter (al := [u1, u2, u3]) (k := 48) (l := ([u1, u2, u3] ++ (us 48))) Try.func50 rfl Try.ntmps50 rfl rfl ?_
 refine wpIn_seq ?_
 refine plain ?_
 refine wI (d_assign rfl) ?_
 refine wF ([u1, u2, u3, undef, undef, undef, (Value.slice none 0 0)] ++ (us 44)) ?_
 refine wpL.done ?_
 refine then_n ?_
 refine wpIn_seq ?_
 refine wpIn_seq ?_
 refine plain ?_
 refine wI (d_move rfl) ?_
 refine wI (d_lenS rfl Try.underlying36 rfl h1) ?_
 refine wI (d_move rfl) ?_
 refine wF ([u1, u2, u3, undef, undef, undef, (Value.slice none 0 0), undef, undef, undef, u1, (eN la.length), u2] ++ (us 38)) ?_
 refine wI (d_lenS rfl Try.underlying36 rfl h2) ?_
 refine wI (n_neq (a := la.length) (b := lb.length) rfl rfl rfl) ?_
 refine wF ([u1, u2, u3, undef, undef, undef, (Value.slice none 0 0), undef, undef, undef, u1, (eN la.length), u2, (eN lb.length), (Value.bool (!decide (la.length = lb.length)))] ++ (us 36)) ?_
 refine wpL.done ?_
 refine then_n ?_
 refine cond_un rfl (fun c0 => ?_) (fun c0 => ?_)
 ·
  refine wpIn_seq ?_
  refine plain ?_
  refine wI (d_assign rfl) ?_
  refine wF ([u1, u2, u3, undef, undef, undef, (Value.slice none 0 0), undef, undef, undef, u1, (eN la.length), u2, (eN lb.length), (Value.bool (!decide (la.length = lb.length)))] ++ (us 36)) ?_
  refine wpL.done ?_
  refine then_n ?_
  refine forget (fun zf11 => (zs zf11 0 6 ++ [(Value.slice none 0 0)] ++ (zs zf11 7 12 ++ [undef] ++ (zs zf11 20 31)))) (by kernel_rfl) (fun zf11 => ?_)
  refine wpIn_ret ?_
  refine then_r ?_
  refine leave0 (v := (Value.slice none 0 0)) (res1 Try.results50 rfl) ?_
  exact ROw.nil ((if_neg c0).symm) oW
 refine wpIn_skip ?_
 refine then_n ?_
 refine wpIn_seq ?_
 refine plain ?_
 refine wI (d_move rfl) ?_
 refine wO (d_call (xl := [.tmp 15]) (al := [u1]) Try.func51 (by kernel_rfl) rfl rfl rfl (cloneB_ok la u1 _ (Ps.no h1) (by first | omega | (simp; done) | (simp; omega)))) ?_
 rintro u14 w12 f15
 obtain ⟨bo16, f15, g17, o13⟩ := f15
 have q_oW_o := qnew g17 oW.size
 replace h1 := h1.newq o13 g17
 replace h2 := h2.newq o13 g17
 replace h3 := h3.newq o13 g17
 replace oW := oW.tail0 o13
 refine wI (d_assign rfl) ?_
 refine wF ([u1, u2, u3, undef, undef, undef, (Value.slice none 0 0), u14, undef, undef, u1, (eN la.length), u2, (eN lb.length), (Value.bool (!decide (la.length = lb.length))), u1, u14] ++ (us 34)) ?_
 refine wpL.done ?_
 refine then_n ?_
 refine forget (fun zf18 => ([u1, u2, u3, (zf18 3), (zf18 4), (zf18 5), (zf18 6), u14] ++ (zs zf18 8 11 ++ [undef] ++ (zs zf18 20 12 ++ (us 16 ++ [(zf18 48), (zf18 49), (zf18 50)]))))) (by kernel_rfl) (fun zf18 => ?_)
 refine wpIn_seq ?_
 refine wpIn_seq ?_
 refine plain ?_
 refine wI (d_move rfl) ?_
 refine wI (d_lenS rfl Try.underlying36 rfl (f15.seq (X := No) (fun _ _ h => h))) ?_
 refine wI (d_move rfl) ?_
 refine wF ([u1, u2, u3, (zf18 3), (zf18 4), (zf18 5), (zf18 6), u14] ++ (zs zf18 8 9 ++ [u14, (eN la.length), (eN 0)] ++ (zs zf18 20 12 ++ (us 16 ++ [(zf18 48), (zf18 49), (zf18 50)])))) ?_
 refine wpL.done ?_
 refine then_n ?_
 refine wpIn_block ?_
 refine loop2 (fun (i : (Nat)) => fun (z : Nat → Value) => (([u1, u2, u3, (zf18 3), (zf18 4), (zf18 5), (zf18 6), u14, (z 8), (z 9)] ++ (zs zf18 10 7 ++ [u14, (eN la.length), (eN i)] ++ (zs z 20 29 ++ [(zf18 49), (zf18 50)]))) : List Value)) (fun (i : (Nat)) => fun (w_ : World) => (i ≤ la.length) ∧ Only (Orq bo16 No) w12 w_ ∧ Ow 5 1 bo16 u14 (mixTo la lb lm i).length ((mixTo la lb lm i).map eB) w_) (fun (i : (Nat)) => la.length - i) 0 rfl ?_ ?_
 ·
  refine ⟨?_, ?_, ?_⟩
  ·
   exact Nat.zero_le _
  ·
   exact Only.refl _ _
  ·
   (try dsimp only)
   all_goals (rw [← mixTo_zero]; exact f15)
 rintro i z w20 ⟨hi, o19, f15⟩
 (try dsimp only)
 replace h1 := h1.step o19 (orq_mono no_any)
 replace h2 := h2.step o19 (orq_mono no_any)
 replace h3 := h3.step o19 (orq_mono no_any)
 replace oW := oW.tail o19 (tl_q q_oW_o (fun _ e => by cases e) tl_no)
 have q_o19_o : Fr bo16 bo16 w12.heap.size := Fr.same
 refine wpIn_seq ?_
 refine plain ?_
 refine wI (n_lss (a := i) (b := la.length) rfl rfl rfl) ?_
 refine wF ([u1, u2, u3, (zf18 3), (zf18 4), (zf18 5), (zf18 6), u14, (z 8), (z 9)] ++ (zs zf18 10 7 ++ [u14, (eN la.length), (eN i), (Value.bool (decide (i < la.length)))] ++ (zs z 21 28 ++ [(zf18 49), (zf18 50)]))) ?_
 refine wpL.done ?_
 refine then_n ?_
 refine wpIn_seq ?_
 refine cond_if rfl (fun c1 => ?_) (fun c1 => ?_)
 ·
  refine wpIn_skip ?_
  refine then_n ?_
  refine wpIn_seq ?_
  refine wpIn_block ?_
  refine wpIn_seq ?_
  refine plain ?_
  refine wI (d_move rfl) ?_
  refine wI (d_assign rfl) ?_
  refine wF ([u1, u2, u3, (zf18 3), (zf18 4), (zf18 5), (zf18 6), u14, (eN i), (z 9)] ++ (zs zf18 10 7 ++ [u14, (eN la.length), (eN i), (Value.bool (decide (i < la.length))), (eN i)] ++ (zs z 22 27 ++ [(zf18 49), (zf18 50)]))) ?_
  refine wpL.done ?_
  refine then_n ?_
  refine wpIn_seq ?_
  refine plain ?_
  refine wI (d_move rfl) ?_
  refine wI (d_lenS rfl Try.underlying36 rfl h3) ?_
  refine wI (n_gtr (a := lm.length) (b := 0) rfl rfl rfl) ?_
  refine wF ([u1, u2, u3, (zf18 3), (zf18 4), (zf18 5), (zf18 6), u14, (eN i), (z 9)] ++ (zs zf18 10 7 ++ [u14, (eN la.length), (eN i), (Value.bool (decide (i < la.length))), (eN i), u3, (eN lm.length), (Value.bool (decide (0 < lm.length)))] ++ (zs z 25 24 ++ [(zf18 49), (zf18 50)]))) ?_
  refine wpL.done ?_
  refine then_n ?_
  refine cond_if rfl (fun c2 => ?_) (fun c2 => ?_)
  ·
   refine wpIn_seq ?_
   refine plain ?_
   refine wI (d_move rfl) ?_
   refine wI (d_move rfl) ?_
   refine wI (d_move rfl) ?_
   refine wF ([u1, u2, u3, (zf18 3), (zf18 4), (zf18 5), (zf18 6), u14, (eN i), (z 9)] ++ (zs zf18 10 7 ++ [u14, (eN la.length), (eN i), (Value.bool (decide (i < la.length))), (eN i), u3, (eN lm.length), (Value.bool (decide (0 < lm.length))), u3, (eN i), u3] ++ (zs z 28 21 ++ [(zf18 49), (zf18 50)]))) ?_
   refine wI (d_lenS rfl Try.underlying36 rfl h3) ?_
   refine wI (n_rem (a := i) (b := lm.length) rfl rfl (by omega)) ?_
   refine wI (d_ix (i := (i % lm.length)) (xs := lm) Try.underlying36 s_ti5 rfl h3 (show _ = Value.int _ ((i % lm.length : Nat) : Int) from rfl) (Nat.mod_lt _ (by omega))) ?_
   refine wF ([u1, u2, u3, (zf18 3), (zf18 4), (zf18 5), (zf18 6), u14, (eN i), (z 9)] ++ (zs zf18 10 7 ++ [u14, (eN la.length), (eN i), (Value.bool (decide (i < la.length))), (eN i), u3, (eN lm.length), (Value.bool (decide (0 < lm.length))), u3, (eN i), u3, (eN lm.length), (eN (i % lm.length)), (ixp u3 (i % lm.length))] ++ (zs z 31 18 ++ [(zf18 49), (zf18 50)]))) ?_
   refine wI (d_ldx (i := (i % lm.length)) (xs := lm) (enc := eB) (v := (lm.getD (i % lm.length) 0)) ⟨_, Try.underlying5, rfl⟩ rfl h3 (g_at (Nat.mod_lt _ (by omega)))) ?_
   refine wI (d_assign rfl) ?_
   refine wF ([u1, u2, u3, (zf18 3), (zf18 4), (zf18 5), (zf18 6), u14, (eN i), (eB (lm.getD (i % lm.length) 0))] ++ (zs zf18 10 7 ++ [u14, (eN la.length), (eN i), (Value.bool (decide (i < la.length))), (eN i), u3, (eN lm.length), (Value.bool (decide (0 < lm.length))), u3, (eN i), u3, (eN lm.length), (eN (i % lm.length)), (ixp u3 (i % lm.length)), (eB (lm.getD (i % lm.length) 0))] ++ (zs z 32 17 ++ [(zf18 49), (zf18 50)]))) ?_
   refine wpL.done ?_
   refine then_n ?_
   refine forget (fun zf21 => ([u1, u2, u3, (zf18 3), (zf18 4), (zf18 5), (zf18 6), u14, (eN i), (eB (lm.getD (i % lm.length) 0))] ++ (zs zf18 10 7 ++ [u14, (eN la.length), (eN i)] ++ (zs zf21 20 12 ++ (zs z 32 16 ++ [(zf21 48), (zf18 49), (zf18 50)]))))) (by kernel_rfl) (fun zf21 => ?_)
   have hl_ := mixTo_length la lb lm i
   refine drawn_last (O := (Isq bo16)) (m := 16) (R := fun w_ => Ow 5 1 bo16 u14 ((mixTo la lb lm i).set i (((la.getD i 0) &&& ~~~(lm.getD (i % lm.length) 0)) ||| ((lb.getD i 0) &&& (lm.getD (i % lm.length) 0)))).length (((mixTo la lb lm i).set i (((la.getD i 0) &&& ~~~(lm.getD (i % lm.length) 0)) ||| ((lb.getD i 0) &&& (lm.getD (i % lm.length) 0)))).map eB) w_) [0, 0, 0, 0, 12, 28, 0, 124, 0, 0, 768, 1792, 0, 7936, 16380, 32767, 65535] [(0, 32), (1, 33), (2, 34), (3, 35), (4, 36), (5, 37), (6, 38), (7, 39), (8, 40), (9, 41), (10, 42), (11, 43), (12, 44), (13, 45), (14, 46), (15, 47)] [u14, (eN i), u1, (eN i), (ixp u1 i), (eB (la.getD i 0)), (eB (lm.getD (i % lm.length) 0)), (eB ((la.getD i 0) &&& ~~~(lm.getD (i % lm.length) 0))), u2, (eN i), (ixp u2 i), (eB (lb.getD i 0)), (eB (lm.getD (i % lm.length) 0)), (eB ((lb.getD i 0) &&& (lm.getD (i % lm.length) 0))), (eB (((la.getD i 0) &&& ~~~(lm.getD (i % lm.length) 0)) ||| ((lb.getD i 0) &&& (lm.getD (i % lm.length) 0)))), (ixp u14 i)] ([u1, u2, u3, (zf18 3), (zf18 4), (zf18 5), (zf18 6), u14, (eN i), (eB (lm.getD (i % lm.length) 0))] ++ (zs zf18 10 7 ++ [u14, (eN la.length), (eN i)] ++ (zs zf21 20 12 ++ [u14, (eN i), u1, (eN i), (ixp u1 i), (eB (la.getD i 0)), (eB (lm.getD (i % lm.length) 0)), (eB ((la.getD i 0) &&& ~~~(lm.getD (i % lm.length) 0))), u2, (eN i), (ixp u2 i), (eB (lb.getD i 0)), (eB (lm.getD (i % lm.length) 0)), (eB ((lb.getD i 0) &&& (lm.getD (i % lm.length) 0))), (eB (((la.getD i 0) &&& ~~~(lm.getD (i % lm.length) 0)) ||| ((lb.getD i 0) &&& (lm.getD (i % lm.length) 0)))), (ixp u14 i), (zf21 48), (zf18 49), (zf18 50)]))) s_mx (by kernel_rfl) (by kernel_rfl) rfl rfl (by decide) (by kernel_rfl) (by kernel_rfl) ?_ (fun _ _ h_ ho_ => h_.step0 ho_) ⟨_, rfl, rfl, fun w_ hO_ => gd rfl ((d_stx (i := i) (xs := (mixTo la lb lm i)) (enc := eB) (v := (((la.getD i 0) &&& ~~~(lm.getD (i % lm.length) 0)) ||| ((lb.getD i 0) &&& (lm.getD (i % lm.length) 0)))) s_ti5 rfl rfl rfl (f15.step0 hO_) (by rw [mixTo_length]; omega) rfl).mono fun u_ w2_ h_ => ⟨h_.2, h_.1⟩)⟩ ?_
   ·
    intro w_ hO_
    refine AllG.cons (gi rfl (d_move rfl)) ?_
    refine AllG.cons (gi rfl (d_move rfl)) ?_
    refine AllG.cons (gi rfl (d_move rfl)) ?_
    refine AllG.cons (gi rfl (d_move rfl)) ?_
    refine AllG.cons (gi rfl (d_ix (i := i) (xs := la) Try.underlying36 s_ti5 rfl (h1.step0 hO_) (show _ = Value.int _ ((i : Nat) : Int) from rfl) (by first | omega | (simp; done) | (simp; omega)))) ?_
    refine AllG.cons (gi rfl (d_ldx (i := i) (xs := la) (enc := eB) (v := (la.getD i 0)) ⟨_, Try.underlying5, rfl⟩ rfl (h1.step0 hO_) (g_at (by first | omega | (simp; done) | (simp; omega))))) ?_
    refine AllG.cons (gi rfl (d_move rfl)) ?_
    refine AllG.cons (gi rfl (b_andNot (c := (la.getD i 0)) (e := (lm.getD (i % lm.length) 0)) rfl rfl)) ?_
    refine AllG.cons (gi rfl (d_move rfl)) ?_
    refine AllG.cons (gi rfl (d_move rfl)) ?_
    refine AllG.cons (gi rfl (d_ix (i := i) (xs := lb) Try.underlying36 s_ti5 rfl (h2.step0 hO_) (show _ = Value.int _ ((i : Nat) : Int) from rfl) (by first | omega | (simp; done) | (simp; omega)))) ?_
    refine AllG.cons (gi rfl (d_ldx (i := i) (xs := lb) (enc := eB) (v := (lb.getD i 0)) ⟨_, Try.underlying5, rfl⟩ rfl (h2.step0 hO_) (g_at (by first | omega | (simp; done) | (simp; omega))))) ?_
    refine AllG.cons (gi rfl (d_move rfl)) ?_
    refine AllG.cons (gi rfl (b_and (c := (lb.getD i 0)) (e := (lm.getD (i % lm.length) 0)) rfl rfl)) ?_
    refine AllG.cons (gi rfl (b_or (c := ((la.getD i 0) &&& ~~~(lm.getD (i % lm.length) 0))) (e := ((lb.getD i 0) &&& (lm.getD (i % lm.length) 0))) rfl rfl)) ?_
    refine AllG.cons (gi rfl (d_ix (i := i) (xs := (mixTo la lb lm i)) Try.underlying36 s_ti5 rfl ((f15.step0 hO_).seq (X := No) (fun _ _ h => h)) (show _ = Value.int _ ((i : Nat) : Int) from rfl) (by have := mixTo_length la lb lm i; first | omega | (simp; done) | (simp; omega)))) ?_
    exact AllG.nil
   intro w22 o23 a24
   replace h1 := h1.gr o23 (fun k e => (.inl e)) (xx_re Fr.same xx_id)
   replace h2 := h2.gr o23 (fun k e => (.inl e)) (xx_re Fr.same xx_id)
   replace h3 := h3.gr o23 (fun k e => (.inl e)) (xx_re Fr.same xx_id)
   have tq := oW.size
   replace oW := oW.tailr o23 q_oW_o (fun _ e => by cases e)
   replace q_oW_o := qtr Fr.same q_oW_o tq
   clear tq
   have tq := o19.size
   replace o19 := o19.tailr o23 q_o19_o (fun k e => (.inl e))
   replace q_o19_o := qtr Fr.same q_o19_o tq
   clear tq
   refine inb_n (then_n ?_)
   refine plain ?_
   refine wI (n_add (a := i) (b := 1) rfl rfl (by omega)) ?_
   refine wI (d_move rfl) ?_
   refine wF ([u1, u2, u3, (zf18 3), (zf18 4), (zf18 5), (zf18 6), u14, (eN i), (eB (lm.getD (i % lm.length) 0))] ++ (zs zf18 10 7 ++ [u14, (eN la.length), (eN (i + 1))] ++ (zs zf21 20 12 ++ [u14, (eN i), u1, (eN i), (ixp u1 i), (eB (la.getD i 0)), (eB (lm.getD (i % lm.length) 0)), (eB ((la.getD i 0) &&& ~~~(lm.getD (i % lm.length) 0))), u2, (eN i), (ixp u2 i), (eB (lb.getD i 0)), (eB (lm.getD (i % lm.length) 0)), (eB ((lb.getD i 0) &&& (lm.getD (i % lm.length) 0))), (eB (((la.getD i 0) &&& ~~~(lm.getD (i % lm.length) 0)) ||| ((lb.getD i 0) &&& (lm.getD (i % lm.length) 0)))), (ixp u14 i), (eN (i + 1)), (zf18 49), (zf18 50)]))) ?_
   refine wpL.done ?_
   refine then_n ?_
   refine ⟨_, (i + 1), rfl, rfl, ⟨?_, ?_, ?_⟩, ?_⟩
   ·
    (try dsimp only)
    all_goals (omega)
   ·
    exact o19
   ·
    (try dsimp only)
    all_goals (rw [mixTo_step la lb i c2] at a24; exact a24)
   ·
    (try dsimp only)
    all_goals (omega)
  refine wpIn_skip ?_
  refine inb_n (then_n ?_)
  refine plain ?_
  refine wI (n_add (a := i) (b := 1) rfl rfl (by omega)) ?_
  refine wI (d_move rfl) ?_
  refine wF ([u1, u2, u3, (zf18 3), (zf18 4), (zf18 5), (zf18 6), u14, (eN i), (z 9)] ++ (zs zf18 10 7 ++ [u14, (eN la.length), (eN (i + 1)), (Value.bool (decide (i < la.length))), (eN i), u3, (eN lm.length), (Value.bool (decide (0 < lm.length)))] ++ (zs z 25 23 ++ [(eN (i + 1)), (zf18 49), (zf18 50)]))) ?_
  refine wpL.done ?_
  refine then_n ?_
  refine ⟨_, (i + 1), rfl, rfl, ⟨?_, ?_, ?_⟩, ?_⟩
  ·
   (try dsimp only)
   all_goals (omega)
  ·
   exact o19
  ·
   (try dsimp only)
   all_goals (rw [mixTo_none la lb i c2]; exact f15)
  ·
   (try dsimp only)
   all_goals (omega)
 refine wpIn_exit ?_
 refine then_x (then_x (inb_e ?_))
 refine then_n ?_
 refine wpIn_seq ?_
 refine plain ?_
 refine wI (d_move rfl) ?_
 refine wO (d_call (xl := [.tmp 49]) (al := [u14]) Try.func51 (by kernel_rfl) rfl rfl rfl (cloneB_ok (mixTo la lb lm i) u14 _ (Ps.no (f15.seq (X := No) (fun _ _ h => h))) (by have := mixTo_length la lb lm i; first | omega | (simp; done) | (simp; omega)))) ?_
 rintro u27 w25 f28
 obtain ⟨bo29, f28, g30, o26⟩ := f28
 have nqq_o_o2 := nqq_new g30 f15.lts
 have q_oW_o2 := qnew g30 oW.size
 have q_o19_o2 := qnew g30 o19.size
 replace h1 := h1.newq o26 g30
 replace h2 := h2.newq o26 g30
 replace h3 := h3.newq o26 g30
 replace f15 := f15.step0 o26
 replace oW := oW.tail0 o26
 replace o19 := o19.tail0 o26
 refine wI (d_assign rfl) ?_
 refine wF ([u1, u2, u3, (zf18 3), (zf18 4), (zf18 5), u27, u14, (z 8), (z 9)] ++ (zs zf18 10 7 ++ [u14, (eN la.length), (eN i), (Value.bool (decide (i < la.length)))] ++ (zs z 21 28 ++ [u14, u27]))) ?_
 refine wpL.done ?_
 refine then_n ?_
 refine forget (fun zf31 => (zs zf31 0 6 ++ [u27] ++ (zs zf31 7 12 ++ [(eN i)] ++ (zs zf31 20 31)))) (by kernel_rfl) (fun zf31 => ?_)
 refine wpIn_ret ?_
 refine leave0 (v := u27) (res1 Try.results50 rfl) ?_
 exact ROw.mk_ f28 (by rw [mixTo_done (i := i) (by omega)]; exact (if_pos c0).symm) q_oW_o2 oW

end Go.Proofs.YtpamdlnobekihaaF
