import Derived.Test.YtpamdlnobekihaaFp
import Derived.Test.YtpamdlnobekihaaTy
import Derived.Test.YtpamdlnobekihaaMi
set_option linter.unusedVariables false
set_option linter.unusedSimpArgs false
namespace Go.Proofs.YtpamdlnobekihaaF
open Go Go.Shelf Go.Proofs.YtpamdlnobekihaaS Ram
set_option maxRecDepth 20000 in
set_option maxHeartbeats 1000000 in
theorem ref6Flip_ok (la : List UInt8) (ls : List Nat) (u1 u2 : Value) (W : World) (h1 : Ps No (Seq kB la u1) W) (h2 : Ps No (Seq kN ls u2) W) (g1 : la.length ≤ 1048576) (g2 : ls.length ≤ 1048576) (g3 : ∀ k ∈ ls, k < 8 * la.length) :
    CW Try.prog 22 #[u1, u2] W (Rt (ROw 5 eB (flipL la ls) W)) := by
 have oW : Only No W W := Only.refl _ _
 refine enter (al := [u1, u2]) (k := 53) (l := ([u1, u2] ++ (us 53))) Try.func22 rfl Try.ntmps22 rfl rfl ?_
 refine wpIn_seq ?_
 refine plain ?_
 refine wI (d_assign rfl) ?_
 refine wF ([u1, u2, undef, undef, (Value.slice none 0 0)] ++ (us 50)) ?_
 refine wpL.done ?_
 refine then_n ?_
 refine wpIn_seq ?_
 refine plain ?_
 refine wO (d_buildL (cs := []) Try.underlying36 s_ti5 rfl (nb rfl) parts_nil rfl) ?_
 rintro _ w12 ⟨b11, rfl, g13, a14, o15⟩
 replace a14 : Arr 5 b11 (([] : List UInt8).map eB) w12 := a14
 have l_b11 : ([] : List UInt8).length = 0 := rfl
 have g_oW_b11 : W.heap.size ≤ b11 := Nat.le_trans oW.size g13
 replace h1 := h1.new o15 g13
 replace h2 := h2.new o15 g13
 replace oW := oW.tail0 o15
 refine wI (d_move rfl) ?_
 have a16 := Ow.of_map2 a14 l_b11
 have q_oW_o : Fr (some b11) none W.heap.size := Fr.new g_oW_b11
 replace h1 := h1.less (Y := (Orq (some b11) No)) (xx_br xx_id)
 replace h2 := h2.less (Y := (Orq (some b11) No)) (xx_br xx_id)
 refine wO (d_append Try.underlying36 Try.underlying36 s_ti5 rfl rfl rfl a16 (SrcV.of_seq h1 (fun _ => rfl)) (by simp; omega) (by simp; omega) rfl) ?_
 rintro u17 w18 ⟨bo19, a20, o21, q22⟩
 replace a20 : Ow 5 1 bo19 u17 (la).length ((la).map eB) w18 := by simpa using a20
 replace h1 := h1.gr o21 (fun k e => (.inl e)) (xx_re (Fr.of_or q22) xx_id)
 replace h2 := h2.gr o21 (fun k e => (.inl e)) (xx_re (Fr.of_or q22) xx_id)
 have tq := oW.size
 replace oW := oW.tailr o21 q_oW_o (fun _ e => by cases e)
 replace q_oW_o := qtr (Fr.of_or q22) q_oW_o tq
 clear tq
 refine wF ([u1, u2, undef, undef, (Value.slice none 0 0), undef, undef, (sli b11 0 0 0), u1, u17] ++ (us 45)) ?_
 refine wI (d_assign rfl) ?_
 refine wF ([u1, u2, undef, undef, (Value.slice none 0 0), u17, undef, (sli b11 0 0 0), u1, u17] ++ (us 45)) ?_
 refine wpL.done ?_
 refine then_n ?_
 refine wpIn_seq ?_
 refine wpIn_seq ?_
 refine plain ?_
 refine wI (d_assign rfl) ?_
 refine wF ([u1, u2, undef, undef, (Value.slice none 0 0), u17, (eN 0), (sli b11 0 0 0), u1, u17] ++ (us 45)) ?_
 refine wpL.done ?_
 refine then_n ?_
 refine wpIn_block ?_
 refine loop2 (fun (i : (Nat)) => fun (z : Nat → Value) => (([u1, u2, undef, undef, (Value.slice none 0 0), u17, (eN i), (sli b11 0 0 0), u1, u17] ++ (zs z 10 44 ++ [undef])) : List Value)) (fun (i : (Nat)) => fun (w_ : World) => (i ≤ ls.length) ∧ Only (Orq bo19 No) w18 w_ ∧ Ow 5 1 bo19 u17 (flipL la (ls.take i)).length ((flipL la (ls.take i)).map eB) w_) (fun (i : (Nat)) => ls.length - i) 0 rfl ?_ ?_
 ·
  refine ⟨?_, ?_, ?_⟩
  ·
   exact Nat.zero_le _
  ·
   exact Only.refl _ _
  ·
   exact a20
 rintro i z w24 ⟨hi, o23, a20⟩
 (try dsimp only)
 replace h1 := h1.step o23 (orq_mono no_any)
 replace h2 := h2.step o23 (orq_mono no_any)
 replace oW := oW.tail o23 (tl_q q_oW_o (fun _ e => by cases e) tl_no)
 have q_o23_o : Fr bo19 bo19 w18.heap.size := Fr.same
 refine wpIn_seq ?_
 refine wpIn_seq ?_
 refine plain ?_
 refine wI (d_move rfl) ?_
 refine wI (d_move rfl) ?_
 refine wI (d_lenS rfl Try.underlying37 rfl h2) ?_
 refine wF ([u1, u2, undef, undef, (Value.slice none 0 0), u17, (eN i), (sli b11 0 0 0), u1, u17, (eN i), u2, (eN ls.length)] ++ (zs z 13 41 ++ [undef])) ?_
 refine wI (n_lss (a := i) (b := ls.length) rfl rfl rfl) ?_
 refine wF ([u1, u2, undef, undef, (Value.slice none 0 0), u17, (eN i), (sli b11 0 0 0), u1, u17, (eN i), u2, (eN ls.length), (Value.bool (decide (i < ls.length)))] ++ (zs z 14 40 ++ [undef])) ?_
 refine wpL.done ?_
 refine then_n ?_
 refine cond_if rfl (fun c0 => ?_) (fun c0 => ?_)
 ·
  have hx_ := getD_lt g3 c0
  have hl_ := flipL_length la (ls.take i)
  refine wpIn_skip ?_
  refine then_n ?_
  refine wpIn_seq ?_
  refine wpIn_block ?_
  refine wpIn_seq ?_
  refine plain ?_
  refine wI (d_move rfl) ?_
  refine wI (d_move rfl) ?_
  refine wI (d_ix (i := i) (xs := ls) Try.underlying37 s_ti3 rfl h2 (show _ = Value.int _ ((i : Nat) : Int) from rfl) (by first | omega | (simp; done) | (simp; omega))) ?_
  refine wF ([u1, u2, undef, undef, (Value.slice none 0 0), u17, (eN i), (sli b11 0 0 0), u1, u17, (eN i), u2, (eN ls.length), (Value.bool (decide (i < ls.length))), (z 14), (z 15), u2, (eN i), (ixp u2 i)] ++ (zs z 19 35 ++ [undef])) ?_
  refine wI (d_ldx (i := i) (xs := ls) (enc := eN) (v := (ls.getD i 0)) ⟨_, Try.underlying3, rfl⟩ rfl h2 (g_at (by first | omega | (simp; done) | (simp; omega)))) ?_
  refine wI (n_geq (a := (ls.getD i 0)) (b := 0) rfl rfl (decide_eq_true (Nat.zero_le _))) ?_
  refine wI (d_move rfl) ?_
  refine wF ([u1, u2, undef, undef, (Value.slice none 0 0), u17, (eN i), (sli b11 0 0 0), u1, u17, (eN i), u2, (eN ls.length), (Value.bool (decide (i < ls.length))), (z 14), (z 15), u2, (eN i), (ixp u2 i), (eN (ls.getD i 0)), (Value.bool true), (Value.bool true)] ++ (zs z 22 32 ++ [undef])) ?_
  refine wpL.onis rfl rfl rfl (nb rfl) rfl (d_move rfl) ?_
  refine wpL.onis rfl rfl rfl (nb rfl) rfl (d_move rfl) ?_
  refine wpL.onis rfl rfl rfl (nb rfl) rfl (d_ix (i := i) (xs := ls) Try.underlying37 s_ti3 rfl h2 (show _ = Value.int _ ((i : Nat) : Int) from rfl) (by first | omega | (simp; done) | (simp; omega))) ?_
  refine wF ([u1, u2, undef, undef, (Value.slice none 0 0), u17, (eN i), (sli b11 0 0 0), u1, u17, (eN i), u2, (eN ls.length), (Value.bool (decide (i < ls.length))), (z 14), (z 15), u2, (eN i), (ixp u2 i), (eN (ls.getD i 0)), (Value.bool true), (Value.bool true), u2, (eN i), (ixp u2 i)] ++ (zs z 25 29 ++ [undef])) ?_
  refine wpL.onis rfl rfl rfl (nb rfl) rfl (d_ldx (i := i) (xs := ls) (enc := eN) (v := (ls.getD i 0)) ⟨_, Try.underlying3, rfl⟩ rfl h2 (g_at (by first | omega | (simp; done) | (simp; omega)))) ?_
  refine wpL.onis rfl rfl rfl (nb rfl) rfl (n_quo (a := (ls.getD i 0)) (b := 8) rfl rfl (by decide) (by omega)) ?_
  refine wpL.onis rfl rfl rfl (nb rfl) rfl (d_move rfl) ?_
  refine wF ([u1, u2, undef, undef, (Value.slice none 0 0), u17, (eN i), (sli b11 0 0 0), u1, u17, (eN i), u2, (eN ls.length), (Value.bool (decide (i < ls.length))), (z 14), (z 15), u2, (eN i), (ixp u2 i), (eN (ls.getD i 0)), (Value.bool true), (Value.bool true), u2, (eN i), (ixp u2 i), (eN (ls.getD i 0)), (eN ((ls.getD i 0) / 8)), u1] ++ (zs z 28 26 ++ [undef])) ?_
  refine wpL.onis rfl rfl rfl (nb rfl) rfl (d_lenS rfl Try.underlying36 rfl h1) ?_
  refine wpL.onis rfl rfl rfl (nb rfl) rfl (n_lss (a := ((ls.getD i 0) / 8)) (b := la.length) rfl rfl (decide_eq_true (by omega))) ?_
  refine wI (d_pick (b := true) (v := (Value.bool true)) rfl rfl) ?_
  refine wF ([u1, u2, undef, undef, (Value.slice none 0 0), u17, (eN i), (sli b11 0 0 0), u1, u17, (eN i), u2, (eN ls.length), (Value.bool (decide (i < ls.length))), (z 14), (z 15), u2, (eN i), (ixp u2 i), (eN (ls.getD i 0)), (Value.bool true), (Value.bool true), u2, (eN i), (ixp u2 i), (eN (ls.getD i 0)), (eN ((ls.getD i 0) / 8)), u1, (eN la.length), (Value.bool true), (Value.bool true)] ++ (zs z 31 23 ++ [undef])) ?_
  refine wpL.done ?_
  refine then_n ?_
  refine forget (fun zf25 => ([u1, u2, undef, undef, (Value.slice none 0 0), u17, (eN i), (sli b11 0 0 0), u1, u17] ++ (zs zf25 10 20 ++ [(Value.bool true)] ++ (zs z 31 23 ++ [undef])))) (by kernel_rfl) (fun zf25 => ?_)
  refine cond_t rfl ?_
  refine drawn_last (O := (Isq bo19)) (m := 23) (R := fun w_ => Ow 5 1 bo19 u17 ((flipL la (ls.take i)).set ((ls.getD i 0) / 8) (((flipL la (ls.take i)).getD ((ls.getD i 0) / 8) 0) ^^^ (shlB 1 ((ls.getD i 0) % 8)))).length (((flipL la (ls.take i)).set ((ls.getD i 0) / 8) (((flipL la (ls.take i)).getD ((ls.getD i 0) / 8) 0) ^^^ (shlB 1 ((ls.getD i 0) % 8)))).map eB) w_) [0, 0, 0, 6, 14, 30, 0, 0, 0, 384, 896, 1920, 4032, 8128, 0, 0, 49152, 114688, 245760, 507904, 1032192, 2097088, 4194303, 8388607] [(0, 31), (1, 32), (2, 33), (3, 34), (4, 35), (5, 36), (6, 37), (7, 38), (8, 39), (9, 40), (10, 41), (11, 42), (12, 43), (13, 44), (14, 45), (15, 46), (16, 47), (17, 48), (18, 49), (19, 50), (20, 51), (21, 52), (22, 53)] [u17, u2, (eN i), (ixp u2 i), (eN (ls.getD i 0)), (eN ((ls.getD i 0) / 8)), u17, u2, (eN i), (ixp u2 i), (eN (ls.getD i 0)), (eN ((ls.getD i 0) / 8)), (ixp u17 ((ls.getD i 0) / 8)), (eB ((flipL la (ls.take i)).getD ((ls.getD i 0) / 8) 0)), u2, (eN i), (ixp u2 i), (eN (ls.getD i 0)), (eN ((ls.getD i 0) % 8)), (Value.int .u64 (((ls.getD i 0) % 8 : Nat) : Int)), (eB (shlB 1 ((ls.getD i 0) % 8))), (eB (((flipL la (ls.take i)).getD ((ls.getD i 0) / 8) 0) ^^^ (shlB 1 ((ls.getD i 0) % 8)))), (ixp u17 ((ls.getD i 0) / 8))] ([u1, u2, undef, undef, (Value.slice none 0 0), u17, (eN i), (sli b11 0 0 0), u1, u17] ++ (zs zf25 10 20 ++ [(Value.bool true), u17, u2, (eN i), (ixp u2 i), (eN (ls.getD i 0)), (eN ((ls.getD i 0) / 8)), u17, u2, (eN i), (ixp u2 i), (eN (ls.getD i 0)), (eN ((ls.getD i 0) / 8)), (ixp u17 ((ls.getD i 0) / 8)), (eB ((flipL la (ls.take i)).getD ((ls.getD i 0) / 8) 0)), u2, (eN i), (ixp u2 i), (eN (ls.getD i 0)), (eN ((ls.getD i 0) % 8)), (Value.int .u64 (((ls.getD i 0) % 8 : Nat) : Int)), (eB (shlB 1 ((ls.getD i 0) % 8))), (eB (((flipL la (ls.take i)).getD ((ls.getD i 0) / 8) 0) ^^^ (shlB 1 ((ls.getD i 0) % 8)))), (ixp u17 ((ls.getD i 0) / 8)), undef])) s_mx (by kernel_rfl) (by kernel_rfl) rfl rfl (by decide) (by kernel_rfl) (by kernel_rfl) ?_ (fun _ _ h_ ho_ => h_.step0 ho_) ⟨_, rfl, rfl, fun w_ hO_ => gd rfl ((d_stx (i := ((ls.getD i 0) / 8)) (xs := (flipL la (ls.take i))) (enc := eB) (v := (((flipL la (ls.take i)).getD ((ls.getD i 0) / 8) 0) ^^^ (shlB 1 ((ls.getD i 0) % 8)))) s_ti5 rfl rfl rfl (a20.step0 hO_) (by have := flipL_length la (ls.take i); first | omega | (simp; done) | (simp; omega)) rfl).mono fun u_ w2_ h_ => ⟨h_.2, h_.1⟩)⟩ ?_
  ·
   intro w_ hO_
   refine AllG.cons (gi rfl (d_move rfl)) ?_
   refine AllG.cons (gi rfl (d_move rfl)) ?_
   refine AllG.cons (gi rfl (d_move rfl)) ?_
   refine AllG.cons (gi rfl (d_ix (i := i) (xs := ls) Try.underlying37 s_ti3 rfl (h2.step0 hO_) (show _ = Value.int _ ((i : Nat) : Int) from rfl) (by first | omega | (simp; done) | (simp; omega)))) ?_
   refine AllG.cons (gi rfl (d_ldx (i := i) (xs := ls) (enc := eN) (v := (ls.getD i 0)) ⟨_, Try.underlying3, rfl⟩ rfl (h2.step0 hO_) (g_at (by first | omega | (simp; done) | (simp; omega))))) ?_
   refine AllG.cons (gi rfl (n_quo (a := (ls.getD i 0)) (b := 8) rfl rfl (by decide) (by omega))) ?_
   refine AllG.cons (gi rfl (d_move rfl)) ?_
   refine AllG.cons (gi rfl (d_move rfl)) ?_
   refine AllG.cons (gi rfl (d_move rfl)) ?_
   refine AllG.cons (gi rfl (d_ix (i := i) (xs := ls) Try.underlying37 s_ti3 rfl (h2.step0 hO_) (show _ = Value.int _ ((i : Nat) : Int) from rfl) (by first | omega | (simp; done) | (simp; omega)))) ?_
   refine AllG.cons (gi rfl (d_ldx (i := i) (xs := ls) (enc := eN) (v := (ls.getD i 0)) ⟨_, Try.underlying3, rfl⟩ rfl (h2.step0 hO_) (g_at (by first | omega | (simp; done) | (simp; omega))))) ?_
   refine AllG.cons (gi rfl (n_quo (a := (ls.getD i 0)) (b := 8) rfl rfl (by decide) (by omega))) ?_
   refine AllG.cons (gi rfl (d_ix (i := ((ls.getD i 0) / 8)) (xs := (flipL la (ls.take i))) Try.underlying36 s_ti5 rfl ((a20.step0 hO_).seq (X := No) (fun _ _ h => h)) (show _ = Value.int _ (((ls.getD i 0) / 8 : Nat) : Int) from rfl) (by have := flipL_length la (ls.take i); first | omega | (simp; done) | (simp; omega)))) ?_
   refine AllG.cons (gi rfl (d_ldx (i := ((ls.getD i 0) / 8)) (xs := (flipL la (ls.take i))) (enc := eB) (v := ((flipL la (ls.take i)).getD ((ls.getD i 0) / 8) 0)) ⟨_, Try.underlying5, rfl⟩ rfl ((a20.step0 hO_).seq (X := No) (fun _ _ h => h)) (g_at (by have := flipL_length la (ls.take i); first | omega | (simp; done) | (simp; omega))))) ?_
   refine AllG.cons (gi rfl (d_move rfl)) ?_
   refine AllG.cons (gi rfl (d_move rfl)) ?_
   refine AllG.cons (gi rfl (d_ix (i := i) (xs := ls) Try.underlying37 s_ti3 rfl (h2.step0 hO_) (show _ = Value.int _ ((i : Nat) : Int) from rfl) (by first | omega | (simp; done) | (simp; omega)))) ?_
   refine AllG.cons (gi rfl (d_ldx (i := i) (xs := ls) (enc := eN) (v := (ls.getD i 0)) ⟨_, Try.underlying3, rfl⟩ rfl (h2.step0 hO_) (g_at (by first | omega | (simp; done) | (simp; omega))))) ?_
   refine AllG.cons (gi rfl (n_rem (a := (ls.getD i 0)) (b := 8) rfl rfl (by decide))) ?_
   refine AllG.cons (gi rfl (n_toU Try.underlying3 Try.underlying94 rfl (by omega))) ?_
   refine AllG.cons (gi rfl (b_shl (a := ((ls.getD i 0) % 8)) rfl rfl (by omega))) ?_
   refine AllG.cons (gi rfl (b_xor (c := ((flipL la (ls.take i)).getD ((ls.getD i 0) / 8) 0)) (e := (shlB 1 ((ls.getD i 0) % 8))) rfl rfl)) ?_
   refine AllG.cons (gi rfl (d_ix (i := ((ls.getD i 0) / 8)) (xs := (flipL la (ls.take i))) Try.underlying36 s_ti5 rfl ((a20.step0 hO_).seq (X := No) (fun _ _ h => h)) (show _ = Value.int _ (((ls.getD i 0) / 8 : Nat) : Int) from rfl) (by have := flipL_length la (ls.take i); first | omega | (simp; done) | (simp; omega)))) ?_
   exact AllG.nil
  intro w26 o27 a28
  replace h1 := h1.gr o27 (fun k e => (.inl e)) (xx_re Fr.same xx_id)
  replace h2 := h2.gr o27 (fun k e => (.inl e)) (xx_re Fr.same xx_id)
  have tq := oW.size
  replace oW := oW.tailr o27 q_oW_o (fun _ e => by cases e)
  replace q_oW_o := qtr Fr.same q_oW_o tq
  clear tq
  have tq := o23.size
  replace o23 := o23.tailr o27 q_o23_o (fun k e => (.inl e))
  replace q_o23_o := qtr Fr.same q_o23_o tq
  clear tq
  refine inb_n (then_n ?_)
  refine plain ?_
  refine wI (d_move rfl) ?_
  refine wI (n_add (a := i) (b := 1) rfl rfl (by omega)) ?_
  refine wI (d_assign rfl) ?_
  refine wF ([u1, u2, undef, undef, (Value.slice none 0 0), u17, (eN (i + 1)), (sli b11 0 0 0), u1, u17, (zf25 10), (zf25 11), (zf25 12), (zf25 13), (eN i), (eN (i + 1))] ++ (zs zf25 16 14 ++ [(Value.bool true), u17, u2, (eN i), (ixp u2 i), (eN (ls.getD i 0)), (eN ((ls.getD i 0) / 8)), u17, u2, (eN i), (ixp u2 i), (eN (ls.getD i 0)), (eN ((ls.getD i 0) / 8)), (ixp u17 ((ls.getD i 0) / 8)), (eB ((flipL la (ls.take i)).getD ((ls.getD i 0) / 8) 0)), u2, (eN i), (ixp u2 i), (eN (ls.getD i 0)), (eN ((ls.getD i 0) % 8)), (Value.int .u64 (((ls.getD i 0) % 8 : Nat) : Int)), (eB (shlB 1 ((ls.getD i 0) % 8))), (eB (((flipL la (ls.take i)).getD ((ls.getD i 0) / 8) 0) ^^^ (shlB 1 ((ls.getD i 0) % 8)))), (ixp u17 ((ls.getD i 0) / 8)), undef])) ?_
  refine wpL.done ?_
  refine then_n ?_
  refine ⟨_, (i + 1), rfl, rfl, ⟨?_, ?_, ?_⟩, ?_⟩
  ·
   (try dsimp only)
   all_goals (omega)
  ·
   exact o23
  ·
   (try dsimp only)
   all_goals (rw [flip_next la c0] at a28; exact a28)
  ·
   (try dsimp only)
   all_goals (omega)
 refine wpIn_exit ?_
 refine then_x (then_x (inb_e ?_))
 refine then_n ?_
 refine forget (fun zf29 => (zs zf29 0 5 ++ [u17, (eN i)] ++ (zs zf29 7 48))) (by kernel_rfl) (fun zf29 => ?_)
 refine wpIn_seq ?_
 refine plain ?_
 refine wI (d_move rfl) ?_
 refine wI (d_assign rfl) ?_
 refine wF ([(zf29 0), (zf29 1), (zf29 2), (zf29 3), u17, u17, (eN i)] ++ (zs zf29 7 47 ++ [u17])) ?_
 refine wpL.done ?_
 refine then_n ?_
 refine wpIn_ret ?_
 refine leave0 (v := u17) (res1 Try.results22 rfl) ?_
 exact ROw.mk_ a20 (by rw [show i = ls.length by omega, List.take_length]) q_oW_o oW

end Go.Proofs.YtpamdlnobekihaaF
