/- Part of the proof of the law NandPlays, for all its inputs. -/
import Derived.Test.YtpamdlnobekihaaKNandPlays5
set_option linter.unusedVariables false
set_option linter.unusedSimpArgs false
set_option maxRecDepth 20000
set_option maxHeartbeats 4000000
namespace Go.Proofs.YtpamdlnobekihaaF
open Go Shelf YtpamdlnobekihaaS Ram
theorem law7MakeE_ok (a b c : Int) (W : World) : CW Try.prog 15 #[(.agg #[(eI a), (eI b), (eI c)])] W (Rt (fun u w => ∃ D B Q : Nat, u = .agg #[eN D, eN B, eN Q] ∧ (6 ≤ D ∧ D ≤ 8 ∧ 8 ≤ B ∧ B ≤ 12 ∧ 4 ≤ Q ∧ Q ≤ 8) ∧ Only No W w)) := by
  refine (law7Make_ok a b c W).mono fun e w he => ?_
  obtain ⟨u, rfl, hu, hO⟩ := he
  have h1 := Int.emod_lt_of_pos a (show (0 : Int) < ((3 : Nat) : Int) by decide)
  have h2 := Int.emod_lt_of_pos b (show (0 : Int) < ((5 : Nat) : Int) by decide)
  have h3 := Int.emod_lt_of_pos c (show (0 : Int) < ((5 : Nat) : Int) by decide)
  exact ⟨u, rfl, _, _, _, hu, by omega, hO⟩
theorem law7Spoil_ok (D B Q : Nat) (ls : List Int) (u1 : Value) (W : World) (h1 : Ps No (Seq kI ls u1) W) (g1 : ls.length ≤ 140737488351232) (hD : D ≤ 8) (hB : 8 ≤ B ∧ B ≤ 12) :
    CW Try.prog 31 #[(ag3 D B Q), u1] W (Rt (RPs (Seq (kA 2 eQ) (spoilL D B ls)) W)) := by
 have oW : Only No W W := Only.refl _ _
 refine enter (al := [(ag3 D B Q), u1]) (k := 37) (l := ([(ag3 D B Q), u1] ++ (us 37))) Try.func31 rfl Try.ntmps31 rfl rfl ?_
 refine wQ (pL ?_)
 refine wO (d_box rfl rfl) ?_
 rintro _ w11 ⟨gg, rfl, g12, a13, o14⟩
 have g_oW_gg : W.heap.size ≤ gg := Nat.le_trans oW.size g12
 replace h1 := h1.new o14 g12
 replace oW := oW.tail0 o14
 refine wI (d_assign rfl) ?_
 refine wD (tN (wQ ?_))
 refine wp_eq (l' := ([(ag3 D B Q), u1, (ptr gg 0), undef, vN] ++ (us 34))) rfl ?_
 refine pL ?_
 refine wI (d_assign rfl) ?_
 refine wF ([(ag3 D B Q), u1, (ptr gg 0), undef, vN, vN] ++ (us 33)) ?_
 refine wD ?_
 have a15 : Ow 51 2 none vN ([] : List (Int × Int)).length (([] : List (Int × Int)).flatMap eQ) w11 := Ow.nil _ _ _
 have nq_out_gg : ∀ x, (none : Option Nat) = some x → ¬ x = gg := fun x e => by cases e
 have q_oW_out : Fr none none W.heap.size := Fr.none
 replace h1 := h1.qnone
 refine tN (wQ (wQ (pL ?_)))
 refine wI (d_assign rfl) ?_
 refine wD (tN (wB ?_))
 have h_lt_gg := a13.lt
 have h_lts_out := a15.lts
 refine loop2 (fun (s_ : (Nat) × (Option Nat) × (Value)) => match s_ with | ⟨i, bo_out, u_out⟩ => fun (z : Nat → Value) => (([(ag3 D B Q), u1, (ptr gg 0), undef, vN, u_out, (eN i)] ++ (zs z 7 31 ++ [undef])) : List Value)) (fun (s_ : (Nat) × (Option Nat) × (Value)) => match s_ with | ⟨i, bo_out, u_out⟩ => fun (w_ : World) => (i ≤ ls.length ∧ i ≤ D) ∧ Only (Orq none (Or1 gg No)) w11 w_ ∧ Arr 23 gg [(eN D), (eN B), (eN Q)] w_ ∧ Ow 51 2 bo_out u_out (spoilTo B ls i).length ((spoilTo B ls i).flatMap eQ) w_ ∧ Fr bo_out none w11.heap.size) (fun (s_ : (Nat) × (Option Nat) × (Value)) => match s_ with | ⟨i, bo_out, u_out⟩ => D - i) ⟨0, none, vN⟩ kr ?_ ?_
 ·
  refine ⟨?_, ?_, ?_, ?_, ?_⟩
  ·
   exact ⟨Nat.zero_le _, Nat.zero_le _⟩
  ·
   exact Only.refl _ _
  ·
   exact a13
  ·
   exact a15
  ·
   exact Fr.same
 rintro ⟨i, bo_out, u_out⟩ z w17 ⟨hi, o16, a13, a15, qq_out⟩
 (try dsimp only)
 replace h1 := h1.re o16 (orq_mono (or1_mono no_any)) (xx_re qq_out (xx_or1 xx_id))
 have tq_oW := oW.size
 replace oW := oW.tail o16 (tl_q q_oW_out (fun _ e => by cases e) (tl_new g_oW_gg tl_no))
 replace q_oW_out := qtr qq_out q_oW_out tq_oW
 replace nq_out_gg := nqs nq_out_gg qq_out h_lt_gg
 have q_o16_out := qq_out
 refine wQ (wQ ?_)
 by_cases k0 : i < ls.length
 ·
  by_cases k1 : i < D
  ·
   refine pL ?_
   refine wI (d_move rfl) ?_
   refine wI (d_move rfl) ?_
   refine wI (d_lenS rfl Try.underlying37 rfl h1) ?_
   refine wI (n_lss (a := i) (b := ls.length) rfl rfl (decide_eq_true k0)) ?_
   refine wI (d_move rfl) ?_
   refine wG (d_move rfl) ?_
   refine wG (d_fieldAddr (j := 0) Try.underlying23 rfl s_ti3 (by decide) rfl rfl) ?_
   refine wF ([(ag3 D B Q), u1, (ptr gg 0), undef, vN, u_out, (eN i), (z 7), (eN i), u1, (eN ls.length), vT, vT, (eN i), (ptr gg 0)] ++ (zs z 15 23 ++ [undef])) ?_
   refine wG (d_load (v := (eN D)) ⟨_, Try.underlying3, rfl⟩ rfl a13 rfl) ?_
   refine wG (n_lss (a := i) (b := D) rfl rfl (decide_eq_true k1)) ?_
   refine wI (d_pick (b := true) (v := vT) rfl rfl) ?_
   refine wD (tN ?_)
   refine forget (fun zf18 => ([(ag3 D B Q), u1, (ptr gg 0), undef, vN, u_out, (eN i)] ++ (zs zf18 7 10 ++ [vT, (zf18 18), (zf18 19)] ++ (zs z 20 8 ++ (zs zf18 28 10 ++ [undef]))))) kr (fun zf18 => ?_)
   refine cond_t rfl ?_
   refine wK (tN (wQ (wB (wQ ?_))))
   refine drawn_pure [0, 0, 3, 7, 0, 16, 48, 127, 255] [(0, 20), (1, 21), (2, 22), (3, 23), (4, 24), (5, 25), (6, 26), (7, 27), (8, 7)] [u1, (eN i), (ixp u1 i), (eI (ls.getD i 0)), (ptr gg 1), (eN B), (eN (2 * B)), (eN (((ls.getD i 0) % ((2 * B : Nat) : Int)).toNat)), (eN (((ls.getD i 0) % ((2 * B : Nat) : Int)).toNat))] ([(ag3 D B Q), u1, (ptr gg 0), undef, vN, u_out, (eN i), (eN (((ls.getD i 0) % ((2 * B : Nat) : Int)).toNat))] ++ (zs zf18 8 9 ++ [vT, (zf18 18), (zf18 19), u1, (eN i), (ixp u1 i), (eI (ls.getD i 0)), (ptr gg 1), (eN B), (eN (2 * B)), (eN (((ls.getD i 0) % ((2 * B : Nat) : Int)).toNat))] ++ (zs zf18 28 10 ++ [undef]))) s_mx kr kr rfl kr kr ?_ ?_
   ·
    intro w_ hO_
    refine AllG.cons (gi rfl (d_move rfl)) ?_
    refine AllG.cons (gi rfl (d_move rfl)) ?_
    refine AllG.cons (gi rfl (d_ix (i := i) (xs := ls) Try.underlying37 s_ti3 rfl (h1.step0 hO_) (show _ = Value.int _ (i : Int) from rfl) fo)) ?_
    refine AllG.cons (gi rfl (d_ldx (i := i) (xs := ls) (enc := eI) (v := (ls.getD i 0)) ⟨_, Try.underlying3, rfl⟩ rfl (h1.step0 hO_) (g_at fo))) ?_
    refine AllG.cons (gi rfl (d_fieldAddr (j := 1) Try.underlying23 rfl s_ti3 (by decide) rfl rfl)) ?_
    refine AllG.cons (gi rfl (d_load (v := (eN B)) ⟨_, Try.underlying3, rfl⟩ rfl (a13.step0 hO_) rfl)) ?_
    refine AllG.cons (gi rfl (n_mul (a := 2) (b := B) rfl rfl oo)) ?_
    refine AllG.cons (gc rfl (d_call (xl := [.tmp 23, .tmp 26]) (al := [(eI (ls.getD i 0)), (eN (2 * B))]) Try.func12 kr rfl rfl rfl (law7Within_ok (ls.getD i 0) (2 * B) _ oo oo))) ?_
    refine AllG.cons (gi rfl (d_assign rfl)) ?_
    exact AllG.nil
   intro w19 o20
   replace h1 := h1.step0 o20
   replace a13 := a13.step0 o20
   replace a15 := a15.step0 o20
   replace oW := oW.tail0 o20
   replace o16 := o16.tail0 o20
   refine tN (wQ (pL ?_))
   refine wI (d_move rfl) ?_
   refine wI (d_fieldAddr (j := 1) Try.underlying23 rfl s_ti3 (by decide) rfl rfl) ?_
   refine wI (d_load (v := (eN B)) ⟨_, Try.underlying3, rfl⟩ rfl a13 rfl) ?_
   refine wI (n_lss (a := (((ls.getD i 0) % ((2 * B : Nat) : Int)).toNat)) (b := B) rfl rfl rfl) ?_
   refine wD (tN ?_)
   refine cond_if rfl (fun c2_ => ?_) (fun c2_ => ?_)
   ·
    refine pL ?_
    refine wI (d_move rfl) ?_
    refine wI (d_move rfl) ?_
    refine wI (d_move rfl) ?_
    refine wI (d_buildA (zs := [(eN 0), (eN 0)]) (cs := [(eN i), (eN (((ls.getD i 0) % ((2 * B : Nat) : Int)).toNat))]) Try.underlying51 s_ti51 s_ti3 rfl (parts_cons (vs := [(eN i)]) (cells_of (v := (eN i)) rfl rfl) (parts_cons (vs := [(eN (((ls.getD i 0) % ((2 * B : Nat) : Int)).toNat))]) (cells_of (v := (eN (((ls.getD i 0) % ((2 * B : Nat) : Int)).toNat))) rfl rfl) parts_nil)) rfl) ?_
    refine wO (d_buildL2 (zs := [(eN 0), (eN 0)]) (cs := [(eN i), (eN (((ls.getD i 0) % ((2 * B : Nat) : Int)).toNat))]) Try.underlying24 s_ti51 made_one2 (nb rfl) (parts_cons (vs := [(eN i), (eN (((ls.getD i 0) % ((2 * B : Nat) : Int)).toNat))]) (cells_of (v := (Value.agg #[(eN i), (eN (((ls.getD i 0) % ((2 * B : Nat) : Int)).toNat))])) rfl rfl) parts_nil) rfl) ?_
    rintro _ w22 ⟨b21, rfl, g23, a24, o25⟩
    have n_gg_b21 : gg ≠ b21 := a13.ne g23
    have nq_out_b21 : ∀ x, bo_out = some x → ¬ x = b21 := fun x hx e => by have := a15.lts x hx; omega
    have g_oW_b21 : W.heap.size ≤ b21 := Nat.le_trans oW.size g23
    have g_o16_b21 : w11.heap.size ≤ b21 := Nat.le_trans o16.size g23
    replace h1 := h1.new o25 g23
    replace a13 := a13.step0 o25
    replace a15 := a15.step0 o25
    replace oW := oW.tail0 o25
    replace o16 := o16.tail0 o25
    refine wF ([(ag3 D B Q), u1, (ptr gg 0), undef, vN, u_out, (eN i), (eN (((ls.getD i 0) % ((2 * B : Nat) : Int)).toNat))] ++ (zs zf18 8 9 ++ [vT, (zf18 18), (zf18 19), u1, (eN i), (ixp u1 i), (eI (ls.getD i 0)), (ptr gg 1), (eN B), (eN (2 * B)), (eN (((ls.getD i 0) % ((2 * B : Nat) : Int)).toNat)), (eN (((ls.getD i 0) % ((2 * B : Nat) : Int)).toNat)), (ptr gg 1), (eN B), (Value.bool (decide ((((ls.getD i 0) % ((2 * B : Nat) : Int)).toNat) < B))), u_out, (eN i), (eN (((ls.getD i 0) % ((2 * B : Nat) : Int)).toNat)), (Value.agg #[(eN i), (eN (((ls.getD i 0) % ((2 * B : Nat) : Int)).toNat))]), (sli b21 0 1 1), (zf18 37), undef])) ?_
    refine wO (d_append Try.underlying24 Try.underlying24 s_ti51 rfl rfl rfl a15 (SrcV.of_arr (n := 1) (sz := 2) a24 rfl (one_eQ [((i : Int), ((((ls.getD i 0) % ((2 * B : Nat) : Int)).toNat : Nat) : Int))])) (by have h_ := spoil_len B ls i; omega) (by have h_ := spoil_len B ls i; omega) rfl) ?_
    rintro u26 w27 ⟨bo28, a29, o30, q31⟩
    replace a29 : Ow 51 2 bo28 u26 ((spoilTo B ls i) ++ [((i : Int), ((((ls.getD i 0) % ((2 * B : Nat) : Int)).toNat : Nat) : Int))]).length (((spoilTo B ls i) ++ [((i : Int), ((((ls.getD i 0) % ((2 * B : Nat) : Int)).toNat : Nat) : Int))]).flatMap eQ) w27 := ow_app2 (xs := spoilTo B ls i) a29 rfl rfl
    replace h1 := h1.gr o30 (fun k e => (.inr (.inl e))) (xx_or1 (xx_re (Fr.of_or q31) (xx_or1 xx_id)))
    have nq2 := nqs nq_out_gg (Fr.of_or q31) a13.lt
    replace a13 := a13.step o30 (fun e => nq_out_gg _ e rfl)
    replace nq_out_gg := nq2
    clear nq2
    have nq2 := nqs nq_out_b21 (Fr.of_or q31) a24.lt
    replace a24 := a24.step o30 (fun e => nq_out_b21 _ e rfl)
    replace nq_out_b21 := nq2
    clear nq2
    have tq := oW.size
    replace oW := oW.tailr o30 q_oW_out (fun _ e => by cases e)
    replace q_oW_out := qtr (Fr.of_or q31) q_oW_out tq
    clear tq
    have tq := o16.size
    replace o16 := o16.tailr o30 q_o16_out (fun k e => (.inl e))
    replace q_o16_out := qtr (Fr.of_or q31) q_o16_out tq
    clear tq
    refine wI (d_assign rfl) ?_
    refine wD ?_
    refine inb_n (tN ?_)
    refine forget (fun zf32 => ([(ag3 D B Q), u1, (ptr gg 0), undef, vN, u26, (eN i)] ++ (zs zf32 7 13 ++ [u1, (eN i), (ixp u1 i), (eI (ls.getD i 0)), (ptr gg 1), (eN B), (eN (2 * B)), (eN (((ls.getD i 0) % ((2 * B : Nat) : Int)).toNat))] ++ (zs zf32 28 10 ++ [undef])))) kr (fun zf32 => ?_)
    refine pL ?_
    refine wI (d_move rfl) ?_
    refine wI (n_add (a := i) (b := 1) rfl rfl oo) ?_
    refine wI (d_assign rfl) ?_
    refine wD (tN ?_)
    refine ⟨_, ⟨i + 1, bo28, u26⟩, rfl, kr, ⟨?_, ?_, ?_, ?_, ?_⟩, ?_⟩
    ·
     (try dsimp only)
     all_goals (omega)
    ·
     exact o16
    ·
     exact a13
    ·
     (try dsimp only)
     all_goals (rw [← spoil_yes c2_]; exact a29)
    ·
     exact q_o16_out
    ·
     (try dsimp only)
     all_goals (omega)
   refine wK ?_
   refine inb_n (tN ?_)
   refine pL ?_
   refine wI (d_move rfl) ?_
   refine wI (n_add (a := i) (b := 1) rfl rfl oo) ?_
   refine wI (d_assign rfl) ?_
   refine wD (tN ?_)
   refine ⟨_, ⟨i + 1, bo_out, u_out⟩, rfl, kr, ⟨?_, ?_, ?_, ?_, ?_⟩, ?_⟩
   ·
    (try dsimp only)
    all_goals (omega)
   ·
    exact o16
   ·
    exact a13
   ·
    (try dsimp only)
    all_goals (rw [spoil_skip c2_]; exact a15)
   ·
    exact q_o16_out
   ·
    (try dsimp only)
    all_goals (omega)
  refine pL ?_
  refine wI (d_move rfl) ?_
  refine wI (d_move rfl) ?_
  refine wI (d_lenS rfl Try.underlying37 rfl h1) ?_
  refine wI (n_lss (a := i) (b := ls.length) rfl rfl (decide_eq_true k0)) ?_
  refine wI (d_move rfl) ?_
  refine wG (d_move rfl) ?_
  refine wG (d_fieldAddr (j := 0) Try.underlying23 rfl s_ti3 (by decide) rfl rfl) ?_
  refine wF ([(ag3 D B Q), u1, (ptr gg 0), undef, vN, u_out, (eN i), (z 7), (eN i), u1, (eN ls.length), vT, vT, (eN i), (ptr gg 0)] ++ (zs z 15 23 ++ [undef])) ?_
  refine wG (d_load (v := (eN D)) ⟨_, Try.underlying3, rfl⟩ rfl a13 rfl) ?_
  refine wG (n_lss (a := i) (b := D) rfl rfl (decide_eq_false k1)) ?_
  refine wI (d_pick (b := true) (v := vF) rfl rfl) ?_
  refine wD (tN ?_)
  refine forget (fun zf33 => ([(ag3 D B Q), u1, (ptr gg 0), undef, vN, u_out, (eN i)] ++ (zs zf33 7 10 ++ [vF, (zf33 18), (zf33 19)] ++ (zs z 20 8 ++ (zs zf33 28 10 ++ [undef]))))) kr (fun zf33 => ?_)
  refine cond_f rfl ?_
  refine wpIn_exit ?_
  refine then_x (then_x (inb_e ?_))
  refine tN (wQ (pL ?_))
  refine wI (d_move rfl) ?_
  refine wI (d_assign rfl) ?_
  refine wD (tN ?_)
  refine wpIn_ret ?_
  refine leave0 (v := u_out) (res1 Try.results31 rfl) ?_
  have hi_ : i = min ls.length D := by omega
  exact ⟨by unfold spoilL; rw [← hi_]; exact (Ow.seqA a15 (old_q q_oW_out)), oW⟩
 refine pL ?_
 refine wI (d_move rfl) ?_
 refine wI (d_move rfl) ?_
 refine wI (d_lenS rfl Try.underlying37 rfl h1) ?_
 refine wI (n_lss (a := i) (b := ls.length) rfl rfl (decide_eq_false k0)) ?_
 refine wI (d_move rfl) ?_
 refine wX ?_
 refine wX ?_
 refine wF ([(ag3 D B Q), u1, (ptr gg 0), undef, vN, u_out, (eN i), (z 7), (eN i), u1, (eN ls.length), vF, vF, undef, undef] ++ (zs z 15 23 ++ [undef])) ?_
 refine wX ?_
 refine wX ?_
 refine wI (d_pick (b := false) (v := vF) rfl rfl) ?_
 refine wD (tN ?_)
 refine cond_f rfl ?_
 refine wpIn_exit ?_
 refine then_x (then_x (inb_e ?_))
 refine tN ?_
 refine forget (fun zf34 => (zs zf34 0 5 ++ [u_out, (eN i)] ++ (zs zf34 7 32))) kr (fun zf34 => ?_)
 refine wQ (pL ?_)
 refine wI (d_move rfl) ?_
 refine wI (d_assign rfl) ?_
 refine wD (tN ?_)
 refine wpIn_ret ?_
 refine leave0 (v := u_out) (res1 Try.results31 rfl) ?_
 have hi_ : i = min ls.length D := by omega
 exact ⟨by unfold spoilL; rw [← hi_]; exact (Ow.seqA a15 (old_q q_oW_out)), oW⟩
theorem stopM_ok (L : NL) (s : NS) {X : Nat → Prop} (W : World) (hN : Nd L s X W) (l : List UInt8) (ul : Value) (hX : ∀ k, X k → k < W.heap.size) (hl : Ps (Ors L.S No) (Seq kB l ul) W) (gl : l.length ≤ 1048576) :
    CW Try.prog 24 #[(ptr L.bN 0), (eI (-1)), ul] W (Rt (fun u w => Nd L (s.stopAt 0 l) X w ∧ Only L.S W w)) := by
 have oW : Only L.S W W := Only.refl _ _
 refine enter (al := [(ptr L.bN 0), (eI (-1)), ul]) (k := 13) (l := ([(ptr L.bN 0), (eI (-1)), ul] ++ (us 13))) Try.func24 rfl Try.ntmps24 rfl rfl ?_
 refine pL ?_
 refine wI (d_move rfl) ?_
 refine wI (d_move rfl) ?_
 refine wI (d_move rfl) ?_
 refine wI (d_max2 (m := (-1)) (n := 0) (r := 0) rfl rfl rfl) ?_
 refine wI (d_move rfl) ?_
 refine wO (d_call (xl := [.tmp 10]) (al := [ul]) Try.func51 kr rfl rfl rfl (cloneB_ok l ul _ (Ps.no hl) fo)) ?_
 rintro u13 w11 f14
 replace f14 := f14.ps
 obtain ⟨f14, o12⟩ := f14
 replace f14 := f14.less (Y := (Ors L.S (Old W.heap.size))) (ors_old hN.lt (old_old oW.size))
 replace hl := hl.step0 o12
 replace hN := hN.step0 o12
 replace oW := oW.tail0 o12
 refine wI (d_nilCheck (b := L.bN) (o := 0) rfl) ?_
 refine wI (d_fieldAddr (j := 12) Try.underlying73 rfl s_ti3 (by decide) rfl rfl) ?_
 refine wO (nd_st (s' := { s with stop := 0 }) (i := 12) (v := (eN 0)) hN s_ti3 rfl rfl rfl (by decide) (fun _ => rfl) ⟨hN.ok.d, hN.ok.b, hN.ok.p, hN.ok.nx, (by have := hN.ok.st; show 0 < 2 ^ 62; omega), hN.ok.dl, hN.ok.nl, hN.ok.ml⟩ ⟨rfl, rfl, rfl, rfl, rfl, rfl, rfl⟩) ?_
 rintro _ w15 ⟨a16, o17⟩
 replace hl := hl.step o17 sub1
 replace f14 := f14.step o17 sub1
 replace oW := oW.tail o17 (fun k _ e => (fun k h => h) k e)
 replace hN := a16
 refine wF [(ptr L.bN 0), (eI (-1)), ul, undef, undef, undef, (ptr L.bN 0), (ptr L.bN 0), (eI (-1)), (eN 0), ul, u13, (ptr L.bN 0), (ptr L.bN 12), undef, undef] ?_
 refine wI (d_nilCheck (b := L.bN) (o := 0) rfl) ?_
 refine wI (d_fieldAddr (j := 13) Try.underlying73 rfl s_ti36 (by decide) rfl rfl) ?_
 refine wO (nd_stm (Y := (Ors L.S X)) (l := l) hN ox_s s_ti36 rfl rfl (f14.less (Y := (Ors L.S X)) (xx_ors (lt_old hX))) gl) ?_
 rintro _ w18 ⟨a19, o20⟩
 replace hl := hl.step o20 sub1
 replace f14 := f14.step o20 sub1
 replace oW := oW.tail o20 (fun k _ e => (fun k h => h) k e)
 replace hN := a19
 refine wD ?_
 refine to_ret ?_
 refine leave0 (v := (Value.tuple #[])) (res0 Try.results24) ?_
 exact ⟨hN, oW⟩
theorem refStopM_ok (L : RL) (s : NS) {X : Nat → Prop} (W : World) (hN : Rd L s X W) (l : List UInt8) (ul : Value) (hX : ∀ k, X k → k < W.heap.size) (hl : Ps (Ors L.S No) (Seq kB l ul) W) (gl : l.length ≤ 1048576) :
    CW Try.prog 58 #[(ptr L.bN 0), (eI (-1)), ul] W (Rt (fun u w => Rd L (s.stopAt 0 l) X w ∧ Only L.S W w)) := by
 have oW : Only L.S W W := Only.refl _ _
 refine enter (al := [(ptr L.bN 0), (eI (-1)), ul]) (k := 14) (l := ([(ptr L.bN 0), (eI (-1)), ul] ++ (us 14))) Try.func58 rfl Try.ntmps58 rfl rfl ?_
 refine pL ?_
 refine wI (d_move rfl) ?_
 refine wI (d_move rfl) ?_
 refine wI (d_move rfl) ?_
 refine wI (d_max2 (m := (-1)) (n := 0) (r := 0) rfl rfl rfl) ?_
 refine wO (d_buildL (cs := []) Try.underlying36 s_ti5 rfl (nb rfl) parts_nil rfl) ?_
 rintro _ w11 ⟨eb, rfl, g12, a13, o14⟩
 replace a13 : Arr 5 eb (([] : List UInt8).map eB) w11 := a13
 have l_eb : ([] : List UInt8).length = 0 := rfl
 have g_oW_eb : W.heap.size ≤ eb := Nat.le_trans oW.size g12
 replace hl := hl.new o14 g12
 replace hN := hN.new o14 g12
 replace oW := oW.tail0 o14
 refine wI (d_move rfl) ?_
 have a16 := Ow.of_map2 a13 l_eb
 have q_oW_row15 : Fr (some eb) none W.heap.size := Fr.new g_oW_eb
 replace hl := hl.less (Y := (Orq (some eb) (Ors L.S No))) (xx_br (xx_ors xx_id))
 replace hN := hN.less (Y := (Orq (some eb) X)) (xx_br xx_id)
 refine wO (d_append Try.underlying36 Try.underlying36 s_ti5 rfl rfl rfl a16 (SrcV.of_seq hl (fun _ => rfl)) (by first | omega | (simp; omega)) (by first | omega | (simp; omega)) rfl) ?_
 rintro u17 w18 ⟨bo19, a20, o21, q22⟩
 replace a20 : Ow 5 1 bo19 u17 (([] : List UInt8) ++ l).length ((([] : List UInt8) ++ l).map eB) w18 := by rw [List.length_append, List.map_append]; exact a20
 replace hl := hl.gr o21 (fun k e => (.inl e)) (xx_re (Fr.of_or q22) (xx_ors xx_id))
 replace hN := hN.gr o21 (fun k e => (.inl e)) (xx_re (Fr.of_or q22) xx_id)
 have tq := oW.size
 replace oW := oW.tailr o21 q_oW_row15 (fun _ e => by cases e)
 replace q_oW_row15 := qtr (Fr.of_or q22) q_oW_row15 tq
 clear tq
 refine wI (d_nilCheck (b := L.bN) (o := 0) rfl) ?_
 refine wI (d_fieldAddr (j := 5) Try.underlying81 rfl s_ti3 (by decide) rfl rfl) ?_
 refine wF [(ptr L.bN 0), (eI (-1)), ul, undef, undef, undef, (ptr L.bN 0), (ptr L.bN 0), (eI (-1)), (eN 0), (sli eb 0 0 0), ul, u17, (ptr L.bN 0), (ptr L.bN 5), undef, undef] ?_
 refine wO (rd_st (s' := { s with stop := 0 }) (i := 5) (v := (eN 0)) hN s_ti3 rfl rfl rfl (by decide) (fun _ => rfl) ⟨hN.ok.d, hN.ok.b, hN.ok.p, hN.ok.nx, (by have := hN.ok.st; show 0 < 2 ^ 62; omega), hN.ok.dl, hN.ok.nl, hN.ok.ml⟩ ⟨rfl, rfl, rfl, rfl, rfl, rfl, rfl⟩) ?_
 rintro _ w23 ⟨a24, o25⟩
 replace a20 := a20.step o25 (fun x hx => hN.dis x ((fun k e => (.inl e)) x hx))
 replace hl := hl.step o25 (subq sub1)
 replace oW := oW.tail o25 (fun k _ e => (fun k h => h) k e)
 replace hN := a24
 refine wI (d_nilCheck (b := L.bN) (o := 0) rfl) ?_
 refine wI (d_fieldAddr (j := 6) Try.underlying81 rfl s_ti36 (by decide) rfl rfl) ?_
 have f26 : Ps (Ors L.S (Old W.heap.size)) (Seq kB (([] : List UInt8) ++ l) u17) w23 := Ow.seq a20 (fun b_ hb_ => (not_ors (hN.dis b_ ((fun k e => (.inl e)) b_ hb_)) (old_q q_oW_row15 b_ hb_)))
 replace hl := Ps.less (Y := (Ors L.S No)) hl (xx_skip (xx_ors xx_id))
 replace hN := Rd.less (Y := X) hN (xx_skip xx_id)
 refine wO (rd_stm (Y := (Ors L.S X)) (l := (([] : List UInt8) ++ l)) hN ox_s s_ti36 rfl rfl (f26.less (Y := (Ors L.S X)) (xx_ors (lt_old hX))) gl) ?_
 rintro _ w27 ⟨a28, o29⟩
 replace hl := hl.step o29 sub1
 replace f26 := f26.step o29 sub1
 replace oW := oW.tail o29 (fun k _ e => (fun k h => h) k e)
 replace hN := a28
 refine wD ?_
 refine to_ret ?_
 refine leave0 (v := (Value.tuple #[])) (res0 Try.results58) ?_
 exact ⟨hN, oW⟩
theorem law7Few_ok (la : List AX) (u1 : Value) (W : World) (h1 : Ps No (Seq kAct la u1) W) (g1 : la.length ≤ 9223372036854775807) :
    CW Try.prog 30 #[u1] W (Rt (fun u w => ∃ r, u = .bool r ∧ (r = true → ∀ i, i < la.length → (la.getD i AX0).b.length ≤ 100 ∧ (la.getD i AX0).l.length ≤ 20) ∧ Only No W w)) := by
 have oW : Only No W W := Only.refl _ _
 refine enter (al := [u1]) (k := 28) (l := ([u1] ++ (us 28))) Try.func30 rfl Try.ntmps30 rfl rfl ?_
 refine wQ (pL ?_)
 refine wI (d_assign rfl) ?_
 refine wD (tN (wQ (wQ (pL ?_))))
 refine wI (d_assign rfl) ?_
 refine wD (tN (wB ?_))
 refine loop2 (fun (i : (Nat)) => fun (z : Nat → Value) => (([u1, undef, (z 2), (eN i)] ++ (zs z 4 22 ++ [undef, undef, undef])) : List Value)) (fun (i : (Nat)) => fun (w_ : World) => (i ≤ la.length) ∧ (∀ j, j < i → (la.getD j AX0).b.length ≤ 100 ∧ (la.getD j AX0).l.length ≤ 20) ∧ Only No W w_) (fun (i : (Nat)) => la.length - i) 0 kr ?_ ?_
 ·
  refine ⟨?_, ?_, ?_⟩
  ·
   exact Nat.zero_le _
  ·
   exact fun j h => absurd h (Nat.not_lt_zero j)
  ·
   exact Only.refl _ _
 rintro i z w12 ⟨hi, hf_, o11⟩
 (try dsimp only)
 replace h1 := h1.step o11 no_any
 replace oW := oW.tail o11 tl_no
 refine wQ (wQ (pL ?_))
 refine wI (d_move rfl) ?_
 refine wI (d_move rfl) ?_
 refine wI (d_lenS rfl Try.underlying55 rfl h1) ?_
 refine wI (n_lss (a := i) (b := la.length) rfl rfl rfl) ?_
 refine wD (tN ?_)
 refine cond_if rfl (fun c13 => ?_) (fun c13 => ?_)
 ·
  refine wK (tN (wQ (wB (wQ ?_))))
  by_cases k0 : 100 < (((la.getD i AX0).b).length)
  ·
   refine pL ?_
   refine wI (d_move rfl) ?_
   refine wI (d_move rfl) ?_
   refine wO (d_indexS (q := kAct) (xs := la) (v := (la.getD i AX0)) Try.underlying55 s_ti59 rfl h1 (show _ = Value.int _ (i : Int) from rfl) oo (g_at fo)) ?_
   rintro u14 _ ⟨f15, rfl⟩
   refine wF ([u1, undef, (z 2), (eN i), (eN i), u1, (eN la.length), (Value.bool (decide (i < la.length))), (z 8), (z 9), u1, (eN i), u14] ++ (zs z 13 13 ++ [undef, undef, undef])) ?_
   have f16 := act_b f15
   refine wO (d_fieldAct 5 (la.getD i AX0).vb Try.underlying59 rfl s_ti36 rfl rfl f15 rfl) ?_
   rintro u17 _ ⟨f18, rfl⟩
   refine wI (d_loadAt (enc := eV) (v := (la.getD i AX0).vb) ⟨_, Try.underlying36, rfl⟩ rfl f18) ?_
   refine wI (d_lenS rfl Try.underlying36 rfl f16) ?_
   refine wI (n_gtr (a := (((la.getD i AX0).b).length)) (b := 100) rfl rfl (decide_eq_true k0)) ?_
   refine wI (d_move rfl) ?_
   refine wX ?_
   refine wX ?_
   refine wF ([u1, undef, (z 2), (eN i), (eN i), u1, (eN la.length), (Value.bool (decide (i < la.length))), (z 8), (z 9), u1, (eN i), u14, u17, (la.getD i AX0).vb, (eN (((la.getD i AX0).b).length)), vT, vT, undef, undef] ++ (zs z 20 6 ++ [undef, undef, undef])) ?_
   refine wX ?_
   refine wX ?_
   refine wX ?_
   refine wX ?_
   refine wX ?_
   refine wI (d_pick (b := true) (v := vT) rfl rfl) ?_
   refine wD (tN ?_)
   refine forget (fun zf19 => ([u1, undef, (zf19 2), (eN i)] ++ (zs zf19 4 21 ++ [vT, undef, undef, undef]))) kr (fun zf19 => ?_)
   refine cond_t rfl ?_
   refine wQ (pL ?_)
   refine wI (d_assign rfl) ?_
   refine wD (tN ?_)
   refine wpIn_ret ?_
   refine inb_r (then_r (then_r (inb_r (then_r ?_))))
   refine leave0 (v := vF) (res1 Try.results30 rfl) ?_
   exact ⟨false, rfl, (fun h => by cases h), oW⟩
  refine pL ?_
  refine wI (d_move rfl) ?_
  refine wI (d_move rfl) ?_
  refine wO (d_indexS (q := kAct) (xs := la) (v := (la.getD i AX0)) Try.underlying55 s_ti59 rfl h1 (show _ = Value.int _ (i : Int) from rfl) oo (g_at fo)) ?_
  rintro u20 _ ⟨f21, rfl⟩
  refine wF ([u1, undef, (z 2), (eN i), (eN i), u1, (eN la.length), (Value.bool (decide (i < la.length))), (z 8), (z 9), u1, (eN i), u20] ++ (zs z 13 13 ++ [undef, undef, undef])) ?_
  have f22 := act_b f21
  refine wO (d_fieldAct 5 (la.getD i AX0).vb Try.underlying59 rfl s_ti36 rfl rfl f21 rfl) ?_
  rintro u23 _ ⟨f24, rfl⟩
  refine wI (d_loadAt (enc := eV) (v := (la.getD i AX0).vb) ⟨_, Try.underlying36, rfl⟩ rfl f24) ?_
  refine wI (d_lenS rfl Try.underlying36 rfl f22) ?_
  refine wI (n_gtr (a := (((la.getD i AX0).b).length)) (b := 100) rfl rfl (decide_eq_false k0)) ?_
  refine wI (d_move rfl) ?_
  refine wG (d_move rfl) ?_
  refine wG (d_move rfl) ?_
  refine wF ([u1, undef, (z 2), (eN i), (eN i), u1, (eN la.length), (Value.bool (decide (i < la.length))), (z 8), (z 9), u1, (eN i), u20, u23, (la.getD i AX0).vb, (eN (((la.getD i AX0).b).length)), vF, vF, u1, (eN i)] ++ (zs z 20 6 ++ [undef, undef, undef])) ?_
  refine wpL.on rfl rfl rfl (nb rfl) rfl (d_indexS (q := kAct) (xs := la) (v := (la.getD i AX0)) Try.underlying55 s_ti59 rfl h1 (show _ = Value.int _ (i : Int) from rfl) oo (g_at fo)) ?_
  rintro u25 _ ⟨f26, rfl⟩
  have f27 := act_l f26
  refine wpL.on rfl rfl rfl (nb rfl) rfl (d_fieldAct 6 (la.getD i AX0).vl Try.underlying59 rfl s_ti37 rfl rfl f26 rfl) ?_
  rintro u28 _ ⟨f29, rfl⟩
  refine wG (d_loadAt (enc := eV) (v := (la.getD i AX0).vl) ⟨_, Try.underlying37, rfl⟩ rfl f29) ?_
  refine wG (d_lenS rfl Try.underlying37 rfl f27) ?_
  refine wG (n_gtr (a := (((la.getD i AX0).l).length)) (b := 20) rfl rfl rfl) ?_
  refine wI (d_pick (b := false) (v := (Value.bool (decide (20 < (((la.getD i AX0).l).length))))) rfl rfl) ?_
  refine wD (tN ?_)
  refine forget (fun zf30 => ([u1, undef, (zf30 2), (eN i)] ++ (zs zf30 4 21 ++ [(Value.bool (decide (20 < (((la.getD i AX0).l).length)))), undef, undef, undef]))) kr (fun zf30 => ?_)
  refine cond_if rfl (fun c25 => ?_) (fun c25 => ?_)
  ·
   refine wQ (pL ?_)
   refine wI (d_assign rfl) ?_
   refine wD (tN ?_)
   refine wpIn_ret ?_
   refine inb_r (then_r (then_r (inb_r (then_r ?_))))
   refine leave0 (v := vF) (res1 Try.results30 rfl) ?_
   exact ⟨false, rfl, (fun h => by cases h), oW⟩
  refine wK ?_
  refine inb_n (tN ?_)
  refine pL ?_
  refine wI (d_move rfl) ?_
  refine wI (n_add (a := i) (b := 1) rfl rfl oo) ?_
  refine wI (d_assign rfl) ?_
  refine wD (tN ?_)
  refine ⟨_, (i + 1), rfl, kr, ⟨?_, ?_, ?_⟩, ?_⟩
  ·
   (try dsimp only)
   all_goals (omega)
  ·
   (try dsimp only)
   all_goals (exact fun j hj => by by_cases e_ : j = i; (rw [e_]; omega); (exact hf_ j oo))
  ·
   exact o11
  ·
   (try dsimp only)
   all_goals (omega)
 refine wpIn_exit ?_
 refine then_x (then_x (inb_e ?_))
 refine tN (wQ (pL ?_))
 refine wI (d_move rfl) ?_
 refine wI (d_lenS rfl Try.underlying55 rfl h1) ?_
 refine wI (n_leq (a := la.length) (b := 60) rfl rfl rfl) ?_
 refine wI (d_assign rfl) ?_
 refine wD (tN ?_)
 refine forget (fun zf31 => ([(zf31 0), (zf31 1), (Value.bool (decide (la.length ≤ 60))), (eN i)] ++ (zs zf31 4 25))) kr (fun zf31 => ?_)
 refine wpIn_ret ?_
 refine leave0 (v := (Value.bool (decide (la.length ≤ 60)))) (res1 Try.results30 rfl) ?_
 exact ⟨_, rfl, (fun _ j hj => hf_ j oo), oW⟩
theorem law7Same_ok (L : NL) (M : RL) (s t : NS) {X : Nat → Prop} (W : World) (hN : Nd L s (Ors M.S X) W) (hM : Rd M t (Ors L.S X) W) (hS : Sm s t) :
    CW Try.prog 33 #[(ptr L.bN 0), (ptr M.bN 0)] W (Rt (RIs (.bool true) W)) := by
 have oW : Only No W W := Only.refl _ _
 refine enter (al := [(ptr L.bN 0), (ptr M.bN 0)]) (k := 77) (l := ([(ptr L.bN 0), (ptr M.bN 0)] ++ (us 77))) Try.func33 rfl Try.ntmps33 rfl rfl ?_
 have eD_ : t.gD = s.gD := hS.gD
 have eB_ : t.gB = s.gB := hS.gB
 have eP_ : t.gP = s.gP := hS.gP
 have okd_ := hM.ok.d
 have okb_ := hM.ok.b
 have okp_ := hM.ok.p
 refine wQ (pL ?_)
 refine wI (d_assign rfl) ?_
 refine wD (tN (wQ (wQ ?_)))
 refine drawn_pure [0, 1, 0, 4, 12, 28, 63, 127, 255, 511, 255, 1279, 3327, 7423, 16383, 32767, 65535, 131071, 262143, 131071, 655359, 1703935, 3801087, 8388607, 16777215, 33554431, 67108863, 134217727, 67108863, 335544319, 872415231, 1946157055, 4294967295, 8589934591] [(0, 7), (1, 8), (2, 9), (3, 10), (4, 11), (5, 12), (6, 13), (7, 14), (8, 15), (9, 16), (10, 17), (11, 18), (12, 19), (13, 20), (14, 21), (15, 22), (16, 23), (17, 24), (18, 25), (19, 26), (20, 27), (21, 28), (22, 29), (23, 30), (24, 31), (25, 32), (26, 33), (27, 34), (28, 35), (29, 36), (30, 37), (31, 38), (32, 39), (33, 40)] [(ptr L.bN 0), (Value.bool s.dead), (ptr M.bN 0), (ptr M.bN 0), (ptr M.bN 7), (Value.bool t.dead), vF, vF, (ptr L.bN 0), (eI s.wrong), (ptr M.bN 0), (ptr M.bN 0), (ptr M.bN 9), (eI t.wrong), vF, vF, vF, (ptr L.bN 0), (eI s.ops), (ptr M.bN 0), (ptr M.bN 0), (ptr M.bN 8), (eI t.ops), vF, vF, vF, (ptr L.bN 0), (Value.agg #[(eN s.gD), (eN s.gB), (eN s.gP)]), (ptr M.bN 0), (ptr M.bN 0), (ptr M.bN 0), (Value.agg #[(eN t.gD), (eN t.gB), (eN t.gP)]), vF, vF] ([(ptr L.bN 0), (ptr M.bN 0), undef, undef, vF, undef, undef, (ptr L.bN 0), (Value.bool s.dead), (ptr M.bN 0), (ptr M.bN 0), (ptr M.bN 7), (Value.bool t.dead), vF, vF, (ptr L.bN 0), (eI s.wrong), (ptr M.bN 0), (ptr M.bN 0), (ptr M.bN 9), (eI t.wrong), vF, vF, vF, (ptr L.bN 0), (eI s.ops), (ptr M.bN 0), (ptr M.bN 0), (ptr M.bN 8), (eI t.ops), vF, vF, vF, (ptr L.bN 0), (Value.agg #[(eN s.gD), (eN s.gB), (eN s.gP)]), (ptr M.bN 0), (ptr M.bN 0), (ptr M.bN 0), (Value.agg #[(eN t.gD), (eN t.gB), (eN t.gP)]), vF, vF] ++ (us 38)) s_mx kr kr rfl kr kr ?_ ?_
 ·
  intro w_ hO_
  refine AllG.cons (gi rfl (d_move rfl)) ?_
  refine AllG.cons (gc rfl (d_call (xl := [.tmp 7]) (al := [(ptr L.bN 0)]) Try.func25 kr rfl rfl rfl (nandDead_ok L s _ (hN.step0 hO_)))) ?_
  refine AllG.cons (gi rfl (d_move rfl)) ?_
  refine AllG.cons (gi rfl (d_nilCheck (b := M.bN) (o := 0) rfl)) ?_
  refine AllG.cons (gi rfl (d_fieldAddr (j := 7) Try.underlying81 rfl s_ti4 (by decide) rfl rfl)) ?_
  refine AllG.cons (gi rfl (rd_ld (v := (Value.bool t.dead)) (hM.step0 hO_) ⟨_, Try.underlying4, rfl⟩ rfl (fun _ => rfl))) ?_
  refine AllG.cons (gi rfl (d_bneq (r := false) Try.underlying4 rfl rfl (by rw [hS.dead]; cases s.dead <;> rfl))) ?_
  refine AllG.cons (gi rfl (d_move rfl)) ?_
  refine AllG.cons (gi_on rfl rfl rfl (nb rfl) rfl (d_move rfl)) ?_
  refine AllG.cons (gc_on rfl rfl rfl (nb rfl) rfl (d_call (xl := [.tmp 15]) (al := [(ptr L.bN 0)]) Try.func18 kr rfl rfl rfl (nandWrong_ok L s _ (hN.step0 hO_)))) ?_
  refine AllG.cons (gi_on rfl rfl rfl (nb rfl) rfl (d_move rfl)) ?_
  refine AllG.cons (gi_on rfl rfl rfl (nb rfl) rfl (d_nilCheck (b := M.bN) (o := 0) rfl)) ?_
  refine AllG.cons (gi_on rfl rfl rfl (nb rfl) rfl (d_fieldAddr (j := 9) Try.underlying81 rfl s_ti3 (by decide) rfl rfl)) ?_
  refine AllG.cons (gi_on rfl rfl rfl (nb rfl) rfl (rd_ld (v := (eI t.wrong)) (hM.step0 hO_) ⟨_, Try.underlying3, rfl⟩ rfl (fun _ => rfl))) ?_
  refine AllG.cons (gi_on rfl rfl rfl (nb rfl) rfl (d_neq (k := .i64) (m := s.wrong) (n := t.wrong) rfl rfl (by rw [decide_eq_true hS.wrong.symm] <;> rfl))) ?_
  refine AllG.cons (gi rfl (d_pick (b := false) (v := vF) rfl rfl)) ?_
  refine AllG.cons (gi rfl (d_move rfl)) ?_
  refine AllG.cons (gi_on rfl rfl rfl (nb rfl) rfl (d_move rfl)) ?_
  refine AllG.cons (gc_on rfl rfl rfl (nb rfl) rfl (d_call (xl := [.tmp 24]) (al := [(ptr L.bN 0)]) Try.func19 kr rfl rfl rfl (nandOps_ok L s _ (hN.step0 hO_)))) ?_
  refine AllG.cons (gi_on rfl rfl rfl (nb rfl) rfl (d_move rfl)) ?_
  refine AllG.cons (gi_on rfl rfl rfl (nb rfl) rfl (d_nilCheck (b := M.bN) (o := 0) rfl)) ?_
  refine AllG.cons (gi_on rfl rfl rfl (nb rfl) rfl (d_fieldAddr (j := 8) Try.underlying81 rfl s_ti3 (by decide) rfl rfl)) ?_
  refine AllG.cons (gi_on rfl rfl rfl (nb rfl) rfl (rd_ld (v := (eI t.ops)) (hM.step0 hO_) ⟨_, Try.underlying3, rfl⟩ rfl (fun _ => rfl))) ?_
  refine AllG.cons (gi_on rfl rfl rfl (nb rfl) rfl (d_neq (k := .i64) (m := s.ops) (n := t.ops) rfl rfl (by rw [decide_eq_true hS.ops.symm] <;> rfl))) ?_
  refine AllG.cons (gi rfl (d_pick (b := false) (v := vF) rfl rfl)) ?_
  refine AllG.cons (gi rfl (d_move rfl)) ?_
  refine AllG.cons (gi_on rfl rfl rfl (nb rfl) rfl (d_move rfl)) ?_
  refine AllG.cons (gc_on rfl rfl rfl (nb rfl) rfl (d_call (xl := [.tmp 33]) (al := [(ptr L.bN 0)]) Try.func59 kr rfl rfl rfl (geometry_ok L s _ (hN.step0 hO_)))) ?_
  refine AllG.cons (gi_on rfl rfl rfl (nb rfl) rfl (d_move rfl)) ?_
  refine AllG.cons (gi_on rfl rfl rfl (nb rfl) rfl (d_nilCheck (b := M.bN) (o := 0) rfl)) ?_
  refine AllG.cons (gi_on rfl rfl rfl (nb rfl) rfl (d_fieldAddr (j := 0) Try.underlying81 rfl s_ti23 (by decide) rfl rfl)) ?_
  refine AllG.cons (gi_on rfl rfl rfl (nb rfl) rfl (rd_ldAg (vs := [(eN t.gD), (eN t.gB), (eN t.gP)]) (hM.step0 hO_) ⟨_, Try.underlying23, rfl⟩ s_ti23 rfl rfl rfl)) ?_
  refine AllG.cons (gi_on rfl rfl rfl (nb rfl) rfl (d_neqG3 Try.underlying23 Try.underlying3 kr kr ⟨by decide, rfl, rfl⟩ ⟨by decide, rfl, rfl⟩ ⟨by decide, rfl, rfl⟩ rfl (show Value.agg #[(eN t.gD), (eN t.gB), (eN t.gP)] = Value.agg #[(eN s.gD), (eN s.gB), (eN s.gP)] from (by rw [eD_, eB_, eP_])))) ?_
  refine AllG.cons (gi rfl (d_pick (b := false) (v := vF) rfl rfl)) ?_
  exact AllG.nil
 intro w11 o12
 replace hN := hN.step0 o12
 replace hM := hM.step0 o12
 replace oW := oW.tail0 o12
 refine tN ?_
 refine forget (fun zf13 => ([(ptr L.bN 0), (ptr M.bN 0), (zf13 2), (zf13 3), (zf13 4), undef, undef] ++ (zs zf13 7 33 ++ [vF] ++ (zs zf13 41 38)))) kr (fun zf13 => ?_)
 refine cond_f rfl ?_
 refine wK (tN (wQ (wQ (pL ?_))))
 refine wI (d_assign rfl) ?_
 refine wD (tN (wB ?_))
 refine loop2 (fun (d : (Nat)) => fun (z : Nat → Value) => (([(ptr L.bN 0), (ptr M.bN 0), (zf13 2), (zf13 3), (z 4), (eN d), (z 6)] ++ (zs zf13 7 33 ++ [vF] ++ (zs z 41 38))) : List Value)) (fun (d : (Nat)) => fun (w_ : World) => (d ≤ t.gD) ∧ Only No w11 w_ ∧ Nd L s (Ors M.S X) w_ ∧ Rd M t (Ors L.S X) w_) (fun (d : (Nat)) => t.gD - d) 0 kr ?_ ?_
 ·
  refine ⟨?_, ?_, ?_, ?_⟩
  ·
   exact Nat.zero_le _
  ·
   exact Only.refl _ _
  ·
   exact hN
  ·
   exact hM
 rintro d z w15 ⟨hd, o14, hN, hM⟩
 (try dsimp only)
 replace oW := oW.tail o14 tl_no
 refine wQ (wQ (pL ?_))
 refine wI (d_move rfl) ?_
 refine wI (d_move rfl) ?_
 refine wI (d_nilCheck (b := M.bN) (o := 0) rfl) ?_
 refine wI (d_fieldAddr (j := 0) Try.underlying81 rfl s_ti23 (by decide) rfl rfl) ?_
 refine wI (d_fieldAddr (j := 0) Try.underlying23 rfl s_ti3 (by decide) rfl rfl) ?_
 refine wI (rd_ld (v := (eN t.gD)) hM ⟨_, Try.underlying3, rfl⟩ rfl (fun _ => rfl)) ?_
 refine wI (n_lss (a := d) (b := t.gD) rfl rfl rfl) ?_
 refine wD (tN ?_)
 refine cond_if rfl (fun c16 => ?_) (fun c16 => ?_)
 ·
  refine wK (tN (wQ (wB (wQ (pL ?_)))))
  refine wI (d_assign rfl) ?_
  refine wD (tN (wB ?_))
  refine loop2 (fun (b : (Nat)) => fun (z : Nat → Value) => (([(ptr L.bN 0), (ptr M.bN 0), (zf13 2), (zf13 3), (z 4), (eN d), (eN b)] ++ (zs zf13 7 33 ++ [vF, (eN d), (ptr M.bN 0), (ptr M.bN 0), (ptr M.bN 0), (ptr M.bN 0), (eN t.gD), (Value.bool (decide (d < t.gD)))] ++ (zs z 48 31))) : List Value)) (fun (b : (Nat)) => fun (w_ : World) => (b ≤ t.gB) ∧ Only No w15 w_ ∧ Nd L s (Ors M.S X) w_ ∧ Rd M t (Ors L.S X) w_) (fun (b : (Nat)) => t.gB - b) 0 kr ?_ ?_
  ·
   refine ⟨?_, ?_, ?_, ?_⟩
   ·
    exact Nat.zero_le _
   ·
    exact Only.refl _ _
   ·
    exact hN
   ·
    exact hM
  rintro b z w18 ⟨hb, o17, hN, hM⟩
  (try dsimp only)
  replace oW := oW.tail o17 tl_no
  replace o14 := o14.tail o17 tl_no
  refine wQ (wQ (pL ?_))
  refine wI (d_move rfl) ?_
  refine wI (d_move rfl) ?_
  refine wI (d_nilCheck (b := M.bN) (o := 0) rfl) ?_
  refine wI (d_fieldAddr (j := 0) Try.underlying81 rfl s_ti23 (by decide) rfl rfl) ?_
  refine wI (d_fieldAddr (j := 1) Try.underlying23 rfl s_ti3 (by decide) rfl rfl) ?_
  refine wI (rd_ld (v := (eN t.gB)) hM ⟨_, Try.underlying3, rfl⟩ rfl (fun _ => rfl)) ?_
  refine wI (n_lss (a := b) (b := t.gB) rfl rfl rfl) ?_
  refine wD (tN ?_)
  refine cond_if rfl (fun c19 => ?_) (fun c19 => ?_)
  ·
   refine wK (tN (wQ (wB (wQ (pL ?_)))))
   refine wI (d_move rfl) ?_
   refine wF ([(ptr L.bN 0), (ptr M.bN 0), (zf13 2), (zf13 3), (z 4), (eN d), (eN b)] ++ (zs zf13 7 33 ++ [vF, (eN d), (ptr M.bN 0), (ptr M.bN 0), (ptr M.bN 0), (ptr M.bN 0), (eN t.gD), (Value.bool (decide (d < t.gD))), (z 48), (z 49), (eN b), (ptr M.bN 0), (ptr M.bN 0), (ptr M.bN 0), (ptr M.bN 1), (eN t.gB), (Value.bool (decide (b < t.gB))), (z 57), (z 58), (ptr L.bN 0)] ++ (zs z 60 19))) ?_
   refine wI (d_move rfl) ?_
   refine wI (d_move rfl) ?_
   refine wO (d_call (xl := [.tmp 59, .tmp 60, .tmp 61]) (al := [(ptr L.bN 0), (eN d), (eN b)]) Try.func28 kr rfl rfl rfl (nandErases_ok L s _ hN (d : Int) (b : Int))) ?_
   rintro _ w20 ⟨rfl, o21⟩
   replace hN := hN.step0 o21
   replace hM := hM.step0 o21
   replace oW := oW.tail0 o21
   replace o14 := o14.tail0 o21
   replace o17 := o17.tail0 o21
   refine wI (d_move rfl) ?_
   refine wI (d_move rfl) ?_
   refine wI (d_move rfl) ?_
   refine wO (d_call (xl := [.tmp 63, .tmp 64, .tmp 65]) (al := [(ptr M.bN 0), (eN d), (eN b)]) Try.func60 kr rfl rfl rfl (refErases_ok M t _ hM (d : Int) (b : Int))) ?_
   rintro _ w22 ⟨rfl, o23⟩
   replace hN := hN.step0 o23
   replace hM := hM.step0 o23
   replace oW := oW.tail0 o23
   replace o14 := o14.tail0 o23
   replace o17 := o17.tail0 o23
   refine wF ([(ptr L.bN 0), (ptr M.bN 0), (zf13 2), (zf13 3), (z 4), (eN d), (eN b)] ++ (zs zf13 7 33 ++ [vF, (eN d), (ptr M.bN 0), (ptr M.bN 0), (ptr M.bN 0), (ptr M.bN 0), (eN t.gD), (Value.bool (decide (d < t.gD))), (z 48), (z 49), (eN b), (ptr M.bN 0), (ptr M.bN 0), (ptr M.bN 0), (ptr M.bN 1), (eN t.gB), (Value.bool (decide (b < t.gB))), (z 57), (z 58), (ptr L.bN 0), (eN d), (eN b), (eI (s.erases (d : Int) (b : Int))), (ptr M.bN 0), (eN d), (eN b), (eI (t.erases (d : Int) (b : Int)))] ++ (zs z 67 12))) ?_
   refine wI (d_neq (k := .i64) (m := s.erases (d : Int) (b : Int)) (n := t.erases (d : Int) (b : Int)) rfl rfl (by rw [decide_eq_true ((hS.erases _ _).symm)] <;> rfl)) ?_
   refine wI (d_move rfl) ?_
   refine wG (d_move rfl) ?_
   refine wG (d_move rfl) ?_
   refine wG (d_move rfl) ?_
   refine wpL.on rfl rfl rfl (nb rfl) rfl (d_call (xl := [.tmp 69, .tmp 70, .tmp 71]) (al := [(ptr L.bN 0), (eN d), (eN b)]) Try.func27 kr rfl rfl rfl (isBad_ok L s _ hN (r := (s.isBad (d : Int) (b : Int))) (d : Int) (b : Int) rfl)) ?_
   rintro _ w24 ⟨rfl, o25⟩
   replace hN := hN.step0 o25
   replace hM := hM.step0 o25
   replace oW := oW.tail0 o25
   replace o14 := o14.tail0 o25
   replace o17 := o17.tail0 o25
   refine wG (d_move rfl) ?_
   refine wF ([(ptr L.bN 0), (ptr M.bN 0), (zf13 2), (zf13 3), (z 4), (eN d), (eN b)] ++ (zs zf13 7 33 ++ [vF, (eN d), (ptr M.bN 0), (ptr M.bN 0), (ptr M.bN 0), (ptr M.bN 0), (eN t.gD), (Value.bool (decide (d < t.gD))), (z 48), (z 49), (eN b), (ptr M.bN 0), (ptr M.bN 0), (ptr M.bN 0), (ptr M.bN 1), (eN t.gB), (Value.bool (decide (b < t.gB))), (z 57), (z 58), (ptr L.bN 0), (eN d), (eN b), (eI (s.erases (d : Int) (b : Int))), (ptr M.bN 0), (eN d), (eN b), (eI (t.erases (d : Int) (b : Int))), vF, vF, (ptr L.bN 0), (eN d), (eN b), (Value.bool (s.isBad (d : Int) (b : Int))), (ptr M.bN 0)] ++ (zs z 74 5))) ?_
   refine wG (d_move rfl) ?_
   refine wG (d_move rfl) ?_
   refine wpL.on rfl rfl rfl (nb rfl) rfl (d_call (xl := [.tmp 73, .tmp 74, .tmp 75]) (al := [(ptr M.bN 0), (eN d), (eN b)]) Try.func61 kr rfl rfl rfl (refIsBad_ok M t _ hM (r := (t.isBad (d : Int) (b : Int))) (d : Int) (b : Int) rfl)) ?_
   rintro _ w26 ⟨rfl, o27⟩
   replace hN := hN.step0 o27
   replace hM := hM.step0 o27
   replace oW := oW.tail0 o27
   replace o14 := o14.tail0 o27
   replace o17 := o17.tail0 o27
   refine wG (d_bneq (r := false) Try.underlying4 rfl rfl (by rw [hS.isBad]; cases s.isBad _ _ <;> rfl)) ?_
   refine wI (d_pick (b := false) (v := vF) rfl rfl) ?_
   refine wD (tN ?_)
   refine forget (fun zf28 => ([(ptr L.bN 0), (ptr M.bN 0), (zf13 2), (zf13 3), (zf28 4), (eN d), (eN b)] ++ (zs zf13 7 33 ++ [vF, (eN d), (ptr M.bN 0), (ptr M.bN 0), (ptr M.bN 0), (ptr M.bN 0), (eN t.gD), (Value.bool (decide (d < t.gD))), (z 48), (z 49)] ++ (zs zf28 50 28 ++ [vF])))) kr (fun zf28 => ?_)
   refine cond_f rfl ?_
   refine wK ?_
   refine inb_n (tN ?_)
   refine pL ?_
   refine wI (d_move rfl) ?_
   refine wI (n_add (a := b) (b := 1) rfl rfl oo) ?_
   refine wI (d_assign rfl) ?_
   refine wD (tN ?_)
   refine ⟨_, (b + 1), rfl, kr, ⟨?_, ?_, ?_, ?_⟩, ?_⟩
   ·
    (try dsimp only)
    all_goals (omega)
   ·
    exact o17
   ·
    exact hN
   ·
    exact hM
   ·
    (try dsimp only)
    all_goals (omega)
  refine wpIn_exit ?_
  refine then_x (then_x (inb_e ?_))
  refine inb_n (tN ?_)
  refine forget (fun zf29 => ([(ptr L.bN 0), (ptr M.bN 0), (zf13 2), (zf13 3), (zf29 4), (eN d), (eN b)] ++ (zs zf13 7 33 ++ [vF] ++ (zs zf29 41 38)))) kr (fun zf29 => ?_)
  refine pL ?_
  refine wI (d_move rfl) ?_
  refine wI (n_add (a := d) (b := 1) rfl rfl oo) ?_
  refine wI (d_assign rfl) ?_
  refine wD (tN ?_)
  refine ⟨_, (d + 1), rfl, kr, ⟨?_, ?_, ?_, ?_⟩, ?_⟩
  ·
   (try dsimp only)
   all_goals (omega)
  ·
   exact o14
  ·
   exact hN
  ·
   exact hM
  ·
   (try dsimp only)
   all_goals (omega)
 refine wpIn_exit ?_
 refine then_x (then_x (inb_e ?_))
 refine tN ?_
 refine forget (fun zf30 => (zs zf30 0 5 ++ [(eN d), (z 6)] ++ (zs zf30 7 72))) kr (fun zf30 => ?_)
 refine wQ (pL ?_)
 refine wI (d_assign rfl) ?_
 refine wD (tN ?_)
 refine wpIn_ret ?_
 refine leave0 (v := vT) (res1 Try.results33 rfl) ?_
 exact ⟨rfl, oW⟩
theorem law7Pages_ok (L : NL) (M : RL) (s t : NS) {X : Nat → Prop} (W : World) (hN : Nd L s (Ors M.S X) W) (hM : Rd M t (Ors L.S X) W) (hS : Sm s t) (hR : s.Rg) (hX : ∀ k, X k → k < W.heap.size) :
    CW Try.prog 35 #[(ptr L.bN 0), (ptr M.bN 0)] W (Rt (fun u w => ∃ s2 t2, u = .bool true ∧ Nd L s2 (Ors M.S X) w ∧ Rd M t2 (Ors L.S X) w ∧ Sm s2 t2 ∧ s2.Rg ∧ Only (Ors L.S (Ors M.S No)) W w)) := by
 have oW : Only (Ors L.S (Ors M.S No)) W W := Only.refl _ _
 refine enter (al := [(ptr L.bN 0), (ptr M.bN 0)]) (k := 63) (l := ([(ptr L.bN 0), (ptr M.bN 0)] ++ (us 63))) Try.func35 rfl Try.ntmps35 rfl rfl ?_
 have eD_ : t.gD = s.gD := hS.gD
 have eB_ : t.gB = s.gB := hS.gB
 have eP_ : t.gP = s.gP := hS.gP
 have okd_ := hM.ok.d
 have okb_ := hM.ok.b
 have okp_ := hM.ok.p
 refine wQ (pL ?_)
 refine wI (d_assign rfl) ?_
 refine wD (tN (wQ (wQ (pL ?_))))
 refine wI (d_assign rfl) ?_
 refine wD (tN (wB ?_))
 refine loop2 (fun (s_ : (Nat) × (NS) × (NS)) => match s_ with | ⟨d, sd, td⟩ => fun (z : Nat → Value) => (([(ptr L.bN 0), (ptr M.bN 0), undef, undef, (z 4), (eN d)] ++ (zs z 6 59)) : List Value)) (fun (s_ : (Nat) × (NS) × (NS)) => match s_ with | ⟨d, sd, td⟩ => fun (w_ : World) => (d ≤ t.gD) ∧ (Sm sd td) ∧ (sd.Rg) ∧ (td.gD = t.gD ∧ td.gB = t.gB ∧ td.gP = t.gP) ∧ Only (Ors L.S (Ors M.S No)) W w_ ∧ Nd L sd (Ors M.S X) w_ ∧ Rd M td (Ors L.S X) w_) (fun (s_ : (Nat) × (NS) × (NS)) => match s_ with | ⟨d, sd, td⟩ => t.gD - d) ⟨0, (s), (t)⟩ kr ?_ ?_
 ·
  refine ⟨?_, ?_, ?_, ?_, ?_, ?_, ?_⟩
  ·
   exact Nat.zero_le _
  ·
   exact hS
  ·
   exact hR
  ·
   exact ⟨rfl, rfl, rfl⟩
  ·
   exact Only.refl _ _
  ·
   exact hN
  ·
   exact hM
 rintro ⟨d, sd, td⟩ z w12 ⟨hd, md, rd, gd, o11, hN, hM⟩
 (try dsimp only)
 replace oW := oW.tail o11 (tl_sin sub1 (tl_sin (subs sub1) tl_no))
 refine wQ (wQ (pL ?_))
 refine wI (d_move rfl) ?_
 refine wI (d_move rfl) ?_
 refine wI (d_nilCheck (b := M.bN) (o := 0) rfl) ?_
 refine wI (d_fieldAddr (j := 0) Try.underlying81 rfl s_ti23 (by decide) rfl rfl) ?_
 refine wI (d_fieldAddr (j := 0) Try.underlying23 rfl s_ti3 (by decide) rfl rfl) ?_
 refine wI (rd_ld (v := (eN td.gD)) hM ⟨_, Try.underlying3, rfl⟩ rfl (fun _ => rfl)) ?_
 refine wI (n_lss (a := d) (b := td.gD) rfl rfl rfl) ?_
 refine wD (tN ?_)
 refine cond_if rfl (fun c13 => ?_) (fun c13 => ?_)
 ·
  refine wK (tN (wQ (wB (wQ (pL ?_)))))
  refine wI (d_assign rfl) ?_
  refine wD (tN (wB ?_))
  refine loop2 (fun (s_ : (Nat) × (NS) × (NS)) => match s_ with | ⟨b, sb, tb⟩ => fun (z : Nat → Value) => (([(ptr L.bN 0), (ptr M.bN 0), undef, undef, (z 4), (eN d), (eN b)] ++ (zs z 7 5 ++ [(eN d), (ptr M.bN 0), (ptr M.bN 0), (ptr M.bN 0), (ptr M.bN 0), (eN td.gD), (Value.bool (decide (d < td.gD)))] ++ (zs z 19 46))) : List Value)) (fun (s_ : (Nat) × (NS) × (NS)) => match s_ with | ⟨b, sb, tb⟩ => fun (w_ : World) => (b ≤ t.gB) ∧ (Sm sb tb) ∧ (sb.Rg) ∧ (tb.gD = t.gD ∧ tb.gB = t.gB ∧ tb.gP = t.gP) ∧ Only (Ors L.S (Ors M.S No)) w12 w_ ∧ Nd L sb (Ors M.S X) w_ ∧ Rd M tb (Ors L.S X) w_) (fun (s_ : (Nat) × (NS) × (NS)) => match s_ with | ⟨b, sb, tb⟩ => t.gB - b) ⟨0, (sd), (td)⟩ kr ?_ ?_
  ·
   refine ⟨?_, ?_, ?_, ?_, ?_, ?_, ?_⟩
   ·
    exact Nat.zero_le _
   ·
    exact md
   ·
    exact rd
   ·
    exact gd
   ·
    exact Only.refl _ _
   ·
    exact hN
   ·
    exact hM
  rintro ⟨b, sb, tb⟩ z w15 ⟨hb, mb, rb, gb, o14, hN, hM⟩
  (try dsimp only)
  replace oW := oW.tail o14 (tl_sin sub1 (tl_sin (subs sub1) tl_no))
  replace o11 := o11.tail o14 (tl_sin sub1 (tl_sin (subs sub1) tl_no))
  refine wQ (wQ (pL ?_))
  refine wI (d_move rfl) ?_
  refine wI (d_move rfl) ?_
  refine wI (d_nilCheck (b := M.bN) (o := 0) rfl) ?_
  refine wI (d_fieldAddr (j := 0) Try.underlying81 rfl s_ti23 (by decide) rfl rfl) ?_
  refine wI (d_fieldAddr (j := 1) Try.underlying23 rfl s_ti3 (by decide) rfl rfl) ?_
  refine wI (rd_ld (v := (eN tb.gB)) hM ⟨_, Try.underlying3, rfl⟩ rfl (fun _ => rfl)) ?_
  refine wI (n_lss (a := b) (b := tb.gB) rfl rfl rfl) ?_
  refine wD (tN ?_)
  refine cond_if rfl (fun c16 => ?_) (fun c16 => ?_)
  ·
   refine wK (tN (wQ (wB (wQ (pL ?_)))))
   refine wI (d_assign rfl) ?_
   refine wD (tN (wB ?_))
   refine loop2 (fun (s_ : (Nat) × (NS) × (NS)) => match s_ with | ⟨p, sp, tp⟩ => fun (z : Nat → Value) => (([(ptr L.bN 0), (ptr M.bN 0), undef, undef, (z 4), (eN d), (eN b), (eN p), (z 8), (z 9), (z 10), (z 11), (eN d), (ptr M.bN 0), (ptr M.bN 0), (ptr M.bN 0), (ptr M.bN 0), (eN td.gD), (Value.bool (decide (d < td.gD))), (z 19), (z 20), (eN b), (ptr M.bN 0), (ptr M.bN 0), (ptr M.bN 0), (ptr M.bN 1), (eN tb.gB), (Value.bool (decide (b < tb.gB)))] ++ (zs z 28 37)) : List Value)) (fun (s_ : (Nat) × (NS) × (NS)) => match s_ with | ⟨p, sp, tp⟩ => fun (w_ : World) => (p ≤ t.gP) ∧ (Sm sp tp) ∧ (sp.Rg) ∧ (tp.gD = t.gD ∧ tp.gB = t.gB ∧ tp.gP = t.gP) ∧ Only (Ors L.S (Ors M.S No)) w15 w_ ∧ Nd L sp (Ors M.S X) w_ ∧ Rd M tp (Ors L.S X) w_) (fun (s_ : (Nat) × (NS) × (NS)) => match s_ with | ⟨p, sp, tp⟩ => t.gP - p) ⟨0, (sb), (tb)⟩ kr ?_ ?_
   ·
    refine ⟨?_, ?_, ?_, ?_, ?_, ?_, ?_⟩
    ·
     exact Nat.zero_le _
    ·
     exact mb
    ·
     exact rb
    ·
     exact gb
    ·
     exact Only.refl _ _
    ·
     exact hN
    ·
     exact hM
   rintro ⟨p, sp, tp⟩ z w18 ⟨hp, mp, rp, gp, o17, hN, hM⟩
   (try dsimp only)
   replace oW := oW.tail o17 (tl_sin sub1 (tl_sin (subs sub1) tl_no))
   replace o11 := o11.tail o17 (tl_sin sub1 (tl_sin (subs sub1) tl_no))
   replace o14 := o14.tail o17 (tl_sin sub1 (tl_sin (subs sub1) tl_no))
   refine wQ (wQ (pL ?_))
   refine wI (d_move rfl) ?_
   refine wI (d_move rfl) ?_
   refine wI (d_nilCheck (b := M.bN) (o := 0) rfl) ?_
   refine wI (d_fieldAddr (j := 0) Try.underlying81 rfl s_ti23 (by decide) rfl rfl) ?_
   refine wI (d_fieldAddr (j := 2) Try.underlying23 rfl s_ti3 (by decide) rfl rfl) ?_
   refine wI (rd_ld (v := (eN tp.gP)) hM ⟨_, Try.underlying3, rfl⟩ rfl (fun _ => rfl)) ?_
   refine wI (n_lss (a := p) (b := tp.gP) rfl rfl rfl) ?_
   refine wD (tN ?_)
   refine cond_if rfl (fun c19 => ?_) (fun c19 => ?_)
   ·
    refine wK (tN (wQ (wB (wQ (pL ?_)))))
    refine wI (d_move rfl) ?_
    refine wI (d_move rfl) ?_
    refine wF ([(ptr L.bN 0), (ptr M.bN 0), undef, undef, (z 4), (eN d), (eN b), (eN p), (z 8), (z 9), (z 10), (z 11), (eN d), (ptr M.bN 0), (ptr M.bN 0), (ptr M.bN 0), (ptr M.bN 0), (eN td.gD), (Value.bool (decide (d < td.gD))), (z 19), (z 20), (eN b), (ptr M.bN 0), (ptr M.bN 0), (ptr M.bN 0), (ptr M.bN 1), (eN tb.gB), (Value.bool (decide (b < tb.gB))), (z 28), (z 29), (eN p), (ptr M.bN 0), (ptr M.bN 0), (ptr M.bN 0), (ptr M.bN 2), (eN tp.gP), (Value.bool (decide (p < tp.gP))), (z 37), (z 38), (z 39), (ptr L.bN 0), (eN d)] ++ (zs z 42 23)) ?_
    refine wI (d_move rfl) ?_
    refine wI (d_move rfl) ?_
    refine wO (d_call (xl := [.tmp 40, .tmp 41, .tmp 42, .tmp 43]) (al := [(ptr L.bN 0), (eN d), (eN b), (eN p)]) Try.func21 kr rfl rfl rfl (read_ok L sp _ hN ↑d ↑b ↑p (lt_ors hM.lt (fun k t => Nat.lt_of_lt_of_le (hX k t) oW.size)))) ?_
    rintro _ w20 ⟨u22, rfl, f23, a24, o21⟩
    replace f23 := f23.less (Y := (Ors L.S (Ors M.S (Old W.heap.size)))) (ors_old hN.lt (ors_old hM.lt (old_old oW.size)))
    replace hM := hM.step o21 sub1
    replace oW := oW.tail o21 (fun k _ e => sub1 k e)
    replace o11 := o11.tail o21 (fun k _ e => sub1 k e)
    replace o14 := o14.tail o21 (fun k _ e => sub1 k e)
    replace o17 := o17.tail o21 (fun k _ e => sub1 k e)
    replace hN := a24
    refine wI (d_move rfl) ?_
    refine wI (d_extract (v := u22) rfl rfl) ?_
    refine wI (d_extract (v := (eN (sp.askR (sp.readOk ↑d ↑b ↑p)))) rfl rfl) ?_
    refine wI (d_assign rfl) ?_
    refine wI (d_assign rfl) ?_
    refine wD (tN (wQ ?_))
    refine wp_eq (l' := ([(ptr L.bN 0), (ptr M.bN 0), undef, undef, (z 4), (eN d), (eN b), (eN p), u22, (eN (sp.askR (sp.readOk ↑d ↑b ↑p))), (z 10), (z 11), (eN d), (ptr M.bN 0), (ptr M.bN 0), (ptr M.bN 0), (ptr M.bN 0), (eN td.gD), (Value.bool (decide (d < td.gD))), (z 19), (z 20), (eN b), (ptr M.bN 0), (ptr M.bN 0), (ptr M.bN 0), (ptr M.bN 1), (eN tb.gB), (Value.bool (decide (b < tb.gB))), (z 28), (z 29), (eN p), (ptr M.bN 0), (ptr M.bN 0), (ptr M.bN 0), (ptr M.bN 2), (eN tp.gP), (Value.bool (decide (p < tp.gP))), (z 37), (z 38), (Value.tuple #[u22, (eN (sp.askR (sp.readOk ↑d ↑b ↑p)))]), (ptr L.bN 0), (eN d), (eN b), (eN p), (Value.tuple #[u22, (eN (sp.askR (sp.readOk ↑d ↑b ↑p)))]), u22, (eN (sp.askR (sp.readOk ↑d ↑b ↑p)))] ++ (zs z 47 18))) rfl ?_
    refine pL ?_
    refine wI (d_move rfl) ?_
    refine wI (d_move rfl) ?_
    refine wI (d_move rfl) ?_
    refine wI (d_move rfl) ?_
    refine wO (d_call (xl := [.tmp 48, .tmp 49, .tmp 50, .tmp 51]) (al := [(ptr M.bN 0), (eN d), (eN b), (eN p)]) Try.func56 kr rfl rfl rfl (refRead_ok M tp _ hM ↑d ↑b ↑p (lt_ors hN.lt (fun k t => Nat.lt_of_lt_of_le (hX k t) oW.size)) (mp.rg rp))) ?_
    rintro _ w25 ⟨u27, rfl, f28, a29, o26⟩
    replace f28 := f28.less (Y := (Ors L.S (Ors M.S (Old W.heap.size)))) (ors_old hN.lt (ors_old hM.lt (old_old oW.size)))
    replace hN := hN.step o26 sub1
    replace f23 := f23.step o26 (subs sub1)
    replace oW := oW.tail o26 (fun k _ e => (subs sub1) k e)
    replace o11 := o11.tail o26 (fun k _ e => (subs sub1) k e)
    replace o14 := o14.tail o26 (fun k _ e => (subs sub1) k e)
    replace o17 := o17.tail o26 (fun k _ e => (subs sub1) k e)
    replace hM := a29
    refine wI (d_move rfl) ?_
    refine wI (d_extract (v := u27) rfl rfl) ?_
    refine wI (d_extract (v := (eN (tp.askR (tp.readOk ↑d ↑b ↑p)))) rfl rfl) ?_
    refine wI (d_assign rfl) ?_
    refine wF ([(ptr L.bN 0), (ptr M.bN 0), undef, undef, (z 4), (eN d), (eN b), (eN p), u22, (eN (sp.askR (sp.readOk ↑d ↑b ↑p))), u27, (z 11), (eN d), (ptr M.bN 0), (ptr M.bN 0), (ptr M.bN 0), (ptr M.bN 0), (eN td.gD), (Value.bool (decide (d < td.gD))), (z 19), (z 20), (eN b), (ptr M.bN 0), (ptr M.bN 0), (ptr M.bN 0), (ptr M.bN 1), (eN tb.gB), (Value.bool (decide (b < tb.gB))), (z 28), (z 29), (eN p), (ptr M.bN 0), (ptr M.bN 0), (ptr M.bN 0), (ptr M.bN 2), (eN tp.gP), (Value.bool (decide (p < tp.gP))), (z 37), (z 38), (Value.tuple #[u22, (eN (sp.askR (sp.readOk ↑d ↑b ↑p)))]), (ptr L.bN 0), (eN d), (eN b), (eN p), (Value.tuple #[u22, (eN (sp.askR (sp.readOk ↑d ↑b ↑p)))]), u22, (eN (sp.askR (sp.readOk ↑d ↑b ↑p))), (Value.tuple #[u27, (eN (tp.askR (tp.readOk ↑d ↑b ↑p)))]), (ptr M.bN 0), (eN d), (eN b), (eN p), (Value.tuple #[u27, (eN (tp.askR (tp.readOk ↑d ↑b ↑p)))]), u27, (eN (tp.askR (tp.readOk ↑d ↑b ↑p)))] ++ (zs z 55 10)) ?_
    refine wI (d_assign rfl) ?_
    refine wF ([(ptr L.bN 0), (ptr M.bN 0), undef, undef, (z 4), (eN d), (eN b), (eN p), u22, (eN (sp.askR (sp.readOk ↑d ↑b ↑p))), u27, (eN (tp.askR (tp.readOk ↑d ↑b ↑p))), (eN d), (ptr M.bN 0), (ptr M.bN 0), (ptr M.bN 0), (ptr M.bN 0), (eN td.gD), (Value.bool (decide (d < td.gD))), (z 19), (z 20), (eN b), (ptr M.bN 0), (ptr M.bN 0), (ptr M.bN 0), (ptr M.bN 1), (eN tb.gB), (Value.bool (decide (b < tb.gB))), (z 28), (z 29), (eN p), (ptr M.bN 0), (ptr M.bN 0), (ptr M.bN 0), (ptr M.bN 2), (eN tp.gP), (Value.bool (decide (p < tp.gP))), (z 37), (z 38), (Value.tuple #[u22, (eN (sp.askR (sp.readOk ↑d ↑b ↑p)))]), (ptr L.bN 0), (eN d), (eN b), (eN p), (Value.tuple #[u22, (eN (sp.askR (sp.readOk ↑d ↑b ↑p)))]), u22, (eN (sp.askR (sp.readOk ↑d ↑b ↑p))), (Value.tuple #[u27, (eN (tp.askR (tp.readOk ↑d ↑b ↑p)))]), (ptr M.bN 0), (eN d), (eN b), (eN p), (Value.tuple #[u27, (eN (tp.askR (tp.readOk ↑d ↑b ↑p)))]), u27, (eN (tp.askR (tp.readOk ↑d ↑b ↑p)))] ++ (zs z 55 10)) ?_
    refine wD (tN (wQ (pL ?_)))
    refine wI (d_move rfl) ?_
    refine wI (d_str Try.underlying36 Try.underlying5 Try.underlying9 rfl f23) ?_
    refine wI (d_move rfl) ?_
    refine wI (d_str Try.underlying36 Try.underlying5 Try.underlying9 rfl f28) ?_
    refine wI (d_sneq (a := (sp.readL ↑d ↑b ↑p)) (c := (tp.readL ↑d ↑b ↑p)) rfl rfl (by rw [decide_eq_true ((mp.readL _ _ _).symm)] <;> rfl)) ?_
    refine wI (d_move rfl) ?_
    refine wG (d_move rfl) ?_
    refine wF [(ptr L.bN 0), (ptr M.bN 0), undef, undef, (z 4), (eN d), (eN b), (eN p), u22, (eN (sp.askR (sp.readOk ↑d ↑b ↑p))), u27, (eN (tp.askR (tp.readOk ↑d ↑b ↑p))), (eN d), (ptr M.bN 0), (ptr M.bN 0), (ptr M.bN 0), (ptr M.bN 0), (eN td.gD), (Value.bool (decide (d < td.gD))), (z 19), (z 20), (eN b), (ptr M.bN 0), (ptr M.bN 0), (ptr M.bN 0), (ptr M.bN 1), (eN tb.gB), (Value.bool (decide (b < tb.gB))), (z 28), (z 29), (eN p), (ptr M.bN 0), (ptr M.bN 0), (ptr M.bN 0), (ptr M.bN 2), (eN tp.gP), (Value.bool (decide (p < tp.gP))), (z 37), (z 38), (Value.tuple #[u22, (eN (sp.askR (sp.readOk ↑d ↑b ↑p)))]), (ptr L.bN 0), (eN d), (eN b), (eN p), (Value.tuple #[u22, (eN (sp.askR (sp.readOk ↑d ↑b ↑p)))]), u22, (eN (sp.askR (sp.readOk ↑d ↑b ↑p))), (Value.tuple #[u27, (eN (tp.askR (tp.readOk ↑d ↑b ↑p)))]), (ptr M.bN 0), (eN d), (eN b), (eN p), (Value.tuple #[u27, (eN (tp.askR (tp.readOk ↑d ↑b ↑p)))]), u27, (eN (tp.askR (tp.readOk ↑d ↑b ↑p))), u22, (Value.string (strOf (sp.readL ↑d ↑b ↑p))), u27, (Value.string (strOf (tp.readL ↑d ↑b ↑p))), vF, vF, (eN (sp.askR (sp.readOk ↑d ↑b ↑p))), (z 62), (z 63), (z 64)] ?_
    refine wG (d_move rfl) ?_
    refine wG (n_neq (a := (sp.askR (sp.readOk ↑d ↑b ↑p))) (b := (tp.askR (tp.readOk ↑d ↑b ↑p))) rfl rfl (by rw [decide_eq_true ((mp.readR _ _ _).symm)] <;> rfl)) ?_
    refine wI (d_pick (b := false) (v := vF) rfl rfl) ?_
    refine wD (tN ?_)
    refine cond_f rfl ?_
    refine wK ?_
    refine inb_n (tN ?_)
    refine pL ?_
    refine wI (d_move rfl) ?_
    refine wI (n_add (a := p) (b := 1) rfl rfl oo) ?_
    refine wI (d_assign rfl) ?_
    refine wD (tN ?_)
    refine ⟨_, ⟨p + 1, (sp.ask (sp.readOk ↑d ↑b ↑p)), (tp.ask (tp.readOk ↑d ↑b ↑p))⟩, rfl, kr, ⟨?_, ?_, ?_, ?_, ?_, ?_, ?_⟩, ?_⟩
    ·
     (try dsimp only)
     all_goals (omega)
    ·
     exact (Sm.read mp _ _ _)
    ·
     exact (rg_ask rp _)
    ·
     exact gp
    ·
     exact o17
    ·
     exact hN
    ·
     exact hM
    ·
     (try dsimp only)
     all_goals (omega)
   refine wpIn_exit ?_
   refine then_x (then_x (inb_e ?_))
   refine inb_n (tN ?_)
   refine pL ?_
   refine wI (d_move rfl) ?_
   refine wI (n_add (a := b) (b := 1) rfl rfl oo) ?_
   refine wF ([(ptr L.bN 0), (ptr M.bN 0), undef, undef, (z 4), (eN d), (eN b), (eN p), (z 8), (z 9), (z 10), (z 11), (eN d), (ptr M.bN 0), (ptr M.bN 0), (ptr M.bN 0), (ptr M.bN 0), (eN td.gD), (Value.bool (decide (d < td.gD))), (z 19), (z 20), (eN b), (ptr M.bN 0), (ptr M.bN 0), (ptr M.bN 0), (ptr M.bN 1), (eN tb.gB), (Value.bool (decide (b < tb.gB))), (eN b), (eN (b + 1)), (eN p), (ptr M.bN 0), (ptr M.bN 0), (ptr M.bN 0), (ptr M.bN 2), (eN tp.gP), (Value.bool (decide (p < tp.gP)))] ++ (zs z 37 28)) ?_
   refine wI (d_assign rfl) ?_
   refine wD (tN ?_)
   refine ⟨_, ⟨b + 1, (sp), (tp)⟩, rfl, kr, ⟨?_, ?_, ?_, ?_, ?_, ?_, ?_⟩, ?_⟩
   ·
    (try dsimp only)
    all_goals (omega)
   ·
    exact mp
   ·
    exact rp
   ·
    exact gp
   ·
    exact o14
   ·
    exact hN
   ·
    exact hM
   ·
    (try dsimp only)
    all_goals (omega)
  refine wpIn_exit ?_
  refine then_x (then_x (inb_e ?_))
  refine inb_n (tN ?_)
  refine pL ?_
  refine wI (d_move rfl) ?_
  refine wI (n_add (a := d) (b := 1) rfl rfl oo) ?_
  refine wF ([(ptr L.bN 0), (ptr M.bN 0), undef, undef, (z 4), (eN d), (eN b)] ++ (zs z 7 5 ++ [(eN d), (ptr M.bN 0), (ptr M.bN 0), (ptr M.bN 0), (ptr M.bN 0), (eN td.gD), (Value.bool (decide (d < td.gD))), (eN d), (eN (d + 1)), (eN b), (ptr M.bN 0), (ptr M.bN 0), (ptr M.bN 0), (ptr M.bN 1), (eN tb.gB), (Value.bool (decide (b < tb.gB)))] ++ (zs z 28 37))) ?_
  refine wI (d_assign rfl) ?_
  refine wD (tN ?_)
  refine ⟨_, ⟨d + 1, (sb), (tb)⟩, rfl, kr, ⟨?_, ?_, ?_, ?_, ?_, ?_, ?_⟩, ?_⟩
  ·
   (try dsimp only)
   all_goals (omega)
  ·
   exact mb
  ·
   exact rb
  ·
   exact gb
  ·
   exact o11
  ·
   exact hN
  ·
   exact hM
  ·
   (try dsimp only)
   all_goals (omega)
 refine wpIn_exit ?_
 refine then_x (then_x (inb_e ?_))
 refine tN (wQ (pL ?_))
 refine wI (d_assign rfl) ?_
 refine wD (tN ?_)
 refine wpIn_ret ?_
 refine leave0 (v := vT) (res1 Try.results35 rfl) ?_
 exact ⟨_, _, rfl, (hN.less (xx_ors xx_id)), (hM.less (xx_ors xx_id)), md, rd, oW⟩
theorem actDo_ok (kd di bi pi an : Int) (lb : List UInt8) (ll : List Int) (ub ul : Value) (L : NL) (M : RL) (s t : NS) {X : Nat → Prop} (W : World) (hN : Nd L s (Ors M.S X) W) (hM : Rd M t (Ors L.S X) W) (hS : Sm s t) (hR : s.Rg) (hX : ∀ k, X k → k < W.heap.size) (hb : Ps (Ors L.S (Ors M.S No)) (Seq kB lb ub) W) (hl : Ps (Ors L.S (Ors M.S No)) (Seq kI ll ul) W) (gb : lb.length ≤ 100) (gl : ll.length ≤ 20) (rl : ∀ x ∈ ll, -9223372036854775808 ≤ x ∧ x < 9223372036854775808) :
    CW Try.prog 32 #[(Value.agg #[(eI kd), (eI di), (eI bi), (eI pi), (eI an), ub, ul]), (ptr L.bN 0), (ptr M.bN 0)] W (Rt (fun u w => ∃ s2 t2, u = .bool true ∧ Nd L s2 (Ors M.S X) w ∧ Rd M t2 (Ors L.S X) w ∧ Sm s2 t2 ∧ s2.Rg ∧ Only (Ors L.S (Ors M.S No)) W w)) := by
 have oW : Only (Ors L.S (Ors M.S No)) W W := Only.refl _ _
 refine enter (al := [(Value.agg #[(eI kd), (eI di), (eI bi), (eI pi), (eI an), ub, ul]), (ptr L.bN 0), (ptr M.bN 0)]) (k := 202) (l := ([(Value.agg #[(eI kd), (eI di), (eI bi), (eI pi), (eI an), ub, ul]), (ptr L.bN 0), (ptr M.bN 0)] ++ (us 202))) Try.func32 rfl Try.ntmps32 rfl rfl ?_
 have eD_ : t.gD = s.gD := hS.gD
 have eB_ : t.gB = s.gB := hS.gB
 have eP_ : t.gP = s.gP := hS.gP
 have okd_ := hM.ok.d
 have okb_ := hM.ok.b
 have okp_ := hM.ok.p
 refine wQ (pL ?_)
 refine wO (d_box rfl rfl) ?_
 rintro _ w11 ⟨ab, rfl, g12, a13, o14⟩
 have g_oW_ab : W.heap.size ≤ ab := Nat.le_trans oW.size g12
 replace hN := hN.new o14 g12
 replace hM := hM.new o14 g12
 replace hb := hb.new o14 g12
 replace hl := hl.new o14 g12
 replace oW := oW.tail0 o14
 refine wI (d_assign rfl) ?_
 refine wD (tN (wQ ?_))
 refine drawn_pure [0, 1, 0, 4, 12, 28, 60, 124, 255, 0, 512, 2047, 4095, 8191] [(0, 14), (1, 15), (2, 16), (3, 17), (4, 18), (5, 19), (6, 20), (7, 21), (8, 22), (9, 23), (10, 24), (11, 25), (12, 7), (13, 8)] [(ptr ab 1), (eI di), (ptr M.bN 0), (ptr M.bN 0), (ptr M.bN 0), (ptr M.bN 0), (eN t.gD), (eN (t.gD + 1)), (eN ((di % ((t.gD + 1 : Nat) : Int)).toNat)), (ptr ab 2), (eI bi), (eN ((bi % ((3 : Nat) : Int)).toNat)), (eN ((di % ((t.gD + 1 : Nat) : Int)).toNat)), (eN ((bi % ((3 : Nat) : Int)).toNat))] ([(Value.agg #[(eI kd), (eI di), (eI bi), (eI pi), (eI an), ub, ul]), (ptr L.bN 0), (ptr M.bN 0), (ptr ab 0), undef, undef, vF, (eN ((di % ((t.gD + 1 : Nat) : Int)).toNat)), (eN ((bi % ((3 : Nat) : Int)).toNat))] ++ (us 5 ++ [(ptr ab 1), (eI di), (ptr M.bN 0), (ptr M.bN 0), (ptr M.bN 0), (ptr M.bN 0), (eN t.gD), (eN (t.gD + 1)), (eN ((di % ((t.gD + 1 : Nat) : Int)).toNat)), (ptr ab 2), (eI bi), (eN ((bi % ((3 : Nat) : Int)).toNat))] ++ (us 179))) s_mx kr kr rfl kr kr ?_ ?_
 ·
  intro w_ hO_
  refine AllG.cons (gi rfl (d_fieldAddr (j := 1) Try.underlying59 rfl s_ti3 (by decide) rfl rfl)) ?_
  refine AllG.cons (gi rfl (d_load (v := (eI di)) ⟨_, Try.underlying3, rfl⟩ rfl (a13.step0 hO_) rfl)) ?_
  refine AllG.cons (gi rfl (d_move rfl)) ?_
  refine AllG.cons (gi rfl (d_nilCheck (b := M.bN) (o := 0) rfl)) ?_
  refine AllG.cons (gi rfl (d_fieldAddr (j := 0) Try.underlying81 rfl s_ti23 (by decide) rfl rfl)) ?_
  refine AllG.cons (gi rfl (d_fieldAddr (j := 0) Try.underlying23 rfl s_ti3 (by decide) rfl rfl)) ?_
  refine AllG.cons (gi rfl (rd_ld (v := (eN t.gD)) (hM.step0 hO_) ⟨_, Try.underlying3, rfl⟩ rfl (fun _ => rfl))) ?_
  refine AllG.cons (gi rfl (n_add (a := t.gD) (b := 1) rfl rfl oo)) ?_
  refine AllG.cons (gc rfl (d_call (xl := [.tmp 15, .tmp 21]) (al := [(eI di), (eN (t.gD + 1))]) Try.func12 kr rfl rfl rfl (law7Within_ok di (t.gD + 1) _ oo oo))) ?_
  refine AllG.cons (gi rfl (d_fieldAddr (j := 2) Try.underlying59 rfl s_ti3 (by decide) rfl rfl)) ?_
  refine AllG.cons (gi rfl (d_load (v := (eI bi)) ⟨_, Try.underlying3, rfl⟩ rfl (a13.step0 hO_) rfl)) ?_
  refine AllG.cons (gc rfl (d_call (xl := [.tmp 24, .const (.int .i64 3)]) (al := [(eI bi), (eN 3)]) Try.func12 kr rfl rfl rfl (law7Within_ok bi 3 _ oo oo))) ?_
  refine AllG.cons (gi rfl (d_assign rfl)) ?_
  refine AllG.cons (gi rfl (d_assign rfl)) ?_
  exact AllG.nil
 intro w15 o16
 replace hN := hN.step0 o16
 replace hM := hM.step0 o16
 replace hb := hb.step0 o16
 replace hl := hl.step0 o16
 replace a13 := a13.step0 o16
 replace oW := oW.tail0 o16
 refine tN ?_
 refine forget (fun zf17 => ([(zf17 0), (ptr L.bN 0), (ptr M.bN 0), (ptr ab 0), (zf17 4), (zf17 5), (zf17 6), (eN ((di % ((t.gD + 1 : Nat) : Int)).toNat)), (eN ((bi % ((3 : Nat) : Int)).toNat))] ++ (zs zf17 9 21 ++ (us 19 ++ (zs zf17 49 45 ++ (us 17 ++ [(zf17 111), (zf17 112)] ++ (us 15 ++ (zs zf17 128 42 ++ (us 17 ++ [(zf17 187), (zf17 188)] ++ (us 7 ++ [(zf17 196)] ++ (us 7 ++ [(zf17 204)]))))))))))) kr (fun zf17 => ?_)
 refine wQ ?_
 obtain ⟨dd, edd⟩ : ∃ dd, (di % ((t.gD + 1 : Nat) : Int)).toNat = dd := ⟨_, rfl⟩
 refine wp_eq (l' := ([(zf17 0), (ptr L.bN 0), (ptr M.bN 0), (ptr ab 0), (zf17 4), (zf17 5), (zf17 6), (eN dd), (eN ((bi % ((3 : Nat) : Int)).toNat))] ++ (zs zf17 9 21 ++ (us 19 ++ (zs zf17 49 45 ++ (us 17 ++ [(zf17 111), (zf17 112)] ++ (us 15 ++ (zs zf17 128 42 ++ (us 17 ++ [(zf17 187), (zf17 188)] ++ (us 7 ++ [(zf17 196)] ++ (us 7 ++ [(zf17 204)]))))))))))) (show (([(zf17 0), (ptr L.bN 0), (ptr M.bN 0), (ptr ab 0), (zf17 4), (zf17 5), (zf17 6), (eN ((di % ((t.gD + 1 : Nat) : Int)).toNat)), (eN ((bi % ((3 : Nat) : Int)).toNat))] ++ (zs zf17 9 21 ++ (us 19 ++ (zs zf17 49 45 ++ (us 17 ++ [(zf17 111), (zf17 112)] ++ (us 15 ++ (zs zf17 128 42 ++ (us 17 ++ [(zf17 187), (zf17 188)] ++ (us 7 ++ [(zf17 196)] ++ (us 7 ++ [(zf17 204)])))))))))) : List Value) = ([(zf17 0), (ptr L.bN 0), (ptr M.bN 0), (ptr ab 0), (zf17 4), (zf17 5), (zf17 6), (eN dd), (eN ((bi % ((3 : Nat) : Int)).toNat))] ++ (zs zf17 9 21 ++ (us 19 ++ (zs zf17 49 45 ++ (us 17 ++ [(zf17 111), (zf17 112)] ++ (us 15 ++ (zs zf17 128 42 ++ (us 17 ++ [(zf17 187), (zf17 188)] ++ (us 7 ++ [(zf17 196)] ++ (us 7 ++ [(zf17 204)])))))))))) from reslot ([(zf17 0), (ptr L.bN 0), (ptr M.bN 0), (ptr ab 0), (zf17 4), (zf17 5), (zf17 6), (eN ((di % ((t.gD + 1 : Nat) : Int)).toNat)), (eN ((bi % ((3 : Nat) : Int)).toNat))] ++ (zs zf17 9 21 ++ (us 19 ++ (zs zf17 49 45 ++ (us 17 ++ [(zf17 111), (zf17 112)] ++ (us 15 ++ (zs zf17 128 42 ++ (us 17 ++ [(zf17 187), (zf17 188)] ++ (us 7 ++ [(zf17 196)] ++ (us 7 ++ [(zf17 204)])))))))))) 7 (congrArg eN edd)) ?_
 refine cutC (shape := fun (bk : Int) z18 => ([(zf17 0), (ptr L.bN 0), (ptr M.bN 0), (ptr ab 0), (zf17 4), (zf17 5), (zf17 6), (eN dd), (eI bk)] ++ (zs zf17 9 17 ++ (zs z18 26 14 ++ (us 9 ++ (zs zf17 49 45 ++ (us 17 ++ [(zf17 111), (zf17 112)] ++ (us 15 ++ (zs zf17 128 42 ++ (us 17 ++ [(zf17 187), (zf17 188)] ++ (us 7 ++ [(zf17 196)] ++ (us 7 ++ [(zf17 204)])))))))))))) (p := fun (bk : Int) => True) ?_ ?_
 ·
  intro Q' hQ_
  have oC19 : Only No w15 w15 := Only.refl _ _
  refine wQ (pL ?_)
  refine wI (d_fieldAddr (j := 4) Try.underlying59 rfl s_ti3 (by decide) rfl rfl) ?_
  refine wI (d_load (v := (eI an)) ⟨_, Try.underlying3, rfl⟩ rfl a13 rfl) ?_
  refine wI (d_rem (k := .i64) (m := an) (n := 7) rfl rfl oo rfl) ?_
  refine wI (d_eql (k := .i64) (m := Int.tmod an 7) (n := 0) rfl rfl rfl) ?_
  refine wD (tN ?_)
  refine cond_if rfl (fun c29 => ?_) (fun c29 => ?_)
  ·
   refine drawn_pure [0, 1, 0, 4, 12, 28, 60, 124, 255, 511, 1023] [(0, 30), (1, 31), (2, 32), (3, 33), (4, 34), (5, 35), (6, 36), (7, 37), (8, 38), (9, 39), (10, 8)] [(ptr ab 2), (eI bi), (ptr M.bN 0), (ptr M.bN 0), (ptr M.bN 0), (ptr M.bN 1), (eN t.gB), (eN (t.gB + 2)), (eN ((bi % ((t.gB + 2 : Nat) : Int)).toNat)), (eI ((((bi % ((t.gB + 2 : Nat) : Int)).toNat : Nat) : Int) - 1)), (eI ((((bi % ((t.gB + 2 : Nat) : Int)).toNat : Nat) : Int) - 1))] ([(zf17 0), (ptr L.bN 0), (ptr M.bN 0), (ptr ab 0), (zf17 4), (zf17 5), (zf17 6), (eN dd), (eI ((((bi % ((t.gB + 2 : Nat) : Int)).toNat : Nat) : Int) - 1))] ++ (zs zf17 9 17 ++ [(ptr ab 4), (eI an), (eI (Int.tmod an 7)), (Value.bool (decide (Int.tmod an 7 = 0))), (ptr ab 2), (eI bi), (ptr M.bN 0), (ptr M.bN 0), (ptr M.bN 0), (ptr M.bN 1), (eN t.gB), (eN (t.gB + 2)), (eN ((bi % ((t.gB + 2 : Nat) : Int)).toNat)), (eI ((((bi % ((t.gB + 2 : Nat) : Int)).toNat : Nat) : Int) - 1))] ++ (us 9 ++ (zs zf17 49 45 ++ (us 17 ++ [(zf17 111), (zf17 112)] ++ (us 15 ++ (zs zf17 128 42 ++ (us 17 ++ [(zf17 187), (zf17 188)] ++ (us 7 ++ [(zf17 196)] ++ (us 7 ++ [(zf17 204)])))))))))) s_mx kr kr rfl kr kr ?_ ?_
   ·
    intro w_ hO_
    refine AllG.cons (gi rfl (d_fieldAddr (j := 2) Try.underlying59 rfl s_ti3 (by decide) rfl rfl)) ?_
    refine AllG.cons (gi rfl (d_load (v := (eI bi)) ⟨_, Try.underlying3, rfl⟩ rfl (a13.step0 hO_) rfl)) ?_
    refine AllG.cons (gi rfl (d_move rfl)) ?_
    refine AllG.cons (gi rfl (d_nilCheck (b := M.bN) (o := 0) rfl)) ?_
    refine AllG.cons (gi rfl (d_fieldAddr (j := 0) Try.underlying81 rfl s_ti23 (by decide) rfl rfl)) ?_
    refine AllG.cons (gi rfl (d_fieldAddr (j := 1) Try.underlying23 rfl s_ti3 (by decide) rfl rfl)) ?_
    refine AllG.cons (gi rfl (rd_ld (v := (eN t.gB)) (hM.step0 hO_) ⟨_, Try.underlying3, rfl⟩ rfl (fun _ => rfl))) ?_
    refine AllG.cons (gi rfl (n_add (a := t.gB) (b := 2) rfl rfl oo)) ?_
    refine AllG.cons (gc rfl (d_call (xl := [.tmp 31, .tmp 37]) (al := [(eI bi), (eN (t.gB + 2))]) Try.func12 kr rfl rfl rfl (law7Within_ok bi (t.gB + 2) _ oo oo))) ?_
    refine AllG.cons (gi rfl (d_sub (k := .i64) (m := (((bi % ((t.gB + 2 : Nat) : Int)).toNat : Nat) : Int)) (n := 1) rfl rfl (r := (((bi % ((t.gB + 2 : Nat) : Int)).toNat : Nat) : Int) - 1) (IntWalk.i64_in _ (by have := Int.emod_lt_of_pos bi (show (0 : Int) < ((t.gB + 2 : Nat) : Int) by omega); have := Int.emod_nonneg bi (show ((t.gB + 2 : Nat) : Int) ≠ 0 by omega); omega)))) ?_
    refine AllG.cons (gi rfl (d_assign rfl)) ?_
    exact AllG.nil
   intro w20 o21
   replace hN := hN.step0 o21
   replace hM := hM.step0 o21
   replace hb := hb.step0 o21
   replace hl := hl.step0 o21
   replace a13 := a13.step0 o21
   replace oW := oW.tail0 o21
   replace oC19 := oC19.tail0 o21
   exact fr_eq kr (hQ_ ((((bi % ((t.gB + 2 : Nat) : Int)).toNat : Nat) : Int) - 1) (fun t_ => nth (us 26 ++ [(ptr ab 4), (eI an), (eI (Int.tmod an 7)), (Value.bool (decide (Int.tmod an 7 = 0))), (ptr ab 2), (eI bi), (ptr M.bN 0), (ptr M.bN 0), (ptr M.bN 0), (ptr M.bN 1), (eN t.gB), (eN (t.gB + 2)), (eN ((bi % ((t.gB + 2 : Nat) : Int)).toNat)), (eI ((((bi % ((t.gB + 2 : Nat) : Int)).toNat : Nat) : Int) - 1))]) t_) _ trivial oC19)
  refine wK ?_
  refine wp_eq (l' := ([(zf17 0), (ptr L.bN 0), (ptr M.bN 0), (ptr ab 0), (zf17 4), (zf17 5), (zf17 6), (eN dd), (eN ((bi % ((3 : Nat) : Int)).toNat))] ++ (zs zf17 9 17 ++ [(ptr ab 4), (eI an), (eI (Int.tmod an 7)), (Value.bool (decide (Int.tmod an 7 = 0)))] ++ (us 19 ++ (zs zf17 49 45 ++ (us 17 ++ [(zf17 111), (zf17 112)] ++ (us 15 ++ (zs zf17 128 42 ++ (us 17 ++ [(zf17 187), (zf17 188)] ++ (us 7 ++ [(zf17 196)] ++ (us 7 ++ [(zf17 204)]))))))))))) rfl ?_
  exact fr_eq kr (hQ_ (((bi % ((3 : Nat) : Int)).toNat : Nat) : Int) (fun t_ => nth (us 26 ++ [(ptr ab 4), (eI an), (eI (Int.tmod an 7)), (Value.bool (decide (Int.tmod an 7 = 0)))]) t_) _ trivial oC19)
 intro bk z18 w22 _ o23
 (try dsimp only)
 replace hN := hN.step0 o23
 replace hM := hM.step0 o23
 replace hb := hb.step0 o23
 replace hl := hl.step0 o23
 replace a13 := a13.step0 o23
 replace oW := oW.tail0 o23
 refine tN (wQ ?_)
 refine drawn_pure [0, 1, 0, 4, 12, 28, 60, 124, 255, 511] [(0, 40), (1, 41), (2, 42), (3, 43), (4, 44), (5, 45), (6, 46), (7, 47), (8, 48), (9, 9)] [(ptr ab 3), (eI pi), (ptr M.bN 0), (ptr M.bN 0), (ptr M.bN 0), (ptr M.bN 2), (eN t.gP), (eN (t.gP + 1)), (eN ((pi % ((t.gP + 1 : Nat) : Int)).toNat)), (eN ((pi % ((t.gP + 1 : Nat) : Int)).toNat))] ([(zf17 0), (ptr L.bN 0), (ptr M.bN 0), (ptr ab 0), (zf17 4), (zf17 5), (zf17 6), (eN dd), (eI bk), (eN ((pi % ((t.gP + 1 : Nat) : Int)).toNat))] ++ (zs zf17 10 16 ++ (zs z18 26 14 ++ [(ptr ab 3), (eI pi), (ptr M.bN 0), (ptr M.bN 0), (ptr M.bN 0), (ptr M.bN 2), (eN t.gP), (eN (t.gP + 1)), (eN ((pi % ((t.gP + 1 : Nat) : Int)).toNat))] ++ (zs zf17 49 45 ++ (us 17 ++ [(zf17 111), (zf17 112)] ++ (us 15 ++ (zs zf17 128 42 ++ (us 17 ++ [(zf17 187), (zf17 188)] ++ (us 7 ++ [(zf17 196)] ++ (us 7 ++ [(zf17 204)])))))))))) s_mx kr kr rfl kr kr ?_ ?_
 ·
  intro w_ hO_
  refine AllG.cons (gi rfl (d_fieldAddr (j := 3) Try.underlying59 rfl s_ti3 (by decide) rfl rfl)) ?_
  refine AllG.cons (gi rfl (d_load (v := (eI pi)) ⟨_, Try.underlying3, rfl⟩ rfl (a13.step0 hO_) rfl)) ?_
  refine AllG.cons (gi rfl (d_move rfl)) ?_
  refine AllG.cons (gi rfl (d_nilCheck (b := M.bN) (o := 0) rfl)) ?_
  refine AllG.cons (gi rfl (d_fieldAddr (j := 0) Try.underlying81 rfl s_ti23 (by decide) rfl rfl)) ?_
  refine AllG.cons (gi rfl (d_fieldAddr (j := 2) Try.underlying23 rfl s_ti3 (by decide) rfl rfl)) ?_
  refine AllG.cons (gi rfl (rd_ld (v := (eN t.gP)) (hM.step0 hO_) ⟨_, Try.underlying3, rfl⟩ rfl (fun _ => rfl))) ?_
  refine AllG.cons (gi rfl (n_add (a := t.gP) (b := 1) rfl rfl oo)) ?_
  refine AllG.cons (gc rfl (d_call (xl := [.tmp 41, .tmp 47]) (al := [(eI pi), (eN (t.gP + 1))]) Try.func12 kr rfl rfl rfl (law7Within_ok pi (t.gP + 1) _ oo oo))) ?_
  refine AllG.cons (gi rfl (d_assign rfl)) ?_
  exact AllG.nil
 intro w24 o25
 replace hN := hN.step0 o25
 replace hM := hM.step0 o25
 replace hb := hb.step0 o25
 replace hl := hl.step0 o25
 replace a13 := a13.step0 o25
 replace oW := oW.tail0 o25
 refine tN ?_
 refine forget (fun zf26 => ([(zf26 0), (ptr L.bN 0), (ptr M.bN 0), (ptr ab 0), (zf26 4), (zf26 5), (zf26 6), (eN dd), (eI bk), (eN ((pi % ((t.gP + 1 : Nat) : Int)).toNat))] ++ (zs zf26 10 84 ++ (us 17 ++ [(zf26 111), (zf26 112)] ++ (us 15 ++ (zs zf26 128 42 ++ (us 17 ++ [(zf26 187), (zf26 188)] ++ (us 7 ++ [(zf26 196)] ++ (us 7 ++ [(zf26 204)]))))))))) kr (fun zf26 => ?_)
 refine wQ (wQ ?_)
 obtain ⟨pp, epp⟩ : ∃ pp, (pi % ((t.gP + 1 : Nat) : Int)).toNat = pp := ⟨_, rfl⟩
 refine wp_eq (l' := ([(zf26 0), (ptr L.bN 0), (ptr M.bN 0), (ptr ab 0), (zf26 4), (zf26 5), (zf26 6), (eN dd), (eI bk), (eN pp)] ++ (zs zf26 10 84 ++ (us 17 ++ [(zf26 111), (zf26 112)] ++ (us 15 ++ (zs zf26 128 42 ++ (us 17 ++ [(zf26 187), (zf26 188)] ++ (us 7 ++ [(zf26 196)] ++ (us 7 ++ [(zf26 204)]))))))))) (show (([(zf26 0), (ptr L.bN 0), (ptr M.bN 0), (ptr ab 0), (zf26 4), (zf26 5), (zf26 6), (eN dd), (eI bk), (eN ((pi % ((t.gP + 1 : Nat) : Int)).toNat))] ++ (zs zf26 10 84 ++ (us 17 ++ [(zf26 111), (zf26 112)] ++ (us 15 ++ (zs zf26 128 42 ++ (us 17 ++ [(zf26 187), (zf26 188)] ++ (us 7 ++ [(zf26 196)] ++ (us 7 ++ [(zf26 204)])))))))) : List Value) = ([(zf26 0), (ptr L.bN 0), (ptr M.bN 0), (ptr ab 0), (zf26 4), (zf26 5), (zf26 6), (eN dd), (eI bk), (eN pp)] ++ (zs zf26 10 84 ++ (us 17 ++ [(zf26 111), (zf26 112)] ++ (us 15 ++ (zs zf26 128 42 ++ (us 17 ++ [(zf26 187), (zf26 188)] ++ (us 7 ++ [(zf26 196)] ++ (us 7 ++ [(zf26 204)])))))))) from reslot ([(zf26 0), (ptr L.bN 0), (ptr M.bN 0), (ptr ab 0), (zf26 4), (zf26 5), (zf26 6), (eN dd), (eI bk), (eN ((pi % ((t.gP + 1 : Nat) : Int)).toNat))] ++ (zs zf26 10 84 ++ (us 17 ++ [(zf26 111), (zf26 112)] ++ (us 15 ++ (zs zf26 128 42 ++ (us 17 ++ [(zf26 187), (zf26 188)] ++ (us 7 ++ [(zf26 196)] ++ (us 7 ++ [(zf26 204)])))))))) 9 (congrArg eN epp)) ?_
 refine pL ?_
 refine wI (d_fieldAddr (j := 0) Try.underlying59 rfl s_ti3 (by decide) rfl rfl) ?_
 refine wI (d_load (v := (eI kd)) ⟨_, Try.underlying3, rfl⟩ rfl a13 rfl) ?_
 refine wO (d_call (xl := [.tmp 50, .const (.int .i64 13)]) (al := [(eI kd), (eN 13)]) Try.func12 kr rfl rfl rfl (law7Within_ok kd 13 _ oo oo)) ?_
 rintro _ w27 ⟨rfl, o28⟩
 replace hN := hN.step0 o28
 replace hM := hM.step0 o28
 replace hb := hb.step0 o28
 replace hl := hl.step0 o28
 replace a13 := a13.step0 o28
 replace oW := oW.tail0 o28
 refine wD (tN (wB (wQ ?_)))
 obtain ⟨kn, ekn⟩ : ∃ kn, (kd % ((13 : Nat) : Int)).toNat = kn := ⟨_, rfl⟩
 refine wp_eq (l' := ([(zf26 0), (ptr L.bN 0), (ptr M.bN 0), (ptr ab 0), (zf26 4), (zf26 5), (zf26 6), (eN dd), (eI bk), (eN pp)] ++ (zs zf26 10 39 ++ [(ptr ab 0), (eI kd), (eN ((kd % ((13 : Nat) : Int)).toNat))] ++ (zs zf26 52 42 ++ (us 17 ++ [(zf26 111), (zf26 112)] ++ (us 15 ++ (zs zf26 128 42 ++ (us 17 ++ [(zf26 187), (zf26 188)] ++ (us 7 ++ [(zf26 196)] ++ (us 7 ++ [(zf26 204)])))))))))) rfl ?_
 refine wp_eq (l' := ([(zf26 0), (ptr L.bN 0), (ptr M.bN 0), (ptr ab 0), (zf26 4), (zf26 5), (zf26 6), (eN dd), (eI bk), (eN pp)] ++ (zs zf26 10 39 ++ [(ptr ab 0), (eI kd), (eN kn)] ++ (zs zf26 52 42 ++ (us 17 ++ [(zf26 111), (zf26 112)] ++ (us 15 ++ (zs zf26 128 42 ++ (us 17 ++ [(zf26 187), (zf26 188)] ++ (us 7 ++ [(zf26 196)] ++ (us 7 ++ [(zf26 204)])))))))))) (show (([(zf26 0), (ptr L.bN 0), (ptr M.bN 0), (ptr ab 0), (zf26 4), (zf26 5), (zf26 6), (eN dd), (eI bk), (eN pp)] ++ (zs zf26 10 39 ++ [(ptr ab 0), (eI kd), (eN ((kd % ((13 : Nat) : Int)).toNat))] ++ (zs zf26 52 42 ++ (us 17 ++ [(zf26 111), (zf26 112)] ++ (us 15 ++ (zs zf26 128 42 ++ (us 17 ++ [(zf26 187), (zf26 188)] ++ (us 7 ++ [(zf26 196)] ++ (us 7 ++ [(zf26 204)]))))))))) : List Value) = ([(zf26 0), (ptr L.bN 0), (ptr M.bN 0), (ptr ab 0), (zf26 4), (zf26 5), (zf26 6), (eN dd), (eI bk), (eN pp)] ++ (zs zf26 10 39 ++ [(ptr ab 0), (eI kd), (eN kn)] ++ (zs zf26 52 42 ++ (us 17 ++ [(zf26 111), (zf26 112)] ++ (us 15 ++ (zs zf26 128 42 ++ (us 17 ++ [(zf26 187), (zf26 188)] ++ (us 7 ++ [(zf26 196)] ++ (us 7 ++ [(zf26 204)]))))))))) from reslot ([(zf26 0), (ptr L.bN 0), (ptr M.bN 0), (ptr ab 0), (zf26 4), (zf26 5), (zf26 6), (eN dd), (eI bk), (eN pp)] ++ (zs zf26 10 39 ++ [(ptr ab 0), (eI kd), (eN ((kd % ((13 : Nat) : Int)).toNat))] ++ (zs zf26 52 42 ++ (us 17 ++ [(zf26 111), (zf26 112)] ++ (us 15 ++ (zs zf26 128 42 ++ (us 17 ++ [(zf26 187), (zf26 188)] ++ (us 7 ++ [(zf26 196)] ++ (us 7 ++ [(zf26 204)]))))))))) 51 (congrArg eN ekn)) ?_
 refine cutC (shape := fun (xk : Bool) z29 => ([(zf26 0), (ptr L.bN 0), (ptr M.bN 0), (ptr ab 0), (zf26 4), (zf26 5), (zf26 6), (eN dd), (eI bk), (eN pp)] ++ (zs zf26 10 39 ++ [(ptr ab 0), (eI kd), (eN kn), (zf26 52), (zf26 53), (zf26 54), (zf26 55), (Value.bool xk)] ++ (zs z29 57 6 ++ (zs zf26 63 31 ++ (us 17 ++ [(zf26 111), (zf26 112)] ++ (us 15 ++ (zs zf26 128 42 ++ (us 17 ++ [(zf26 187), (zf26 188)] ++ (us 7 ++ [(zf26 196)] ++ (us 7 ++ [(zf26 204)]))))))))))) (p := fun (xk : Bool) => True) ?_ ?_
 ·
  intro Q' hQ_
  have oC30 : Only No w27 w27 := Only.refl _ _
  refine wQ (pL ?_)
  refine wI (n_eql (a := kn) (b := 0) rfl rfl rfl) ?_
  refine wI (d_assign rfl) ?_
  refine wD (tN ?_)
  refine cond_if rfl (fun c31 => ?_) (fun c31 => ?_)
  ·
   refine wK ?_
   refine wp_eq (l' := ([(zf26 0), (ptr L.bN 0), (ptr M.bN 0), (ptr ab 0), (zf26 4), (zf26 5), (zf26 6), (eN dd), (eI bk), (eN pp)] ++ (zs zf26 10 39 ++ [(ptr ab 0), (eI kd), (eN kn), (zf26 52), (zf26 53), (zf26 54), (zf26 55), (Value.bool (decide (kn = 0))), (Value.bool (decide (kn = 0)))] ++ (zs zf26 58 36 ++ (us 17 ++ [(zf26 111), (zf26 112)] ++ (us 15 ++ (zs zf26 128 42 ++ (us 17 ++ [(zf26 187), (zf26 188)] ++ (us 7 ++ [(zf26 196)] ++ (us 7 ++ [(zf26 204)])))))))))) rfl ?_
   exact fr_eq kr (hQ_ (decide (kn = 0)) (fun t_ => nth (us 57 ++ [(Value.bool (decide (kn = 0)))] ++ (zs zf26 58 5)) t_) _ trivial oC30)
  refine wQ (pL ?_)
  refine wI (n_eql (a := kn) (b := 1) rfl rfl rfl) ?_
  refine wI (d_assign rfl) ?_
  refine wD (tN ?_)
  refine cond_if rfl (fun c32 => ?_) (fun c32 => ?_)
  ·
   refine wK ?_
   refine wp_eq (l' := ([(zf26 0), (ptr L.bN 0), (ptr M.bN 0), (ptr ab 0), (zf26 4), (zf26 5), (zf26 6), (eN dd), (eI bk), (eN pp)] ++ (zs zf26 10 39 ++ [(ptr ab 0), (eI kd), (eN kn), (zf26 52), (zf26 53), (zf26 54), (zf26 55), (Value.bool (decide (kn = 1))), (Value.bool (decide (kn = 0))), (Value.bool (decide (kn = 1)))] ++ (zs zf26 59 35 ++ (us 17 ++ [(zf26 111), (zf26 112)] ++ (us 15 ++ (zs zf26 128 42 ++ (us 17 ++ [(zf26 187), (zf26 188)] ++ (us 7 ++ [(zf26 196)] ++ (us 7 ++ [(zf26 204)])))))))))) rfl ?_
   exact fr_eq kr (hQ_ (decide (kn = 1)) (fun t_ => nth (us 57 ++ [(Value.bool (decide (kn = 0))), (Value.bool (decide (kn = 1))), (zf26 59), (zf26 60), (zf26 61), (zf26 62)]) t_) _ trivial oC30)
  refine wQ (pL ?_)
  refine wI (n_eql (a := kn) (b := 2) rfl rfl rfl) ?_
  refine wI (d_assign rfl) ?_
  refine wD (tN ?_)
  refine cond_if rfl (fun c33 => ?_) (fun c33 => ?_)
  ·
   refine wK ?_
   refine wp_eq (l' := ([(zf26 0), (ptr L.bN 0), (ptr M.bN 0), (ptr ab 0), (zf26 4), (zf26 5), (zf26 6), (eN dd), (eI bk), (eN pp)] ++ (zs zf26 10 39 ++ [(ptr ab 0), (eI kd), (eN kn), (zf26 52), (zf26 53), (zf26 54), (zf26 55), (Value.bool (decide (kn = 2))), (Value.bool (decide (kn = 0))), (Value.bool (decide (kn = 1))), (Value.bool (decide (kn = 2)))] ++ (zs zf26 60 34 ++ (us 17 ++ [(zf26 111), (zf26 112)] ++ (us 15 ++ (zs zf26 128 42 ++ (us 17 ++ [(zf26 187), (zf26 188)] ++ (us 7 ++ [(zf26 196)] ++ (us 7 ++ [(zf26 204)])))))))))) rfl ?_
   exact fr_eq kr (hQ_ (decide (kn = 2)) (fun t_ => nth (us 57 ++ [(Value.bool (decide (kn = 0))), (Value.bool (decide (kn = 1))), (Value.bool (decide (kn = 2))), (zf26 60), (zf26 61), (zf26 62)]) t_) _ trivial oC30)
  refine wQ (pL ?_)
  refine wI (n_eql (a := kn) (b := 3) rfl rfl rfl) ?_
  refine wI (d_assign rfl) ?_
  refine wD (tN ?_)
  refine cond_if rfl (fun c34 => ?_) (fun c34 => ?_)
  ·
   refine wK ?_
   refine wp_eq (l' := ([(zf26 0), (ptr L.bN 0), (ptr M.bN 0), (ptr ab 0), (zf26 4), (zf26 5), (zf26 6), (eN dd), (eI bk), (eN pp)] ++ (zs zf26 10 39 ++ [(ptr ab 0), (eI kd), (eN kn), (zf26 52), (zf26 53), (zf26 54), (zf26 55), (Value.bool (decide (kn = 3))), (Value.bool (decide (kn = 0))), (Value.bool (decide (kn = 1))), (Value.bool (decide (kn = 2))), (Value.bool (decide (kn = 3)))] ++ (zs zf26 61 33 ++ (us 17 ++ [(zf26 111), (zf26 112)] ++ (us 15 ++ (zs zf26 128 42 ++ (us 17 ++ [(zf26 187), (zf26 188)] ++ (us 7 ++ [(zf26 196)] ++ (us 7 ++ [(zf26 204)])))))))))) rfl ?_
   exact fr_eq kr (hQ_ (decide (kn = 3)) (fun t_ => nth (us 57 ++ [(Value.bool (decide (kn = 0))), (Value.bool (decide (kn = 1))), (Value.bool (decide (kn = 2))), (Value.bool (decide (kn = 3))), (zf26 61), (zf26 62)]) t_) _ trivial oC30)
  refine wQ (pL ?_)
  refine wI (n_eql (a := kn) (b := 4) rfl rfl rfl) ?_
  refine wF ([(zf26 0), (ptr L.bN 0), (ptr M.bN 0), (ptr ab 0), (zf26 4), (zf26 5), (zf26 6), (eN dd), (eI bk), (eN pp)] ++ (zs zf26 10 39 ++ [(ptr ab 0), (eI kd), (eN kn), (zf26 52), (zf26 53), (zf26 54), (zf26 55), (Value.bool (decide (kn = 3))), (Value.bool (decide (kn = 0))), (Value.bool (decide (kn = 1))), (Value.bool (decide (kn = 2))), (Value.bool (decide (kn = 3))), (Value.bool (decide (kn = 4)))] ++ (zs zf26 62 32 ++ (us 17 ++ [(zf26 111), (zf26 112)] ++ (us 15 ++ (zs zf26 128 42 ++ (us 17 ++ [(zf26 187), (zf26 188)] ++ (us 7 ++ [(zf26 196)] ++ (us 7 ++ [(zf26 204)]))))))))) ?_
  refine wI (d_assign rfl) ?_
  refine wD (tN ?_)
  refine cond_if rfl (fun c35 => ?_) (fun c35 => ?_)
  ·
   refine wK ?_
   refine wp_eq (l' := ([(zf26 0), (ptr L.bN 0), (ptr M.bN 0), (ptr ab 0), (zf26 4), (zf26 5), (zf26 6), (eN dd), (eI bk), (eN pp)] ++ (zs zf26 10 39 ++ [(ptr ab 0), (eI kd), (eN kn), (zf26 52), (zf26 53), (zf26 54), (zf26 55), (Value.bool (decide (kn = 4))), (Value.bool (decide (kn = 0))), (Value.bool (decide (kn = 1))), (Value.bool (decide (kn = 2))), (Value.bool (decide (kn = 3))), (Value.bool (decide (kn = 4)))] ++ (zs zf26 62 32 ++ (us 17 ++ [(zf26 111), (zf26 112)] ++ (us 15 ++ (zs zf26 128 42 ++ (us 17 ++ [(zf26 187), (zf26 188)] ++ (us 7 ++ [(zf26 196)] ++ (us 7 ++ [(zf26 204)])))))))))) rfl ?_
   exact fr_eq kr (hQ_ (decide (kn = 4)) (fun t_ => nth (us 57 ++ [(Value.bool (decide (kn = 0))), (Value.bool (decide (kn = 1))), (Value.bool (decide (kn = 2))), (Value.bool (decide (kn = 3))), (Value.bool (decide (kn = 4))), (zf26 62)]) t_) _ trivial oC30)
  refine pL ?_
  refine wI (n_eql (a := kn) (b := 5) rfl rfl rfl) ?_
  refine wI (d_assign rfl) ?_
  refine wD ?_
  refine wp_eq (l' := ([(zf26 0), (ptr L.bN 0), (ptr M.bN 0), (ptr ab 0), (zf26 4), (zf26 5), (zf26 6), (eN dd), (eI bk), (eN pp)] ++ (zs zf26 10 39 ++ [(ptr ab 0), (eI kd), (eN kn), (zf26 52), (zf26 53), (zf26 54), (zf26 55), (Value.bool (decide (kn = 5))), (Value.bool (decide (kn = 0))), (Value.bool (decide (kn = 1))), (Value.bool (decide (kn = 2))), (Value.bool (decide (kn = 3))), (Value.bool (decide (kn = 4))), (Value.bool (decide (kn = 5)))] ++ (zs zf26 63 31 ++ (us 17 ++ [(zf26 111), (zf26 112)] ++ (us 15 ++ (zs zf26 128 42 ++ (us 17 ++ [(zf26 187), (zf26 188)] ++ (us 7 ++ [(zf26 196)] ++ (us 7 ++ [(zf26 204)])))))))))) rfl ?_
  exact fr_eq kr (hQ_ (decide (kn = 5)) (fun t_ => nth (us 57 ++ [(Value.bool (decide (kn = 0))), (Value.bool (decide (kn = 1))), (Value.bool (decide (kn = 2))), (Value.bool (decide (kn = 3))), (Value.bool (decide (kn = 4))), (Value.bool (decide (kn = 5)))]) t_) _ trivial oC30)
 intro xk z29 w36 _ o37
 (try dsimp only)
 replace hN := hN.step0 o37
 replace hM := hM.step0 o37
 replace hb := hb.step0 o37
 replace hl := hl.step0 o37
 replace a13 := a13.step0 o37
 replace oW := oW.tail0 o37
 refine tN ?_
 refine cond_b rfl (fun c38 => ?_) (fun c38 => ?_)
 ·
  refine wQ ?_
  refine cutC (shape := fun (pg : Nat) z39 => ([(zf26 0), (ptr L.bN 0), (ptr M.bN 0), (ptr ab 0), (zf26 4), (zf26 5), (zf26 6), (eN dd), (eI bk), (eN pg)] ++ (zs zf26 10 39 ++ [(ptr ab 0), (eI kd), (eN kn), (zf26 52), (zf26 53), (zf26 54), (zf26 55), (Value.bool xk)] ++ (zs z29 57 6 ++ (zs z39 63 31 ++ (us 17 ++ [(zf26 111), (zf26 112)] ++ (us 15 ++ (zs zf26 128 42 ++ (us 17 ++ [(zf26 187), (zf26 188)] ++ (us 7 ++ [(zf26 196)] ++ (us 7 ++ [(zf26 204)]))))))))))) (p := fun (pg : Nat) => True) ?_ ?_
  ·
   intro Q' hQ_
   have oC40 : Only No w36 w36 := Only.refl _ _
   refine wQ ?_
   by_cases k0 : dd < t.gD
   ·
    by_cases k1 : 0 ≤ bk
    ·
     by_cases k2 : bk < (t.gB : Int)
     ·
      refine pL ?_
      refine wI (d_move rfl) ?_
      refine wI (d_move rfl) ?_
      refine wI (d_nilCheck (b := M.bN) (o := 0) rfl) ?_
      refine wI (d_fieldAddr (j := 0) Try.underlying81 rfl s_ti23 (by decide) rfl rfl) ?_
      refine wI (d_fieldAddr (j := 0) Try.underlying23 rfl s_ti3 (by decide) rfl rfl) ?_
      refine wI (rd_ld (v := (eN t.gD)) hM ⟨_, Try.underlying3, rfl⟩ rfl (fun _ => rfl)) ?_
      refine wI (n_lss (a := dd) (b := t.gD) rfl rfl (decide_eq_true k0)) ?_
      refine wF ([(zf26 0), (ptr L.bN 0), (ptr M.bN 0), (ptr ab 0), (zf26 4), (zf26 5), (zf26 6), (eN dd), (eI bk), (eN pp)] ++ (zs zf26 10 39 ++ [(ptr ab 0), (eI kd), (eN kn), (zf26 52), (zf26 53), (zf26 54), (zf26 55), (Value.bool xk)] ++ (zs z29 57 6 ++ [(eN dd), (ptr M.bN 0), (ptr M.bN 0), (ptr M.bN 0), (ptr M.bN 0), (eN t.gD), vT] ++ (zs zf26 70 24 ++ (us 17 ++ [(zf26 111), (zf26 112)] ++ (us 15 ++ (zs zf26 128 42 ++ (us 17 ++ [(zf26 187), (zf26 188)] ++ (us 7 ++ [(zf26 196)] ++ (us 7 ++ [(zf26 204)])))))))))) ?_
      refine wI (d_move rfl) ?_
      refine wG (d_move rfl) ?_
      refine wG (d_geq (k := .i64) (m := bk) (n := 0) rfl rfl (decide_eq_true k1)) ?_
      refine wI (d_pick (b := true) (v := vT) rfl rfl) ?_
      refine wI (d_move rfl) ?_
      refine wG (d_move rfl) ?_
      refine wG (d_move rfl) ?_
      refine wF ([(zf26 0), (ptr L.bN 0), (ptr M.bN 0), (ptr ab 0), (zf26 4), (zf26 5), (zf26 6), (eN dd), (eI bk), (eN pp)] ++ (zs zf26 10 39 ++ [(ptr ab 0), (eI kd), (eN kn), (zf26 52), (zf26 53), (zf26 54), (zf26 55), (Value.bool xk)] ++ (zs z29 57 6 ++ [(eN dd), (ptr M.bN 0), (ptr M.bN 0), (ptr M.bN 0), (ptr M.bN 0), (eN t.gD), vT, vT, (eI bk), vT, vT, vT, (eI bk), (ptr M.bN 0)] ++ (zs zf26 77 17 ++ (us 17 ++ [(zf26 111), (zf26 112)] ++ (us 15 ++ (zs zf26 128 42 ++ (us 17 ++ [(zf26 187), (zf26 188)] ++ (us 7 ++ [(zf26 196)] ++ (us 7 ++ [(zf26 204)])))))))))) ?_
      refine wG (d_nilCheck (b := M.bN) (o := 0) rfl) ?_
      refine wG (d_fieldAddr (j := 0) Try.underlying81 rfl s_ti23 (by decide) rfl rfl) ?_
      refine wG (d_fieldAddr (j := 1) Try.underlying23 rfl s_ti3 (by decide) rfl rfl) ?_
      refine wG (rd_ld (v := (eN t.gB)) hM ⟨_, Try.underlying3, rfl⟩ rfl (fun _ => rfl)) ?_
      refine wG (d_lss (k := .i64) (m := bk) (n := (t.gB : Int)) rfl rfl (decide_eq_true k2)) ?_
      refine wI (d_pick (b := true) (v := vT) rfl rfl) ?_
      refine wD (tN ?_)
      refine cond_t rfl ?_
      obtain ⟨bn, rfl⟩ := Int.eq_ofNat_of_zero_le k1
      have k2n : bn < s.gB := by omega
      refine wp_eq (l' := ([(zf26 0), (ptr L.bN 0), (ptr M.bN 0), (ptr ab 0), (zf26 4), (zf26 5), (zf26 6), (eN dd), (eN bn), (eN pp)] ++ (zs zf26 10 39 ++ [(ptr ab 0), (eI kd), (eN kn), (zf26 52), (zf26 53), (zf26 54), (zf26 55), (Value.bool xk)] ++ (zs z29 57 6 ++ [(eN dd), (ptr M.bN 0), (ptr M.bN 0), (ptr M.bN 0), (ptr M.bN 0), (eN t.gD), vT, vT, (eN bn), vT, vT, vT, (eN bn), (ptr M.bN 0), (ptr M.bN 0), (ptr M.bN 0), (ptr M.bN 1), (eN t.gB), vT, vT] ++ (zs zf26 83 11 ++ (us 17 ++ [(zf26 111), (zf26 112)] ++ (us 15 ++ (zs zf26 128 42 ++ (us 17 ++ [(zf26 187), (zf26 188)] ++ (us 7 ++ [(zf26 196)] ++ (us 7 ++ [(zf26 204)]))))))))))) rfl ?_
      refine pL ?_
      refine wI (d_move rfl) ?_
      refine wI (d_nilCheck (b := M.bN) (o := 0) rfl) ?_
      refine wI (d_fieldAddr (j := 3) Try.underlying81 rfl s_ti78 (by decide) rfl rfl) ?_
      refine wI (rd_ld (v := (sli M.bU 0 t.gD M.cU)) hM ⟨_, Try.underlying78, rfl⟩ rfl (fun _ => rfl)) ?_
      refine wI (d_move rfl) ?_
      refine wI (d_index1 (n := t.gD) (i := dd) Try.underlying78 s_ti82 rfl (show _ = Value.int _ (dd : Int) from rfl) oo) ?_
      refine wI (rd_ldU (i := dd) hM ⟨_, Try.underlying82, rfl⟩ rfl oo) ?_
      refine wI (d_move rfl) ?_
      refine wI (d_index (b := (M.bd dd)) (o := 0) (n := t.gB) (c := (M.cd dd)) (j := (bn * 4)) Try.underlying82 s_ti85 rfl (show _ = Value.int _ (bn : Int) from rfl) oo oo (by simp)) ?_
      refine wF ([(zf26 0), (ptr L.bN 0), (ptr M.bN 0), (ptr ab 0), (zf26 4), (zf26 5), (zf26 6), (eN dd), (eN bn), (eN pp)] ++ (zs zf26 10 39 ++ [(ptr ab 0), (eI kd), (eN kn), (zf26 52), (zf26 53), (zf26 54), (zf26 55), (Value.bool xk)] ++ (zs z29 57 6 ++ [(eN dd), (ptr M.bN 0), (ptr M.bN 0), (ptr M.bN 0), (ptr M.bN 0), (eN t.gD), vT, vT, (eN bn), vT, vT, vT, (eN bn), (ptr M.bN 0), (ptr M.bN 0), (ptr M.bN 0), (ptr M.bN 1), (eN t.gB), vT, vT, (ptr M.bN 0), (ptr M.bN 0), (ptr M.bN 3), (sli M.bU 0 t.gD M.cU), (eN dd), (ptr M.bU dd), (sli (M.bd dd) 0 t.gB (M.cd dd)), (eN bn), (ptr (M.bd dd) (bn * 4)), (zf26 92), (zf26 93)] ++ (us 17 ++ [(zf26 111), (zf26 112)] ++ (us 15 ++ (zs zf26 128 42 ++ (us 17 ++ [(zf26 187), (zf26 188)] ++ (us 7 ++ [(zf26 196)] ++ (us 7 ++ [(zf26 204)]))))))))) ?_
      refine wI (d_fieldAddr (j := bn * 4 + 1) Try.underlying85 rfl s_ti3 (by decide) rfl rfl) ?_
      refine wI (rd_ldS (i := dd) (j := bn) (f := 1) hM ⟨_, Try.underlying3, rfl⟩ rfl oo oo (by decide) rfl) ?_
      refine wI (d_assign rfl) ?_
      refine wD ?_
      refine wp_eq (l' := ([(zf26 0), (ptr L.bN 0), (ptr M.bN 0), (ptr ab 0), (zf26 4), (zf26 5), (zf26 6), (eN dd), (eN bn), (eN ((t.bl dd bn).nx))] ++ (zs zf26 10 39 ++ [(ptr ab 0), (eI kd), (eN kn), (zf26 52), (zf26 53), (zf26 54), (zf26 55), (Value.bool xk)] ++ (zs z29 57 6 ++ [(eN dd), (ptr M.bN 0), (ptr M.bN 0), (ptr M.bN 0), (ptr M.bN 0), (eN t.gD), vT, vT, (eN bn), vT, vT, vT, (eN bn), (ptr M.bN 0), (ptr M.bN 0), (ptr M.bN 0), (ptr M.bN 1), (eN t.gB), vT, vT, (ptr M.bN 0), (ptr M.bN 0), (ptr M.bN 3), (sli M.bU 0 t.gD M.cU), (eN dd), (ptr M.bU dd), (sli (M.bd dd) 0 t.gB (M.cd dd)), (eN bn), (ptr (M.bd dd) (bn * 4)), (ptr (M.bd dd) (bn * 4 + 1)), (eN ((t.bl dd bn).nx))] ++ (us 17 ++ [(zf26 111), (zf26 112)] ++ (us 15 ++ (zs zf26 128 42 ++ (us 17 ++ [(zf26 187), (zf26 188)] ++ (us 7 ++ [(zf26 196)] ++ (us 7 ++ [(zf26 204)])))))))))) rfl ?_
      exact fr_eq kr (hQ_ ((t.bl dd bn).nx) (fun t_ => nth (us 63 ++ [(eN dd), (ptr M.bN 0), (ptr M.bN 0), (ptr M.bN 0), (ptr M.bN 0), (eN t.gD), vT, vT, (eN bn), vT, vT, vT, (eN bn), (ptr M.bN 0), (ptr M.bN 0), (ptr M.bN 0), (ptr M.bN 1), (eN t.gB), vT, vT, (ptr M.bN 0), (ptr M.bN 0), (ptr M.bN 3), (sli M.bU 0 t.gD M.cU), (eN dd), (ptr M.bU dd), (sli (M.bd dd) 0 t.gB (M.cd dd)), (eN bn), (ptr (M.bd dd) (bn * 4)), (ptr (M.bd dd) (bn * 4 + 1)), (eN ((t.bl dd bn).nx))]) t_) _ trivial oC40)
     refine pL ?_
     refine wI (d_move rfl) ?_
     refine wI (d_move rfl) ?_
     refine wI (d_nilCheck (b := M.bN) (o := 0) rfl) ?_
     refine wI (d_fieldAddr (j := 0) Try.underlying81 rfl s_ti23 (by decide) rfl rfl) ?_
     refine wI (d_fieldAddr (j := 0) Try.underlying23 rfl s_ti3 (by decide) rfl rfl) ?_
     refine wI (rd_ld (v := (eN t.gD)) hM ⟨_, Try.underlying3, rfl⟩ rfl (fun _ => rfl)) ?_
     refine wI (n_lss (a := dd) (b := t.gD) rfl rfl (decide_eq_true k0)) ?_
     refine wF ([(zf26 0), (ptr L.bN 0), (ptr M.bN 0), (ptr ab 0), (zf26 4), (zf26 5), (zf26 6), (eN dd), (eI bk), (eN pp)] ++ (zs zf26 10 39 ++ [(ptr ab 0), (eI kd), (eN kn), (zf26 52), (zf26 53), (zf26 54), (zf26 55), (Value.bool xk)] ++ (zs z29 57 6 ++ [(eN dd), (ptr M.bN 0), (ptr M.bN 0), (ptr M.bN 0), (ptr M.bN 0), (eN t.gD), vT] ++ (zs zf26 70 24 ++ (us 17 ++ [(zf26 111), (zf26 112)] ++ (us 15 ++ (zs zf26 128 42 ++ (us 17 ++ [(zf26 187), (zf26 188)] ++ (us 7 ++ [(zf26 196)] ++ (us 7 ++ [(zf26 204)])))))))))) ?_
     refine wI (d_move rfl) ?_
     refine wG (d_move rfl) ?_
     refine wG (d_geq (k := .i64) (m := bk) (n := 0) rfl rfl (decide_eq_true k1)) ?_
     refine wI (d_pick (b := true) (v := vT) rfl rfl) ?_
     refine wI (d_move rfl) ?_
     refine wG (d_move rfl) ?_
     refine wG (d_move rfl) ?_
     refine wF ([(zf26 0), (ptr L.bN 0), (ptr M.bN 0), (ptr ab 0), (zf26 4), (zf26 5), (zf26 6), (eN dd), (eI bk), (eN pp)] ++ (zs zf26 10 39 ++ [(ptr ab 0), (eI kd), (eN kn), (zf26 52), (zf26 53), (zf26 54), (zf26 55), (Value.bool xk)] ++ (zs z29 57 6 ++ [(eN dd), (ptr M.bN 0), (ptr M.bN 0), (ptr M.bN 0), (ptr M.bN 0), (eN t.gD), vT, vT, (eI bk), vT, vT, vT, (eI bk), (ptr M.bN 0)] ++ (zs zf26 77 17 ++ (us 17 ++ [(zf26 111), (zf26 112)] ++ (us 15 ++ (zs zf26 128 42 ++ (us 17 ++ [(zf26 187), (zf26 188)] ++ (us 7 ++ [(zf26 196)] ++ (us 7 ++ [(zf26 204)])))))))))) ?_
     refine wG (d_nilCheck (b := M.bN) (o := 0) rfl) ?_
     refine wG (d_fieldAddr (j := 0) Try.underlying81 rfl s_ti23 (by decide) rfl rfl) ?_
     refine wG (d_fieldAddr (j := 1) Try.underlying23 rfl s_ti3 (by decide) rfl rfl) ?_
     refine wG (rd_ld (v := (eN t.gB)) hM ⟨_, Try.underlying3, rfl⟩ rfl (fun _ => rfl)) ?_
     refine wG (d_lss (k := .i64) (m := bk) (n := (t.gB : Int)) rfl rfl (decide_eq_false k2)) ?_
     refine wI (d_pick (b := true) (v := vF) rfl rfl) ?_
     refine wD (tN ?_)
     refine cond_f rfl ?_
     refine wK ?_
     refine wp_eq (l' := ([(zf26 0), (ptr L.bN 0), (ptr M.bN 0), (ptr ab 0), (zf26 4), (zf26 5), (zf26 6), (eN dd), (eI bk), (eN pp)] ++ (zs zf26 10 39 ++ [(ptr ab 0), (eI kd), (eN kn), (zf26 52), (zf26 53), (zf26 54), (zf26 55), (Value.bool xk)] ++ (zs z29 57 6 ++ [(eN dd), (ptr M.bN 0), (ptr M.bN 0), (ptr M.bN 0), (ptr M.bN 0), (eN t.gD), vT, vT, (eI bk), vT, vT, vT, (eI bk), (ptr M.bN 0), (ptr M.bN 0), (ptr M.bN 0), (ptr M.bN 1), (eN t.gB), vF, vF] ++ (zs zf26 83 11 ++ (us 17 ++ [(zf26 111), (zf26 112)] ++ (us 15 ++ (zs zf26 128 42 ++ (us 17 ++ [(zf26 187), (zf26 188)] ++ (us 7 ++ [(zf26 196)] ++ (us 7 ++ [(zf26 204)]))))))))))) rfl ?_
     exact fr_eq kr (hQ_ pp (fun t_ => nth (us 63 ++ [(eN dd), (ptr M.bN 0), (ptr M.bN 0), (ptr M.bN 0), (ptr M.bN 0), (eN t.gD), vT, vT, (eI bk), vT, vT, vT, (eI bk), (ptr M.bN 0), (ptr M.bN 0), (ptr M.bN 0), (ptr M.bN 1), (eN t.gB), vF, vF] ++ (zs zf26 83 11)) t_) _ trivial oC40)
    refine pL ?_
    refine wI (d_move rfl) ?_
    refine wI (d_move rfl) ?_
    refine wI (d_nilCheck (b := M.bN) (o := 0) rfl) ?_
    refine wI (d_fieldAddr (j := 0) Try.underlying81 rfl s_ti23 (by decide) rfl rfl) ?_
    refine wI (d_fieldAddr (j := 0) Try.underlying23 rfl s_ti3 (by decide) rfl rfl) ?_
    refine wI (rd_ld (v := (eN t.gD)) hM ⟨_, Try.underlying3, rfl⟩ rfl (fun _ => rfl)) ?_
    refine wI (n_lss (a := dd) (b := t.gD) rfl rfl (decide_eq_true k0)) ?_
    refine wF ([(zf26 0), (ptr L.bN 0), (ptr M.bN 0), (ptr ab 0), (zf26 4), (zf26 5), (zf26 6), (eN dd), (eI bk), (eN pp)] ++ (zs zf26 10 39 ++ [(ptr ab 0), (eI kd), (eN kn), (zf26 52), (zf26 53), (zf26 54), (zf26 55), (Value.bool xk)] ++ (zs z29 57 6 ++ [(eN dd), (ptr M.bN 0), (ptr M.bN 0), (ptr M.bN 0), (ptr M.bN 0), (eN t.gD), vT] ++ (zs zf26 70 24 ++ (us 17 ++ [(zf26 111), (zf26 112)] ++ (us 15 ++ (zs zf26 128 42 ++ (us 17 ++ [(zf26 187), (zf26 188)] ++ (us 7 ++ [(zf26 196)] ++ (us 7 ++ [(zf26 204)])))))))))) ?_
    refine wI (d_move rfl) ?_
    refine wG (d_move rfl) ?_
    refine wG (d_geq (k := .i64) (m := bk) (n := 0) rfl rfl (decide_eq_false k1)) ?_
    refine wI (d_pick (b := true) (v := vF) rfl rfl) ?_
    refine wI (d_move rfl) ?_
    refine wX ?_
    refine wX ?_
    refine wF ([(zf26 0), (ptr L.bN 0), (ptr M.bN 0), (ptr ab 0), (zf26 4), (zf26 5), (zf26 6), (eN dd), (eI bk), (eN pp)] ++ (zs zf26 10 39 ++ [(ptr ab 0), (eI kd), (eN kn), (zf26 52), (zf26 53), (zf26 54), (zf26 55), (Value.bool xk)] ++ (zs z29 57 6 ++ [(eN dd), (ptr M.bN 0), (ptr M.bN 0), (ptr M.bN 0), (ptr M.bN 0), (eN t.gD), vT, vT, (eI bk), vF, vF, vF, undef, undef] ++ (zs zf26 77 17 ++ (us 17 ++ [(zf26 111), (zf26 112)] ++ (us 15 ++ (zs zf26 128 42 ++ (us 17 ++ [(zf26 187), (zf26 188)] ++ (us 7 ++ [(zf26 196)] ++ (us 7 ++ [(zf26 204)])))))))))) ?_
    refine wX ?_
    refine wX ?_
    refine wX ?_
    refine wX ?_
    refine wX ?_
    refine wI (d_pick (b := false) (v := vF) rfl rfl) ?_
    refine wD (tN ?_)
    refine cond_f rfl ?_
    refine wK ?_
    refine wp_eq (l' := ([(zf26 0), (ptr L.bN 0), (ptr M.bN 0), (ptr ab 0), (zf26 4), (zf26 5), (zf26 6), (eN dd), (eI bk), (eN pp)] ++ (zs zf26 10 39 ++ [(ptr ab 0), (eI kd), (eN kn), (zf26 52), (zf26 53), (zf26 54), (zf26 55), (Value.bool xk)] ++ (zs z29 57 6 ++ [(eN dd), (ptr M.bN 0), (ptr M.bN 0), (ptr M.bN 0), (ptr M.bN 0), (eN t.gD), vT, vT, (eI bk), vF, vF, vF] ++ (us 7 ++ [vF] ++ (zs zf26 83 11 ++ (us 17 ++ [(zf26 111), (zf26 112)] ++ (us 15 ++ (zs zf26 128 42 ++ (us 17 ++ [(zf26 187), (zf26 188)] ++ (us 7 ++ [(zf26 196)] ++ (us 7 ++ [(zf26 204)])))))))))))) rfl ?_
    exact fr_eq kr (hQ_ pp (fun t_ => nth (us 63 ++ [(eN dd), (ptr M.bN 0), (ptr M.bN 0), (ptr M.bN 0), (ptr M.bN 0), (eN t.gD), vT, vT, (eI bk), vF, vF, vF] ++ (us 7 ++ [vF] ++ (zs zf26 83 11))) t_) _ trivial oC40)
   refine pL ?_
   refine wI (d_move rfl) ?_
   refine wI (d_move rfl) ?_
   refine wI (d_nilCheck (b := M.bN) (o := 0) rfl) ?_
   refine wI (d_fieldAddr (j := 0) Try.underlying81 rfl s_ti23 (by decide) rfl rfl) ?_
   refine wI (d_fieldAddr (j := 0) Try.underlying23 rfl s_ti3 (by decide) rfl rfl) ?_
   refine wI (rd_ld (v := (eN t.gD)) hM ⟨_, Try.underlying3, rfl⟩ rfl (fun _ => rfl)) ?_
   refine wI (n_lss (a := dd) (b := t.gD) rfl rfl (decide_eq_false k0)) ?_
   refine wF ([(zf26 0), (ptr L.bN 0), (ptr M.bN 0), (ptr ab 0), (zf26 4), (zf26 5), (zf26 6), (eN dd), (eI bk), (eN pp)] ++ (zs zf26 10 39 ++ [(ptr ab 0), (eI kd), (eN kn), (zf26 52), (zf26 53), (zf26 54), (zf26 55), (Value.bool xk)] ++ (zs z29 57 6 ++ [(eN dd), (ptr M.bN 0), (ptr M.bN 0), (ptr M.bN 0), (ptr M.bN 0), (eN t.gD), vF] ++ (zs zf26 70 24 ++ (us 17 ++ [(zf26 111), (zf26 112)] ++ (us 15 ++ (zs zf26 128 42 ++ (us 17 ++ [(zf26 187), (zf26 188)] ++ (us 7 ++ [(zf26 196)] ++ (us 7 ++ [(zf26 204)])))))))))) ?_
   refine wI (d_move rfl) ?_
   refine wX ?_
   refine wX ?_
   refine wI (d_pick (b := false) (v := vF) rfl rfl) ?_
   refine wI (d_move rfl) ?_
   refine wX ?_
   refine wX ?_
   refine wF ([(zf26 0), (ptr L.bN 0), (ptr M.bN 0), (ptr ab 0), (zf26 4), (zf26 5), (zf26 6), (eN dd), (eI bk), (eN pp)] ++ (zs zf26 10 39 ++ [(ptr ab 0), (eI kd), (eN kn), (zf26 52), (zf26 53), (zf26 54), (zf26 55), (Value.bool xk)] ++ (zs z29 57 6 ++ [(eN dd), (ptr M.bN 0), (ptr M.bN 0), (ptr M.bN 0), (ptr M.bN 0), (eN t.gD), vF, vF, undef, undef, vF, vF, undef, undef] ++ (zs zf26 77 17 ++ (us 17 ++ [(zf26 111), (zf26 112)] ++ (us 15 ++ (zs zf26 128 42 ++ (us 17 ++ [(zf26 187), (zf26 188)] ++ (us 7 ++ [(zf26 196)] ++ (us 7 ++ [(zf26 204)])))))))))) ?_
   refine wX ?_
   refine wX ?_
   refine wX ?_
   refine wX ?_
   refine wX ?_
   refine wI (d_pick (b := false) (v := vF) rfl rfl) ?_
   refine wD (tN ?_)
   refine cond_f rfl ?_
   refine wK ?_
   refine wp_eq (l' := ([(zf26 0), (ptr L.bN 0), (ptr M.bN 0), (ptr ab 0), (zf26 4), (zf26 5), (zf26 6), (eN dd), (eI bk), (eN pp)] ++ (zs zf26 10 39 ++ [(ptr ab 0), (eI kd), (eN kn), (zf26 52), (zf26 53), (zf26 54), (zf26 55), (Value.bool xk)] ++ (zs z29 57 6 ++ [(eN dd), (ptr M.bN 0), (ptr M.bN 0), (ptr M.bN 0), (ptr M.bN 0), (eN t.gD), vF, vF, undef, undef, vF, vF] ++ (us 7 ++ [vF] ++ (zs zf26 83 11 ++ (us 17 ++ [(zf26 111), (zf26 112)] ++ (us 15 ++ (zs zf26 128 42 ++ (us 17 ++ [(zf26 187), (zf26 188)] ++ (us 7 ++ [(zf26 196)] ++ (us 7 ++ [(zf26 204)])))))))))))) rfl ?_
   exact fr_eq kr (hQ_ pp (fun t_ => nth (us 63 ++ [(eN dd), (ptr M.bN 0), (ptr M.bN 0), (ptr M.bN 0), (ptr M.bN 0), (eN t.gD), vF, vF, undef, undef, vF, vF] ++ (us 7 ++ [vF] ++ (zs zf26 83 11))) t_) _ trivial oC40)
  intro pg z39 w41 _ o42
  (try dsimp only)
  replace hN := hN.step0 o42
  replace hM := hM.step0 o42
  replace hb := hb.step0 o42
  replace hl := hl.step0 o42
  replace a13 := a13.step0 o42
  replace oW := oW.tail0 o42
  refine tN (wQ ?_)
  refine drawnG (O := (Or1 ab (Ors L.S (Ors M.S No)))) (n := 18) 0 [0, 0, 0, 0, 0, 16, 48, 127, 0, 0, 0, 0, 0, 4096, 12543, 32767, 65535, 131071] [(0, 94), (1, 95), (2, 96), (3, 97), (4, 98), (5, 99), (6, 100), (7, 101), (8, 102), (9, 103), (10, 104), (11, 105), (12, 106), (13, 107), (14, 108), (15, 109), (16, 110), (17, 6)] [] [] [] (fun i_ => ([] : List (RF (Or1 ab (Ors L.S (Ors M.S No))))).getD i_ (RF.any (Or1 ab (Ors L.S (Ors M.S No))))) (fun _ w_ => Arr 59 ab [(eI kd), (eI di), (eI bi), (eI pi), (eI an), ub, ul] w_ ∧ Nd L s (Or1 ab (Ors M.S X)) w_ ∧ Rd M t (Or1 ab (Ors L.S X)) w_) (fun v43 => ([(zf26 0), (ptr L.bN 0), (ptr M.bN 0), (ptr ab 0), (zf26 4), (zf26 5), (v43 17), (eN dd), (eI bk), (eN pg)] ++ (zs zf26 10 39 ++ [(ptr ab 0), (eI kd), (eN kn), (zf26 52), (zf26 53), (zf26 54), (zf26 55), (Value.bool xk)] ++ (zs z29 57 6 ++ (zs z39 63 31 ++ [(v43 0), (v43 1), (v43 2), (v43 3), (v43 4), (v43 5), (v43 6), (v43 7), (v43 8), (v43 9), (v43 10), (v43 11), (v43 12), (v43 13), (v43 14), (v43 15), (v43 16), (zf26 111), (zf26 112)] ++ (us 15 ++ (zs zf26 128 42 ++ (us 17 ++ [(zf26 187), (zf26 188)] ++ (us 7 ++ [(zf26 196)] ++ (us 7 ++ [(zf26 204)])))))))))) (fun v43 => ([(zf26 0), (ptr L.bN 0), (ptr M.bN 0), (ptr ab 0), (zf26 4), (zf26 5), (zf26 6), (eN dd), (eI bk), (eN pg)] ++ (zs zf26 10 39 ++ [(ptr ab 0), (eI kd), (eN kn), (zf26 52), (zf26 53), (zf26 54), (zf26 55), (Value.bool xk)] ++ (zs z29 57 6 ++ (zs z39 63 31 ++ (us 17 ++ [(zf26 111), (zf26 112)] ++ (us 15 ++ (zs zf26 128 42 ++ (us 17 ++ [(zf26 187), (zf26 188)] ++ (us 7 ++ [(zf26 196)] ++ (us 7 ++ [(zf26 204)]))))))))))) s_mx kr rfl (by decide) (by rfl) kr kr kr (by rfl) (fun v_ => by kernel_rfl) (fun v_ => by kernel_rfl) (fun _ => fun w_ w2_ h ho => by obtain ⟨r_a13, r_hN, r_hM⟩ := h; exact ⟨r_a13.step0 ho, r_hN.step0 ho, r_hM.step0 ho⟩) ⟨a13, hN, hM⟩ ?_ ?_ ?_
  ·
   exact ls_nil
  ·
   exact ms_nil
  intro v43 lo_ hi_ w44 o45 hd hR
  clear hd lo_ hi_
  replace hb := hb.step o45 (or1_mono (ors_mono (ors_mono no_any)))
  replace hl := hl.step o45 (or1_mono (ors_mono (ors_mono no_any)))
  obtain ⟨xr_a13, xr_hN, xr_hM⟩ := hR
  replace a13 : Arr 59 ab [(eI kd), (eI di), (eI bi), (eI pi), (eI an), ub, ul] w44 := xr_a13
  replace hN := xr_hN
  replace hM := xr_hM
  clear xr_a13 xr_hN xr_hM
  replace oW := oW.tail o45 (tl_new g_oW_ab (tl_sin sub1 (tl_sin (subs sub1) tl_no)))
  refine rest_seg (n := 18) (p := 0) (q := 18) [0, 1, 2, 3, 4, 5, 8, 9, 10, 11, 12, 13] [6, 7, 14, 15, 16, 17] [(0, 94), (1, 95), (2, 96), (3, 97), (4, 98), (5, 99), (8, 102), (9, 103), (10, 104), (11, 105), (12, 106), (13, 107)] [(0, 94), (1, 95), (2, 96), (3, 97), (4, 98), (5, 99), (6, 100), (7, 101), (8, 102), (9, 103), (10, 104), (11, 105), (12, 106), (13, 107), (14, 108), (15, 109), (16, 110), (17, 6)] [0, 0, 0, 0, 0, 16, 48, 127, 0, 0, 0, 0, 0, 4096, 12543, 32767, 65535, 131071] (fun i_ => nth [(ptr L.bN 0), (eN dd), (eI bk), (eN pg), (ptr ab 5), ub, undef, undef, (ptr M.bN 0), (eN dd), (eI bk), (eN pg), (ptr ab 5), ub] i_) ([(zf26 0), (ptr L.bN 0), (ptr M.bN 0), (ptr ab 0), (zf26 4), (zf26 5), (zf26 6), (eN dd), (eI bk), (eN pg)] ++ (zs zf26 10 39 ++ [(ptr ab 0), (eI kd), (eN kn), (zf26 52), (zf26 53), (zf26 54), (zf26 55), (Value.bool xk)] ++ (zs z29 57 6 ++ (zs z39 63 31 ++ [(ptr L.bN 0), (eN dd), (eI bk), (eN pg), (ptr ab 5), ub, undef, undef, (ptr M.bN 0), (eN dd), (eI bk), (eN pg), (ptr ab 5), ub, undef, undef, undef, (zf26 111), (zf26 112)] ++ (us 15 ++ (zs zf26 128 42 ++ (us 17 ++ [(zf26 187), (zf26 188)] ++ (us 7 ++ [(zf26 196)] ++ (us 7 ++ [(zf26 204)]))))))))) (fun w_ => Ps (Or1 ab (Ors L.S (Ors M.S No))) (Seq kB lb ub) w_ ∧ Ps (Or1 ab (Ors L.S (Ors M.S No))) (Seq kI ll ul) w_ ∧ Arr 59 ab [(eI kd), (eI di), (eI bi), (eI pi), (eI an), ub, ul] w_ ∧ True) kr rfl (by decide) kr kr (by rfl) kr kr kr kr kr (by decide) ?_ ?_
  ·
   rintro w_ ⟨hb, hl, a13, _⟩
   refine fl_cons ⟨_, rfl, gd rfl (d_move rfl)⟩ ?_
   refine fl_cons ⟨_, rfl, gd rfl (d_move rfl)⟩ ?_
   refine fl_cons ⟨_, rfl, gd rfl (d_move rfl)⟩ ?_
   refine fl_cons ⟨_, rfl, gd rfl (d_move rfl)⟩ ?_
   refine fl_cons ⟨_, rfl, gd rfl (d_fieldAddr (j := 5) Try.underlying59 rfl s_ti36 (by decide) rfl rfl)⟩ ?_
   refine fl_cons ⟨_, rfl, gd rfl (d_load (v := ub) ⟨_, Try.underlying36, rfl⟩ rfl a13 rfl)⟩ ?_
   refine fl_cons ⟨_, rfl, gd rfl (d_move rfl)⟩ ?_
   refine fl_cons ⟨_, rfl, gd rfl (d_move rfl)⟩ ?_
   refine fl_cons ⟨_, rfl, gd rfl (d_move rfl)⟩ ?_
   refine fl_cons ⟨_, rfl, gd rfl (d_move rfl)⟩ ?_
   refine fl_cons ⟨_, rfl, gd rfl (d_fieldAddr (j := 5) Try.underlying59 rfl s_ti36 (by decide) rfl rfl)⟩ ?_
   refine fl_cons ⟨_, rfl, gd rfl (d_load (v := ub) ⟨_, Try.underlying36, rfl⟩ rfl a13 rfl)⟩ ?_
   exact fl_nil
  refine wJ.op ⟨hb, hl, a13, trivial⟩ rfl rfl (d_call (xl := [.tmp 99, .const (.int .i64 60)]) (al := [ub, (eN 60)]) Try.func16 kr rfl rfl rfl (law7Bytes_ok lb 60 ub _ (Ps.no hb) fo oo)) ?_
  rintro u48 w46 f49
  replace f49 := f49.ps
  obtain ⟨f49, o47⟩ := f49
  replace f49 := f49.less (Y := (Or1 ab (Ors L.S (Ors M.S (Old W.heap.size))))) (or1_old a13.lt (ors_old hN.lt (ors_old hM.lt (old_old oW.size))))
  replace hN := hN.step0 o47
  replace hM := hM.step0 o47
  replace hb := hb.step0 o47
  replace hl := hl.step0 o47
  replace a13 := a13.step0 o47
  replace oW := oW.tail0 o47
  refine wJ.op ⟨hb, hl, a13, trivial⟩ rfl rfl (d_call (xl := [.tmp 94, .tmp 95, .tmp 96, .tmp 97, .tmp 100]) (al := [(ptr L.bN 0), (eN dd), (eI bk), (eN pg), u48]) Try.func20 kr rfl rfl rfl (prog_ok L s _ hN (dd : Int) bk (pg : Int) (bytesL lb 60) u48 (lt_or1 a13.lt (lt_ors hM.lt (fun k t => Nat.lt_of_lt_of_le (hX k t) oW.size))) (f49.less (os_of (sub2 sub1))) (by have := bytesL_len lb 60; first | omega | (simp; done) | (simp; omega)))) ?_
  rintro _ w50 ⟨rfl, a52, o51⟩
  replace a13 := a13.step o51 (hN.dis _ in1)
  replace hM := hM.step o51 (sub2 sub1)
  replace hb := hb.step o51 (sub2 sub1)
  replace hl := hl.step o51 (sub2 sub1)
  replace f49 := f49.step o51 (sub2 sub1)
  replace oW := oW.tail o51 (fun k _ e => sub1 k e)
  replace hN := a52
  refine wJ.op ⟨hb, hl, a13, trivial⟩ rfl rfl (d_call (xl := [.tmp 107, .const (.int .i64 60)]) (al := [ub, (eN 60)]) Try.func16 kr rfl rfl rfl (law7Bytes_ok lb 60 ub _ (Ps.no hb) fo oo)) ?_
  rintro u55 w53 f56
  replace f56 := f56.ps
  obtain ⟨f56, o54⟩ := f56
  replace f56 := f56.less (Y := (Or1 ab (Ors L.S (Ors M.S (Old W.heap.size))))) (or1_old a13.lt (ors_old hN.lt (ors_old hM.lt (old_old oW.size))))
  replace hN := hN.step0 o54
  replace hM := hM.step0 o54
  replace hb := hb.step0 o54
  replace hl := hl.step0 o54
  replace f49 := f49.step0 o54
  replace a13 := a13.step0 o54
  replace oW := oW.tail0 o54
  refine wJ.op ⟨hb, hl, a13, trivial⟩ rfl rfl (d_call (xl := [.tmp 102, .tmp 103, .tmp 104, .tmp 105, .tmp 108]) (al := [(ptr M.bN 0), (eN dd), (eI bk), (eN pg), u55]) Try.func54 kr rfl rfl rfl (refProg_ok M t _ hM (dd : Int) bk (pg : Int) (bytesL lb 60) u55 (lt_or1 a13.lt (lt_ors hN.lt (fun k t => Nat.lt_of_lt_of_le (hX k t) oW.size))) (f56.less (os_of (sub2 (subs sub1)))) (by have := bytesL_len lb 60; first | omega | (simp; done) | (simp; omega)))) ?_
  rintro _ w57 ⟨rfl, a59, o58⟩
  replace a13 := a13.step o58 (hM.dis _ in1)
  replace hN := hN.step o58 (sub2 sub1)
  replace hb := hb.step o58 (sub2 (subs sub1))
  replace hl := hl.step o58 (sub2 (subs sub1))
  replace f49 := f49.step o58 (sub2 (subs sub1))
  replace f56 := f56.step o58 (sub2 (subs sub1))
  replace oW := oW.tail o58 (fun k _ e => (subs sub1) k e)
  replace hM := a59
  refine wJ.is ⟨hb, hl, a13, trivial⟩ rfl rfl (n_eql (a := (s.progR (dd : Int) bk (pg : Int) (bytesL lb 60))) (b := (t.progR (dd : Int) bk (pg : Int) (bytesL lb 60))) rfl rfl (decide_eq_true ((hS.prog _ _ _ _).2.symm))) ?_
  refine wJ.is ⟨hb, hl, a13, trivial⟩ rfl rfl (d_assign rfl) ?_
  refine wJ.flat ([(zf26 0), (ptr L.bN 0), (ptr M.bN 0), (ptr ab 0), (zf26 4), (zf26 5), vT, (eN dd), (eI bk), (eN pg)] ++ (zs zf26 10 39 ++ [(ptr ab 0), (eI kd), (eN kn), (zf26 52), (zf26 53), (zf26 54), (zf26 55), (Value.bool xk)] ++ (zs z29 57 6 ++ (zs z39 63 31 ++ [(ptr L.bN 0), (eN dd), (eI bk), (eN pg), (ptr ab 5), ub, u48, (eN (s.progR (dd : Int) bk (pg : Int) (bytesL lb 60))), (ptr M.bN 0), (eN dd), (eI bk), (eN pg), (ptr ab 5), ub, u55, (eN (t.progR (dd : Int) bk (pg : Int) (bytesL lb 60))), vT, (zf26 111), (zf26 112)] ++ (us 15 ++ (zs zf26 128 42 ++ (us 17 ++ [(zf26 187), (zf26 188)] ++ (us 7 ++ [(zf26 196)] ++ (us 7 ++ [(zf26 204)]))))))))) kr ?_
  refine wJ.done ⟨hb, hl, a13, trivial⟩ ?_
  refine rest_done rfl ?_
  refine tN ?_
  refine forget (fun zf60 => (zs zf60 0 6 ++ [vT] ++ (zs zf60 7 198))) kr (fun zf60 => ?_)
  refine wpIn_ret ?_
  refine inb_r (then_r ?_)
  refine leave0 (v := vT) (res1 Try.results32 rfl) ?_
  exact ⟨_, _, rfl, (hN.less (xx_skip (xx_ors xx_id))), (hM.less (xx_skip (xx_ors xx_id))), (hS.prog _ _ _ _).1, (rg_prog hR _ _ _ _), oW⟩
 refine wQ (pL ?_)
 refine wI (n_eql (a := kn) (b := 6) rfl rfl rfl) ?_
 refine wI (d_assign rfl) ?_
 refine wD (tN ?_)
 refine cond_if rfl (fun c61 => ?_) (fun c61 => ?_)
 ·
  refine wQ ?_
  refine wp_eq (l' := ([(zf26 0), (ptr L.bN 0), (ptr M.bN 0), (ptr ab 0), (zf26 4), (zf26 5), (zf26 6), (eN dd), (eI bk), (eN pp)] ++ (zs zf26 10 39 ++ [(ptr ab 0), (eI kd), (eN kn), (zf26 52), (zf26 53), (zf26 54), (zf26 55), (Value.bool xk)] ++ (zs z29 57 6 ++ (zs zf26 63 31 ++ (us 17 ++ [(Value.bool (decide (kn = 6))), (Value.bool (decide (kn = 6)))] ++ (us 15 ++ (zs zf26 128 42 ++ (us 17 ++ [(zf26 187), (zf26 188)] ++ (us 7 ++ [(zf26 196)] ++ (us 7 ++ [(zf26 204)]))))))))))) rfl ?_
  refine drawnG (O := (Or1 ab (Ors L.S (Ors M.S No)))) (n := 16) 0 [0, 0, 0, 0, 0, 16, 63, 0, 0, 0, 0, 0, 2048, 8191, 16383, 32767] [(0, 113), (1, 114), (2, 115), (3, 116), (4, 117), (5, 118), (6, 119), (7, 120), (8, 121), (9, 122), (10, 123), (11, 124), (12, 125), (13, 126), (14, 127), (15, 6)] [] [] [] (fun i_ => ([] : List (RF (Or1 ab (Ors L.S (Ors M.S No))))).getD i_ (RF.any (Or1 ab (Ors L.S (Ors M.S No))))) (fun _ w_ => Arr 59 ab [(eI kd), (eI di), (eI bi), (eI pi), (eI an), ub, ul] w_ ∧ Nd L s (Or1 ab (Ors M.S X)) w_ ∧ Rd M t (Or1 ab (Ors L.S X)) w_) (fun v62 => ([(zf26 0), (ptr L.bN 0), (ptr M.bN 0), (ptr ab 0), (zf26 4), (zf26 5), (v62 15), (eN dd), (eI bk), (eN pp)] ++ (zs zf26 10 39 ++ [(ptr ab 0), (eI kd), (eN kn), (zf26 52), (zf26 53), (zf26 54), (zf26 55), (Value.bool xk)] ++ (zs z29 57 6 ++ (zs zf26 63 31 ++ (us 17 ++ [(Value.bool (decide (kn = 6))), (Value.bool (decide (kn = 6))), (v62 0), (v62 1), (v62 2), (v62 3), (v62 4), (v62 5), (v62 6), (v62 7), (v62 8), (v62 9), (v62 10), (v62 11), (v62 12), (v62 13), (v62 14)] ++ (zs zf26 128 42 ++ (us 17 ++ [(zf26 187), (zf26 188)] ++ (us 7 ++ [(zf26 196)] ++ (us 7 ++ [(zf26 204)])))))))))) (fun v62 => ([(zf26 0), (ptr L.bN 0), (ptr M.bN 0), (ptr ab 0), (zf26 4), (zf26 5), (zf26 6), (eN dd), (eI bk), (eN pp)] ++ (zs zf26 10 39 ++ [(ptr ab 0), (eI kd), (eN kn), (zf26 52), (zf26 53), (zf26 54), (zf26 55), (Value.bool xk)] ++ (zs z29 57 6 ++ (zs zf26 63 31 ++ (us 17 ++ [(Value.bool (decide (kn = 6))), (Value.bool (decide (kn = 6)))] ++ (us 15 ++ (zs zf26 128 42 ++ (us 17 ++ [(zf26 187), (zf26 188)] ++ (us 7 ++ [(zf26 196)] ++ (us 7 ++ [(zf26 204)]))))))))))) s_mx kr rfl (by decide) (by rfl) kr kr kr (by rfl) (fun v_ => by kernel_rfl) (fun v_ => by kernel_rfl) (fun _ => fun w_ w2_ h ho => by obtain ⟨r_a13, r_hN, r_hM⟩ := h; exact ⟨r_a13.step0 ho, r_hN.step0 ho, r_hM.step0 ho⟩) ⟨a13, hN, hM⟩ ?_ ?_ ?_
  ·
   exact ls_nil
  ·
   exact ms_nil
  intro v62 lo_ hi_ w63 o64 hd hR
  clear hd lo_ hi_
  replace hb := hb.step o64 (or1_mono (ors_mono (ors_mono no_any)))
  replace hl := hl.step o64 (or1_mono (ors_mono (ors_mono no_any)))
  obtain ⟨xr_a13, xr_hN, xr_hM⟩ := hR
  replace a13 : Arr 59 ab [(eI kd), (eI di), (eI bi), (eI pi), (eI an), ub, ul] w63 := xr_a13
  replace hN := xr_hN
  replace hM := xr_hM
  clear xr_a13 xr_hN xr_hM
  replace oW := oW.tail o64 (tl_new g_oW_ab (tl_sin sub1 (tl_sin (subs sub1) tl_no)))
  refine rest_seg (n := 16) (p := 0) (q := 16) [0, 1, 2, 3, 4, 5, 7, 8, 9, 10, 11, 12] [6, 13, 14, 15] [(0, 113), (1, 114), (2, 115), (3, 116), (4, 117), (5, 118), (7, 120), (8, 121), (9, 122), (10, 123), (11, 124), (12, 125)] [(0, 113), (1, 114), (2, 115), (3, 116), (4, 117), (5, 118), (6, 119), (7, 120), (8, 121), (9, 122), (10, 123), (11, 124), (12, 125), (13, 126), (14, 127), (15, 6)] [0, 0, 0, 0, 0, 16, 63, 0, 0, 0, 0, 0, 2048, 8191, 16383, 32767] (fun i_ => nth [(ptr L.bN 0), (eN dd), (eI bk), (eN pp), (ptr ab 5), ub, undef, (ptr M.bN 0), (eN dd), (eI bk), (eN pp), (ptr ab 5), ub] i_) ([(zf26 0), (ptr L.bN 0), (ptr M.bN 0), (ptr ab 0), (zf26 4), (zf26 5), (zf26 6), (eN dd), (eI bk), (eN pp)] ++ (zs zf26 10 39 ++ [(ptr ab 0), (eI kd), (eN kn), (zf26 52), (zf26 53), (zf26 54), (zf26 55), (Value.bool xk)] ++ (zs z29 57 6 ++ (zs zf26 63 31 ++ (us 17 ++ [(Value.bool (decide (kn = 6))), (Value.bool (decide (kn = 6))), (ptr L.bN 0), (eN dd), (eI bk), (eN pp), (ptr ab 5), ub, undef, (ptr M.bN 0), (eN dd), (eI bk), (eN pp), (ptr ab 5), ub, undef, undef] ++ (zs zf26 128 42 ++ (us 17 ++ [(zf26 187), (zf26 188)] ++ (us 7 ++ [(zf26 196)] ++ (us 7 ++ [(zf26 204)]))))))))) (fun w_ => Ps (Or1 ab (Ors L.S (Ors M.S No))) (Seq kB lb ub) w_ ∧ Ps (Or1 ab (Ors L.S (Ors M.S No))) (Seq kI ll ul) w_ ∧ Arr 59 ab [(eI kd), (eI di), (eI bi), (eI pi), (eI an), ub, ul] w_ ∧ True) kr rfl (by decide) kr kr (by rfl) kr kr kr kr kr (by decide) ?_ ?_
  ·
   rintro w_ ⟨hb, hl, a13, _⟩
   refine fl_cons ⟨_, rfl, gd rfl (d_move rfl)⟩ ?_
   refine fl_cons ⟨_, rfl, gd rfl (d_move rfl)⟩ ?_
   refine fl_cons ⟨_, rfl, gd rfl (d_move rfl)⟩ ?_
   refine fl_cons ⟨_, rfl, gd rfl (d_move rfl)⟩ ?_
   refine fl_cons ⟨_, rfl, gd rfl (d_fieldAddr (j := 5) Try.underlying59 rfl s_ti36 (by decide) rfl rfl)⟩ ?_
   refine fl_cons ⟨_, rfl, gd rfl (d_load (v := ub) ⟨_, Try.underlying36, rfl⟩ rfl a13 rfl)⟩ ?_
   refine fl_cons ⟨_, rfl, gd rfl (d_move rfl)⟩ ?_
   refine fl_cons ⟨_, rfl, gd rfl (d_move rfl)⟩ ?_
   refine fl_cons ⟨_, rfl, gd rfl (d_move rfl)⟩ ?_
   refine fl_cons ⟨_, rfl, gd rfl (d_move rfl)⟩ ?_
   refine fl_cons ⟨_, rfl, gd rfl (d_fieldAddr (j := 5) Try.underlying59 rfl s_ti36 (by decide) rfl rfl)⟩ ?_
   refine fl_cons ⟨_, rfl, gd rfl (d_load (v := ub) ⟨_, Try.underlying36, rfl⟩ rfl a13 rfl)⟩ ?_
   exact fl_nil
  refine wJ.op ⟨hb, hl, a13, trivial⟩ rfl rfl (d_call (xl := [.tmp 113, .tmp 114, .tmp 115, .tmp 116, .tmp 118]) (al := [(ptr L.bN 0), (eN dd), (eI bk), (eN pp), ub]) Try.func20 kr rfl rfl rfl (prog_ok L s _ hN (dd : Int) bk (pp : Int) lb ub (lt_or1 a13.lt (lt_ors hM.lt (fun k t => Nat.lt_of_lt_of_le (hX k t) oW.size))) (hb.less (os_of (sub2 sub1))) fo)) ?_
  rintro _ w65 ⟨rfl, a67, o66⟩
  replace a13 := a13.step o66 (hN.dis _ in1)
  replace hM := hM.step o66 (sub2 sub1)
  replace hb := hb.step o66 (sub2 sub1)
  replace hl := hl.step o66 (sub2 sub1)
  replace oW := oW.tail o66 (fun k _ e => sub1 k e)
  replace hN := a67
  refine wJ.op ⟨hb, hl, a13, trivial⟩ rfl rfl (d_call (xl := [.tmp 120, .tmp 121, .tmp 122, .tmp 123, .tmp 125]) (al := [(ptr M.bN 0), (eN dd), (eI bk), (eN pp), ub]) Try.func54 kr rfl rfl rfl (refProg_ok M t _ hM (dd : Int) bk (pp : Int) lb ub (lt_or1 a13.lt (lt_ors hN.lt (fun k t => Nat.lt_of_lt_of_le (hX k t) oW.size))) (hb.less (os_of (sub2 (subs sub1)))) fo)) ?_
  rintro _ w68 ⟨rfl, a70, o69⟩
  replace a13 := a13.step o69 (hM.dis _ in1)
  replace hN := hN.step o69 (sub2 sub1)
  replace hb := hb.step o69 (sub2 (subs sub1))
  replace hl := hl.step o69 (sub2 (subs sub1))
  replace oW := oW.tail o69 (fun k _ e => (subs sub1) k e)
  replace hM := a70
  refine wJ.is ⟨hb, hl, a13, trivial⟩ rfl rfl (n_eql (a := (s.progR (dd : Int) bk (pp : Int) lb)) (b := (t.progR (dd : Int) bk (pp : Int) lb)) rfl rfl (decide_eq_true ((hS.prog _ _ _ _).2.symm))) ?_
  refine wJ.is ⟨hb, hl, a13, trivial⟩ rfl rfl (d_assign rfl) ?_
  refine wJ.flat ([(zf26 0), (ptr L.bN 0), (ptr M.bN 0), (ptr ab 0), (zf26 4), (zf26 5), vT, (eN dd), (eI bk), (eN pp)] ++ (zs zf26 10 39 ++ [(ptr ab 0), (eI kd), (eN kn), (zf26 52), (zf26 53), (zf26 54), (zf26 55), (Value.bool xk)] ++ (zs z29 57 6 ++ (zs zf26 63 31 ++ (us 17 ++ [(Value.bool (decide (kn = 6))), (Value.bool (decide (kn = 6))), (ptr L.bN 0), (eN dd), (eI bk), (eN pp), (ptr ab 5), ub, (eN (s.progR (dd : Int) bk (pp : Int) lb)), (ptr M.bN 0), (eN dd), (eI bk), (eN pp), (ptr ab 5), ub, (eN (t.progR (dd : Int) bk (pp : Int) lb)), vT] ++ (zs zf26 128 42 ++ (us 17 ++ [(zf26 187), (zf26 188)] ++ (us 7 ++ [(zf26 196)] ++ (us 7 ++ [(zf26 204)]))))))))) kr ?_
  refine wJ.done ⟨hb, hl, a13, trivial⟩ ?_
  refine rest_done rfl ?_
  refine tN ?_
  refine forget (fun zf71 => (zs zf71 0 6 ++ [vT] ++ (zs zf71 7 198))) kr (fun zf71 => ?_)
  refine wpIn_ret ?_
  refine inb_r (then_r ?_)
  refine leave0 (v := vT) (res1 Try.results32 rfl) ?_
  exact ⟨_, _, rfl, (hN.less (xx_skip (xx_ors xx_id))), (hM.less (xx_skip (xx_ors xx_id))), (hS.prog _ _ _ _).1, (rg_prog hR _ _ _ _), oW⟩
 refine wQ ?_
 refine wp_eq (l' := ([(zf26 0), (ptr L.bN 0), (ptr M.bN 0), (ptr ab 0), (zf26 4), (zf26 5), (zf26 6), (eN dd), (eI bk), (eN pp)] ++ (zs zf26 10 39 ++ [(ptr ab 0), (eI kd), (eN kn), (zf26 52), (zf26 53), (zf26 54), (zf26 55), (Value.bool xk)] ++ (zs z29 57 6 ++ (zs zf26 63 31 ++ (us 17 ++ [(Value.bool (decide (kn = 6))), (Value.bool (decide (kn = 6)))] ++ (us 15 ++ (zs zf26 128 42 ++ (us 17 ++ [(zf26 187), (zf26 188)] ++ (us 7 ++ [(zf26 196)] ++ (us 7 ++ [(zf26 204)]))))))))))) rfl ?_
 refine cutC (shape := fun (xe : Bool) z72 => ([(zf26 0), (ptr L.bN 0), (ptr M.bN 0), (ptr ab 0), (zf26 4), (zf26 5), (zf26 6), (eN dd), (eI bk), (eN pp)] ++ (zs zf26 10 39 ++ [(ptr ab 0), (eI kd), (eN kn), (zf26 52), (zf26 53), (zf26 54), (zf26 55), (Value.bool xk)] ++ (zs z29 57 6 ++ (zs zf26 63 31 ++ (us 17 ++ [(Value.bool (decide (kn = 6))), (Value.bool (decide (kn = 6)))] ++ (us 15 ++ [(Value.bool xe), (z72 129), (z72 130)] ++ (zs zf26 131 39 ++ (us 17 ++ [(zf26 187), (zf26 188)] ++ (us 7 ++ [(zf26 196)] ++ (us 7 ++ [(zf26 204)]))))))))))) (p := fun (xe : Bool) => True) ?_ ?_
 ·
  intro Q' hQ_
  have oC73 : Only No w36 w36 := Only.refl _ _
  refine wQ (pL ?_)
  refine wI (n_eql (a := kn) (b := 7) rfl rfl rfl) ?_
  refine wI (d_assign rfl) ?_
  refine wD (tN ?_)
  refine cond_if rfl (fun c74 => ?_) (fun c74 => ?_)
  ·
   refine wK ?_
   refine wp_eq (l' := ([(zf26 0), (ptr L.bN 0), (ptr M.bN 0), (ptr ab 0), (zf26 4), (zf26 5), (zf26 6), (eN dd), (eI bk), (eN pp)] ++ (zs zf26 10 39 ++ [(ptr ab 0), (eI kd), (eN kn), (zf26 52), (zf26 53), (zf26 54), (zf26 55), (Value.bool xk)] ++ (zs z29 57 6 ++ (zs zf26 63 31 ++ (us 17 ++ [(Value.bool (decide (kn = 6))), (Value.bool (decide (kn = 6)))] ++ (us 15 ++ [(Value.bool (decide (kn = 7))), (Value.bool (decide (kn = 7)))] ++ (zs zf26 130 40 ++ (us 17 ++ [(zf26 187), (zf26 188)] ++ (us 7 ++ [(zf26 196)] ++ (us 7 ++ [(zf26 204)]))))))))))) rfl ?_
   exact fr_eq kr (hQ_ (decide (kn = 7)) (fun t_ => nth (us 129 ++ [(Value.bool (decide (kn = 7))), (zf26 130)]) t_) _ trivial oC73)
  refine pL ?_
  refine wI (n_eql (a := kn) (b := 8) rfl rfl rfl) ?_
  refine wI (d_assign rfl) ?_
  refine wD ?_
  refine wp_eq (l' := ([(zf26 0), (ptr L.bN 0), (ptr M.bN 0), (ptr ab 0), (zf26 4), (zf26 5), (zf26 6), (eN dd), (eI bk), (eN pp)] ++ (zs zf26 10 39 ++ [(ptr ab 0), (eI kd), (eN kn), (zf26 52), (zf26 53), (zf26 54), (zf26 55), (Value.bool xk)] ++ (zs z29 57 6 ++ (zs zf26 63 31 ++ (us 17 ++ [(Value.bool (decide (kn = 6))), (Value.bool (decide (kn = 6)))] ++ (us 15 ++ [(Value.bool (decide (kn = 8))), (Value.bool (decide (kn = 7))), (Value.bool (decide (kn = 8)))] ++ (zs zf26 131 39 ++ (us 17 ++ [(zf26 187), (zf26 188)] ++ (us 7 ++ [(zf26 196)] ++ (us 7 ++ [(zf26 204)]))))))))))) rfl ?_
  exact fr_eq kr (hQ_ (decide (kn = 8)) (fun t_ => nth (us 129 ++ [(Value.bool (decide (kn = 7))), (Value.bool (decide (kn = 8)))]) t_) _ trivial oC73)
 intro xe z72 w75 _ o76
 (try dsimp only)
 replace hN := hN.step0 o76
 replace hM := hM.step0 o76
 replace hb := hb.step0 o76
 replace hl := hl.step0 o76
 replace a13 := a13.step0 o76
 replace oW := oW.tail0 o76
 refine tN ?_
 refine cond_b rfl (fun c77 => ?_) (fun c77 => ?_)
 ·
  refine wQ (pL ?_)
  refine wI (d_move rfl) ?_
  refine wI (d_move rfl) ?_
  refine wI (d_move rfl) ?_
  refine wO (d_call (xl := [.tmp 131, .tmp 132, .tmp 133]) (al := [(ptr L.bN 0), (eN dd), (eI bk)]) Try.func23 kr rfl rfl rfl (erase_ok L s _ hN (dd : Int) bk (lt_or1 a13.lt (lt_ors hM.lt (fun k t => Nat.lt_of_lt_of_le (hX k t) oW.size))))) ?_
  rintro _ w78 ⟨rfl, a80, o79⟩
  replace a13 := a13.step o79 (hN.dis _ in1)
  replace hM := hM.step o79 (sub2 sub1)
  replace hb := hb.step o79 (sub2 sub1)
  replace hl := hl.step o79 (sub2 sub1)
  replace oW := oW.tail o79 (fun k _ e => sub1 k e)
  replace hN := a80
  refine wI (d_move rfl) ?_
  refine wI (d_move rfl) ?_
  refine wI (d_move rfl) ?_
  refine wO (d_call (xl := [.tmp 135, .tmp 136, .tmp 137]) (al := [(ptr M.bN 0), (eN dd), (eI bk)]) Try.func55 kr rfl rfl rfl (refErase_ok M t _ hM (dd : Int) bk (lt_or1 a13.lt (lt_ors hN.lt (fun k t => Nat.lt_of_lt_of_le (hX k t) oW.size))))) ?_
  rintro _ w81 ⟨rfl, a83, o82⟩
  replace a13 := a13.step o82 (hM.dis _ in1)
  replace hN := hN.step o82 (sub2 sub1)
  replace hb := hb.step o82 (sub2 (subs sub1))
  replace hl := hl.step o82 (sub2 (subs sub1))
  replace oW := oW.tail o82 (fun k _ e => (subs sub1) k e)
  replace hM := a83
  refine wI (n_eql (a := (s.eraseR (dd : Int) bk)) (b := (t.eraseR (dd : Int) bk)) rfl rfl (decide_eq_true ((hS.erase _ _).2.symm))) ?_
  refine wF ([(zf26 0), (ptr L.bN 0), (ptr M.bN 0), (ptr ab 0), (zf26 4), (zf26 5), (zf26 6), (eN dd), (eI bk), (eN pp)] ++ (zs zf26 10 39 ++ [(ptr ab 0), (eI kd), (eN kn), (zf26 52), (zf26 53), (zf26 54), (zf26 55), (Value.bool xk)] ++ (zs z29 57 6 ++ (zs zf26 63 31 ++ (us 17 ++ [(Value.bool (decide (kn = 6))), (Value.bool (decide (kn = 6)))] ++ (us 15 ++ [(Value.bool xe), (z72 129), (z72 130), (ptr L.bN 0), (eN dd), (eI bk), (eN (s.eraseR (dd : Int) bk)), (ptr M.bN 0), (eN dd), (eI bk), (eN (t.eraseR (dd : Int) bk)), vT] ++ (zs zf26 140 30 ++ (us 17 ++ [(zf26 187), (zf26 188)] ++ (us 7 ++ [(zf26 196)] ++ (us 7 ++ [(zf26 204)])))))))))) ?_
  refine wI (d_assign rfl) ?_
  refine wF ([(zf26 0), (ptr L.bN 0), (ptr M.bN 0), (ptr ab 0), (zf26 4), (zf26 5), vT, (eN dd), (eI bk), (eN pp)] ++ (zs zf26 10 39 ++ [(ptr ab 0), (eI kd), (eN kn), (zf26 52), (zf26 53), (zf26 54), (zf26 55), (Value.bool xk)] ++ (zs z29 57 6 ++ (zs zf26 63 31 ++ (us 17 ++ [(Value.bool (decide (kn = 6))), (Value.bool (decide (kn = 6)))] ++ (us 15 ++ [(Value.bool xe), (z72 129), (z72 130), (ptr L.bN 0), (eN dd), (eI bk), (eN (s.eraseR (dd : Int) bk)), (ptr M.bN 0), (eN dd), (eI bk), (eN (t.eraseR (dd : Int) bk)), vT] ++ (zs zf26 140 30 ++ (us 17 ++ [(zf26 187), (zf26 188)] ++ (us 7 ++ [(zf26 196)] ++ (us 7 ++ [(zf26 204)])))))))))) ?_
  refine wD (tN ?_)
  refine forget (fun zf84 => (zs zf84 0 6 ++ [vT] ++ (zs zf84 7 198))) kr (fun zf84 => ?_)
  refine wpIn_ret ?_
  refine inb_r (then_r ?_)
  refine leave0 (v := vT) (res1 Try.results32 rfl) ?_
  exact ⟨_, _, rfl, (hN.less (xx_skip (xx_ors xx_id))), (hM.less (xx_skip (xx_ors xx_id))), (hS.erase _ _).1, (rg_erase hR _ _), oW⟩
 refine wQ (pL ?_)
 refine wI (n_eql (a := kn) (b := 9) rfl rfl rfl) ?_
 refine wI (d_assign rfl) ?_
 refine wD (tN ?_)
 refine cond_if rfl (fun c85 => ?_) (fun c85 => ?_)
 ·
  refine wQ (pL ?_)
  refine wI (d_move rfl) ?_
  refine wI (d_move rfl) ?_
  refine wI (d_move rfl) ?_
  refine wI (d_move rfl) ?_
  refine wO (d_call (xl := [.tmp 143, .tmp 144, .tmp 145, .tmp 146]) (al := [(ptr L.bN 0), (eN dd), (eI bk), (eN pp)]) Try.func21 kr rfl rfl rfl (read_ok L s _ hN (dd : Int) bk (pp : Int) (lt_or1 a13.lt (lt_ors hM.lt (fun k t => Nat.lt_of_lt_of_le (hX k t) oW.size))))) ?_
  rintro _ w86 ⟨u88, rfl, f89, a90, o87⟩
  replace f89 := f89.less (Y := (Or1 ab (Ors L.S (Ors M.S (Old W.heap.size))))) (or1_old a13.lt (ors_old hN.lt (ors_old hM.lt (old_old oW.size))))
  replace a13 := a13.step o87 (hN.dis _ in1)
  replace hM := hM.step o87 (sub2 sub1)
  replace hb := hb.step o87 (sub2 sub1)
  replace hl := hl.step o87 (sub2 sub1)
  replace oW := oW.tail o87 (fun k _ e => sub1 k e)
  replace hN := a90
  refine wI (d_move rfl) ?_
  refine wI (d_extract (v := u88) rfl rfl) ?_
  refine wF ([(zf26 0), (ptr L.bN 0), (ptr M.bN 0), (ptr ab 0), (zf26 4), (zf26 5), (zf26 6), (eN dd), (eI bk), (eN pp)] ++ (zs zf26 10 39 ++ [(ptr ab 0), (eI kd), (eN kn), (zf26 52), (zf26 53), (zf26 54), (zf26 55), (Value.bool xk)] ++ (zs z29 57 6 ++ (zs zf26 63 31 ++ (us 17 ++ [(Value.bool (decide (kn = 6))), (Value.bool (decide (kn = 6)))] ++ (us 15 ++ [(Value.bool xe), (z72 129), (z72 130)] ++ (zs zf26 131 9 ++ [(Value.bool (decide (kn = 9))), (Value.bool (decide (kn = 9))), (Value.tuple #[u88, (eN (s.askR (s.readOk (dd : Int) bk (pp : Int))))]), (ptr L.bN 0), (eN dd), (eI bk), (eN pp), (Value.tuple #[u88, (eN (s.askR (s.readOk (dd : Int) bk (pp : Int))))]), u88] ++ (zs zf26 149 21 ++ (us 17 ++ [(zf26 187), (zf26 188)] ++ (us 7 ++ [(zf26 196)] ++ (us 7 ++ [(zf26 204)]))))))))))) ?_
  refine wI (d_extract (v := (eN (s.askR (s.readOk (dd : Int) bk (pp : Int))))) rfl rfl) ?_
  refine wI (d_assign rfl) ?_
  refine wI (d_assign rfl) ?_
  refine wD (tN ?_)
  refine forget (fun zf91 => ([(zf91 0), (zf91 1), (ptr M.bN 0), (zf91 3), (zf91 4), (zf91 5), (zf91 6), (eN dd), (eI bk), (eN pp), u88, (eN (s.askR (s.readOk (dd : Int) bk (pp : Int))))] ++ (zs zf91 12 193))) kr (fun zf91 => ?_)
  refine wQ (pL ?_)
  refine wI (d_move rfl) ?_
  refine wI (d_move rfl) ?_
  refine wI (d_move rfl) ?_
  refine wI (d_move rfl) ?_
  refine wO (d_call (xl := [.tmp 151, .tmp 152, .tmp 153, .tmp 154]) (al := [(ptr M.bN 0), (eN dd), (eI bk), (eN pp)]) Try.func56 kr rfl rfl rfl (refRead_ok M t _ hM (dd : Int) bk (pp : Int) (lt_or1 a13.lt (lt_ors hN.lt (fun k t => Nat.lt_of_lt_of_le (hX k t) oW.size))) (hS.rg hR))) ?_
  rintro _ w92 ⟨u94, rfl, f95, a96, o93⟩
  replace f95 := f95.less (Y := (Or1 ab (Ors L.S (Ors M.S (Old W.heap.size))))) (or1_old a13.lt (ors_old hN.lt (ors_old hM.lt (old_old oW.size))))
  replace a13 := a13.step o93 (hM.dis _ in1)
  replace hN := hN.step o93 (sub2 sub1)
  replace hb := hb.step o93 (sub2 (subs sub1))
  replace hl := hl.step o93 (sub2 (subs sub1))
  replace f89 := f89.step o93 (sub2 (subs sub1))
  replace oW := oW.tail o93 (fun k _ e => (subs sub1) k e)
  replace hM := a96
  refine wI (d_move rfl) ?_
  refine wI (d_extract (v := u94) rfl rfl) ?_
  refine wI (d_extract (v := (eN (t.askR (t.readOk (dd : Int) bk (pp : Int))))) rfl rfl) ?_
  refine wI (d_assign rfl) ?_
  refine wF ([(zf91 0), (zf91 1), (ptr M.bN 0), (zf91 3), (zf91 4), (zf91 5), (zf91 6), (eN dd), (eI bk), (eN pp), u88, (eN (s.askR (s.readOk (dd : Int) bk (pp : Int)))), u94] ++ (zs zf91 13 137 ++ [(Value.tuple #[u94, (eN (t.askR (t.readOk (dd : Int) bk (pp : Int))))]), (ptr M.bN 0), (eN dd), (eI bk), (eN pp), (Value.tuple #[u94, (eN (t.askR (t.readOk (dd : Int) bk (pp : Int))))]), u94, (eN (t.askR (t.readOk (dd : Int) bk (pp : Int))))] ++ (zs zf91 158 47))) ?_
  refine wI (d_assign rfl) ?_
  refine wF ([(zf91 0), (zf91 1), (ptr M.bN 0), (zf91 3), (zf91 4), (zf91 5), (zf91 6), (eN dd), (eI bk), (eN pp), u88, (eN (s.askR (s.readOk (dd : Int) bk (pp : Int)))), u94, (eN (t.askR (t.readOk (dd : Int) bk (pp : Int))))] ++ (zs zf91 14 136 ++ [(Value.tuple #[u94, (eN (t.askR (t.readOk (dd : Int) bk (pp : Int))))]), (ptr M.bN 0), (eN dd), (eI bk), (eN pp), (Value.tuple #[u94, (eN (t.askR (t.readOk (dd : Int) bk (pp : Int))))]), u94, (eN (t.askR (t.readOk (dd : Int) bk (pp : Int))))] ++ (zs zf91 158 47))) ?_
  refine wD (tN ?_)
  refine forget (fun zf97 => (zs zf97 0 10 ++ [u88, (eN (s.askR (s.readOk (dd : Int) bk (pp : Int)))), u94, (eN (t.askR (t.readOk (dd : Int) bk (pp : Int))))] ++ (zs zf97 14 191))) kr (fun zf97 => ?_)
  refine wQ (pL ?_)
  refine wI (d_move rfl) ?_
  refine wI (d_str Try.underlying36 Try.underlying5 Try.underlying9 rfl f89) ?_
  refine wI (d_move rfl) ?_
  refine wI (d_str Try.underlying36 Try.underlying5 Try.underlying9 rfl f95) ?_
  refine wI (d_seql (a := (s.readL (dd : Int) bk (pp : Int))) (c := (t.readL (dd : Int) bk (pp : Int))) rfl rfl (decide_eq_true ((hS.readL _ _ _).symm))) ?_
  refine wI (d_move rfl) ?_
  refine wG (d_move rfl) ?_
  refine wF (zs zf97 0 10 ++ [u88, (eN (s.askR (s.readOk (dd : Int) bk (pp : Int)))), u94, (eN (t.askR (t.readOk (dd : Int) bk (pp : Int))))] ++ (zs zf97 14 144 ++ [u88, (Value.string (strOf (s.readL (dd : Int) bk (pp : Int)))), u94, (Value.string (strOf (t.readL (dd : Int) bk (pp : Int)))), vT, vT, (eN (s.askR (s.readOk (dd : Int) bk (pp : Int))))] ++ (zs zf97 165 40))) ?_
  refine wG (d_move rfl) ?_
  refine wG (n_eql (a := (s.askR (s.readOk (dd : Int) bk (pp : Int)))) (b := (t.askR (t.readOk (dd : Int) bk (pp : Int)))) rfl rfl (decide_eq_true ((hS.readR _ _ _).symm))) ?_
  refine wI (d_pick (b := true) (v := vT) rfl rfl) ?_
  refine wI (d_assign rfl) ?_
  refine wD (tN ?_)
  refine forget (fun zf98 => (zs zf98 0 6 ++ [vT] ++ (zs zf98 7 198))) kr (fun zf98 => ?_)
  refine wpIn_ret ?_
  refine inb_r (then_r ?_)
  refine leave0 (v := vT) (res1 Try.results32 rfl) ?_
  exact ⟨_, _, rfl, (hN.less (xx_skip (xx_ors xx_id))), (hM.less (xx_skip (xx_ors xx_id))), (hS.read _ _ _), (rg_ask hR _), oW⟩
 refine wQ (pL ?_)
 refine wI (n_eql (a := kn) (b := 10) rfl rfl rfl) ?_
 refine wI (d_assign rfl) ?_
 refine wD (tN ?_)
 refine forget (fun zf99 => ([(zf99 0), (ptr L.bN 0), (ptr M.bN 0), (ptr ab 0), (zf99 4), (zf99 5), (zf99 6), (eN dd), (eI bk), (eN pp)] ++ (zs zf99 10 41 ++ [(eN kn)] ++ (zs zf99 52 116 ++ [(Value.bool (decide (kn = 10))), (zf99 169)] ++ (us 17 ++ [(zf99 187), (zf99 188)] ++ (us 7 ++ [(zf99 196)] ++ (us 7 ++ [(zf99 204)]))))))) kr (fun zf99 => ?_)
 refine cond_if rfl (fun c100 => ?_) (fun c100 => ?_)
 ·
  refine wQ ?_
  refine drawnG (O := (Or1 ab (Ors L.S (Ors M.S No)))) (n := 18) 0 [0, 0, 0, 0, 0, 0, 32, 112, 255, 0, 0, 0, 0, 0, 8192, 32767, 65535, 131071] [(0, 170), (1, 171), (2, 172), (3, 173), (4, 174), (5, 175), (6, 176), (7, 177), (8, 178), (9, 179), (10, 180), (11, 181), (12, 182), (13, 183), (14, 184), (15, 185), (16, 186), (17, 6)] [] [] [] (fun i_ => ([] : List (RF (Or1 ab (Ors L.S (Ors M.S No))))).getD i_ (RF.any (Or1 ab (Ors L.S (Ors M.S No))))) (fun _ w_ => Arr 59 ab [(eI kd), (eI di), (eI bi), (eI pi), (eI an), ub, ul] w_ ∧ Nd L s (Or1 ab (Ors M.S X)) w_ ∧ Rd M t (Or1 ab (Ors L.S X)) w_) (fun v101 => ([(zf99 0), (ptr L.bN 0), (ptr M.bN 0), (ptr ab 0), (zf99 4), (zf99 5), (v101 17), (eN dd), (eI bk), (eN pp)] ++ (zs zf99 10 41 ++ [(eN kn)] ++ (zs zf99 52 116 ++ [(Value.bool (decide (kn = 10))), (zf99 169), (v101 0), (v101 1), (v101 2), (v101 3), (v101 4), (v101 5), (v101 6), (v101 7), (v101 8), (v101 9), (v101 10), (v101 11), (v101 12), (v101 13), (v101 14), (v101 15), (v101 16), (zf99 187), (zf99 188)] ++ (us 7 ++ [(zf99 196)] ++ (us 7 ++ [(zf99 204)])))))) (fun v101 => ([(zf99 0), (ptr L.bN 0), (ptr M.bN 0), (ptr ab 0), (zf99 4), (zf99 5), (zf99 6), (eN dd), (eI bk), (eN pp)] ++ (zs zf99 10 41 ++ [(eN kn)] ++ (zs zf99 52 116 ++ [(Value.bool (decide (kn = 10))), (zf99 169)] ++ (us 17 ++ [(zf99 187), (zf99 188)] ++ (us 7 ++ [(zf99 196)] ++ (us 7 ++ [(zf99 204)]))))))) s_mx kr rfl (by decide) (by rfl) kr kr kr (by rfl) (fun v_ => by kernel_rfl) (fun v_ => by kernel_rfl) (fun _ => fun w_ w2_ h ho => by obtain ⟨r_a13, r_hN, r_hM⟩ := h; exact ⟨r_a13.step0 ho, r_hN.step0 ho, r_hM.step0 ho⟩) ⟨a13, hN, hM⟩ ?_ ?_ ?_
  ·
   exact ls_nil
  ·
   exact ms_nil
  intro v101 lo_ hi_ w102 o103 hd hR
  clear hd lo_ hi_
  replace hb := hb.step o103 (or1_mono (ors_mono (ors_mono no_any)))
  replace hl := hl.step o103 (or1_mono (ors_mono (ors_mono no_any)))
  obtain ⟨xr_a13, xr_hN, xr_hM⟩ := hR
  replace a13 : Arr 59 ab [(eI kd), (eI di), (eI bi), (eI pi), (eI an), ub, ul] w102 := xr_a13
  replace hN := xr_hN
  replace hM := xr_hM
  clear xr_a13 xr_hN xr_hM
  replace oW := oW.tail o103 (tl_new g_oW_ab (tl_sin sub1 (tl_sin (subs sub1) tl_no)))
  refine rest_seg (n := 18) (p := 0) (q := 18) [0, 1, 2, 3, 5, 6, 9, 10, 11, 12, 13, 14] [4, 7, 8, 15, 16, 17] [(0, 170), (1, 171), (2, 172), (3, 173), (5, 175), (6, 176), (9, 179), (10, 180), (11, 181), (12, 182), (13, 183), (14, 184)] [(0, 170), (1, 171), (2, 172), (3, 173), (4, 174), (5, 175), (6, 176), (7, 177), (8, 178), (9, 179), (10, 180), (11, 181), (12, 182), (13, 183), (14, 184), (15, 185), (16, 186), (17, 6)] [0, 0, 0, 0, 0, 0, 32, 112, 255, 0, 0, 0, 0, 0, 8192, 32767, 65535, 131071] (fun i_ => nth [(ptr L.bN 0), (eN dd), (eI bk), (eN pp), undef, (ptr ab 6), ul, undef, undef, (ptr M.bN 0), (eN dd), (eI bk), (eN pp), (ptr ab 6), ul] i_) ([(zf99 0), (ptr L.bN 0), (ptr M.bN 0), (ptr ab 0), (zf99 4), (zf99 5), (zf99 6), (eN dd), (eI bk), (eN pp)] ++ (zs zf99 10 41 ++ [(eN kn)] ++ (zs zf99 52 116 ++ [(Value.bool (decide (kn = 10))), (zf99 169), (ptr L.bN 0), (eN dd), (eI bk), (eN pp), undef, (ptr ab 6), ul, undef, undef, (ptr M.bN 0), (eN dd), (eI bk), (eN pp), (ptr ab 6), ul, undef, undef, (zf99 187), (zf99 188)] ++ (us 7 ++ [(zf99 196)] ++ (us 7 ++ [(zf99 204)]))))) (fun w_ => Ps (Or1 ab (Ors L.S (Ors M.S No))) (Seq kB lb ub) w_ ∧ Ps (Or1 ab (Ors L.S (Ors M.S No))) (Seq kI ll ul) w_ ∧ Arr 59 ab [(eI kd), (eI di), (eI bi), (eI pi), (eI an), ub, ul] w_ ∧ True) kr rfl (by decide) kr kr (by rfl) kr kr kr kr kr (by decide) ?_ ?_
  ·
   rintro w_ ⟨hb, hl, a13, _⟩
   refine fl_cons ⟨_, rfl, gd rfl (d_move rfl)⟩ ?_
   refine fl_cons ⟨_, rfl, gd rfl (d_move rfl)⟩ ?_
   refine fl_cons ⟨_, rfl, gd rfl (d_move rfl)⟩ ?_
   refine fl_cons ⟨_, rfl, gd rfl (d_move rfl)⟩ ?_
   refine fl_cons ⟨_, rfl, gd rfl (d_fieldAddr (j := 6) Try.underlying59 rfl s_ti37 (by decide) rfl rfl)⟩ ?_
   refine fl_cons ⟨_, rfl, gd rfl (d_load (v := ul) ⟨_, Try.underlying37, rfl⟩ rfl a13 rfl)⟩ ?_
   refine fl_cons ⟨_, rfl, gd rfl (d_move rfl)⟩ ?_
   refine fl_cons ⟨_, rfl, gd rfl (d_move rfl)⟩ ?_
   refine fl_cons ⟨_, rfl, gd rfl (d_move rfl)⟩ ?_
   refine fl_cons ⟨_, rfl, gd rfl (d_move rfl)⟩ ?_
   refine fl_cons ⟨_, rfl, gd rfl (d_fieldAddr (j := 6) Try.underlying59 rfl s_ti37 (by decide) rfl rfl)⟩ ?_
   refine fl_cons ⟨_, rfl, gd rfl (d_load (v := ul) ⟨_, Try.underlying37, rfl⟩ rfl a13 rfl)⟩ ?_
   exact fl_nil
  refine wJ.op ⟨hb, hl, a13, trivial⟩ rfl rfl (d_buildL (cs := []) Try.underlying37 s_ti3 rfl (nb rfl) parts_nil rfl) ?_
  rintro _ w105 ⟨b104, rfl, g106, a107, o108⟩
  replace a107 : Arr 3 b104 (([] : List Int).map eI) w105 := a107
  have l_b104 : ([] : List Int).length = 0 := rfl
  have n_ab_b104 : ab ≠ b104 := a13.ne g106
  have g_oW_b104 : W.heap.size ≤ b104 := Nat.le_trans oW.size g106
  replace hN := hN.new o108 g106
  replace hM := hM.new o108 g106
  replace hb := hb.new o108 g106
  replace hl := hl.new o108 g106
  replace a13 := a13.step0 o108
  replace oW := oW.tail0 o108
  have a110 := Ow.of_map2 a107 l_b104
  have nq_row109_ab := nq_b (Ne.symm n_ab_b104)
  have q_oW_row109 : Fr (some b104) none W.heap.size := Fr.new g_oW_b104
  replace hN := hN.less (Y := (Orq (some b104) (Or1 ab (Ors M.S X)))) (xx_br (xx_or1 (xx_ors xx_id)))
  replace hM := hM.less (Y := (Orq (some b104) (Or1 ab (Ors L.S X)))) (xx_br (xx_or1 (xx_ors xx_id)))
  replace hb := hb.less (Y := (Orq (some b104) (Or1 ab (Ors L.S (Ors M.S No))))) (xx_br (xx_or1 (xx_ors (xx_ors xx_id))))
  replace hl := hl.less (Y := (Orq (some b104) (Or1 ab (Ors L.S (Ors M.S No))))) (xx_br (xx_or1 (xx_ors (xx_ors xx_id))))
  refine wJ.op ⟨hb.less (xx_skip (xx_or1 (xx_ors (xx_ors xx_id)))), hl.less (xx_skip (xx_or1 (xx_ors (xx_ors xx_id)))), a13, trivial⟩ rfl rfl (d_append Try.underlying37 Try.underlying37 s_ti3 rfl rfl rfl a110 (SrcV.of_seq hl (fun _ => rfl)) (by first | omega | (simp; omega)) (by first | omega | (simp; omega)) rfl) ?_
  rintro u111 w112 ⟨bo113, a114, o115, q116⟩
  replace a114 : Ow 3 1 bo113 u111 (ll).length ((ll).map eI) w112 := by simpa using a114
  replace hN := hN.gr o115 (fun k e => (.inl e)) (xx_re (Fr.of_or q116) (xx_or1 (xx_ors xx_id)))
  replace hM := hM.gr o115 (fun k e => (.inl e)) (xx_re (Fr.of_or q116) (xx_or1 (xx_ors xx_id)))
  replace hb := hb.gr o115 (fun k e => (.inl e)) (xx_re (Fr.of_or q116) (xx_or1 (xx_ors (xx_ors xx_id))))
  replace hl := hl.gr o115 (fun k e => (.inl e)) (xx_re (Fr.of_or q116) (xx_or1 (xx_ors (xx_ors xx_id))))
  have nq2 := nqs nq_row109_ab (Fr.of_or q116) a13.lt
  replace a13 := a13.step o115 (fun e => nq_row109_ab _ e rfl)
  replace nq_row109_ab := nq2
  clear nq2
  have tq := oW.size
  replace oW := oW.tailr o115 q_oW_row109 (fun _ e => by cases e)
  replace q_oW_row109 := qtr (Fr.of_or q116) q_oW_row109 tq
  clear tq
  refine wJ.op ⟨hb.less (xx_skip (xx_or1 (xx_ors (xx_ors xx_id)))), hl.less (xx_skip (xx_or1 (xx_ors (xx_ors xx_id)))), a13, trivial⟩ rfl rfl (d_call (xl := [.tmp 170, .tmp 171, .tmp 172, .tmp 173, .tmp 177]) (al := [(ptr L.bN 0), (eN dd), (eI bk), (eN pp), u111]) Try.func17 kr rfl rfl rfl (noise_ok L s _ hN (dd : Int) bk (pp : Int) ll u111 (lt_orq a114.lts (lt_or1 a13.lt (lt_ors hM.lt (fun k t => Nat.lt_of_lt_of_le (hX k t) oW.size)))) (Ow.seq a114 (fun b hb => not_ors (hN.dis b ((fun k e => (.inl e)) b hb)) not_no)) fo)) ?_
  rintro _ w117 ⟨rfl, a119, o118⟩
  replace a13 := a13.step o118 (hN.dis _ (inq in1))
  replace a114 := a114.step o118 (fun x hx => hN.dis x ((fun k e => (.inl e)) x hx))
  replace hM := hM.step o118 (subq (sub2 sub1))
  replace hb := hb.step o118 (subq (sub2 sub1))
  replace hl := hl.step o118 (subq (sub2 sub1))
  replace oW := oW.tail o118 (fun k _ e => sub1 k e)
  replace hN := a119
  refine wJ.op ⟨hb.less (xx_skip (xx_or1 (xx_ors (xx_ors xx_id)))), hl.less (xx_skip (xx_or1 (xx_ors (xx_ors xx_id)))), a13, trivial⟩ rfl rfl (d_call (xl := [.tmp 179, .tmp 180, .tmp 181, .tmp 182, .tmp 184]) (al := [(ptr M.bN 0), (eN dd), (eI bk), (eN pp), ul]) Try.func57 kr rfl rfl rfl (refNoise_ok M t _ hM (dd : Int) bk (pp : Int) ll ul (lt_orq a114.lts (lt_or1 a13.lt (lt_ors hN.lt (fun k t => Nat.lt_of_lt_of_le (hX k t) oW.size)))) (hl.less (os_of (subq (sub2 (subs sub1))))) fo)) ?_
  rintro _ w120 ⟨rfl, a122, o121⟩
  replace a13 := a13.step o121 (hM.dis _ (inq in1))
  replace a114 := a114.step o121 (fun x hx => hM.dis x ((fun k e => (.inl e)) x hx))
  replace hN := hN.step o121 (subq (sub2 sub1))
  replace hb := hb.step o121 (subq (sub2 (subs sub1)))
  replace hl := hl.step o121 (subq (sub2 (subs sub1)))
  replace oW := oW.tail o121 (fun k _ e => (subs sub1) k e)
  replace hM := a122
  refine wJ.is ⟨hb.less (xx_skip (xx_or1 (xx_ors (xx_ors xx_id)))), hl.less (xx_skip (xx_or1 (xx_ors (xx_ors xx_id)))), a13, trivial⟩ rfl rfl (n_eql (a := (s.noiseR (dd : Int) bk (pp : Int))) (b := (t.noiseR (dd : Int) bk (pp : Int))) rfl rfl (decide_eq_true ((hS.noise _ _ _ ll).2.symm))) ?_
  refine wJ.is ⟨hb.less (xx_skip (xx_or1 (xx_ors (xx_ors xx_id)))), hl.less (xx_skip (xx_or1 (xx_ors (xx_ors xx_id)))), a13, trivial⟩ rfl rfl (d_assign rfl) ?_
  refine wJ.flat ([(zf99 0), (ptr L.bN 0), (ptr M.bN 0), (ptr ab 0), (zf99 4), (zf99 5), vT, (eN dd), (eI bk), (eN pp)] ++ (zs zf99 10 41 ++ [(eN kn)] ++ (zs zf99 52 116 ++ [(Value.bool (decide (kn = 10))), (zf99 169), (ptr L.bN 0), (eN dd), (eI bk), (eN pp), (sli b104 0 0 0), (ptr ab 6), ul, u111, (eN (s.noiseR (dd : Int) bk (pp : Int))), (ptr M.bN 0), (eN dd), (eI bk), (eN pp), (ptr ab 6), ul, (eN (t.noiseR (dd : Int) bk (pp : Int))), vT, (zf99 187), (zf99 188)] ++ (us 7 ++ [(zf99 196)] ++ (us 7 ++ [(zf99 204)]))))) kr ?_
  refine wJ.done ⟨hb.less (xx_skip (xx_or1 (xx_ors (xx_ors xx_id)))), hl.less (xx_skip (xx_or1 (xx_ors (xx_ors xx_id)))), a13, trivial⟩ ?_
  refine rest_done rfl ?_
  refine tN ?_
  refine forget (fun zf123 => (zs zf123 0 6 ++ [vT] ++ (zs zf123 7 198))) kr (fun zf123 => ?_)
  refine wpIn_ret ?_
  refine inb_r (then_r ?_)
  refine leave0 (v := vT) (res1 Try.results32 rfl) ?_
  exact ⟨_, _, rfl, (hN.less (xx_skip (xx_skip (xx_ors xx_id)))), (hM.less (xx_skip (xx_skip (xx_ors xx_id)))), (hS.noise _ _ _ _).1, (rg_noise hR _ _ _ rl), oW⟩
 refine wQ (pL ?_)
 refine wI (n_eql (a := kn) (b := 11) rfl rfl rfl) ?_
 refine wI (d_assign rfl) ?_
 refine wD (tN ?_)
 refine cond_if rfl (fun c124 => ?_) (fun c124 => ?_)
 ·
  refine wQ ?_
  by_cases z0 : (an % ((9 : Nat) : Int)).toNat = 0
  ·
   refine wp_eq (l' := ([(zf99 0), (ptr L.bN 0), (ptr M.bN 0), (ptr ab 0), (zf99 4), (zf99 5), (zf99 6), (eN dd), (eI bk), (eN pp)] ++ (zs zf99 10 41 ++ [(eN kn)] ++ (zs zf99 52 116 ++ [(Value.bool (decide (kn = 10))), (zf99 169)] ++ (us 17 ++ [(Value.bool (decide (kn = 11))), (Value.bool (decide (kn = 11)))] ++ (us 7 ++ [(zf99 196)] ++ (us 7 ++ [(zf99 204)]))))))) rfl ?_
   refine drawnG (O := (Or1 ab (Ors L.S (Ors M.S No)))) (n := 8) 0 [0, 0, 2, 6, 14, 0, 32, 127] [(0, 189), (1, 190), (2, 191), (3, 192), (4, 193), (5, 194), (6, 195), (7, 196)] [] [] [] (fun i_ => ([] : List (RF (Or1 ab (Ors L.S (Ors M.S No))))).getD i_ (RF.any (Or1 ab (Ors L.S (Ors M.S No))))) (fun _ w_ => Arr 59 ab [(eI kd), (eI di), (eI bi), (eI pi), (eI an), ub, ul] w_ ∧ Nd L s (Or1 ab (Ors M.S X)) w_ ∧ Rd M t (Or1 ab (Ors L.S X)) w_) (fun v125 => ([(zf99 0), (ptr L.bN 0), (ptr M.bN 0), (ptr ab 0), (zf99 4), (zf99 5), (zf99 6), (eN dd), (eI bk), (eN pp)] ++ (zs zf99 10 41 ++ [(eN kn)] ++ (zs zf99 52 116 ++ [(Value.bool (decide (kn = 10))), (zf99 169)] ++ (us 17 ++ [(Value.bool (decide (kn = 11))), (Value.bool (decide (kn = 11))), (v125 0), (v125 1), (v125 2), (v125 3), (v125 4), (v125 5), (v125 6), (v125 7)] ++ (us 7 ++ [(zf99 204)])))))) (fun v125 => ([(zf99 0), (ptr L.bN 0), (ptr M.bN 0), (ptr ab 0), (zf99 4), (zf99 5), (zf99 6), (eN dd), (eI bk), (eN pp)] ++ (zs zf99 10 41 ++ [(eN kn)] ++ (zs zf99 52 116 ++ [(Value.bool (decide (kn = 10))), (zf99 169)] ++ (us 17 ++ [(Value.bool (decide (kn = 11))), (Value.bool (decide (kn = 11)))] ++ (us 7 ++ [(zf99 196)] ++ (us 7 ++ [(zf99 204)]))))))) s_mx kr rfl (by decide) (by rfl) kr kr kr (by rfl) (fun v_ => by kernel_rfl) (fun v_ => by kernel_rfl) (fun _ => fun w_ w2_ h ho => by obtain ⟨r_a13, r_hN, r_hM⟩ := h; exact ⟨r_a13.step0 ho, r_hN.step0 ho, r_hM.step0 ho⟩) ⟨a13, hN, hM⟩ ?_ ?_ ?_
   ·
    exact ls_nil
   ·
    exact ms_nil
   intro v125 lo_ hi_ w126 o127 hd hR
   clear hd lo_ hi_
   replace hb := hb.step o127 (or1_mono (ors_mono (ors_mono no_any)))
   replace hl := hl.step o127 (or1_mono (ors_mono (ors_mono no_any)))
   obtain ⟨xr_a13, xr_hN, xr_hM⟩ := hR
   replace a13 : Arr 59 ab [(eI kd), (eI di), (eI bi), (eI pi), (eI an), ub, ul] w126 := xr_a13
   replace hN := xr_hN
   replace hM := xr_hM
   clear xr_a13 xr_hN xr_hM
   replace oW := oW.tail o127 (tl_new g_oW_ab (tl_sin sub1 (tl_sin (subs sub1) tl_no)))
   refine rest_seg (n := 8) (p := 0) (q := 8) [0, 1, 2, 5, 6] [3, 4, 7] [(0, 189), (1, 190), (2, 191), (5, 194), (6, 195)] [(0, 189), (1, 190), (2, 191), (3, 192), (4, 193), (5, 194), (6, 195), (7, 196)] [0, 0, 2, 6, 14, 0, 32, 127] (fun i_ => nth [(ptr L.bN 0), (ptr ab 4), (eI an), undef, undef, (ptr ab 5), ub] i_) ([(zf99 0), (ptr L.bN 0), (ptr M.bN 0), (ptr ab 0), (zf99 4), (zf99 5), (zf99 6), (eN dd), (eI bk), (eN pp)] ++ (zs zf99 10 41 ++ [(eN kn)] ++ (zs zf99 52 116 ++ [(Value.bool (decide (kn = 10))), (zf99 169)] ++ (us 17 ++ [(Value.bool (decide (kn = 11))), (Value.bool (decide (kn = 11))), (ptr L.bN 0), (ptr ab 4), (eI an), undef, undef, (ptr ab 5), ub, (zf99 196)] ++ (us 7 ++ [(zf99 204)]))))) (fun w_ => Ps (Or1 ab (Ors L.S (Ors M.S No))) (Seq kB lb ub) w_ ∧ Ps (Or1 ab (Ors L.S (Ors M.S No))) (Seq kI ll ul) w_ ∧ Arr 59 ab [(eI kd), (eI di), (eI bi), (eI pi), (eI an), ub, ul] w_ ∧ True) kr rfl (by decide) kr kr (by rfl) kr kr kr kr kr (by decide) ?_ ?_
   ·
    rintro w_ ⟨hb, hl, a13, _⟩
    refine fl_cons ⟨_, rfl, gd rfl (d_move rfl)⟩ ?_
    refine fl_cons ⟨_, rfl, gd rfl (d_fieldAddr (j := 4) Try.underlying59 rfl s_ti3 (by decide) rfl rfl)⟩ ?_
    refine fl_cons ⟨_, rfl, gd rfl (d_load (v := (eI an)) ⟨_, Try.underlying3, rfl⟩ rfl a13 rfl)⟩ ?_
    refine fl_cons ⟨_, rfl, gd rfl (d_fieldAddr (j := 5) Try.underlying59 rfl s_ti36 (by decide) rfl rfl)⟩ ?_
    refine fl_cons ⟨_, rfl, gd rfl (d_load (v := ub) ⟨_, Try.underlying36, rfl⟩ rfl a13 rfl)⟩ ?_
    exact fl_nil
   refine wJ.op ⟨hb, hl, a13, trivial⟩ rfl rfl (d_call (xl := [.tmp 191, .const (.int .i64 9)]) (al := [(eI an), (eN 9)]) Try.func12 kr rfl rfl rfl (law7Within_ok an 9 _ oo oo)) ?_
   rintro _ w128 ⟨rfl, o129⟩
   replace hN := hN.step0 o129
   replace hM := hM.step0 o129
   replace hb := hb.step0 o129
   replace hl := hl.step0 o129
   replace a13 := a13.step0 o129
   replace oW := oW.tail0 o129
   refine wJ.is ⟨hb, hl, a13, trivial⟩ rfl rfl (d_sub (k := .i64) (m := (((an % ((9 : Nat) : Int)).toNat : Nat) : Int)) (n := 1) rfl rfl (r := (-1)) (by rw [z0]; rfl)) ?_
   refine wJ.op ⟨hb, hl, a13, trivial⟩ rfl rfl (d_call (xl := [.tmp 189, .tmp 193, .tmp 195]) (al := [(ptr L.bN 0), (eI (-1)), ub]) Try.func24 kr rfl rfl rfl (stopM_ok L s _ hN lb ub (lt_or1 a13.lt (lt_ors hM.lt (fun k t => Nat.lt_of_lt_of_le (hX k t) oW.size))) (hb.less (os_of (sub2 sub1))) fo)) ?_
   rintro u133 w130 ⟨a132, o131⟩
   replace a13 := a13.step o131 (hN.dis _ in1)
   replace hM := hM.step o131 (sub2 sub1)
   replace hb := hb.step o131 (sub2 sub1)
   replace hl := hl.step o131 (sub2 sub1)
   replace oW := oW.tail o131 (fun k _ e => sub1 k e)
   replace hN := a132
   refine wJ.flat ([(zf99 0), (ptr L.bN 0), (ptr M.bN 0), (ptr ab 0), (zf99 4), (zf99 5), (zf99 6), (eN dd), (eI bk), (eN pp)] ++ (zs zf99 10 41 ++ [(eN kn)] ++ (zs zf99 52 116 ++ [(Value.bool (decide (kn = 10))), (zf99 169)] ++ (us 17 ++ [(Value.bool (decide (kn = 11))), (Value.bool (decide (kn = 11))), (ptr L.bN 0), (ptr ab 4), (eI an), (eN ((an % ((9 : Nat) : Int)).toNat)), (eI (-1)), (ptr ab 5), ub, u133] ++ (us 7 ++ [(zf99 204)]))))) kr ?_
   refine wJ.done ⟨hb, hl, a13, trivial⟩ ?_
   refine rest_done rfl ?_
   refine tN ?_
   refine forget (fun zf134 => ([(zf134 0), (zf134 1), (ptr M.bN 0), (ptr ab 0)] ++ (zs zf134 4 193 ++ (us 7 ++ [(zf134 204)])))) kr (fun zf134 => ?_)
   refine drawnG (O := (Or1 ab (Ors L.S (Ors M.S No)))) (n := 8) 0 [0, 0, 2, 6, 14, 0, 32, 127] [(0, 197), (1, 198), (2, 199), (3, 200), (4, 201), (5, 202), (6, 203), (7, 204)] [] [] [] (fun i_ => ([] : List (RF (Or1 ab (Ors L.S (Ors M.S No))))).getD i_ (RF.any (Or1 ab (Ors L.S (Ors M.S No))))) (fun _ w_ => Arr 59 ab [(eI kd), (eI di), (eI bi), (eI pi), (eI an), ub, ul] w_ ∧ Nd L (s.stopAt 0 lb) (Or1 ab (Ors M.S X)) w_ ∧ Rd M t (Or1 ab (Ors L.S X)) w_) (fun v135 => ([(zf134 0), (zf134 1), (ptr M.bN 0), (ptr ab 0)] ++ (zs zf134 4 193 ++ [(v135 0), (v135 1), (v135 2), (v135 3), (v135 4), (v135 5), (v135 6), (v135 7)]))) (fun v135 => ([(zf134 0), (zf134 1), (ptr M.bN 0), (ptr ab 0)] ++ (zs zf134 4 193 ++ (us 7 ++ [(zf134 204)])))) s_mx kr rfl (by decide) (by rfl) kr kr kr (by rfl) (fun v_ => by kernel_rfl) (fun v_ => by kernel_rfl) (fun _ => fun w_ w2_ h ho => by obtain ⟨r_a13, r_hN, r_hM⟩ := h; exact ⟨r_a13.step0 ho, r_hN.step0 ho, r_hM.step0 ho⟩) ⟨a13, hN, hM⟩ ?_ ?_ ?_
   ·
    exact ls_nil
   ·
    exact ms_nil
   intro v135 lo_ hi_ w136 o137 hd hR
   clear hd lo_ hi_
   replace hb := hb.step o137 (or1_mono (ors_mono (ors_mono no_any)))
   replace hl := hl.step o137 (or1_mono (ors_mono (ors_mono no_any)))
   obtain ⟨xr_a13, xr_hN, xr_hM⟩ := hR
   replace a13 : Arr 59 ab [(eI kd), (eI di), (eI bi), (eI pi), (eI an), ub, ul] w136 := xr_a13
   replace hN := xr_hN
   replace hM := xr_hM
   clear xr_a13 xr_hN xr_hM
   replace oW := oW.tail o137 (tl_new g_oW_ab (tl_sin sub1 (tl_sin (subs sub1) tl_no)))
   refine rest_seg (n := 8) (p := 0) (q := 8) [0, 1, 2, 5, 6] [3, 4, 7] [(0, 197), (1, 198), (2, 199), (5, 202), (6, 203)] [(0, 197), (1, 198), (2, 199), (3, 200), (4, 201), (5, 202), (6, 203), (7, 204)] [0, 0, 2, 6, 14, 0, 32, 127] (fun i_ => nth [(ptr M.bN 0), (ptr ab 4), (eI an), undef, undef, (ptr ab 5), ub] i_) ([(zf134 0), (zf134 1), (ptr M.bN 0), (ptr ab 0)] ++ (zs zf134 4 193 ++ [(ptr M.bN 0), (ptr ab 4), (eI an), undef, undef, (ptr ab 5), ub, (zf134 204)])) (fun w_ => Ps (Or1 ab (Ors L.S (Ors M.S No))) (Seq kB lb ub) w_ ∧ Ps (Or1 ab (Ors L.S (Ors M.S No))) (Seq kI ll ul) w_ ∧ Arr 59 ab [(eI kd), (eI di), (eI bi), (eI pi), (eI an), ub, ul] w_ ∧ True) kr rfl (by decide) kr kr (by rfl) kr kr kr kr kr (by decide) ?_ ?_
   ·
    rintro w_ ⟨hb, hl, a13, _⟩
    refine fl_cons ⟨_, rfl, gd rfl (d_move rfl)⟩ ?_
    refine fl_cons ⟨_, rfl, gd rfl (d_fieldAddr (j := 4) Try.underlying59 rfl s_ti3 (by decide) rfl rfl)⟩ ?_
    refine fl_cons ⟨_, rfl, gd rfl (d_load (v := (eI an)) ⟨_, Try.underlying3, rfl⟩ rfl a13 rfl)⟩ ?_
    refine fl_cons ⟨_, rfl, gd rfl (d_fieldAddr (j := 5) Try.underlying59 rfl s_ti36 (by decide) rfl rfl)⟩ ?_
    refine fl_cons ⟨_, rfl, gd rfl (d_load (v := ub) ⟨_, Try.underlying36, rfl⟩ rfl a13 rfl)⟩ ?_
    exact fl_nil
   refine wJ.op ⟨hb, hl, a13, trivial⟩ rfl rfl (d_call (xl := [.tmp 199, .const (.int .i64 9)]) (al := [(eI an), (eN 9)]) Try.func12 kr rfl rfl rfl (law7Within_ok an 9 _ oo oo)) ?_
   rintro _ w138 ⟨rfl, o139⟩
   replace hN := hN.step0 o139
   replace hM := hM.step0 o139
   replace hb := hb.step0 o139
   replace hl := hl.step0 o139
   replace a13 := a13.step0 o139
   replace oW := oW.tail0 o139
   refine wJ.is ⟨hb, hl, a13, trivial⟩ rfl rfl (d_sub (k := .i64) (m := (((an % ((9 : Nat) : Int)).toNat : Nat) : Int)) (n := 1) rfl rfl (r := (-1)) (by rw [z0]; rfl)) ?_
   refine wJ.op ⟨hb, hl, a13, trivial⟩ rfl rfl (d_call (xl := [.tmp 197, .tmp 201, .tmp 203]) (al := [(ptr M.bN 0), (eI (-1)), ub]) Try.func58 kr rfl rfl rfl (refStopM_ok M t _ hM lb ub (lt_or1 a13.lt (lt_ors hN.lt (fun k t => Nat.lt_of_lt_of_le (hX k t) oW.size))) (hb.less (os_of (sub2 (subs sub1)))) fo)) ?_
   rintro u143 w140 ⟨a142, o141⟩
   replace a13 := a13.step o141 (hM.dis _ in1)
   replace hN := hN.step o141 (sub2 sub1)
   replace hb := hb.step o141 (sub2 (subs sub1))
   replace hl := hl.step o141 (sub2 (subs sub1))
   replace oW := oW.tail o141 (fun k _ e => (subs sub1) k e)
   replace hM := a142
   refine wJ.flat ([(zf134 0), (zf134 1), (ptr M.bN 0), (ptr ab 0)] ++ (zs zf134 4 193 ++ [(ptr M.bN 0), (ptr ab 4), (eI an), (eN ((an % ((9 : Nat) : Int)).toNat)), (eI (-1)), (ptr ab 5), ub, u143])) kr ?_
   refine wJ.done ⟨hb, hl, a13, trivial⟩ ?_
   refine rest_done rfl ?_
   refine inb_n (tN ?_)
   refine forget (fun zf144 => (zs zf144 0 205)) kr (fun zf144 => ?_)
   refine wQ (pL ?_)
   refine wI (d_assign rfl) ?_
   refine wD (tN ?_)
   refine wpIn_ret ?_
   refine leave0 (v := vT) (res1 Try.results32 rfl) ?_
   exact ⟨_, _, rfl, (hN.less (xx_skip (xx_ors xx_id))), (hM.less (xx_skip (xx_ors xx_id))), (hS.stopAt _ _), (rg_stop hR _ _), oW⟩
  refine wp_eq (l' := ([(zf99 0), (ptr L.bN 0), (ptr M.bN 0), (ptr ab 0), (zf99 4), (zf99 5), (zf99 6), (eN dd), (eI bk), (eN pp)] ++ (zs zf99 10 41 ++ [(eN kn)] ++ (zs zf99 52 116 ++ [(Value.bool (decide (kn = 10))), (zf99 169)] ++ (us 17 ++ [(Value.bool (decide (kn = 11))), (Value.bool (decide (kn = 11)))] ++ (us 7 ++ [(zf99 196)] ++ (us 7 ++ [(zf99 204)]))))))) rfl ?_
  refine drawnG (O := (Or1 ab (Ors L.S (Ors M.S No)))) (n := 8) 0 [0, 0, 2, 6, 14, 0, 32, 127] [(0, 189), (1, 190), (2, 191), (3, 192), (4, 193), (5, 194), (6, 195), (7, 196)] [] [] [] (fun i_ => ([] : List (RF (Or1 ab (Ors L.S (Ors M.S No))))).getD i_ (RF.any (Or1 ab (Ors L.S (Ors M.S No))))) (fun _ w_ => Arr 59 ab [(eI kd), (eI di), (eI bi), (eI pi), (eI an), ub, ul] w_ ∧ Nd L s (Or1 ab (Ors M.S X)) w_ ∧ Rd M t (Or1 ab (Ors L.S X)) w_) (fun v145 => ([(zf99 0), (ptr L.bN 0), (ptr M.bN 0), (ptr ab 0), (zf99 4), (zf99 5), (zf99 6), (eN dd), (eI bk), (eN pp)] ++ (zs zf99 10 41 ++ [(eN kn)] ++ (zs zf99 52 116 ++ [(Value.bool (decide (kn = 10))), (zf99 169)] ++ (us 17 ++ [(Value.bool (decide (kn = 11))), (Value.bool (decide (kn = 11))), (v145 0), (v145 1), (v145 2), (v145 3), (v145 4), (v145 5), (v145 6), (v145 7)] ++ (us 7 ++ [(zf99 204)])))))) (fun v145 => ([(zf99 0), (ptr L.bN 0), (ptr M.bN 0), (ptr ab 0), (zf99 4), (zf99 5), (zf99 6), (eN dd), (eI bk), (eN pp)] ++ (zs zf99 10 41 ++ [(eN kn)] ++ (zs zf99 52 116 ++ [(Value.bool (decide (kn = 10))), (zf99 169)] ++ (us 17 ++ [(Value.bool (decide (kn = 11))), (Value.bool (decide (kn = 11)))] ++ (us 7 ++ [(zf99 196)] ++ (us 7 ++ [(zf99 204)]))))))) s_mx kr rfl (by decide) (by rfl) kr kr kr (by rfl) (fun v_ => by kernel_rfl) (fun v_ => by kernel_rfl) (fun _ => fun w_ w2_ h ho => by obtain ⟨r_a13, r_hN, r_hM⟩ := h; exact ⟨r_a13.step0 ho, r_hN.step0 ho, r_hM.step0 ho⟩) ⟨a13, hN, hM⟩ ?_ ?_ ?_
  ·
   exact ls_nil
  ·
   exact ms_nil
  intro v145 lo_ hi_ w146 o147 hd hR
  clear hd lo_ hi_
  replace hb := hb.step o147 (or1_mono (ors_mono (ors_mono no_any)))
  replace hl := hl.step o147 (or1_mono (ors_mono (ors_mono no_any)))
  obtain ⟨xr_a13, xr_hN, xr_hM⟩ := hR
  replace a13 : Arr 59 ab [(eI kd), (eI di), (eI bi), (eI pi), (eI an), ub, ul] w146 := xr_a13
  replace hN := xr_hN
  replace hM := xr_hM
  clear xr_a13 xr_hN xr_hM
  replace oW := oW.tail o147 (tl_new g_oW_ab (tl_sin sub1 (tl_sin (subs sub1) tl_no)))
  refine rest_seg (n := 8) (p := 0) (q := 8) [0, 1, 2, 5, 6] [3, 4, 7] [(0, 189), (1, 190), (2, 191), (5, 194), (6, 195)] [(0, 189), (1, 190), (2, 191), (3, 192), (4, 193), (5, 194), (6, 195), (7, 196)] [0, 0, 2, 6, 14, 0, 32, 127] (fun i_ => nth [(ptr L.bN 0), (ptr ab 4), (eI an), undef, undef, (ptr ab 5), ub] i_) ([(zf99 0), (ptr L.bN 0), (ptr M.bN 0), (ptr ab 0), (zf99 4), (zf99 5), (zf99 6), (eN dd), (eI bk), (eN pp)] ++ (zs zf99 10 41 ++ [(eN kn)] ++ (zs zf99 52 116 ++ [(Value.bool (decide (kn = 10))), (zf99 169)] ++ (us 17 ++ [(Value.bool (decide (kn = 11))), (Value.bool (decide (kn = 11))), (ptr L.bN 0), (ptr ab 4), (eI an), undef, undef, (ptr ab 5), ub, (zf99 196)] ++ (us 7 ++ [(zf99 204)]))))) (fun w_ => Ps (Or1 ab (Ors L.S (Ors M.S No))) (Seq kB lb ub) w_ ∧ Ps (Or1 ab (Ors L.S (Ors M.S No))) (Seq kI ll ul) w_ ∧ Arr 59 ab [(eI kd), (eI di), (eI bi), (eI pi), (eI an), ub, ul] w_ ∧ True) kr rfl (by decide) kr kr (by rfl) kr kr kr kr kr (by decide) ?_ ?_
  ·
   rintro w_ ⟨hb, hl, a13, _⟩
   refine fl_cons ⟨_, rfl, gd rfl (d_move rfl)⟩ ?_
   refine fl_cons ⟨_, rfl, gd rfl (d_fieldAddr (j := 4) Try.underlying59 rfl s_ti3 (by decide) rfl rfl)⟩ ?_
   refine fl_cons ⟨_, rfl, gd rfl (d_load (v := (eI an)) ⟨_, Try.underlying3, rfl⟩ rfl a13 rfl)⟩ ?_
   refine fl_cons ⟨_, rfl, gd rfl (d_fieldAddr (j := 5) Try.underlying59 rfl s_ti36 (by decide) rfl rfl)⟩ ?_
   refine fl_cons ⟨_, rfl, gd rfl (d_load (v := ub) ⟨_, Try.underlying36, rfl⟩ rfl a13 rfl)⟩ ?_
   exact fl_nil
  refine wJ.op ⟨hb, hl, a13, trivial⟩ rfl rfl (d_call (xl := [.tmp 191, .const (.int .i64 9)]) (al := [(eI an), (eN 9)]) Try.func12 kr rfl rfl rfl (law7Within_ok an 9 _ oo oo)) ?_
  rintro _ w148 ⟨rfl, o149⟩
  replace hN := hN.step0 o149
  replace hM := hM.step0 o149
  replace hb := hb.step0 o149
  replace hl := hl.step0 o149
  replace a13 := a13.step0 o149
  replace oW := oW.tail0 o149
  refine wJ.is ⟨hb, hl, a13, trivial⟩ rfl rfl (d_sub (k := .i64) (m := (((an % ((9 : Nat) : Int)).toNat : Nat) : Int)) (n := 1) rfl rfl (r := (((an % ((9 : Nat) : Int)).toNat - 1 : Nat) : Int)) (by rw [IntWalk.i64_in _ oo]; omega)) ?_
  refine wJ.op ⟨hb, hl, a13, trivial⟩ rfl rfl (d_call (xl := [.tmp 189, .tmp 193, .tmp 195]) (al := [(ptr L.bN 0), (eN ((an % ((9 : Nat) : Int)).toNat - 1)), ub]) Try.func24 kr rfl rfl rfl (stop_ok L s _ hN ((an % ((9 : Nat) : Int)).toNat - 1) lb ub (lt_or1 a13.lt (lt_ors hM.lt (fun k t => Nat.lt_of_lt_of_le (hX k t) oW.size))) (hb.less (os_of (sub2 sub1))) fo oo)) ?_
  rintro u153 w150 ⟨a152, o151⟩
  replace a13 := a13.step o151 (hN.dis _ in1)
  replace hM := hM.step o151 (sub2 sub1)
  replace hb := hb.step o151 (sub2 sub1)
  replace hl := hl.step o151 (sub2 sub1)
  replace oW := oW.tail o151 (fun k _ e => sub1 k e)
  replace hN := a152
  refine wJ.flat ([(zf99 0), (ptr L.bN 0), (ptr M.bN 0), (ptr ab 0), (zf99 4), (zf99 5), (zf99 6), (eN dd), (eI bk), (eN pp)] ++ (zs zf99 10 41 ++ [(eN kn)] ++ (zs zf99 52 116 ++ [(Value.bool (decide (kn = 10))), (zf99 169)] ++ (us 17 ++ [(Value.bool (decide (kn = 11))), (Value.bool (decide (kn = 11))), (ptr L.bN 0), (ptr ab 4), (eI an), (eN ((an % ((9 : Nat) : Int)).toNat)), (eN ((an % ((9 : Nat) : Int)).toNat - 1)), (ptr ab 5), ub, u153] ++ (us 7 ++ [(zf99 204)]))))) kr ?_
  refine wJ.done ⟨hb, hl, a13, trivial⟩ ?_
  refine rest_done rfl ?_
  refine tN ?_
  refine forget (fun zf154 => ([(zf154 0), (zf154 1), (ptr M.bN 0), (ptr ab 0)] ++ (zs zf154 4 193 ++ (us 7 ++ [(zf154 204)])))) kr (fun zf154 => ?_)
  refine drawnG (O := (Or1 ab (Ors L.S (Ors M.S No)))) (n := 8) 0 [0, 0, 2, 6, 14, 0, 32, 127] [(0, 197), (1, 198), (2, 199), (3, 200), (4, 201), (5, 202), (6, 203), (7, 204)] [] [] [] (fun i_ => ([] : List (RF (Or1 ab (Ors L.S (Ors M.S No))))).getD i_ (RF.any (Or1 ab (Ors L.S (Ors M.S No))))) (fun _ w_ => Arr 59 ab [(eI kd), (eI di), (eI bi), (eI pi), (eI an), ub, ul] w_ ∧ Nd L (s.stopAt ((an % ((9 : Nat) : Int)).toNat - 1) lb) (Or1 ab (Ors M.S X)) w_ ∧ Rd M t (Or1 ab (Ors L.S X)) w_) (fun v155 => ([(zf154 0), (zf154 1), (ptr M.bN 0), (ptr ab 0)] ++ (zs zf154 4 193 ++ [(v155 0), (v155 1), (v155 2), (v155 3), (v155 4), (v155 5), (v155 6), (v155 7)]))) (fun v155 => ([(zf154 0), (zf154 1), (ptr M.bN 0), (ptr ab 0)] ++ (zs zf154 4 193 ++ (us 7 ++ [(zf154 204)])))) s_mx kr rfl (by decide) (by rfl) kr kr kr (by rfl) (fun v_ => by kernel_rfl) (fun v_ => by kernel_rfl) (fun _ => fun w_ w2_ h ho => by obtain ⟨r_a13, r_hN, r_hM⟩ := h; exact ⟨r_a13.step0 ho, r_hN.step0 ho, r_hM.step0 ho⟩) ⟨a13, hN, hM⟩ ?_ ?_ ?_
  ·
   exact ls_nil
  ·
   exact ms_nil
  intro v155 lo_ hi_ w156 o157 hd hR
  clear hd lo_ hi_
  replace hb := hb.step o157 (or1_mono (ors_mono (ors_mono no_any)))
  replace hl := hl.step o157 (or1_mono (ors_mono (ors_mono no_any)))
  obtain ⟨xr_a13, xr_hN, xr_hM⟩ := hR
  replace a13 : Arr 59 ab [(eI kd), (eI di), (eI bi), (eI pi), (eI an), ub, ul] w156 := xr_a13
  replace hN := xr_hN
  replace hM := xr_hM
  clear xr_a13 xr_hN xr_hM
  replace oW := oW.tail o157 (tl_new g_oW_ab (tl_sin sub1 (tl_sin (subs sub1) tl_no)))
  refine rest_seg (n := 8) (p := 0) (q := 8) [0, 1, 2, 5, 6] [3, 4, 7] [(0, 197), (1, 198), (2, 199), (5, 202), (6, 203)] [(0, 197), (1, 198), (2, 199), (3, 200), (4, 201), (5, 202), (6, 203), (7, 204)] [0, 0, 2, 6, 14, 0, 32, 127] (fun i_ => nth [(ptr M.bN 0), (ptr ab 4), (eI an), undef, undef, (ptr ab 5), ub] i_) ([(zf154 0), (zf154 1), (ptr M.bN 0), (ptr ab 0)] ++ (zs zf154 4 193 ++ [(ptr M.bN 0), (ptr ab 4), (eI an), undef, undef, (ptr ab 5), ub, (zf154 204)])) (fun w_ => Ps (Or1 ab (Ors L.S (Ors M.S No))) (Seq kB lb ub) w_ ∧ Ps (Or1 ab (Ors L.S (Ors M.S No))) (Seq kI ll ul) w_ ∧ Arr 59 ab [(eI kd), (eI di), (eI bi), (eI pi), (eI an), ub, ul] w_ ∧ True) kr rfl (by decide) kr kr (by rfl) kr kr kr kr kr (by decide) ?_ ?_
  ·
   rintro w_ ⟨hb, hl, a13, _⟩
   refine fl_cons ⟨_, rfl, gd rfl (d_move rfl)⟩ ?_
   refine fl_cons ⟨_, rfl, gd rfl (d_fieldAddr (j := 4) Try.underlying59 rfl s_ti3 (by decide) rfl rfl)⟩ ?_
   refine fl_cons ⟨_, rfl, gd rfl (d_load (v := (eI an)) ⟨_, Try.underlying3, rfl⟩ rfl a13 rfl)⟩ ?_
   refine fl_cons ⟨_, rfl, gd rfl (d_fieldAddr (j := 5) Try.underlying59 rfl s_ti36 (by decide) rfl rfl)⟩ ?_
   refine fl_cons ⟨_, rfl, gd rfl (d_load (v := ub) ⟨_, Try.underlying36, rfl⟩ rfl a13 rfl)⟩ ?_
   exact fl_nil
  refine wJ.op ⟨hb, hl, a13, trivial⟩ rfl rfl (d_call (xl := [.tmp 199, .const (.int .i64 9)]) (al := [(eI an), (eN 9)]) Try.func12 kr rfl rfl rfl (law7Within_ok an 9 _ oo oo)) ?_
  rintro _ w158 ⟨rfl, o159⟩
  replace hN := hN.step0 o159
  replace hM := hM.step0 o159
  replace hb := hb.step0 o159
  replace hl := hl.step0 o159
  replace a13 := a13.step0 o159
  replace oW := oW.tail0 o159
  refine wJ.is ⟨hb, hl, a13, trivial⟩ rfl rfl (d_sub (k := .i64) (m := (((an % ((9 : Nat) : Int)).toNat : Nat) : Int)) (n := 1) rfl rfl (r := (((an % ((9 : Nat) : Int)).toNat - 1 : Nat) : Int)) (by rw [IntWalk.i64_in _ oo]; omega)) ?_
  refine wJ.op ⟨hb, hl, a13, trivial⟩ rfl rfl (d_call (xl := [.tmp 197, .tmp 201, .tmp 203]) (al := [(ptr M.bN 0), (eN ((an % ((9 : Nat) : Int)).toNat - 1)), ub]) Try.func58 kr rfl rfl rfl (refStop_ok M t _ hM ((an % ((9 : Nat) : Int)).toNat - 1) lb ub (lt_or1 a13.lt (lt_ors hN.lt (fun k t => Nat.lt_of_lt_of_le (hX k t) oW.size))) (hb.less (os_of (sub2 (subs sub1)))) fo oo)) ?_
  rintro u163 w160 ⟨a162, o161⟩
  replace a13 := a13.step o161 (hM.dis _ in1)
  replace hN := hN.step o161 (sub2 sub1)
  replace hb := hb.step o161 (sub2 (subs sub1))
  replace hl := hl.step o161 (sub2 (subs sub1))
  replace oW := oW.tail o161 (fun k _ e => (subs sub1) k e)
  replace hM := a162
  refine wJ.flat ([(zf154 0), (zf154 1), (ptr M.bN 0), (ptr ab 0)] ++ (zs zf154 4 193 ++ [(ptr M.bN 0), (ptr ab 4), (eI an), (eN ((an % ((9 : Nat) : Int)).toNat)), (eN ((an % ((9 : Nat) : Int)).toNat - 1)), (ptr ab 5), ub, u163])) kr ?_
  refine wJ.done ⟨hb, hl, a13, trivial⟩ ?_
  refine rest_done rfl ?_
  refine inb_n (tN ?_)
  refine forget (fun zf164 => (zs zf164 0 205)) kr (fun zf164 => ?_)
  refine wQ (pL ?_)
  refine wI (d_assign rfl) ?_
  refine wD (tN ?_)
  refine wpIn_ret ?_
  refine leave0 (v := vT) (res1 Try.results32 rfl) ?_
  exact ⟨_, _, rfl, (hN.less (xx_skip (xx_ors xx_id))), (hM.less (xx_skip (xx_ors xx_id))), (hS.stopAt _ _), (rg_stop hR _ _), oW⟩
 refine wQ (pL ?_)
 refine wI (d_move rfl) ?_
 refine wO (d_call (xl := [.tmp 52]) (al := [(ptr L.bN 0)]) Try.func26 kr rfl rfl rfl (power_ok L s _ hN)) ?_
 rintro u168 w165 ⟨a167, o166⟩
 replace a13 := a13.step o166 (hN.dis _ in1)
 replace hM := hM.step o166 (sub2 sub1)
 replace hb := hb.step o166 (sub2 sub1)
 replace hl := hl.step o166 (sub2 sub1)
 replace oW := oW.tail o166 (fun k _ e => sub1 k e)
 replace hN := a167
 refine wD (tN ?_)
 refine forget (fun zf169 => ([(zf169 0), (zf169 1), (ptr M.bN 0)] ++ (zs zf169 3 202))) kr (fun zf169 => ?_)
 refine pL ?_
 refine wI (d_move rfl) ?_
 refine wO (d_call (xl := [.tmp 54]) (al := [(ptr M.bN 0)]) Try.func34 kr rfl rfl rfl (refPower_ok M t _ hM)) ?_
 rintro u173 w170 ⟨a172, o171⟩
 replace a13 := a13.step o171 (hM.dis _ in1)
 replace hN := hN.step o171 (sub2 sub1)
 replace hb := hb.step o171 (sub2 (subs sub1))
 replace hl := hl.step o171 (sub2 (subs sub1))
 replace oW := oW.tail o171 (fun k _ e => (subs sub1) k e)
 replace hM := a172
 refine wF ([(zf169 0), (zf169 1), (ptr M.bN 0)] ++ (zs zf169 3 51 ++ [(ptr M.bN 0), u173] ++ (zs zf169 56 149))) ?_
 refine wD ?_
 refine inb_n (tN ?_)
 refine wQ (pL ?_)
 refine wI (d_assign rfl) ?_
 refine wD (tN ?_)
 refine wpIn_ret ?_
 refine leave0 (v := vT) (res1 Try.results32 rfl) ?_
 exact ⟨_, _, rfl, (hN.less (xx_skip (xx_ors xx_id))), (hM.less (xx_skip (xx_ors xx_id))), hS.power, (rg_power hR), oW⟩
theorem nandPlays_law (a b c : Int) (ls : List Int) (la : List AX) (u1 u2 : Value) (W : World) (h1 : Ps No (Seq kI ls u1) W) (h2 : Ps No (Seq kAct la u2) W) (g1 : ls.length ≤ 17592186043904) (g2 : la.length ≤ 9223372036854775807) (r2 : ∀ x ∈ la, ∀ y ∈ x.l, -9223372036854775808 ≤ y ∧ y < 9223372036854775808) :
    CW Try.prog 10 #[(Value.agg #[(eI a), (eI b), (eI c)]), u1, u2] W (Rt (RIs (.bool true) W)) := by
 have oW : Only No W W := Only.refl _ _
 refine enter (al := [(Value.agg #[(eI a), (eI b), (eI c)]), u1, u2]) (k := 72) (l := ([(Value.agg #[(eI a), (eI b), (eI c)]), u1, u2] ++ (us 72))) Try.func10 rfl Try.ntmps10 rfl rfl ?_
 refine wQ (pL ?_)
 refine wO (d_box rfl rfl) ?_
 rintro _ w11 ⟨gb, rfl, g12, a13, o14⟩
 have g_oW_gb : W.heap.size ≤ gb := Nat.le_trans oW.size g12
 replace h1 := h1.new o14 g12
 replace h2 := h2.new o14 g12
 replace oW := oW.tail0 o14
 refine wI (d_assign rfl) ?_
 refine wD (tN (wQ (wQ (pL ?_))))
 refine wO (d_call (xl := []) (al := []) Try.func11 kr rfl rfl rfl (law7Known_ok _)) ?_
 rintro _ w15 ⟨rfl, o16⟩
 replace h1 := h1.step0 o16
 replace h2 := h2.step0 o16
 replace a13 := a13.step0 o16
 replace oW := oW.tail0 o16
 refine wI (d_not rfl rfl) ?_
 refine wD (tN ?_)
 refine cond_f rfl ?_
 refine wK (tN (wQ (wQ (pL ?_))))
 refine wI (d_move rfl) ?_
 refine wO (d_call (xl := [.tmp 15]) (al := [u2]) Try.func30 kr rfl rfl rfl (law7Few_ok la u2 _ (Ps.no h2) fo)) ?_
 rintro _ w17 ⟨fw, rfl, hfw, o18⟩
 replace h1 := h1.step0 o18
 replace h2 := h2.step0 o18
 replace a13 := a13.step0 o18
 replace oW := oW.tail0 o18
 refine wI (d_not rfl rfl) ?_
 refine wD (tN ?_)
 refine cond_b rfl (fun c17 => ?_) (fun c17 => ?_)
 ·
  refine wQ (pL ?_)
  refine wI (d_assign rfl) ?_
  refine wD (tN ?_)
  refine wpIn_ret ?_
  refine then_r ?_
  refine leave0 (v := vT) (res1 Try.results10 rfl) ?_
  exact ⟨rfl, oW⟩
 refine wK (tN (wQ (pL ?_)))
 refine wI (d_loadAg (vs := [(eI a), (eI b), (eI c)]) ⟨_, Try.underlying23, rfl⟩ s_ti23 rfl a13 rfl rfl) ?_
 refine wO (d_call (xl := [.tmp 18]) (al := [(Value.agg #[(eI a), (eI b), (eI c)])]) Try.func15 kr rfl rfl rfl (law7MakeE_ok a b c _)) ?_
 rintro _ w19 ⟨D, B, Q, rfl, hIN, o20⟩
 replace h1 := h1.step0 o20
 replace h2 := h2.step0 o20
 replace a13 := a13.step0 o20
 replace oW := oW.tail0 o20
 refine wF ([(Value.agg #[(eI a), (eI b), (eI c)]), u1, u2, (ptr gb 0), undef, undef, vF] ++ (us 6 ++ [vT, vF, u2, (Value.bool fw), (Value.bool (!fw)), (Value.agg #[(eI a), (eI b), (eI c)]), (ag3 D B Q)] ++ (us 55))) ?_
 refine wO (d_alloc s_ti23 rfl) ?_
 rintro _ w21 ⟨hb, rfl, g22, a23, o24⟩
 have n_gb_hb : gb ≠ hb := a13.ne g22
 have g_oW_hb : W.heap.size ≤ hb := Nat.le_trans oW.size g22
 replace h1 := h1.new o24 g22
 replace h2 := h2.new o24 g22
 replace a13 := a13.step0 o24
 replace oW := oW.tail0 o24
 refine wO (d_storeAg (cs' := [(eN D), (eN B), (eN Q)]) s_ti23 rfl rfl rfl (oc_cons rfl (oc_cons rfl (oc_cons rfl oc_nil))) a23 (by decide) rfl) ?_
 rintro _ w25 ⟨a26, o27⟩
 replace h1 := h1.stepb o27 in1
 replace h2 := h2.stepb o27 in1
 replace a13 := a13.step o27 (fun e => absurd e n_gb_hb)
 replace oW := oW.tailb o27 g_oW_hb
 refine wD (tN (wQ ?_))
 refine wp_eq (l' := ([(Value.agg #[(eI a), (eI b), (eI c)]), u1, u2, (ptr gb 0), undef, undef, vF, (ptr hb 0)] ++ (us 5 ++ [vT, vF, u2, (Value.bool fw), (Value.bool (!fw)), (Value.agg #[(eI a), (eI b), (eI c)]), (ag3 D B Q)] ++ (us 55)))) rfl ?_
 refine drawnG (O := (Or1 hb (Or1 gb No))) (n := 10) 0 [0, 0, 0, 6, 15, 31, 63, 63, 127, 511] [(0, 21), (1, 22), (2, 23), (3, 24), (4, 25), (5, 20), (6, 26), (7, 27), (8, 8), (9, 9)] [] [] [] (fun i_ => ([] : List (RF (Or1 hb (Or1 gb No)))).getD i_ (RF.any (Or1 hb (Or1 gb No)))) (fun _ w_ => Arr 23 gb [(eI a), (eI b), (eI c)] w_ ∧ Arr 23 hb [(eN D), (eN B), (eN Q)] w_) (fun v28 => ([(Value.agg #[(eI a), (eI b), (eI c)]), u1, u2, (ptr gb 0), undef, undef, vF, (ptr hb 0), (v28 8), (v28 9), undef, undef, undef, vT, vF, u2, (Value.bool fw), (Value.bool (!fw)), (Value.agg #[(eI a), (eI b), (eI c)]), (ag3 D B Q), (v28 5), (v28 0), (v28 1), (v28 2), (v28 3), (v28 4), (v28 6), (v28 7)] ++ (us 47))) (fun v28 => ([(Value.agg #[(eI a), (eI b), (eI c)]), u1, u2, (ptr gb 0), undef, undef, vF, (ptr hb 0)] ++ (us 5 ++ [vT, vF, u2, (Value.bool fw), (Value.bool (!fw)), (Value.agg #[(eI a), (eI b), (eI c)]), (ag3 D B Q)] ++ (us 55)))) s_mx kr rfl (by decide) (by rfl) kr kr kr (by rfl) (fun v_ => by kernel_rfl) (fun v_ => by kernel_rfl) (fun _ => fun w_ w2_ h ho => by obtain ⟨r_a13, r_a26⟩ := h; exact ⟨r_a13.step0 ho, r_a26.step0 ho⟩) ⟨a13, a26⟩ ?_ ?_ ?_
 ·
  exact ls_nil
 ·
  exact ms_nil
 intro v28 lo_ hi_ w29 o30 hd hR
 clear hd lo_ hi_
 replace h1 := h1.step o30 (or1_mono (or1_mono no_any))
 replace h2 := h2.step o30 (or1_mono (or1_mono no_any))
 obtain ⟨xr_a13, xr_a26⟩ := hR
 replace a13 : Arr 23 gb [(eI a), (eI b), (eI c)] w29 := xr_a13
 replace a26 : Arr 23 hb [(eN D), (eN B), (eN Q)] w29 := xr_a26
 clear xr_a13 xr_a26
 replace oW := oW.tail o30 (tl_new g_oW_hb (tl_new g_oW_gb tl_no))
 refine rest_seg (n := 10) (p := 0) (q := 6) [0, 1, 2] [3, 4, 5] [(0, 21), (1, 22), (2, 23)] [(0, 21), (1, 22), (2, 23), (3, 24), (4, 25), (5, 20), (6, 26), (7, 27), (8, 8), (9, 9)] [0, 0, 0, 6, 15, 31, 63, 63, 127, 511] (fun i_ => nth [(ag3 D B Q), (ag3 D B Q), u1] i_) ([(Value.agg #[(eI a), (eI b), (eI c)]), u1, u2, (ptr gb 0), undef, undef, vF, (ptr hb 0)] ++ (us 5 ++ [vT, vF, u2, (Value.bool fw), (Value.bool (!fw)), (Value.agg #[(eI a), (eI b), (eI c)]), (ag3 D B Q), undef, (ag3 D B Q), (ag3 D B Q), u1] ++ (us 51))) (fun w_ => Ps (Or1 hb (Or1 gb No)) (Seq kI ls u1) w_ ∧ Ps (Or1 hb (Or1 gb No)) (Seq kAct la u2) w_ ∧ Arr 23 gb [(eI a), (eI b), (eI c)] w_ ∧ Arr 23 hb [(eN D), (eN B), (eN Q)] w_ ∧ True) kr rfl (by decide) kr kr (by rfl) kr kr kr kr kr (by decide) ?_ ?_
 ·
  rintro w_ ⟨h1, h2, a13, a26, _⟩
  refine fl_cons ⟨_, rfl, gd rfl (d_loadAg (vs := [(eN D), (eN B), (eN Q)]) ⟨_, Try.underlying23, rfl⟩ s_ti23 rfl a26 rfl rfl)⟩ ?_
  refine fl_cons ⟨_, rfl, gd rfl (d_loadAg (vs := [(eN D), (eN B), (eN Q)]) ⟨_, Try.underlying23, rfl⟩ s_ti23 rfl a26 rfl rfl)⟩ ?_
  refine fl_cons ⟨_, rfl, gd rfl (d_move rfl)⟩ ?_
  exact fl_nil
 refine wJ.op ⟨h1, h2, a13, a26, trivial⟩ rfl rfl (d_call (xl := [.tmp 22, .tmp 23]) (al := [(ag3 D B Q), u1]) Try.func31 kr rfl rfl rfl (law7Spoil_ok D B Q ls u1 _ (Ps.no h1) fo oo oo)) ?_
 rintro u33 w31 f34
 obtain ⟨f34, o32⟩ := f34
 replace f34 := f34.less (Y := (Or1 hb (Or1 gb (Old W.heap.size)))) (or1_old a26.lt (or1_old a13.lt (old_old oW.size)))
 replace h1 := h1.step0 o32
 replace h2 := h2.step0 o32
 replace a13 := a13.step0 o32
 replace a26 := a26.step0 o32
 replace oW := oW.tail0 o32
 refine wJ.op ⟨h1, h2, a13, a26, trivial⟩ rfl rfl (d_call (xl := [.tmp 21, .tmp 24]) (al := [(ag3 D B Q), u33]) Try.func13 kr rfl rfl rfl (newG_ok D B Q (spoilL D B ls) u33 _ (Ps.no f34) (by have := spoilL_len D B ls; first | omega | (simp; done) | (simp; omega)) oo oo oo)) ?_
 rintro _ w35 ⟨u37, rfl, o36, h38⟩
 obtain ⟨L39, s40, rfl, ⟨a41, g42⟩, n43⟩ := h38 (newE_spoil _ _ _)
 have g_oW_L39 : ∀ k, L39.S k → W.heap.size ≤ k := fun k hk => Nat.le_trans oW.size (g42 k hk)
 replace a41 := a41.less (Y := (Or1 hb (Or1 gb No))) (or1_old a26.lt (or1_old a13.lt no_old))
 replace h1 := h1.re (X' := Ors L39.S (Or1 hb (Or1 gb No))) o36 (fun _ t => t.elim) (xx_news g42 xx_id)
 replace h2 := h2.re (X' := Ors L39.S (Or1 hb (Or1 gb No))) o36 (fun _ t => t.elim) (xx_news g42 xx_id)
 replace f34 := f34.re (X' := Ors L39.S (Or1 hb (Or1 gb (Old W.heap.size)))) o36 (fun _ t => t.elim) (xx_news g42 xx_id)
 replace a13 := a13.step0 o36
 replace a26 := a26.step0 o36
 replace oW := oW.tail0 o36
 refine wJ.is ⟨h1.less (xx_skip (xx_or1 (xx_or1 xx_id))), h2.less (xx_skip (xx_or1 (xx_or1 xx_id))), a13, a26, trivial⟩ rfl rfl (d_move rfl) ?_
 refine wJ.flat ([(Value.agg #[(eI a), (eI b), (eI c)]), u1, u2, (ptr gb 0), undef, undef, vF, (ptr hb 0)] ++ (us 5 ++ [vT, vF, u2, (Value.bool fw), (Value.bool (!fw)), (Value.agg #[(eI a), (eI b), (eI c)]), (ag3 D B Q), (Value.tuple #[(ptr L39.bN 0), (eN (newE D B (spoilL D B ls)))]), (ag3 D B Q), (ag3 D B Q), u1, u33, (Value.tuple #[(ptr L39.bN 0), (eN (newE D B (spoilL D B ls)))])] ++ (us 49))) kr ?_
 refine wJ.done ⟨h1.less (xx_skip (xx_or1 (xx_or1 xx_id))), h2.less (xx_skip (xx_or1 (xx_or1 xx_id))), a13, a26, trivial⟩ ?_
 refine rest_seg (n := 10) (p := 6) (q := 10) [6, 7] [8, 9] [(6, 26), (7, 27)] [(0, 21), (1, 22), (2, 23), (3, 24), (4, 25), (5, 20), (6, 26), (7, 27), (8, 8), (9, 9)] [0, 0, 0, 6, 15, 31, 63, 63, 127, 511] (fun i_ => nth [undef, undef, undef, undef, undef, undef, (ptr L39.bN 0), (eN (newE D B (spoilL D B ls)))] i_) ([(Value.agg #[(eI a), (eI b), (eI c)]), u1, u2, (ptr gb 0), undef, undef, vF, (ptr hb 0)] ++ (us 5 ++ [vT, vF, u2, (Value.bool fw), (Value.bool (!fw)), (Value.agg #[(eI a), (eI b), (eI c)]), (ag3 D B Q), (Value.tuple #[(ptr L39.bN 0), (eN (newE D B (spoilL D B ls)))]), (ag3 D B Q), (ag3 D B Q), u1, u33, (Value.tuple #[(ptr L39.bN 0), (eN (newE D B (spoilL D B ls)))]), (ptr L39.bN 0), (eN (newE D B (spoilL D B ls)))] ++ (us 47))) (fun w_ => Ps (Ors L39.S (Or1 hb (Or1 gb No))) (Seq kI ls u1) w_ ∧ Ps (Ors L39.S (Or1 hb (Or1 gb No))) (Seq kAct la u2) w_ ∧ Ps (Ors L39.S (Or1 hb (Or1 gb (Old W.heap.size)))) (Seq (kA 2 eQ) (spoilL D B ls) u33) w_ ∧ Arr 23 gb [(eI a), (eI b), (eI c)] w_ ∧ Arr 23 hb [(eN D), (eN B), (eN Q)] w_ ∧ True) kr rfl (by decide) kr kr (by rfl) kr kr kr kr kr (by decide) ?_ ?_
 ·
  rintro w_ ⟨h1, h2, f34, a13, a26, _⟩
  refine fl_cons ⟨_, rfl, gd rfl (d_extract (v := (ptr L39.bN 0)) rfl rfl)⟩ ?_
  refine fl_cons ⟨_, rfl, gd rfl (d_extract (v := (eN (newE D B (spoilL D B ls)))) rfl rfl)⟩ ?_
  exact fl_nil
 refine wJ.is ⟨h1, h2, f34, a13, a26, trivial⟩ rfl rfl (d_assign rfl) ?_
 refine wJ.is ⟨h1, h2, f34, a13, a26, trivial⟩ rfl rfl (d_assign rfl) ?_
 refine wJ.flat ([(Value.agg #[(eI a), (eI b), (eI c)]), u1, u2, (ptr gb 0), undef, undef, vF, (ptr hb 0), (ptr L39.bN 0), (eN (newE D B (spoilL D B ls))), undef, undef, undef, vT, vF, u2, (Value.bool fw), (Value.bool (!fw)), (Value.agg #[(eI a), (eI b), (eI c)]), (ag3 D B Q), (Value.tuple #[(ptr L39.bN 0), (eN (newE D B (spoilL D B ls)))]), (ag3 D B Q), (ag3 D B Q), u1, u33, (Value.tuple #[(ptr L39.bN 0), (eN (newE D B (spoilL D B ls)))]), (ptr L39.bN 0), (eN (newE D B (spoilL D B ls)))] ++ (us 47)) kr ?_
 refine wJ.done ⟨h1, h2, f34, a13, a26, trivial⟩ ?_
 refine rest_done rfl ?_
 refine tN (wQ ?_)
 refine drawnG (O := (Ors L39.S (Or1 hb (Or1 gb No)))) (n := 10) 0 [0, 0, 0, 6, 15, 31, 63, 63, 127, 511] [(0, 29), (1, 30), (2, 31), (3, 32), (4, 33), (5, 28), (6, 34), (7, 35), (8, 10), (9, 11)] [] [] [] (fun i_ => ([] : List (RF (Ors L39.S (Or1 hb (Or1 gb No))))).getD i_ (RF.any (Ors L39.S (Or1 hb (Or1 gb No))))) (fun _ w_ => Arr 23 gb [(eI a), (eI b), (eI c)] w_ ∧ Arr 23 hb [(eN D), (eN B), (eN Q)] w_ ∧ Nd L39 s40 (Or1 hb (Or1 gb No)) w_) (fun v44 => ([(Value.agg #[(eI a), (eI b), (eI c)]), u1, u2, (ptr gb 0), undef, undef, vF, (ptr hb 0), (ptr L39.bN 0), (eN (newE D B (spoilL D B ls))), (v44 8), (v44 9), undef, vT, vF, u2, (Value.bool fw), (Value.bool (!fw)), (Value.agg #[(eI a), (eI b), (eI c)]), (ag3 D B Q), (Value.tuple #[(ptr L39.bN 0), (eN (newE D B (spoilL D B ls)))]), (ag3 D B Q), (ag3 D B Q), u1, u33, (Value.tuple #[(ptr L39.bN 0), (eN (newE D B (spoilL D B ls)))]), (ptr L39.bN 0), (eN (newE D B (spoilL D B ls))), (v44 5), (v44 0), (v44 1), (v44 2), (v44 3), (v44 4), (v44 6), (v44 7)] ++ (us 39))) (fun v44 => ([(Value.agg #[(eI a), (eI b), (eI c)]), u1, u2, (ptr gb 0), undef, undef, vF, (ptr hb 0), (ptr L39.bN 0), (eN (newE D B (spoilL D B ls))), undef, undef, undef, vT, vF, u2, (Value.bool fw), (Value.bool (!fw)), (Value.agg #[(eI a), (eI b), (eI c)]), (ag3 D B Q), (Value.tuple #[(ptr L39.bN 0), (eN (newE D B (spoilL D B ls)))]), (ag3 D B Q), (ag3 D B Q), u1, u33, (Value.tuple #[(ptr L39.bN 0), (eN (newE D B (spoilL D B ls)))]), (ptr L39.bN 0), (eN (newE D B (spoilL D B ls)))] ++ (us 47))) s_mx kr rfl (by decide) (by rfl) kr kr kr (by rfl) (fun v_ => by kernel_rfl) (fun v_ => by kernel_rfl) (fun _ => fun w_ w2_ h ho => by obtain ⟨r_a13, r_a26, r_a41⟩ := h; exact ⟨r_a13.step0 ho, r_a26.step0 ho, r_a41.step0 ho⟩) ⟨a13, a26, a41⟩ ?_ ?_ ?_
 ·
  exact ls_nil
 ·
  exact ms_nil
 intro v44 lo_ hi_ w45 o46 hd hR
 clear hd lo_ hi_
 replace h1 := h1.step o46 (ors_mono (or1_mono (or1_mono no_any)))
 replace h2 := h2.step o46 (ors_mono (or1_mono (or1_mono no_any)))
 replace f34 := f34.step o46 (ors_mono (or1_mono (or1_mono no_any)))
 obtain ⟨xr_a13, xr_a26, xr_a41⟩ := hR
 replace a13 : Arr 23 gb [(eI a), (eI b), (eI c)] w45 := xr_a13
 replace a26 : Arr 23 hb [(eN D), (eN B), (eN Q)] w45 := xr_a26
 replace a41 := xr_a41
 clear xr_a13 xr_a26 xr_a41
 replace oW := oW.tail o46 (tl_snew g_oW_L39 (tl_new g_oW_hb (tl_new g_oW_gb tl_no)))
 refine rest_seg (n := 10) (p := 0) (q := 6) [0, 1, 2] [3, 4, 5] [(0, 29), (1, 30), (2, 31)] [(0, 29), (1, 30), (2, 31), (3, 32), (4, 33), (5, 28), (6, 34), (7, 35), (8, 10), (9, 11)] [0, 0, 0, 6, 15, 31, 63, 63, 127, 511] (fun i_ => nth [(ag3 D B Q), (ag3 D B Q), u1] i_) ([(Value.agg #[(eI a), (eI b), (eI c)]), u1, u2, (ptr gb 0), undef, undef, vF, (ptr hb 0), (ptr L39.bN 0), (eN (newE D B (spoilL D B ls))), undef, undef, undef, vT, vF, u2, (Value.bool fw), (Value.bool (!fw)), (Value.agg #[(eI a), (eI b), (eI c)]), (ag3 D B Q), (Value.tuple #[(ptr L39.bN 0), (eN (newE D B (spoilL D B ls)))]), (ag3 D B Q), (ag3 D B Q), u1, u33, (Value.tuple #[(ptr L39.bN 0), (eN (newE D B (spoilL D B ls)))]), (ptr L39.bN 0), (eN (newE D B (spoilL D B ls))), undef, (ag3 D B Q), (ag3 D B Q), u1] ++ (us 43)) (fun w_ => Ps (Ors L39.S (Or1 hb (Or1 gb No))) (Seq kI ls u1) w_ ∧ Ps (Ors L39.S (Or1 hb (Or1 gb No))) (Seq kAct la u2) w_ ∧ Ps (Ors L39.S (Or1 hb (Or1 gb (Old W.heap.size)))) (Seq (kA 2 eQ) (spoilL D B ls) u33) w_ ∧ Arr 23 gb [(eI a), (eI b), (eI c)] w_ ∧ Arr 23 hb [(eN D), (eN B), (eN Q)] w_ ∧ True) kr rfl (by decide) kr kr (by rfl) kr kr kr kr kr (by decide) ?_ ?_
 ·
  rintro w_ ⟨h1, h2, f34, a13, a26, _⟩
  refine fl_cons ⟨_, rfl, gd rfl (d_loadAg (vs := [(eN D), (eN B), (eN Q)]) ⟨_, Try.underlying23, rfl⟩ s_ti23 rfl a26 rfl rfl)⟩ ?_
  refine fl_cons ⟨_, rfl, gd rfl (d_loadAg (vs := [(eN D), (eN B), (eN Q)]) ⟨_, Try.underlying23, rfl⟩ s_ti23 rfl a26 rfl rfl)⟩ ?_
  refine fl_cons ⟨_, rfl, gd rfl (d_move rfl)⟩ ?_
  exact fl_nil
 refine wJ.op ⟨h1, h2, f34, a13, a26, trivial⟩ rfl rfl (d_call (xl := [.tmp 30, .tmp 31]) (al := [(ag3 D B Q), u1]) Try.func31 kr rfl rfl rfl (law7Spoil_ok D B Q ls u1 _ (Ps.no h1) fo oo oo)) ?_
 rintro u49 w47 f50
 obtain ⟨f50, o48⟩ := f50
 replace f50 := f50.less (Y := (Ors L39.S (Or1 hb (Or1 gb (Old W.heap.size))))) (ors_old a41.lt (or1_old a26.lt (or1_old a13.lt (old_old oW.size))))
 replace h1 := h1.step0 o48
 replace h2 := h2.step0 o48
 replace f34 := f34.step0 o48
 replace a41 := a41.step0 o48
 replace a13 := a13.step0 o48
 replace a26 := a26.step0 o48
 replace oW := oW.tail0 o48
 refine wJ.op ⟨h1, h2, f34, a13, a26, trivial⟩ rfl rfl (d_call (xl := [.tmp 29, .tmp 32]) (al := [(ag3 D B Q), u49]) Try.func14 kr rfl rfl rfl (refNew_ok D B Q (spoilL D B ls) u49 _ (Ps.no f50) (by have := spoilL_len D B ls; first | omega | (simp; done) | (simp; omega)) oo oo oo)) ?_
 rintro _ w51 ⟨u53, rfl, o52, h54⟩
 obtain ⟨L55, s56, rfl, ⟨a57, g58⟩, n59⟩ := h54 (newE_spoil _ _ _)
 have g_oW_L55 : ∀ k, L55.S k → W.heap.size ≤ k := fun k hk => Nat.le_trans oW.size (g58 k hk)
 replace a57 := a57.less (Y := (Ors L39.S (Or1 hb (Or1 gb No)))) (ors_old a41.lt (or1_old a26.lt (or1_old a13.lt no_old)))
 replace h1 := h1.re (X' := Ors L55.S (Ors L39.S (Or1 hb (Or1 gb No)))) o52 (fun _ t => t.elim) (xx_news g58 xx_id)
 replace h2 := h2.re (X' := Ors L55.S (Ors L39.S (Or1 hb (Or1 gb No)))) o52 (fun _ t => t.elim) (xx_news g58 xx_id)
 replace f34 := f34.re (X' := Ors L55.S (Ors L39.S (Or1 hb (Or1 gb (Old W.heap.size))))) o52 (fun _ t => t.elim) (xx_news g58 xx_id)
 replace a41 := a41.re (X' := Ors L55.S (Or1 hb (Or1 gb No))) o52 (fun _ t => t.elim) (xx_news g58 xx_id)
 replace f50 := f50.re (X' := Ors L55.S (Ors L39.S (Or1 hb (Or1 gb (Old W.heap.size))))) o52 (fun _ t => t.elim) (xx_news g58 xx_id)
 replace a13 := a13.step0 o52
 replace a26 := a26.step0 o52
 replace oW := oW.tail0 o52
 refine wJ.is ⟨h1.less (xx_skip (xx_ors (xx_or1 (xx_or1 xx_id)))), h2.less (xx_skip (xx_ors (xx_or1 (xx_or1 xx_id)))), f34.less (xx_skip (xx_ors (xx_or1 (xx_or1 xx_id)))), a13, a26, trivial⟩ rfl rfl (d_move rfl) ?_
 refine wJ.flat ([(Value.agg #[(eI a), (eI b), (eI c)]), u1, u2, (ptr gb 0), undef, undef, vF, (ptr hb 0), (ptr L39.bN 0), (eN (newE D B (spoilL D B ls))), undef, undef, undef, vT, vF, u2, (Value.bool fw), (Value.bool (!fw)), (Value.agg #[(eI a), (eI b), (eI c)]), (ag3 D B Q), (Value.tuple #[(ptr L39.bN 0), (eN (newE D B (spoilL D B ls)))]), (ag3 D B Q), (ag3 D B Q), u1, u33, (Value.tuple #[(ptr L39.bN 0), (eN (newE D B (spoilL D B ls)))]), (ptr L39.bN 0), (eN (newE D B (spoilL D B ls))), (Value.tuple #[(ptr L55.bN 0), (eN (newE D B (spoilL D B ls)))]), (ag3 D B Q), (ag3 D B Q), u1, u49, (Value.tuple #[(ptr L55.bN 0), (eN (newE D B (spoilL D B ls)))])] ++ (us 41)) kr ?_
 refine wJ.done ⟨h1.less (xx_skip (xx_ors (xx_or1 (xx_or1 xx_id)))), h2.less (xx_skip (xx_ors (xx_or1 (xx_or1 xx_id)))), f34.less (xx_skip (xx_ors (xx_or1 (xx_or1 xx_id)))), a13, a26, trivial⟩ ?_
 refine rest_seg (n := 10) (p := 6) (q := 10) [6, 7] [8, 9] [(6, 34), (7, 35)] [(0, 29), (1, 30), (2, 31), (3, 32), (4, 33), (5, 28), (6, 34), (7, 35), (8, 10), (9, 11)] [0, 0, 0, 6, 15, 31, 63, 63, 127, 511] (fun i_ => nth [undef, undef, undef, undef, undef, undef, (ptr L55.bN 0), (eN (newE D B (spoilL D B ls)))] i_) ([(Value.agg #[(eI a), (eI b), (eI c)]), u1, u2, (ptr gb 0), undef, undef, vF, (ptr hb 0), (ptr L39.bN 0), (eN (newE D B (spoilL D B ls))), undef, undef, undef, vT, vF, u2, (Value.bool fw), (Value.bool (!fw)), (Value.agg #[(eI a), (eI b), (eI c)]), (ag3 D B Q), (Value.tuple #[(ptr L39.bN 0), (eN (newE D B (spoilL D B ls)))]), (ag3 D B Q), (ag3 D B Q), u1, u33, (Value.tuple #[(ptr L39.bN 0), (eN (newE D B (spoilL D B ls)))]), (ptr L39.bN 0), (eN (newE D B (spoilL D B ls))), (Value.tuple #[(ptr L55.bN 0), (eN (newE D B (spoilL D B ls)))]), (ag3 D B Q), (ag3 D B Q), u1, u49, (Value.tuple #[(ptr L55.bN 0), (eN (newE D B (spoilL D B ls)))]), (ptr L55.bN 0), (eN (newE D B (spoilL D B ls)))] ++ (us 39)) (fun w_ => Ps (Ors L55.S (Ors L39.S (Or1 hb (Or1 gb No)))) (Seq kI ls u1) w_ ∧ Ps (Ors L55.S (Ors L39.S (Or1 hb (Or1 gb No)))) (Seq kAct la u2) w_ ∧ Ps (Ors L55.S (Ors L39.S (Or1 hb (Or1 gb (Old W.heap.size))))) (Seq (kA 2 eQ) (spoilL D B ls) u33) w_ ∧ Ps (Ors L55.S (Ors L39.S (Or1 hb (Or1 gb (Old W.heap.size))))) (Seq (kA 2 eQ) (spoilL D B ls) u49) w_ ∧ Arr 23 gb [(eI a), (eI b), (eI c)] w_ ∧ Arr 23 hb [(eN D), (eN B), (eN Q)] w_ ∧ True) kr rfl (by decide) kr kr (by rfl) kr kr kr kr kr (by decide) ?_ ?_
 ·
  rintro w_ ⟨h1, h2, f34, f50, a13, a26, _⟩
  refine fl_cons ⟨_, rfl, gd rfl (d_extract (v := (ptr L55.bN 0)) rfl rfl)⟩ ?_
  refine fl_cons ⟨_, rfl, gd rfl (d_extract (v := (eN (newE D B (spoilL D B ls)))) rfl rfl)⟩ ?_
  exact fl_nil
 refine wJ.is ⟨h1, h2, f34, f50, a13, a26, trivial⟩ rfl rfl (d_assign rfl) ?_
 refine wJ.is ⟨h1, h2, f34, f50, a13, a26, trivial⟩ rfl rfl (d_assign rfl) ?_
 refine wJ.flat ([(Value.agg #[(eI a), (eI b), (eI c)]), u1, u2, (ptr gb 0), undef, undef, vF, (ptr hb 0), (ptr L39.bN 0), (eN (newE D B (spoilL D B ls))), (ptr L55.bN 0), (eN (newE D B (spoilL D B ls))), undef, vT, vF, u2, (Value.bool fw), (Value.bool (!fw)), (Value.agg #[(eI a), (eI b), (eI c)]), (ag3 D B Q), (Value.tuple #[(ptr L39.bN 0), (eN (newE D B (spoilL D B ls)))]), (ag3 D B Q), (ag3 D B Q), u1, u33, (Value.tuple #[(ptr L39.bN 0), (eN (newE D B (spoilL D B ls)))]), (ptr L39.bN 0), (eN (newE D B (spoilL D B ls))), (Value.tuple #[(ptr L55.bN 0), (eN (newE D B (spoilL D B ls)))]), (ag3 D B Q), (ag3 D B Q), u1, u49, (Value.tuple #[(ptr L55.bN 0), (eN (newE D B (spoilL D B ls)))]), (ptr L55.bN 0), (eN (newE D B (spoilL D B ls)))] ++ (us 39)) kr ?_
 refine wJ.done ⟨h1, h2, f34, f50, a13, a26, trivial⟩ ?_
 refine rest_done rfl ?_
 refine tN (wQ (wQ (pL ?_)))
 refine wI (d_move rfl) ?_
 refine wI (d_move rfl) ?_
 refine wI (n_neq (a := (newE D B (spoilL D B ls))) (b := (newE D B (spoilL D B ls))) rfl rfl (by rw [decide_eq_true rfl] <;> rfl)) ?_
 refine wI (d_move rfl) ?_
 refine wG (d_move rfl) ?_
 refine wG (n_neq (a := (newE D B (spoilL D B ls))) (b := 0) rfl rfl (by rw [decide_eq_true (newE_spoil _ _ _)] <;> rfl)) ?_
 refine wI (d_pick (b := false) (v := vF) rfl rfl) ?_
 refine wF ([(Value.agg #[(eI a), (eI b), (eI c)]), u1, u2, (ptr gb 0), undef, undef, vF, (ptr hb 0), (ptr L39.bN 0), (eN (newE D B (spoilL D B ls))), (ptr L55.bN 0), (eN (newE D B (spoilL D B ls))), undef, vT, vF, u2, (Value.bool fw), (Value.bool (!fw)), (Value.agg #[(eI a), (eI b), (eI c)]), (ag3 D B Q), (Value.tuple #[(ptr L39.bN 0), (eN (newE D B (spoilL D B ls)))]), (ag3 D B Q), (ag3 D B Q), u1, u33, (Value.tuple #[(ptr L39.bN 0), (eN (newE D B (spoilL D B ls)))]), (ptr L39.bN 0), (eN (newE D B (spoilL D B ls))), (Value.tuple #[(ptr L55.bN 0), (eN (newE D B (spoilL D B ls)))]), (ag3 D B Q), (ag3 D B Q), u1, u49, (Value.tuple #[(ptr L55.bN 0), (eN (newE D B (spoilL D B ls)))]), (ptr L55.bN 0), (eN (newE D B (spoilL D B ls))), (eN (newE D B (spoilL D B ls))), (eN (newE D B (spoilL D B ls))), vF, vF, (eN (newE D B (spoilL D B ls))), vF, vF] ++ (us 32)) ?_
 refine wD (tN ?_)
 refine cond_f rfl ?_
 refine wK (tN (wQ (wQ ?_)))
 have sm_ : Sm s40 s56 := by rw [n43.e, n59.e]; exact sm_refl _
 have rg_ : s40.Rg := by rw [n43.e]; exact badS_rg _ _ _ _
 refine pL ?_
 refine wI (d_assign rfl) ?_
 refine wD (tN (wB ?_))
 refine loop2 (fun (s_ : (Nat) × (NS) × (NS)) => match s_ with | ⟨i, s, t⟩ => fun (z : Nat → Value) => (([(Value.agg #[(eI a), (eI b), (eI c)]), u1, u2, (ptr gb 0), undef, undef, (z 6), (ptr hb 0), (ptr L39.bN 0), (eN (newE D B (spoilL D B ls))), (ptr L55.bN 0), (eN (newE D B (spoilL D B ls))), (eN i), vT, vF, u2, (Value.bool fw), (Value.bool (!fw)), (Value.agg #[(eI a), (eI b), (eI c)]), (ag3 D B Q), (Value.tuple #[(ptr L39.bN 0), (eN (newE D B (spoilL D B ls)))]), (ag3 D B Q), (ag3 D B Q), u1, u33, (Value.tuple #[(ptr L39.bN 0), (eN (newE D B (spoilL D B ls)))]), (ptr L39.bN 0), (eN (newE D B (spoilL D B ls))), (Value.tuple #[(ptr L55.bN 0), (eN (newE D B (spoilL D B ls)))]), (ag3 D B Q), (ag3 D B Q), u1, u49, (Value.tuple #[(ptr L55.bN 0), (eN (newE D B (spoilL D B ls)))]), (ptr L55.bN 0), (eN (newE D B (spoilL D B ls))), (eN (newE D B (spoilL D B ls))), (eN (newE D B (spoilL D B ls))), vF, vF, (eN (newE D B (spoilL D B ls))), vF, vF] ++ (zs z 43 20 ++ (us 12))) : List Value)) (fun (s_ : (Nat) × (NS) × (NS)) => match s_ with | ⟨i, s, t⟩ => fun (w_ : World) => (i ≤ la.length) ∧ (Sm s t) ∧ (s.Rg) ∧ Only (Ors L55.S (Ors L39.S (Or1 hb (Or1 gb No)))) w51 w_ ∧ Arr 23 gb [(eI a), (eI b), (eI c)] w_ ∧ Arr 23 hb [(eN D), (eN B), (eN Q)] w_ ∧ Nd L39 s (Ors L55.S (Or1 hb (Or1 gb No))) w_ ∧ Rd L55 t (Ors L39.S (Or1 hb (Or1 gb No))) w_) (fun (s_ : (Nat) × (NS) × (NS)) => match s_ with | ⟨i, s, t⟩ => la.length - i) ⟨0, (s40), (s56)⟩ kr ?_ ?_
 ·
  refine ⟨?_, ?_, ?_, ?_, ?_, ?_, ?_, ?_⟩
  ·
   exact Nat.zero_le _
  ·
   exact sm_
  ·
   exact rg_
  ·
   exact Only.refl _ _
  ·
   exact a13
  ·
   exact a26
  ·
   exact a41
  ·
   exact a57
 rintro ⟨i, s, t⟩ z w61 ⟨hi, hSm, hRg, o60, a13, a26, a41, a57⟩
 (try dsimp only)
 replace h1 := h1.step o60 (ors_mono (ors_mono (or1_mono (or1_mono no_any))))
 replace h2 := h2.step o60 (ors_mono (ors_mono (or1_mono (or1_mono no_any))))
 replace f34 := f34.step o60 (ors_mono (ors_mono (or1_mono (or1_mono no_any))))
 replace f50 := f50.step o60 (ors_mono (ors_mono (or1_mono (or1_mono no_any))))
 replace oW := oW.tail o60 (tl_snew g_oW_L55 (tl_snew g_oW_L39 (tl_new g_oW_hb (tl_new g_oW_gb tl_no))))
 refine wQ (wQ (pL ?_))
 refine wI (d_move rfl) ?_
 refine wI (d_move rfl) ?_
 refine wI (d_lenS rfl Try.underlying55 rfl h2) ?_
 refine wI (n_lss (a := i) (b := la.length) rfl rfl rfl) ?_
 refine wD (tN ?_)
 refine cond_if rfl (fun c62 => ?_) (fun c62 => ?_)
 ·
  refine wK (tN (wQ (wB (wQ (pL ?_)))))
  refine wI (d_move rfl) ?_
  refine wI (d_move rfl) ?_
  refine wO (d_indexS (q := kAct) (xs := la) (v := (la.getD i AX0)) Try.underlying55 s_ti59 rfl h2 (show _ = Value.int _ (i : Int) from rfl) oo (g_at fo)) ?_
  rintro u63 _ ⟨f64, rfl⟩
  refine wF ([(Value.agg #[(eI a), (eI b), (eI c)]), u1, u2, (ptr gb 0), undef, undef, (z 6), (ptr hb 0), (ptr L39.bN 0), (eN (newE D B (spoilL D B ls))), (ptr L55.bN 0), (eN (newE D B (spoilL D B ls))), (eN i), vT, vF, u2, (Value.bool fw), (Value.bool (!fw)), (Value.agg #[(eI a), (eI b), (eI c)]), (ag3 D B Q), (Value.tuple #[(ptr L39.bN 0), (eN (newE D B (spoilL D B ls)))]), (ag3 D B Q), (ag3 D B Q), u1, u33, (Value.tuple #[(ptr L39.bN 0), (eN (newE D B (spoilL D B ls)))]), (ptr L39.bN 0), (eN (newE D B (spoilL D B ls))), (Value.tuple #[(ptr L55.bN 0), (eN (newE D B (spoilL D B ls)))]), (ag3 D B Q), (ag3 D B Q), u1, u49, (Value.tuple #[(ptr L55.bN 0), (eN (newE D B (spoilL D B ls)))]), (ptr L55.bN 0), (eN (newE D B (spoilL D B ls))), (eN (newE D B (spoilL D B ls))), (eN (newE D B (spoilL D B ls))), vF, vF, (eN (newE D B (spoilL D B ls))), vF, vF, (eN i), u2, (eN la.length), (Value.bool (decide (i < la.length))), (z 47), (z 48), u2, (eN i), u63] ++ (zs z 52 11 ++ (us 12))) ?_
  have f65 := act_b f64
  have f66 := act_l f64
  refine wI (d_loadAct ⟨_, Try.underlying59, rfl⟩ s_ti59 rfl f64 rfl) ?_
  refine wI (d_move rfl) ?_
  refine wI (d_move rfl) ?_
  refine wO (d_call (xl := [.tmp 52, .tmp 53, .tmp 54]) (al := [(Value.agg #[(eI ((la.getD i AX0).k)), (eI ((la.getD i AX0).die)), (eI ((la.getD i AX0).block)), (eI ((la.getD i AX0).page)), (eI ((la.getD i AX0).n)), (la.getD i AX0).vb, (la.getD i AX0).vl]), (ptr L39.bN 0), (ptr L55.bN 0)]) Try.func32 kr rfl rfl rfl (actDo_ok ((la.getD i AX0).k) ((la.getD i AX0).die) ((la.getD i AX0).block) ((la.getD i AX0).page) ((la.getD i AX0).n) ((la.getD i AX0).b) ((la.getD i AX0).l) ((la.getD i AX0).vb) ((la.getD i AX0).vl) L39 L55 s t _ (a41.less (Y := Ors L55.S (Or1 hb (Or1 gb No))) (by intro k _ h; simp only [Ors, Or1, Orq] at h ⊢; grind)) (a57.less (Y := Ors L39.S (Or1 hb (Or1 gb No))) (by intro k _ h; simp only [Ors, Or1, Orq] at h ⊢; grind)) hSm hRg (lt_or1 a26.lt (lt_or1 a13.lt lt_no)) (f65.less (fun k _ h => h.elim ((subs sub1) k) (fun h => h.elim (sub1 k) (fun t => t.elim)))) (f66.less (fun k _ h => h.elim ((subs sub1) k) (fun h => h.elim (sub1 k) (fun t => t.elim)))) (hfw (by simpa using c17) i oo).1 (hfw (by simpa using c17) i oo).2 (r2 _ (by rw [List.getD_eq_getElem?_getD, List.getElem?_eq_getElem oo]; exact List.getElem_mem _)))) ?_
  rintro _ w67 ⟨s69, t70, rfl, a71, a72, sm73, rg74, o68⟩
  replace a13 := a13.step o68 (not_ors (a41.dis _ (inS (in2 in1))) (not_ors (a57.dis _ (inS (in2 in1))) not_no))
  replace a26 := a26.step o68 (not_ors (a41.dis _ (inS in1)) (not_ors (a57.dis _ (inS in1)) not_no))
  replace h1 := h1.step o68 (fun k h => h.elim ((subs sub1) k) (fun h => h.elim (sub1 k) (fun t => t.elim)))
  replace h2 := h2.step o68 (fun k h => h.elim ((subs sub1) k) (fun h => h.elim (sub1 k) (fun t => t.elim)))
  replace f34 := f34.step o68 (fun k h => h.elim ((subs sub1) k) (fun h => h.elim (sub1 k) (fun t => t.elim)))
  replace f50 := f50.step o68 (fun k h => h.elim ((subs sub1) k) (fun h => h.elim (sub1 k) (fun t => t.elim)))
  replace f64 := f64.step o68 (fun k h => h.elim ((subs sub1) k) (fun h => h.elim (sub1 k) (fun t => t.elim)))
  replace f65 := f65.step o68 (fun k h => h.elim ((subs sub1) k) (fun h => h.elim (sub1 k) (fun t => t.elim)))
  replace f66 := f66.step o68 (fun k h => h.elim ((subs sub1) k) (fun h => h.elim (sub1 k) (fun t => t.elim)))
  replace oW := oW.tail o68 (fun k hk e => e.elim (fun e => absurd (g_oW_L39 k e) oo) (fun e => e.elim (fun e => absurd (g_oW_L55 k e) oo) (fun t => t.elim)))
  replace o60 := o60.tail o68 (fun k hk e => e.elim (fun e => (subs sub1) k e) (fun e => e.elim (fun e => sub1 k e) (fun t => t.elim)))
  replace a41 := a71.less (Y := (Ors L55.S (Or1 hb (Or1 gb No)))) (by intro k _ h; simp only [Ors, Or1, Orq] at h ⊢; grind)
  replace a57 := a72.less (Y := (Ors L39.S (Or1 hb (Or1 gb No)))) (by intro k _ h; simp only [Ors, Or1, Orq] at h ⊢; grind)
  refine wI (d_not rfl rfl) ?_
  refine wI (d_move rfl) ?_
  refine wG (d_move rfl) ?_
  refine wF ([(Value.agg #[(eI a), (eI b), (eI c)]), u1, u2, (ptr gb 0), undef, undef, (z 6), (ptr hb 0), (ptr L39.bN 0), (eN (newE D B (spoilL D B ls))), (ptr L55.bN 0), (eN (newE D B (spoilL D B ls))), (eN i), vT, vF, u2, (Value.bool fw), (Value.bool (!fw)), (Value.agg #[(eI a), (eI b), (eI c)]), (ag3 D B Q), (Value.tuple #[(ptr L39.bN 0), (eN (newE D B (spoilL D B ls)))]), (ag3 D B Q), (ag3 D B Q), u1, u33, (Value.tuple #[(ptr L39.bN 0), (eN (newE D B (spoilL D B ls)))]), (ptr L39.bN 0), (eN (newE D B (spoilL D B ls))), (Value.tuple #[(ptr L55.bN 0), (eN (newE D B (spoilL D B ls)))]), (ag3 D B Q), (ag3 D B Q), u1, u49, (Value.tuple #[(ptr L55.bN 0), (eN (newE D B (spoilL D B ls)))]), (ptr L55.bN 0), (eN (newE D B (spoilL D B ls))), (eN (newE D B (spoilL D B ls))), (eN (newE D B (spoilL D B ls))), vF, vF, (eN (newE D B (spoilL D B ls))), vF, vF, (eN i), u2, (eN la.length), (Value.bool (decide (i < la.length))), (z 47), (z 48), u2, (eN i), u63, (Value.agg #[(eI ((la.getD i AX0).k)), (eI ((la.getD i AX0).die)), (eI ((la.getD i AX0).block)), (eI ((la.getD i AX0).page)), (eI ((la.getD i AX0).n)), (la.getD i AX0).vb, (la.getD i AX0).vl]), (ptr L39.bN 0), (ptr L55.bN 0), vT, vF, vF, (ptr L39.bN 0), (z 59), (z 60), (z 61), (z 62)] ++ (us 12)) ?_
  refine wG (d_move rfl) ?_
  refine wpL.on rfl rfl rfl (nb rfl) rfl (d_call (xl := [.tmp 58, .tmp 59]) (al := [(ptr L39.bN 0), (ptr L55.bN 0)]) Try.func33 kr rfl rfl rfl (law7Same_ok L39 L55 s69 t70 _ (a41.less (Y := Ors L55.S (Or1 hb (Or1 gb No))) (by intro k _ h; simp only [Ors, Or1, Orq] at h ⊢; grind)) (a57.less (Y := Ors L39.S (Or1 hb (Or1 gb No))) (by intro k _ h; simp only [Ors, Or1, Orq] at h ⊢; grind)) sm73)) ?_
  rintro _ w75 ⟨rfl, o76⟩
  replace h1 := h1.step0 o76
  replace h2 := h2.step0 o76
  replace f34 := f34.step0 o76
  replace a41 := a41.step0 o76
  replace f50 := f50.step0 o76
  replace a57 := a57.step0 o76
  replace f64 := f64.step0 o76
  replace f65 := f65.step0 o76
  replace f66 := f66.step0 o76
  replace a13 := a13.step0 o76
  replace a26 := a26.step0 o76
  replace oW := oW.tail0 o76
  replace o60 := o60.tail0 o76
  refine wG (d_not rfl rfl) ?_
  refine wI (d_pick (b := false) (v := vF) rfl rfl) ?_
  refine wD (tN ?_)
  refine cond_f rfl ?_
  refine wK ?_
  refine inb_n (tN ?_)
  refine pL ?_
  refine wI (d_move rfl) ?_
  refine wI (n_add (a := i) (b := 1) rfl rfl oo) ?_
  refine wI (d_assign rfl) ?_
  refine wD (tN ?_)
  refine ⟨_, ⟨i + 1, (s69), (t70)⟩, rfl, kr, ⟨?_, ?_, ?_, ?_, ?_, ?_, ?_, ?_⟩, ?_⟩
  ·
   (try dsimp only)
   all_goals (omega)
  ·
   exact sm73
  ·
   exact rg74
  ·
   exact o60
  ·
   exact a13
  ·
   exact a26
  ·
   exact a41
  ·
   exact a57
  ·
   (try dsimp only)
   all_goals (omega)
 refine wpIn_exit ?_
 refine then_x (then_x (inb_e ?_))
 refine tN (wQ (pL ?_))
 refine wI (d_move rfl) ?_
 refine wO (d_call (xl := [.tmp 63]) (al := [(ptr L39.bN 0)]) Try.func26 kr rfl rfl rfl (power_ok L39 s _ a41)) ?_
 rintro u80 w77 ⟨a79, o78⟩
 replace a13 := a13.step o78 (a41.dis _ (inS (in2 in1)))
 replace a26 := a26.step o78 (a41.dis _ (inS in1))
 replace h1 := h1.step o78 (subs sub1)
 replace h2 := h2.step o78 (subs sub1)
 replace f34 := f34.step o78 (subs sub1)
 replace f50 := f50.step o78 (subs sub1)
 replace a57 := a57.step o78 sub1
 replace oW := oW.tail o78 (fun k hk e => by have := g_oW_L39 k e; omega)
 replace o60 := o60.tail o78 (fun k _ e => (subs sub1) k e)
 replace a41 := a79
 refine wD (tN (wQ ?_))
 refine wp_eq (l' := ([(Value.agg #[(eI a), (eI b), (eI c)]), u1, u2, (ptr gb 0), undef, undef, (z 6), (ptr hb 0), (ptr L39.bN 0), (eN (newE D B (spoilL D B ls))), (ptr L55.bN 0), (eN (newE D B (spoilL D B ls))), (eN i), vT, vF, u2, (Value.bool fw), (Value.bool (!fw)), (Value.agg #[(eI a), (eI b), (eI c)]), (ag3 D B Q), (Value.tuple #[(ptr L39.bN 0), (eN (newE D B (spoilL D B ls)))]), (ag3 D B Q), (ag3 D B Q), u1, u33, (Value.tuple #[(ptr L39.bN 0), (eN (newE D B (spoilL D B ls)))]), (ptr L39.bN 0), (eN (newE D B (spoilL D B ls))), (Value.tuple #[(ptr L55.bN 0), (eN (newE D B (spoilL D B ls)))]), (ag3 D B Q), (ag3 D B Q), u1, u49, (Value.tuple #[(ptr L55.bN 0), (eN (newE D B (spoilL D B ls)))]), (ptr L55.bN 0), (eN (newE D B (spoilL D B ls))), (eN (newE D B (spoilL D B ls))), (eN (newE D B (spoilL D B ls))), vF, vF, (eN (newE D B (spoilL D B ls))), vF, vF, (eN i), u2, (eN la.length), (Value.bool (decide (i < la.length)))] ++ (zs z 47 16 ++ [(ptr L39.bN 0), u80] ++ (us 10)))) rfl ?_
 refine pL ?_
 refine wI (d_move rfl) ?_
 refine wO (d_call (xl := [.tmp 65]) (al := [(ptr L55.bN 0)]) Try.func34 kr rfl rfl rfl (refPower_ok L55 t _ a57)) ?_
 rintro u84 w81 ⟨a83, o82⟩
 replace a13 := a13.step o82 (a57.dis _ (inS (in2 in1)))
 replace a26 := a26.step o82 (a57.dis _ (inS in1))
 replace h1 := h1.step o82 sub1
 replace h2 := h2.step o82 sub1
 replace f34 := f34.step o82 sub1
 replace a41 := a41.step o82 sub1
 replace f50 := f50.step o82 sub1
 replace oW := oW.tail o82 (fun k hk e => by have := g_oW_L55 k e; omega)
 replace o60 := o60.tail o82 (fun k _ e => sub1 k e)
 replace a57 := a83
 refine wF ([(Value.agg #[(eI a), (eI b), (eI c)]), u1, u2, (ptr gb 0), undef, undef, (z 6), (ptr hb 0), (ptr L39.bN 0), (eN (newE D B (spoilL D B ls))), (ptr L55.bN 0), (eN (newE D B (spoilL D B ls))), (eN i), vT, vF, u2, (Value.bool fw), (Value.bool (!fw)), (Value.agg #[(eI a), (eI b), (eI c)]), (ag3 D B Q), (Value.tuple #[(ptr L39.bN 0), (eN (newE D B (spoilL D B ls)))]), (ag3 D B Q), (ag3 D B Q), u1, u33, (Value.tuple #[(ptr L39.bN 0), (eN (newE D B (spoilL D B ls)))]), (ptr L39.bN 0), (eN (newE D B (spoilL D B ls))), (Value.tuple #[(ptr L55.bN 0), (eN (newE D B (spoilL D B ls)))]), (ag3 D B Q), (ag3 D B Q), u1, u49, (Value.tuple #[(ptr L55.bN 0), (eN (newE D B (spoilL D B ls)))]), (ptr L55.bN 0), (eN (newE D B (spoilL D B ls))), (eN (newE D B (spoilL D B ls))), (eN (newE D B (spoilL D B ls))), vF, vF, (eN (newE D B (spoilL D B ls))), vF, vF, (eN i), u2, (eN la.length), (Value.bool (decide (i < la.length)))] ++ (zs z 47 16 ++ [(ptr L39.bN 0), u80, (ptr L55.bN 0), u84] ++ (us 8))) ?_
 refine wD (tN (wQ (pL ?_)))
 refine wI (d_move rfl) ?_
 refine wI (d_move rfl) ?_
 refine wO (d_call (xl := [.tmp 67, .tmp 68]) (al := [(ptr L39.bN 0), (ptr L55.bN 0)]) Try.func35 kr rfl rfl rfl (law7Pages_ok L39 L55 s.power t.powerX _ (a41.less (Y := Ors L55.S (Or1 hb (Or1 gb No))) (by intro k _ h; simp only [Ors, Or1, Orq] at h ⊢; grind)) (a57.less (Y := Ors L39.S (Or1 hb (Or1 gb No))) (by intro k _ h; simp only [Ors, Or1, Orq] at h ⊢; grind)) hSm.power (rg_power hRg) (lt_or1 a26.lt (lt_or1 a13.lt lt_no)))) ?_
 rintro _ w85 ⟨s87, t88, rfl, a89, a90, sm91, rg92, o86⟩
 replace a13 := a13.step o86 (not_ors (a41.dis _ (inS (in2 in1))) (not_ors (a57.dis _ (inS (in2 in1))) not_no))
 replace a26 := a26.step o86 (not_ors (a41.dis _ (inS in1)) (not_ors (a57.dis _ (inS in1)) not_no))
 replace h1 := h1.step o86 (fun k h => h.elim ((subs sub1) k) (fun h => h.elim (sub1 k) (fun t => t.elim)))
 replace h2 := h2.step o86 (fun k h => h.elim ((subs sub1) k) (fun h => h.elim (sub1 k) (fun t => t.elim)))
 replace f34 := f34.step o86 (fun k h => h.elim ((subs sub1) k) (fun h => h.elim (sub1 k) (fun t => t.elim)))
 replace f50 := f50.step o86 (fun k h => h.elim ((subs sub1) k) (fun h => h.elim (sub1 k) (fun t => t.elim)))
 replace oW := oW.tail o86 (fun k hk e => e.elim (fun e => absurd (g_oW_L39 k e) oo) (fun e => e.elim (fun e => absurd (g_oW_L55 k e) oo) (fun t => t.elim)))
 replace o60 := o60.tail o86 (fun k hk e => e.elim (fun e => (subs sub1) k e) (fun e => e.elim (fun e => sub1 k e) (fun t => t.elim)))
 replace a41 := a89.less (Y := (Ors L55.S (Or1 hb (Or1 gb No)))) (by intro k _ h; simp only [Ors, Or1, Orq] at h ⊢; grind)
 replace a57 := a90.less (Y := (Ors L39.S (Or1 hb (Or1 gb No)))) (by intro k _ h; simp only [Ors, Or1, Orq] at h ⊢; grind)
 refine wI (d_move rfl) ?_
 refine wG (d_move rfl) ?_
 refine wG (d_move rfl) ?_
 refine wpL.on rfl rfl rfl (nb rfl) rfl (d_call (xl := [.tmp 71, .tmp 72]) (al := [(ptr L39.bN 0), (ptr L55.bN 0)]) Try.func33 kr rfl rfl rfl (law7Same_ok L39 L55 s87 t88 _ (a41.less (Y := Ors L55.S (Or1 hb (Or1 gb No))) (by intro k _ h; simp only [Ors, Or1, Orq] at h ⊢; grind)) (a57.less (Y := Ors L39.S (Or1 hb (Or1 gb No))) (by intro k _ h; simp only [Ors, Or1, Orq] at h ⊢; grind)) sm91)) ?_
 rintro _ w93 ⟨rfl, o94⟩
 replace h1 := h1.step0 o94
 replace h2 := h2.step0 o94
 replace f34 := f34.step0 o94
 replace a41 := a41.step0 o94
 replace f50 := f50.step0 o94
 replace a57 := a57.step0 o94
 replace a13 := a13.step0 o94
 replace a26 := a26.step0 o94
 replace oW := oW.tail0 o94
 replace o60 := o60.tail0 o94
 refine wF ([(Value.agg #[(eI a), (eI b), (eI c)]), u1, u2, (ptr gb 0), undef, undef, (z 6), (ptr hb 0), (ptr L39.bN 0), (eN (newE D B (spoilL D B ls))), (ptr L55.bN 0), (eN (newE D B (spoilL D B ls))), (eN i), vT, vF, u2, (Value.bool fw), (Value.bool (!fw)), (Value.agg #[(eI a), (eI b), (eI c)]), (ag3 D B Q), (Value.tuple #[(ptr L39.bN 0), (eN (newE D B (spoilL D B ls)))]), (ag3 D B Q), (ag3 D B Q), u1, u33, (Value.tuple #[(ptr L39.bN 0), (eN (newE D B (spoilL D B ls)))]), (ptr L39.bN 0), (eN (newE D B (spoilL D B ls))), (Value.tuple #[(ptr L55.bN 0), (eN (newE D B (spoilL D B ls)))]), (ag3 D B Q), (ag3 D B Q), u1, u49, (Value.tuple #[(ptr L55.bN 0), (eN (newE D B (spoilL D B ls)))]), (ptr L55.bN 0), (eN (newE D B (spoilL D B ls))), (eN (newE D B (spoilL D B ls))), (eN (newE D B (spoilL D B ls))), vF, vF, (eN (newE D B (spoilL D B ls))), vF, vF, (eN i), u2, (eN la.length), (Value.bool (decide (i < la.length)))] ++ (zs z 47 16 ++ [(ptr L39.bN 0), u80, (ptr L55.bN 0), u84, (ptr L39.bN 0), (ptr L55.bN 0), vT, vT, (ptr L39.bN 0), (ptr L55.bN 0), vT, undef])) ?_
 refine wI (d_pick (b := true) (v := vT) rfl rfl) ?_
 refine wI (d_assign rfl) ?_
 refine wD (tN ?_)
 refine wpIn_ret ?_
 refine leave0 (v := vT) (res1 Try.results10 rfl) ?_
 exact ⟨rfl, oW⟩
end Go.Proofs.YtpamdlnobekihaaF
namespace Go.Proofs.YtpamdlnobekihaaF
open Go
section
open Go.ChangeShapes Go.WideShapes Go.ChangeAt
variable {H : Type} {enc : TypeId × Value → H} {P : Program} {w : World} {base : Nat} {spare : Nat → Bool} {held : Bool} {t ti : TypeId} {f0 f1 f2 : Field}
theorem open_g3 {r : Reach} {b0 : Nat} {v : Value} {d : DataW H} {ps : List MemPlace} (ht : P.underlying t = some (.struct #[f0, f1, f2])) (hi : P.underlying ti = some (.int .i64)) (e0 : f0.type = ti ∧ f0.offset = 0) (e1 : f1.type = ti ∧ f1.offset = 1) (e2 : f2.type = ti ∧ f2.offset = 2) (hc : P.cellsOf ti = 1) (hc3 : P.cellsOf t = 3)
  (hval : Value.okWide P w r b0 t v) (hd : DataW.Trod enc P w base spare held t v d ps) :
  ∃ a b c, v = .agg #[.int .i64 a, .int .i64 b, .int .i64 c] ∧ d = .agg [.lit (.int .i64 a), .lit (.int .i64 b), .lit (.int .i64 c)] ∧ ps = [] ∧ (Lit.int .i64 a).wf = true ∧ (Lit.int .i64 b).wf = true ∧ (Lit.int .i64 c).wf = true := by
 obtain ⟨cs, rfl, hs⟩ := okWide_struct ht hval
 obtain ⟨fuel, hf⟩ := hd
 obtain ⟨xs, n, _, hx, hl, hlen, hp⟩ := DataW.trod_struct ht hf
 match xs, hlen with
 | [y0, y1, y2], _ =>
  have p0 := hp 0 f0 rfl
  have p1 := hp 1 f1 rfl
  have p2 := hp 2 f2 rfl
  rw [e0.1, e0.2, hc] at p0
  rw [e1.1, e1.2, hc] at p1
  rw [e2.1, e2.2, hc] at p2
  have hcl : (Value.agg cs).cells.toList = cs.toList := rfl
  rw [hcl] at p0 p1 p2 hl
  rw [hc3] at hl
  obtain ⟨a, h0, g0, w0⟩ := DataW.trod_int hi (by simpa using p0)
  obtain ⟨b, h1, g1, w1⟩ := DataW.trod_int hi (by simpa using p1)
  obtain ⟨c, h2, g2, w2⟩ := DataW.trod_int hi (by simpa using p2)
  have hcs : cs.toList = [.int .i64 a, .int .i64 b, .int .i64 c] := by
   match h : cs.toList, hl with
   | [x, y, z], _ =>
    rw [h] at h0 h1 h2
    simp at h0 h1 h2
    rw [h0, h1, h2]
  have hcs' : cs = #[.int .i64 a, .int .i64 b, .int .i64 c] := by apply Array.ext'; simpa using hcs
  refine ⟨a, b, c, by rw [hcs'], ?_, ?_, w0, w1, w2⟩
  ·have := congrArg Prod.fst hx
   simp at this
   rw [this, g0, g1, g2]
  ·have := congrArg Prod.snd hx
   simp at this
   rw [this, g0, g1, g2]
   rfl
theorem shut_g3 {a b c : Int} (ht : P.underlying t = some (.struct #[f0, f1, f2])) (hi : P.underlying ti = some (.int .i64)) (e0 : f0.type = ti ∧ f0.offset = 0) (e1 : f1.type = ti ∧ f1.offset = 1) (e2 : f2.type = ti ∧ f2.offset = 2) (hc : P.cellsOf ti = 1) (hc3 : P.cellsOf t = 3)
  (w0 : (Lit.int .i64 a).wf = true) (w1 : (Lit.int .i64 b).wf = true) (w2 : (Lit.int .i64 c).wf = true) : DataW.Trod enc P w base spare held t (.agg #[.int .i64 a, .int .i64 b, .int .i64 c]) (.agg [.lit (.int .i64 a), .lit (.int .i64 b), .lit (.int .i64 c)]) [] := by
 refine ⟨2, ?_⟩
 have := trod_struct_mk (enc := enc) (w := w) (base := base) (spare := spare) (held := held) (n := 1) (t := t) (cs := [.int .i64 a, .int .i64 b, .int .i64 c]) (xs := [(.lit (.int .i64 a), []), (.lit (.int .i64 b), []), (.lit (.int .i64 c), [])]) ht (by rw [hc3]; rfl) (by
  simp only [List.mapM_cons, List.mapM_nil, e0.1, e0.2, e1.1, e1.2, e2.1, e2.2, hc]
  have t0 := trod_int_mk (enc := enc) (w := w) (base := base) (spare := spare) (held := held) (n := a) 0 hi w0
  have t1 := trod_int_mk (enc := enc) (w := w) (base := base) (spare := spare) (held := held) (n := b) 0 hi w1
  have t2 := trod_int_mk (enc := enc) (w := w) (base := base) (spare := spare) (held := held) (n := c) 0 hi w2
  simp at t0 t1 t2 ⊢
  simp [t0, t1, t2])
 show DataW.trod enc P w base spare held 2 t [.int .i64 a, .int .i64 b, .int .i64 c] = some _
 simpa using this
end
end Go.Proofs.YtpamdlnobekihaaF
namespace Go.Proofs.YtpamdlnobekihaaF
open Go Shelf YtpamdlnobekihaaS Go.RowKit Ram
section
variable {H : Type} {enc : TypeId × Value → H} {P : Program} {W : World} {base : Nat} {held : Bool} {t e ti t8 tb tl : TypeId} {f0 f1 f2 f3 f4 f5 f6 : Field}
theorem open_row {k : IntKind} {fuel : Nat} {cs : List Value} {x : DataW H × List MemPlace} {t e : TypeId} (ht : P.underlying t = some (.slice e)) (he : P.underlying e = some (.int k)) (hc : P.cellsOf e = 1)
  (h : DataW.trod enc P W base (fun _ => true) held fuel t cs = some x) : ∃ a len cap zs, cs = [.slice a len cap] ∧ IsRow k W a len cap zs := by
 rcases ChangeShapes.open_ints ht he hc h with ⟨hcs, _⟩ | ⟨x, l, c, zs, hcs, _, hl, hm, hz, _, hcell, hwz⟩
 ·exact ⟨none, 0, 0, [], hcs, .inl ⟨rfl, rfl, rfl, rfl⟩⟩
 ·exact ⟨some x, l, c, zs, hcs, .inr ⟨_, rfl, hl, by simpa using hz, hcell, hwz⟩⟩
def GoodA (W : World) (p : Addr) (v : AX) : Prop := (∀ j y, (eAct v)[j]? = some y → W.cell? (p.add j) = some y) ∧ Ps No (Seq kB v.b v.vb) W ∧ Ps No (Seq kI v.l v.vl) W ∧ ∀ y ∈ v.l, -9223372036854775808 ≤ y ∧ y < 9223372036854775808
theorem open_act {fuel : Nat} {cs : List Value} {x : DataW H × List MemPlace} {p : Addr} (he : P.underlying e = some (.struct #[f0, f1, f2, f3, f4, f5, f6])) (hi : P.underlying ti = some (.int .i64)) (h8 : P.underlying t8 = some (.int .u8)) (hb : P.underlying tb = some (.slice t8)) (hl : P.underlying tl = some (.slice ti))
  (ci : P.cellsOf ti = 1) (c8 : P.cellsOf t8 = 1) (cb : P.cellsOf tb = 1) (cl : P.cellsOf tl = 1) (c7 : P.cellsOf e = 7)
  (e0 : f0.type = ti ∧ f0.offset = 0) (e1 : f1.type = ti ∧ f1.offset = 1) (e2 : f2.type = ti ∧ f2.offset = 2) (e3 : f3.type = ti ∧ f3.offset = 3) (e4 : f4.type = ti ∧ f4.offset = 4) (e5 : f5.type = tb ∧ f5.offset = 5) (e6 : f6.type = tl ∧ f6.offset = 6)
  (hcs : ∀ j y, cs[j]? = some y → W.cell? (p.add j) = some y) (h : DataW.trod enc P W base (fun _ => true) held fuel e cs = some x) : ∃ v : AX, GoodA W p v := by
 obtain ⟨xs, n, _, hx, hlen, hsz, hp⟩ := DataW.trod_struct he h
 rw [c7] at hlen
 have hp7 : xs.length = 7 := hsz
 have get : ∀ (i : Nat) (f : Field) (tt : TypeId), (#[f0, f1, f2, f3, f4, f5, f6] : Array Field)[i]? = some f → f.type = tt ∧ f.offset = i → P.cellsOf tt = 1 → ∃ y, DataW.trod enc P W base (fun _ => true) held n tt ((cs.drop i).take 1) = some y := by
  intro i f tt hf hft hc
  have h1 := hp i f hf
  rw [hft.1, hft.2, hc] at h1
  have hlt : i < xs.length := by
   have := (Array.getElem?_eq_some_iff.1 hf).1
   simp at this
   omega
  rw [List.getElem?_eq_getElem hlt] at h1
  exact ⟨_, h1⟩
 obtain ⟨y0, g0⟩ := get 0 f0 ti rfl e0 ci
 obtain ⟨y1, g1⟩ := get 1 f1 ti rfl e1 ci
 obtain ⟨y2, g2⟩ := get 2 f2 ti rfl e2 ci
 obtain ⟨y3, g3⟩ := get 3 f3 ti rfl e3 ci
 obtain ⟨y4, g4⟩ := get 4 f4 ti rfl e4 ci
 obtain ⟨y5, g5⟩ := get 5 f5 tb rfl e5 cb
 obtain ⟨y6, g6⟩ := get 6 f6 tl rfl e6 cl
 obtain ⟨n0, a0, _, _⟩ := DataW.trod_int hi g0
 obtain ⟨n1, a1, _, _⟩ := DataW.trod_int hi g1
 obtain ⟨n2, a2, _, _⟩ := DataW.trod_int hi g2
 obtain ⟨n3, a3, _, _⟩ := DataW.trod_int hi g3
 obtain ⟨n4, a4, _, _⟩ := DataW.trod_int hi g4
 obtain ⟨q5, l5, p5, z5, a5, r5⟩ := open_row hb h8 c8 g5
 obtain ⟨q6, l6, p6, z6, a6, r6⟩ := open_row hl hi ci g6
 obtain ⟨xb, _, sb⟩ := r5.seq dec_u8
 obtain ⟨xl, _, sl, rl⟩ := r6.seqI
 match cs, hlen with
 | [v0, v1, v2, v3, v4, v5, v6], _ =>
  simp at a0 a1 a2 a3 a4 a5 a6
  subst a0; subst a1; subst a2; subst a3; subst a4; subst a5; subst a6
  exact ⟨⟨n0, n1, n2, n3, n4, xb, xl, _, _⟩, fun j y hj => hcs j y hj, sb, sl, rl⟩
theorem open_acts {a : Option Addr} {len cap : Nat} {d : DataW H} {ps : List MemPlace} (ht : P.underlying t = some (.slice e)) (he : P.underlying e = some (.struct #[f0, f1, f2, f3, f4, f5, f6])) (hi : P.underlying ti = some (.int .i64)) (h8 : P.underlying t8 = some (.int .u8)) (hb : P.underlying tb = some (.slice t8)) (hl : P.underlying tl = some (.slice ti))
  (ci : P.cellsOf ti = 1) (c8 : P.cellsOf t8 = 1) (cb : P.cellsOf tb = 1) (cl : P.cellsOf tl = 1) (c7 : P.cellsOf e = 7)
  (e0 : f0.type = ti ∧ f0.offset = 0) (e1 : f1.type = ti ∧ f1.offset = 1) (e2 : f2.type = ti ∧ f2.offset = 2) (e3 : f3.type = ti ∧ f3.offset = 3) (e4 : f4.type = ti ∧ f4.offset = 4) (e5 : f5.type = tb ∧ f5.offset = 5) (e6 : f6.type = tl ∧ f6.offset = 6)
  (hd : DataW.Trod enc P W base (fun _ => true) held t (.slice a len cap) d ps) : ∃ xs : List AX, xs.length = len ∧ len ≤ 9223372036854775807 ∧ Ps No (Seq kAct xs (.slice a len cap)) W ∧ ∀ x ∈ xs, ∀ y ∈ x.l, -9223372036854775808 ≤ y ∧ y < 9223372036854775808 := by
 obtain ⟨fuel, hf⟩ := hd
 rcases DataW.trod_slice ht hf with ⟨h0, _⟩ | ⟨x, l, c, elems, rest, n, _, hcs, _, hbb, hlc, hm, hlen, hel, _, _⟩
 ·simp [Value.cells] at h0
  obtain ⟨rfl, rfl, rfl⟩ := h0
  exact ⟨[], rfl, by decide, Ps.mk0 fun w => ⟨none, 0, rfl, Nat.le_refl _, fun i x h => by simp at h⟩, fun _ h => by cases h⟩
 ·simp [Value.cells] at hcs
  obtain ⟨rfl, rfl, rfl⟩ := hcs
  have each : ∀ i, ∃ v : AX, i < len → GoodA W (x.add (i * 7)) v := by
   intro i
   by_cases hi' : i < len
   ·have h1 := hel i hi'
    rw [List.getElem?_eq_getElem (by omega), c7, Option.bind_eq_some_iff] at h1
    obtain ⟨cs, h2, h3⟩ := h1
    obtain ⟨_, h4, h5⟩ := World.cells?_some h2
    obtain ⟨v, hv⟩ := open_act (p := x.add (i * 7)) he hi h8 hb hl ci c8 cb cl c7 e0 e1 e2 e3 e4 e5 e6 (fun j y hj => by
     have hlt := (List.getElem?_eq_some_iff.1 hj).1
     rw [h5 j (by omega)]; exact hj) h3
    exact ⟨v, fun _ => hv⟩
   ·exact ⟨AX0, fun h => absurd h hi'⟩
  have good : ∀ i, i < len → GoodA W (x.add (i * 7)) (Classical.choose (each i)) := fun i hi' => Classical.choose_spec (each i) hi'
  refine ⟨(List.range len).map fun i => Classical.choose (each i), by simp, Nat.le_trans hlc hm, fun W' hW => ⟨_, cap, by simp, by simpa using hlc, fun i v hv => ⟨x, rfl, ?_⟩⟩, ?_⟩
  ·rw [List.getElem?_map] at hv
   by_cases hi' : i < len
   ·rw [List.getElem?_range hi'] at hv
    injection hv with hv
    subst hv
    obtain ⟨h1, h2, h3, _⟩ := good i hi'
    refine ⟨fun j y hj => ?_, h2 W' hW, h3 W' hW⟩
    have h4 := h1 j y hj
    have hlt : ((x.add (i * 7)).add j).block < W.heap.size := cells_of_cell h4 |>.elim fun _ hx => (Array.getElem?_eq_some_iff.1 hx.1).1
    show W'.cell? ((x.add (i * 7)).add j) = some y
    rw [World.cell?_of_block (w := W) (hW _ hlt id)]
    exact h4
   ·rw [List.getElem?_eq_none (by simpa using hi')] at hv
    cases hv
  ·intro v hv
   obtain ⟨i, hi', rfl⟩ := List.mem_map.1 hv
   exact (good i (by simpa using hi')).2.2.2
end
end Go.Proofs.YtpamdlnobekihaaF
