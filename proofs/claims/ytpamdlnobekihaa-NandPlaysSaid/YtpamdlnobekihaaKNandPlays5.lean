/- Part of the proof of the law NandPlays, for all its inputs. -/
import Derived.Test.YtpamdlnobekihaaKNandPlays4
set_option linter.unusedVariables false
set_option linter.unusedSimpArgs false
set_option maxRecDepth 20000
set_option maxHeartbeats 4000000
namespace Go.Proofs.YtpamdlnobekihaaF
open Go Shelf YtpamdlnobekihaaS Ram
theorem law7MakeE_ok (a b c : Int) (W : World) : CW Try.prog 15 #[(.agg #[(eI a), (eI b), (eI c)])] W (Rt (fun u w => ∃ D B Q : Nat, u = .agg #[eN D, eN B, eN Q] ∧ (6 ≤ D ∧ D ≤ 8 ∧ 8 ≤ B ∧ B ≤ 12 ∧ 4 ≤ Q ∧ Q ≤ 8) ∧ Only No W w)) := by
  refine (law7Make_ok a b c W).mono fun e w he => ?_
  obtain ⟨u, rfl, hu, hO⟩ := he
  have h1 := Int.emod_lt_of_pos a (show (0 : Int) < ((3 : Nat) : Int) by decide)
  have h2 := Int.emod_lt_of_pos b (show (0 : Int) < ((5 : Nat) : Int) by decide)
  have h3 := Int.emod_lt_of_pos c (show (0 : Int) < ((5 : Nat) : Int) by decide)
  exact ⟨u, rfl, _, _, _, hu, by omega, hO⟩
theorem law7Spoil_ok (D B Q : Nat) (ls : List Int) (u1 : Value) (W : World) (h1 : Ps No (Seq kI ls u1) W) (g1 : ls.length ≤ 140737488351232) (hD : D ≤ 8) (hB : 8 ≤ B ∧ B ≤ 12) :
    CW Try.prog 31 #[(ag3 D B Q), u1] W (Rt (RPs (Seq (kA 2 eQ) (spoilL D B ls)) W)) := by
 have oW : Only No W W := Only.refl _ _
 refine en 37 Try.func31 Try.ntmps31 ?_
 refine wQ ?_
 refine pL ?_
 refine wO dB ?_
 rintro _ w11 ⟨gg, rfl, g12, a13, o14⟩
 have g_oW_gg : W.heap.size ≤ gg := Nat.le_trans oW.size g12
 replace h1 := h1.new o14 g12
 replace oW := oW.tail0 o14
 refine gs ?_
 refine gO ?_
 refine wD ?_
 have a15 : Ow 51 2 none vN ([] : List (Int × Int)).length (([] : List (Int × Int)).flatMap eQ) w11 := Ow.nil _ _ _
 have nq_out_gg : ∀ x, (none : Option Nat) = some x → ¬ x = gg := fun x e => by cases e
 have q_oW_out : Fr none none W.heap.size := Fr.none
 replace h1 := h1.qnone
 refine gs ?_
 refine gS ?_
 have h_lt_gg := a13.lt
 have h_lts_out := a15.lts
 refine loop2 (fun (s_ : (Nat) × (Option Nat) × (Value)) => match s_ with | ⟨i, bo_out, u_out⟩ => fun (z : Nat → Value) => (([(z 0), u1, (ptr gg 0), (z 3), (z 4), u_out, (eN i)] ++ (zs z 7 32)) : List Value)) (fun (s_ : (Nat) × (Option Nat) × (Value)) => match s_ with | ⟨i, bo_out, u_out⟩ => fun (w_ : World) => (i ≤ ls.length ∧ i ≤ D) ∧ Only (Orq none (Or1 gg No)) w11 w_ ∧ Arr 23 gg [(eN D), (eN B), (eN Q)] w_ ∧ Ow 51 2 bo_out u_out (spoilTo B ls i).length ((spoilTo B ls i).flatMap eQ) w_ ∧ Fr bo_out none w11.heap.size) (fun (s_ : (Nat) × (Option Nat) × (Value)) => match s_ with | ⟨i, bo_out, u_out⟩ => D - i) ⟨0, none, vN⟩ kr ?_ ?_
 ·
  refine ⟨?_, ?_, ?_, ?_, ?_⟩
  ·
   exact ⟨Nat.zero_le _, Nat.zero_le _⟩
  ·
   exact Only.refl _ _
  ·
   exact a13
  ·
   exact a15
  ·
   exact Fr.same
 rintro ⟨i, bo_out, u_out⟩ z w17 ⟨hi, o16, a13, a15, qq_out⟩
 (try dsimp only)
 replace h1 := h1.re o16 (orq_mono (or1_mono no_any)) (xx_re qq_out (xx_or1 xx_id))
 have tq_oW := oW.size
 replace oW := oW.tail o16 (tl_q q_oW_out (fun _ e => by cases e) (tl_new g_oW_gg tl_no))
 replace q_oW_out := qtr qq_out q_oW_out tq_oW
 replace nq_out_gg := nqs nq_out_gg qq_out h_lt_gg
 have q_o16_out := qq_out
 refine gs ?_
 by_cases k0 : i < ls.length
 ·
  by_cases k1 : i < D
  ·
   refine gS ?_
   refine wI (dN h1) ?_
   refine wI (n_lss (a := i) (b := ls.length) rfl rfl (decide_eq_true k0)) ?_
   refine gs ?_
   refine wG (n_lss (a := i) (b := D) rfl rfl (decide_eq_true k1)) ?_
   refine gs ?_
   refine dpT 7 ?_
   refine gx_ ?_
   refine pI (fun _ hO_ => dX (i := i) (h1.step0 hO_) fo) ?_
   refine pI (fun _ hO_ => dY (i := i) (v := (ls.getD i 0)) (h1.step0 hO_) (g_at fo)) ?_
   refine gx_ ?_
   refine pI (fun _ hO_ => n_mul (a := 2) (b := B) rfl rfl oo) ?_
   refine pz_ ?_
   intro w18 o19
   replace h1 := h1.step0 o19
   replace a13 := a13.step0 o19
   replace a15 := a15.step0 o19
   replace oW := oW.tail0 o19
   replace o16 := o16.tail0 o19
   refine wO (dC (law7Within_ok (ls.getD i 0) (2 * B) _ oo oo)) ?_
   rintro _ w20 ⟨rfl, o21⟩
   replace h1 := h1.step0 o21
   replace a13 := a13.step0 o21
   replace a15 := a15.step0 o21
   replace oW := oW.tail0 o21
   replace o16 := o16.tail0 o21
   refine gs ?_
   refine gS ?_
   refine wI (n_lss (a := (((ls.getD i 0) % ((2 * B : Nat) : Int)).toNat)) (b := B) rfl rfl rfl) ?_
   refine gs ?_
   refine cond_if rfl (fun c2_ => ?_) (fun c2_ => ?_)
   ·
    refine gS ?_
    refine wI (d_buildA (zs := [(eN 0), (eN 0)]) (cs := [(eN i), (eN (((ls.getD i 0) % ((2 * B : Nat) : Int)).toNat))]) Try.underlying51 s_ti51 s_ti3 rfl (parts_cons (vs := [(eN i)]) (cells_of (v := (eN i)) rfl rfl) (parts_cons (vs := [(eN (((ls.getD i 0) % ((2 * B : Nat) : Int)).toNat))]) (cells_of (v := (eN (((ls.getD i 0) % ((2 * B : Nat) : Int)).toNat))) rfl rfl) parts_nil)) rfl) ?_
    refine wO (d_buildL2 (zs := [(eN 0), (eN 0)]) (cs := [(eN i), (eN (((ls.getD i 0) % ((2 * B : Nat) : Int)).toNat))]) Try.underlying24 s_ti51 made_one2 (nb rfl) (parts_cons (vs := [(eN i), (eN (((ls.getD i 0) % ((2 * B : Nat) : Int)).toNat))]) (cells_of (v := (Value.agg #[(eN i), (eN (((ls.getD i 0) % ((2 * B : Nat) : Int)).toNat))])) rfl rfl) parts_nil) rfl) ?_
    rintro _ w23 ⟨b22, rfl, g24, a25, o26⟩
    have n_gg_b22 : gg ≠ b22 := a13.ne g24
    have nq_out_b22 : ∀ x, bo_out = some x → ¬ x = b22 := fun x hx e => by have := a15.lts x hx; omega
    have g_oW_b22 : W.heap.size ≤ b22 := Nat.le_trans oW.size g24
    have g_o16_b22 : w11.heap.size ≤ b22 := Nat.le_trans o16.size g24
    replace h1 := h1.new o26 g24
    replace a13 := a13.step0 o26
    replace a15 := a15.step0 o26
    replace oW := oW.tail0 o26
    replace o16 := o16.tail0 o26
    refine wO (d_append Try.underlying24 Try.underlying24 s_ti51 rfl rfl rfl a15 (SrcV.of_arr (n := 1) (sz := 2) a25 rfl (one_eQ [((i : Int), ((((ls.getD i 0) % ((2 * B : Nat) : Int)).toNat : Nat) : Int))])) (by have h_ := spoil_len B ls i; omega) (by have h_ := spoil_len B ls i; omega) rfl) ?_
    rintro u27 w28 ⟨bo29, a30, o31, q32⟩
    replace a30 : Ow 51 2 bo29 u27 ((spoilTo B ls i) ++ [((i : Int), ((((ls.getD i 0) % ((2 * B : Nat) : Int)).toNat : Nat) : Int))]).length (((spoilTo B ls i) ++ [((i : Int), ((((ls.getD i 0) % ((2 * B : Nat) : Int)).toNat : Nat) : Int))]).flatMap eQ) w28 := ow_app2 (xs := spoilTo B ls i) a30 rfl rfl
    replace h1 := h1.gr o31 (fun k e => (.inr (.inl e))) (xx_or1 (xx_re (Fr.of_or q32) (xx_or1 xx_id)))
    have nq2 := nqs nq_out_gg (Fr.of_or q32) a13.lt
    replace a13 := a13.step o31 (fun e => nq_out_gg _ e rfl)
    replace nq_out_gg := nq2
    clear nq2
    have nq2 := nqs nq_out_b22 (Fr.of_or q32) a25.lt
    replace a25 := a25.step o31 (fun e => nq_out_b22 _ e rfl)
    replace nq_out_b22 := nq2
    clear nq2
    have tq := oW.size
    replace oW := oW.tailr o31 q_oW_out (fun _ e => by cases e)
    replace q_oW_out := qtr (Fr.of_or q32) q_oW_out tq
    clear tq
    have tq := o16.size
    replace o16 := o16.tailr o31 q_o16_out (fun k e => (.inl e))
    replace q_o16_out := qtr (Fr.of_or q32) q_o16_out tq
    clear tq
    refine gs ?_
    refine gS ?_
    refine wI (n_add (a := i) (b := 1) rfl rfl oo) ?_
    refine gs ?_
    refine ⟨_, ⟨i + 1, bo29, u27⟩, rfl, kr, ⟨?_, ?_, ?_, ?_, ?_⟩, ?_⟩
    ·
     (try dsimp only)
     all_goals (omega)
    ·
     exact o16
    ·
     exact a13
    ·
     (try dsimp only)
     all_goals (rw [← spoil_yes c2_]; exact a30)
    ·
     exact q_o16_out
    ·
     (try dsimp only)
     all_goals (omega)
   refine gs ?_
   refine gS ?_
   refine wI (n_add (a := i) (b := 1) rfl rfl oo) ?_
   refine gs ?_
   refine ⟨_, ⟨i + 1, bo_out, u_out⟩, rfl, kr, ⟨?_, ?_, ?_, ?_, ?_⟩, ?_⟩
   ·
    (try dsimp only)
    all_goals (omega)
   ·
    exact o16
   ·
    exact a13
   ·
    (try dsimp only)
    all_goals (rw [spoil_skip c2_]; exact a15)
   ·
    exact q_o16_out
   ·
    (try dsimp only)
    all_goals (omega)
  refine gS ?_
  refine wI (dN h1) ?_
  refine wI (n_lss (a := i) (b := ls.length) rfl rfl (decide_eq_true k0)) ?_
  refine gs ?_
  refine wG (n_lss (a := i) (b := D) rfl rfl (decide_eq_false k1)) ?_
  refine gs ?_
  refine gS ?_
  refine leave0 (v := u_out) (res1 Try.results31 rfl) ?_
  have hi_ : i = min ls.length D := by omega
  exact ⟨by unfold spoilL; rw [← hi_]; exact (Ow.seqA a15 (old_q q_oW_out)), oW⟩
 refine gS ?_
 refine wI (dN h1) ?_
 refine wI (n_lss (a := i) (b := ls.length) rfl rfl (decide_eq_false k0)) ?_
 refine gs ?_
 refine gS ?_
 refine leave0 (v := u_out) (res1 Try.results31 rfl) ?_
 have hi_ : i = min ls.length D := by omega
 exact ⟨by unfold spoilL; rw [← hi_]; exact (Ow.seqA a15 (old_q q_oW_out)), oW⟩
theorem stopM_ok (L : NL) (s : NS) {X : Nat → Prop} (W : World) (hN : Nd L s X W) (l : List UInt8) (ul : Value) (hX : ∀ k, X k → k < W.heap.size) (hl : Ps (Ors L.S No) (Seq kB l ul) W) (gl : l.length ≤ 1048576) :
    CW Try.prog 24 #[(ptr L.bN 0), (eI (-1)), ul] W (Rt (fun u w => Nd L (s.stopAt 0 l) X w ∧ Only L.S W w)) := by
 have oW : Only L.S W W := Only.refl _ _
 refine en 13 Try.func24 Try.ntmps24 ?_
 refine gS ?_
 refine wI (d_max2 (m := (-1)) (n := 0) (r := 0) rfl rfl rfl) ?_
 refine gs ?_
 refine wO (dC (cloneB_ok l ul _ (Ps.no hl) fo)) ?_
 rintro u13 w11 f14
 replace f14 := f14.ps
 obtain ⟨f14, o12⟩ := f14
 replace f14 := f14.less (Y := (Ors L.S (Old W.heap.size))) (ors_old hN.lt (old_old oW.size))
 replace hl := hl.step0 o12
 replace hN := hN.step0 o12
 replace oW := oW.tail0 o12
 refine gs ?_
 refine wO (nd_st (s' := { s with stop := 0 }) (i := 12) (v := (eN 0)) hN s_ti3 rfl rfl rfl (by decide) (fun _ => rfl) ⟨hN.ok.d, hN.ok.b, hN.ok.p, hN.ok.nx, (by have := hN.ok.st; show 0 < 2 ^ 62; omega), hN.ok.dl, hN.ok.nl, hN.ok.ml⟩ ⟨rfl, rfl, rfl, rfl, rfl, rfl, rfl⟩) ?_
 rintro _ w15 ⟨a16, o17⟩
 replace hl := hl.step o17 sub1
 replace f14 := f14.step o17 sub1
 replace oW := oW.tail o17 (fun k _ e => (fun k h => h) k e)
 replace hN := a16
 refine gs ?_
 refine wO (nd_stm (Y := (Ors L.S X)) (l := l) hN ox_s s_ti36 rfl rfl (f14.less (Y := (Ors L.S X)) (xx_ors (lt_old hX))) gl) ?_
 rintro _ w18 ⟨a19, o20⟩
 replace hl := hl.step o20 sub1
 replace f14 := f14.step o20 sub1
 replace oW := oW.tail o20 (fun k _ e => (fun k h => h) k e)
 replace hN := a19
 refine gs ?_
 refine leave0 (v := (Value.tuple #[])) (res0 Try.results24) ?_
 exact ⟨hN, oW⟩
theorem refStopM_ok (L : RL) (s : NS) {X : Nat → Prop} (W : World) (hN : Rd L s X W) (l : List UInt8) (ul : Value) (hX : ∀ k, X k → k < W.heap.size) (hl : Ps (Ors L.S No) (Seq kB l ul) W) (gl : l.length ≤ 1048576) :
    CW Try.prog 58 #[(ptr L.bN 0), (eI (-1)), ul] W (Rt (fun u w => Rd L (s.stopAt 0 l) X w ∧ Only L.S W w)) := by
 have oW : Only L.S W W := Only.refl _ _
 refine en 14 Try.func58 Try.ntmps58 ?_
 refine gS ?_
 refine wI (d_max2 (m := (-1)) (n := 0) (r := 0) rfl rfl rfl) ?_
 refine wO (d_buildL (cs := []) Try.underlying36 s_ti5 rfl (nb rfl) parts_nil rfl) ?_
 rintro _ w11 ⟨eb, rfl, g12, a13, o14⟩
 replace a13 : Arr 5 eb (([] : List UInt8).map eB) w11 := a13
 have l_eb : ([] : List UInt8).length = 0 := rfl
 have g_oW_eb : W.heap.size ≤ eb := Nat.le_trans oW.size g12
 replace hl := hl.new o14 g12
 replace hN := hN.new o14 g12
 replace oW := oW.tail0 o14
 refine gs ?_
 have a16 := Ow.of_map2 a13 l_eb
 have q_oW_row15 : Fr (some eb) none W.heap.size := Fr.new g_oW_eb
 replace hl := hl.less (Y := (Orq (some eb) (Ors L.S No))) (xx_br (xx_ors xx_id))
 replace hN := hN.less (Y := (Orq (some eb) X)) (xx_br xx_id)
 refine wO (d_append Try.underlying36 Try.underlying36 s_ti5 rfl rfl rfl a16 (SrcV.of_seq hl (fun _ => rfl)) (by first | omega | (simp; omega)) (by first | omega | (simp; omega)) rfl) ?_
 rintro u17 w18 ⟨bo19, a20, o21, q22⟩
 replace a20 : Ow 5 1 bo19 u17 (([] : List UInt8) ++ l).length ((([] : List UInt8) ++ l).map eB) w18 := by rw [List.length_append, List.map_append]; exact a20
 replace hl := hl.gr o21 (fun k e => (.inl e)) (xx_re (Fr.of_or q22) (xx_ors xx_id))
 replace hN := hN.gr o21 (fun k e => (.inl e)) (xx_re (Fr.of_or q22) xx_id)
 have tq := oW.size
 replace oW := oW.tailr o21 q_oW_row15 (fun _ e => by cases e)
 replace q_oW_row15 := qtr (Fr.of_or q22) q_oW_row15 tq
 clear tq
 refine gs ?_
 refine wO (rd_st (s' := { s with stop := 0 }) (i := 5) (v := (eN 0)) hN s_ti3 rfl rfl rfl (by decide) (fun _ => rfl) ⟨hN.ok.d, hN.ok.b, hN.ok.p, hN.ok.nx, (by have := hN.ok.st; show 0 < 2 ^ 62; omega), hN.ok.dl, hN.ok.nl, hN.ok.ml⟩ ⟨rfl, rfl, rfl, rfl, rfl, rfl, rfl⟩) ?_
 rintro _ w23 ⟨a24, o25⟩
 replace a20 := a20.step o25 (fun x hx => hN.dis x ((fun k e => (.inl e)) x hx))
 replace hl := hl.step o25 (subq sub1)
 replace oW := oW.tail o25 (fun k _ e => (fun k h => h) k e)
 replace hN := a24
 refine gs ?_
 have f26 : Ps (Ors L.S (Old W.heap.size)) (Seq kB (([] : List UInt8) ++ l) u17) w23 := Ow.seq a20 (fun b_ hb_ => (not_ors (hN.dis b_ ((fun k e => (.inl e)) b_ hb_)) (old_q q_oW_row15 b_ hb_)))
 replace hl := Ps.less (Y := (Ors L.S No)) hl (xx_skip (xx_ors xx_id))
 replace hN := Rd.less (Y := X) hN (xx_skip xx_id)
 refine wO (rd_stm (Y := (Ors L.S X)) (l := (([] : List UInt8) ++ l)) hN ox_s s_ti36 rfl rfl (f26.less (Y := (Ors L.S X)) (xx_ors (lt_old hX))) gl) ?_
 rintro _ w27 ⟨a28, o29⟩
 replace hl := hl.step o29 sub1
 replace f26 := f26.step o29 sub1
 replace oW := oW.tail o29 (fun k _ e => (fun k h => h) k e)
 replace hN := a28
 refine gs ?_
 refine leave0 (v := (Value.tuple #[])) (res0 Try.results58) ?_
 exact ⟨hN, oW⟩
theorem law7Few_ok (la : List AX) (u1 : Value) (W : World) (h1 : Ps No (Seq kAct la u1) W) (g1 : la.length ≤ 9223372036854775807) :
    CW Try.prog 30 #[u1] W (Rt (fun u w => ∃ r, u = .bool r ∧ (r = true → ∀ i, i < la.length → (la.getD i AX0).b.length ≤ 100 ∧ (la.getD i AX0).l.length ≤ 20) ∧ Only No W w)) := by
 have oW : Only No W W := Only.refl _ _
 refine en 28 Try.func30 Try.ntmps30 ?_
 refine wQ ?_
 refine gS ?_
 refine gS ?_
 refine loop2 (fun (i : (Nat)) => fun (z : Nat → Value) => (([u1, (z 1), (z 2), (eN i)] ++ (zs z 4 25)) : List Value)) (fun (i : (Nat)) => fun (w_ : World) => (i ≤ la.length) ∧ (∀ j, j < i → (la.getD j AX0).b.length ≤ 100 ∧ (la.getD j AX0).l.length ≤ 20) ∧ Only No W w_) (fun (i : (Nat)) => la.length - i) 0 kr ?_ ?_
 ·
  refine ⟨?_, ?_, ?_⟩
  ·
   exact Nat.zero_le _
  ·
   exact fun j h => absurd h (Nat.not_lt_zero j)
  ·
   exact Only.refl _ _
 rintro i z w12 ⟨hi, hf_, o11⟩
 (try dsimp only)
 replace h1 := h1.step o11 no_any
 replace oW := oW.tail o11 tl_no
 refine gs ?_
 refine gS ?_
 refine wI (dN h1) ?_
 refine wI (n_lss (a := i) (b := la.length) rfl rfl rfl) ?_
 refine gs ?_
 refine cond_if rfl (fun c13 => ?_) (fun c13 => ?_)
 ·
  refine gs ?_
  by_cases k0 : 100 < (((la.getD i AX0).b).length)
  ·
   refine gS ?_
   refine wO (d_indexS (q := kAct) (xs := la) (v := (la.getD i AX0)) Try.underlying55 s_ti59 rfl h1 (show _ = Value.int _ (i : Int) from rfl) oo (g_at fo)) ?_
   rintro u14 _ ⟨f15, rfl⟩
   have f16 := act_b f15
   refine wO (d_fieldAct 5 (la.getD i AX0).vb Try.underlying59 rfl s_ti36 rfl rfl f15 rfl) ?_
   rintro u17 _ ⟨f18, rfl⟩
   refine wI (d_loadAt (enc := eV) (v := (la.getD i AX0).vb) ⟨_, Try.underlying36, rfl⟩ rfl f18) ?_
   refine wI (dN f16) ?_
   refine wI (n_gtr (a := (((la.getD i AX0).b).length)) (b := 100) rfl rfl (decide_eq_true k0)) ?_
   refine gs ?_
   refine gS ?_
   refine leave0 (v := vF) (res1 Try.results30 rfl) ?_
   exact ⟨false, rfl, (fun h => by cases h), oW⟩
  refine gS ?_
  refine wO (d_indexS (q := kAct) (xs := la) (v := (la.getD i AX0)) Try.underlying55 s_ti59 rfl h1 (show _ = Value.int _ (i : Int) from rfl) oo (g_at fo)) ?_
  rintro u19 _ ⟨f20, rfl⟩
  have f21 := act_b f20
  refine wO (d_fieldAct 5 (la.getD i AX0).vb Try.underlying59 rfl s_ti36 rfl rfl f20 rfl) ?_
  rintro u22 _ ⟨f23, rfl⟩
  refine wI (d_loadAt (enc := eV) (v := (la.getD i AX0).vb) ⟨_, Try.underlying36, rfl⟩ rfl f23) ?_
  refine wI (dN f21) ?_
  refine wI (n_gtr (a := (((la.getD i AX0).b).length)) (b := 100) rfl rfl (decide_eq_false k0)) ?_
  refine gs ?_
  refine wGO (d_indexS (q := kAct) (xs := la) (v := (la.getD i AX0)) Try.underlying55 s_ti59 rfl h1 (show _ = Value.int _ (i : Int) from rfl) oo (g_at fo)) ?_
  rintro u24 _ ⟨f25, rfl⟩
  have f26 := act_l f25
  refine wGO (d_fieldAct 6 (la.getD i AX0).vl Try.underlying59 rfl s_ti37 rfl rfl f25 rfl) ?_
  rintro u27 _ ⟨f28, rfl⟩
  refine wG (d_loadAt (enc := eV) (v := (la.getD i AX0).vl) ⟨_, Try.underlying37, rfl⟩ rfl f28) ?_
  refine wG (dN f26) ?_
  refine wG (n_gtr (a := (((la.getD i AX0).l).length)) (b := 20) rfl rfl rfl) ?_
  refine gs ?_
  refine cond_if rfl (fun c25 => ?_) (fun c25 => ?_)
  ·
   refine wQ ?_
   refine gS ?_
   refine leave0 (v := vF) (res1 Try.results30 rfl) ?_
   exact ⟨false, rfl, (fun h => by cases h), oW⟩
  refine gs ?_
  refine gS ?_
  refine wI (n_add (a := i) (b := 1) rfl rfl oo) ?_
  refine gs ?_
  refine ⟨_, (i + 1), rfl, kr, ⟨?_, ?_, ?_⟩, ?_⟩
  ·
   (try dsimp only)
   all_goals (omega)
  ·
   (try dsimp only)
   all_goals (exact fun j hj => by by_cases e_ : j = i; (rw [e_]; omega); (exact hf_ j oo))
  ·
   exact o11
  ·
   (try dsimp only)
   all_goals (omega)
 refine gs ?_
 refine gS ?_
 refine wI (dN h1) ?_
 refine wI (n_leq (a := la.length) (b := 60) rfl rfl rfl) ?_
 refine gs ?_
 refine leave0 (v := (Value.bool (decide (la.length ≤ 60)))) (res1 Try.results30 rfl) ?_
 exact ⟨_, rfl, (fun _ j hj => hf_ j oo), oW⟩
theorem law7Same_ok (L : NL) (M : RL) (s t : NS) {X : Nat → Prop} (W : World) (hN : Nd L s (Ors M.S X) W) (hM : Rd M t (Ors L.S X) W) (hS : Sm s t) :
    CW Try.prog 33 #[(ptr L.bN 0), (ptr M.bN 0)] W (Rt (RIs (.bool true) W)) := by
 have oW : Only No W W := Only.refl _ _
 refine en 77 Try.func33 Try.ntmps33 ?_
 have eD_ : t.gD = s.gD := hS.gD
 have eB_ : t.gB = s.gB := hS.gB
 have eP_ : t.gP = s.gP := hS.gP
 have okd_ := hM.ok.d
 have okb_ := hM.ok.b
 have okp_ := hM.ok.p
 refine wQ ?_
 refine gS ?_
 refine dpT 32 ?_
 refine gx_ ?_
 refine pC (fun _ hO_ => dC (nandDead_ok L s _ (hN.step0 hO_))) ?_
 refine gx_ ?_
 refine pI (fun _ hO_ => rd_ld (v := (Value.bool t.dead)) (hM.step0 hO_) ⟨_, Try.underlying4, rfl⟩ rfl (fun _ => rfl)) ?_
 refine pI (fun _ hO_ => d_bneq (r := false) Try.underlying4 rfl rfl (by rw [hS.dead]; cases s.dead <;> rfl)) ?_
 refine gx_ ?_
 refine pH (fun _ hO_ => dC (nandWrong_ok L s _ (hN.step0 hO_))) ?_
 refine gx_ ?_
 refine pG (fun _ hO_ => rd_ld (v := (eI t.wrong)) (hM.step0 hO_) ⟨_, Try.underlying3, rfl⟩ rfl (fun _ => rfl)) ?_
 refine pG (fun _ hO_ => d_neq (k := .i64) (m := s.wrong) (n := t.wrong) rfl rfl (bnF hS.wrong.symm)) ?_
 refine gx_ ?_
 refine pH (fun _ hO_ => dC (nandOps_ok L s _ (hN.step0 hO_))) ?_
 refine gx_ ?_
 refine pG (fun _ hO_ => rd_ld (v := (eI t.ops)) (hM.step0 hO_) ⟨_, Try.underlying3, rfl⟩ rfl (fun _ => rfl)) ?_
 refine pG (fun _ hO_ => d_neq (k := .i64) (m := s.ops) (n := t.ops) rfl rfl (bnF hS.ops.symm)) ?_
 refine gx_ ?_
 refine pH (fun _ hO_ => dC (geometry_ok L s _ (hN.step0 hO_))) ?_
 refine gx_ ?_
 refine pG (fun _ hO_ => rd_ldAg (vs := [(eN t.gD), (eN t.gB), (eN t.gP)]) (hM.step0 hO_) ⟨_, Try.underlying23, rfl⟩ s_ti23 rfl rfl rfl) ?_
 refine pz_ ?_
 intro w11 o12
 replace hN := hN.step0 o12
 replace hM := hM.step0 o12
 replace oW := oW.tail0 o12
 refine wG (d_neqG3 Try.underlying23 Try.underlying3 kr kr ⟨by decide, rfl, rfl⟩ ⟨by decide, rfl, rfl⟩ ⟨by decide, rfl, rfl⟩ rfl (show Value.agg #[(eN t.gD), (eN t.gB), (eN t.gP)] = Value.agg #[(eN s.gD), (eN s.gB), (eN s.gP)] from (by rw [eD_, eB_, eP_]))) ?_
 refine gs ?_
 refine gS ?_
 refine loop2 (fun (d : (Nat)) => fun (z : Nat → Value) => (([(ptr L.bN 0), (ptr M.bN 0), (z 2), (z 3), (z 4), (eN d)] ++ (zs z 6 73)) : List Value)) (fun (d : (Nat)) => fun (w_ : World) => (d ≤ t.gD) ∧ Only No w11 w_ ∧ Nd L s (Ors M.S X) w_ ∧ Rd M t (Ors L.S X) w_) (fun (d : (Nat)) => t.gD - d) 0 kr ?_ ?_
 ·
  refine ⟨?_, ?_, ?_, ?_⟩
  ·
   exact Nat.zero_le _
  ·
   exact Only.refl _ _
  ·
   exact hN
  ·
   exact hM
 rintro d z w14 ⟨hd, o13, hN, hM⟩
 (try dsimp only)
 replace oW := oW.tail o13 tl_no
 refine gs ?_
 refine gS ?_
 refine wI (rd_ld (v := (eN t.gD)) hM ⟨_, Try.underlying3, rfl⟩ rfl (fun _ => rfl)) ?_
 refine wI (n_lss (a := d) (b := t.gD) rfl rfl rfl) ?_
 refine gs ?_
 refine cond_if rfl (fun c15 => ?_) (fun c15 => ?_)
 ·
  refine gs ?_
  refine gS ?_
  refine loop2 (fun (b : (Nat)) => fun (z : Nat → Value) => (([(ptr L.bN 0), (ptr M.bN 0), (z 2), (z 3), (z 4), (eN d), (eN b)] ++ (zs z 7 72)) : List Value)) (fun (b : (Nat)) => fun (w_ : World) => (b ≤ t.gB) ∧ Only No w14 w_ ∧ Nd L s (Ors M.S X) w_ ∧ Rd M t (Ors L.S X) w_) (fun (b : (Nat)) => t.gB - b) 0 kr ?_ ?_
  ·
   refine ⟨?_, ?_, ?_, ?_⟩
   ·
    exact Nat.zero_le _
   ·
    exact Only.refl _ _
   ·
    exact hN
   ·
    exact hM
  rintro b z w17 ⟨hb, o16, hN, hM⟩
  (try dsimp only)
  replace oW := oW.tail o16 tl_no
  replace o13 := o13.tail o16 tl_no
  refine gs ?_
  refine gS ?_
  refine wI (rd_ld (v := (eN t.gB)) hM ⟨_, Try.underlying3, rfl⟩ rfl (fun _ => rfl)) ?_
  refine wI (n_lss (a := b) (b := t.gB) rfl rfl rfl) ?_
  refine gs ?_
  refine cond_if rfl (fun c18 => ?_) (fun c18 => ?_)
  ·
   refine gs ?_
   refine gS ?_
   refine wO (dC (nandErases_ok L s _ hN (d : Int) (b : Int))) ?_
   rintro _ w19 ⟨rfl, o20⟩
   replace hN := hN.step0 o20
   replace hM := hM.step0 o20
   replace oW := oW.tail0 o20
   replace o13 := o13.tail0 o20
   replace o16 := o16.tail0 o20
   refine gs ?_
   refine wO (dC (refErases_ok M t _ hM (d : Int) (b : Int))) ?_
   rintro _ w21 ⟨rfl, o22⟩
   replace hN := hN.step0 o22
   replace hM := hM.step0 o22
   replace oW := oW.tail0 o22
   replace o13 := o13.tail0 o22
   replace o16 := o16.tail0 o22
   refine wI (d_neq (k := .i64) (m := s.erases (d : Int) (b : Int)) (n := t.erases (d : Int) (b : Int)) rfl rfl (bnF ((hS.erases _ _).symm))) ?_
   refine gs ?_
   refine wGO (dC (isBad_ok L s _ hN (r := (s.isBad (d : Int) (b : Int))) (d : Int) (b : Int) rfl)) ?_
   rintro _ w23 ⟨rfl, o24⟩
   replace hN := hN.step0 o24
   replace hM := hM.step0 o24
   replace oW := oW.tail0 o24
   replace o13 := o13.tail0 o24
   replace o16 := o16.tail0 o24
   refine gs ?_
   refine wGO (dC (refIsBad_ok M t _ hM (r := (t.isBad (d : Int) (b : Int))) (d : Int) (b : Int) rfl)) ?_
   rintro _ w25 ⟨rfl, o26⟩
   replace hN := hN.step0 o26
   replace hM := hM.step0 o26
   replace oW := oW.tail0 o26
   replace o13 := o13.tail0 o26
   replace o16 := o16.tail0 o26
   refine wG (d_bneq (r := false) Try.underlying4 rfl rfl (by rw [hS.isBad]; cases s.isBad _ _ <;> rfl)) ?_
   refine gs ?_
   refine gS ?_
   refine wI (n_add (a := b) (b := 1) rfl rfl oo) ?_
   refine gs ?_
   refine ⟨_, (b + 1), rfl, kr, ⟨?_, ?_, ?_, ?_⟩, ?_⟩
   ·
    (try dsimp only)
    all_goals (omega)
   ·
    exact o16
   ·
    exact hN
   ·
    exact hM
   ·
    (try dsimp only)
    all_goals (omega)
  refine gs ?_
  refine gS ?_
  refine wI (n_add (a := d) (b := 1) rfl rfl oo) ?_
  refine gs ?_
  refine ⟨_, (d + 1), rfl, kr, ⟨?_, ?_, ?_, ?_⟩, ?_⟩
  ·
   (try dsimp only)
   all_goals (omega)
  ·
   exact o13
  ·
   exact hN
  ·
   exact hM
  ·
   (try dsimp only)
   all_goals (omega)
 refine gs ?_
 refine gS ?_
 refine leave0 (v := vT) (res1 Try.results33 rfl) ?_
 exact ⟨rfl, oW⟩
theorem law7Pages_ok (L : NL) (M : RL) (s t : NS) {X : Nat → Prop} (W : World) (hN : Nd L s (Ors M.S X) W) (hM : Rd M t (Ors L.S X) W) (hS : Sm s t) (hR : s.Rg) (hX : ∀ k, X k → k < W.heap.size) :
    CW Try.prog 35 #[(ptr L.bN 0), (ptr M.bN 0)] W (Rt (fun u w => ∃ s2 t2, u = .bool true ∧ Nd L s2 (Ors M.S X) w ∧ Rd M t2 (Ors L.S X) w ∧ Sm s2 t2 ∧ s2.Rg ∧ Only (Ors L.S (Ors M.S No)) W w)) := by
 have oW : Only (Ors L.S (Ors M.S No)) W W := Only.refl _ _
 refine en 63 Try.func35 Try.ntmps35 ?_
 have eD_ : t.gD = s.gD := hS.gD
 have eB_ : t.gB = s.gB := hS.gB
 have eP_ : t.gP = s.gP := hS.gP
 have okd_ := hM.ok.d
 have okb_ := hM.ok.b
 have okp_ := hM.ok.p
 refine wQ ?_
 refine gS ?_
 refine gS ?_
 refine loop2 (fun (s_ : (Nat) × (NS) × (NS)) => match s_ with | ⟨d, sd, td⟩ => fun (z : Nat → Value) => (([(ptr L.bN 0), (ptr M.bN 0), undef, undef, (z 4), (eN d)] ++ (zs z 6 59)) : List Value)) (fun (s_ : (Nat) × (NS) × (NS)) => match s_ with | ⟨d, sd, td⟩ => fun (w_ : World) => (d ≤ t.gD) ∧ (Sm sd td) ∧ (sd.Rg) ∧ (td.gD = t.gD ∧ td.gB = t.gB ∧ td.gP = t.gP) ∧ Only (Ors L.S (Ors M.S No)) W w_ ∧ Nd L sd (Ors M.S X) w_ ∧ Rd M td (Ors L.S X) w_) (fun (s_ : (Nat) × (NS) × (NS)) => match s_ with | ⟨d, sd, td⟩ => t.gD - d) ⟨0, (s), (t)⟩ kr ?_ ?_
 ·
  refine ⟨?_, ?_, ?_, ?_, ?_, ?_, ?_⟩
  ·
   exact Nat.zero_le _
  ·
   exact hS
  ·
   exact hR
  ·
   exact ⟨rfl, rfl, rfl⟩
  ·
   exact Only.refl _ _
  ·
   exact hN
  ·
   exact hM
 rintro ⟨d, sd, td⟩ z w12 ⟨hd, md, rd, gd, o11, hN, hM⟩
 (try dsimp only)
 replace oW := oW.tail o11 (tl_sin sub1 (tl_sin (subs sub1) tl_no))
 refine gs ?_
 refine gS ?_
 refine wI (rd_ld (v := (eN td.gD)) hM ⟨_, Try.underlying3, rfl⟩ rfl (fun _ => rfl)) ?_
 refine wI (n_lss (a := d) (b := td.gD) rfl rfl rfl) ?_
 refine gs ?_
 refine cond_if rfl (fun c13 => ?_) (fun c13 => ?_)
 ·
  refine gs ?_
  refine gS ?_
  refine loop2 (fun (s_ : (Nat) × (NS) × (NS)) => match s_ with | ⟨b, sb, tb⟩ => fun (z : Nat → Value) => (([(ptr L.bN 0), (ptr M.bN 0), undef, undef, (z 4), (eN d), (eN b)] ++ (zs z 7 5 ++ [(eN d), (ptr M.bN 0), (ptr M.bN 0), (ptr M.bN 0), (ptr M.bN 0), (eN td.gD), (Value.bool (decide (d < td.gD)))] ++ (zs z 19 46))) : List Value)) (fun (s_ : (Nat) × (NS) × (NS)) => match s_ with | ⟨b, sb, tb⟩ => fun (w_ : World) => (b ≤ t.gB) ∧ (Sm sb tb) ∧ (sb.Rg) ∧ (tb.gD = t.gD ∧ tb.gB = t.gB ∧ tb.gP = t.gP) ∧ Only (Ors L.S (Ors M.S No)) w12 w_ ∧ Nd L sb (Ors M.S X) w_ ∧ Rd M tb (Ors L.S X) w_) (fun (s_ : (Nat) × (NS) × (NS)) => match s_ with | ⟨b, sb, tb⟩ => t.gB - b) ⟨0, (sd), (td)⟩ kr ?_ ?_
  ·
   refine ⟨?_, ?_, ?_, ?_, ?_, ?_, ?_⟩
   ·
    exact Nat.zero_le _
   ·
    exact md
   ·
    exact rd
   ·
    exact gd
   ·
    exact Only.refl _ _
   ·
    exact hN
   ·
    exact hM
  rintro ⟨b, sb, tb⟩ z w15 ⟨hb, mb, rb, gb, o14, hN, hM⟩
  (try dsimp only)
  replace oW := oW.tail o14 (tl_sin sub1 (tl_sin (subs sub1) tl_no))
  replace o11 := o11.tail o14 (tl_sin sub1 (tl_sin (subs sub1) tl_no))
  refine gs ?_
  refine gS ?_
  refine wI (rd_ld (v := (eN tb.gB)) hM ⟨_, Try.underlying3, rfl⟩ rfl (fun _ => rfl)) ?_
  refine wI (n_lss (a := b) (b := tb.gB) rfl rfl rfl) ?_
  refine gs ?_
  refine cond_if rfl (fun c16 => ?_) (fun c16 => ?_)
  ·
   refine gs ?_
   refine gS ?_
   refine loop2 (fun (s_ : (Nat) × (NS) × (NS)) => match s_ with | ⟨p, sp, tp⟩ => fun (z : Nat → Value) => (([(ptr L.bN 0), (ptr M.bN 0), undef, undef, (z 4), (eN d), (eN b), (eN p), (z 8), (z 9), (z 10), (z 11), (eN d), (ptr M.bN 0), (ptr M.bN 0), (ptr M.bN 0), (ptr M.bN 0), (eN td.gD), (Value.bool (decide (d < td.gD))), (z 19), (z 20), (eN b), (ptr M.bN 0), (ptr M.bN 0), (ptr M.bN 0), (ptr M.bN 1), (eN tb.gB), (Value.bool (decide (b < tb.gB)))] ++ (zs z 28 37)) : List Value)) (fun (s_ : (Nat) × (NS) × (NS)) => match s_ with | ⟨p, sp, tp⟩ => fun (w_ : World) => (p ≤ t.gP) ∧ (Sm sp tp) ∧ (sp.Rg) ∧ (tp.gD = t.gD ∧ tp.gB = t.gB ∧ tp.gP = t.gP) ∧ Only (Ors L.S (Ors M.S No)) w15 w_ ∧ Nd L sp (Ors M.S X) w_ ∧ Rd M tp (Ors L.S X) w_) (fun (s_ : (Nat) × (NS) × (NS)) => match s_ with | ⟨p, sp, tp⟩ => t.gP - p) ⟨0, (sb), (tb)⟩ kr ?_ ?_
   ·
    refine ⟨?_, ?_, ?_, ?_, ?_, ?_, ?_⟩
    ·
     exact Nat.zero_le _
    ·
     exact mb
    ·
     exact rb
    ·
     exact gb
    ·
     exact Only.refl _ _
    ·
     exact hN
    ·
     exact hM
   rintro ⟨p, sp, tp⟩ z w18 ⟨hp, mp, rp, gp, o17, hN, hM⟩
   (try dsimp only)
   replace oW := oW.tail o17 (tl_sin sub1 (tl_sin (subs sub1) tl_no))
   replace o11 := o11.tail o17 (tl_sin sub1 (tl_sin (subs sub1) tl_no))
   replace o14 := o14.tail o17 (tl_sin sub1 (tl_sin (subs sub1) tl_no))
   refine gs ?_
   refine gS ?_
   refine wI (rd_ld (v := (eN tp.gP)) hM ⟨_, Try.underlying3, rfl⟩ rfl (fun _ => rfl)) ?_
   refine wI (n_lss (a := p) (b := tp.gP) rfl rfl rfl) ?_
   refine gs ?_
   refine cond_if rfl (fun c19 => ?_) (fun c19 => ?_)
   ·
    refine gs ?_
    refine gS ?_
    refine wO (dC (read_ok L sp _ hN ↑d ↑b ↑p (lt_ors hM.lt (fun k t => Nat.lt_of_lt_of_le (hX k t) oW.size)))) ?_
    rintro _ w20 ⟨u22, rfl, f23, a24, o21⟩
    replace f23 := f23.less (Y := (Ors L.S (Ors M.S (Old W.heap.size)))) (ors_old hN.lt (ors_old hM.lt (old_old oW.size)))
    replace hM := hM.step o21 sub1
    replace oW := oW.tail o21 (fun k _ e => sub1 k e)
    replace o11 := o11.tail o21 (fun k _ e => sub1 k e)
    replace o14 := o14.tail o21 (fun k _ e => sub1 k e)
    replace o17 := o17.tail o21 (fun k _ e => sub1 k e)
    replace hN := a24
    refine gs ?_
    refine gS ?_
    refine wO (dC (refRead_ok M tp _ hM ↑d ↑b ↑p (lt_ors hN.lt (fun k t => Nat.lt_of_lt_of_le (hX k t) oW.size)) (mp.rg rp))) ?_
    rintro _ w25 ⟨u27, rfl, f28, a29, o26⟩
    replace f28 := f28.less (Y := (Ors L.S (Ors M.S (Old W.heap.size)))) (ors_old hN.lt (ors_old hM.lt (old_old oW.size)))
    replace hN := hN.step o26 sub1
    replace f23 := f23.step o26 (subs sub1)
    replace oW := oW.tail o26 (fun k _ e => (subs sub1) k e)
    replace o11 := o11.tail o26 (fun k _ e => (subs sub1) k e)
    replace o14 := o14.tail o26 (fun k _ e => (subs sub1) k e)
    replace o17 := o17.tail o26 (fun k _ e => (subs sub1) k e)
    replace hM := a29
    refine gs ?_
    refine gS ?_
    refine wI (d_str Try.underlying36 Try.underlying5 Try.underlying9 rfl f23) ?_
    refine gs ?_
    refine wI (d_str Try.underlying36 Try.underlying5 Try.underlying9 rfl f28) ?_
    refine wI (d_sneq (a := (sp.readL ↑d ↑b ↑p)) (c := (tp.readL ↑d ↑b ↑p)) rfl rfl (bnF ((mp.readL _ _ _).symm))) ?_
    refine gs ?_
    refine wG (n_neq (a := (sp.askR (sp.readOk ↑d ↑b ↑p))) (b := (tp.askR (tp.readOk ↑d ↑b ↑p))) rfl rfl (bnF ((mp.readR _ _ _).symm))) ?_
    refine gs ?_
    refine gS ?_
    refine wI (n_add (a := p) (b := 1) rfl rfl oo) ?_
    refine gs ?_
    refine ⟨_, ⟨p + 1, (sp.ask (sp.readOk ↑d ↑b ↑p)), (tp.ask (tp.readOk ↑d ↑b ↑p))⟩, rfl, kr, ⟨?_, ?_, ?_, ?_, ?_, ?_, ?_⟩, ?_⟩
    ·
     (try dsimp only)
     all_goals (omega)
    ·
     exact (Sm.read mp _ _ _)
    ·
     exact (rg_ask rp _)
    ·
     exact gp
    ·
     exact o17
    ·
     exact hN
    ·
     exact hM
    ·
     (try dsimp only)
     all_goals (omega)
   refine gs ?_
   refine gS ?_
   refine wI (n_add (a := b) (b := 1) rfl rfl oo) ?_
   refine gs ?_
   refine ⟨_, ⟨b + 1, (sp), (tp)⟩, rfl, kr, ⟨?_, ?_, ?_, ?_, ?_, ?_, ?_⟩, ?_⟩
   ·
    (try dsimp only)
    all_goals (omega)
   ·
    exact mp
   ·
    exact rp
   ·
    exact gp
   ·
    exact o14
   ·
    exact hN
   ·
    exact hM
   ·
    (try dsimp only)
    all_goals (omega)
  refine gs ?_
  refine gS ?_
  refine wI (n_add (a := d) (b := 1) rfl rfl oo) ?_
  refine gs ?_
  refine ⟨_, ⟨d + 1, (sb), (tb)⟩, rfl, kr, ⟨?_, ?_, ?_, ?_, ?_, ?_, ?_⟩, ?_⟩
  ·
   (try dsimp only)
   all_goals (omega)
  ·
   exact mb
  ·
   exact rb
  ·
   exact gb
  ·
   exact o11
  ·
   exact hN
  ·
   exact hM
  ·
   (try dsimp only)
   all_goals (omega)
 refine gs ?_
 refine gS ?_
 refine leave0 (v := vT) (res1 Try.results35 rfl) ?_
 exact ⟨_, _, rfl, (hN.less (xx_ors xx_id)), (hM.less (xx_ors xx_id)), md, rd, oW⟩
theorem actDo_ok (kd di bi pi an : Int) (lb : List UInt8) (ll : List Int) (ub ul : Value) (L : NL) (M : RL) (s t : NS) {X : Nat → Prop} (W : World) (hN : Nd L s (Ors M.S X) W) (hM : Rd M t (Ors L.S X) W) (hS : Sm s t) (hR : s.Rg) (hX : ∀ k, X k → k < W.heap.size) (hb : Ps (Ors L.S (Ors M.S No)) (Seq kB lb ub) W) (hl : Ps (Ors L.S (Ors M.S No)) (Seq kI ll ul) W) (gb : lb.length ≤ 100) (gl : ll.length ≤ 20) (rl : ∀ x ∈ ll, -9223372036854775808 ≤ x ∧ x < 9223372036854775808) :
    CW Try.prog 32 #[(Value.agg #[(eI kd), (eI di), (eI bi), (eI pi), (eI an), ub, ul]), (ptr L.bN 0), (ptr M.bN 0)] W (Rt (fun u w => ∃ s2 t2, u = .bool true ∧ Nd L s2 (Ors M.S X) w ∧ Rd M t2 (Ors L.S X) w ∧ Sm s2 t2 ∧ s2.Rg ∧ Only (Ors L.S (Ors M.S No)) W w)) := by
 have oW : Only (Ors L.S (Ors M.S No)) W W := Only.refl _ _
 refine en 202 Try.func32 Try.ntmps32 ?_
 have eD_ : t.gD = s.gD := hS.gD
 have eB_ : t.gB = s.gB := hS.gB
 have eP_ : t.gP = s.gP := hS.gP
 have okd_ := hM.ok.d
 have okb_ := hM.ok.b
 have okp_ := hM.ok.p
 refine wQ ?_
 refine pL ?_
 refine wO dB ?_
 rintro _ w11 ⟨ab, rfl, g12, a13, o14⟩
 have g_oW_ab : W.heap.size ≤ ab := Nat.le_trans oW.size g12
 replace hN := hN.new o14 g12
 replace hM := hM.new o14 g12
 replace hb := hb.new o14 g12
 replace hl := hl.new o14 g12
 replace oW := oW.tail0 o14
 refine gs ?_
 refine dpT 11 ?_
 refine gx_ ?_
 refine pI (fun _ hO_ => rd_ld (v := (eN t.gD)) (hM.step0 hO_) ⟨_, Try.underlying3, rfl⟩ rfl (fun _ => rfl)) ?_
 refine pI (fun _ hO_ => n_add (a := t.gD) (b := 1) rfl rfl oo) ?_
 refine pC (fun _ hO_ => dC (law7Within_ok di (t.gD + 1) _ oo oo)) ?_
 refine gx_ ?_
 refine pz_ ?_
 intro w15 o16
 replace hN := hN.step0 o16
 replace hM := hM.step0 o16
 replace hb := hb.step0 o16
 replace hl := hl.step0 o16
 replace a13 := a13.step0 o16
 replace oW := oW.tail0 o16
 refine wO (dC (law7Within_ok bi 3 _ oo oo)) ?_
 rintro _ w17 ⟨rfl, o18⟩
 replace hN := hN.step0 o18
 replace hM := hM.step0 o18
 replace hb := hb.step0 o18
 replace hl := hl.step0 o18
 replace a13 := a13.step0 o18
 replace oW := oW.tail0 o18
 refine go ?_
 refine wD ?_
 refine tN (wQ ?_)
 obtain ⟨dd, edd⟩ : ∃ dd, (di % ((t.gD + 1 : Nat) : Int)).toNat = dd := ⟨_, rfl⟩
 refine rsC 7 (congrArg eN edd) ?_
 refine cutC (shape := fun (bk : Int) z19 => ([(Value.agg #[(eI kd), (eI di), (eI bi), (eI pi), (eI an), ub, ul]), (ptr L.bN 0), (ptr M.bN 0), (ptr ab 0), undef, undef, vF, (eN dd), (eI bk)] ++ (us 5 ++ [(ptr ab 1), (eI di), (ptr M.bN 0), (ptr M.bN 0), (ptr M.bN 0), (ptr M.bN 0), (eN t.gD), (eN (t.gD + 1)), (eN ((di % ((t.gD + 1 : Nat) : Int)).toNat)), (ptr ab 2), (eI bi), (eN ((bi % ((3 : Nat) : Int)).toNat))] ++ (zs z19 26 14 ++ (us 165))))) (p := fun (bk : Int) => True) ?_ ?_
 ·
  intro Q' hQ_
  have oC20 : Only No w17 w17 := Only.refl _ _
  refine wQ ?_
  refine gS ?_
  refine wI (d_rem (k := .i64) (m := an) (n := 7) rfl rfl oo rfl) ?_
  refine wI (d_eql (k := .i64) (m := Int.tmod an 7) (n := 0) rfl rfl rfl) ?_
  refine gs ?_
  refine cond_if rfl (fun c29 => ?_) (fun c29 => ?_)
  ·
   refine dpT 8 ?_
   refine gx_ ?_
   refine pI (fun _ hO_ => rd_ld (v := (eN t.gB)) (hM.step0 hO_) ⟨_, Try.underlying3, rfl⟩ rfl (fun _ => rfl)) ?_
   refine pI (fun _ hO_ => n_add (a := t.gB) (b := 2) rfl rfl oo) ?_
   refine pz_ ?_
   intro w21 o22
   replace hN := hN.step0 o22
   replace hM := hM.step0 o22
   replace hb := hb.step0 o22
   replace hl := hl.step0 o22
   replace a13 := a13.step0 o22
   replace oW := oW.tail0 o22
   replace oC20 := oC20.tail0 o22
   refine wO (dC (law7Within_ok bi (t.gB + 2) _ oo oo)) ?_
   rintro _ w23 ⟨rfl, o24⟩
   replace hN := hN.step0 o24
   replace hM := hM.step0 o24
   replace hb := hb.step0 o24
   replace hl := hl.step0 o24
   replace a13 := a13.step0 o24
   replace oW := oW.tail0 o24
   replace oC20 := oC20.tail0 o24
   refine wI (d_sub (k := .i64) (m := (((bi % ((t.gB + 2 : Nat) : Int)).toNat : Nat) : Int)) (n := 1) rfl rfl (r := (((bi % ((t.gB + 2 : Nat) : Int)).toNat : Nat) : Int) - 1) (IntWalk.i64_in _ (by have := Int.emod_lt_of_pos bi (show (0 : Int) < ((t.gB + 2 : Nat) : Int) by omega); have := Int.emod_nonneg bi (show ((t.gB + 2 : Nat) : Int) ≠ 0 by omega); omega))) ?_
   refine go ?_
   refine wD ?_
   exact fr_eq kr (hQ_ ((((bi % ((t.gB + 2 : Nat) : Int)).toNat : Nat) : Int) - 1) (fun t_ => nth (us 26 ++ [(ptr ab 4), (eI an), (eI (Int.tmod an 7)), (Value.bool (decide (Int.tmod an 7 = 0))), (ptr ab 2), (eI bi), (ptr M.bN 0), (ptr M.bN 0), (ptr M.bN 0), (ptr M.bN 1), (eN t.gB), (eN (t.gB + 2)), (eN ((bi % ((t.gB + 2 : Nat) : Int)).toNat)), (eI ((((bi % ((t.gB + 2 : Nat) : Int)).toNat : Nat) : Int) - 1))]) t_) _ trivial oC20)
  refine wK ?_
  exact fr_eq kr (hQ_ (((bi % ((3 : Nat) : Int)).toNat : Nat) : Int) (fun t_ => nth (us 26 ++ [(ptr ab 4), (eI an), (eI (Int.tmod an 7)), (Value.bool (decide (Int.tmod an 7 = 0)))]) t_) _ trivial oC20)
 intro bk z19 w25 _ o26
 (try dsimp only)
 replace hN := hN.step0 o26
 replace hM := hM.step0 o26
 replace hb := hb.step0 o26
 replace hl := hl.step0 o26
 replace a13 := a13.step0 o26
 replace oW := oW.tail0 o26
 refine gs ?_
 refine dpT 8 ?_
 refine gx_ ?_
 refine pI (fun _ hO_ => rd_ld (v := (eN t.gP)) (hM.step0 hO_) ⟨_, Try.underlying3, rfl⟩ rfl (fun _ => rfl)) ?_
 refine pI (fun _ hO_ => n_add (a := t.gP) (b := 1) rfl rfl oo) ?_
 refine pz_ ?_
 intro w27 o28
 replace hN := hN.step0 o28
 replace hM := hM.step0 o28
 replace hb := hb.step0 o28
 replace hl := hl.step0 o28
 replace a13 := a13.step0 o28
 replace oW := oW.tail0 o28
 refine wO (dC (law7Within_ok pi (t.gP + 1) _ oo oo)) ?_
 rintro _ w29 ⟨rfl, o30⟩
 replace hN := hN.step0 o30
 replace hM := hM.step0 o30
 replace hb := hb.step0 o30
 replace hl := hl.step0 o30
 replace a13 := a13.step0 o30
 replace oW := oW.tail0 o30
 refine gs ?_
 obtain ⟨pp, epp⟩ : ∃ pp, (pi % ((t.gP + 1 : Nat) : Int)).toNat = pp := ⟨_, rfl⟩
 refine rsC 9 (congrArg eN epp) ?_
 refine gS ?_
 refine wO (dC (law7Within_ok kd 13 _ oo oo)) ?_
 rintro _ w31 ⟨rfl, o32⟩
 replace hN := hN.step0 o32
 replace hM := hM.step0 o32
 replace hb := hb.step0 o32
 replace hl := hl.step0 o32
 replace a13 := a13.step0 o32
 replace oW := oW.tail0 o32
 refine wD ?_
 refine tN (wB (wQ ?_))
 obtain ⟨kn, ekn⟩ : ∃ kn, (kd % ((13 : Nat) : Int)).toNat = kn := ⟨_, rfl⟩
 refine rsC 51 (congrArg eN ekn) ?_
 refine cutC (shape := fun (xk : Bool) z33 => ([(Value.agg #[(eI kd), (eI di), (eI bi), (eI pi), (eI an), ub, ul]), (ptr L.bN 0), (ptr M.bN 0), (ptr ab 0), undef, undef, vF, (eN dd), (eI bk), (eN pp), undef, undef, undef, undef, (ptr ab 1), (eI di), (ptr M.bN 0), (ptr M.bN 0), (ptr M.bN 0), (ptr M.bN 0), (eN t.gD), (eN (t.gD + 1)), (eN ((di % ((t.gD + 1 : Nat) : Int)).toNat)), (ptr ab 2), (eI bi), (eN ((bi % ((3 : Nat) : Int)).toNat))] ++ (zs z19 26 14 ++ [(ptr ab 3), (eI pi), (ptr M.bN 0), (ptr M.bN 0), (ptr M.bN 0), (ptr M.bN 2), (eN t.gP), (eN (t.gP + 1)), (eN ((pi % ((t.gP + 1 : Nat) : Int)).toNat)), (ptr ab 0), (eI kd), (eN kn), undef, undef, undef, undef, (Value.bool xk)] ++ (zs z33 57 6 ++ (us 142))))) (p := fun (xk : Bool) => True) ?_ ?_
 ·
  intro Q' hQ_
  have oC34 : Only No w31 w31 := Only.refl _ _
  refine wQ ?_
  refine pL ?_
  refine wI (n_eql (a := kn) (b := 0) rfl rfl rfl) ?_
  refine gs ?_
  refine cond_if rfl (fun c35 => ?_) (fun c35 => ?_)
  ·
   refine wK ?_
   exact fr_eq kr (hQ_ (decide (kn = 0)) (fun t_ => nth (us 57 ++ [(Value.bool (decide (kn = 0)))]) t_) _ trivial oC34)
  refine wQ ?_
  refine pL ?_
  refine wI (n_eql (a := kn) (b := 1) rfl rfl rfl) ?_
  refine gs ?_
  refine cond_if rfl (fun c36 => ?_) (fun c36 => ?_)
  ·
   refine wK ?_
   exact fr_eq kr (hQ_ (decide (kn = 1)) (fun t_ => nth (us 57 ++ [(Value.bool (decide (kn = 0))), (Value.bool (decide (kn = 1)))]) t_) _ trivial oC34)
  refine wQ ?_
  refine pL ?_
  refine wI (n_eql (a := kn) (b := 2) rfl rfl rfl) ?_
  refine gs ?_
  refine cond_if rfl (fun c37 => ?_) (fun c37 => ?_)
  ·
   refine wK ?_
   exact fr_eq kr (hQ_ (decide (kn = 2)) (fun t_ => nth (us 57 ++ [(Value.bool (decide (kn = 0))), (Value.bool (decide (kn = 1))), (Value.bool (decide (kn = 2)))]) t_) _ trivial oC34)
  refine wQ ?_
  refine pL ?_
  refine wI (n_eql (a := kn) (b := 3) rfl rfl rfl) ?_
  refine gs ?_
  refine cond_if rfl (fun c38 => ?_) (fun c38 => ?_)
  ·
   refine wK ?_
   exact fr_eq kr (hQ_ (decide (kn = 3)) (fun t_ => nth (us 57 ++ [(Value.bool (decide (kn = 0))), (Value.bool (decide (kn = 1))), (Value.bool (decide (kn = 2))), (Value.bool (decide (kn = 3)))]) t_) _ trivial oC34)
  refine wQ ?_
  refine pL ?_
  refine wI (n_eql (a := kn) (b := 4) rfl rfl rfl) ?_
  refine gs ?_
  refine cond_if rfl (fun c39 => ?_) (fun c39 => ?_)
  ·
   refine wK ?_
   exact fr_eq kr (hQ_ (decide (kn = 4)) (fun t_ => nth (us 57 ++ [(Value.bool (decide (kn = 0))), (Value.bool (decide (kn = 1))), (Value.bool (decide (kn = 2))), (Value.bool (decide (kn = 3))), (Value.bool (decide (kn = 4)))]) t_) _ trivial oC34)
  refine pL ?_
  refine wI (n_eql (a := kn) (b := 5) rfl rfl rfl) ?_
  refine go ?_
  refine wD ?_
  exact fr_eq kr (hQ_ (decide (kn = 5)) (fun t_ => nth (us 57 ++ [(Value.bool (decide (kn = 0))), (Value.bool (decide (kn = 1))), (Value.bool (decide (kn = 2))), (Value.bool (decide (kn = 3))), (Value.bool (decide (kn = 4))), (Value.bool (decide (kn = 5)))]) t_) _ trivial oC34)
 intro xk z33 w40 _ o41
 (try dsimp only)
 replace hN := hN.step0 o41
 replace hM := hM.step0 o41
 replace hb := hb.step0 o41
 replace hl := hl.step0 o41
 replace a13 := a13.step0 o41
 replace oW := oW.tail0 o41
 refine tN ?_
 refine cond_b rfl (fun c42 => ?_) (fun c42 => ?_)
 ·
  refine wQ ?_
  refine cutC (shape := fun (pg : Nat) z43 => ([(Value.agg #[(eI kd), (eI di), (eI bi), (eI pi), (eI an), ub, ul]), (ptr L.bN 0), (ptr M.bN 0), (ptr ab 0), undef, undef, vF, (eN dd), (eI bk), (eN pg), undef, undef, undef, undef, (ptr ab 1), (eI di), (ptr M.bN 0), (ptr M.bN 0), (ptr M.bN 0), (ptr M.bN 0), (eN t.gD), (eN (t.gD + 1)), (eN ((di % ((t.gD + 1 : Nat) : Int)).toNat)), (ptr ab 2), (eI bi), (eN ((bi % ((3 : Nat) : Int)).toNat))] ++ (zs z19 26 14 ++ [(ptr ab 3), (eI pi), (ptr M.bN 0), (ptr M.bN 0), (ptr M.bN 0), (ptr M.bN 2), (eN t.gP), (eN (t.gP + 1)), (eN ((pi % ((t.gP + 1 : Nat) : Int)).toNat)), (ptr ab 0), (eI kd), (eN kn), undef, undef, undef, undef, (Value.bool xk)] ++ (zs z33 57 6 ++ (zs z43 63 31 ++ (us 111)))))) (p := fun (pg : Nat) => True) ?_ ?_
  ·
   intro Q' hQ_
   have oC44 : Only No w40 w40 := Only.refl _ _
   refine wQ ?_
   by_cases k0 : dd < t.gD
   ·
    by_cases k1 : 0 ≤ bk
    ·
     by_cases k2 : bk < (t.gB : Int)
     ·
      refine gS ?_
      refine wI (rd_ld (v := (eN t.gD)) hM ⟨_, Try.underlying3, rfl⟩ rfl (fun _ => rfl)) ?_
      refine wI (n_lss (a := dd) (b := t.gD) rfl rfl (decide_eq_true k0)) ?_
      refine gs ?_
      refine wG (d_geq (k := .i64) (m := bk) (n := 0) rfl rfl (decide_eq_true k1)) ?_
      refine gs ?_
      refine wG (rd_ld (v := (eN t.gB)) hM ⟨_, Try.underlying3, rfl⟩ rfl (fun _ => rfl)) ?_
      refine wG (d_lss (k := .i64) (m := bk) (n := (t.gB : Int)) rfl rfl (decide_eq_true k2)) ?_
      refine gs ?_
      obtain ⟨bn, rfl⟩ := Int.eq_ofNat_of_zero_le k1
      have k2n : bn < s.gB := by omega
      refine gS ?_
      refine wI (rd_ld (v := (sli M.bU 0 t.gD M.cU)) hM ⟨_, Try.underlying78, rfl⟩ rfl (fun _ => rfl)) ?_
      refine gs ?_
      refine wI (dI (n := t.gD) (i := dd) oo) ?_
      refine wI (rd_ldU (i := dd) hM ⟨_, Try.underlying82, rfl⟩ rfl oo) ?_
      refine gs ?_
      refine wI (d_index (b := (M.bd dd)) (o := 0) (n := t.gB) (c := (M.cd dd)) (j := (bn * 4)) Try.underlying82 s_ti85 rfl (show _ = Value.int _ (bn : Int) from rfl) oo oo (by simp)) ?_
      refine gs ?_
      refine wI (rd_ldS (i := dd) (j := bn) (f := 1) hM ⟨_, Try.underlying3, rfl⟩ rfl oo oo (by decide) rfl) ?_
      refine go ?_
      refine wD ?_
      exact fr_eq kr (hQ_ ((t.bl dd bn).nx) (fun t_ => nth (us 63 ++ [(eN dd), (ptr M.bN 0), (ptr M.bN 0), (ptr M.bN 0), (ptr M.bN 0), (eN t.gD), vT, vT, (eN bn), vT, vT, vT, (eN bn), (ptr M.bN 0), (ptr M.bN 0), (ptr M.bN 0), (ptr M.bN 1), (eN t.gB), vT, vT, (ptr M.bN 0), (ptr M.bN 0), (ptr M.bN 3), (sli M.bU 0 t.gD M.cU), (eN dd), (ptr M.bU dd), (sli (M.bd dd) 0 t.gB (M.cd dd)), (eN bn), (ptr (M.bd dd) (bn * 4)), (ptr (M.bd dd) (bn * 4 + 1)), (eN ((t.bl dd bn).nx))]) t_) _ trivial oC44)
     refine gS ?_
     refine wI (rd_ld (v := (eN t.gD)) hM ⟨_, Try.underlying3, rfl⟩ rfl (fun _ => rfl)) ?_
     refine wI (n_lss (a := dd) (b := t.gD) rfl rfl (decide_eq_true k0)) ?_
     refine gs ?_
     refine wG (d_geq (k := .i64) (m := bk) (n := 0) rfl rfl (decide_eq_true k1)) ?_
     refine gs ?_
     refine wG (rd_ld (v := (eN t.gB)) hM ⟨_, Try.underlying3, rfl⟩ rfl (fun _ => rfl)) ?_
     refine wG (d_lss (k := .i64) (m := bk) (n := (t.gB : Int)) rfl rfl (decide_eq_false k2)) ?_
     refine gs ?_
     exact fr_eq kr (hQ_ pp (fun t_ => nth (us 63 ++ [(eN dd), (ptr M.bN 0), (ptr M.bN 0), (ptr M.bN 0), (ptr M.bN 0), (eN t.gD), vT, vT, (eI bk), vT, vT, vT, (eI bk), (ptr M.bN 0), (ptr M.bN 0), (ptr M.bN 0), (ptr M.bN 1), (eN t.gB), vF, vF]) t_) _ trivial oC44)
    refine gS ?_
    refine wI (rd_ld (v := (eN t.gD)) hM ⟨_, Try.underlying3, rfl⟩ rfl (fun _ => rfl)) ?_
    refine wI (n_lss (a := dd) (b := t.gD) rfl rfl (decide_eq_true k0)) ?_
    refine gs ?_
    refine wG (d_geq (k := .i64) (m := bk) (n := 0) rfl rfl (decide_eq_false k1)) ?_
    refine gs ?_
    exact fr_eq kr (hQ_ pp (fun t_ => nth (us 63 ++ [(eN dd), (ptr M.bN 0), (ptr M.bN 0), (ptr M.bN 0), (ptr M.bN 0), (eN t.gD), vT, vT, (eI bk), vF, vF, vF] ++ (us 7 ++ [vF])) t_) _ trivial oC44)
   refine gS ?_
   refine wI (rd_ld (v := (eN t.gD)) hM ⟨_, Try.underlying3, rfl⟩ rfl (fun _ => rfl)) ?_
   refine wI (n_lss (a := dd) (b := t.gD) rfl rfl (decide_eq_false k0)) ?_
   refine gs ?_
   exact fr_eq kr (hQ_ pp (fun t_ => nth (us 63 ++ [(eN dd), (ptr M.bN 0), (ptr M.bN 0), (ptr M.bN 0), (ptr M.bN 0), (eN t.gD), vF, vF, undef, undef, vF, vF] ++ (us 7 ++ [vF])) t_) _ trivial oC44)
  intro pg z43 w45 _ o46
  (try dsimp only)
  replace hN := hN.step0 o46
  replace hM := hM.step0 o46
  replace hb := hb.step0 o46
  replace hl := hl.step0 o46
  replace a13 := a13.step0 o46
  replace oW := oW.tail0 o46
  refine gs ?_
  refine drawnG (O := (Or1 ab (Ors L.S (Ors M.S No)))) (n := 18) 0 [0, 0, 0, 0, 0, 16, 48, 127, 0, 0, 0, 0, 0, 4096, 12543, 32767, 65535, 131071] [(0, 94), (1, 95), (2, 96), (3, 97), (4, 98), (5, 99), (6, 100), (7, 101), (8, 102), (9, 103), (10, 104), (11, 105), (12, 106), (13, 107), (14, 108), (15, 109), (16, 110), (17, 6)] [] [] [] (fun i_ => ([] : List (RF (Or1 ab (Ors L.S (Ors M.S No))))).getD i_ (RF.any (Or1 ab (Ors L.S (Ors M.S No))))) (fun _ w_ => Arr 59 ab [(eI kd), (eI di), (eI bi), (eI pi), (eI an), ub, ul] w_ ∧ Nd L s (Or1 ab (Ors M.S X)) w_ ∧ Rd M t (Or1 ab (Ors L.S X)) w_) (fun v47 => ([(Value.agg #[(eI kd), (eI di), (eI bi), (eI pi), (eI an), ub, ul]), (ptr L.bN 0), (ptr M.bN 0), (ptr ab 0), undef, undef, (v47 17), (eN dd), (eI bk), (eN pg), undef, undef, undef, undef, (ptr ab 1), (eI di), (ptr M.bN 0), (ptr M.bN 0), (ptr M.bN 0), (ptr M.bN 0), (eN t.gD), (eN (t.gD + 1)), (eN ((di % ((t.gD + 1 : Nat) : Int)).toNat)), (ptr ab 2), (eI bi), (eN ((bi % ((3 : Nat) : Int)).toNat))] ++ (zs z19 26 14 ++ [(ptr ab 3), (eI pi), (ptr M.bN 0), (ptr M.bN 0), (ptr M.bN 0), (ptr M.bN 2), (eN t.gP), (eN (t.gP + 1)), (eN ((pi % ((t.gP + 1 : Nat) : Int)).toNat)), (ptr ab 0), (eI kd), (eN kn), undef, undef, undef, undef, (Value.bool xk)] ++ (zs z33 57 6 ++ (zs z43 63 31 ++ [(v47 0), (v47 1), (v47 2), (v47 3), (v47 4), (v47 5), (v47 6), (v47 7), (v47 8), (v47 9), (v47 10), (v47 11), (v47 12), (v47 13), (v47 14), (v47 15), (v47 16)] ++ (us 94)))))) (fun v47 => ([(Value.agg #[(eI kd), (eI di), (eI bi), (eI pi), (eI an), ub, ul]), (ptr L.bN 0), (ptr M.bN 0), (ptr ab 0), undef, undef, vF, (eN dd), (eI bk), (eN pg), undef, undef, undef, undef, (ptr ab 1), (eI di), (ptr M.bN 0), (ptr M.bN 0), (ptr M.bN 0), (ptr M.bN 0), (eN t.gD), (eN (t.gD + 1)), (eN ((di % ((t.gD + 1 : Nat) : Int)).toNat)), (ptr ab 2), (eI bi), (eN ((bi % ((3 : Nat) : Int)).toNat))] ++ (zs z19 26 14 ++ [(ptr ab 3), (eI pi), (ptr M.bN 0), (ptr M.bN 0), (ptr M.bN 0), (ptr M.bN 2), (eN t.gP), (eN (t.gP + 1)), (eN ((pi % ((t.gP + 1 : Nat) : Int)).toNat)), (ptr ab 0), (eI kd), (eN kn), undef, undef, undef, undef, (Value.bool xk)] ++ (zs z33 57 6 ++ (zs z43 63 31 ++ (us 111)))))) s_mx kr rfl (by decide) (by rfl) kr kr kr (by rfl) (fun v_ => by kernel_rfl) (fun v_ => by kernel_rfl) (fun _ => fun w_ w2_ h ho => by obtain ⟨r_a13, r_hN, r_hM⟩ := h; exact ⟨r_a13.step0 ho, r_hN.step0 ho, r_hM.step0 ho⟩) ⟨a13, hN, hM⟩ ?_ ?_ ?_
  ·
   exact ls_nil
  ·
   exact ms_nil
  intro v47 lo_ hi_ w48 o49 hd hR
  clear hd lo_ hi_
  replace hb := hb.step o49 (or1_mono (ors_mono (ors_mono no_any)))
  replace hl := hl.step o49 (or1_mono (ors_mono (ors_mono no_any)))
  obtain ⟨xr_a13, xr_hN, xr_hM⟩ := hR
  replace a13 : Arr 59 ab [(eI kd), (eI di), (eI bi), (eI pi), (eI an), ub, ul] w48 := xr_a13
  replace hN := xr_hN
  replace hM := xr_hM
  clear xr_a13 xr_hN xr_hM
  replace oW := oW.tail o49 (tl_new g_oW_ab (tl_sin sub1 (tl_sin (subs sub1) tl_no)))
  refine rest_seg (n := 18) (p := 0) (q := 18) [0, 1, 2, 3, 4, 5, 8, 9, 10, 11, 12, 13] [6, 7, 14, 15, 16, 17] [(0, 94), (1, 95), (2, 96), (3, 97), (4, 98), (5, 99), (8, 102), (9, 103), (10, 104), (11, 105), (12, 106), (13, 107)] [(0, 94), (1, 95), (2, 96), (3, 97), (4, 98), (5, 99), (6, 100), (7, 101), (8, 102), (9, 103), (10, 104), (11, 105), (12, 106), (13, 107), (14, 108), (15, 109), (16, 110), (17, 6)] [0, 0, 0, 0, 0, 16, 48, 127, 0, 0, 0, 0, 0, 4096, 12543, 32767, 65535, 131071] (fun i_ => nth [(ptr L.bN 0), (eN dd), (eI bk), (eN pg), (ptr ab 5), ub, undef, undef, (ptr M.bN 0), (eN dd), (eI bk), (eN pg), (ptr ab 5), ub] i_) ([(Value.agg #[(eI kd), (eI di), (eI bi), (eI pi), (eI an), ub, ul]), (ptr L.bN 0), (ptr M.bN 0), (ptr ab 0), undef, undef, vF, (eN dd), (eI bk), (eN pg), undef, undef, undef, undef, (ptr ab 1), (eI di), (ptr M.bN 0), (ptr M.bN 0), (ptr M.bN 0), (ptr M.bN 0), (eN t.gD), (eN (t.gD + 1)), (eN ((di % ((t.gD + 1 : Nat) : Int)).toNat)), (ptr ab 2), (eI bi), (eN ((bi % ((3 : Nat) : Int)).toNat))] ++ (zs z19 26 14 ++ [(ptr ab 3), (eI pi), (ptr M.bN 0), (ptr M.bN 0), (ptr M.bN 0), (ptr M.bN 2), (eN t.gP), (eN (t.gP + 1)), (eN ((pi % ((t.gP + 1 : Nat) : Int)).toNat)), (ptr ab 0), (eI kd), (eN kn), undef, undef, undef, undef, (Value.bool xk)] ++ (zs z33 57 6 ++ (zs z43 63 31 ++ [(ptr L.bN 0), (eN dd), (eI bk), (eN pg), (ptr ab 5), ub, undef, undef, (ptr M.bN 0), (eN dd), (eI bk), (eN pg), (ptr ab 5), ub] ++ (us 97))))) (fun w_ => Ps (Or1 ab (Ors L.S (Ors M.S No))) (Seq kB lb ub) w_ ∧ Ps (Or1 ab (Ors L.S (Ors M.S No))) (Seq kI ll ul) w_ ∧ Arr 59 ab [(eI kd), (eI di), (eI bi), (eI pi), (eI an), ub, ul] w_ ∧ True) kr rfl (by decide) kr kr (by rfl) kr kr kr kr kr (by decide) ?_ ?_
  ·
   rintro w_ ⟨hb, hl, a13, _⟩
   refine fl_cons ⟨_, rfl, gd rfl (d_move rfl)⟩ ?_
   refine fl_cons ⟨_, rfl, gd rfl (d_move rfl)⟩ ?_
   refine fl_cons ⟨_, rfl, gd rfl (d_move rfl)⟩ ?_
   refine fl_cons ⟨_, rfl, gd rfl (d_move rfl)⟩ ?_
   refine fl_cons ⟨_, rfl, gd rfl (d_fieldAddr (j := 5) Try.underlying59 rfl s_ti36 (by decide) rfl rfl)⟩ ?_
   refine fl_cons ⟨_, rfl, gd rfl (d_load (v := ub) ⟨_, Try.underlying36, rfl⟩ rfl a13 rfl)⟩ ?_
   refine fl_cons ⟨_, rfl, gd rfl (d_move rfl)⟩ ?_
   refine fl_cons ⟨_, rfl, gd rfl (d_move rfl)⟩ ?_
   refine fl_cons ⟨_, rfl, gd rfl (d_move rfl)⟩ ?_
   refine fl_cons ⟨_, rfl, gd rfl (d_move rfl)⟩ ?_
   refine fl_cons ⟨_, rfl, gd rfl (d_fieldAddr (j := 5) Try.underlying59 rfl s_ti36 (by decide) rfl rfl)⟩ ?_
   refine fl_cons ⟨_, rfl, gd rfl (d_load (v := ub) ⟨_, Try.underlying36, rfl⟩ rfl a13 rfl)⟩ ?_
   exact fl_nil
  refine wJ.op ⟨hb, hl, a13, trivial⟩ rfl rfl (d_call (xl := [.tmp 99, .const (.int .i64 60)]) (al := [ub, (eN 60)]) Try.func16 kr rfl rfl rfl (law7Bytes_ok lb 60 ub _ (Ps.no hb) fo oo)) ?_
  rintro u52 w50 f53
  replace f53 := f53.ps
  obtain ⟨f53, o51⟩ := f53
  replace f53 := f53.less (Y := (Or1 ab (Ors L.S (Ors M.S (Old W.heap.size))))) (or1_old a13.lt (ors_old hN.lt (ors_old hM.lt (old_old oW.size))))
  replace hN := hN.step0 o51
  replace hM := hM.step0 o51
  replace hb := hb.step0 o51
  replace hl := hl.step0 o51
  replace a13 := a13.step0 o51
  replace oW := oW.tail0 o51
  refine wJ.flat ([(Value.agg #[(eI kd), (eI di), (eI bi), (eI pi), (eI an), ub, ul]), (ptr L.bN 0), (ptr M.bN 0), (ptr ab 0), undef, undef, vF, (eN dd), (eI bk), (eN pg), undef, undef, undef, undef, (ptr ab 1), (eI di), (ptr M.bN 0), (ptr M.bN 0), (ptr M.bN 0), (ptr M.bN 0), (eN t.gD), (eN (t.gD + 1)), (eN ((di % ((t.gD + 1 : Nat) : Int)).toNat)), (ptr ab 2), (eI bi), (eN ((bi % ((3 : Nat) : Int)).toNat))] ++ (zs z19 26 14 ++ [(ptr ab 3), (eI pi), (ptr M.bN 0), (ptr M.bN 0), (ptr M.bN 0), (ptr M.bN 2), (eN t.gP), (eN (t.gP + 1)), (eN ((pi % ((t.gP + 1 : Nat) : Int)).toNat)), (ptr ab 0), (eI kd), (eN kn), undef, undef, undef, undef, (Value.bool xk)] ++ (zs z33 57 6 ++ (zs z43 63 31 ++ [(ptr L.bN 0), (eN dd), (eI bk), (eN pg), (ptr ab 5), ub, u52, undef, (ptr M.bN 0), (eN dd), (eI bk), (eN pg), (ptr ab 5), ub] ++ (us 97))))) kr ?_
  refine wJ.op ⟨hb, hl, a13, trivial⟩ rfl rfl (d_call (xl := [.tmp 94, .tmp 95, .tmp 96, .tmp 97, .tmp 100]) (al := [(ptr L.bN 0), (eN dd), (eI bk), (eN pg), u52]) Try.func20 kr rfl rfl rfl (prog_ok L s _ hN (dd : Int) bk (pg : Int) (bytesL lb 60) u52 (lt_or1 a13.lt (lt_ors hM.lt (fun k t => Nat.lt_of_lt_of_le (hX k t) oW.size))) (f53.less (os_of (sub2 sub1))) (by have := bytesL_len lb 60; first | omega | (simp; done) | (simp; omega)))) ?_
  rintro _ w54 ⟨rfl, a56, o55⟩
  replace a13 := a13.step o55 (hN.dis _ in1)
  replace hM := hM.step o55 (sub2 sub1)
  replace hb := hb.step o55 (sub2 sub1)
  replace hl := hl.step o55 (sub2 sub1)
  replace f53 := f53.step o55 (sub2 sub1)
  replace oW := oW.tail o55 (fun k _ e => sub1 k e)
  replace hN := a56
  refine wJ.flat ([(Value.agg #[(eI kd), (eI di), (eI bi), (eI pi), (eI an), ub, ul]), (ptr L.bN 0), (ptr M.bN 0), (ptr ab 0), undef, undef, vF, (eN dd), (eI bk), (eN pg), undef, undef, undef, undef, (ptr ab 1), (eI di), (ptr M.bN 0), (ptr M.bN 0), (ptr M.bN 0), (ptr M.bN 0), (eN t.gD), (eN (t.gD + 1)), (eN ((di % ((t.gD + 1 : Nat) : Int)).toNat)), (ptr ab 2), (eI bi), (eN ((bi % ((3 : Nat) : Int)).toNat))] ++ (zs z19 26 14 ++ [(ptr ab 3), (eI pi), (ptr M.bN 0), (ptr M.bN 0), (ptr M.bN 0), (ptr M.bN 2), (eN t.gP), (eN (t.gP + 1)), (eN ((pi % ((t.gP + 1 : Nat) : Int)).toNat)), (ptr ab 0), (eI kd), (eN kn), undef, undef, undef, undef, (Value.bool xk)] ++ (zs z33 57 6 ++ (zs z43 63 31 ++ [(ptr L.bN 0), (eN dd), (eI bk), (eN pg), (ptr ab 5), ub, u52, (eN (s.progR (dd : Int) bk (pg : Int) (bytesL lb 60))), (ptr M.bN 0), (eN dd), (eI bk), (eN pg), (ptr ab 5), ub] ++ (us 97))))) kr ?_
  refine wJ.op ⟨hb, hl, a13, trivial⟩ rfl rfl (d_call (xl := [.tmp 107, .const (.int .i64 60)]) (al := [ub, (eN 60)]) Try.func16 kr rfl rfl rfl (law7Bytes_ok lb 60 ub _ (Ps.no hb) fo oo)) ?_
  rintro u59 w57 f60
  replace f60 := f60.ps
  obtain ⟨f60, o58⟩ := f60
  replace f60 := f60.less (Y := (Or1 ab (Ors L.S (Ors M.S (Old W.heap.size))))) (or1_old a13.lt (ors_old hN.lt (ors_old hM.lt (old_old oW.size))))
  replace hN := hN.step0 o58
  replace hM := hM.step0 o58
  replace hb := hb.step0 o58
  replace hl := hl.step0 o58
  replace f53 := f53.step0 o58
  replace a13 := a13.step0 o58
  replace oW := oW.tail0 o58
  refine wJ.flat ([(Value.agg #[(eI kd), (eI di), (eI bi), (eI pi), (eI an), ub, ul]), (ptr L.bN 0), (ptr M.bN 0), (ptr ab 0), undef, undef, vF, (eN dd), (eI bk), (eN pg), undef, undef, undef, undef, (ptr ab 1), (eI di), (ptr M.bN 0), (ptr M.bN 0), (ptr M.bN 0), (ptr M.bN 0), (eN t.gD), (eN (t.gD + 1)), (eN ((di % ((t.gD + 1 : Nat) : Int)).toNat)), (ptr ab 2), (eI bi), (eN ((bi % ((3 : Nat) : Int)).toNat))] ++ (zs z19 26 14 ++ [(ptr ab 3), (eI pi), (ptr M.bN 0), (ptr M.bN 0), (ptr M.bN 0), (ptr M.bN 2), (eN t.gP), (eN (t.gP + 1)), (eN ((pi % ((t.gP + 1 : Nat) : Int)).toNat)), (ptr ab 0), (eI kd), (eN kn), undef, undef, undef, undef, (Value.bool xk)] ++ (zs z33 57 6 ++ (zs z43 63 31 ++ [(ptr L.bN 0), (eN dd), (eI bk), (eN pg), (ptr ab 5), ub, u52, (eN (s.progR (dd : Int) bk (pg : Int) (bytesL lb 60))), (ptr M.bN 0), (eN dd), (eI bk), (eN pg), (ptr ab 5), ub, u59] ++ (us 96))))) kr ?_
  refine wJ.op ⟨hb, hl, a13, trivial⟩ rfl rfl (d_call (xl := [.tmp 102, .tmp 103, .tmp 104, .tmp 105, .tmp 108]) (al := [(ptr M.bN 0), (eN dd), (eI bk), (eN pg), u59]) Try.func54 kr rfl rfl rfl (refProg_ok M t _ hM (dd : Int) bk (pg : Int) (bytesL lb 60) u59 (lt_or1 a13.lt (lt_ors hN.lt (fun k t => Nat.lt_of_lt_of_le (hX k t) oW.size))) (f60.less (os_of (sub2 (subs sub1)))) (by have := bytesL_len lb 60; first | omega | (simp; done) | (simp; omega)))) ?_
  rintro _ w61 ⟨rfl, a63, o62⟩
  replace a13 := a13.step o62 (hM.dis _ in1)
  replace hN := hN.step o62 (sub2 sub1)
  replace hb := hb.step o62 (sub2 (subs sub1))
  replace hl := hl.step o62 (sub2 (subs sub1))
  replace f53 := f53.step o62 (sub2 (subs sub1))
  replace f60 := f60.step o62 (sub2 (subs sub1))
  replace oW := oW.tail o62 (fun k _ e => (subs sub1) k e)
  replace hM := a63
  refine wJ.flat ([(Value.agg #[(eI kd), (eI di), (eI bi), (eI pi), (eI an), ub, ul]), (ptr L.bN 0), (ptr M.bN 0), (ptr ab 0), undef, undef, vF, (eN dd), (eI bk), (eN pg), undef, undef, undef, undef, (ptr ab 1), (eI di), (ptr M.bN 0), (ptr M.bN 0), (ptr M.bN 0), (ptr M.bN 0), (eN t.gD), (eN (t.gD + 1)), (eN ((di % ((t.gD + 1 : Nat) : Int)).toNat)), (ptr ab 2), (eI bi), (eN ((bi % ((3 : Nat) : Int)).toNat))] ++ (zs z19 26 14 ++ [(ptr ab 3), (eI pi), (ptr M.bN 0), (ptr M.bN 0), (ptr M.bN 0), (ptr M.bN 2), (eN t.gP), (eN (t.gP + 1)), (eN ((pi % ((t.gP + 1 : Nat) : Int)).toNat)), (ptr ab 0), (eI kd), (eN kn), undef, undef, undef, undef, (Value.bool xk)] ++ (zs z33 57 6 ++ (zs z43 63 31 ++ [(ptr L.bN 0), (eN dd), (eI bk), (eN pg), (ptr ab 5), ub, u52, (eN (s.progR (dd : Int) bk (pg : Int) (bytesL lb 60))), (ptr M.bN 0), (eN dd), (eI bk), (eN pg), (ptr ab 5), ub, u59, (eN (t.progR (dd : Int) bk (pg : Int) (bytesL lb 60)))] ++ (us 95))))) kr ?_
  refine wJ.is ⟨hb, hl, a13, trivial⟩ rfl rfl (n_eql (a := (s.progR (dd : Int) bk (pg : Int) (bytesL lb 60))) (b := (t.progR (dd : Int) bk (pg : Int) (bytesL lb 60))) rfl rfl (decide_eq_true ((hS.prog _ _ _ _).2.symm))) ?_
  refine wJ.flat ([(Value.agg #[(eI kd), (eI di), (eI bi), (eI pi), (eI an), ub, ul]), (ptr L.bN 0), (ptr M.bN 0), (ptr ab 0), undef, undef, vF, (eN dd), (eI bk), (eN pg), undef, undef, undef, undef, (ptr ab 1), (eI di), (ptr M.bN 0), (ptr M.bN 0), (ptr M.bN 0), (ptr M.bN 0), (eN t.gD), (eN (t.gD + 1)), (eN ((di % ((t.gD + 1 : Nat) : Int)).toNat)), (ptr ab 2), (eI bi), (eN ((bi % ((3 : Nat) : Int)).toNat))] ++ (zs z19 26 14 ++ [(ptr ab 3), (eI pi), (ptr M.bN 0), (ptr M.bN 0), (ptr M.bN 0), (ptr M.bN 2), (eN t.gP), (eN (t.gP + 1)), (eN ((pi % ((t.gP + 1 : Nat) : Int)).toNat)), (ptr ab 0), (eI kd), (eN kn), undef, undef, undef, undef, (Value.bool xk)] ++ (zs z33 57 6 ++ (zs z43 63 31 ++ [(ptr L.bN 0), (eN dd), (eI bk), (eN pg), (ptr ab 5), ub, u52, (eN (s.progR (dd : Int) bk (pg : Int) (bytesL lb 60))), (ptr M.bN 0), (eN dd), (eI bk), (eN pg), (ptr ab 5), ub, u59, (eN (t.progR (dd : Int) bk (pg : Int) (bytesL lb 60))), vT] ++ (us 94))))) kr ?_
  refine wJ.is ⟨hb, hl, a13, trivial⟩ rfl rfl (d_assign rfl) ?_
  refine wJ.flat ([(Value.agg #[(eI kd), (eI di), (eI bi), (eI pi), (eI an), ub, ul]), (ptr L.bN 0), (ptr M.bN 0), (ptr ab 0), undef, undef, vT, (eN dd), (eI bk), (eN pg), undef, undef, undef, undef, (ptr ab 1), (eI di), (ptr M.bN 0), (ptr M.bN 0), (ptr M.bN 0), (ptr M.bN 0), (eN t.gD), (eN (t.gD + 1)), (eN ((di % ((t.gD + 1 : Nat) : Int)).toNat)), (ptr ab 2), (eI bi), (eN ((bi % ((3 : Nat) : Int)).toNat))] ++ (zs z19 26 14 ++ [(ptr ab 3), (eI pi), (ptr M.bN 0), (ptr M.bN 0), (ptr M.bN 0), (ptr M.bN 2), (eN t.gP), (eN (t.gP + 1)), (eN ((pi % ((t.gP + 1 : Nat) : Int)).toNat)), (ptr ab 0), (eI kd), (eN kn), undef, undef, undef, undef, (Value.bool xk)] ++ (zs z33 57 6 ++ (zs z43 63 31 ++ [(ptr L.bN 0), (eN dd), (eI bk), (eN pg), (ptr ab 5), ub, u52, (eN (s.progR (dd : Int) bk (pg : Int) (bytesL lb 60))), (ptr M.bN 0), (eN dd), (eI bk), (eN pg), (ptr ab 5), ub, u59, (eN (t.progR (dd : Int) bk (pg : Int) (bytesL lb 60))), vT] ++ (us 94))))) kr ?_
  refine wJ.done ⟨hb, hl, a13, trivial⟩ ?_
  refine rest_done rfl ?_
  refine gs ?_
  refine leave0 (v := vT) (res1 Try.results32 rfl) ?_
  exact ⟨_, _, rfl, (hN.less (xx_skip (xx_ors xx_id))), (hM.less (xx_skip (xx_ors xx_id))), (hS.prog _ _ _ _).1, (rg_prog hR _ _ _ _), oW⟩
 refine wQ ?_
 refine pL ?_
 refine wI (n_eql (a := kn) (b := 6) rfl rfl rfl) ?_
 refine gs ?_
 refine cond_if rfl (fun c64 => ?_) (fun c64 => ?_)
 ·
  refine wQ ?_
  refine drawnG (O := (Or1 ab (Ors L.S (Ors M.S No)))) (n := 16) 0 [0, 0, 0, 0, 0, 16, 63, 0, 0, 0, 0, 0, 2048, 8191, 16383, 32767] [(0, 113), (1, 114), (2, 115), (3, 116), (4, 117), (5, 118), (6, 119), (7, 120), (8, 121), (9, 122), (10, 123), (11, 124), (12, 125), (13, 126), (14, 127), (15, 6)] [] [] [] (fun i_ => ([] : List (RF (Or1 ab (Ors L.S (Ors M.S No))))).getD i_ (RF.any (Or1 ab (Ors L.S (Ors M.S No))))) (fun _ w_ => Arr 59 ab [(eI kd), (eI di), (eI bi), (eI pi), (eI an), ub, ul] w_ ∧ Nd L s (Or1 ab (Ors M.S X)) w_ ∧ Rd M t (Or1 ab (Ors L.S X)) w_) (fun v65 => ([(Value.agg #[(eI kd), (eI di), (eI bi), (eI pi), (eI an), ub, ul]), (ptr L.bN 0), (ptr M.bN 0), (ptr ab 0), undef, undef, (v65 15), (eN dd), (eI bk), (eN pp), undef, undef, undef, undef, (ptr ab 1), (eI di), (ptr M.bN 0), (ptr M.bN 0), (ptr M.bN 0), (ptr M.bN 0), (eN t.gD), (eN (t.gD + 1)), (eN ((di % ((t.gD + 1 : Nat) : Int)).toNat)), (ptr ab 2), (eI bi), (eN ((bi % ((3 : Nat) : Int)).toNat))] ++ (zs z19 26 14 ++ [(ptr ab 3), (eI pi), (ptr M.bN 0), (ptr M.bN 0), (ptr M.bN 0), (ptr M.bN 2), (eN t.gP), (eN (t.gP + 1)), (eN ((pi % ((t.gP + 1 : Nat) : Int)).toNat)), (ptr ab 0), (eI kd), (eN kn), undef, undef, undef, undef, (Value.bool xk)] ++ (zs z33 57 6 ++ (us 48 ++ [(Value.bool (decide (kn = 6))), (Value.bool (decide (kn = 6))), (v65 0), (v65 1), (v65 2), (v65 3), (v65 4), (v65 5), (v65 6), (v65 7), (v65 8), (v65 9), (v65 10), (v65 11), (v65 12), (v65 13), (v65 14)] ++ (us 77)))))) (fun v65 => ([(Value.agg #[(eI kd), (eI di), (eI bi), (eI pi), (eI an), ub, ul]), (ptr L.bN 0), (ptr M.bN 0), (ptr ab 0), undef, undef, vF, (eN dd), (eI bk), (eN pp), undef, undef, undef, undef, (ptr ab 1), (eI di), (ptr M.bN 0), (ptr M.bN 0), (ptr M.bN 0), (ptr M.bN 0), (eN t.gD), (eN (t.gD + 1)), (eN ((di % ((t.gD + 1 : Nat) : Int)).toNat)), (ptr ab 2), (eI bi), (eN ((bi % ((3 : Nat) : Int)).toNat))] ++ (zs z19 26 14 ++ [(ptr ab 3), (eI pi), (ptr M.bN 0), (ptr M.bN 0), (ptr M.bN 0), (ptr M.bN 2), (eN t.gP), (eN (t.gP + 1)), (eN ((pi % ((t.gP + 1 : Nat) : Int)).toNat)), (ptr ab 0), (eI kd), (eN kn), undef, undef, undef, undef, (Value.bool xk)] ++ (zs z33 57 6 ++ (us 48 ++ [(Value.bool (decide (kn = 6))), (Value.bool (decide (kn = 6)))] ++ (us 92)))))) s_mx kr rfl (by decide) (by rfl) kr kr kr (by rfl) (fun v_ => by kernel_rfl) (fun v_ => by kernel_rfl) (fun _ => fun w_ w2_ h ho => by obtain ⟨r_a13, r_hN, r_hM⟩ := h; exact ⟨r_a13.step0 ho, r_hN.step0 ho, r_hM.step0 ho⟩) ⟨a13, hN, hM⟩ ?_ ?_ ?_
  ·
   exact ls_nil
  ·
   exact ms_nil
  intro v65 lo_ hi_ w66 o67 hd hR
  clear hd lo_ hi_
  replace hb := hb.step o67 (or1_mono (ors_mono (ors_mono no_any)))
  replace hl := hl.step o67 (or1_mono (ors_mono (ors_mono no_any)))
  obtain ⟨xr_a13, xr_hN, xr_hM⟩ := hR
  replace a13 : Arr 59 ab [(eI kd), (eI di), (eI bi), (eI pi), (eI an), ub, ul] w66 := xr_a13
  replace hN := xr_hN
  replace hM := xr_hM
  clear xr_a13 xr_hN xr_hM
  replace oW := oW.tail o67 (tl_new g_oW_ab (tl_sin sub1 (tl_sin (subs sub1) tl_no)))
  refine rest_seg (n := 16) (p := 0) (q := 16) [0, 1, 2, 3, 4, 5, 7, 8, 9, 10, 11, 12] [6, 13, 14, 15] [(0, 113), (1, 114), (2, 115), (3, 116), (4, 117), (5, 118), (7, 120), (8, 121), (9, 122), (10, 123), (11, 124), (12, 125)] [(0, 113), (1, 114), (2, 115), (3, 116), (4, 117), (5, 118), (6, 119), (7, 120), (8, 121), (9, 122), (10, 123), (11, 124), (12, 125), (13, 126), (14, 127), (15, 6)] [0, 0, 0, 0, 0, 16, 63, 0, 0, 0, 0, 0, 2048, 8191, 16383, 32767] (fun i_ => nth [(ptr L.bN 0), (eN dd), (eI bk), (eN pp), (ptr ab 5), ub, undef, (ptr M.bN 0), (eN dd), (eI bk), (eN pp), (ptr ab 5), ub] i_) ([(Value.agg #[(eI kd), (eI di), (eI bi), (eI pi), (eI an), ub, ul]), (ptr L.bN 0), (ptr M.bN 0), (ptr ab 0), undef, undef, vF, (eN dd), (eI bk), (eN pp), undef, undef, undef, undef, (ptr ab 1), (eI di), (ptr M.bN 0), (ptr M.bN 0), (ptr M.bN 0), (ptr M.bN 0), (eN t.gD), (eN (t.gD + 1)), (eN ((di % ((t.gD + 1 : Nat) : Int)).toNat)), (ptr ab 2), (eI bi), (eN ((bi % ((3 : Nat) : Int)).toNat))] ++ (zs z19 26 14 ++ [(ptr ab 3), (eI pi), (ptr M.bN 0), (ptr M.bN 0), (ptr M.bN 0), (ptr M.bN 2), (eN t.gP), (eN (t.gP + 1)), (eN ((pi % ((t.gP + 1 : Nat) : Int)).toNat)), (ptr ab 0), (eI kd), (eN kn), undef, undef, undef, undef, (Value.bool xk)] ++ (zs z33 57 6 ++ (us 48 ++ [(Value.bool (decide (kn = 6))), (Value.bool (decide (kn = 6))), (ptr L.bN 0), (eN dd), (eI bk), (eN pp), (ptr ab 5), ub, undef, (ptr M.bN 0), (eN dd), (eI bk), (eN pp), (ptr ab 5), ub] ++ (us 79))))) (fun w_ => Ps (Or1 ab (Ors L.S (Ors M.S No))) (Seq kB lb ub) w_ ∧ Ps (Or1 ab (Ors L.S (Ors M.S No))) (Seq kI ll ul) w_ ∧ Arr 59 ab [(eI kd), (eI di), (eI bi), (eI pi), (eI an), ub, ul] w_ ∧ True) kr rfl (by decide) kr kr (by rfl) kr kr kr kr kr (by decide) ?_ ?_
  ·
   rintro w_ ⟨hb, hl, a13, _⟩
   refine fl_cons ⟨_, rfl, gd rfl (d_move rfl)⟩ ?_
   refine fl_cons ⟨_, rfl, gd rfl (d_move rfl)⟩ ?_
   refine fl_cons ⟨_, rfl, gd rfl (d_move rfl)⟩ ?_
   refine fl_cons ⟨_, rfl, gd rfl (d_move rfl)⟩ ?_
   refine fl_cons ⟨_, rfl, gd rfl (d_fieldAddr (j := 5) Try.underlying59 rfl s_ti36 (by decide) rfl rfl)⟩ ?_
   refine fl_cons ⟨_, rfl, gd rfl (d_load (v := ub) ⟨_, Try.underlying36, rfl⟩ rfl a13 rfl)⟩ ?_
   refine fl_cons ⟨_, rfl, gd rfl (d_move rfl)⟩ ?_
   refine fl_cons ⟨_, rfl, gd rfl (d_move rfl)⟩ ?_
   refine fl_cons ⟨_, rfl, gd rfl (d_move rfl)⟩ ?_
   refine fl_cons ⟨_, rfl, gd rfl (d_move rfl)⟩ ?_
   refine fl_cons ⟨_, rfl, gd rfl (d_fieldAddr (j := 5) Try.underlying59 rfl s_ti36 (by decide) rfl rfl)⟩ ?_
   refine fl_cons ⟨_, rfl, gd rfl (d_load (v := ub) ⟨_, Try.underlying36, rfl⟩ rfl a13 rfl)⟩ ?_
   exact fl_nil
  refine wJ.op ⟨hb, hl, a13, trivial⟩ rfl rfl (d_call (xl := [.tmp 113, .tmp 114, .tmp 115, .tmp 116, .tmp 118]) (al := [(ptr L.bN 0), (eN dd), (eI bk), (eN pp), ub]) Try.func20 kr rfl rfl rfl (prog_ok L s _ hN (dd : Int) bk (pp : Int) lb ub (lt_or1 a13.lt (lt_ors hM.lt (fun k t => Nat.lt_of_lt_of_le (hX k t) oW.size))) (hb.less (os_of (sub2 sub1))) fo)) ?_
  rintro _ w68 ⟨rfl, a70, o69⟩
  replace a13 := a13.step o69 (hN.dis _ in1)
  replace hM := hM.step o69 (sub2 sub1)
  replace hb := hb.step o69 (sub2 sub1)
  replace hl := hl.step o69 (sub2 sub1)
  replace oW := oW.tail o69 (fun k _ e => sub1 k e)
  replace hN := a70
  refine wJ.flat ([(Value.agg #[(eI kd), (eI di), (eI bi), (eI pi), (eI an), ub, ul]), (ptr L.bN 0), (ptr M.bN 0), (ptr ab 0), undef, undef, vF, (eN dd), (eI bk), (eN pp), undef, undef, undef, undef, (ptr ab 1), (eI di), (ptr M.bN 0), (ptr M.bN 0), (ptr M.bN 0), (ptr M.bN 0), (eN t.gD), (eN (t.gD + 1)), (eN ((di % ((t.gD + 1 : Nat) : Int)).toNat)), (ptr ab 2), (eI bi), (eN ((bi % ((3 : Nat) : Int)).toNat))] ++ (zs z19 26 14 ++ [(ptr ab 3), (eI pi), (ptr M.bN 0), (ptr M.bN 0), (ptr M.bN 0), (ptr M.bN 2), (eN t.gP), (eN (t.gP + 1)), (eN ((pi % ((t.gP + 1 : Nat) : Int)).toNat)), (ptr ab 0), (eI kd), (eN kn), undef, undef, undef, undef, (Value.bool xk)] ++ (zs z33 57 6 ++ (us 48 ++ [(Value.bool (decide (kn = 6))), (Value.bool (decide (kn = 6))), (ptr L.bN 0), (eN dd), (eI bk), (eN pp), (ptr ab 5), ub, (eN (s.progR (dd : Int) bk (pp : Int) lb)), (ptr M.bN 0), (eN dd), (eI bk), (eN pp), (ptr ab 5), ub] ++ (us 79))))) kr ?_
  refine wJ.op ⟨hb, hl, a13, trivial⟩ rfl rfl (d_call (xl := [.tmp 120, .tmp 121, .tmp 122, .tmp 123, .tmp 125]) (al := [(ptr M.bN 0), (eN dd), (eI bk), (eN pp), ub]) Try.func54 kr rfl rfl rfl (refProg_ok M t _ hM (dd : Int) bk (pp : Int) lb ub (lt_or1 a13.lt (lt_ors hN.lt (fun k t => Nat.lt_of_lt_of_le (hX k t) oW.size))) (hb.less (os_of (sub2 (subs sub1)))) fo)) ?_
  rintro _ w71 ⟨rfl, a73, o72⟩
  replace a13 := a13.step o72 (hM.dis _ in1)
  replace hN := hN.step o72 (sub2 sub1)
  replace hb := hb.step o72 (sub2 (subs sub1))
  replace hl := hl.step o72 (sub2 (subs sub1))
  replace oW := oW.tail o72 (fun k _ e => (subs sub1) k e)
  replace hM := a73
  refine wJ.flat ([(Value.agg #[(eI kd), (eI di), (eI bi), (eI pi), (eI an), ub, ul]), (ptr L.bN 0), (ptr M.bN 0), (ptr ab 0), undef, undef, vF, (eN dd), (eI bk), (eN pp), undef, undef, undef, undef, (ptr ab 1), (eI di), (ptr M.bN 0), (ptr M.bN 0), (ptr M.bN 0), (ptr M.bN 0), (eN t.gD), (eN (t.gD + 1)), (eN ((di % ((t.gD + 1 : Nat) : Int)).toNat)), (ptr ab 2), (eI bi), (eN ((bi % ((3 : Nat) : Int)).toNat))] ++ (zs z19 26 14 ++ [(ptr ab 3), (eI pi), (ptr M.bN 0), (ptr M.bN 0), (ptr M.bN 0), (ptr M.bN 2), (eN t.gP), (eN (t.gP + 1)), (eN ((pi % ((t.gP + 1 : Nat) : Int)).toNat)), (ptr ab 0), (eI kd), (eN kn), undef, undef, undef, undef, (Value.bool xk)] ++ (zs z33 57 6 ++ (us 48 ++ [(Value.bool (decide (kn = 6))), (Value.bool (decide (kn = 6))), (ptr L.bN 0), (eN dd), (eI bk), (eN pp), (ptr ab 5), ub, (eN (s.progR (dd : Int) bk (pp : Int) lb)), (ptr M.bN 0), (eN dd), (eI bk), (eN pp), (ptr ab 5), ub, (eN (t.progR (dd : Int) bk (pp : Int) lb))] ++ (us 78))))) kr ?_
  refine wJ.is ⟨hb, hl, a13, trivial⟩ rfl rfl (n_eql (a := (s.progR (dd : Int) bk (pp : Int) lb)) (b := (t.progR (dd : Int) bk (pp : Int) lb)) rfl rfl (decide_eq_true ((hS.prog _ _ _ _).2.symm))) ?_
  refine wJ.flat ([(Value.agg #[(eI kd), (eI di), (eI bi), (eI pi), (eI an), ub, ul]), (ptr L.bN 0), (ptr M.bN 0), (ptr ab 0), undef, undef, vF, (eN dd), (eI bk), (eN pp), undef, undef, undef, undef, (ptr ab 1), (eI di), (ptr M.bN 0), (ptr M.bN 0), (ptr M.bN 0), (ptr M.bN 0), (eN t.gD), (eN (t.gD + 1)), (eN ((di % ((t.gD + 1 : Nat) : Int)).toNat)), (ptr ab 2), (eI bi), (eN ((bi % ((3 : Nat) : Int)).toNat))] ++ (zs z19 26 14 ++ [(ptr ab 3), (eI pi), (ptr M.bN 0), (ptr M.bN 0), (ptr M.bN 0), (ptr M.bN 2), (eN t.gP), (eN (t.gP + 1)), (eN ((pi % ((t.gP + 1 : Nat) : Int)).toNat)), (ptr ab 0), (eI kd), (eN kn), undef, undef, undef, undef, (Value.bool xk)] ++ (zs z33 57 6 ++ (us 48 ++ [(Value.bool (decide (kn = 6))), (Value.bool (decide (kn = 6))), (ptr L.bN 0), (eN dd), (eI bk), (eN pp), (ptr ab 5), ub, (eN (s.progR (dd : Int) bk (pp : Int) lb)), (ptr M.bN 0), (eN dd), (eI bk), (eN pp), (ptr ab 5), ub, (eN (t.progR (dd : Int) bk (pp : Int) lb)), vT] ++ (us 77))))) kr ?_
  refine wJ.is ⟨hb, hl, a13, trivial⟩ rfl rfl (d_assign rfl) ?_
  refine wJ.flat ([(Value.agg #[(eI kd), (eI di), (eI bi), (eI pi), (eI an), ub, ul]), (ptr L.bN 0), (ptr M.bN 0), (ptr ab 0), undef, undef, vT, (eN dd), (eI bk), (eN pp), undef, undef, undef, undef, (ptr ab 1), (eI di), (ptr M.bN 0), (ptr M.bN 0), (ptr M.bN 0), (ptr M.bN 0), (eN t.gD), (eN (t.gD + 1)), (eN ((di % ((t.gD + 1 : Nat) : Int)).toNat)), (ptr ab 2), (eI bi), (eN ((bi % ((3 : Nat) : Int)).toNat))] ++ (zs z19 26 14 ++ [(ptr ab 3), (eI pi), (ptr M.bN 0), (ptr M.bN 0), (ptr M.bN 0), (ptr M.bN 2), (eN t.gP), (eN (t.gP + 1)), (eN ((pi % ((t.gP + 1 : Nat) : Int)).toNat)), (ptr ab 0), (eI kd), (eN kn), undef, undef, undef, undef, (Value.bool xk)] ++ (zs z33 57 6 ++ (us 48 ++ [(Value.bool (decide (kn = 6))), (Value.bool (decide (kn = 6))), (ptr L.bN 0), (eN dd), (eI bk), (eN pp), (ptr ab 5), ub, (eN (s.progR (dd : Int) bk (pp : Int) lb)), (ptr M.bN 0), (eN dd), (eI bk), (eN pp), (ptr ab 5), ub, (eN (t.progR (dd : Int) bk (pp : Int) lb)), vT] ++ (us 77))))) kr ?_
  refine wJ.done ⟨hb, hl, a13, trivial⟩ ?_
  refine rest_done rfl ?_
  refine gs ?_
  refine leave0 (v := vT) (res1 Try.results32 rfl) ?_
  exact ⟨_, _, rfl, (hN.less (xx_skip (xx_ors xx_id))), (hM.less (xx_skip (xx_ors xx_id))), (hS.prog _ _ _ _).1, (rg_prog hR _ _ _ _), oW⟩
 refine wQ ?_
 refine cutC (shape := fun (xe : Bool) z74 => ([(Value.agg #[(eI kd), (eI di), (eI bi), (eI pi), (eI an), ub, ul]), (ptr L.bN 0), (ptr M.bN 0), (ptr ab 0), undef, undef, vF, (eN dd), (eI bk), (eN pp), undef, undef, undef, undef, (ptr ab 1), (eI di), (ptr M.bN 0), (ptr M.bN 0), (ptr M.bN 0), (ptr M.bN 0), (eN t.gD), (eN (t.gD + 1)), (eN ((di % ((t.gD + 1 : Nat) : Int)).toNat)), (ptr ab 2), (eI bi), (eN ((bi % ((3 : Nat) : Int)).toNat))] ++ (zs z19 26 14 ++ [(ptr ab 3), (eI pi), (ptr M.bN 0), (ptr M.bN 0), (ptr M.bN 0), (ptr M.bN 2), (eN t.gP), (eN (t.gP + 1)), (eN ((pi % ((t.gP + 1 : Nat) : Int)).toNat)), (ptr ab 0), (eI kd), (eN kn), undef, undef, undef, undef, (Value.bool xk)] ++ (zs z33 57 6 ++ (us 48 ++ [(Value.bool (decide (kn = 6))), (Value.bool (decide (kn = 6)))] ++ (us 15 ++ [(Value.bool xe), (z74 129), (z74 130)] ++ (us 74))))))) (p := fun (xe : Bool) => True) ?_ ?_
 ·
  intro Q' hQ_
  have oC75 : Only No w40 w40 := Only.refl _ _
  refine wQ ?_
  refine pL ?_
  refine wI (n_eql (a := kn) (b := 7) rfl rfl rfl) ?_
  refine gs ?_
  refine cond_if rfl (fun c76 => ?_) (fun c76 => ?_)
  ·
   refine wK ?_
   exact fr_eq kr (hQ_ (decide (kn = 7)) (fun t_ => nth (us 129 ++ [(Value.bool (decide (kn = 7)))]) t_) _ trivial oC75)
  refine pL ?_
  refine wI (n_eql (a := kn) (b := 8) rfl rfl rfl) ?_
  refine go ?_
  refine wD ?_
  exact fr_eq kr (hQ_ (decide (kn = 8)) (fun t_ => nth (us 129 ++ [(Value.bool (decide (kn = 7))), (Value.bool (decide (kn = 8)))]) t_) _ trivial oC75)
 intro xe z74 w77 _ o78
 (try dsimp only)
 replace hN := hN.step0 o78
 replace hM := hM.step0 o78
 replace hb := hb.step0 o78
 replace hl := hl.step0 o78
 replace a13 := a13.step0 o78
 replace oW := oW.tail0 o78
 refine tN ?_
 refine cond_b rfl (fun c79 => ?_) (fun c79 => ?_)
 ·
  refine wQ ?_
  refine gS ?_
  refine wO (dC (erase_ok L s _ hN (dd : Int) bk (lt_or1 a13.lt (lt_ors hM.lt (fun k t => Nat.lt_of_lt_of_le (hX k t) oW.size))))) ?_
  rintro _ w80 ⟨rfl, a82, o81⟩
  replace a13 := a13.step o81 (hN.dis _ in1)
  replace hM := hM.step o81 (sub2 sub1)
  replace hb := hb.step o81 (sub2 sub1)
  replace hl := hl.step o81 (sub2 sub1)
  replace oW := oW.tail o81 (fun k _ e => sub1 k e)
  replace hN := a82
  refine gs ?_
  refine wO (dC (refErase_ok M t _ hM (dd : Int) bk (lt_or1 a13.lt (lt_ors hN.lt (fun k t => Nat.lt_of_lt_of_le (hX k t) oW.size))))) ?_
  rintro _ w83 ⟨rfl, a85, o84⟩
  replace a13 := a13.step o84 (hM.dis _ in1)
  replace hN := hN.step o84 (sub2 sub1)
  replace hb := hb.step o84 (sub2 (subs sub1))
  replace hl := hl.step o84 (sub2 (subs sub1))
  replace oW := oW.tail o84 (fun k _ e => (subs sub1) k e)
  replace hM := a85
  refine wI (n_eql (a := (s.eraseR (dd : Int) bk)) (b := (t.eraseR (dd : Int) bk)) rfl rfl (decide_eq_true ((hS.erase _ _).2.symm))) ?_
  refine gs ?_
  refine leave0 (v := vT) (res1 Try.results32 rfl) ?_
  exact ⟨_, _, rfl, (hN.less (xx_skip (xx_ors xx_id))), (hM.less (xx_skip (xx_ors xx_id))), (hS.erase _ _).1, (rg_erase hR _ _), oW⟩
 refine wQ ?_
 refine pL ?_
 refine wI (n_eql (a := kn) (b := 9) rfl rfl rfl) ?_
 refine gs ?_
 refine cond_if rfl (fun c86 => ?_) (fun c86 => ?_)
 ·
  refine wQ ?_
  refine gS ?_
  refine wO (dC (read_ok L s _ hN (dd : Int) bk (pp : Int) (lt_or1 a13.lt (lt_ors hM.lt (fun k t => Nat.lt_of_lt_of_le (hX k t) oW.size))))) ?_
  rintro _ w87 ⟨u89, rfl, f90, a91, o88⟩
  replace f90 := f90.less (Y := (Or1 ab (Ors L.S (Ors M.S (Old W.heap.size))))) (or1_old a13.lt (ors_old hN.lt (ors_old hM.lt (old_old oW.size))))
  replace a13 := a13.step o88 (hN.dis _ in1)
  replace hM := hM.step o88 (sub2 sub1)
  replace hb := hb.step o88 (sub2 sub1)
  replace hl := hl.step o88 (sub2 sub1)
  replace oW := oW.tail o88 (fun k _ e => sub1 k e)
  replace hN := a91
  refine gs ?_
  refine gS ?_
  refine wO (dC (refRead_ok M t _ hM (dd : Int) bk (pp : Int) (lt_or1 a13.lt (lt_ors hN.lt (fun k t => Nat.lt_of_lt_of_le (hX k t) oW.size))) (hS.rg hR))) ?_
  rintro _ w92 ⟨u94, rfl, f95, a96, o93⟩
  replace f95 := f95.less (Y := (Or1 ab (Ors L.S (Ors M.S (Old W.heap.size))))) (or1_old a13.lt (ors_old hN.lt (ors_old hM.lt (old_old oW.size))))
  replace a13 := a13.step o93 (hM.dis _ in1)
  replace hN := hN.step o93 (sub2 sub1)
  replace hb := hb.step o93 (sub2 (subs sub1))
  replace hl := hl.step o93 (sub2 (subs sub1))
  replace f90 := f90.step o93 (sub2 (subs sub1))
  replace oW := oW.tail o93 (fun k _ e => (subs sub1) k e)
  replace hM := a96
  refine gs ?_
  refine gS ?_
  refine wI (d_str Try.underlying36 Try.underlying5 Try.underlying9 rfl f90) ?_
  refine gs ?_
  refine wI (d_str Try.underlying36 Try.underlying5 Try.underlying9 rfl f95) ?_
  refine wI (d_seql (a := (s.readL (dd : Int) bk (pp : Int))) (c := (t.readL (dd : Int) bk (pp : Int))) rfl rfl (decide_eq_true ((hS.readL _ _ _).symm))) ?_
  refine gs ?_
  refine wG (n_eql (a := (s.askR (s.readOk (dd : Int) bk (pp : Int)))) (b := (t.askR (t.readOk (dd : Int) bk (pp : Int)))) rfl rfl (decide_eq_true ((hS.readR _ _ _).symm))) ?_
  refine gs ?_
  refine leave0 (v := vT) (res1 Try.results32 rfl) ?_
  exact ⟨_, _, rfl, (hN.less (xx_skip (xx_ors xx_id))), (hM.less (xx_skip (xx_ors xx_id))), (hS.read _ _ _), (rg_ask hR _), oW⟩
 refine wQ ?_
 refine pL ?_
 refine wI (n_eql (a := kn) (b := 10) rfl rfl rfl) ?_
 refine gs ?_
 refine cond_if rfl (fun c97 => ?_) (fun c97 => ?_)
 ·
  refine wQ ?_
  refine drawnG (O := (Or1 ab (Ors L.S (Ors M.S No)))) (n := 18) 0 [0, 0, 0, 0, 0, 0, 32, 112, 255, 0, 0, 0, 0, 0, 8192, 32767, 65535, 131071] [(0, 170), (1, 171), (2, 172), (3, 173), (4, 174), (5, 175), (6, 176), (7, 177), (8, 178), (9, 179), (10, 180), (11, 181), (12, 182), (13, 183), (14, 184), (15, 185), (16, 186), (17, 6)] [] [] [] (fun i_ => ([] : List (RF (Or1 ab (Ors L.S (Ors M.S No))))).getD i_ (RF.any (Or1 ab (Ors L.S (Ors M.S No))))) (fun _ w_ => Arr 59 ab [(eI kd), (eI di), (eI bi), (eI pi), (eI an), ub, ul] w_ ∧ Nd L s (Or1 ab (Ors M.S X)) w_ ∧ Rd M t (Or1 ab (Ors L.S X)) w_) (fun v98 => ([(Value.agg #[(eI kd), (eI di), (eI bi), (eI pi), (eI an), ub, ul]), (ptr L.bN 0), (ptr M.bN 0), (ptr ab 0), undef, undef, (v98 17), (eN dd), (eI bk), (eN pp), undef, undef, undef, undef, (ptr ab 1), (eI di), (ptr M.bN 0), (ptr M.bN 0), (ptr M.bN 0), (ptr M.bN 0), (eN t.gD), (eN (t.gD + 1)), (eN ((di % ((t.gD + 1 : Nat) : Int)).toNat)), (ptr ab 2), (eI bi), (eN ((bi % ((3 : Nat) : Int)).toNat))] ++ (zs z19 26 14 ++ [(ptr ab 3), (eI pi), (ptr M.bN 0), (ptr M.bN 0), (ptr M.bN 0), (ptr M.bN 2), (eN t.gP), (eN (t.gP + 1)), (eN ((pi % ((t.gP + 1 : Nat) : Int)).toNat)), (ptr ab 0), (eI kd), (eN kn), undef, undef, undef, undef, (Value.bool xk)] ++ (zs z33 57 6 ++ (us 48 ++ [(Value.bool (decide (kn = 6))), (Value.bool (decide (kn = 6)))] ++ (us 15 ++ [(Value.bool xe), (z74 129), (z74 130)] ++ (us 9 ++ [(Value.bool (decide (kn = 9))), (Value.bool (decide (kn = 9)))] ++ (us 26 ++ [(Value.bool (decide (kn = 10))), (Value.bool (decide (kn = 10))), (v98 0), (v98 1), (v98 2), (v98 3), (v98 4), (v98 5), (v98 6), (v98 7), (v98 8), (v98 9), (v98 10), (v98 11), (v98 12), (v98 13), (v98 14), (v98 15), (v98 16)] ++ (us 18))))))))) (fun v98 => ([(Value.agg #[(eI kd), (eI di), (eI bi), (eI pi), (eI an), ub, ul]), (ptr L.bN 0), (ptr M.bN 0), (ptr ab 0), undef, undef, vF, (eN dd), (eI bk), (eN pp), undef, undef, undef, undef, (ptr ab 1), (eI di), (ptr M.bN 0), (ptr M.bN 0), (ptr M.bN 0), (ptr M.bN 0), (eN t.gD), (eN (t.gD + 1)), (eN ((di % ((t.gD + 1 : Nat) : Int)).toNat)), (ptr ab 2), (eI bi), (eN ((bi % ((3 : Nat) : Int)).toNat))] ++ (zs z19 26 14 ++ [(ptr ab 3), (eI pi), (ptr M.bN 0), (ptr M.bN 0), (ptr M.bN 0), (ptr M.bN 2), (eN t.gP), (eN (t.gP + 1)), (eN ((pi % ((t.gP + 1 : Nat) : Int)).toNat)), (ptr ab 0), (eI kd), (eN kn), undef, undef, undef, undef, (Value.bool xk)] ++ (zs z33 57 6 ++ (us 48 ++ [(Value.bool (decide (kn = 6))), (Value.bool (decide (kn = 6)))] ++ (us 15 ++ [(Value.bool xe), (z74 129), (z74 130)] ++ (us 9 ++ [(Value.bool (decide (kn = 9))), (Value.bool (decide (kn = 9)))] ++ (us 26 ++ [(Value.bool (decide (kn = 10))), (Value.bool (decide (kn = 10)))] ++ (us 35))))))))) s_mx kr rfl (by decide) (by rfl) kr kr kr (by rfl) (fun v_ => by kernel_rfl) (fun v_ => by kernel_rfl) (fun _ => fun w_ w2_ h ho => by obtain ⟨r_a13, r_hN, r_hM⟩ := h; exact ⟨r_a13.step0 ho, r_hN.step0 ho, r_hM.step0 ho⟩) ⟨a13, hN, hM⟩ ?_ ?_ ?_
  ·
   exact ls_nil
  ·
   exact ms_nil
  intro v98 lo_ hi_ w99 o100 hd hR
  clear hd lo_ hi_
  replace hb := hb.step o100 (or1_mono (ors_mono (ors_mono no_any)))
  replace hl := hl.step o100 (or1_mono (ors_mono (ors_mono no_any)))
  obtain ⟨xr_a13, xr_hN, xr_hM⟩ := hR
  replace a13 : Arr 59 ab [(eI kd), (eI di), (eI bi), (eI pi), (eI an), ub, ul] w99 := xr_a13
  replace hN := xr_hN
  replace hM := xr_hM
  clear xr_a13 xr_hN xr_hM
  replace oW := oW.tail o100 (tl_new g_oW_ab (tl_sin sub1 (tl_sin (subs sub1) tl_no)))
  refine rest_seg (n := 18) (p := 0) (q := 18) [0, 1, 2, 3, 5, 6, 9, 10, 11, 12, 13, 14] [4, 7, 8, 15, 16, 17] [(0, 170), (1, 171), (2, 172), (3, 173), (5, 175), (6, 176), (9, 179), (10, 180), (11, 181), (12, 182), (13, 183), (14, 184)] [(0, 170), (1, 171), (2, 172), (3, 173), (4, 174), (5, 175), (6, 176), (7, 177), (8, 178), (9, 179), (10, 180), (11, 181), (12, 182), (13, 183), (14, 184), (15, 185), (16, 186), (17, 6)] [0, 0, 0, 0, 0, 0, 32, 112, 255, 0, 0, 0, 0, 0, 8192, 32767, 65535, 131071] (fun i_ => nth [(ptr L.bN 0), (eN dd), (eI bk), (eN pp), undef, (ptr ab 6), ul, undef, undef, (ptr M.bN 0), (eN dd), (eI bk), (eN pp), (ptr ab 6), ul] i_) ([(Value.agg #[(eI kd), (eI di), (eI bi), (eI pi), (eI an), ub, ul]), (ptr L.bN 0), (ptr M.bN 0), (ptr ab 0), undef, undef, vF, (eN dd), (eI bk), (eN pp), undef, undef, undef, undef, (ptr ab 1), (eI di), (ptr M.bN 0), (ptr M.bN 0), (ptr M.bN 0), (ptr M.bN 0), (eN t.gD), (eN (t.gD + 1)), (eN ((di % ((t.gD + 1 : Nat) : Int)).toNat)), (ptr ab 2), (eI bi), (eN ((bi % ((3 : Nat) : Int)).toNat))] ++ (zs z19 26 14 ++ [(ptr ab 3), (eI pi), (ptr M.bN 0), (ptr M.bN 0), (ptr M.bN 0), (ptr M.bN 2), (eN t.gP), (eN (t.gP + 1)), (eN ((pi % ((t.gP + 1 : Nat) : Int)).toNat)), (ptr ab 0), (eI kd), (eN kn), undef, undef, undef, undef, (Value.bool xk)] ++ (zs z33 57 6 ++ (us 48 ++ [(Value.bool (decide (kn = 6))), (Value.bool (decide (kn = 6)))] ++ (us 15 ++ [(Value.bool xe), (z74 129), (z74 130)] ++ (us 9 ++ [(Value.bool (decide (kn = 9))), (Value.bool (decide (kn = 9)))] ++ (us 26 ++ [(Value.bool (decide (kn = 10))), (Value.bool (decide (kn = 10))), (ptr L.bN 0), (eN dd), (eI bk), (eN pp), undef, (ptr ab 6), ul, undef, undef, (ptr M.bN 0), (eN dd), (eI bk), (eN pp), (ptr ab 6), ul] ++ (us 20)))))))) (fun w_ => Ps (Or1 ab (Ors L.S (Ors M.S No))) (Seq kB lb ub) w_ ∧ Ps (Or1 ab (Ors L.S (Ors M.S No))) (Seq kI ll ul) w_ ∧ Arr 59 ab [(eI kd), (eI di), (eI bi), (eI pi), (eI an), ub, ul] w_ ∧ True) kr rfl (by decide) kr kr (by rfl) kr kr kr kr kr (by decide) ?_ ?_
  ·
   rintro w_ ⟨hb, hl, a13, _⟩
   refine fl_cons ⟨_, rfl, gd rfl (d_move rfl)⟩ ?_
   refine fl_cons ⟨_, rfl, gd rfl (d_move rfl)⟩ ?_
   refine fl_cons ⟨_, rfl, gd rfl (d_move rfl)⟩ ?_
   refine fl_cons ⟨_, rfl, gd rfl (d_move rfl)⟩ ?_
   refine fl_cons ⟨_, rfl, gd rfl (d_fieldAddr (j := 6) Try.underlying59 rfl s_ti37 (by decide) rfl rfl)⟩ ?_
   refine fl_cons ⟨_, rfl, gd rfl (d_load (v := ul) ⟨_, Try.underlying37, rfl⟩ rfl a13 rfl)⟩ ?_
   refine fl_cons ⟨_, rfl, gd rfl (d_move rfl)⟩ ?_
   refine fl_cons ⟨_, rfl, gd rfl (d_move rfl)⟩ ?_
   refine fl_cons ⟨_, rfl, gd rfl (d_move rfl)⟩ ?_
   refine fl_cons ⟨_, rfl, gd rfl (d_move rfl)⟩ ?_
   refine fl_cons ⟨_, rfl, gd rfl (d_fieldAddr (j := 6) Try.underlying59 rfl s_ti37 (by decide) rfl rfl)⟩ ?_
   refine fl_cons ⟨_, rfl, gd rfl (d_load (v := ul) ⟨_, Try.underlying37, rfl⟩ rfl a13 rfl)⟩ ?_
   exact fl_nil
  refine wJ.op ⟨hb, hl, a13, trivial⟩ rfl rfl (d_buildL (cs := []) Try.underlying37 s_ti3 rfl (nb rfl) parts_nil rfl) ?_
  rintro _ w102 ⟨b101, rfl, g103, a104, o105⟩
  replace a104 : Arr 3 b101 (([] : List Int).map eI) w102 := a104
  have l_b101 : ([] : List Int).length = 0 := rfl
  have n_ab_b101 : ab ≠ b101 := a13.ne g103
  have g_oW_b101 : W.heap.size ≤ b101 := Nat.le_trans oW.size g103
  replace hN := hN.new o105 g103
  replace hM := hM.new o105 g103
  replace hb := hb.new o105 g103
  replace hl := hl.new o105 g103
  replace a13 := a13.step0 o105
  replace oW := oW.tail0 o105
  refine wJ.flat ([(Value.agg #[(eI kd), (eI di), (eI bi), (eI pi), (eI an), ub, ul]), (ptr L.bN 0), (ptr M.bN 0), (ptr ab 0), undef, undef, vF, (eN dd), (eI bk), (eN pp), undef, undef, undef, undef, (ptr ab 1), (eI di), (ptr M.bN 0), (ptr M.bN 0), (ptr M.bN 0), (ptr M.bN 0), (eN t.gD), (eN (t.gD + 1)), (eN ((di % ((t.gD + 1 : Nat) : Int)).toNat)), (ptr ab 2), (eI bi), (eN ((bi % ((3 : Nat) : Int)).toNat))] ++ (zs z19 26 14 ++ [(ptr ab 3), (eI pi), (ptr M.bN 0), (ptr M.bN 0), (ptr M.bN 0), (ptr M.bN 2), (eN t.gP), (eN (t.gP + 1)), (eN ((pi % ((t.gP + 1 : Nat) : Int)).toNat)), (ptr ab 0), (eI kd), (eN kn), undef, undef, undef, undef, (Value.bool xk)] ++ (zs z33 57 6 ++ (us 48 ++ [(Value.bool (decide (kn = 6))), (Value.bool (decide (kn = 6)))] ++ (us 15 ++ [(Value.bool xe), (z74 129), (z74 130)] ++ (us 9 ++ [(Value.bool (decide (kn = 9))), (Value.bool (decide (kn = 9)))] ++ (us 26 ++ [(Value.bool (decide (kn = 10))), (Value.bool (decide (kn = 10))), (ptr L.bN 0), (eN dd), (eI bk), (eN pp), (sli b101 0 0 0), (ptr ab 6), ul, undef, undef, (ptr M.bN 0), (eN dd), (eI bk), (eN pp), (ptr ab 6), ul] ++ (us 20)))))))) kr ?_
  have a107 := Ow.of_map2 a104 l_b101
  have nq_row106_ab := nq_b (Ne.symm n_ab_b101)
  have q_oW_row106 : Fr (some b101) none W.heap.size := Fr.new g_oW_b101
  replace hN := hN.less (Y := (Orq (some b101) (Or1 ab (Ors M.S X)))) (xx_br (xx_or1 (xx_ors xx_id)))
  replace hM := hM.less (Y := (Orq (some b101) (Or1 ab (Ors L.S X)))) (xx_br (xx_or1 (xx_ors xx_id)))
  replace hb := hb.less (Y := (Orq (some b101) (Or1 ab (Ors L.S (Ors M.S No))))) (xx_br (xx_or1 (xx_ors (xx_ors xx_id))))
  replace hl := hl.less (Y := (Orq (some b101) (Or1 ab (Ors L.S (Ors M.S No))))) (xx_br (xx_or1 (xx_ors (xx_ors xx_id))))
  refine wJ.op ⟨hb.less (xx_skip (xx_or1 (xx_ors (xx_ors xx_id)))), hl.less (xx_skip (xx_or1 (xx_ors (xx_ors xx_id)))), a13, trivial⟩ rfl rfl (d_append Try.underlying37 Try.underlying37 s_ti3 rfl rfl rfl a107 (SrcV.of_seq hl (fun _ => rfl)) (by first | omega | (simp; omega)) (by first | omega | (simp; omega)) rfl) ?_
  rintro u108 w109 ⟨bo110, a111, o112, q113⟩
  replace a111 : Ow 3 1 bo110 u108 (ll).length ((ll).map eI) w109 := by simpa using a111
  replace hN := hN.gr o112 (fun k e => (.inl e)) (xx_re (Fr.of_or q113) (xx_or1 (xx_ors xx_id)))
  replace hM := hM.gr o112 (fun k e => (.inl e)) (xx_re (Fr.of_or q113) (xx_or1 (xx_ors xx_id)))
  replace hb := hb.gr o112 (fun k e => (.inl e)) (xx_re (Fr.of_or q113) (xx_or1 (xx_ors (xx_ors xx_id))))
  replace hl := hl.gr o112 (fun k e => (.inl e)) (xx_re (Fr.of_or q113) (xx_or1 (xx_ors (xx_ors xx_id))))
  have nq2 := nqs nq_row106_ab (Fr.of_or q113) a13.lt
  replace a13 := a13.step o112 (fun e => nq_row106_ab _ e rfl)
  replace nq_row106_ab := nq2
  clear nq2
  have tq := oW.size
  replace oW := oW.tailr o112 q_oW_row106 (fun _ e => by cases e)
  replace q_oW_row106 := qtr (Fr.of_or q113) q_oW_row106 tq
  clear tq
  refine wJ.flat ([(Value.agg #[(eI kd), (eI di), (eI bi), (eI pi), (eI an), ub, ul]), (ptr L.bN 0), (ptr M.bN 0), (ptr ab 0), undef, undef, vF, (eN dd), (eI bk), (eN pp), undef, undef, undef, undef, (ptr ab 1), (eI di), (ptr M.bN 0), (ptr M.bN 0), (ptr M.bN 0), (ptr M.bN 0), (eN t.gD), (eN (t.gD + 1)), (eN ((di % ((t.gD + 1 : Nat) : Int)).toNat)), (ptr ab 2), (eI bi), (eN ((bi % ((3 : Nat) : Int)).toNat))] ++ (zs z19 26 14 ++ [(ptr ab 3), (eI pi), (ptr M.bN 0), (ptr M.bN 0), (ptr M.bN 0), (ptr M.bN 2), (eN t.gP), (eN (t.gP + 1)), (eN ((pi % ((t.gP + 1 : Nat) : Int)).toNat)), (ptr ab 0), (eI kd), (eN kn), undef, undef, undef, undef, (Value.bool xk)] ++ (zs z33 57 6 ++ (us 48 ++ [(Value.bool (decide (kn = 6))), (Value.bool (decide (kn = 6)))] ++ (us 15 ++ [(Value.bool xe), (z74 129), (z74 130)] ++ (us 9 ++ [(Value.bool (decide (kn = 9))), (Value.bool (decide (kn = 9)))] ++ (us 26 ++ [(Value.bool (decide (kn = 10))), (Value.bool (decide (kn = 10))), (ptr L.bN 0), (eN dd), (eI bk), (eN pp), (sli b101 0 0 0), (ptr ab 6), ul, u108, undef, (ptr M.bN 0), (eN dd), (eI bk), (eN pp), (ptr ab 6), ul] ++ (us 20)))))))) kr ?_
  refine wJ.op ⟨hb.less (xx_skip (xx_or1 (xx_ors (xx_ors xx_id)))), hl.less (xx_skip (xx_or1 (xx_ors (xx_ors xx_id)))), a13, trivial⟩ rfl rfl (d_call (xl := [.tmp 170, .tmp 171, .tmp 172, .tmp 173, .tmp 177]) (al := [(ptr L.bN 0), (eN dd), (eI bk), (eN pp), u108]) Try.func17 kr rfl rfl rfl (noise_ok L s _ hN (dd : Int) bk (pp : Int) ll u108 (lt_orq a111.lts (lt_or1 a13.lt (lt_ors hM.lt (fun k t => Nat.lt_of_lt_of_le (hX k t) oW.size)))) (Ow.seq a111 (fun b hb => not_ors (hN.dis b ((fun k e => (.inl e)) b hb)) not_no)) fo)) ?_
  rintro _ w114 ⟨rfl, a116, o115⟩
  replace a13 := a13.step o115 (hN.dis _ (inq in1))
  replace a111 := a111.step o115 (fun x hx => hN.dis x ((fun k e => (.inl e)) x hx))
  replace hM := hM.step o115 (subq (sub2 sub1))
  replace hb := hb.step o115 (subq (sub2 sub1))
  replace hl := hl.step o115 (subq (sub2 sub1))
  replace oW := oW.tail o115 (fun k _ e => sub1 k e)
  replace hN := a116
  refine wJ.flat ([(Value.agg #[(eI kd), (eI di), (eI bi), (eI pi), (eI an), ub, ul]), (ptr L.bN 0), (ptr M.bN 0), (ptr ab 0), undef, undef, vF, (eN dd), (eI bk), (eN pp), undef, undef, undef, undef, (ptr ab 1), (eI di), (ptr M.bN 0), (ptr M.bN 0), (ptr M.bN 0), (ptr M.bN 0), (eN t.gD), (eN (t.gD + 1)), (eN ((di % ((t.gD + 1 : Nat) : Int)).toNat)), (ptr ab 2), (eI bi), (eN ((bi % ((3 : Nat) : Int)).toNat))] ++ (zs z19 26 14 ++ [(ptr ab 3), (eI pi), (ptr M.bN 0), (ptr M.bN 0), (ptr M.bN 0), (ptr M.bN 2), (eN t.gP), (eN (t.gP + 1)), (eN ((pi % ((t.gP + 1 : Nat) : Int)).toNat)), (ptr ab 0), (eI kd), (eN kn), undef, undef, undef, undef, (Value.bool xk)] ++ (zs z33 57 6 ++ (us 48 ++ [(Value.bool (decide (kn = 6))), (Value.bool (decide (kn = 6)))] ++ (us 15 ++ [(Value.bool xe), (z74 129), (z74 130)] ++ (us 9 ++ [(Value.bool (decide (kn = 9))), (Value.bool (decide (kn = 9)))] ++ (us 26 ++ [(Value.bool (decide (kn = 10))), (Value.bool (decide (kn = 10))), (ptr L.bN 0), (eN dd), (eI bk), (eN pp), (sli b101 0 0 0), (ptr ab 6), ul, u108, (eN (s.noiseR (dd : Int) bk (pp : Int))), (ptr M.bN 0), (eN dd), (eI bk), (eN pp), (ptr ab 6), ul] ++ (us 20)))))))) kr ?_
  refine wJ.op ⟨hb.less (xx_skip (xx_or1 (xx_ors (xx_ors xx_id)))), hl.less (xx_skip (xx_or1 (xx_ors (xx_ors xx_id)))), a13, trivial⟩ rfl rfl (d_call (xl := [.tmp 179, .tmp 180, .tmp 181, .tmp 182, .tmp 184]) (al := [(ptr M.bN 0), (eN dd), (eI bk), (eN pp), ul]) Try.func57 kr rfl rfl rfl (refNoise_ok M t _ hM (dd : Int) bk (pp : Int) ll ul (lt_orq a111.lts (lt_or1 a13.lt (lt_ors hN.lt (fun k t => Nat.lt_of_lt_of_le (hX k t) oW.size)))) (hl.less (os_of (subq (sub2 (subs sub1))))) fo)) ?_
  rintro _ w117 ⟨rfl, a119, o118⟩
  replace a13 := a13.step o118 (hM.dis _ (inq in1))
  replace a111 := a111.step o118 (fun x hx => hM.dis x ((fun k e => (.inl e)) x hx))
  replace hN := hN.step o118 (subq (sub2 sub1))
  replace hb := hb.step o118 (subq (sub2 (subs sub1)))
  replace hl := hl.step o118 (subq (sub2 (subs sub1)))
  replace oW := oW.tail o118 (fun k _ e => (subs sub1) k e)
  replace hM := a119
  refine wJ.flat ([(Value.agg #[(eI kd), (eI di), (eI bi), (eI pi), (eI an), ub, ul]), (ptr L.bN 0), (ptr M.bN 0), (ptr ab 0), undef, undef, vF, (eN dd), (eI bk), (eN pp), undef, undef, undef, undef, (ptr ab 1), (eI di), (ptr M.bN 0), (ptr M.bN 0), (ptr M.bN 0), (ptr M.bN 0), (eN t.gD), (eN (t.gD + 1)), (eN ((di % ((t.gD + 1 : Nat) : Int)).toNat)), (ptr ab 2), (eI bi), (eN ((bi % ((3 : Nat) : Int)).toNat))] ++ (zs z19 26 14 ++ [(ptr ab 3), (eI pi), (ptr M.bN 0), (ptr M.bN 0), (ptr M.bN 0), (ptr M.bN 2), (eN t.gP), (eN (t.gP + 1)), (eN ((pi % ((t.gP + 1 : Nat) : Int)).toNat)), (ptr ab 0), (eI kd), (eN kn), undef, undef, undef, undef, (Value.bool xk)] ++ (zs z33 57 6 ++ (us 48 ++ [(Value.bool (decide (kn = 6))), (Value.bool (decide (kn = 6)))] ++ (us 15 ++ [(Value.bool xe), (z74 129), (z74 130)] ++ (us 9 ++ [(Value.bool (decide (kn = 9))), (Value.bool (decide (kn = 9)))] ++ (us 26 ++ [(Value.bool (decide (kn = 10))), (Value.bool (decide (kn = 10))), (ptr L.bN 0), (eN dd), (eI bk), (eN pp), (sli b101 0 0 0), (ptr ab 6), ul, u108, (eN (s.noiseR (dd : Int) bk (pp : Int))), (ptr M.bN 0), (eN dd), (eI bk), (eN pp), (ptr ab 6), ul, (eN (t.noiseR (dd : Int) bk (pp : Int)))] ++ (us 19)))))))) kr ?_
  refine wJ.is ⟨hb.less (xx_skip (xx_or1 (xx_ors (xx_ors xx_id)))), hl.less (xx_skip (xx_or1 (xx_ors (xx_ors xx_id)))), a13, trivial⟩ rfl rfl (n_eql (a := (s.noiseR (dd : Int) bk (pp : Int))) (b := (t.noiseR (dd : Int) bk (pp : Int))) rfl rfl (decide_eq_true ((hS.noise _ _ _ ll).2.symm))) ?_
  refine wJ.flat ([(Value.agg #[(eI kd), (eI di), (eI bi), (eI pi), (eI an), ub, ul]), (ptr L.bN 0), (ptr M.bN 0), (ptr ab 0), undef, undef, vF, (eN dd), (eI bk), (eN pp), undef, undef, undef, undef, (ptr ab 1), (eI di), (ptr M.bN 0), (ptr M.bN 0), (ptr M.bN 0), (ptr M.bN 0), (eN t.gD), (eN (t.gD + 1)), (eN ((di % ((t.gD + 1 : Nat) : Int)).toNat)), (ptr ab 2), (eI bi), (eN ((bi % ((3 : Nat) : Int)).toNat))] ++ (zs z19 26 14 ++ [(ptr ab 3), (eI pi), (ptr M.bN 0), (ptr M.bN 0), (ptr M.bN 0), (ptr M.bN 2), (eN t.gP), (eN (t.gP + 1)), (eN ((pi % ((t.gP + 1 : Nat) : Int)).toNat)), (ptr ab 0), (eI kd), (eN kn), undef, undef, undef, undef, (Value.bool xk)] ++ (zs z33 57 6 ++ (us 48 ++ [(Value.bool (decide (kn = 6))), (Value.bool (decide (kn = 6)))] ++ (us 15 ++ [(Value.bool xe), (z74 129), (z74 130)] ++ (us 9 ++ [(Value.bool (decide (kn = 9))), (Value.bool (decide (kn = 9)))] ++ (us 26 ++ [(Value.bool (decide (kn = 10))), (Value.bool (decide (kn = 10))), (ptr L.bN 0), (eN dd), (eI bk), (eN pp), (sli b101 0 0 0), (ptr ab 6), ul, u108, (eN (s.noiseR (dd : Int) bk (pp : Int))), (ptr M.bN 0), (eN dd), (eI bk), (eN pp), (ptr ab 6), ul, (eN (t.noiseR (dd : Int) bk (pp : Int))), vT] ++ (us 18)))))))) kr ?_
  refine wJ.is ⟨hb.less (xx_skip (xx_or1 (xx_ors (xx_ors xx_id)))), hl.less (xx_skip (xx_or1 (xx_ors (xx_ors xx_id)))), a13, trivial⟩ rfl rfl (d_assign rfl) ?_
  refine wJ.flat ([(Value.agg #[(eI kd), (eI di), (eI bi), (eI pi), (eI an), ub, ul]), (ptr L.bN 0), (ptr M.bN 0), (ptr ab 0), undef, undef, vT, (eN dd), (eI bk), (eN pp), undef, undef, undef, undef, (ptr ab 1), (eI di), (ptr M.bN 0), (ptr M.bN 0), (ptr M.bN 0), (ptr M.bN 0), (eN t.gD), (eN (t.gD + 1)), (eN ((di % ((t.gD + 1 : Nat) : Int)).toNat)), (ptr ab 2), (eI bi), (eN ((bi % ((3 : Nat) : Int)).toNat))] ++ (zs z19 26 14 ++ [(ptr ab 3), (eI pi), (ptr M.bN 0), (ptr M.bN 0), (ptr M.bN 0), (ptr M.bN 2), (eN t.gP), (eN (t.gP + 1)), (eN ((pi % ((t.gP + 1 : Nat) : Int)).toNat)), (ptr ab 0), (eI kd), (eN kn), undef, undef, undef, undef, (Value.bool xk)] ++ (zs z33 57 6 ++ (us 48 ++ [(Value.bool (decide (kn = 6))), (Value.bool (decide (kn = 6)))] ++ (us 15 ++ [(Value.bool xe), (z74 129), (z74 130)] ++ (us 9 ++ [(Value.bool (decide (kn = 9))), (Value.bool (decide (kn = 9)))] ++ (us 26 ++ [(Value.bool (decide (kn = 10))), (Value.bool (decide (kn = 10))), (ptr L.bN 0), (eN dd), (eI bk), (eN pp), (sli b101 0 0 0), (ptr ab 6), ul, u108, (eN (s.noiseR (dd : Int) bk (pp : Int))), (ptr M.bN 0), (eN dd), (eI bk), (eN pp), (ptr ab 6), ul, (eN (t.noiseR (dd : Int) bk (pp : Int))), vT] ++ (us 18)))))))) kr ?_
  refine wJ.done ⟨hb.less (xx_skip (xx_or1 (xx_ors (xx_ors xx_id)))), hl.less (xx_skip (xx_or1 (xx_ors (xx_ors xx_id)))), a13, trivial⟩ ?_
  refine rest_done rfl ?_
  refine gs ?_
  refine leave0 (v := vT) (res1 Try.results32 rfl) ?_
  exact ⟨_, _, rfl, (hN.less (xx_skip (xx_skip (xx_ors xx_id)))), (hM.less (xx_skip (xx_skip (xx_ors xx_id)))), (hS.noise _ _ _ _).1, (rg_noise hR _ _ _ rl), oW⟩
 refine wQ ?_
 refine pL ?_
 refine wI (n_eql (a := kn) (b := 11) rfl rfl rfl) ?_
 refine gs ?_
 refine cond_if rfl (fun c120 => ?_) (fun c120 => ?_)
 ·
  refine wQ ?_
  by_cases z0 : (an % ((9 : Nat) : Int)).toNat = 0
  ·
   refine dpT 7 ?_
   refine gx_ ?_
   refine pC (fun _ hO_ => dC (law7Within_ok an 9 _ oo oo)) ?_
   refine pI (fun _ hO_ => d_sub (k := .i64) (m := (((an % ((9 : Nat) : Int)).toNat : Nat) : Int)) (n := 1) rfl rfl (r := (-1)) (by rw [z0]; rfl)) ?_
   refine gx_ ?_
   refine pz_ ?_
   intro w121 o122
   replace hN := hN.step0 o122
   replace hM := hM.step0 o122
   replace hb := hb.step0 o122
   replace hl := hl.step0 o122
   replace a13 := a13.step0 o122
   replace oW := oW.tail0 o122
   refine wO (dC (stopM_ok L s _ hN lb ub (lt_or1 a13.lt (lt_ors hM.lt (fun k t => Nat.lt_of_lt_of_le (hX k t) oW.size))) (hb.less (os_of (sub2 sub1))) fo)) ?_
   rintro u126 w123 ⟨a125, o124⟩
   replace a13 := a13.step o124 (hN.dis _ in1)
   replace hM := hM.step o124 (sub2 sub1)
   replace hb := hb.step o124 (sub2 sub1)
   replace hl := hl.step o124 (sub2 sub1)
   replace oW := oW.tail o124 (fun k _ e => sub1 k e)
   replace hN := a125
   refine gs ?_
   refine dpT 7 ?_
   refine gx_ ?_
   refine pC (fun _ hO_ => dC (law7Within_ok an 9 _ oo oo)) ?_
   refine pI (fun _ hO_ => d_sub (k := .i64) (m := (((an % ((9 : Nat) : Int)).toNat : Nat) : Int)) (n := 1) rfl rfl (r := (-1)) (by rw [z0]; rfl)) ?_
   refine gx_ ?_
   refine pz_ ?_
   intro w127 o128
   replace hN := hN.step0 o128
   replace hM := hM.step0 o128
   replace hb := hb.step0 o128
   replace hl := hl.step0 o128
   replace a13 := a13.step0 o128
   replace oW := oW.tail0 o128
   refine wO (dC (refStopM_ok M t _ hM lb ub (lt_or1 a13.lt (lt_ors hN.lt (fun k t => Nat.lt_of_lt_of_le (hX k t) oW.size))) (hb.less (os_of (sub2 (subs sub1)))) fo)) ?_
   rintro u132 w129 ⟨a131, o130⟩
   replace a13 := a13.step o130 (hM.dis _ in1)
   replace hN := hN.step o130 (sub2 sub1)
   replace hb := hb.step o130 (sub2 (subs sub1))
   replace hl := hl.step o130 (sub2 (subs sub1))
   replace oW := oW.tail o130 (fun k _ e => (subs sub1) k e)
   replace hM := a131
   refine gs ?_
   refine gS ?_
   refine leave0 (v := vT) (res1 Try.results32 rfl) ?_
   exact ⟨_, _, rfl, (hN.less (xx_skip (xx_ors xx_id))), (hM.less (xx_skip (xx_ors xx_id))), (hS.stopAt _ _), (rg_stop hR _ _), oW⟩
  refine dpT 7 ?_
  refine gx_ ?_
  refine pC (fun _ hO_ => dC (law7Within_ok an 9 _ oo oo)) ?_
  refine pI (fun _ hO_ => d_sub (k := .i64) (m := (((an % ((9 : Nat) : Int)).toNat : Nat) : Int)) (n := 1) rfl rfl (r := (((an % ((9 : Nat) : Int)).toNat - 1 : Nat) : Int)) (by rw [IntWalk.i64_in _ oo]; omega)) ?_
  refine gx_ ?_
  refine pz_ ?_
  intro w133 o134
  replace hN := hN.step0 o134
  replace hM := hM.step0 o134
  replace hb := hb.step0 o134
  replace hl := hl.step0 o134
  replace a13 := a13.step0 o134
  replace oW := oW.tail0 o134
  refine wO (dC (stop_ok L s _ hN ((an % ((9 : Nat) : Int)).toNat - 1) lb ub (lt_or1 a13.lt (lt_ors hM.lt (fun k t => Nat.lt_of_lt_of_le (hX k t) oW.size))) (hb.less (os_of (sub2 sub1))) fo oo)) ?_
  rintro u138 w135 ⟨a137, o136⟩
  replace a13 := a13.step o136 (hN.dis _ in1)
  replace hM := hM.step o136 (sub2 sub1)
  replace hb := hb.step o136 (sub2 sub1)
  replace hl := hl.step o136 (sub2 sub1)
  replace oW := oW.tail o136 (fun k _ e => sub1 k e)
  replace hN := a137
  refine gs ?_
  refine dpT 7 ?_
  refine gx_ ?_
  refine pC (fun _ hO_ => dC (law7Within_ok an 9 _ oo oo)) ?_
  refine pI (fun _ hO_ => d_sub (k := .i64) (m := (((an % ((9 : Nat) : Int)).toNat : Nat) : Int)) (n := 1) rfl rfl (r := (((an % ((9 : Nat) : Int)).toNat - 1 : Nat) : Int)) (by rw [IntWalk.i64_in _ oo]; omega)) ?_
  refine gx_ ?_
  refine pz_ ?_
  intro w139 o140
  replace hN := hN.step0 o140
  replace hM := hM.step0 o140
  replace hb := hb.step0 o140
  replace hl := hl.step0 o140
  replace a13 := a13.step0 o140
  replace oW := oW.tail0 o140
  refine wO (dC (refStop_ok M t _ hM ((an % ((9 : Nat) : Int)).toNat - 1) lb ub (lt_or1 a13.lt (lt_ors hN.lt (fun k t => Nat.lt_of_lt_of_le (hX k t) oW.size))) (hb.less (os_of (sub2 (subs sub1)))) fo oo)) ?_
  rintro u144 w141 ⟨a143, o142⟩
  replace a13 := a13.step o142 (hM.dis _ in1)
  replace hN := hN.step o142 (sub2 sub1)
  replace hb := hb.step o142 (sub2 (subs sub1))
  replace hl := hl.step o142 (sub2 (subs sub1))
  replace oW := oW.tail o142 (fun k _ e => (subs sub1) k e)
  replace hM := a143
  refine gs ?_
  refine gS ?_
  refine leave0 (v := vT) (res1 Try.results32 rfl) ?_
  exact ⟨_, _, rfl, (hN.less (xx_skip (xx_ors xx_id))), (hM.less (xx_skip (xx_ors xx_id))), (hS.stopAt _ _), (rg_stop hR _ _), oW⟩
 refine wQ ?_
 refine gS ?_
 refine wO (dC (power_ok L s _ hN)) ?_
 rintro u148 w145 ⟨a147, o146⟩
 replace a13 := a13.step o146 (hN.dis _ in1)
 replace hM := hM.step o146 (sub2 sub1)
 replace hb := hb.step o146 (sub2 sub1)
 replace hl := hl.step o146 (sub2 sub1)
 replace oW := oW.tail o146 (fun k _ e => sub1 k e)
 replace hN := a147
 refine gs ?_
 refine gS ?_
 refine wO (dC (refPower_ok M t _ hM)) ?_
 rintro u152 w149 ⟨a151, o150⟩
 replace a13 := a13.step o150 (hM.dis _ in1)
 replace hN := hN.step o150 (sub2 sub1)
 replace hb := hb.step o150 (sub2 (subs sub1))
 replace hl := hl.step o150 (sub2 (subs sub1))
 replace oW := oW.tail o150 (fun k _ e => (subs sub1) k e)
 replace hM := a151
 refine gs ?_
 refine gS ?_
 refine leave0 (v := vT) (res1 Try.results32 rfl) ?_
 exact ⟨_, _, rfl, (hN.less (xx_skip (xx_ors xx_id))), (hM.less (xx_skip (xx_ors xx_id))), hS.power, (rg_power hR), oW⟩
theorem nandPlays_law (a b c : Int) (ls : List Int) (la : List AX) (u1 u2 : Value) (W : World) (h1 : Ps No (Seq kI ls u1) W) (h2 : Ps No (Seq kAct la u2) W) (g1 : ls.length ≤ 17592186043904) (g2 : la.length ≤ 9223372036854775807) (r2 : ∀ x ∈ la, ∀ y ∈ x.l, -9223372036854775808 ≤ y ∧ y < 9223372036854775808) :
    CW Try.prog 10 #[(Value.agg #[(eI a), (eI b), (eI c)]), u1, u2] W (Rt (RIs (.bool true) W)) := by
 have oW : Only No W W := Only.refl _ _
 refine en 72 Try.func10 Try.ntmps10 ?_
 refine wQ ?_
 refine pL ?_
 refine wO dB ?_
 rintro _ w11 ⟨gb, rfl, g12, a13, o14⟩
 have g_oW_gb : W.heap.size ≤ gb := Nat.le_trans oW.size g12
 replace h1 := h1.new o14 g12
 replace h2 := h2.new o14 g12
 replace oW := oW.tail0 o14
 refine gs ?_
 refine pL ?_
 refine wO (dC (law7Known_ok _)) ?_
 rintro _ w15 ⟨rfl, o16⟩
 replace h1 := h1.step0 o16
 replace h2 := h2.step0 o16
 replace a13 := a13.step0 o16
 replace oW := oW.tail0 o16
 refine gs ?_
 refine gS ?_
 refine wO (dC (law7Few_ok la u2 _ (Ps.no h2) fo)) ?_
 rintro _ w17 ⟨fw, rfl, hfw, o18⟩
 replace h1 := h1.step0 o18
 replace h2 := h2.step0 o18
 replace a13 := a13.step0 o18
 replace oW := oW.tail0 o18
 refine gs ?_
 refine cond_b rfl (fun c17 => ?_) (fun c17 => ?_)
 ·
  refine wQ ?_
  refine gS ?_
  refine leave0 (v := vT) (res1 Try.results10 rfl) ?_
  exact ⟨rfl, oW⟩
 refine gs ?_
 refine pL ?_
 refine wI (d_loadAg (vs := [(eI a), (eI b), (eI c)]) ⟨_, Try.underlying23, rfl⟩ s_ti23 rfl a13 rfl rfl) ?_
 refine wO (dC (law7MakeE_ok a b c _)) ?_
 rintro _ w19 ⟨D, B, Q, rfl, hIN, o20⟩
 replace h1 := h1.step0 o20
 replace h2 := h2.step0 o20
 replace a13 := a13.step0 o20
 replace oW := oW.tail0 o20
 refine wO dA ?_
 rintro _ w21 ⟨hb, rfl, g22, a23, o24⟩
 have n_gb_hb : gb ≠ hb := a13.ne g22
 have g_oW_hb : W.heap.size ≤ hb := Nat.le_trans oW.size g22
 replace h1 := h1.new o24 g22
 replace h2 := h2.new o24 g22
 replace a13 := a13.step0 o24
 replace oW := oW.tail0 o24
 refine wO (d_storeAg (cs' := [(eN D), (eN B), (eN Q)]) s_ti23 rfl rfl rfl (oc_cons rfl (oc_cons rfl (oc_cons rfl oc_nil))) a23 (by decide) rfl) ?_
 rintro _ w25 ⟨a26, o27⟩
 replace h1 := h1.stepb o27 in1
 replace h2 := h2.stepb o27 in1
 replace a13 := a13.step o27 (fun e => absurd e n_gb_hb)
 replace oW := oW.tailb o27 g_oW_hb
 refine gs ?_
 refine drawnG (O := (Or1 hb (Or1 gb No))) (n := 10) 0 [0, 0, 0, 6, 15, 31, 63, 63, 127, 511] [(0, 21), (1, 22), (2, 23), (3, 24), (4, 25), (5, 20), (6, 26), (7, 27), (8, 8), (9, 9)] [] [] [] (fun i_ => ([] : List (RF (Or1 hb (Or1 gb No)))).getD i_ (RF.any (Or1 hb (Or1 gb No)))) (fun _ w_ => Arr 23 gb [(eI a), (eI b), (eI c)] w_ ∧ Arr 23 hb [(eN D), (eN B), (eN Q)] w_) (fun v28 => ([(Value.agg #[(eI a), (eI b), (eI c)]), u1, u2, (ptr gb 0), undef, undef, vF, (ptr hb 0), (v28 8), (v28 9), undef, undef, undef, vT, vF, u2, (Value.bool fw), (Value.bool (!fw)), (Value.agg #[(eI a), (eI b), (eI c)]), (ag3 D B Q), (v28 5), (v28 0), (v28 1), (v28 2), (v28 3), (v28 4), (v28 6), (v28 7)] ++ (us 47))) (fun v28 => ([(Value.agg #[(eI a), (eI b), (eI c)]), u1, u2, (ptr gb 0), undef, undef, vF, (ptr hb 0)] ++ (us 5 ++ [vT, vF, u2, (Value.bool fw), (Value.bool (!fw)), (Value.agg #[(eI a), (eI b), (eI c)]), (ag3 D B Q)] ++ (us 55)))) s_mx kr rfl (by decide) (by rfl) kr kr kr (by rfl) (fun v_ => by kernel_rfl) (fun v_ => by kernel_rfl) (fun _ => fun w_ w2_ h ho => by obtain ⟨r_a13, r_a26⟩ := h; exact ⟨r_a13.step0 ho, r_a26.step0 ho⟩) ⟨a13, a26⟩ ?_ ?_ ?_
 ·
  exact ls_nil
 ·
  exact ms_nil
 intro v28 lo_ hi_ w29 o30 hd hR
 clear hd lo_ hi_
 replace h1 := h1.step o30 (or1_mono (or1_mono no_any))
 replace h2 := h2.step o30 (or1_mono (or1_mono no_any))
 obtain ⟨xr_a13, xr_a26⟩ := hR
 replace a13 : Arr 23 gb [(eI a), (eI b), (eI c)] w29 := xr_a13
 replace a26 : Arr 23 hb [(eN D), (eN B), (eN Q)] w29 := xr_a26
 clear xr_a13 xr_a26
 replace oW := oW.tail o30 (tl_new g_oW_hb (tl_new g_oW_gb tl_no))
 refine rest_seg (n := 10) (p := 0) (q := 6) [0, 1, 2] [3, 4, 5] [(0, 21), (1, 22), (2, 23)] [(0, 21), (1, 22), (2, 23), (3, 24), (4, 25), (5, 20), (6, 26), (7, 27), (8, 8), (9, 9)] [0, 0, 0, 6, 15, 31, 63, 63, 127, 511] (fun i_ => nth [(ag3 D B Q), (ag3 D B Q), u1] i_) ([(Value.agg #[(eI a), (eI b), (eI c)]), u1, u2, (ptr gb 0), undef, undef, vF, (ptr hb 0)] ++ (us 5 ++ [vT, vF, u2, (Value.bool fw), (Value.bool (!fw)), (Value.agg #[(eI a), (eI b), (eI c)]), (ag3 D B Q), undef, (ag3 D B Q), (ag3 D B Q), u1] ++ (us 51))) (fun w_ => Ps (Or1 hb (Or1 gb No)) (Seq kI ls u1) w_ ∧ Ps (Or1 hb (Or1 gb No)) (Seq kAct la u2) w_ ∧ Arr 23 gb [(eI a), (eI b), (eI c)] w_ ∧ Arr 23 hb [(eN D), (eN B), (eN Q)] w_ ∧ True) kr rfl (by decide) kr kr (by rfl) kr kr kr kr kr (by decide) ?_ ?_
 ·
  rintro w_ ⟨h1, h2, a13, a26, _⟩
  refine fl_cons ⟨_, rfl, gd rfl (d_loadAg (vs := [(eN D), (eN B), (eN Q)]) ⟨_, Try.underlying23, rfl⟩ s_ti23 rfl a26 rfl rfl)⟩ ?_
  refine fl_cons ⟨_, rfl, gd rfl (d_loadAg (vs := [(eN D), (eN B), (eN Q)]) ⟨_, Try.underlying23, rfl⟩ s_ti23 rfl a26 rfl rfl)⟩ ?_
  refine fl_cons ⟨_, rfl, gd rfl (d_move rfl)⟩ ?_
  exact fl_nil
 refine wJ.op ⟨h1, h2, a13, a26, trivial⟩ rfl rfl (d_call (xl := [.tmp 22, .tmp 23]) (al := [(ag3 D B Q), u1]) Try.func31 kr rfl rfl rfl (law7Spoil_ok D B Q ls u1 _ (Ps.no h1) fo oo oo)) ?_
 rintro u33 w31 f34
 obtain ⟨f34, o32⟩ := f34
 replace f34 := f34.less (Y := (Or1 hb (Or1 gb (Old W.heap.size)))) (or1_old a26.lt (or1_old a13.lt (old_old oW.size)))
 replace h1 := h1.step0 o32
 replace h2 := h2.step0 o32
 replace a13 := a13.step0 o32
 replace a26 := a26.step0 o32
 replace oW := oW.tail0 o32
 refine wJ.flat ([(Value.agg #[(eI a), (eI b), (eI c)]), u1, u2, (ptr gb 0), undef, undef, vF, (ptr hb 0)] ++ (us 5 ++ [vT, vF, u2, (Value.bool fw), (Value.bool (!fw)), (Value.agg #[(eI a), (eI b), (eI c)]), (ag3 D B Q), undef, (ag3 D B Q), (ag3 D B Q), u1, u33] ++ (us 50))) kr ?_
 refine wJ.op ⟨h1, h2, a13, a26, trivial⟩ rfl rfl (d_call (xl := [.tmp 21, .tmp 24]) (al := [(ag3 D B Q), u33]) Try.func13 kr rfl rfl rfl (newG_ok D B Q (spoilL D B ls) u33 _ (Ps.no f34) (by have := spoilL_len D B ls; first | omega | (simp; done) | (simp; omega)) oo oo oo)) ?_
 rintro _ w35 ⟨u37, rfl, o36, h38⟩
 obtain ⟨L39, s40, rfl, ⟨a41, g42⟩, n43⟩ := h38 (newE_spoil _ _ _)
 have g_oW_L39 : ∀ k, L39.S k → W.heap.size ≤ k := fun k hk => Nat.le_trans oW.size (g42 k hk)
 replace a41 := a41.less (Y := (Or1 hb (Or1 gb No))) (or1_old a26.lt (or1_old a13.lt no_old))
 replace h1 := h1.re (X' := Ors L39.S (Or1 hb (Or1 gb No))) o36 (fun _ t => t.elim) (xx_news g42 xx_id)
 replace h2 := h2.re (X' := Ors L39.S (Or1 hb (Or1 gb No))) o36 (fun _ t => t.elim) (xx_news g42 xx_id)
 replace f34 := f34.re (X' := Ors L39.S (Or1 hb (Or1 gb (Old W.heap.size)))) o36 (fun _ t => t.elim) (xx_news g42 xx_id)
 replace a13 := a13.step0 o36
 replace a26 := a26.step0 o36
 replace oW := oW.tail0 o36
 refine wJ.flat ([(Value.agg #[(eI a), (eI b), (eI c)]), u1, u2, (ptr gb 0), undef, undef, vF, (ptr hb 0)] ++ (us 5 ++ [vT, vF, u2, (Value.bool fw), (Value.bool (!fw)), (Value.agg #[(eI a), (eI b), (eI c)]), (ag3 D B Q), undef, (ag3 D B Q), (ag3 D B Q), u1, u33, (Value.tuple #[(ptr L39.bN 0), (eN (newE D B (spoilL D B ls)))])] ++ (us 49))) kr ?_
 refine wJ.is ⟨h1.less (xx_skip (xx_or1 (xx_or1 xx_id))), h2.less (xx_skip (xx_or1 (xx_or1 xx_id))), a13, a26, trivial⟩ rfl rfl (d_move rfl) ?_
 refine wJ.flat ([(Value.agg #[(eI a), (eI b), (eI c)]), u1, u2, (ptr gb 0), undef, undef, vF, (ptr hb 0)] ++ (us 5 ++ [vT, vF, u2, (Value.bool fw), (Value.bool (!fw)), (Value.agg #[(eI a), (eI b), (eI c)]), (ag3 D B Q), (Value.tuple #[(ptr L39.bN 0), (eN (newE D B (spoilL D B ls)))]), (ag3 D B Q), (ag3 D B Q), u1, u33, (Value.tuple #[(ptr L39.bN 0), (eN (newE D B (spoilL D B ls)))])] ++ (us 49))) kr ?_
 refine wJ.done ⟨h1.less (xx_skip (xx_or1 (xx_or1 xx_id))), h2.less (xx_skip (xx_or1 (xx_or1 xx_id))), a13, a26, trivial⟩ ?_
 refine rest_seg (n := 10) (p := 6) (q := 10) [6, 7] [8, 9] [(6, 26), (7, 27)] [(0, 21), (1, 22), (2, 23), (3, 24), (4, 25), (5, 20), (6, 26), (7, 27), (8, 8), (9, 9)] [0, 0, 0, 6, 15, 31, 63, 63, 127, 511] (fun i_ => nth [undef, undef, undef, undef, undef, undef, (ptr L39.bN 0), (eN (newE D B (spoilL D B ls)))] i_) ([(Value.agg #[(eI a), (eI b), (eI c)]), u1, u2, (ptr gb 0), undef, undef, vF, (ptr hb 0)] ++ (us 5 ++ [vT, vF, u2, (Value.bool fw), (Value.bool (!fw)), (Value.agg #[(eI a), (eI b), (eI c)]), (ag3 D B Q), (Value.tuple #[(ptr L39.bN 0), (eN (newE D B (spoilL D B ls)))]), (ag3 D B Q), (ag3 D B Q), u1, u33, (Value.tuple #[(ptr L39.bN 0), (eN (newE D B (spoilL D B ls)))]), (ptr L39.bN 0), (eN (newE D B (spoilL D B ls)))] ++ (us 47))) (fun w_ => Ps (Ors L39.S (Or1 hb (Or1 gb No))) (Seq kI ls u1) w_ ∧ Ps (Ors L39.S (Or1 hb (Or1 gb No))) (Seq kAct la u2) w_ ∧ Ps (Ors L39.S (Or1 hb (Or1 gb (Old W.heap.size)))) (Seq (kA 2 eQ) (spoilL D B ls) u33) w_ ∧ Arr 23 gb [(eI a), (eI b), (eI c)] w_ ∧ Arr 23 hb [(eN D), (eN B), (eN Q)] w_ ∧ True) kr rfl (by decide) kr kr (by rfl) kr kr kr kr kr (by decide) ?_ ?_
 ·
  rintro w_ ⟨h1, h2, f34, a13, a26, _⟩
  refine fl_cons ⟨_, rfl, gd rfl (d_extract (v := (ptr L39.bN 0)) rfl rfl)⟩ ?_
  refine fl_cons ⟨_, rfl, gd rfl (d_extract (v := (eN (newE D B (spoilL D B ls)))) rfl rfl)⟩ ?_
  exact fl_nil
 refine wJ.is ⟨h1, h2, f34, a13, a26, trivial⟩ rfl rfl (d_assign rfl) ?_
 refine wJ.flat ([(Value.agg #[(eI a), (eI b), (eI c)]), u1, u2, (ptr gb 0), undef, undef, vF, (ptr hb 0), (ptr L39.bN 0), undef, undef, undef, undef, vT, vF, u2, (Value.bool fw), (Value.bool (!fw)), (Value.agg #[(eI a), (eI b), (eI c)]), (ag3 D B Q), (Value.tuple #[(ptr L39.bN 0), (eN (newE D B (spoilL D B ls)))]), (ag3 D B Q), (ag3 D B Q), u1, u33, (Value.tuple #[(ptr L39.bN 0), (eN (newE D B (spoilL D B ls)))]), (ptr L39.bN 0), (eN (newE D B (spoilL D B ls)))] ++ (us 47)) kr ?_
 refine wJ.is ⟨h1, h2, f34, a13, a26, trivial⟩ rfl rfl (d_assign rfl) ?_
 refine wJ.flat ([(Value.agg #[(eI a), (eI b), (eI c)]), u1, u2, (ptr gb 0), undef, undef, vF, (ptr hb 0), (ptr L39.bN 0), (eN (newE D B (spoilL D B ls))), undef, undef, undef, vT, vF, u2, (Value.bool fw), (Value.bool (!fw)), (Value.agg #[(eI a), (eI b), (eI c)]), (ag3 D B Q), (Value.tuple #[(ptr L39.bN 0), (eN (newE D B (spoilL D B ls)))]), (ag3 D B Q), (ag3 D B Q), u1, u33, (Value.tuple #[(ptr L39.bN 0), (eN (newE D B (spoilL D B ls)))]), (ptr L39.bN 0), (eN (newE D B (spoilL D B ls)))] ++ (us 47)) kr ?_
 refine wJ.done ⟨h1, h2, f34, a13, a26, trivial⟩ ?_
 refine rest_done rfl ?_
 refine gs ?_
 refine drawnG (O := (Ors L39.S (Or1 hb (Or1 gb No)))) (n := 10) 0 [0, 0, 0, 6, 15, 31, 63, 63, 127, 511] [(0, 29), (1, 30), (2, 31), (3, 32), (4, 33), (5, 28), (6, 34), (7, 35), (8, 10), (9, 11)] [] [] [] (fun i_ => ([] : List (RF (Ors L39.S (Or1 hb (Or1 gb No))))).getD i_ (RF.any (Ors L39.S (Or1 hb (Or1 gb No))))) (fun _ w_ => Arr 23 gb [(eI a), (eI b), (eI c)] w_ ∧ Arr 23 hb [(eN D), (eN B), (eN Q)] w_ ∧ Nd L39 s40 (Or1 hb (Or1 gb No)) w_) (fun v44 => ([(Value.agg #[(eI a), (eI b), (eI c)]), u1, u2, (ptr gb 0), undef, undef, vF, (ptr hb 0), (ptr L39.bN 0), (eN (newE D B (spoilL D B ls))), (v44 8), (v44 9), undef, vT, vF, u2, (Value.bool fw), (Value.bool (!fw)), (Value.agg #[(eI a), (eI b), (eI c)]), (ag3 D B Q), (Value.tuple #[(ptr L39.bN 0), (eN (newE D B (spoilL D B ls)))]), (ag3 D B Q), (ag3 D B Q), u1, u33, (Value.tuple #[(ptr L39.bN 0), (eN (newE D B (spoilL D B ls)))]), (ptr L39.bN 0), (eN (newE D B (spoilL D B ls))), (v44 5), (v44 0), (v44 1), (v44 2), (v44 3), (v44 4), (v44 6), (v44 7)] ++ (us 39))) (fun v44 => ([(Value.agg #[(eI a), (eI b), (eI c)]), u1, u2, (ptr gb 0), undef, undef, vF, (ptr hb 0), (ptr L39.bN 0), (eN (newE D B (spoilL D B ls))), undef, undef, undef, vT, vF, u2, (Value.bool fw), (Value.bool (!fw)), (Value.agg #[(eI a), (eI b), (eI c)]), (ag3 D B Q), (Value.tuple #[(ptr L39.bN 0), (eN (newE D B (spoilL D B ls)))]), (ag3 D B Q), (ag3 D B Q), u1, u33, (Value.tuple #[(ptr L39.bN 0), (eN (newE D B (spoilL D B ls)))]), (ptr L39.bN 0), (eN (newE D B (spoilL D B ls)))] ++ (us 47))) s_mx kr rfl (by decide) (by rfl) kr kr kr (by rfl) (fun v_ => by kernel_rfl) (fun v_ => by kernel_rfl) (fun _ => fun w_ w2_ h ho => by obtain ⟨r_a13, r_a26, r_a41⟩ := h; exact ⟨r_a13.step0 ho, r_a26.step0 ho, r_a41.step0 ho⟩) ⟨a13, a26, a41⟩ ?_ ?_ ?_
 ·
  exact ls_nil
 ·
  exact ms_nil
 intro v44 lo_ hi_ w45 o46 hd hR
 clear hd lo_ hi_
 replace h1 := h1.step o46 (ors_mono (or1_mono (or1_mono no_any)))
 replace h2 := h2.step o46 (ors_mono (or1_mono (or1_mono no_any)))
 replace f34 := f34.step o46 (ors_mono (or1_mono (or1_mono no_any)))
 obtain ⟨xr_a13, xr_a26, xr_a41⟩ := hR
 replace a13 : Arr 23 gb [(eI a), (eI b), (eI c)] w45 := xr_a13
 replace a26 : Arr 23 hb [(eN D), (eN B), (eN Q)] w45 := xr_a26
 replace a41 := xr_a41
 clear xr_a13 xr_a26 xr_a41
 replace oW := oW.tail o46 (tl_snew g_oW_L39 (tl_new g_oW_hb (tl_new g_oW_gb tl_no)))
 refine rest_seg (n := 10) (p := 0) (q := 6) [0, 1, 2] [3, 4, 5] [(0, 29), (1, 30), (2, 31)] [(0, 29), (1, 30), (2, 31), (3, 32), (4, 33), (5, 28), (6, 34), (7, 35), (8, 10), (9, 11)] [0, 0, 0, 6, 15, 31, 63, 63, 127, 511] (fun i_ => nth [(ag3 D B Q), (ag3 D B Q), u1] i_) ([(Value.agg #[(eI a), (eI b), (eI c)]), u1, u2, (ptr gb 0), undef, undef, vF, (ptr hb 0), (ptr L39.bN 0), (eN (newE D B (spoilL D B ls))), undef, undef, undef, vT, vF, u2, (Value.bool fw), (Value.bool (!fw)), (Value.agg #[(eI a), (eI b), (eI c)]), (ag3 D B Q), (Value.tuple #[(ptr L39.bN 0), (eN (newE D B (spoilL D B ls)))]), (ag3 D B Q), (ag3 D B Q), u1, u33, (Value.tuple #[(ptr L39.bN 0), (eN (newE D B (spoilL D B ls)))]), (ptr L39.bN 0), (eN (newE D B (spoilL D B ls))), undef, (ag3 D B Q), (ag3 D B Q), u1] ++ (us 43)) (fun w_ => Ps (Ors L39.S (Or1 hb (Or1 gb No))) (Seq kI ls u1) w_ ∧ Ps (Ors L39.S (Or1 hb (Or1 gb No))) (Seq kAct la u2) w_ ∧ Ps (Ors L39.S (Or1 hb (Or1 gb (Old W.heap.size)))) (Seq (kA 2 eQ) (spoilL D B ls) u33) w_ ∧ Arr 23 gb [(eI a), (eI b), (eI c)] w_ ∧ Arr 23 hb [(eN D), (eN B), (eN Q)] w_ ∧ True) kr rfl (by decide) kr kr (by rfl) kr kr kr kr kr (by decide) ?_ ?_
 ·
  rintro w_ ⟨h1, h2, f34, a13, a26, _⟩
  refine fl_cons ⟨_, rfl, gd rfl (d_loadAg (vs := [(eN D), (eN B), (eN Q)]) ⟨_, Try.underlying23, rfl⟩ s_ti23 rfl a26 rfl rfl)⟩ ?_
  refine fl_cons ⟨_, rfl, gd rfl (d_loadAg (vs := [(eN D), (eN B), (eN Q)]) ⟨_, Try.underlying23, rfl⟩ s_ti23 rfl a26 rfl rfl)⟩ ?_
  refine fl_cons ⟨_, rfl, gd rfl (d_move rfl)⟩ ?_
  exact fl_nil
 refine wJ.op ⟨h1, h2, f34, a13, a26, trivial⟩ rfl rfl (d_call (xl := [.tmp 30, .tmp 31]) (al := [(ag3 D B Q), u1]) Try.func31 kr rfl rfl rfl (law7Spoil_ok D B Q ls u1 _ (Ps.no h1) fo oo oo)) ?_
 rintro u49 w47 f50
 obtain ⟨f50, o48⟩ := f50
 replace f50 := f50.less (Y := (Ors L39.S (Or1 hb (Or1 gb (Old W.heap.size))))) (ors_old a41.lt (or1_old a26.lt (or1_old a13.lt (old_old oW.size))))
 replace h1 := h1.step0 o48
 replace h2 := h2.step0 o48
 replace f34 := f34.step0 o48
 replace a41 := a41.step0 o48
 replace a13 := a13.step0 o48
 replace a26 := a26.step0 o48
 replace oW := oW.tail0 o48
 refine wJ.flat ([(Value.agg #[(eI a), (eI b), (eI c)]), u1, u2, (ptr gb 0), undef, undef, vF, (ptr hb 0), (ptr L39.bN 0), (eN (newE D B (spoilL D B ls))), undef, undef, undef, vT, vF, u2, (Value.bool fw), (Value.bool (!fw)), (Value.agg #[(eI a), (eI b), (eI c)]), (ag3 D B Q), (Value.tuple #[(ptr L39.bN 0), (eN (newE D B (spoilL D B ls)))]), (ag3 D B Q), (ag3 D B Q), u1, u33, (Value.tuple #[(ptr L39.bN 0), (eN (newE D B (spoilL D B ls)))]), (ptr L39.bN 0), (eN (newE D B (spoilL D B ls))), undef, (ag3 D B Q), (ag3 D B Q), u1, u49] ++ (us 42)) kr ?_
 refine wJ.op ⟨h1, h2, f34, a13, a26, trivial⟩ rfl rfl (d_call (xl := [.tmp 29, .tmp 32]) (al := [(ag3 D B Q), u49]) Try.func14 kr rfl rfl rfl (refNew_ok D B Q (spoilL D B ls) u49 _ (Ps.no f50) (by have := spoilL_len D B ls; first | omega | (simp; done) | (simp; omega)) oo oo oo)) ?_
 rintro _ w51 ⟨u53, rfl, o52, h54⟩
 obtain ⟨L55, s56, rfl, ⟨a57, g58⟩, n59⟩ := h54 (newE_spoil _ _ _)
 have g_oW_L55 : ∀ k, L55.S k → W.heap.size ≤ k := fun k hk => Nat.le_trans oW.size (g58 k hk)
 replace a57 := a57.less (Y := (Ors L39.S (Or1 hb (Or1 gb No)))) (ors_old a41.lt (or1_old a26.lt (or1_old a13.lt no_old)))
 replace h1 := h1.re (X' := Ors L55.S (Ors L39.S (Or1 hb (Or1 gb No)))) o52 (fun _ t => t.elim) (xx_news g58 xx_id)
 replace h2 := h2.re (X' := Ors L55.S (Ors L39.S (Or1 hb (Or1 gb No)))) o52 (fun _ t => t.elim) (xx_news g58 xx_id)
 replace f34 := f34.re (X' := Ors L55.S (Ors L39.S (Or1 hb (Or1 gb (Old W.heap.size))))) o52 (fun _ t => t.elim) (xx_news g58 xx_id)
 replace a41 := a41.re (X' := Ors L55.S (Or1 hb (Or1 gb No))) o52 (fun _ t => t.elim) (xx_news g58 xx_id)
 replace f50 := f50.re (X' := Ors L55.S (Ors L39.S (Or1 hb (Or1 gb (Old W.heap.size))))) o52 (fun _ t => t.elim) (xx_news g58 xx_id)
 replace a13 := a13.step0 o52
 replace a26 := a26.step0 o52
 replace oW := oW.tail0 o52
 refine wJ.flat ([(Value.agg #[(eI a), (eI b), (eI c)]), u1, u2, (ptr gb 0), undef, undef, vF, (ptr hb 0), (ptr L39.bN 0), (eN (newE D B (spoilL D B ls))), undef, undef, undef, vT, vF, u2, (Value.bool fw), (Value.bool (!fw)), (Value.agg #[(eI a), (eI b), (eI c)]), (ag3 D B Q), (Value.tuple #[(ptr L39.bN 0), (eN (newE D B (spoilL D B ls)))]), (ag3 D B Q), (ag3 D B Q), u1, u33, (Value.tuple #[(ptr L39.bN 0), (eN (newE D B (spoilL D B ls)))]), (ptr L39.bN 0), (eN (newE D B (spoilL D B ls))), undef, (ag3 D B Q), (ag3 D B Q), u1, u49, (Value.tuple #[(ptr L55.bN 0), (eN (newE D B (spoilL D B ls)))])] ++ (us 41)) kr ?_
 refine wJ.is ⟨h1.less (xx_skip (xx_ors (xx_or1 (xx_or1 xx_id)))), h2.less (xx_skip (xx_ors (xx_or1 (xx_or1 xx_id)))), f34.less (xx_skip (xx_ors (xx_or1 (xx_or1 xx_id)))), a13, a26, trivial⟩ rfl rfl (d_move rfl) ?_
 refine wJ.flat ([(Value.agg #[(eI a), (eI b), (eI c)]), u1, u2, (ptr gb 0), undef, undef, vF, (ptr hb 0), (ptr L39.bN 0), (eN (newE D B (spoilL D B ls))), undef, undef, undef, vT, vF, u2, (Value.bool fw), (Value.bool (!fw)), (Value.agg #[(eI a), (eI b), (eI c)]), (ag3 D B Q), (Value.tuple #[(ptr L39.bN 0), (eN (newE D B (spoilL D B ls)))]), (ag3 D B Q), (ag3 D B Q), u1, u33, (Value.tuple #[(ptr L39.bN 0), (eN (newE D B (spoilL D B ls)))]), (ptr L39.bN 0), (eN (newE D B (spoilL D B ls))), (Value.tuple #[(ptr L55.bN 0), (eN (newE D B (spoilL D B ls)))]), (ag3 D B Q), (ag3 D B Q), u1, u49, (Value.tuple #[(ptr L55.bN 0), (eN (newE D B (spoilL D B ls)))])] ++ (us 41)) kr ?_
 refine wJ.done ⟨h1.less (xx_skip (xx_ors (xx_or1 (xx_or1 xx_id)))), h2.less (xx_skip (xx_ors (xx_or1 (xx_or1 xx_id)))), f34.less (xx_skip (xx_ors (xx_or1 (xx_or1 xx_id)))), a13, a26, trivial⟩ ?_
 refine rest_seg (n := 10) (p := 6) (q := 10) [6, 7] [8, 9] [(6, 34), (7, 35)] [(0, 29), (1, 30), (2, 31), (3, 32), (4, 33), (5, 28), (6, 34), (7, 35), (8, 10), (9, 11)] [0, 0, 0, 6, 15, 31, 63, 63, 127, 511] (fun i_ => nth [undef, undef, undef, undef, undef, undef, (ptr L55.bN 0), (eN (newE D B (spoilL D B ls)))] i_) ([(Value.agg #[(eI a), (eI b), (eI c)]), u1, u2, (ptr gb 0), undef, undef, vF, (ptr hb 0), (ptr L39.bN 0), (eN (newE D B (spoilL D B ls))), undef, undef, undef, vT, vF, u2, (Value.bool fw), (Value.bool (!fw)), (Value.agg #[(eI a), (eI b), (eI c)]), (ag3 D B Q), (Value.tuple #[(ptr L39.bN 0), (eN (newE D B (spoilL D B ls)))]), (ag3 D B Q), (ag3 D B Q), u1, u33, (Value.tuple #[(ptr L39.bN 0), (eN (newE D B (spoilL D B ls)))]), (ptr L39.bN 0), (eN (newE D B (spoilL D B ls))), (Value.tuple #[(ptr L55.bN 0), (eN (newE D B (spoilL D B ls)))]), (ag3 D B Q), (ag3 D B Q), u1, u49, (Value.tuple #[(ptr L55.bN 0), (eN (newE D B (spoilL D B ls)))]), (ptr L55.bN 0), (eN (newE D B (spoilL D B ls)))] ++ (us 39)) (fun w_ => Ps (Ors L55.S (Ors L39.S (Or1 hb (Or1 gb No)))) (Seq kI ls u1) w_ ∧ Ps (Ors L55.S (Ors L39.S (Or1 hb (Or1 gb No)))) (Seq kAct la u2) w_ ∧ Ps (Ors L55.S (Ors L39.S (Or1 hb (Or1 gb (Old W.heap.size))))) (Seq (kA 2 eQ) (spoilL D B ls) u33) w_ ∧ Ps (Ors L55.S (Ors L39.S (Or1 hb (Or1 gb (Old W.heap.size))))) (Seq (kA 2 eQ) (spoilL D B ls) u49) w_ ∧ Arr 23 gb [(eI a), (eI b), (eI c)] w_ ∧ Arr 23 hb [(eN D), (eN B), (eN Q)] w_ ∧ True) kr rfl (by decide) kr kr (by rfl) kr kr kr kr kr (by decide) ?_ ?_
 ·
  rintro w_ ⟨h1, h2, f34, f50, a13, a26, _⟩
  refine fl_cons ⟨_, rfl, gd rfl (d_extract (v := (ptr L55.bN 0)) rfl rfl)⟩ ?_
  refine fl_cons ⟨_, rfl, gd rfl (d_extract (v := (eN (newE D B (spoilL D B ls)))) rfl rfl)⟩ ?_
  exact fl_nil
 refine wJ.is ⟨h1, h2, f34, f50, a13, a26, trivial⟩ rfl rfl (d_assign rfl) ?_
 refine wJ.flat ([(Value.agg #[(eI a), (eI b), (eI c)]), u1, u2, (ptr gb 0), undef, undef, vF, (ptr hb 0), (ptr L39.bN 0), (eN (newE D B (spoilL D B ls))), (ptr L55.bN 0), undef, undef, vT, vF, u2, (Value.bool fw), (Value.bool (!fw)), (Value.agg #[(eI a), (eI b), (eI c)]), (ag3 D B Q), (Value.tuple #[(ptr L39.bN 0), (eN (newE D B (spoilL D B ls)))]), (ag3 D B Q), (ag3 D B Q), u1, u33, (Value.tuple #[(ptr L39.bN 0), (eN (newE D B (spoilL D B ls)))]), (ptr L39.bN 0), (eN (newE D B (spoilL D B ls))), (Value.tuple #[(ptr L55.bN 0), (eN (newE D B (spoilL D B ls)))]), (ag3 D B Q), (ag3 D B Q), u1, u49, (Value.tuple #[(ptr L55.bN 0), (eN (newE D B (spoilL D B ls)))]), (ptr L55.bN 0), (eN (newE D B (spoilL D B ls)))] ++ (us 39)) kr ?_
 refine wJ.is ⟨h1, h2, f34, f50, a13, a26, trivial⟩ rfl rfl (d_assign rfl) ?_
 refine wJ.flat ([(Value.agg #[(eI a), (eI b), (eI c)]), u1, u2, (ptr gb 0), undef, undef, vF, (ptr hb 0), (ptr L39.bN 0), (eN (newE D B (spoilL D B ls))), (ptr L55.bN 0), (eN (newE D B (spoilL D B ls))), undef, vT, vF, u2, (Value.bool fw), (Value.bool (!fw)), (Value.agg #[(eI a), (eI b), (eI c)]), (ag3 D B Q), (Value.tuple #[(ptr L39.bN 0), (eN (newE D B (spoilL D B ls)))]), (ag3 D B Q), (ag3 D B Q), u1, u33, (Value.tuple #[(ptr L39.bN 0), (eN (newE D B (spoilL D B ls)))]), (ptr L39.bN 0), (eN (newE D B (spoilL D B ls))), (Value.tuple #[(ptr L55.bN 0), (eN (newE D B (spoilL D B ls)))]), (ag3 D B Q), (ag3 D B Q), u1, u49, (Value.tuple #[(ptr L55.bN 0), (eN (newE D B (spoilL D B ls)))]), (ptr L55.bN 0), (eN (newE D B (spoilL D B ls)))] ++ (us 39)) kr ?_
 refine wJ.done ⟨h1, h2, f34, f50, a13, a26, trivial⟩ ?_
 refine rest_done rfl ?_
 refine gs ?_
 refine gS ?_
 refine wI (n_neq (a := (newE D B (spoilL D B ls))) (b := (newE D B (spoilL D B ls))) rfl rfl (bnF rfl)) ?_
 refine gs ?_
 refine wG (n_neq (a := (newE D B (spoilL D B ls))) (b := 0) rfl rfl (bnF (newE_spoil _ _ _))) ?_
 refine gs ?_
 have sm_ : Sm s40 s56 := by rw [n43.e, n59.e]; exact sm_refl _
 have rg_ : s40.Rg := by rw [n43.e]; exact badS_rg _ _ _ _
 refine gS ?_
 refine loop2 (fun (s_ : (Nat) × (NS) × (NS)) => match s_ with | ⟨i, s, t⟩ => fun (z : Nat → Value) => (([(Value.agg #[(eI a), (eI b), (eI c)]), u1, u2, (ptr gb 0), undef, undef, (z 6), (ptr hb 0), (ptr L39.bN 0), (eN (newE D B (spoilL D B ls))), (ptr L55.bN 0), (eN (newE D B (spoilL D B ls))), (eN i), vT, vF, u2, (Value.bool fw), (Value.bool (!fw)), (Value.agg #[(eI a), (eI b), (eI c)]), (ag3 D B Q), (Value.tuple #[(ptr L39.bN 0), (eN (newE D B (spoilL D B ls)))]), (ag3 D B Q), (ag3 D B Q), u1, u33, (Value.tuple #[(ptr L39.bN 0), (eN (newE D B (spoilL D B ls)))]), (ptr L39.bN 0), (eN (newE D B (spoilL D B ls))), (Value.tuple #[(ptr L55.bN 0), (eN (newE D B (spoilL D B ls)))]), (ag3 D B Q), (ag3 D B Q), u1, u49, (Value.tuple #[(ptr L55.bN 0), (eN (newE D B (spoilL D B ls)))]), (ptr L55.bN 0), (eN (newE D B (spoilL D B ls))), (eN (newE D B (spoilL D B ls))), (eN (newE D B (spoilL D B ls))), vF, vF, (eN (newE D B (spoilL D B ls))), vF, vF] ++ (zs z 43 20 ++ (us 12))) : List Value)) (fun (s_ : (Nat) × (NS) × (NS)) => match s_ with | ⟨i, s, t⟩ => fun (w_ : World) => (i ≤ la.length) ∧ (Sm s t) ∧ (s.Rg) ∧ Only (Ors L55.S (Ors L39.S (Or1 hb (Or1 gb No)))) w51 w_ ∧ Arr 23 gb [(eI a), (eI b), (eI c)] w_ ∧ Arr 23 hb [(eN D), (eN B), (eN Q)] w_ ∧ Nd L39 s (Ors L55.S (Or1 hb (Or1 gb No))) w_ ∧ Rd L55 t (Ors L39.S (Or1 hb (Or1 gb No))) w_) (fun (s_ : (Nat) × (NS) × (NS)) => match s_ with | ⟨i, s, t⟩ => la.length - i) ⟨0, (s40), (s56)⟩ kr ?_ ?_
 ·
  refine ⟨?_, ?_, ?_, ?_, ?_, ?_, ?_, ?_⟩
  ·
   exact Nat.zero_le _
  ·
   exact sm_
  ·
   exact rg_
  ·
   exact Only.refl _ _
  ·
   exact a13
  ·
   exact a26
  ·
   exact a41
  ·
   exact a57
 rintro ⟨i, s, t⟩ z w61 ⟨hi, hSm, hRg, o60, a13, a26, a41, a57⟩
 (try dsimp only)
 replace h1 := h1.step o60 (ors_mono (ors_mono (or1_mono (or1_mono no_any))))
 replace h2 := h2.step o60 (ors_mono (ors_mono (or1_mono (or1_mono no_any))))
 replace f34 := f34.step o60 (ors_mono (ors_mono (or1_mono (or1_mono no_any))))
 replace f50 := f50.step o60 (ors_mono (ors_mono (or1_mono (or1_mono no_any))))
 replace oW := oW.tail o60 (tl_snew g_oW_L55 (tl_snew g_oW_L39 (tl_new g_oW_hb (tl_new g_oW_gb tl_no))))
 refine gs ?_
 refine gS ?_
 refine wI (dN h2) ?_
 refine wI (n_lss (a := i) (b := la.length) rfl rfl rfl) ?_
 refine gs ?_
 refine cond_if rfl (fun c62 => ?_) (fun c62 => ?_)
 ·
  refine gs ?_
  refine gS ?_
  refine wO (d_indexS (q := kAct) (xs := la) (v := (la.getD i AX0)) Try.underlying55 s_ti59 rfl h2 (show _ = Value.int _ (i : Int) from rfl) oo (g_at fo)) ?_
  rintro u63 _ ⟨f64, rfl⟩
  have f65 := act_b f64
  have f66 := act_l f64
  refine wI (d_loadAct ⟨_, Try.underlying59, rfl⟩ s_ti59 rfl f64 rfl) ?_
  refine gs ?_
  refine wO (dC (actDo_ok ((la.getD i AX0).k) ((la.getD i AX0).die) ((la.getD i AX0).block) ((la.getD i AX0).page) ((la.getD i AX0).n) ((la.getD i AX0).b) ((la.getD i AX0).l) ((la.getD i AX0).vb) ((la.getD i AX0).vl) L39 L55 s t _ (a41.less (Y := Ors L55.S (Or1 hb (Or1 gb No))) (by intro k _ h; simp only [Ors, Or1, Orq] at h ⊢; grind)) (a57.less (Y := Ors L39.S (Or1 hb (Or1 gb No))) (by intro k _ h; simp only [Ors, Or1, Orq] at h ⊢; grind)) hSm hRg (lt_or1 a26.lt (lt_or1 a13.lt lt_no)) (f65.less (fun k _ h => h.elim ((subs sub1) k) (fun h => h.elim (sub1 k) (fun t => t.elim)))) (f66.less (fun k _ h => h.elim ((subs sub1) k) (fun h => h.elim (sub1 k) (fun t => t.elim)))) (hfw (by simpa using c17) i oo).1 (hfw (by simpa using c17) i oo).2 (r2 _ (by rw [List.getD_eq_getElem?_getD, List.getElem?_eq_getElem oo]; exact List.getElem_mem _)))) ?_
  rintro _ w67 ⟨s69, t70, rfl, a71, a72, sm73, rg74, o68⟩
  replace a13 := a13.step o68 (not_ors (a41.dis _ (inS (in2 in1))) (not_ors (a57.dis _ (inS (in2 in1))) not_no))
  replace a26 := a26.step o68 (not_ors (a41.dis _ (inS in1)) (not_ors (a57.dis _ (inS in1)) not_no))
  replace h1 := h1.step o68 (fun k h => h.elim ((subs sub1) k) (fun h => h.elim (sub1 k) (fun t => t.elim)))
  replace h2 := h2.step o68 (fun k h => h.elim ((subs sub1) k) (fun h => h.elim (sub1 k) (fun t => t.elim)))
  replace f34 := f34.step o68 (fun k h => h.elim ((subs sub1) k) (fun h => h.elim (sub1 k) (fun t => t.elim)))
  replace f50 := f50.step o68 (fun k h => h.elim ((subs sub1) k) (fun h => h.elim (sub1 k) (fun t => t.elim)))
  replace f64 := f64.step o68 (fun k h => h.elim ((subs sub1) k) (fun h => h.elim (sub1 k) (fun t => t.elim)))
  replace f65 := f65.step o68 (fun k h => h.elim ((subs sub1) k) (fun h => h.elim (sub1 k) (fun t => t.elim)))
  replace f66 := f66.step o68 (fun k h => h.elim ((subs sub1) k) (fun h => h.elim (sub1 k) (fun t => t.elim)))
  replace oW := oW.tail o68 (fun k hk e => e.elim (fun e => absurd (g_oW_L39 k e) oo) (fun e => e.elim (fun e => absurd (g_oW_L55 k e) oo) (fun t => t.elim)))
  replace o60 := o60.tail o68 (fun k hk e => e.elim (fun e => (subs sub1) k e) (fun e => e.elim (fun e => sub1 k e) (fun t => t.elim)))
  replace a41 := a71.less (Y := (Ors L55.S (Or1 hb (Or1 gb No)))) (by intro k _ h; simp only [Ors, Or1, Orq] at h ⊢; grind)
  replace a57 := a72.less (Y := (Ors L39.S (Or1 hb (Or1 gb No)))) (by intro k _ h; simp only [Ors, Or1, Orq] at h ⊢; grind)
  refine gs ?_
  refine wGO (dC (law7Same_ok L39 L55 s69 t70 _ (a41.less (Y := Ors L55.S (Or1 hb (Or1 gb No))) (by intro k _ h; simp only [Ors, Or1, Orq] at h ⊢; grind)) (a57.less (Y := Ors L39.S (Or1 hb (Or1 gb No))) (by intro k _ h; simp only [Ors, Or1, Orq] at h ⊢; grind)) sm73)) ?_
  rintro _ w75 ⟨rfl, o76⟩
  replace h1 := h1.step0 o76
  replace h2 := h2.step0 o76
  replace f34 := f34.step0 o76
  replace a41 := a41.step0 o76
  replace f50 := f50.step0 o76
  replace a57 := a57.step0 o76
  replace f64 := f64.step0 o76
  replace f65 := f65.step0 o76
  replace f66 := f66.step0 o76
  replace a13 := a13.step0 o76
  replace a26 := a26.step0 o76
  replace oW := oW.tail0 o76
  replace o60 := o60.tail0 o76
  refine gs ?_
  refine gS ?_
  refine wI (n_add (a := i) (b := 1) rfl rfl oo) ?_
  refine gs ?_
  refine ⟨_, ⟨i + 1, (s69), (t70)⟩, rfl, kr, ⟨?_, ?_, ?_, ?_, ?_, ?_, ?_, ?_⟩, ?_⟩
  ·
   (try dsimp only)
   all_goals (omega)
  ·
   exact sm73
  ·
   exact rg74
  ·
   exact o60
  ·
   exact a13
  ·
   exact a26
  ·
   exact a41
  ·
   exact a57
  ·
   (try dsimp only)
   all_goals (omega)
 refine gs ?_
 refine gS ?_
 refine wO (dC (power_ok L39 s _ a41)) ?_
 rintro u80 w77 ⟨a79, o78⟩
 replace a13 := a13.step o78 (a41.dis _ (inS (in2 in1)))
 replace a26 := a26.step o78 (a41.dis _ (inS in1))
 replace h1 := h1.step o78 (subs sub1)
 replace h2 := h2.step o78 (subs sub1)
 replace f34 := f34.step o78 (subs sub1)
 replace f50 := f50.step o78 (subs sub1)
 replace a57 := a57.step o78 sub1
 replace oW := oW.tail o78 (fun k hk e => by have := g_oW_L39 k e; omega)
 replace o60 := o60.tail o78 (fun k _ e => (subs sub1) k e)
 replace a41 := a79
 refine gs ?_
 refine gS ?_
 refine wO (dC (refPower_ok L55 t _ a57)) ?_
 rintro u84 w81 ⟨a83, o82⟩
 replace a13 := a13.step o82 (a57.dis _ (inS (in2 in1)))
 replace a26 := a26.step o82 (a57.dis _ (inS in1))
 replace h1 := h1.step o82 sub1
 replace h2 := h2.step o82 sub1
 replace f34 := f34.step o82 sub1
 replace a41 := a41.step o82 sub1
 replace f50 := f50.step o82 sub1
 replace oW := oW.tail o82 (fun k hk e => by have := g_oW_L55 k e; omega)
 replace o60 := o60.tail o82 (fun k _ e => sub1 k e)
 replace a57 := a83
 refine gs ?_
 refine gS ?_
 refine wO (dC (law7Pages_ok L39 L55 s.power t.powerX _ (a41.less (Y := Ors L55.S (Or1 hb (Or1 gb No))) (by intro k _ h; simp only [Ors, Or1, Orq] at h ⊢; grind)) (a57.less (Y := Ors L39.S (Or1 hb (Or1 gb No))) (by intro k _ h; simp only [Ors, Or1, Orq] at h ⊢; grind)) hSm.power (rg_power hRg) (lt_or1 a26.lt (lt_or1 a13.lt lt_no)))) ?_
 rintro _ w85 ⟨s87, t88, rfl, a89, a90, sm91, rg92, o86⟩
 replace a13 := a13.step o86 (not_ors (a41.dis _ (inS (in2 in1))) (not_ors (a57.dis _ (inS (in2 in1))) not_no))
 replace a26 := a26.step o86 (not_ors (a41.dis _ (inS in1)) (not_ors (a57.dis _ (inS in1)) not_no))
 replace h1 := h1.step o86 (fun k h => h.elim ((subs sub1) k) (fun h => h.elim (sub1 k) (fun t => t.elim)))
 replace h2 := h2.step o86 (fun k h => h.elim ((subs sub1) k) (fun h => h.elim (sub1 k) (fun t => t.elim)))
 replace f34 := f34.step o86 (fun k h => h.elim ((subs sub1) k) (fun h => h.elim (sub1 k) (fun t => t.elim)))
 replace f50 := f50.step o86 (fun k h => h.elim ((subs sub1) k) (fun h => h.elim (sub1 k) (fun t => t.elim)))
 replace oW := oW.tail o86 (fun k hk e => e.elim (fun e => absurd (g_oW_L39 k e) oo) (fun e => e.elim (fun e => absurd (g_oW_L55 k e) oo) (fun t => t.elim)))
 replace o60 := o60.tail o86 (fun k hk e => e.elim (fun e => (subs sub1) k e) (fun e => e.elim (fun e => sub1 k e) (fun t => t.elim)))
 replace a41 := a89.less (Y := (Ors L55.S (Or1 hb (Or1 gb No)))) (by intro k _ h; simp only [Ors, Or1, Orq] at h ⊢; grind)
 replace a57 := a90.less (Y := (Ors L39.S (Or1 hb (Or1 gb No)))) (by intro k _ h; simp only [Ors, Or1, Orq] at h ⊢; grind)
 refine gs ?_
 refine wGO (dC (law7Same_ok L39 L55 s87 t88 _ (a41.less (Y := Ors L55.S (Or1 hb (Or1 gb No))) (by intro k _ h; simp only [Ors, Or1, Orq] at h ⊢; grind)) (a57.less (Y := Ors L39.S (Or1 hb (Or1 gb No))) (by intro k _ h; simp only [Ors, Or1, Orq] at h ⊢; grind)) sm91)) ?_
 rintro _ w93 ⟨rfl, o94⟩
 replace h1 := h1.step0 o94
 replace h2 := h2.step0 o94
 replace f34 := f34.step0 o94
 replace a41 := a41.step0 o94
 replace f50 := f50.step0 o94
 replace a57 := a57.step0 o94
 replace a13 := a13.step0 o94
 replace a26 := a26.step0 o94
 replace oW := oW.tail0 o94
 replace o60 := o60.tail0 o94
 refine gs ?_
 refine leave0 (v := vT) (res1 Try.results10 rfl) ?_
 exact ⟨rfl, oW⟩
end Go.Proofs.YtpamdlnobekihaaF
namespace Go.Proofs.YtpamdlnobekihaaF
open Go
section
open Go.ChangeShapes Go.WideShapes Go.ChangeAt
variable {H : Type} {enc : TypeId × Value → H} {P : Program} {w : World} {base : Nat} {spare : Nat → Bool} {held : Bool} {t ti : TypeId} {f0 f1 f2 : Field}
theorem open_g3 {r : Reach} {b0 : Nat} {v : Value} {d : DataW H} {ps : List MemPlace} (ht : P.underlying t = some (.struct #[f0, f1, f2])) (hi : P.underlying ti = some (.int .i64)) (e0 : f0.type = ti ∧ f0.offset = 0) (e1 : f1.type = ti ∧ f1.offset = 1) (e2 : f2.type = ti ∧ f2.offset = 2) (hc : P.cellsOf ti = 1) (hc3 : P.cellsOf t = 3)
  (hval : Value.okWide P w r b0 t v) (hd : DataW.Trod enc P w base spare held t v d ps) :
  ∃ a b c, v = .agg #[.int .i64 a, .int .i64 b, .int .i64 c] ∧ d = .agg [.lit (.int .i64 a), .lit (.int .i64 b), .lit (.int .i64 c)] ∧ ps = [] ∧ (Lit.int .i64 a).wf = true ∧ (Lit.int .i64 b).wf = true ∧ (Lit.int .i64 c).wf = true := by
 obtain ⟨cs, rfl, hs⟩ := okWide_struct ht hval
 obtain ⟨fuel, hf⟩ := hd
 obtain ⟨xs, n, _, hx, hl, hlen, hp⟩ := DataW.trod_struct ht hf
 match xs, hlen with
 | [y0, y1, y2], _ =>
  have p0 := hp 0 f0 rfl
  have p1 := hp 1 f1 rfl
  have p2 := hp 2 f2 rfl
  rw [e0.1, e0.2, hc] at p0
  rw [e1.1, e1.2, hc] at p1
  rw [e2.1, e2.2, hc] at p2
  have hcl : (Value.agg cs).cells.toList = cs.toList := rfl
  rw [hcl] at p0 p1 p2 hl
  rw [hc3] at hl
  obtain ⟨a, h0, g0, w0⟩ := DataW.trod_int hi (by simpa using p0)
  obtain ⟨b, h1, g1, w1⟩ := DataW.trod_int hi (by simpa using p1)
  obtain ⟨c, h2, g2, w2⟩ := DataW.trod_int hi (by simpa using p2)
  have hcs : cs.toList = [.int .i64 a, .int .i64 b, .int .i64 c] := by
   match h : cs.toList, hl with
   | [x, y, z], _ =>
    rw [h] at h0 h1 h2
    simp at h0 h1 h2
    rw [h0, h1, h2]
  have hcs' : cs = #[.int .i64 a, .int .i64 b, .int .i64 c] := by apply Array.ext'; simpa using hcs
  refine ⟨a, b, c, by rw [hcs'], ?_, ?_, w0, w1, w2⟩
  ·have := congrArg Prod.fst hx
   simp at this
   rw [this, g0, g1, g2]
  ·have := congrArg Prod.snd hx
   simp at this
   rw [this, g0, g1, g2]
   rfl
theorem shut_g3 {a b c : Int} (ht : P.underlying t = some (.struct #[f0, f1, f2])) (hi : P.underlying ti = some (.int .i64)) (e0 : f0.type = ti ∧ f0.offset = 0) (e1 : f1.type = ti ∧ f1.offset = 1) (e2 : f2.type = ti ∧ f2.offset = 2) (hc : P.cellsOf ti = 1) (hc3 : P.cellsOf t = 3)
  (w0 : (Lit.int .i64 a).wf = true) (w1 : (Lit.int .i64 b).wf = true) (w2 : (Lit.int .i64 c).wf = true) : DataW.Trod enc P w base spare held t (.agg #[.int .i64 a, .int .i64 b, .int .i64 c]) (.agg [.lit (.int .i64 a), .lit (.int .i64 b), .lit (.int .i64 c)]) [] := by
 refine ⟨2, ?_⟩
 have := trod_struct_mk (enc := enc) (w := w) (base := base) (spare := spare) (held := held) (n := 1) (t := t) (cs := [.int .i64 a, .int .i64 b, .int .i64 c]) (xs := [(.lit (.int .i64 a), []), (.lit (.int .i64 b), []), (.lit (.int .i64 c), [])]) ht (by rw [hc3]; rfl) (by
  simp only [List.mapM_cons, List.mapM_nil, e0.1, e0.2, e1.1, e1.2, e2.1, e2.2, hc]
  have t0 := trod_int_mk (enc := enc) (w := w) (base := base) (spare := spare) (held := held) (n := a) 0 hi w0
  have t1 := trod_int_mk (enc := enc) (w := w) (base := base) (spare := spare) (held := held) (n := b) 0 hi w1
  have t2 := trod_int_mk (enc := enc) (w := w) (base := base) (spare := spare) (held := held) (n := c) 0 hi w2
  simp at t0 t1 t2 ⊢
  simp [t0, t1, t2])
 show DataW.trod enc P w base spare held 2 t [.int .i64 a, .int .i64 b, .int .i64 c] = some _
 simpa using this
end
end Go.Proofs.YtpamdlnobekihaaF
namespace Go.Proofs.YtpamdlnobekihaaF
open Go Shelf YtpamdlnobekihaaS Go.RowKit Ram
section
variable {H : Type} {enc : TypeId × Value → H} {P : Program} {W : World} {base : Nat} {held : Bool} {t e ti t8 tb tl : TypeId} {f0 f1 f2 f3 f4 f5 f6 : Field}
theorem open_row {k : IntKind} {fuel : Nat} {cs : List Value} {x : DataW H × List MemPlace} {t e : TypeId} (ht : P.underlying t = some (.slice e)) (he : P.underlying e = some (.int k)) (hc : P.cellsOf e = 1)
  (h : DataW.trod enc P W base (fun _ => true) held fuel t cs = some x) : ∃ a len cap zs, cs = [.slice a len cap] ∧ IsRow k W a len cap zs := by
 rcases ChangeShapes.open_ints ht he hc h with ⟨hcs, _⟩ | ⟨x, l, c, zs, hcs, _, hl, hm, hz, _, hcell, hwz⟩
 ·exact ⟨none, 0, 0, [], hcs, .inl ⟨rfl, rfl, rfl, rfl⟩⟩
 ·exact ⟨some x, l, c, zs, hcs, .inr ⟨_, rfl, hl, by simpa using hz, hcell, hwz⟩⟩
def GoodA (W : World) (p : Addr) (v : AX) : Prop := (∀ j y, (eAct v)[j]? = some y → W.cell? (p.add j) = some y) ∧ Ps No (Seq kB v.b v.vb) W ∧ Ps No (Seq kI v.l v.vl) W ∧ ∀ y ∈ v.l, -9223372036854775808 ≤ y ∧ y < 9223372036854775808
theorem open_act {fuel : Nat} {cs : List Value} {x : DataW H × List MemPlace} {p : Addr} (he : P.underlying e = some (.struct #[f0, f1, f2, f3, f4, f5, f6])) (hi : P.underlying ti = some (.int .i64)) (h8 : P.underlying t8 = some (.int .u8)) (hb : P.underlying tb = some (.slice t8)) (hl : P.underlying tl = some (.slice ti))
  (ci : P.cellsOf ti = 1) (c8 : P.cellsOf t8 = 1) (cb : P.cellsOf tb = 1) (cl : P.cellsOf tl = 1) (c7 : P.cellsOf e = 7)
  (e0 : f0.type = ti ∧ f0.offset = 0) (e1 : f1.type = ti ∧ f1.offset = 1) (e2 : f2.type = ti ∧ f2.offset = 2) (e3 : f3.type = ti ∧ f3.offset = 3) (e4 : f4.type = ti ∧ f4.offset = 4) (e5 : f5.type = tb ∧ f5.offset = 5) (e6 : f6.type = tl ∧ f6.offset = 6)
  (hcs : ∀ j y, cs[j]? = some y → W.cell? (p.add j) = some y) (h : DataW.trod enc P W base (fun _ => true) held fuel e cs = some x) : ∃ v : AX, GoodA W p v := by
 obtain ⟨xs, n, _, hx, hlen, hsz, hp⟩ := DataW.trod_struct he h
 rw [c7] at hlen
 have hp7 : xs.length = 7 := hsz
 have get : ∀ (i : Nat) (f : Field) (tt : TypeId), (#[f0, f1, f2, f3, f4, f5, f6] : Array Field)[i]? = some f → f.type = tt ∧ f.offset = i → P.cellsOf tt = 1 → ∃ y, DataW.trod enc P W base (fun _ => true) held n tt ((cs.drop i).take 1) = some y := by
  intro i f tt hf hft hc
  have h1 := hp i f hf
  rw [hft.1, hft.2, hc] at h1
  have hlt : i < xs.length := by
   have := (Array.getElem?_eq_some_iff.1 hf).1
   simp at this
   omega
  rw [List.getElem?_eq_getElem hlt] at h1
  exact ⟨_, h1⟩
 obtain ⟨y0, g0⟩ := get 0 f0 ti rfl e0 ci
 obtain ⟨y1, g1⟩ := get 1 f1 ti rfl e1 ci
 obtain ⟨y2, g2⟩ := get 2 f2 ti rfl e2 ci
 obtain ⟨y3, g3⟩ := get 3 f3 ti rfl e3 ci
 obtain ⟨y4, g4⟩ := get 4 f4 ti rfl e4 ci
 obtain ⟨y5, g5⟩ := get 5 f5 tb rfl e5 cb
 obtain ⟨y6, g6⟩ := get 6 f6 tl rfl e6 cl
 obtain ⟨n0, a0, _, _⟩ := DataW.trod_int hi g0
 obtain ⟨n1, a1, _, _⟩ := DataW.trod_int hi g1
 obtain ⟨n2, a2, _, _⟩ := DataW.trod_int hi g2
 obtain ⟨n3, a3, _, _⟩ := DataW.trod_int hi g3
 obtain ⟨n4, a4, _, _⟩ := DataW.trod_int hi g4
 obtain ⟨q5, l5, p5, z5, a5, r5⟩ := open_row hb h8 c8 g5
 obtain ⟨q6, l6, p6, z6, a6, r6⟩ := open_row hl hi ci g6
 obtain ⟨xb, _, sb⟩ := r5.seq dec_u8
 obtain ⟨xl, _, sl, rl⟩ := r6.seqI
 match cs, hlen with
 | [v0, v1, v2, v3, v4, v5, v6], _ =>
  simp at a0 a1 a2 a3 a4 a5 a6
  subst a0; subst a1; subst a2; subst a3; subst a4; subst a5; subst a6
  exact ⟨⟨n0, n1, n2, n3, n4, xb, xl, _, _⟩, fun j y hj => hcs j y hj, sb, sl, rl⟩
theorem open_acts {a : Option Addr} {len cap : Nat} {d : DataW H} {ps : List MemPlace} (ht : P.underlying t = some (.slice e)) (he : P.underlying e = some (.struct #[f0, f1, f2, f3, f4, f5, f6])) (hi : P.underlying ti = some (.int .i64)) (h8 : P.underlying t8 = some (.int .u8)) (hb : P.underlying tb = some (.slice t8)) (hl : P.underlying tl = some (.slice ti))
  (ci : P.cellsOf ti = 1) (c8 : P.cellsOf t8 = 1) (cb : P.cellsOf tb = 1) (cl : P.cellsOf tl = 1) (c7 : P.cellsOf e = 7)
  (e0 : f0.type = ti ∧ f0.offset = 0) (e1 : f1.type = ti ∧ f1.offset = 1) (e2 : f2.type = ti ∧ f2.offset = 2) (e3 : f3.type = ti ∧ f3.offset = 3) (e4 : f4.type = ti ∧ f4.offset = 4) (e5 : f5.type = tb ∧ f5.offset = 5) (e6 : f6.type = tl ∧ f6.offset = 6)
  (hd : DataW.Trod enc P W base (fun _ => true) held t (.slice a len cap) d ps) : ∃ xs : List AX, xs.length = len ∧ len ≤ 9223372036854775807 ∧ Ps No (Seq kAct xs (.slice a len cap)) W ∧ ∀ x ∈ xs, ∀ y ∈ x.l, -9223372036854775808 ≤ y ∧ y < 9223372036854775808 := by
 obtain ⟨fuel, hf⟩ := hd
 rcases DataW.trod_slice ht hf with ⟨h0, _⟩ | ⟨x, l, c, elems, rest, n, _, hcs, _, hbb, hlc, hm, hlen, hel, _, _⟩
 ·simp [Value.cells] at h0
  obtain ⟨rfl, rfl, rfl⟩ := h0
  exact ⟨[], rfl, by decide, Ps.mk0 fun w => ⟨none, 0, rfl, Nat.le_refl _, fun i x h => by simp at h⟩, fun _ h => by cases h⟩
 ·simp [Value.cells] at hcs
  obtain ⟨rfl, rfl, rfl⟩ := hcs
  have each : ∀ i, ∃ v : AX, i < len → GoodA W (x.add (i * 7)) v := by
   intro i
   by_cases hi' : i < len
   ·have h1 := hel i hi'
    rw [List.getElem?_eq_getElem (by omega), c7, Option.bind_eq_some_iff] at h1
    obtain ⟨cs, h2, h3⟩ := h1
    obtain ⟨_, h4, h5⟩ := World.cells?_some h2
    obtain ⟨v, hv⟩ := open_act (p := x.add (i * 7)) he hi h8 hb hl ci c8 cb cl c7 e0 e1 e2 e3 e4 e5 e6 (fun j y hj => by
     have hlt := (List.getElem?_eq_some_iff.1 hj).1
     rw [h5 j (by omega)]; exact hj) h3
    exact ⟨v, fun _ => hv⟩
   ·exact ⟨AX0, fun h => absurd h hi'⟩
  have good : ∀ i, i < len → GoodA W (x.add (i * 7)) (Classical.choose (each i)) := fun i hi' => Classical.choose_spec (each i) hi'
  refine ⟨(List.range len).map fun i => Classical.choose (each i), by simp, Nat.le_trans hlc hm, fun W' hW => ⟨_, cap, by simp, by simpa using hlc, fun i v hv => ⟨x, rfl, ?_⟩⟩, ?_⟩
  ·rw [List.getElem?_map] at hv
   by_cases hi' : i < len
   ·rw [List.getElem?_range hi'] at hv
    injection hv with hv
    subst hv
    obtain ⟨h1, h2, h3, _⟩ := good i hi'
    refine ⟨fun j y hj => ?_, h2 W' hW, h3 W' hW⟩
    have h4 := h1 j y hj
    have hlt : ((x.add (i * 7)).add j).block < W.heap.size := cells_of_cell h4 |>.elim fun _ hx => (Array.getElem?_eq_some_iff.1 hx.1).1
    show W'.cell? ((x.add (i * 7)).add j) = some y
    rw [World.cell?_of_block (w := W) (hW _ hlt id)]
    exact h4
   ·rw [List.getElem?_eq_none (by simpa using hi')] at hv
    cases hv
  ·intro v hv
   obtain ⟨i, hi', rfl⟩ := List.mem_map.1 hv
   exact (good i (by simpa using hi')).2.2.2
end
end Go.Proofs.YtpamdlnobekihaaF
