import Derived.Test.YtnlbekdjepkhcaaHgeom1
set_option linter.unusedVariables false
set_option linter.unusedSimpArgs false
namespace Go.Proofs.YtnlbekdjepkhcaaF
open Go Go.Shelf Go.Proofs.YtnlbekdjepkhcaaS Ram
set_option maxRecDepth 20000 in
set_option maxHeartbeats 4000000 in
theorem supers_ok (D B Q : Nat) (bad : List (Int × Int)) (ub : Value) (W : World) (hb : Ps No (Seq (kA 2 eQ) bad ub) W) (gb : bad.length ≤ 1000000000) (hD : 6 ≤ D ∧ D ≤ 8) (hB : 8 ≤ B ∧ B ≤ 12) (hQ : 4 ≤ Q ∧ Q ≤ 8) :
    CW Try.prog 31 #[(Value.agg #[(eN D), (eN B), (eN Q)]), ub] W (Rt (fun u w => ∃ ws, ws.length = (nMin bad B D) ∧ Ps (Old W.heap.size) (Seq (kS eV) ws u) w ∧ Ps (Old W.heap.size) (Fam kN (nMin bad B D) (fun k => supR bad B D k) ws) w ∧ Only No W w)) := by
 have oW : Only No W W := Only.refl _ _
 refine enter (al := [(Value.agg #[(eN D), (eN B), (eN Q)]), ub]) (k := 77) (l := ([(Value.agg #[(eN D), (eN B), (eN Q)]), ub] ++ (us 77))) Try.func31 rfl Try.ntmps31 rfl rfl ?_
 refine wpIn_seq ?_
 refine plain ?_
 refine wO (d_box rfl rfl) ?_
 rintro _ w11 ⟨gg, rfl, g12, a13, o14⟩
 have g_oW_gg : W.heap.size ≤ gg := Nat.le_trans oW.size g12
 replace hb := hb.new o14 g12
 replace oW := oW.tail0 o14
 refine wO (d_box rfl (Seq.cells hb)) ?_
 rintro _ w15 ⟨cb, rfl, g16, a17, o18⟩
 have n_gg_cb : gg ≠ cb := a13.ne g16
 have g_oW_cb : W.heap.size ≤ cb := Nat.le_trans oW.size g16
 replace hb := hb.new o18 g16
 replace a13 := a13.step0 o18
 replace oW := oW.tail0 o18
 refine wI (d_assign rfl) ?_
 refine wF ([(Value.agg #[(eN D), (eN B), (eN Q)]), ub, (ptr gg 0), (ptr cb 0), (Value.slice none 0 0)] ++ (us 74)) ?_
 refine wpL.done ?_
 refine then_n ?_
 refine wpIn_seq ?_
 refine wpIn_seq ?_
 refine plain ?_
 refine wI (d_loadAg (vs := [(eN D), (eN B), (eN Q)]) ⟨_, Try.underlying25, rfl⟩ s_ti25 rfl a13 rfl rfl) ?_
 refine wO (d_call (xl := [.tmp 14]) (al := [(Value.agg #[(eN D), (eN B), (eN Q)])]) Try.func38 (by kernel_rfl) rfl rfl rfl (cw_is (gfitsI_ok ((D : Nat) : Int) ((B : Nat) : Int) ((Q : Nat) : Int) _) (congrArg Value.bool (show fitsI ((D : Nat) : Int) ((B : Nat) : Int) ((Q : Nat) : Int) = true from (fits_is (by omega)).symm)))) ?_
 rintro _ w19 ⟨rfl, o20⟩
 replace hb := hb.step0 o20
 replace a13 := a13.step0 o20
 replace a17 := a17.step0 o20
 replace oW := oW.tail0 o20
 refine wI (d_not rfl rfl) ?_
 refine wF ([(Value.agg #[(eN D), (eN B), (eN Q)]), ub, (ptr gg 0), (ptr cb 0), (Value.slice none 0 0)] ++ (us 9 ++ [(Value.agg #[(eN D), (eN B), (eN Q)]), (Value.bool true), (Value.bool false)] ++ (us 62))) ?_
 refine wpL.done ?_
 refine then_n ?_
 refine cond_f rfl ?_
 refine wpIn_skip ?_
 refine then_n ?_
 refine wpIn_seq ?_
 refine plain ?_
 refine wI (d_assign rfl) ?_
 refine wF ([(Value.agg #[(eN D), (eN B), (eN Q)]), ub, (ptr gg 0), (ptr cb 0), (Value.slice none 0 0), (Value.slice none 0 0)] ++ (us 8 ++ [(Value.agg #[(eN D), (eN B), (eN Q)]), (Value.bool true), (Value.bool false)] ++ (us 62))) ?_
 refine wpL.done ?_
 have a21 : Ow 29 1 none (Value.slice none 0 0) ([] : List (Value)).length (([] : List (Value)).map eV) w19 := Ow.nil _ _ _
 have nq_dies_gg : ∀ x, (none : Option Nat) = some x → ¬ x = gg := fun x e => by cases e
 have nq_dies_cb : ∀ x, (none : Option Nat) = some x → ¬ x = cb := fun x e => by cases e
 have q_oW_dies : Fr none none W.heap.size := Fr.none
 replace hb := hb.qnone
 refine then_n ?_
 refine wpIn_seq ?_
 refine plain ?_
 refine wI (d_fieldAddr (j := 1) Try.underlying25 rfl s_ti3 (by decide) rfl rfl) ?_
 refine wI (d_load (v := (eN B)) ⟨_, Try.underlying3, rfl⟩ rfl a13 rfl) ?_
 refine wI (d_assign rfl) ?_
 refine wF ([(Value.agg #[(eN D), (eN B), (eN Q)]), ub, (ptr gg 0), (ptr cb 0), (Value.slice none 0 0), (Value.slice none 0 0), (eN B)] ++ (us 7 ++ [(Value.agg #[(eN D), (eN B), (eN Q)]), (Value.bool true), (Value.bool false), (ptr gg 1), (eN B)] ++ (us 60))) ?_
 refine wpL.done ?_
 refine then_n ?_
 refine wpIn_seq ?_
 refine wpIn_seq ?_
 refine plain ?_
 refine wI (d_fieldAddr (j := 0) Try.underlying25 rfl s_ti3 (by decide) rfl rfl) ?_
 refine wI (d_load (v := (eN D)) ⟨_, Try.underlying3, rfl⟩ rfl a13 rfl) ?_
 refine wI (d_move rfl) ?_
 refine wF ([(Value.agg #[(eN D), (eN B), (eN Q)]), ub, (ptr gg 0), (ptr cb 0), (Value.slice none 0 0), (Value.slice none 0 0), (eN B)] ++ (us 7 ++ [(Value.agg #[(eN D), (eN B), (eN Q)]), (Value.bool true), (Value.bool false), (ptr gg 1), (eN B), (ptr gg 0), (eN D), (eN 0)] ++ (us 57))) ?_
 refine wpL.done ?_
 refine then_n ?_
 refine wpIn_block ?_
 have h_lt_gg := a13.lt
 have h_lt_cb := a17.lt
 have h_lts_dies := a21.lts
 refine loop3 (fun (s_ : (Nat) × (List Value) × (List Nat) × (Option Nat) × (Value)) => match s_ with | ⟨d, vs, rs, bo_dies, u_dies⟩ => fun (z : Nat → Value) => (([(Value.agg #[(eN D), (eN B), (eN Q)]), ub, (ptr gg 0), (ptr cb 0), (Value.slice none 0 0), u_dies, (eN (nMin bad B d)), (z 7), (z 8), (z 9), undef, undef, undef, undef, (Value.agg #[(eN D), (eN B), (eN Q)]), (Value.bool true), (Value.bool false), (ptr gg 1), (eN B), (ptr gg 0), (eN D), (eN d)] ++ (zs z 22 20 ++ (us 37))) : List Value)) (fun (s_ : (Nat) × (List Value) × (List Nat) × (Option Nat) × (Value)) => match s_ with | ⟨d, vs, rs, bo_dies, u_dies⟩ => rs) (fun (s_ : (Nat) × (List Value) × (List Nat) × (Option Nat) × (Value)) => match s_ with | ⟨d, vs, rs, bo_dies, u_dies⟩ => fun (w_ : World) => (d ≤ D) ∧ (vs.length = d) ∧ (Ps (Orq bo_dies (Or1 cb (Or1 gg (Old W.heap.size)))) (Fam kN d (fun k => goodL bad k B) vs) w_) ∧ (Ps (Orq bo_dies (Or1 cb (Or1 gg (Old W.heap.size)))) (MarksOk rs) w_) ∧ (∀ r ∈ rs, W.heap.size ≤ r) ∧ Only (Orq none (Or1 cb (Or1 gg No))) w19 w_ ∧ Arr 25 gg [(eN D), (eN B), (eN Q)] w_ ∧ Arr 42 cb [ub] w_ ∧ Ow 29 1 bo_dies u_dies (vs).length ((vs).map eV) w_ ∧ Fr bo_dies none w19.heap.size) (fun (s_ : (Nat) × (List Value) × (List Nat) × (Option Nat) × (Value)) => match s_ with | ⟨d, vs, rs, bo_dies, u_dies⟩ => D - d) ⟨0, [], [], none, (Value.slice none 0 0)⟩ rfl rfl ?_ ?_
 ·
  refine ⟨?_, ?_, ?_, ?_, ?_, ?_, ?_, ?_, ?_, ?_⟩
  ·
   exact Nat.zero_le _
  ·
   exact rfl
  ·
   exact fam_zero
  ·
   exact marks_nil
  ·
   exact fun r hr => absurd hr List.not_mem_nil
  ·
   exact Only.refl _ _
  ·
   exact a13
  ·
   exact a17
  ·
   exact a21
  ·
   exact Fr.same
 rintro ⟨d, vs, rs, bo_dies, u_dies⟩ z w23 ⟨hd, hv, hF, hM, hrs, o22, a13, a17, a21, qq_dies⟩
 (try dsimp only)
 replace hb := hb.re o22 (orq_mono (or1_mono (or1_mono no_any))) (xx_re qq_dies (xx_or1 (xx_or1 xx_id)))
 have tq_oW := oW.size
 replace oW := oW.tail o22 (tl_q q_oW_dies (fun _ e => by cases e) (tl_new g_oW_cb (tl_new g_oW_gg tl_no)))
 replace q_oW_dies := qtr qq_dies q_oW_dies tq_oW
 replace nq_dies_gg := nqs nq_dies_gg qq_dies h_lt_gg
 replace nq_dies_cb := nqs nq_dies_cb qq_dies h_lt_cb
 have q_o22_dies := qq_dies
 refine wpIn_seq ?_
 refine plain ?_
 refine wI (n_lss (a := d) (b := D) rfl rfl rfl) ?_
 refine wF ([(Value.agg #[(eN D), (eN B), (eN Q)]), ub, (ptr gg 0), (ptr cb 0), (Value.slice none 0 0), u_dies, (eN (nMin bad B d)), (z 7), (z 8), (z 9), undef, undef, undef, undef, (Value.agg #[(eN D), (eN B), (eN Q)]), (Value.bool true), (Value.bool false), (ptr gg 1), (eN B), (ptr gg 0), (eN D), (eN d), (Value.bool (decide (d < D)))] ++ (zs z 23 19 ++ (us 37))) ?_
 refine wpL.done ?_
 refine then_n ?_
 refine wpIn_seq ?_
 refine cond_if rfl (fun c24 => ?_) (fun c24 => ?_)
 ·
  refine wpIn_skip ?_
  refine then_n ?_
  refine wpIn_seq ?_
  refine wpIn_block ?_
  refine wpIn_seq ?_
  refine plain ?_
  refine wI (d_move rfl) ?_
  refine wO (d_alloc s_ti3 rfl) ?_
  rintro _ w25 ⟨cd, rfl, g26, a27, o28⟩
  have n_gg_cd : gg ≠ cd := a13.ne g26
  have n_cb_cd : cb ≠ cd := a17.ne g26
  have nq_dies_cd : ∀ x, bo_dies = some x → ¬ x = cd := fun x hx e => by have := a21.lts x hx; omega
  have g_oW_cd : W.heap.size ≤ cd := Nat.le_trans oW.size g26
  have g_o22_cd : w19.heap.size ≤ cd := Nat.le_trans o22.size g26
  replace hb := hb.new o28 g26
  replace hF := hF.new o28 g26
  replace hM := hM.new o28 g26
  replace a13 := a13.step0 o28
  replace a17 := a17.step0 o28
  replace a21 := a21.step0 o28
  replace oW := oW.tail0 o28
  replace o22 := o22.tail0 o28
  refine wO (d_store s_ti3 rfl rfl rfl a27 (nb rfl) rfl) ?_
  rintro _ w29 ⟨a30, o31⟩
  replace hb := hb.stepb o31 in1
  replace hF := hF.stepb o31 in1
  replace hM := hM.stepb o31 in1
  replace a13 := a13.step o31 (fun e => absurd e n_gg_cd)
  replace a17 := a17.step o31 (fun e => absurd e n_cb_cd)
  replace a21 := a21.step o31 (fun x hx e => nq_dies_cd x hx e)
  replace oW := oW.tailb o31 g_oW_cd
  replace o22 := o22.tailb o31 g_o22_cd
  refine wF ([(Value.agg #[(eN D), (eN B), (eN Q)]), ub, (ptr gg 0), (ptr cb 0), (Value.slice none 0 0), u_dies, (eN (nMin bad B d)), (ptr cd 0), (z 8), (z 9), undef, undef, undef, undef, (Value.agg #[(eN D), (eN B), (eN Q)]), (Value.bool true), (Value.bool false), (ptr gg 1), (eN B), (ptr gg 0), (eN D), (eN d), (Value.bool (decide (d < D))), (eN d)] ++ (zs z 24 18 ++ (us 37))) ?_
  refine wpL.done ?_
  refine then_n ?_
  refine wpIn_seq ?_
  refine plain ?_
  refine wO (d_alloc s_ti29 rfl) ?_
  rintro _ w32 ⟨cg, rfl, g33, a34, o35⟩
  have n_gg_cg : gg ≠ cg := a13.ne g33
  have n_cb_cg : cb ≠ cg := a17.ne g33
  have n_cd_cg : cd ≠ cg := a30.ne g33
  have nq_dies_cg : ∀ x, bo_dies = some x → ¬ x = cg := fun x hx e => by have := a21.lts x hx; omega
  have g_oW_cg : W.heap.size ≤ cg := Nat.le_trans oW.size g33
  have g_o22_cg : w19.heap.size ≤ cg := Nat.le_trans o22.size g33
  replace hb := hb.new o35 g33
  replace hF := hF.new o35 g33
  replace hM := hM.new o35 g33
  replace a13 := a13.step0 o35
  replace a17 := a17.step0 o35
  replace a30 := a30.step0 o35
  replace a21 := a21.step0 o35
  replace oW := oW.tail0 o35
  replace o22 := o22.tail0 o35
  refine wF ([(Value.agg #[(eN D), (eN B), (eN Q)]), ub, (ptr gg 0), (ptr cb 0), (Value.slice none 0 0), u_dies, (eN (nMin bad B d)), (ptr cd 0), (ptr cg 0), (z 9), undef, undef, undef, undef, (Value.agg #[(eN D), (eN B), (eN Q)]), (Value.bool true), (Value.bool false), (ptr gg 1), (eN B), (ptr gg 0), (eN D), (eN d), (Value.bool (decide (d < D))), (eN d)] ++ (zs z 24 18 ++ (us 37))) ?_
  refine wpL.done ?_
  have a36 : Ow 3 1 none (Value.slice none 0 0) ([] : List (Nat)).length (([] : List (Nat)).map eN) w32 := Ow.nil _ _ _
  have nq_good_gg : ∀ x, (none : Option Nat) = some x → ¬ x = gg := fun x e => by cases e
  have nq_good_cb : ∀ x, (none : Option Nat) = some x → ¬ x = cb := fun x e => by cases e
  have nq_good_cd : ∀ x, (none : Option Nat) = some x → ¬ x = cd := fun x e => by cases e
  have nq_good_cg : ∀ x, (none : Option Nat) = some x → ¬ x = cg := fun x e => by cases e
  have nqq_dies_good : ∀ x, bo_dies = some x → (none : Option Nat) = some x → False := fun _ _ e => by cases e
  have q_oW_good : Fr none none W.heap.size := Fr.none
  have q_o22_good : Fr none none w19.heap.size := Fr.none
  replace hb := hb.qnone
  replace hF := hF.qnone
  replace hM := hM.qnone
  refine then_n ?_
  refine wpIn_seq ?_
  refine wpIn_seq ?_
  refine plain ?_
  refine wI (d_fieldAddr (j := 1) Try.underlying25 rfl s_ti3 (by decide) rfl rfl) ?_
  refine wI (d_load (v := (eN B)) ⟨_, Try.underlying3, rfl⟩ rfl a13 rfl) ?_
  refine wI (d_funcL (yl := [.tmp 3, .tmp 7]) (ys := [(ptr cb 0), (ptr cd 0)]) rfl) ?_
  refine wF ([(Value.agg #[(eN D), (eN B), (eN Q)]), ub, (ptr gg 0), (ptr cb 0), (Value.slice none 0 0), u_dies, (eN (nMin bad B d)), (ptr cd 0), (ptr cg 0), (z 9), undef, undef, undef, undef, (Value.agg #[(eN D), (eN B), (eN Q)]), (Value.bool true), (Value.bool false), (ptr gg 1), (eN B), (ptr gg 0), (eN D), (eN d), (Value.bool (decide (d < D))), (eN d), (ptr gg 1), (eN B), (Value.func (.func 48) #[] #[(ptr cb 0), (ptr cd 0)])] ++ (zs z 27 15 ++ (us 37))) ?_
  refine wO (d_call (xl := [.tmp 25, .tmp 26]) (al := [(eN B), (Value.func (.func 48) #[] #[(ptr cb 0), (ptr cd 0)])]) Try.func47 (by kernel_rfl) rfl rfl rfl (but_ok B cb cd _)) ?_
  rintro _ w37 ⟨b39, b40, rfl, g41, g42, n45, a43, a44, o38⟩
  have n_gg_b39 : gg ≠ b39 := a13.ne g41
  have n_cb_b39 : cb ≠ b39 := a17.ne g41
  have n_cd_b39 : cd ≠ b39 := a30.ne g41
  have n_cg_b39 : cg ≠ b39 := a34.ne g41
  have nq_dies_b39 : ∀ x, bo_dies = some x → ¬ x = b39 := fun x hx e => by have := a21.lts x hx; omega
  have nq_good_b39 : ∀ x, none = some x → ¬ x = b39 := fun x hx e => by have := a36.lts x hx; omega
  have g_oW_b39 : W.heap.size ≤ b39 := Nat.le_trans oW.size g41
  have g_o22_b39 : w19.heap.size ≤ b39 := Nat.le_trans o22.size g41
  replace hb := Ps.less (Y := Or1 b39 (Orq none (Or1 cg (Or1 cd (Orq bo_dies (Or1 cb (Or1 gg No))))))) hb (xx_new g41 xx_id)
  replace hF := Ps.less (Y := Or1 b39 (Orq none (Or1 cg (Or1 cd (Orq bo_dies (Or1 cb (Or1 gg (Old W.heap.size)))))))) hF (xx_new g41 xx_id)
  replace hM := Ps.less (Y := Or1 b39 (Orq none (Or1 cg (Or1 cd (Orq bo_dies (Or1 cb (Or1 gg (Old W.heap.size)))))))) hM (xx_new g41 xx_id)
  have n_b39_b40 : b39 ≠ b40 := n45
  have n_gg_b40 : gg ≠ b40 := a13.ne g42
  have n_cb_b40 : cb ≠ b40 := a17.ne g42
  have n_cd_b40 : cd ≠ b40 := a30.ne g42
  have n_cg_b40 : cg ≠ b40 := a34.ne g42
  have nq_dies_b40 : ∀ x, bo_dies = some x → ¬ x = b40 := fun x hx e => by have := a21.lts x hx; omega
  have nq_good_b40 : ∀ x, none = some x → ¬ x = b40 := fun x hx e => by have := a36.lts x hx; omega
  have g_oW_b40 : W.heap.size ≤ b40 := Nat.le_trans oW.size g42
  have g_o22_b40 : w19.heap.size ≤ b40 := Nat.le_trans o22.size g42
  replace hb := hb.new o38 g42
  replace hF := hF.new o38 g42
  replace hM := hM.new o38 g42
  replace a13 := a13.step0 o38
  replace a17 := a17.step0 o38
  replace a30 := a30.step0 o38
  replace a34 := a34.step0 o38
  replace a21 := a21.step0 o38
  replace a36 := a36.step0 o38
  replace oW := oW.tail0 o38
  replace o22 := o22.tail0 o38
  refine wF ([(Value.agg #[(eN D), (eN B), (eN Q)]), ub, (ptr gg 0), (ptr cb 0), (Value.slice none 0 0), u_dies, (eN (nMin bad B d)), (ptr cd 0), (ptr cg 0), (z 9), undef, undef, undef, undef, (Value.agg #[(eN D), (eN B), (eN Q)]), (Value.bool true), (Value.bool false), (ptr gg 1), (eN B), (ptr gg 0), (eN D), (eN d), (Value.bool (decide (d < D))), (eN d), (ptr gg 1), (eN B), (Value.func (.func 48) #[] #[(ptr cb 0), (ptr cd 0)]), (Value.func (.func 54) #[] #[(ptr b39 0), (ptr b40 0)])] ++ (zs z 28 14 ++ (us 37))) ?_
  refine wpL.done ?_
  refine then_n ?_
  refine wpIn_block ?_
  have h_lt_gg := a13.lt
  have h_lt_cb := a17.lt
  have h_lt_cd := a30.lt
  have h_lt_cg := a34.lt
  have h_lt_b40 := a44.lt
  have h_lt_b39 := a43.lt
  have h_lts_dies := a21.lts
  have h_lts_good := a36.lts
  have tq_oW := oW.size
  have tq_o22 := o22.size
  have nO_b39 : ¬ (Orq none (Or1 cg (Orq bo_dies (Or1 gg No)))) b39 := (not_orq (fun x hx e => nq_good_b39 x hx e) (not_or1 (Ne.symm n_cg_b39) (not_orq (fun x hx e => nq_dies_b39 x hx e) (not_or1 (Ne.symm n_gg_b39) not_no))))
  have nO_b40 : ¬ (Orq none (Or1 cg (Orq bo_dies (Or1 gg No)))) b40 := (not_orq (fun x hx e => nq_good_b40 x hx e) (not_or1 (Ne.symm n_cg_b40) (not_orq (fun x hx e => nq_dies_b40 x hx e) (not_or1 (Ne.symm n_gg_b40) not_no))))
  have nO_cb : ¬ (Orq none (Or1 cg (Orq bo_dies (Or1 gg No)))) cb := (not_orq (fun x hx e => nq_good_cb x hx e) (not_or1 n_cb_cg (not_orq (fun x hx e => nq_dies_cb x hx e) (not_or1 (Ne.symm n_gg_cb) not_no))))
  have nO_cd : ¬ (Orq none (Or1 cg (Orq bo_dies (Or1 gg No)))) cd := (not_orq (fun x hx e => nq_good_cd x hx e) (not_or1 n_cd_cg (not_orq (fun x hx e => nq_dies_cd x hx e) (not_or1 (Ne.symm n_gg_cd) not_no))))
  obtain ⟨D_, hD_⟩ : ∃ D_, w37.heap.size = D_ := ⟨_, rfl⟩
  obtain ⟨L_, hL_⟩ : ∃ L_, w37.heap.size + 1 = L_ := ⟨_, rfl⟩
  have mne_ := marks_ne hM.now hD_
  refine range_ (encs := (fun k => [eN k])) (Pv := No) (O := (Orq none (Or1 cg (Orq bo_dies (Or1 gg No))))) (xs := (goodL bad d B)) (D := D_) (L := L_) (rs := rs) hD_ hL_ rfl Try.func54 (by kernel_rfl) rfl (iter_but bad ub B d b39 b40 cb cd a43 a44 a17 a30 n_b39_b40 (Ne.symm n_cb_b39) (Ne.symm n_cd_b39) (Ne.symm n_cb_b40) (Ne.symm n_cd_b40) n_cb_cd nO_b39 nO_b40 nO_cb nO_cd hb (or1_skip (or1_skip (orq_mono (or1_mono (or1_skip (orq_mono (or1_skip (or1_mono no_any)))))))) (by omega) (by omega)) (fun k t => t.elim) (fun _ => rfl) (lt_orq h_lts_good (lt_or1 h_lt_cg (lt_orq h_lts_dies (lt_or1 h_lt_gg lt_no)))) (fun (pre : List Nat) (w_ : World) => ∃ (bo_good : Option Nat) (u_good : Value), Only (Orq none (Or1 cg (Orq bo_dies (Or1 gg No)))) w37 w_ ∧ Arr 25 gg [(eN D), (eN B), (eN Q)] w_ ∧ Arr 42 cb [ub] w_ ∧ Arr 3 cd [(eN d)] w_ ∧ Arr 29 cg [u_good] w_ ∧ Arr 69 b40 [(Value.func (.func 48) #[] #[(ptr cb 0), (ptr cd 0)])] w_ ∧ Arr 3 b39 [(eN B)] w_ ∧ Ow 29 1 bo_dies u_dies (vs).length ((vs).map eV) w_ ∧ Ow 3 1 bo_good u_good (pre).length ((pre).map eN) w_ ∧ Fr bo_good none w37.heap.size ∧ (∀ x, bo_good = some x → ¬ x = D_) ∧ (∀ x, bo_good = some x → ¬ x = L_)) (fun _ _ _ => False) ?_ ?_ ?_ ?_ ?_ ?_
  ·
   rintro pre w_ w2_ ⟨bo_good, u_good, o46, a13, a17, a30, a34, a44, a43, a21, a36, qq_good, nq_good_D_, nq_good_L_⟩ ho_
   exact ⟨bo_good, u_good, o46.tail ho_ (stab_tl hD_ hL_ (fun k t => t.elim)), a13.step ho_ (stab_b hD_ hL_ h_lt_gg (fun t => t.elim)), a17.step ho_ (stab_b hD_ hL_ h_lt_cb (fun t => t.elim)), a30.step ho_ (stab_b hD_ hL_ h_lt_cd (fun t => t.elim)), a34.step ho_ (stab_b hD_ hL_ h_lt_cg (fun t => t.elim)), a44.step ho_ (stab_b hD_ hL_ h_lt_b40 (fun t => t.elim)), a43.step ho_ (stab_b hD_ hL_ h_lt_b39 (fun t => t.elim)), a21.step ho_ (fun b hb => stab_b hD_ hL_ (h_lts_dies b hb) (fun t => t.elim)), a36.step ho_ (stab_q nq_good_D_ nq_good_L_ (fun b hb t => t.elim)), qq_good, nq_good_D_, nq_good_L_⟩
  ·
   intro _ _ _ _ h _; exact h.elim
  ·
   refine ⟨none, (Value.slice none 0 0), ?_, ?_, ?_, ?_, ?_, ?_, ?_, ?_, ?_, ?_, ?_, ?_⟩
   ·
    exact Only.refl _ _
   ·
    exact a13
   ·
    exact a17
   ·
    exact a30
   ·
    exact a34
   ·
    exact a44
   ·
    exact a43
   ·
    exact a21
   ·
    exact a36
   ·
    exact Fr.same
   ·
    (try dsimp only)
    all_goals (exact fun x hx e => by have := h_lts_good x hx; omega)
   ·
    (try dsimp only)
    all_goals (exact fun x hx e => by have := h_lts_good x hx; omega)
  ·
   intro pre k w1_ hpx_ hI_ hL1_
   obtain ⟨bo_good, u_good, o46, a13, a17, a30, a34, a44, a43, a21, a36, qq_good, nq_good_D_, nq_good_L_⟩ := hI_
   replace hb := Ps.re (X' := (Or1 L_ (Or1 D_ (Or1 b40 (Or1 b39 (Orq bo_good (Or1 cg (Or1 cd (Orq bo_dies (Or1 cb (Or1 gg No))))))))))) hb o46 (or1_skip (or1_skip (orq_mono (or1_mono (or1_skip (orq_mono (or1_skip (or1_mono no_any)))))))) (xx_new (by omega) (xx_new (Nat.le_of_eq hD_) (xx_or1 (xx_or1 (xx_re qq_good (xx_or1 (xx_or1 (xx_orq (xx_or1 (xx_or1 xx_id))))))))))
   replace hF := Ps.re (X' := (Or1 L_ (Or1 D_ (Or1 b40 (Or1 b39 (Orq bo_good (Or1 cg (Or1 cd (Orq bo_dies (Or1 cb (Or1 gg (Old W.heap.size)))))))))))) hF o46 (or1_skip (or1_skip (orq_mono (or1_mono (or1_skip (orq_mono (or1_skip (or1_mono no_any)))))))) (xx_new (by omega) (xx_new (Nat.le_of_eq hD_) (xx_or1 (xx_or1 (xx_re qq_good (xx_or1 (xx_or1 (xx_orq (xx_or1 (xx_or1 xx_id))))))))))
   replace hM := Ps.re (X' := (Or1 L_ (Or1 D_ (Or1 b40 (Or1 b39 (Orq bo_good (Or1 cg (Or1 cd (Orq bo_dies (Or1 cb (Or1 gg (Old W.heap.size)))))))))))) hM o46 (or1_skip (or1_skip (orq_mono (or1_mono (or1_skip (orq_mono (or1_skip (or1_mono no_any)))))))) (xx_new (by omega) (xx_new (Nat.le_of_eq hD_) (xx_or1 (xx_or1 (xx_re qq_good (xx_or1 (xx_or1 (xx_orq (xx_or1 (xx_or1 xx_id))))))))))
   replace oW := oW.tail o46 (tl_q q_oW_good (fun _ e => by cases e) (tl_new g_oW_cg (tl_q q_oW_dies (fun _ e => by cases e) (tl_new g_oW_gg tl_no))))
   replace q_oW_good := qtr qq_good q_oW_good tq_oW
   replace o22 := o22.tail o46 (tl_q q_o22_good (fun _ e => by cases e) (tl_new g_o22_cg (tl_q q_o22_dies (fun k e => (.inl e)) (tl_in (inq (in2 in1)) tl_no))))
   replace q_o22_good := qtr qq_good q_o22_good tq_o22
   replace nq_good_gg := nqs nq_good_gg qq_good h_lt_gg
   replace nq_good_cb := nqs nq_good_cb qq_good h_lt_cb
   replace nq_good_cd := nqs nq_good_cd qq_good h_lt_cd
   replace nq_good_cg := nqs nq_good_cg qq_good h_lt_cg
   replace nq_good_b40 := nqs nq_good_b40 qq_good h_lt_b40
   replace nq_good_b39 := nqs nq_good_b39 qq_good h_lt_b39
   replace nqq_dies_good := nqq_step nqq_dies_good qq_good h_lts_dies
   have q_o46_dies : Fr bo_dies bo_dies w37.heap.size := Fr.same
   have q_o46_good : Fr bo_good none w37.heap.size := qq_good
   have n_gg_D_ : gg ≠ D_ := by omega
   have n_cb_D_ : cb ≠ D_ := by omega
   have n_cd_D_ : cd ≠ D_ := by omega
   have n_cg_D_ : cg ≠ D_ := by omega
   have n_b40_D_ : b40 ≠ D_ := by omega
   have n_b39_D_ : b39 ≠ D_ := by omega
   have nq_dies_D_ : ∀ x, bo_dies = some x → ¬ x = D_ := fun x hx e => by have := h_lts_dies x hx; omega
   have g_oW_D_ : W.heap.size ≤ D_ := by omega
   have g_o22_D_ : w19.heap.size ≤ D_ := by omega
   have g_o46_D_ : w37.heap.size ≤ D_ := by omega
   have n_gg_L_ : gg ≠ L_ := by omega
   have n_cb_L_ : cb ≠ L_ := by omega
   have n_cd_L_ : cd ≠ L_ := by omega
   have n_cg_L_ : cg ≠ L_ := by omega
   have n_b40_L_ : b40 ≠ L_ := by omega
   have n_b39_L_ : b39 ≠ L_ := by omega
   have nq_dies_L_ : ∀ x, bo_dies = some x → ¬ x = L_ := fun x hx e => by have := h_lts_dies x hx; omega
   have g_oW_L_ : W.heap.size ≤ L_ := by omega
   have g_o22_L_ : w19.heap.size ≤ L_ := by omega
   have g_o46_L_ : w37.heap.size ≤ L_ := by omega
   have n_D__L_ : D_ ≠ L_ := by omega
   have aL_ : Dead L_ w1_ := hL1_
   have aD_ : Dead D_ w1_ := by unfold Dead; omega
   refine wp_eq (l' := ([(Value.agg #[(eN D), (eN B), (eN Q)]), ub, (ptr gg 0), (ptr cb 0), (Value.slice none 0 0), u_dies, (eN (nMin bad B d)), (ptr cd 0), (ptr cg 0), (z 9), undef, undef, undef, undef, (Value.agg #[(eN D), (eN B), (eN Q)]), (Value.bool true), (Value.bool false), (ptr gg 1), (eN B), (ptr gg 0), (eN D), (eN d), (Value.bool (decide (d < D))), (eN d), (ptr gg 1), (eN B), (Value.func (.func 48) #[] #[(ptr cb 0), (ptr cd 0)]), (Value.func (.func 54) #[] #[(ptr b39 0), (ptr b40 0)]), (eN k)] ++ (zs z 29 13 ++ (us 37)))) (by kernel_rfl) ?_
   refine plain ?_
   refine wI (d_assign rfl) ?_
   refine wF ([(Value.agg #[(eN D), (eN B), (eN Q)]), ub, (ptr gg 0), (ptr cb 0), (Value.slice none 0 0), u_dies, (eN (nMin bad B d)), (ptr cd 0), (ptr cg 0), (eN k), undef, undef, undef, undef, (Value.agg #[(eN D), (eN B), (eN Q)]), (Value.bool true), (Value.bool false), (ptr gg 1), (eN B), (ptr gg 0), (eN D), (eN d), (Value.bool (decide (d < D))), (eN d), (ptr gg 1), (eN B), (Value.func (.func 48) #[] #[(ptr cb 0), (ptr cd 0)]), (Value.func (.func 54) #[] #[(ptr b39 0), (ptr b40 0)]), (eN k)] ++ (zs z 29 13 ++ (us 37))) ?_
   refine wpL.done ?_
   refine then_n ?_
   refine ⟨Only.refl _ _, fun w2_ oL_ _ => ?_⟩
   replace hb := hb.stepb oL_ in1
   replace hF := hF.stepb oL_ in1
   replace hM := hM.stepb oL_ in1
   replace a13 := a13.step oL_ (fun e => absurd e n_gg_L_)
   replace a17 := a17.step oL_ (fun e => absurd e n_cb_L_)
   replace a30 := a30.step oL_ (fun e => absurd e n_cd_L_)
   replace a34 := a34.step oL_ (fun e => absurd e n_cg_L_)
   replace a44 := a44.step oL_ (fun e => absurd e n_b40_L_)
   replace a43 := a43.step oL_ (fun e => absurd e n_b39_L_)
   replace aD_ := aD_.step oL_ (fun e => absurd e n_D__L_)
   replace a21 := a21.step oL_ (fun x hx e => nq_dies_L_ x hx e)
   replace a36 := a36.step oL_ (fun x hx e => nq_good_L_ x hx e)
   replace oW := oW.tailb oL_ g_oW_L_
   replace o22 := o22.tailb oL_ g_o22_L_
   replace o46 := o46.tailb oL_ g_o46_L_
   replace aL_ : Dead L_ w2_ := Nat.lt_of_lt_of_le aL_ oL_.size
   have oR_ : Only (fun k => (Orq none (Or1 cg (Orq bo_dies (Or1 gg No)))) k ∨ L_ < k) w2_ w2_ := Only.refl _ _
   have q_oR__dies : Fr bo_dies bo_dies w2_.heap.size := Fr.same
   have nqD0_good := nq_good_D_
   have nqL0_good := nq_good_L_
   have q_oR__good : Fr bo_good bo_good w2_.heap.size := Fr.same
   have hp_ := pre_good hpx_
   refine wpIn_block ?_
   refine plain ?_
   refine wI (d_load (v := u_good) ⟨_, Try.underlying29, rfl⟩ rfl a34 rfl) ?_
   refine wI (d_move rfl) ?_
   refine wO (d_buildL (cs := [(eN k)]) Try.underlying29 s_ti3 rfl (nb rfl) (parts_cons (vs := [(eN k)]) (cells_of (v := (eN k)) rfl rfl) parts_nil) rfl) ?_
   rintro _ w48 ⟨b47, rfl, g49, a50, o51⟩
   replace a50 : Arr 3 b47 (([k] : List Nat).map eN) w48 := a50
   have l_b47 : ([k] : List Nat).length = 1 := rfl
   have n_gg_b47 : gg ≠ b47 := a13.ne g49
   have n_cb_b47 : cb ≠ b47 := a17.ne g49
   have n_cd_b47 : cd ≠ b47 := a30.ne g49
   have n_cg_b47 : cg ≠ b47 := a34.ne g49
   have n_b40_b47 : b40 ≠ b47 := a44.ne g49
   have n_b39_b47 : b39 ≠ b47 := a43.ne g49
   have n_D__b47 : D_ ≠ b47 := aD_.ne g49
   have n_L__b47 : L_ ≠ b47 := aL_.ne g49
   have nq_dies_b47 : ∀ x, bo_dies = some x → ¬ x = b47 := fun x hx e => by have := a21.lts x hx; omega
   have nq_good_b47 : ∀ x, bo_good = some x → ¬ x = b47 := fun x hx e => by have := a36.lts x hx; omega
   have g_oW_b47 : W.heap.size ≤ b47 := Nat.le_trans oW.size g49
   have g_o22_b47 : w19.heap.size ≤ b47 := Nat.le_trans o22.size g49
   have g_o46_b47 : w37.heap.size ≤ b47 := Nat.le_trans o46.size g49
   have g_oR__b47 : w2_.heap.size ≤ b47 := Nat.le_trans oR_.size g49
   replace hb := hb.new o51 g49
   replace hF := hF.new o51 g49
   replace hM := hM.new o51 g49
   replace a13 := a13.step0 o51
   replace a17 := a17.step0 o51
   replace a30 := a30.step0 o51
   replace a34 := a34.step0 o51
   replace a44 := a44.step0 o51
   replace a43 := a43.step0 o51
   replace aD_ := aD_.step0 o51
   replace aL_ := aL_.step0 o51
   replace a21 := a21.step0 o51
   replace a36 := a36.step0 o51
   replace oW := oW.tail0 o51
   replace o22 := o22.tail0 o51
   replace o46 := o46.tail0 o51
   replace oR_ := oR_.tail0 o51
   refine wF ([(Value.agg #[(eN D), (eN B), (eN Q)]), ub, (ptr gg 0), (ptr cb 0), (Value.slice none 0 0), u_dies, (eN (nMin bad B d)), (ptr cd 0), (ptr cg 0), (eN k), undef, undef, undef, undef, (Value.agg #[(eN D), (eN B), (eN Q)]), (Value.bool true), (Value.bool false), (ptr gg 1), (eN B), (ptr gg 0), (eN D), (eN d), (Value.bool (decide (d < D))), (eN d), (ptr gg 1), (eN B), (Value.func (.func 48) #[] #[(ptr cb 0), (ptr cd 0)]), (Value.func (.func 54) #[] #[(ptr b39 0), (ptr b40 0)]), (eN k), u_good, (eN k), (sli b47 0 1 1)] ++ (zs z 32 10 ++ (us 37))) ?_
   refine wO (d_append Try.underlying29 Try.underlying29 s_ti3 rfl rfl rfl a36 (SrcV.of_seq (arr_seq a50 l_b47 (Nat.le_refl _)) (fun _ => rfl)) (by first | omega | (simp; omega)) (by first | omega | (simp; omega)) rfl) ?_
   rintro u52 w53 ⟨bo54, a55, o56, q57⟩
   replace a55 : Ow 3 1 bo54 u52 (pre ++ ([k] : List Nat)).length ((pre ++ ([k] : List Nat)).map eN) w53 := by rw [List.length_append, List.map_append]; exact a55
   replace hb := hb.gr o56 (fun k e => (.inr (.inr (.inr (.inr (.inr (.inl e))))))) (xx_or1 (xx_or1 (xx_or1 (xx_or1 (xx_or1 (xx_re (Fr.of_or q57) (xx_or1 (xx_or1 (xx_orq (xx_or1 (xx_or1 xx_id)))))))))))
   replace hF := hF.gr o56 (fun k e => (.inr (.inr (.inr (.inr (.inr (.inl e))))))) (xx_or1 (xx_or1 (xx_or1 (xx_or1 (xx_or1 (xx_re (Fr.of_or q57) (xx_or1 (xx_or1 (xx_orq (xx_or1 (xx_or1 xx_id)))))))))))
   replace hM := hM.gr o56 (fun k e => (.inr (.inr (.inr (.inr (.inr (.inl e))))))) (xx_or1 (xx_or1 (xx_or1 (xx_or1 (xx_or1 (xx_re (Fr.of_or q57) (xx_or1 (xx_or1 (xx_orq (xx_or1 (xx_or1 xx_id)))))))))))
   have nq2 := nqs nq_good_gg (Fr.of_or q57) a13.lt
   replace a13 := a13.step o56 (fun e => nq_good_gg _ e rfl)
   replace nq_good_gg := nq2
   clear nq2
   have nq2 := nqs nq_good_cb (Fr.of_or q57) a17.lt
   replace a17 := a17.step o56 (fun e => nq_good_cb _ e rfl)
   replace nq_good_cb := nq2
   clear nq2
   have nq2 := nqs nq_good_cd (Fr.of_or q57) a30.lt
   replace a30 := a30.step o56 (fun e => nq_good_cd _ e rfl)
   replace nq_good_cd := nq2
   clear nq2
   have nq2 := nqs nq_good_cg (Fr.of_or q57) a34.lt
   replace a34 := a34.step o56 (fun e => nq_good_cg _ e rfl)
   replace nq_good_cg := nq2
   clear nq2
   have nq2 := nqs nq_good_b40 (Fr.of_or q57) a44.lt
   replace a44 := a44.step o56 (fun e => nq_good_b40 _ e rfl)
   replace nq_good_b40 := nq2
   clear nq2
   have nq2 := nqs nq_good_b39 (Fr.of_or q57) a43.lt
   replace a43 := a43.step o56 (fun e => nq_good_b39 _ e rfl)
   replace nq_good_b39 := nq2
   clear nq2
   have nq2 := nqs nq_good_D_ (Fr.of_or q57) aD_.lt
   replace aD_ := aD_.step o56 (fun e => nq_good_D_ _ e rfl)
   replace nq_good_D_ := nq2
   clear nq2
   have nq2 := nqs nq_good_L_ (Fr.of_or q57) aL_.lt
   replace aL_ := aL_.step o56 (fun e => nq_good_L_ _ e rfl)
   replace nq_good_L_ := nq2
   clear nq2
   have nq2 := nqs nq_good_b47 (Fr.of_or q57) a50.lt
   replace a50 := a50.step o56 (fun e => nq_good_b47 _ e rfl)
   replace nq_good_b47 := nq2
   clear nq2
   have lt2 := a21.lts
   replace a21 := a21.step o56 (fun x hx e => nqq_dies_good x hx e)
   replace nqq_dies_good := nqq_step nqq_dies_good (Fr.of_or q57) lt2
   clear lt2
   have tq := oW.size
   replace oW := oW.tailr o56 q_oW_good (fun _ e => by cases e)
   replace q_oW_good := qtr (Fr.of_or q57) q_oW_good tq
   clear tq
   have tq := o22.size
   replace o22 := o22.tailr o56 q_o22_good (fun _ e => by cases e)
   replace q_o22_good := qtr (Fr.of_or q57) q_o22_good tq
   clear tq
   have tq := o46.size
   replace o46 := o46.tailr o56 q_o46_good (fun k e => (.inl e))
   replace q_o46_good := qtr (Fr.of_or q57) q_o46_good tq
   clear tq
   have tq := oR_.size
   replace oR_ := oR_.tailr o56 q_oR__good (q_T qq_good (fun k e => (.inl e)) nqD0_good nqL0_good hD_ hL_)
   replace q_oR__good := qtr (Fr.of_or q57) q_oR__good tq
   clear tq
   refine wO (d_store s_ti29 rfl rfl (Ow.one a55) a34 (nb rfl) rfl) ?_
   rintro _ w58 ⟨a59, o60⟩
   replace hb := hb.stepb o60 (in2 (in2 (in2 (in2 (in2 (inq in1))))))
   replace hF := hF.stepb o60 (in2 (in2 (in2 (in2 (in2 (inq in1))))))
   replace hM := hM.stepb o60 (in2 (in2 (in2 (in2 (in2 (inq in1))))))
   replace a13 := a13.step o60 (fun e => absurd e n_gg_cg)
   replace a17 := a17.step o60 (fun e => absurd e n_cb_cg)
   replace a30 := a30.step o60 (fun e => absurd e n_cd_cg)
   replace a44 := a44.step o60 (fun e => absurd e (Ne.symm n_cg_b40))
   replace a43 := a43.step o60 (fun e => absurd e (Ne.symm n_cg_b39))
   replace aD_ := aD_.step o60 (fun e => absurd e (Ne.symm n_cg_D_))
   replace aL_ := aL_.step o60 (fun e => absurd e (Ne.symm n_cg_L_))
   replace a50 := a50.step o60 (fun e => absurd e (Ne.symm n_cg_b47))
   replace a21 := a21.step o60 (fun x hx e => nq_dies_cg x hx e)
   replace a55 := a55.step o60 (fun x hx e => nq_good_cg x hx e)
   replace oW := oW.tailb o60 g_oW_cg
   replace o22 := o22.tailb o60 g_o22_cg
   replace o46 := o46.tail o60 (fun k _ e => by have : k = cg := e; rw [this]; exact (inq in1))
   replace oR_ := oR_.tail o60 (fun k _ e => by have : k = cg := e; rw [this]; exact (Or.inl (inq in1)))
   refine wF ([(Value.agg #[(eN D), (eN B), (eN Q)]), ub, (ptr gg 0), (ptr cb 0), (Value.slice none 0 0), u_dies, (eN (nMin bad B d)), (ptr cd 0), (ptr cg 0), (eN k), undef, undef, undef, undef, (Value.agg #[(eN D), (eN B), (eN Q)]), (Value.bool true), (Value.bool false), (ptr gg 1), (eN B), (ptr gg 0), (eN D), (eN d), (Value.bool (decide (d < D))), (eN d), (ptr gg 1), (eN B), (Value.func (.func 48) #[] #[(ptr cb 0), (ptr cd 0)]), (Value.func (.func 54) #[] #[(ptr b39 0), (ptr b40 0)]), (eN k), u_good, (eN k), (sli b47 0 1 1), u52] ++ (zs z 33 9 ++ (us 37))) ?_
   refine wpL.done ?_
   refine inb_n ?_
   refine ⟨oR_, bo54, u52, ?_, ?_, ?_, ?_, ?_, ?_, ?_, ?_, ?_, ?_, ?_, ?_⟩
   ·
    exact o46
   ·
    exact a13
   ·
    exact a17
   ·
    exact a30
   ·
    exact a59
   ·
    exact a44
   ·
    exact a43
   ·
    exact a21
   ·
    exact a55
   ·
    exact q_o46_good
   ·
    exact nq_good_D_
   ·
    exact nq_good_L_
  ·
   intro w1_ hI_ aD_
   obtain ⟨bo_good, u_good, o46, a13, a17, a30, a34, a44, a43, a21, a36, qq_good, nq_good_D_, nq_good_L_⟩ := hI_
   replace hb := Ps.re (X' := (Or1 D_ (Or1 b40 (Or1 b39 (Orq bo_good (Or1 cg (Or1 cd (Orq bo_dies (Or1 cb (Or1 gg No)))))))))) hb o46 (or1_skip (or1_skip (orq_mono (or1_mono (or1_skip (orq_mono (or1_skip (or1_mono no_any)))))))) (xx_new (Nat.le_of_eq hD_) (xx_or1 (xx_or1 (xx_re qq_good (xx_or1 (xx_or1 (xx_orq (xx_or1 (xx_or1 xx_id)))))))))
   replace hF := Ps.re (X' := (Or1 D_ (Or1 b40 (Or1 b39 (Orq bo_good (Or1 cg (Or1 cd (Orq bo_dies (Or1 cb (Or1 gg (Old W.heap.size))))))))))) hF o46 (or1_skip (or1_skip (orq_mono (or1_mono (or1_skip (orq_mono (or1_skip (or1_mono no_any)))))))) (xx_new (Nat.le_of_eq hD_) (xx_or1 (xx_or1 (xx_re qq_good (xx_or1 (xx_or1 (xx_orq (xx_or1 (xx_or1 xx_id)))))))))
   replace hM := Ps.re (X' := (Or1 D_ (Or1 b40 (Or1 b39 (Orq bo_good (Or1 cg (Or1 cd (Orq bo_dies (Or1 cb (Or1 gg (Old W.heap.size))))))))))) hM o46 (or1_skip (or1_skip (orq_mono (or1_mono (or1_skip (orq_mono (or1_skip (or1_mono no_any)))))))) (xx_new (Nat.le_of_eq hD_) (xx_or1 (xx_or1 (xx_re qq_good (xx_or1 (xx_or1 (xx_orq (xx_or1 (xx_or1 xx_id)))))))))
   replace oW := oW.tail o46 (tl_q q_oW_good (fun _ e => by cases e) (tl_new g_oW_cg (tl_q q_oW_dies (fun _ e => by cases e) (tl_new g_oW_gg tl_no))))
   replace q_oW_good := qtr qq_good q_oW_good tq_oW
   replace o22 := o22.tail o46 (tl_q q_o22_good (fun _ e => by cases e) (tl_new g_o22_cg (tl_q q_o22_dies (fun k e => (.inl e)) (tl_in (inq (in2 in1)) tl_no))))
   replace q_o22_good := qtr qq_good q_o22_good tq_o22
   replace nq_good_gg := nqs nq_good_gg qq_good h_lt_gg
   replace nq_good_cb := nqs nq_good_cb qq_good h_lt_cb
   replace nq_good_cd := nqs nq_good_cd qq_good h_lt_cd
   replace nq_good_cg := nqs nq_good_cg qq_good h_lt_cg
   replace nq_good_b40 := nqs nq_good_b40 qq_good h_lt_b40
   replace nq_good_b39 := nqs nq_good_b39 qq_good h_lt_b39
   replace nqq_dies_good := nqq_step nqq_dies_good qq_good h_lts_dies
   have q_o46_dies : Fr bo_dies bo_dies w37.heap.size := Fr.same
   have q_o46_good : Fr bo_good none w37.heap.size := qq_good
   have n_gg_D_ : gg ≠ D_ := by omega
   have n_cb_D_ : cb ≠ D_ := by omega
   have n_cd_D_ : cd ≠ D_ := by omega
   have n_cg_D_ : cg ≠ D_ := by omega
   have n_b40_D_ : b40 ≠ D_ := by omega
   have n_b39_D_ : b39 ≠ D_ := by omega
   have nq_dies_D_ : ∀ x, bo_dies = some x → ¬ x = D_ := fun x hx e => by have := h_lts_dies x hx; omega
   have g_oW_D_ : W.heap.size ≤ D_ := by omega
   have g_o22_D_ : w19.heap.size ≤ D_ := by omega
   have g_o46_D_ : w37.heap.size ≤ D_ := by omega
   refine inb_n (then_n ?_)
   have f61 : Ps (Or1 D_ (Or1 b40 (Or1 b39 (Or1 cg (Or1 cd (Orq bo_dies (Or1 cb (Or1 gg (Old W.heap.size))))))))) (Seq kN (goodL bad d B) u_good) w1_ := Ow.seq a36 (fun b_ hb_ => (not_or1 (nq_good_D_ b_ hb_) (not_or1 (nq_good_b40 b_ hb_) (not_or1 (nq_good_b39 b_ hb_) (not_or1 (nq_good_cg b_ hb_) (not_or1 (nq_good_cd b_ hb_) (not_orq (fun x_ hx_ e_ => nqq_dies_good x_ hx_ (e_ ▸ hb_)) (not_or1 (nq_good_cb b_ hb_) (not_or1 (nq_good_gg b_ hb_) (old_q q_oW_good b_ hb_))))))))))
   replace hb := Ps.less (Y := (Or1 D_ (Or1 b40 (Or1 b39 (Or1 cg (Or1 cd (Orq bo_dies (Or1 cb (Or1 gg No))))))))) hb (xx_or1 (xx_or1 (xx_or1 (xx_skip (xx_or1 (xx_or1 (xx_orq (xx_or1 (xx_or1 xx_id)))))))))
   replace hF := Ps.less (Y := (Or1 D_ (Or1 b40 (Or1 b39 (Or1 cg (Or1 cd (Orq bo_dies (Or1 cb (Or1 gg (Old W.heap.size)))))))))) hF (xx_or1 (xx_or1 (xx_or1 (xx_skip (xx_or1 (xx_or1 (xx_orq (xx_or1 (xx_or1 xx_id)))))))))
   replace hM := Ps.less (Y := (Or1 D_ (Or1 b40 (Or1 b39 (Or1 cg (Or1 cd (Orq bo_dies (Or1 cb (Or1 gg (Old W.heap.size)))))))))) hM (xx_or1 (xx_or1 (xx_or1 (xx_skip (xx_or1 (xx_or1 (xx_orq (xx_or1 (xx_or1 xx_id)))))))))
   have gl_ := good_len bad d B
   refine drawnG (O := (Or1 cg (Orq bo_dies (Or1 gg No)))) (n := 10) 0 [0, 0, 2, 7, 0, 0, 32, 112, 15, 511] [(0, 33), (1, 34), (2, 35), (3, 36), (4, 37), (5, 38), (6, 39), (7, 40), (8, 5), (9, 6)] [] [] [] (fun i_ => ([] : List (RF (Or1 cg (Orq bo_dies (Or1 gg No))))).getD i_ (RF.any (Or1 cg (Orq bo_dies (Or1 gg No))))) (fun _ w_ => Arr 25 gg [(eN D), (eN B), (eN Q)] w_ ∧ Arr 42 cb [ub] w_ ∧ Arr 3 cd [(eN d)] w_ ∧ Arr 29 cg [u_good] w_ ∧ Arr 69 b40 [(Value.func (.func 48) #[] #[(ptr cb 0), (ptr cd 0)])] w_ ∧ Arr 3 b39 [(eN B)] w_ ∧ Defd D_ w_ ∧ Ow 29 1 bo_dies u_dies (vs).length ((vs).map eV) w_) (fun v62 => ([(Value.agg #[(eN D), (eN B), (eN Q)]), ub, (ptr gg 0), (ptr cb 0), (Value.slice none 0 0), (v62 8), (v62 9), (ptr cd 0), (ptr cg 0), (z 9), undef, undef, undef, undef, (Value.agg #[(eN D), (eN B), (eN Q)]), (Value.bool true), (Value.bool false), (ptr gg 1), (eN B), (ptr gg 0), (eN D), (eN d), (Value.bool (decide (d < D))), (eN d), (ptr gg 1), (eN B), (Value.func (.func 48) #[] #[(ptr cb 0), (ptr cd 0)]), (Value.func (.func 54) #[] #[(ptr b39 0), (ptr b40 0)])] ++ (zs z 28 5 ++ [(v62 0), (v62 1), (v62 2), (v62 3), (v62 4), (v62 5), (v62 6), (v62 7), (z 41)] ++ (us 37)))) (fun v62 => ([(Value.agg #[(eN D), (eN B), (eN Q)]), ub, (ptr gg 0), (ptr cb 0), (Value.slice none 0 0), u_dies, (eN (nMin bad B d)), (ptr cd 0), (ptr cg 0), (z 9), undef, undef, undef, undef, (Value.agg #[(eN D), (eN B), (eN Q)]), (Value.bool true), (Value.bool false), (ptr gg 1), (eN B), (ptr gg 0), (eN D), (eN d), (Value.bool (decide (d < D))), (eN d), (ptr gg 1), (eN B), (Value.func (.func 48) #[] #[(ptr cb 0), (ptr cd 0)]), (Value.func (.func 54) #[] #[(ptr b39 0), (ptr b40 0)])] ++ (zs z 28 14 ++ (us 37)))) s_mx (by kernel_rfl) rfl (by decide) (by rfl) (by kernel_rfl) (by kernel_rfl) (by kernel_rfl) (by rfl) (fun v_ => by kernel_rfl) (fun v_ => by kernel_rfl) (fun _ => fun w_ w2_ h ho => by obtain ⟨r_a13, r_a17, r_a30, r_a34, r_a44, r_a43, r_aD_, r_a21⟩ := h; exact ⟨r_a13.step0 ho, r_a17.step0 ho, r_a30.step0 ho, r_a34.step0 ho, r_a44.step0 ho, r_a43.step0 ho, r_aD_.step0 ho, r_a21.step0 ho⟩) ⟨a13, a17, a30, a34, a44, a43, aD_, a21⟩ ?_ ?_ ?_
   ·
    exact ls_nil
   ·
    exact ms_nil
   intro v62 lo_ hi_ w63 o64 hd hR
   clear hd lo_ hi_
   replace hb := hb.step o64 (or1_skip (or1_skip (or1_skip (or1_mono (or1_skip (orq_mono (or1_skip (or1_mono no_any))))))))
   replace hF := hF.step o64 (or1_skip (or1_skip (or1_skip (or1_mono (or1_skip (orq_mono (or1_skip (or1_mono no_any))))))))
   replace hM := hM.step o64 (or1_skip (or1_skip (or1_skip (or1_mono (or1_skip (orq_mono (or1_skip (or1_mono no_any))))))))
   replace f61 := f61.step o64 (or1_skip (or1_skip (or1_skip (or1_mono (or1_skip (orq_mono (or1_skip (or1_mono no_any))))))))
   obtain ⟨xr_a13, xr_a17, xr_a30, xr_a34, xr_a44, xr_a43, xr_aD_, xr_a21⟩ := hR
   replace a13 : Arr 25 gg [(eN D), (eN B), (eN Q)] w63 := xr_a13
   replace a17 : Arr 42 cb [ub] w63 := xr_a17
   replace a30 : Arr 3 cd [(eN d)] w63 := xr_a30
   replace a34 : Arr 29 cg [u_good] w63 := xr_a34
   replace a44 : Arr 69 b40 [(Value.func (.func 48) #[] #[(ptr cb 0), (ptr cd 0)])] w63 := xr_a44
   replace a43 : Arr 3 b39 [(eN B)] w63 := xr_a43
   replace aD_ : Defd D_ w63 := xr_aD_
   replace a21 : Ow 29 1 bo_dies u_dies (vs).length ((vs).map eV) w63 := xr_a21
   clear xr_a13 xr_a17 xr_a30 xr_a34 xr_a44 xr_a43 xr_aD_ xr_a21
   replace oW := oW.tail o64 (tl_new g_oW_cg (tl_q q_oW_dies (fun _ e => by cases e) (tl_new g_oW_gg tl_no)))
   replace o22 := o22.tail o64 (tl_new g_o22_cg (tl_q q_o22_dies (fun k e => (.inl e)) (tl_in (inq (in2 in1)) tl_no)))
   replace o46 := o46.tail o64 (tl_in (inq in1) (tl_q q_o46_dies (fun k e => (.inr (.inr (.inl e)))) (tl_in (inq (in2 (inq in1))) tl_no)))
   refine rest_seg (n := 10) (p := 0) (q := 10) [0, 1, 4, 5, 6, 7] [2, 3, 8, 9] [(0, 33), (1, 34), (4, 37), (5, 38), (6, 39), (7, 40)] [(0, 33), (1, 34), (2, 35), (3, 36), (4, 37), (5, 38), (6, 39), (7, 40), (8, 5), (9, 6)] [0, 0, 2, 7, 0, 0, 32, 112, 15, 511] (fun i_ => nth [u_dies, u_good, undef, undef, (eN (nMin bad B d)), u_good, (eN ((goodL bad d B).length)), (eN (min (nMin bad B d) ((goodL bad d B).length)))] i_) ([(Value.agg #[(eN D), (eN B), (eN Q)]), ub, (ptr gg 0), (ptr cb 0), (Value.slice none 0 0), u_dies, (eN (nMin bad B d)), (ptr cd 0), (ptr cg 0), (z 9), undef, undef, undef, undef, (Value.agg #[(eN D), (eN B), (eN Q)]), (Value.bool true), (Value.bool false), (ptr gg 1), (eN B), (ptr gg 0), (eN D), (eN d), (Value.bool (decide (d < D))), (eN d), (ptr gg 1), (eN B), (Value.func (.func 48) #[] #[(ptr cb 0), (ptr cd 0)]), (Value.func (.func 54) #[] #[(ptr b39 0), (ptr b40 0)])] ++ (zs z 28 5 ++ [u_dies, u_good, (z 35), (z 36), (eN (nMin bad B d)), u_good, (eN ((goodL bad d B).length)), (eN (min (nMin bad B d) ((goodL bad d B).length))), (z 41)] ++ (us 37))) (fun w_ => Ps (Or1 D_ (Or1 b40 (Or1 b39 (Or1 cg (Or1 cd (Or1 cb (Or1 gg No))))))) (Seq (kA 2 eQ) bad ub) w_ ∧ Ps (Or1 D_ (Or1 b40 (Or1 b39 (Or1 cg (Or1 cd (Or1 cb (Or1 gg (Old W.heap.size)))))))) (Seq kN (goodL bad d B) u_good) w_ ∧ Arr 25 gg [(eN D), (eN B), (eN Q)] w_ ∧ Arr 42 cb [ub] w_ ∧ Arr 3 cd [(eN d)] w_ ∧ Arr 29 cg [u_good] w_ ∧ Arr 69 b40 [(Value.func (.func 48) #[] #[(ptr cb 0), (ptr cd 0)])] w_ ∧ Arr 3 b39 [(eN B)] w_ ∧ True) (by kernel_rfl) rfl (by decide) (by kernel_rfl) (by kernel_rfl) (by rfl) (by kernel_rfl) (by kernel_rfl) (by kernel_rfl) (by kernel_rfl) (by kernel_rfl) (by decide) ?_ ?_
   ·
    rintro w_ ⟨hb, f61, a13, a17, a30, a34, a44, a43, _⟩
    refine fl_cons ⟨_, rfl, gd rfl (d_move rfl)⟩ ?_
    refine fl_cons ⟨_, rfl, gd rfl (d_load (v := u_good) ⟨_, Try.underlying29, rfl⟩ rfl a34 rfl)⟩ ?_
    refine fl_cons ⟨_, rfl, gd rfl (d_move rfl)⟩ ?_
    refine fl_cons ⟨_, rfl, gd rfl (d_load (v := u_good) ⟨_, Try.underlying29, rfl⟩ rfl a34 rfl)⟩ ?_
    refine fl_cons ⟨_, rfl, gd rfl (d_lenS rfl Try.underlying29 rfl f61)⟩ ?_
    refine fl_cons ⟨_, rfl, gd rfl (n_min rfl rfl)⟩ ?_
    exact fl_nil
   refine wJ.op ⟨hb.less (xx_or1 (xx_or1 (xx_or1 (xx_or1 (xx_or1 (xx_skip (xx_or1 (xx_or1 xx_id)))))))), f61.less (xx_or1 (xx_or1 (xx_or1 (xx_or1 (xx_or1 (xx_skip (xx_or1 (xx_or1 xx_id)))))))), a13, a17, a30, a34, a44, a43, trivial⟩ rfl rfl (d_buildL (cs := [u_good]) Try.underlying47 s_ti29 rfl (nb rfl) (parts_cons (vs := [u_good]) (cells_of (v := u_good) rfl (Seq.cells f61)) parts_nil) rfl) ?_
   rintro _ w66 ⟨b65, rfl, g67, a68, o69⟩
   replace a68 : Arr 29 b65 (([u_good] : List Value).map eV) w66 := a68
   have l_b65 : ([u_good] : List Value).length = 1 := rfl
   have n_gg_b65 : gg ≠ b65 := a13.ne g67
   have n_cb_b65 : cb ≠ b65 := a17.ne g67
   have n_cd_b65 : cd ≠ b65 := a30.ne g67
   have n_cg_b65 : cg ≠ b65 := a34.ne g67
   have n_b40_b65 : b40 ≠ b65 := a44.ne g67
   have n_b39_b65 : b39 ≠ b65 := a43.ne g67
   have n_D__b65 : D_ ≠ b65 := aD_.ne g67
   have nq_dies_b65 : ∀ x, bo_dies = some x → ¬ x = b65 := fun x hx e => by have := a21.lts x hx; omega
   have g_oW_b65 : W.heap.size ≤ b65 := Nat.le_trans oW.size g67
   have g_o22_b65 : w19.heap.size ≤ b65 := Nat.le_trans o22.size g67
   have g_o46_b65 : w37.heap.size ≤ b65 := Nat.le_trans o46.size g67
   replace hb := hb.new o69 g67
   replace hF := hF.new o69 g67
   replace hM := hM.new o69 g67
   replace f61 := f61.new o69 g67
   replace a13 := a13.step0 o69
   replace a17 := a17.step0 o69
   replace a30 := a30.step0 o69
   replace a34 := a34.step0 o69
   replace a44 := a44.step0 o69
   replace a43 := a43.step0 o69
   replace aD_ := aD_.step0 o69
   replace a21 := a21.step0 o69
   replace oW := oW.tail0 o69
   replace o22 := o22.tail0 o69
   replace o46 := o46.tail0 o69
   refine wJ.flat ([(Value.agg #[(eN D), (eN B), (eN Q)]), ub, (ptr gg 0), (ptr cb 0), (Value.slice none 0 0), u_dies, (eN (nMin bad B d)), (ptr cd 0), (ptr cg 0), (z 9), undef, undef, undef, undef, (Value.agg #[(eN D), (eN B), (eN Q)]), (Value.bool true), (Value.bool false), (ptr gg 1), (eN B), (ptr gg 0), (eN D), (eN d), (Value.bool (decide (d < D))), (eN d), (ptr gg 1), (eN B), (Value.func (.func 48) #[] #[(ptr cb 0), (ptr cd 0)]), (Value.func (.func 54) #[] #[(ptr b39 0), (ptr b40 0)])] ++ (zs z 28 5 ++ [u_dies, u_good, (sli b65 0 1 1), (z 36), (eN (nMin bad B d)), u_good, (eN ((goodL bad d B).length)), (eN (min (nMin bad B d) ((goodL bad d B).length))), (z 41)] ++ (us 37))) (by kernel_rfl) ?_
   refine wJ.op ⟨hb.less (xx_skip (xx_or1 (xx_or1 (xx_or1 (xx_or1 (xx_or1 (xx_skip (xx_or1 (xx_or1 xx_id))))))))), f61.less (xx_skip (xx_or1 (xx_or1 (xx_or1 (xx_or1 (xx_or1 (xx_skip (xx_or1 (xx_or1 xx_id))))))))), a13, a17, a30, a34, a44, a43, trivial⟩ rfl rfl (d_append Try.underlying47 Try.underlying47 s_ti29 rfl rfl rfl a21 (SrcV.of_arr (n := 1) (sz := 1) a68 rfl (fun v_ hv_ => by rw [List.mem_singleton.1 (show v_ ∈ [u_good] from hv_)]; exact (Seq.one f61))) (by first | omega | (simp; omega)) (by first | omega | (simp; omega)) rfl) ?_
   rintro u70 w71 ⟨bo72, a73, o74, q75⟩
   replace a73 : Ow 29 1 bo72 u70 (vs ++ ([u_good] : List Value)).length ((vs ++ ([u_good] : List Value)).map eV) w71 := by rw [List.length_append, List.map_append]; exact a73
   replace hb := hb.gr o74 (fun k e => (.inr (.inr (.inr (.inr (.inr (.inr (.inl e)))))))) (xx_or1 (xx_or1 (xx_or1 (xx_or1 (xx_or1 (xx_or1 (xx_re (Fr.of_or q75) (xx_or1 (xx_or1 xx_id)))))))))
   replace hF := hF.gr o74 (fun k e => (.inr (.inr (.inr (.inr (.inr (.inr (.inl e)))))))) (xx_or1 (xx_or1 (xx_or1 (xx_or1 (xx_or1 (xx_or1 (xx_re (Fr.of_or q75) (xx_or1 (xx_or1 xx_id)))))))))
   replace hM := hM.gr o74 (fun k e => (.inr (.inr (.inr (.inr (.inr (.inr (.inl e)))))))) (xx_or1 (xx_or1 (xx_or1 (xx_or1 (xx_or1 (xx_or1 (xx_re (Fr.of_or q75) (xx_or1 (xx_or1 xx_id)))))))))
   replace f61 := f61.gr o74 (fun k e => (.inr (.inr (.inr (.inr (.inr (.inr (.inl e)))))))) (xx_or1 (xx_or1 (xx_or1 (xx_or1 (xx_or1 (xx_or1 (xx_re (Fr.of_or q75) (xx_or1 (xx_or1 xx_id)))))))))
   have nq2 := nqs nq_dies_gg (Fr.of_or q75) a13.lt
   replace a13 := a13.step o74 (fun e => nq_dies_gg _ e rfl)
   replace nq_dies_gg := nq2
   clear nq2
   have nq2 := nqs nq_dies_cb (Fr.of_or q75) a17.lt
   replace a17 := a17.step o74 (fun e => nq_dies_cb _ e rfl)
   replace nq_dies_cb := nq2
   clear nq2
   have nq2 := nqs nq_dies_cd (Fr.of_or q75) a30.lt
   replace a30 := a30.step o74 (fun e => nq_dies_cd _ e rfl)
   replace nq_dies_cd := nq2
   clear nq2
   have nq2 := nqs nq_dies_cg (Fr.of_or q75) a34.lt
   replace a34 := a34.step o74 (fun e => nq_dies_cg _ e rfl)
   replace nq_dies_cg := nq2
   clear nq2
   have nq2 := nqs nq_dies_b40 (Fr.of_or q75) a44.lt
   replace a44 := a44.step o74 (fun e => nq_dies_b40 _ e rfl)
   replace nq_dies_b40 := nq2
   clear nq2
   have nq2 := nqs nq_dies_b39 (Fr.of_or q75) a43.lt
   replace a43 := a43.step o74 (fun e => nq_dies_b39 _ e rfl)
   replace nq_dies_b39 := nq2
   clear nq2
   have nq2 := nqs nq_dies_D_ (Fr.of_or q75) aD_.lt
   replace aD_ := aD_.step o74 (fun e => nq_dies_D_ _ e rfl)
   replace nq_dies_D_ := nq2
   clear nq2
   have nq2 := nqs nq_dies_b65 (Fr.of_or q75) a68.lt
   replace a68 := a68.step o74 (fun e => nq_dies_b65 _ e rfl)
   replace nq_dies_b65 := nq2
   clear nq2
   have tq := oW.size
   replace oW := oW.tailr o74 q_oW_dies (fun _ e => by cases e)
   replace q_oW_dies := qtr (Fr.of_or q75) q_oW_dies tq
   clear tq
   have tq := o22.size
   replace o22 := o22.tailr o74 q_o22_dies (fun k e => (.inl e))
   replace q_o22_dies := qtr (Fr.of_or q75) q_o22_dies tq
   clear tq
   have tq := o46.size
   replace o46 := o46.tailr o74 q_o46_dies (fun k e => (.inr (.inr (.inl e))))
   replace q_o46_dies := qtr (Fr.of_or q75) q_o46_dies tq
   clear tq
   refine wJ.flat ([(Value.agg #[(eN D), (eN B), (eN Q)]), ub, (ptr gg 0), (ptr cb 0), (Value.slice none 0 0), u_dies, (eN (nMin bad B d)), (ptr cd 0), (ptr cg 0), (z 9), undef, undef, undef, undef, (Value.agg #[(eN D), (eN B), (eN Q)]), (Value.bool true), (Value.bool false), (ptr gg 1), (eN B), (ptr gg 0), (eN D), (eN d), (Value.bool (decide (d < D))), (eN d), (ptr gg 1), (eN B), (Value.func (.func 48) #[] #[(ptr cb 0), (ptr cd 0)]), (Value.func (.func 54) #[] #[(ptr b39 0), (ptr b40 0)])] ++ (zs z 28 5 ++ [u_dies, u_good, (sli b65 0 1 1), u70, (eN (nMin bad B d)), u_good, (eN ((goodL bad d B).length)), (eN (min (nMin bad B d) ((goodL bad d B).length))), (z 41)] ++ (us 37))) (by kernel_rfl) ?_
   refine wJ.is ⟨hb.less (xx_skip (xx_or1 (xx_or1 (xx_or1 (xx_or1 (xx_or1 (xx_skip (xx_or1 (xx_or1 xx_id))))))))), f61.less (xx_skip (xx_or1 (xx_or1 (xx_or1 (xx_or1 (xx_or1 (xx_skip (xx_or1 (xx_or1 xx_id))))))))), a13, a17, a30, a34, a44, a43, trivial⟩ rfl rfl (d_assign rfl) ?_
   refine wJ.flat ([(Value.agg #[(eN D), (eN B), (eN Q)]), ub, (ptr gg 0), (ptr cb 0), (Value.slice none 0 0), u70, (eN (nMin bad B d)), (ptr cd 0), (ptr cg 0), (z 9), undef, undef, undef, undef, (Value.agg #[(eN D), (eN B), (eN Q)]), (Value.bool true), (Value.bool false), (ptr gg 1), (eN B), (ptr gg 0), (eN D), (eN d), (Value.bool (decide (d < D))), (eN d), (ptr gg 1), (eN B), (Value.func (.func 48) #[] #[(ptr cb 0), (ptr cd 0)]), (Value.func (.func 54) #[] #[(ptr b39 0), (ptr b40 0)])] ++ (zs z 28 5 ++ [u_dies, u_good, (sli b65 0 1 1), u70, (eN (nMin bad B d)), u_good, (eN ((goodL bad d B).length)), (eN (min (nMin bad B d) ((goodL bad d B).length))), (z 41)] ++ (us 37))) (by kernel_rfl) ?_
   refine wJ.is ⟨hb.less (xx_skip (xx_or1 (xx_or1 (xx_or1 (xx_or1 (xx_or1 (xx_skip (xx_or1 (xx_or1 xx_id))))))))), f61.less (xx_skip (xx_or1 (xx_or1 (xx_or1 (xx_or1 (xx_or1 (xx_skip (xx_or1 (xx_or1 xx_id))))))))), a13, a17, a30, a34, a44, a43, trivial⟩ rfl rfl (d_assign rfl) ?_
   refine wJ.flat ([(Value.agg #[(eN D), (eN B), (eN Q)]), ub, (ptr gg 0), (ptr cb 0), (Value.slice none 0 0), u70, (eN (min (nMin bad B d) ((goodL bad d B).length))), (ptr cd 0), (ptr cg 0), (z 9), undef, undef, undef, undef, (Value.agg #[(eN D), (eN B), (eN Q)]), (Value.bool true), (Value.bool false), (ptr gg 1), (eN B), (ptr gg 0), (eN D), (eN d), (Value.bool (decide (d < D))), (eN d), (ptr gg 1), (eN B), (Value.func (.func 48) #[] #[(ptr cb 0), (ptr cd 0)]), (Value.func (.func 54) #[] #[(ptr b39 0), (ptr b40 0)])] ++ (zs z 28 5 ++ [u_dies, u_good, (sli b65 0 1 1), u70, (eN (nMin bad B d)), u_good, (eN ((goodL bad d B).length)), (eN (min (nMin bad B d) ((goodL bad d B).length))), (z 41)] ++ (us 37))) (by kernel_rfl) ?_
   refine wJ.done ⟨hb.less (xx_skip (xx_or1 (xx_or1 (xx_or1 (xx_or1 (xx_or1 (xx_skip (xx_or1 (xx_or1 xx_id))))))))), f61.less (xx_skip (xx_or1 (xx_or1 (xx_or1 (xx_or1 (xx_or1 (xx_skip (xx_or1 (xx_or1 xx_id))))))))), a13, a17, a30, a34, a44, a43, trivial⟩ ?_
   refine rest_done rfl ?_
   refine inb_n (then_n ?_)
   refine plain ?_
   refine wI (n_add (a := d) (b := 1) rfl rfl (by omega)) ?_
   refine wI (d_move rfl) ?_
   refine wF ([(Value.agg #[(eN D), (eN B), (eN Q)]), ub, (ptr gg 0), (ptr cb 0), (Value.slice none 0 0), u70, (eN (min (nMin bad B d) ((goodL bad d B).length))), (ptr cd 0), (ptr cg 0), (z 9), undef, undef, undef, undef, (Value.agg #[(eN D), (eN B), (eN Q)]), (Value.bool true), (Value.bool false), (ptr gg 1), (eN B), (ptr gg 0), (eN D), (eN (d + 1)), (Value.bool (decide (d < D))), (eN d), (ptr gg 1), (eN B), (Value.func (.func 48) #[] #[(ptr cb 0), (ptr cd 0)]), (Value.func (.func 54) #[] #[(ptr b39 0), (ptr b40 0)])] ++ (zs z 28 5 ++ [u_dies, u_good, (sli b65 0 1 1), u70, (eN (nMin bad B d)), u_good, (eN ((goodL bad d B).length)), (eN (min (nMin bad B d) ((goodL bad d B).length))), (eN (d + 1))] ++ (us 37))) ?_
   refine wpL.done ?_
   refine then_n ?_
   have hMc_ : Ps (Or1 b65 (Or1 b40 (Or1 b39 (Or1 cg (Or1 cd (Orq bo72 (Or1 cb (Or1 gg (Old W.heap.size))))))))) (MarksOk (D_ :: rs)) w71 := marks_cons (hM.less (xx_or1 (xx_skip (xx_or1 (xx_or1 (xx_or1 (xx_or1 (xx_orq (xx_or1 (xx_or1 xx_id)))))))))) aD_ mne_ (nx_or1 (Ne.symm n_D__b65) (nx_or1 n_b40_D_ (nx_or1 n_b39_D_ (nx_or1 n_cg_D_ (nx_or1 n_cd_D_ (nx_orq nq_dies_D_ (nx_or1 n_cb_D_ (nx_or1 n_gg_D_ (old_ne g_oW_D_)))))))))
   refine ⟨([(Value.agg #[(eN D), (eN B), (eN Q)]), ub, (ptr gg 0), (ptr cb 0), (Value.slice none 0 0), u70, (eN (nMin bad B (d + 1))), (ptr cd 0), (ptr cg 0), (z 9), undef, undef, undef, undef, (Value.agg #[(eN D), (eN B), (eN Q)]), (Value.bool true), (Value.bool false), (ptr gg 1), (eN B), (ptr gg 0), (eN D), (eN (d + 1)), (Value.bool (decide (d < D))), (eN d), (ptr gg 1), (eN B), (Value.func (.func 48) #[] #[(ptr cb 0), (ptr cd 0)]), (Value.func (.func 54) #[] #[(ptr b39 0), (ptr b40 0)])] ++ (zs z 28 5 ++ [u_dies, u_good, (sli b65 0 1 1), u70, (eN (nMin bad B d)), u_good, (eN ((goodL bad d B).length)), (eN (min (nMin bad B d) ((goodL bad d B).length))), (eN (d + 1))] ++ (us 37))), ⟨d + 1, vs ++ [u_good], D_ :: rs, bo72, u70⟩, (congrArg (fun l_ => fr l_ (marks (D_ :: rs))) (show (([(Value.agg #[(eN D), (eN B), (eN Q)]), ub, (ptr gg 0), (ptr cb 0), (Value.slice none 0 0), u70, (eN (min (nMin bad B d) ((goodL bad d B).length))), (ptr cd 0), (ptr cg 0), (z 9), undef, undef, undef, undef, (Value.agg #[(eN D), (eN B), (eN Q)]), (Value.bool true), (Value.bool false), (ptr gg 1), (eN B), (ptr gg 0), (eN D), (eN (d + 1)), (Value.bool (decide (d < D))), (eN d), (ptr gg 1), (eN B), (Value.func (.func 48) #[] #[(ptr cb 0), (ptr cd 0)]), (Value.func (.func 54) #[] #[(ptr b39 0), (ptr b40 0)])] ++ (zs z 28 5 ++ [u_dies, u_good, (sli b65 0 1 1), u70, (eN (nMin bad B d)), u_good, (eN ((goodL bad d B).length)), (eN (min (nMin bad B d) ((goodL bad d B).length))), (eN (d + 1))] ++ (us 37))) : List Value) = ([(Value.agg #[(eN D), (eN B), (eN Q)]), ub, (ptr gg 0), (ptr cb 0), (Value.slice none 0 0), u70, (eN (nMin bad B (d + 1))), (ptr cd 0), (ptr cg 0), (z 9), undef, undef, undef, undef, (Value.agg #[(eN D), (eN B), (eN Q)]), (Value.bool true), (Value.bool false), (ptr gg 1), (eN B), (ptr gg 0), (eN D), (eN (d + 1)), (Value.bool (decide (d < D))), (eN d), (ptr gg 1), (eN B), (Value.func (.func 48) #[] #[(ptr cb 0), (ptr cd 0)]), (Value.func (.func 54) #[] #[(ptr b39 0), (ptr b40 0)])] ++ (zs z 28 5 ++ [u_dies, u_good, (sli b65 0 1 1), u70, (eN (nMin bad B d)), u_good, (eN ((goodL bad d B).length)), (eN (min (nMin bad B d) ((goodL bad d B).length))), (eN (d + 1))] ++ (us 37))) from reslot ([(Value.agg #[(eN D), (eN B), (eN Q)]), ub, (ptr gg 0), (ptr cb 0), (Value.slice none 0 0), u70, (eN (min (nMin bad B d) ((goodL bad d B).length))), (ptr cd 0), (ptr cg 0), (z 9), undef, undef, undef, undef, (Value.agg #[(eN D), (eN B), (eN Q)]), (Value.bool true), (Value.bool false), (ptr gg 1), (eN B), (ptr gg 0), (eN D), (eN (d + 1)), (Value.bool (decide (d < D))), (eN d), (ptr gg 1), (eN B), (Value.func (.func 48) #[] #[(ptr cb 0), (ptr cd 0)]), (Value.func (.func 54) #[] #[(ptr b39 0), (ptr b40 0)])] ++ (zs z 28 5 ++ [u_dies, u_good, (sli b65 0 1 1), u70, (eN (nMin bad B d)), u_good, (eN ((goodL bad d B).length)), (eN (min (nMin bad B d) ((goodL bad d B).length))), (eN (d + 1))] ++ (us 37))) 6 (show eN (min (nMin bad B d) (goodL bad d B).length) = eN (nMin bad B (d + 1)) from rfl))), rfl, ⟨?_, ?_, ?_, ?_, ?_, ?_, ?_, ?_, ?_, ?_⟩, ?_⟩
   ·
    (try dsimp only)
    all_goals (omega)
   ·
    (try dsimp only)
    all_goals (rw [List.length_append, hv, List.length_singleton])
   ·
    exact fam_snoc (hF.less (xx_skip (xx_skip (xx_skip (xx_skip (xx_skip (xx_skip (xx_orq (xx_or1 (xx_or1 xx_id)))))))))) (f61.less (xx_skip (xx_skip (xx_skip (xx_skip (xx_skip (xx_skip (xx_orq (xx_or1 (xx_or1 xx_id)))))))))) rfl hv
   ·
    exact hMc_.less (xx_skip (xx_skip (xx_skip (xx_skip (xx_skip (xx_orq (xx_or1 (xx_or1 xx_id))))))))
   ·
    exact marks_new hrs g_oW_D_
   ·
    exact o22
   ·
    exact a13
   ·
    exact a17
   ·
    exact a73
   ·
    exact q_o22_dies
   ·
    (try dsimp only)
    all_goals (omega)
  ·
   intro _ _ _ _ h _; exact h.elim
 refine wpIn_exit ?_
 refine then_x (then_x (inb_e ?_))
 refine then_n ?_
 refine wpIn_seq ?_
 have hdD : d = D := by omega
 rw [hdD] at hF hv
 refine wp_eq (l' := ([(Value.agg #[(eN D), (eN B), (eN Q)]), ub, (ptr gg 0), (ptr cb 0), (Value.slice none 0 0), u_dies, (eN (nMin bad B D)), (z 7), (z 8), (z 9), undef, undef, undef, undef, (Value.agg #[(eN D), (eN B), (eN Q)]), (Value.bool true), (Value.bool false), (ptr gg 1), (eN B), (ptr gg 0), (eN D), (eN d), (Value.bool (decide (d < D)))] ++ (zs z 23 19 ++ (us 37)))) (show (([(Value.agg #[(eN D), (eN B), (eN Q)]), ub, (ptr gg 0), (ptr cb 0), (Value.slice none 0 0), u_dies, (eN (nMin bad B d)), (z 7), (z 8), (z 9), undef, undef, undef, undef, (Value.agg #[(eN D), (eN B), (eN Q)]), (Value.bool true), (Value.bool false), (ptr gg 1), (eN B), (ptr gg 0), (eN D), (eN d), (Value.bool (decide (d < D)))] ++ (zs z 23 19 ++ (us 37))) : List Value) = ([(Value.agg #[(eN D), (eN B), (eN Q)]), ub, (ptr gg 0), (ptr cb 0), (Value.slice none 0 0), u_dies, (eN (nMin bad B D)), (z 7), (z 8), (z 9), undef, undef, undef, undef, (Value.agg #[(eN D), (eN B), (eN Q)]), (Value.bool true), (Value.bool false), (ptr gg 1), (eN B), (ptr gg 0), (eN D), (eN d), (Value.bool (decide (d < D)))] ++ (zs z 23 19 ++ (us 37))) from reslot ([(Value.agg #[(eN D), (eN B), (eN Q)]), ub, (ptr gg 0), (ptr cb 0), (Value.slice none 0 0), u_dies, (eN (nMin bad B d)), (z 7), (z 8), (z 9), undef, undef, undef, undef, (Value.agg #[(eN D), (eN B), (eN Q)]), (Value.bool true), (Value.bool false), (ptr gg 1), (eN B), (ptr gg 0), (eN D), (eN d), (Value.bool (decide (d < D)))] ++ (zs z 23 19 ++ (us 37))) 6 (congrArg (fun x_ => eN (nMin bad B x_)) hdD)) ?_
 have nm_ := nMin_le bad B D
 have f76 : Ps (Or1 cb (Or1 gg (Old W.heap.size))) (Seq (kS eV) vs u_dies) w23 := Ow.seq a21 (fun b_ hb_ => (not_or1 (nq_dies_cb b_ hb_) (not_or1 (nq_dies_gg b_ hb_) (old_q q_oW_dies b_ hb_))))
 replace hb := Ps.less (Y := (Or1 cb (Or1 gg No))) hb (xx_skip (xx_or1 (xx_or1 xx_id)))
 replace hF := Ps.less (Y := (Or1 cb (Or1 gg (Old W.heap.size)))) hF (xx_skip (xx_or1 (xx_or1 xx_id)))
 replace hM := Ps.less (Y := (Or1 cb (Or1 gg (Old W.heap.size)))) hM (xx_skip (xx_or1 (xx_or1 xx_id)))
 refine plain ?_
 refine wI (d_move rfl) ?_
 refine wO (d_make1 (n := (nMin bad B D)) Try.underlying47 s_ti29 rfl rfl (by omega) (by omega) rfl) ?_
 rintro _ w77 ⟨o, rfl, g78, a79, o80⟩
 have n_gg_o : gg ≠ o := a13.ne g78
 have n_cb_o : cb ≠ o := a17.ne g78
 have g_oW_o : W.heap.size ≤ o := Nat.le_trans oW.size g78
 have g_o22_o : w19.heap.size ≤ o := Nat.le_trans o22.size g78
 replace hb := hb.new o80 g78
 replace hF := hF.new o80 g78
 replace hM := hM.new o80 g78
 replace f76 := f76.new o80 g78
 replace a13 := a13.step0 o80
 replace a17 := a17.step0 o80
 replace oW := oW.tail0 o80
 replace o22 := o22.tail0 o80
 refine wI (d_assign rfl) ?_
 refine wF ([(Value.agg #[(eN D), (eN B), (eN Q)]), ub, (ptr gg 0), (ptr cb 0), (Value.slice none 0 0), u_dies, (eN (nMin bad B D)), (z 7), (z 8), (z 9), (sli o 0 (nMin bad B D) (nMin bad B D)), undef, undef, undef, (Value.agg #[(eN D), (eN B), (eN Q)]), (Value.bool true), (Value.bool false), (ptr gg 1), (eN B), (ptr gg 0), (eN D), (eN d), (Value.bool (decide (d < D)))] ++ (zs z 23 19 ++ [(eN (nMin bad B D)), (sli o 0 (nMin bad B D) (nMin bad B D))] ++ (us 35))) ?_
 refine wpL.done ?_
 refine then_n ?_
 refine wpIn_seq ?_
 refine wpIn_seq ?_
 refine plain ?_
 refine wI (d_move rfl) ?_
 refine wI (d_len rfl Try.underlying47 rfl) ?_
 refine wI (d_move rfl) ?_
 refine wF ([(Value.agg #[(eN D), (eN B), (eN Q)]), ub, (ptr gg 0), (ptr cb 0), (Value.slice none 0 0), u_dies, (eN (nMin bad B D)), (z 7), (z 8), (z 9), (sli o 0 (nMin bad B D) (nMin bad B D)), undef, undef, undef, (Value.agg #[(eN D), (eN B), (eN Q)]), (Value.bool true), (Value.bool false), (ptr gg 1), (eN B), (ptr gg 0), (eN D), (eN d), (Value.bool (decide (d < D)))] ++ (zs z 23 19 ++ [(eN (nMin bad B D)), (sli o 0 (nMin bad B D) (nMin bad B D)), (sli o 0 (nMin bad B D) (nMin bad B D)), (eN (nMin bad B D)), (eN 0)] ++ (us 32))) ?_
 refine wpL.done ?_
 refine then_n ?_
 refine wpIn_block ?_
 replace a79 : Arr 29 o ((List.replicate (nMin bad B D) (Value.slice none 0 0)).map eV) w77 := by rw [map_eV]; exact a79
 have l_o : (List.replicate (nMin bad B D) (Value.slice none 0 0)).length = (nMin bad B D) := List.length_replicate
 refine loop2 (fun (s_ : (Nat) × (List Value)) => match s_ with | ⟨i, ws⟩ => fun (z : Nat → Value) => (([(Value.agg #[(eN D), (eN B), (eN Q)]), ub, (ptr gg 0), (ptr cb 0), (Value.slice none 0 0), u_dies, (eN (nMin bad B D)), (z 7), (z 8), (z 9), (sli o 0 (nMin bad B D) (nMin bad B D)), (z 11), undef, (z 13), (Value.agg #[(eN D), (eN B), (eN Q)]), (Value.bool true), (Value.bool false), (ptr gg 1), (eN B), (ptr gg 0), (eN D), (eN d), (Value.bool (decide (d < D)))] ++ (zs z 23 19 ++ [(eN (nMin bad B D)), (sli o 0 (nMin bad B D) (nMin bad B D)), (sli o 0 (nMin bad B D) (nMin bad B D)), (eN (nMin bad B D)), (eN i)] ++ (zs z 47 31 ++ [undef]))) : List Value)) (fun (s_ : (Nat) × (List Value)) => match s_ with | ⟨i, ws⟩ => fun (w_ : World) => (i ≤ (nMin bad B D)) ∧ (ws.length = (nMin bad B D)) ∧ (∀ k, i ≤ k → k < (nMin bad B D) → ws.getD k undef = .slice none 0 0) ∧ (Ps (Or1 o (Or1 cb (Or1 gg (Old W.heap.size)))) (Fam kN i (fun k => supR bad B D k) ws) w_) ∧ Only (Or1 o (Or1 cb (Or1 gg No))) w77 w_ ∧ Arr 25 gg [(eN D), (eN B), (eN Q)] w_ ∧ Arr 42 cb [ub] w_ ∧ ws.length = (nMin bad B D) ∧ Arr 29 o (ws.map eV) w_) (fun (s_ : (Nat) × (List Value)) => match s_ with | ⟨i, ws⟩ => (nMin bad B D) - i) ⟨0, (List.replicate (nMin bad B D) (Value.slice none 0 0))⟩ rfl ?_ ?_
 ·
  refine ⟨?_, ?_, ?_, ?_, ?_, ?_, ?_, ?_, ?_⟩
  ·
   exact Nat.zero_le _
  ·
   exact List.length_replicate
  ·
   (try dsimp only)
   all_goals (exact fun k _ h => by rw [List.getD_eq_getElem?_getD, List.getElem?_replicate, if_pos h]; rfl)
  ·
   exact fam_zero
  ·
   exact Only.refl _ _
  ·
   exact a13
  ·
   exact a17
  ·
   exact l_o
  ·
   exact a79
 rintro ⟨i, ws⟩ z w82 ⟨hi, hw, hN, hG, o81, a13, a17, l_o, a79⟩
 (try dsimp only)
 replace hb := hb.step o81 (or1_mono (or1_mono (or1_mono no_any)))
 replace hF := hF.step o81 (or1_mono (or1_mono (or1_mono no_any)))
 replace hM := hM.step o81 (or1_mono (or1_mono (or1_mono no_any)))
 replace f76 := f76.step o81 (or1_mono (or1_mono (or1_mono no_any)))
 replace oW := oW.tail o81 (tl_new g_oW_o (tl_new g_oW_cb (tl_new g_oW_gg tl_no)))
 replace o22 := o22.tail o81 (tl_new g_o22_o (tl_in (inq in1) (tl_in (inq (in2 in1)) tl_no)))
 refine wpIn_seq ?_
 refine plain ?_
 refine wI (n_lss (a := i) (b := (nMin bad B D)) rfl rfl rfl) ?_
 refine wF ([(Value.agg #[(eN D), (eN B), (eN Q)]), ub, (ptr gg 0), (ptr cb 0), (Value.slice none 0 0), u_dies, (eN (nMin bad B D)), (z 7), (z 8), (z 9), (sli o 0 (nMin bad B D) (nMin bad B D)), (z 11), undef, (z 13), (Value.agg #[(eN D), (eN B), (eN Q)]), (Value.bool true), (Value.bool false), (ptr gg 1), (eN B), (ptr gg 0), (eN D), (eN d), (Value.bool (decide (d < D)))] ++ (zs z 23 19 ++ [(eN (nMin bad B D)), (sli o 0 (nMin bad B D) (nMin bad B D)), (sli o 0 (nMin bad B D) (nMin bad B D)), (eN (nMin bad B D)), (eN i), (Value.bool (decide (i < (nMin bad B D))))] ++ (zs z 48 30 ++ [undef]))) ?_
 refine wpL.done ?_
 refine then_n ?_
 refine wpIn_seq ?_
 refine cond_if rfl (fun c83 => ?_) (fun c83 => ?_)
 ·
  refine wpIn_skip ?_
  refine then_n ?_
  refine wpIn_seq ?_
  refine wpIn_block ?_
  refine wpIn_seq ?_
  refine plain ?_
  refine wI (d_move rfl) ?_
  refine wI (d_assign rfl) ?_
  refine wF ([(Value.agg #[(eN D), (eN B), (eN Q)]), ub, (ptr gg 0), (ptr cb 0), (Value.slice none 0 0), u_dies, (eN (nMin bad B D)), (z 7), (z 8), (z 9), (sli o 0 (nMin bad B D) (nMin bad B D)), (eN i), undef, (z 13), (Value.agg #[(eN D), (eN B), (eN Q)]), (Value.bool true), (Value.bool false), (ptr gg 1), (eN B), (ptr gg 0), (eN D), (eN d), (Value.bool (decide (d < D)))] ++ (zs z 23 19 ++ [(eN (nMin bad B D)), (sli o 0 (nMin bad B D) (nMin bad B D)), (sli o 0 (nMin bad B D) (nMin bad B D)), (eN (nMin bad B D)), (eN i), (Value.bool (decide (i < (nMin bad B D)))), (eN i)] ++ (zs z 49 29 ++ [undef]))) ?_
  refine wpL.done ?_
  refine then_n ?_
  refine wpIn_seq ?_
  refine wpIn_seq ?_
  have a84 : Ow 3 1 none (Value.slice none 0 0) ([] : List (Nat)).length (([] : List (Nat)).map eN) w82 := Ow.nil _ _ _
  have nq_cur_gg : ∀ x, (none : Option Nat) = some x → ¬ x = gg := fun x e => by cases e
  have nq_cur_cb : ∀ x, (none : Option Nat) = some x → ¬ x = cb := fun x e => by cases e
  have nq_cur_o : ∀ x, (none : Option Nat) = some x → ¬ x = o := fun x e => by cases e
  have q_oW_cur : Fr none none W.heap.size := Fr.none
  have q_o22_cur : Fr none none w19.heap.size := Fr.none
  have q_o81_cur : Fr none none w77.heap.size := Fr.none
  replace hb := hb.qnone
  replace hF := hF.qnone
  replace hM := hM.qnone
  replace f76 := f76.qnone
  replace hG := hG.qnone
  refine plain ?_
  refine wI (d_move rfl) ?_
  refine wI (d_lenS rfl Try.underlying47 rfl f76) ?_
  refine wI (d_move rfl) ?_
  refine wF ([(Value.agg #[(eN D), (eN B), (eN Q)]), ub, (ptr gg 0), (ptr cb 0), (Value.slice none 0 0), u_dies, (eN (nMin bad B D)), (z 7), (z 8), (z 9), (sli o 0 (nMin bad B D) (nMin bad B D)), (eN i), undef, (z 13), (Value.agg #[(eN D), (eN B), (eN Q)]), (Value.bool true), (Value.bool false), (ptr gg 1), (eN B), (ptr gg 0), (eN D), (eN d), (Value.bool (decide (d < D)))] ++ (zs z 23 19 ++ [(eN (nMin bad B D)), (sli o 0 (nMin bad B D) (nMin bad B D)), (sli o 0 (nMin bad B D) (nMin bad B D)), (eN (nMin bad B D)), (eN i), (Value.bool (decide (i < (nMin bad B D)))), (eN i), u_dies, (eN vs.length), (eN 0)] ++ (zs z 52 26 ++ [undef]))) ?_
  refine wpL.done ?_
  refine then_n ?_
  refine wpIn_block ?_
  have h_lt_gg := a13.lt
  have h_lt_cb := a17.lt
  have h_lt_o := a79.lt
  have h_lts_cur := a84.lts
  refine loop2 (fun (s_ : (Nat) × (Option Nat) × (Value)) => match s_ with | ⟨d2, bo_cur, u_cur⟩ => fun (z : Nat → Value) => (([(Value.agg #[(eN D), (eN B), (eN Q)]), ub, (ptr gg 0), (ptr cb 0), (Value.slice none 0 0), u_dies, (eN (nMin bad B D)), (z 7), (z 8), (z 9), (sli o 0 (nMin bad B D) (nMin bad B D)), (eN i), undef, (z 13), (Value.agg #[(eN D), (eN B), (eN Q)]), (Value.bool true), (Value.bool false), (ptr gg 1), (eN B), (ptr gg 0), (eN D), (eN d), (Value.bool (decide (d < D)))] ++ (zs z 23 19 ++ [(eN (nMin bad B D)), (sli o 0 (nMin bad B D) (nMin bad B D)), (sli o 0 (nMin bad B D) (nMin bad B D)), (eN (nMin bad B D)), (eN i), (Value.bool (decide (i < (nMin bad B D)))), (eN i), u_dies, (eN vs.length), (eN d2)] ++ (zs z 52 26 ++ [undef]))) : List Value)) (fun (s_ : (Nat) × (Option Nat) × (Value)) => match s_ with | ⟨d2, bo_cur, u_cur⟩ => fun (w_ : World) => (d2 ≤ D) ∧ Only (Orq none (Or1 o (Or1 cb (Or1 gg No)))) w82 w_ ∧ Arr 25 gg [(eN D), (eN B), (eN Q)] w_ ∧ Arr 42 cb [ub] w_ ∧ (ws.set i u_cur).length = (nMin bad B D) ∧ Arr 29 o ((ws.set i u_cur).map eV) w_ ∧ Ow 3 1 bo_cur u_cur (supTo bad B i d2).length ((supTo bad B i d2).map eN) w_ ∧ Fr bo_cur none w82.heap.size) (fun (s_ : (Nat) × (Option Nat) × (Value)) => match s_ with | ⟨d2, bo_cur, u_cur⟩ => D - d2) ⟨0, none, (Value.slice none 0 0)⟩ rfl ?_ ?_
  ·
   refine ⟨?_, ?_, ?_, ?_, ?_, ?_, ?_, ?_⟩
   ·
    exact Nat.zero_le _
   ·
    exact Only.refl _ _
   ·
    exact a13
   ·
    exact a17
   ·
    (try dsimp only)
    all_goals (rw [List.length_set]; exact hw)
   ·
    (try dsimp only)
    all_goals (rw [set_same (by omega) (hN i (Nat.le_refl _) (by omega))]; exact a79)
   ·
    exact a84
   ·
    exact Fr.same
  rintro ⟨d2, bo_cur, u_cur⟩ z w86 ⟨hd2, o85, a13, a17, l_o, a79, a84, qq_cur⟩
  (try dsimp only)
  replace hb := hb.re o85 (orq_mono (or1_mono (or1_mono (or1_mono no_any)))) (xx_re qq_cur (xx_or1 (xx_or1 (xx_or1 xx_id))))
  replace hF := hF.re o85 (orq_mono (or1_mono (or1_mono (or1_mono no_any)))) (xx_re qq_cur (xx_or1 (xx_or1 (xx_or1 xx_id))))
  replace hM := hM.re o85 (orq_mono (or1_mono (or1_mono (or1_mono no_any)))) (xx_re qq_cur (xx_or1 (xx_or1 (xx_or1 xx_id))))
  replace f76 := f76.re o85 (orq_mono (or1_mono (or1_mono (or1_mono no_any)))) (xx_re qq_cur (xx_or1 (xx_or1 (xx_or1 xx_id))))
  replace hG := hG.re o85 (orq_mono (or1_mono (or1_mono (or1_mono no_any)))) (xx_re qq_cur (xx_or1 (xx_or1 (xx_or1 xx_id))))
  have tq_oW := oW.size
  replace oW := oW.tail o85 (tl_q q_oW_cur (fun _ e => by cases e) (tl_new g_oW_o (tl_new g_oW_cb (tl_new g_oW_gg tl_no))))
  replace q_oW_cur := qtr qq_cur q_oW_cur tq_oW
  have tq_o22 := o22.size
  replace o22 := o22.tail o85 (tl_q q_o22_cur (fun _ e => by cases e) (tl_new g_o22_o (tl_in (inq in1) (tl_in (inq (in2 in1)) tl_no))))
  replace q_o22_cur := qtr qq_cur q_o22_cur tq_o22
  have tq_o81 := o81.size
  replace o81 := o81.tail o85 (tl_q q_o81_cur (fun _ e => by cases e) (tl_in in1 (tl_in (in2 in1) (tl_in (in2 (in2 in1)) tl_no))))
  replace q_o81_cur := qtr qq_cur q_o81_cur tq_o81
  replace nq_cur_gg := nqs nq_cur_gg qq_cur h_lt_gg
  replace nq_cur_cb := nqs nq_cur_cb qq_cur h_lt_cb
  replace nq_cur_o := nqs nq_cur_o qq_cur h_lt_o
  have q_o85_cur := qq_cur
  refine wpIn_seq ?_
  refine plain ?_
  refine wI (n_lss (a := d2) (b := vs.length) rfl rfl rfl) ?_
  refine wF ([(Value.agg #[(eN D), (eN B), (eN Q)]), ub, (ptr gg 0), (ptr cb 0), (Value.slice none 0 0), u_dies, (eN (nMin bad B D)), (z 7), (z 8), (z 9), (sli o 0 (nMin bad B D) (nMin bad B D)), (eN i), undef, (z 13), (Value.agg #[(eN D), (eN B), (eN Q)]), (Value.bool true), (Value.bool false), (ptr gg 1), (eN B), (ptr gg 0), (eN D), (eN d), (Value.bool (decide (d < D)))] ++ (zs z 23 19 ++ [(eN (nMin bad B D)), (sli o 0 (nMin bad B D) (nMin bad B D)), (sli o 0 (nMin bad B D) (nMin bad B D)), (eN (nMin bad B D)), (eN i), (Value.bool (decide (i < (nMin bad B D)))), (eN i), u_dies, (eN vs.length), (eN d2), (Value.bool (decide (d2 < vs.length)))] ++ (zs z 53 25 ++ [undef]))) ?_
  refine wpL.done ?_
  refine then_n ?_
  refine wpIn_seq ?_
  refine cond_if rfl (fun c87 => ?_) (fun c87 => ?_)
  ·
   refine wpIn_skip ?_
   refine then_n ?_
   refine wpIn_seq ?_
   refine wpIn_block ?_
   refine wpIn_seq ?_
   have hrw_ := fam_at hF (show d2 < D by omega)
   have gi_ : i < (goodL bad d2 B).length := Nat.lt_of_lt_of_le (show i < nMin bad B D by omega) (nMin_good bad B (by omega))
   refine plain ?_
   refine wI (d_ix (i := d2) (xs := vs) Try.underlying47 s_ti29 rfl f76 (show _ = Value.int _ ((d2 : Nat) : Int) from rfl) (by first | omega | (simp; done) | (simp; omega))) ?_
   refine wI (d_ldx (i := d2) (xs := vs) (enc := eV) (v := (vs.getD d2 undef)) ⟨_, Try.underlying29, rfl⟩ rfl f76 (g_at (by first | omega | (simp; done) | (simp; omega)))) ?_
   refine wI (d_assign rfl) ?_
   refine wF ([(Value.agg #[(eN D), (eN B), (eN Q)]), ub, (ptr gg 0), (ptr cb 0), (Value.slice none 0 0), u_dies, (eN (nMin bad B D)), (z 7), (z 8), (z 9), (sli o 0 (nMin bad B D) (nMin bad B D)), (eN i), undef, (vs.getD d2 undef), (Value.agg #[(eN D), (eN B), (eN Q)]), (Value.bool true), (Value.bool false), (ptr gg 1), (eN B), (ptr gg 0), (eN D), (eN d), (Value.bool (decide (d < D)))] ++ (zs z 23 19 ++ [(eN (nMin bad B D)), (sli o 0 (nMin bad B D) (nMin bad B D)), (sli o 0 (nMin bad B D) (nMin bad B D)), (eN (nMin bad B D)), (eN i), (Value.bool (decide (i < (nMin bad B D)))), (eN i), u_dies, (eN vs.length), (eN d2), (Value.bool (decide (d2 < vs.length))), (ixp u_dies d2), (vs.getD d2 undef)] ++ (zs z 55 23 ++ [undef]))) ?_
   refine wpL.done ?_
   refine then_n ?_
   refine drawnF (O := (Orq bo_cur (Or1 o (Or1 cb (Or1 gg No))))) (n := 14) [0, 1] [11, 12, 13] (fun i_ => nth [(sli o 0 (nMin bad B D) (nMin bad B D)), (eN i)] i_) 11 [0, 0, 0, 0, 12, 28, 0, 0, 192, 448, 960, 2044, 4095, 8191] [(0, 55), (1, 56), (2, 57), (3, 58), (4, 59), (5, 60), (6, 61), (7, 62), (8, 63), (9, 64), (10, 65), (11, 66), (12, 67)] [(0, 55), (1, 56), (2, 57), (3, 58), (4, 59), (5, 60), (6, 61), (7, 62), (8, 63), (9, 64), (10, 65)] [0, 1, 2, 3, 4, 5, 6, 7, 8, 9, 10] [] (fun i_ => ([RF.is (Orq bo_cur (Or1 o (Or1 cb (Or1 gg No)))) (sli o 0 (nMin bad B D) (nMin bad B D)), RF.is (Orq bo_cur (Or1 o (Or1 cb (Or1 gg No)))) (eN i), RF.is (Orq bo_cur (Or1 o (Or1 cb (Or1 gg No)))) (sli o 0 (nMin bad B D) (nMin bad B D)), RF.is (Orq bo_cur (Or1 o (Or1 cb (Or1 gg No)))) (eN i), RF.is (Orq bo_cur (Or1 o (Or1 cb (Or1 gg No)))) (ptr o i), RF.is (Orq bo_cur (Or1 o (Or1 cb (Or1 gg No)))) u_cur, RF.is (Orq bo_cur (Or1 o (Or1 cb (Or1 gg No)))) (vs.getD d2 undef), RF.is (Orq bo_cur (Or1 o (Or1 cb (Or1 gg No)))) (eN i), RF.is (Orq bo_cur (Or1 o (Or1 cb (Or1 gg No)))) (ixp (vs.getD d2 undef) i), RF.is (Orq bo_cur (Or1 o (Or1 cb (Or1 gg No)))) (eN ((goodL bad d2 B).getD i 0)), RF.ps (Orq bo_cur (Or1 o (Or1 cb (Or1 gg No)))) (Orq bo_cur (Or1 o (Or1 cb (Or1 gg (Old W.heap.size))))) (Seq kN [((goodL bad d2 B).getD i 0)]) (orq_mono (or1_mono (or1_mono (or1_mono no_any))))] : List (RF (Orq bo_cur (Or1 o (Or1 cb (Or1 gg No)))))).getD i_ (RF.any (Orq bo_cur (Or1 o (Or1 cb (Or1 gg No)))))) (fun _ w_ => Arr 25 gg [(eN D), (eN B), (eN Q)] w_ ∧ Arr 42 cb [ub] w_ ∧ Arr 29 o ((ws.set i u_cur).map eV) w_ ∧ Ow 3 1 bo_cur u_cur (supTo bad B i d2).length ((supTo bad B i d2).map eN) w_) (fun v88 => ([(Value.agg #[(eN D), (eN B), (eN Q)]), ub, (ptr gg 0), (ptr cb 0), (Value.slice none 0 0), u_dies, (eN (nMin bad B D)), (z 7), (z 8), (z 9), (sli o 0 (nMin bad B D) (nMin bad B D)), (eN i), undef, (vs.getD d2 undef), (Value.agg #[(eN D), (eN B), (eN Q)]), (Value.bool true), (Value.bool false), (ptr gg 1), (eN B), (ptr gg 0), (eN D), (eN d), (Value.bool (decide (d < D)))] ++ (zs z 23 19 ++ [(eN (nMin bad B D)), (sli o 0 (nMin bad B D) (nMin bad B D)), (sli o 0 (nMin bad B D) (nMin bad B D)), (eN (nMin bad B D)), (eN i), (Value.bool (decide (i < (nMin bad B D)))), (eN i), u_dies, (eN vs.length), (eN d2), (Value.bool (decide (d2 < vs.length))), (ixp u_dies d2), (vs.getD d2 undef), (v88 0), (v88 1), (v88 2), (v88 3), (v88 4), (v88 5), (v88 6), (v88 7), (v88 8), (v88 9), (v88 10), (v88 11), (v88 12)] ++ (zs z 68 10 ++ [undef])))) (fun v88 => ([(Value.agg #[(eN D), (eN B), (eN Q)]), ub, (ptr gg 0), (ptr cb 0), (Value.slice none 0 0), u_dies, (eN (nMin bad B D)), (z 7), (z 8), (z 9), (sli o 0 (nMin bad B D) (nMin bad B D)), (eN i), undef, (vs.getD d2 undef), (Value.agg #[(eN D), (eN B), (eN Q)]), (Value.bool true), (Value.bool false), (ptr gg 1), (eN B), (ptr gg 0), (eN D), (eN d), (Value.bool (decide (d < D)))] ++ (zs z 23 19 ++ [(eN (nMin bad B D)), (sli o 0 (nMin bad B D) (nMin bad B D)), (sli o 0 (nMin bad B D) (nMin bad B D)), (eN (nMin bad B D)), (eN i), (Value.bool (decide (i < (nMin bad B D)))), (eN i), u_dies, (eN vs.length), (eN d2), (Value.bool (decide (d2 < vs.length))), (ixp u_dies d2), (vs.getD d2 undef), (v88 0), (v88 1), (v88 2), (v88 3), (v88 4), (v88 5), (v88 6), (v88 7), (v88 8), (v88 9), (v88 10)] ++ (zs z 66 12 ++ [undef])))) s_mx (by kernel_rfl) rfl (by decide) (by rfl) (by kernel_rfl) (by kernel_rfl) (by kernel_rfl) (by kernel_rfl) (fun l2_ w_ hl_ hn_ => fl_cons (fl_move (t := 10) hn_ (by kernel_rfl) (by rfl) (by rfl)) (fl_cons (fl_move (t := 11) hn_ (by kernel_rfl) (by rfl) (by rfl)) (fl_nil))) (fl_cons (by rfl) (fl_cons (by rfl) (fl_nil))) (by kernel_rfl) (by kernel_rfl) (by rfl) (fun v_ => by kernel_rfl) (fun v_ => by kernel_rfl) (fun _ => fun w_ w2_ h ho => by obtain ⟨r_a13, r_a17, r_a79, r_a84⟩ := h; exact ⟨r_a13.step0 ho, r_a17.step0 ho, r_a79.step0 ho, r_a84.step0 ho⟩) ⟨a13, a17, a79, a84⟩ ?_ ?_ ?_
   ·
    refine ls_cons ?_ ?_
    ·
     intro v88 lo hi w_ k_ hO hd _ _ hk_ _ hR hold
     obtain ⟨r_a13, r_a17, r_a79, r_a84⟩ := hR
     clear hd hold
     refine ⟨_, rfl, gd rfl ?_⟩
     exact Does.is (d_move rfl)
    refine ls_cons ?_ ?_
    ·
     intro v88 lo hi w_ k_ hO hd _ _ hk_ _ hR hold
     obtain ⟨r_a13, r_a17, r_a79, r_a84⟩ := hR
     clear hd hold
     refine ⟨_, rfl, gd rfl ?_⟩
     exact Does.is (d_move rfl)
    refine ls_cons ?_ ?_
    ·
     intro v88 lo hi w_ k_ hO hd _ _ hk_ _ hR hold
     obtain ⟨r_a13, r_a17, r_a79, r_a84⟩ := hR
     clear hd hold
     refine ⟨_, rfl, gd rfl ?_⟩
     exact Does.is (d_move rfl)
    refine ls_cons ?_ ?_
    ·
     intro v88 lo hi w_ k_ hO hd _ _ hk_ _ hR hold
     obtain ⟨r_a13, r_a17, r_a79, r_a84⟩ := hR
     clear hd hold
     refine ⟨_, rfl, gd rfl ?_⟩
     exact Does.is (d_move rfl)
    refine ls_cons ?_ ?_
    ·
     intro v88 lo hi w_ k_ hO hd _ _ hk_ _ hR hold
     obtain ⟨r_a13, r_a17, r_a79, r_a84⟩ := hR
     have e2 : v88 2 = (sli o 0 (nMin bad B D) (nMin bad B D)) := hd 2 (by kernel_rfl)
     have e3 : v88 3 = (eN i) := hd 3 (by kernel_rfl)
     clear hd hold
     refine ⟨_, rfl, gd rfl ?_⟩
     exact Does.is (d_index1 (n := (nMin bad B D)) (i := i) Try.underlying47 s_ti29 e2 (show _ = Value.int _ ((i : Nat) : Int) from e3) (by omega))
    refine ls_cons ?_ ?_
    ·
     intro v88 lo hi w_ k_ hO hd _ _ hk_ _ hR hold
     obtain ⟨r_a13, r_a17, r_a79, r_a84⟩ := hR
     have e4 : v88 4 = (ptr o i) := hd 4 (by kernel_rfl)
     clear hd hold
     refine ⟨_, rfl, gd rfl ?_⟩
     exact Does.is (dv_to (d_load ⟨_, Try.underlying29, rfl⟩ e4 r_a79 (m_at (d := undef) (by rw [l_o]; omega))) (show eV _ = u_cur from set_getD (by omega)))
    refine ls_cons ?_ ?_
    ·
     intro v88 lo hi w_ k_ hO hd _ _ hk_ _ hR hold
     obtain ⟨r_a13, r_a17, r_a79, r_a84⟩ := hR
     clear hd hold
     refine ⟨_, rfl, gd rfl ?_⟩
     exact Does.is (d_move rfl)
    refine ls_cons ?_ ?_
    ·
     intro v88 lo hi w_ k_ hO hd _ _ hk_ _ hR hold
     obtain ⟨r_a13, r_a17, r_a79, r_a84⟩ := hR
     clear hd hold
     refine ⟨_, rfl, gd rfl ?_⟩
     exact Does.is (d_move rfl)
    refine ls_cons ?_ ?_
    ·
     intro v88 lo hi w_ k_ hO hd _ _ hk_ _ hR hold
     obtain ⟨r_a13, r_a17, r_a79, r_a84⟩ := hR
     have e6 : v88 6 = (vs.getD d2 undef) := hd 6 (by kernel_rfl)
     have e7 : v88 7 = (eN i) := hd 7 (by kernel_rfl)
     clear hd hold
     refine ⟨_, rfl, gd rfl ?_⟩
     exact Does.is (d_ix (i := i) (xs := (goodL bad d2 B)) Try.underlying29 s_ti3 e6 (hrw_.step hO (orq_mono (or1_mono (or1_mono (or1_mono no_any))))) (show _ = Value.int _ ((i : Nat) : Int) from e7) gi_)
    refine ls_cons ?_ ?_
    ·
     intro v88 lo hi w_ k_ hO hd _ _ hk_ _ hR hold
     obtain ⟨r_a13, r_a17, r_a79, r_a84⟩ := hR
     have e8 : v88 8 = (ixp (vs.getD d2 undef) i) := hd 8 (by kernel_rfl)
     clear hd hold
     refine ⟨_, rfl, gd rfl ?_⟩
     exact Does.is (d_ldx (i := i) (xs := (goodL bad d2 B)) (enc := eN) (v := ((goodL bad d2 B).getD i 0)) ⟨_, Try.underlying3, rfl⟩ e8 (hrw_.step hO (orq_mono (or1_mono (or1_mono (or1_mono no_any))))) (g_at gi_))
    refine ls_cons ?_ ?_
    ·
     intro v88 lo hi w_ k_ hO hd _ _ hk_ _ hR hold
     obtain ⟨r_a13, r_a17, r_a79, r_a84⟩ := hR
     have e9 : v88 9 = (eN ((goodL bad d2 B).getD i 0)) := hd 9 (by kernel_rfl)
     clear hd hold
     refine ⟨_, rfl, gd rfl ?_⟩
     refine Does.mono (d_buildL (cs := [(eN ((goodL bad d2 B).getD i 0))]) Try.underlying29 s_ti3 rfl (nb rfl) (parts_cons (vs := [(eN ((goodL bad d2 B).getD i 0))]) (cells_of (v := (eN ((goodL bad d2 B).getD i 0))) e9 rfl) parts_nil) rfl) (fun u w' h => ⟨(made_seq (n := 1) (xs := [((goodL bad d2 B).getD i 0)]) (enc := eN) h rfl).1.less (orq_old r_a84.lts (or1_old r_a79.lt (or1_old r_a17.lt (or1_old r_a13.lt (old_old (Nat.le_trans oW.size hO.size)))))), (made_seq (n := 1) (xs := [((goodL bad d2 B).getD i 0)]) (enc := eN) h rfl).2⟩)
    exact ls_nil
   ·
    exact ms_nil
   intro v88 lo_ hi_ w89 o90 hd hR
   have e0 : v88 0 = (sli o 0 (nMin bad B D) (nMin bad B D)) := hd 0 (by decide)
   have e1 : v88 1 = (eN i) := hd 1 (by decide)
   have e2 : v88 2 = (sli o 0 (nMin bad B D) (nMin bad B D)) := hd 2 (by decide)
   have e3 : v88 3 = (eN i) := hd 3 (by decide)
   have e4 : v88 4 = (ptr o i) := hd 4 (by decide)
   have e5 : v88 5 = u_cur := hd 5 (by decide)
   have e6 : v88 6 = (vs.getD d2 undef) := hd 6 (by decide)
   have e7 : v88 7 = (eN i) := hd 7 (by decide)
   have e8 : v88 8 = (ixp (vs.getD d2 undef) i) := hd 8 (by decide)
   have e9 : v88 9 = (eN ((goodL bad d2 B).getD i 0)) := hd 9 (by decide)
   have f_v88_10 : Ps (Orq bo_cur (Or1 o (Or1 cb (Or1 gg (Old W.heap.size))))) (Seq kN [((goodL bad d2 B).getD i 0)] (v88 10)) w89 := hd 10 (by decide)
   clear hd lo_ hi_
   refine wS.flat ([(Value.agg #[(eN D), (eN B), (eN Q)]), ub, (ptr gg 0), (ptr cb 0), (Value.slice none 0 0), u_dies, (eN (nMin bad B D)), (z 7), (z 8), (z 9), (sli o 0 (nMin bad B D) (nMin bad B D)), (eN i), undef, (vs.getD d2 undef), (Value.agg #[(eN D), (eN B), (eN Q)]), (Value.bool true), (Value.bool false), (ptr gg 1), (eN B), (ptr gg 0), (eN D), (eN d), (Value.bool (decide (d < D)))] ++ (zs z 23 19 ++ [(eN (nMin bad B D)), (sli o 0 (nMin bad B D) (nMin bad B D)), (sli o 0 (nMin bad B D) (nMin bad B D)), (eN (nMin bad B D)), (eN i), (Value.bool (decide (i < (nMin bad B D)))), (eN i), u_dies, (eN vs.length), (eN d2), (Value.bool (decide (d2 < vs.length))), (ixp u_dies d2), (vs.getD d2 undef), (sli o 0 (nMin bad B D) (nMin bad B D)), (eN i), (sli o 0 (nMin bad B D) (nMin bad B D)), (eN i), (ptr o i), u_cur, (vs.getD d2 undef), (eN i), (ixp (vs.getD d2 undef) i), (eN ((goodL bad d2 B).getD i 0)), (v88 10)] ++ (zs z 66 12 ++ [undef]))) (by rw [e0, e1, e2, e3, e4, e5, e6, e7, e8, e9] <;> rfl) ?_
   clear e0 e1 e2 e3 e4 e5 e6 e7 e8 e9
   replace hb := hb.step o90 (orq_mono (or1_mono (or1_mono (or1_mono no_any))))
   replace hF := hF.step o90 (orq_mono (or1_mono (or1_mono (or1_mono no_any))))
   replace hM := hM.step o90 (orq_mono (or1_mono (or1_mono (or1_mono no_any))))
   replace f76 := f76.step o90 (orq_mono (or1_mono (or1_mono (or1_mono no_any))))
   replace hG := hG.step o90 (orq_mono (or1_mono (or1_mono (or1_mono no_any))))
   replace hrw_ := hrw_.step o90 (orq_mono (or1_mono (or1_mono (or1_mono no_any))))
   obtain ⟨xr_a13, xr_a17, xr_a79, xr_a84⟩ := hR
   replace a13 : Arr 25 gg [(eN D), (eN B), (eN Q)] w89 := xr_a13
   replace a17 : Arr 42 cb [ub] w89 := xr_a17
   replace a79 : Arr 29 o ((ws.set i u_cur).map eV) w89 := xr_a79
   replace a84 : Ow 3 1 bo_cur u_cur (supTo bad B i d2).length ((supTo bad B i d2).map eN) w89 := xr_a84
   clear xr_a13 xr_a17 xr_a79 xr_a84
   replace oW := oW.tail o90 (tl_q q_oW_cur (fun _ e => by cases e) (tl_new g_oW_o (tl_new g_oW_cb (tl_new g_oW_gg tl_no))))
   replace o22 := o22.tail o90 (tl_q q_o22_cur (fun _ e => by cases e) (tl_new g_o22_o (tl_in (inq in1) (tl_in (inq (in2 in1)) tl_no))))
   replace o81 := o81.tail o90 (tl_q q_o81_cur (fun _ e => by cases e) (tl_in in1 (tl_in (in2 in1) (tl_in (in2 (in2 in1)) tl_no))))
   replace o85 := o85.tail o90 (tl_q q_o85_cur (fun k e => (.inl e)) (tl_in (inq in1) (tl_in (inq (in2 in1)) (tl_in (inq (in2 (in2 in1))) tl_no))))
   refine wS.op rfl rfl (d_append Try.underlying29 Try.underlying29 s_ti3 rfl rfl rfl a84 (SrcV.of_seq f_v88_10 (fun _ => rfl)) (by have := supTo_len bad B i d2; first | omega | (simp; omega)) (by have := supTo_len bad B i d2; first | omega | (simp; omega)) rfl) ?_
   rintro u91 w92 ⟨bo93, a94, o95, q96⟩
   replace a94 : Ow 3 1 bo93 u91 ((supTo bad B i d2) ++ [((goodL bad d2 B).getD i 0)]).length (((supTo bad B i d2) ++ [((goodL bad d2 B).getD i 0)]).map eN) w92 := by rw [List.length_append, List.map_append]; exact a94
   replace hb := hb.gr o95 (fun k e => (.inl e)) (xx_re (Fr.of_or q96) (xx_or1 (xx_or1 (xx_or1 xx_id))))
   replace hF := hF.gr o95 (fun k e => (.inl e)) (xx_re (Fr.of_or q96) (xx_or1 (xx_or1 (xx_or1 xx_id))))
   replace hM := hM.gr o95 (fun k e => (.inl e)) (xx_re (Fr.of_or q96) (xx_or1 (xx_or1 (xx_or1 xx_id))))
   replace f76 := f76.gr o95 (fun k e => (.inl e)) (xx_re (Fr.of_or q96) (xx_or1 (xx_or1 (xx_or1 xx_id))))
   replace hG := hG.gr o95 (fun k e => (.inl e)) (xx_re (Fr.of_or q96) (xx_or1 (xx_or1 (xx_or1 xx_id))))
   replace hrw_ := hrw_.gr o95 (fun k e => (.inl e)) (xx_re (Fr.of_or q96) (xx_or1 (xx_or1 (xx_or1 xx_id))))
   replace f_v88_10 := f_v88_10.gr o95 (fun k e => (.inl e)) (xx_re (Fr.of_or q96) (xx_or1 (xx_or1 (xx_or1 xx_id))))
   have nq2 := nqs nq_cur_gg (Fr.of_or q96) a13.lt
   replace a13 := a13.step o95 (fun e => nq_cur_gg _ e rfl)
   replace nq_cur_gg := nq2
   clear nq2
   have nq2 := nqs nq_cur_cb (Fr.of_or q96) a17.lt
   replace a17 := a17.step o95 (fun e => nq_cur_cb _ e rfl)
   replace nq_cur_cb := nq2
   clear nq2
   have nq2 := nqs nq_cur_o (Fr.of_or q96) a79.lt
   replace a79 := a79.step o95 (fun e => nq_cur_o _ e rfl)
   replace nq_cur_o := nq2
   clear nq2
   have tq := oW.size
   replace oW := oW.tailr o95 q_oW_cur (fun _ e => by cases e)
   replace q_oW_cur := qtr (Fr.of_or q96) q_oW_cur tq
   clear tq
   have tq := o22.size
   replace o22 := o22.tailr o95 q_o22_cur (fun _ e => by cases e)
   replace q_o22_cur := qtr (Fr.of_or q96) q_o22_cur tq
   clear tq
   have tq := o81.size
   replace o81 := o81.tailr o95 q_o81_cur (fun _ e => by cases e)
   replace q_o81_cur := qtr (Fr.of_or q96) q_o81_cur tq
   clear tq
   have tq := o85.size
   replace o85 := o85.tailr o95 q_o85_cur (fun k e => (.inl e))
   replace q_o85_cur := qtr (Fr.of_or q96) q_o85_cur tq
   clear tq
   refine wS.flat ([(Value.agg #[(eN D), (eN B), (eN Q)]), ub, (ptr gg 0), (ptr cb 0), (Value.slice none 0 0), u_dies, (eN (nMin bad B D)), (z 7), (z 8), (z 9), (sli o 0 (nMin bad B D) (nMin bad B D)), (eN i), undef, (vs.getD d2 undef), (Value.agg #[(eN D), (eN B), (eN Q)]), (Value.bool true), (Value.bool false), (ptr gg 1), (eN B), (ptr gg 0), (eN D), (eN d), (Value.bool (decide (d < D)))] ++ (zs z 23 19 ++ [(eN (nMin bad B D)), (sli o 0 (nMin bad B D) (nMin bad B D)), (sli o 0 (nMin bad B D) (nMin bad B D)), (eN (nMin bad B D)), (eN i), (Value.bool (decide (i < (nMin bad B D)))), (eN i), u_dies, (eN vs.length), (eN d2), (Value.bool (decide (d2 < vs.length))), (ixp u_dies d2), (vs.getD d2 undef), (sli o 0 (nMin bad B D) (nMin bad B D)), (eN i), (sli o 0 (nMin bad B D) (nMin bad B D)), (eN i), (ptr o i), u_cur, (vs.getD d2 undef), (eN i), (ixp (vs.getD d2 undef) i), (eN ((goodL bad d2 B).getD i 0)), (v88 10), u91] ++ (zs z 67 11 ++ [undef]))) (by kernel_rfl) ?_
   refine wS.is rfl rfl (d_index1 (n := (nMin bad B D)) (i := i) Try.underlying47 s_ti29 rfl (show _ = Value.int _ ((i : Nat) : Int) from rfl) (by omega)) ?_
   refine wS.op rfl rfl (d_store (b := o) (i := i) (v := u91) s_ti29 rfl rfl (Ow.one a94) a79 (by rw [List.length_map, l_o]; omega) (m_put (ws.set i u_cur) i u91 eV)) ?_
   rintro _ w97 ⟨a98, o99⟩
   replace hb := hb.stepb o99 (inq in1)
   replace hF := hF.stepb o99 (inq in1)
   replace hM := hM.stepb o99 (inq in1)
   replace f76 := f76.stepb o99 (inq in1)
   replace hG := hG.stepb o99 (inq in1)
   replace hrw_ := hrw_.stepb o99 (inq in1)
   replace f_v88_10 := f_v88_10.stepb o99 (inq in1)
   replace a13 := a13.step o99 (fun e => absurd e n_gg_o)
   replace a17 := a17.step o99 (fun e => absurd e n_cb_o)
   replace a94 := a94.step o99 (fun x hx e => nq_cur_o x hx e)
   replace oW := oW.tailb o99 g_oW_o
   replace o22 := o22.tailb o99 g_o22_o
   replace o81 := o81.tail o99 (fun k _ e => by have : k = o := e; rw [this]; exact in1)
   replace o85 := o85.tail o99 (fun k _ e => by have : k = o := e; rw [this]; exact (inq in1))
   replace l_o : ((ws.set i u_cur).set i u91 : List Value).length = (nMin bad B D) := (List.length_set ..).trans l_o
   refine wS.flat ([(Value.agg #[(eN D), (eN B), (eN Q)]), ub, (ptr gg 0), (ptr cb 0), (Value.slice none 0 0), u_dies, (eN (nMin bad B D)), (z 7), (z 8), (z 9), (sli o 0 (nMin bad B D) (nMin bad B D)), (eN i), undef, (vs.getD d2 undef), (Value.agg #[(eN D), (eN B), (eN Q)]), (Value.bool true), (Value.bool false), (ptr gg 1), (eN B), (ptr gg 0), (eN D), (eN d), (Value.bool (decide (d < D)))] ++ (zs z 23 19 ++ [(eN (nMin bad B D)), (sli o 0 (nMin bad B D) (nMin bad B D)), (sli o 0 (nMin bad B D) (nMin bad B D)), (eN (nMin bad B D)), (eN i), (Value.bool (decide (i < (nMin bad B D)))), (eN i), u_dies, (eN vs.length), (eN d2), (Value.bool (decide (d2 < vs.length))), (ixp u_dies d2), (vs.getD d2 undef), (sli o 0 (nMin bad B D) (nMin bad B D)), (eN i), (sli o 0 (nMin bad B D) (nMin bad B D)), (eN i), (ptr o i), u_cur, (vs.getD d2 undef), (eN i), (ixp (vs.getD d2 undef) i), (eN ((goodL bad d2 B).getD i 0)), (v88 10), u91, (ptr o i)] ++ (zs z 68 10 ++ [undef]))) (by kernel_rfl) ?_
   refine wS.done ?_
   refine inb_n (then_n ?_)
   refine plain ?_
   refine wI (n_add (a := d2) (b := 1) rfl rfl (by omega)) ?_
   refine wI (d_move rfl) ?_
   refine wF ([(Value.agg #[(eN D), (eN B), (eN Q)]), ub, (ptr gg 0), (ptr cb 0), (Value.slice none 0 0), u_dies, (eN (nMin bad B D)), (z 7), (z 8), (z 9), (sli o 0 (nMin bad B D) (nMin bad B D)), (eN i), undef, (vs.getD d2 undef), (Value.agg #[(eN D), (eN B), (eN Q)]), (Value.bool true), (Value.bool false), (ptr gg 1), (eN B), (ptr gg 0), (eN D), (eN d), (Value.bool (decide (d < D)))] ++ (zs z 23 19 ++ [(eN (nMin bad B D)), (sli o 0 (nMin bad B D) (nMin bad B D)), (sli o 0 (nMin bad B D) (nMin bad B D)), (eN (nMin bad B D)), (eN i), (Value.bool (decide (i < (nMin bad B D)))), (eN i), u_dies, (eN vs.length), (eN (d2 + 1)), (Value.bool (decide (d2 < vs.length))), (ixp u_dies d2), (vs.getD d2 undef), (sli o 0 (nMin bad B D) (nMin bad B D)), (eN i), (sli o 0 (nMin bad B D) (nMin bad B D)), (eN i), (ptr o i), u_cur, (vs.getD d2 undef), (eN i), (ixp (vs.getD d2 undef) i), (eN ((goodL bad d2 B).getD i 0)), (v88 10), u91, (ptr o i), (eN (d2 + 1))] ++ (zs z 69 9 ++ [undef]))) ?_
   refine wpL.done ?_
   refine then_n ?_
   refine ⟨_, ⟨d2 + 1, bo93, u91⟩, rfl, rfl, ⟨?_, ?_, ?_, ?_, ?_, ?_, ?_, ?_⟩, ?_⟩
   ·
    (try dsimp only)
    all_goals (omega)
   ·
    exact o85
   ·
    exact a13
   ·
    exact a17
   ·
    (try dsimp only)
    all_goals (rw [List.length_set]; exact hw)
   ·
    (try dsimp only)
    all_goals (rw [List.set_set] at a98; exact a98)
   ·
    (try dsimp only)
    all_goals (rw [← supTo_next]; exact a94)
   ·
    exact q_o85_cur
   ·
    (try dsimp only)
    all_goals (omega)
  refine wpIn_exit ?_
  refine then_x (then_x (inb_e ?_))
  refine then_n ?_
  have stl_ := supTo_len bad B i d2
  refine plain ?_
  refine wI (d_move rfl) ?_
  refine wI (d_move rfl) ?_
  refine wI (d_move rfl) ?_
  refine wF ([(Value.agg #[(eN D), (eN B), (eN Q)]), ub, (ptr gg 0), (ptr cb 0), (Value.slice none 0 0), u_dies, (eN (nMin bad B D)), (z 7), (z 8), (z 9), (sli o 0 (nMin bad B D) (nMin bad B D)), (eN i), undef, (z 13), (Value.agg #[(eN D), (eN B), (eN Q)]), (Value.bool true), (Value.bool false), (ptr gg 1), (eN B), (ptr gg 0), (eN D), (eN d), (Value.bool (decide (d < D)))] ++ (zs z 23 19 ++ [(eN (nMin bad B D)), (sli o 0 (nMin bad B D) (nMin bad B D)), (sli o 0 (nMin bad B D) (nMin bad B D)), (eN (nMin bad B D)), (eN i), (Value.bool (decide (i < (nMin bad B D)))), (eN i), u_dies, (eN vs.length), (eN d2), (Value.bool (decide (d2 < vs.length)))] ++ (zs z 53 16 ++ [(sli o 0 (nMin bad B D) (nMin bad B D)), (eN i), (sli o 0 (nMin bad B D) (nMin bad B D))] ++ (zs z 72 6 ++ [undef])))) ?_
  refine wI (d_move rfl) ?_
  refine wI (d_index1 (n := (nMin bad B D)) (i := i) Try.underlying47 s_ti29 rfl (show _ = Value.int _ ((i : Nat) : Int) from rfl) (by omega)) ?_
  refine wI (dv_to (d_load ⟨_, Try.underlying29, rfl⟩ rfl a79 (m_at (d := undef) (by rw [l_o]; omega))) (show eV _ = u_cur from set_getD (by omega))) ?_
  refine wF ([(Value.agg #[(eN D), (eN B), (eN Q)]), ub, (ptr gg 0), (ptr cb 0), (Value.slice none 0 0), u_dies, (eN (nMin bad B D)), (z 7), (z 8), (z 9), (sli o 0 (nMin bad B D) (nMin bad B D)), (eN i), undef, (z 13), (Value.agg #[(eN D), (eN B), (eN Q)]), (Value.bool true), (Value.bool false), (ptr gg 1), (eN B), (ptr gg 0), (eN D), (eN d), (Value.bool (decide (d < D)))] ++ (zs z 23 19 ++ [(eN (nMin bad B D)), (sli o 0 (nMin bad B D) (nMin bad B D)), (sli o 0 (nMin bad B D) (nMin bad B D)), (eN (nMin bad B D)), (eN i), (Value.bool (decide (i < (nMin bad B D)))), (eN i), u_dies, (eN vs.length), (eN d2), (Value.bool (decide (d2 < vs.length)))] ++ (zs z 53 16 ++ [(sli o 0 (nMin bad B D) (nMin bad B D)), (eN i), (sli o 0 (nMin bad B D) (nMin bad B D)), (eN i), (ptr o i), u_cur, (z 75), (z 76), (z 77), undef]))) ?_
  refine wO (d_call (xl := [.tmp 74]) (al := [u_cur]) Try.func50 (by kernel_rfl) rfl rfl rfl (cloneN_ok (supTo bad B i d2) u_cur _ (Ps.no (a84.seq (X := No) (fun _ _ h => h))) (by first | omega | (simp; done) | (simp; omega)))) ?_
  rintro u102 w100 f103
  replace f103 := f103.ps
  obtain ⟨f103, o101⟩ := f103
  replace f103 := f103.less (Y := (Orq bo_cur (Or1 o (Or1 cb (Or1 gg (Old W.heap.size)))))) (orq_old a84.lts (or1_old a79.lt (or1_old a17.lt (or1_old a13.lt (old_old oW.size)))))
  replace hb := hb.step0 o101
  replace hF := hF.step0 o101
  replace hM := hM.step0 o101
  replace f76 := f76.step0 o101
  replace hG := hG.step0 o101
  replace a13 := a13.step0 o101
  replace a17 := a17.step0 o101
  replace a79 := a79.step0 o101
  replace a84 := a84.step0 o101
  replace oW := oW.tail0 o101
  replace o22 := o22.tail0 o101
  replace o81 := o81.tail0 o101
  replace o85 := o85.tail0 o101
  refine wI (d_index1 (n := (nMin bad B D)) (i := i) Try.underlying47 s_ti29 rfl (show _ = Value.int _ ((i : Nat) : Int) from rfl) (by omega)) ?_
  refine wO (d_store (b := o) (i := i) (v := u102) s_ti29 rfl rfl (Seq.one f103) a79 (by rw [List.length_map, l_o]; omega) (m_put (ws.set i u_cur) i u102 eV)) ?_
  rintro _ w104 ⟨a105, o106⟩
  replace hb := hb.stepb o106 (inq in1)
  replace hF := hF.stepb o106 (inq in1)
  replace hM := hM.stepb o106 (inq in1)
  replace f76 := f76.stepb o106 (inq in1)
  replace hG := hG.stepb o106 (inq in1)
  replace f103 := f103.stepb o106 (inq in1)
  replace a13 := a13.step o106 (fun e => absurd e n_gg_o)
  replace a17 := a17.step o106 (fun e => absurd e n_cb_o)
  replace a84 := a84.step o106 (fun x hx e => nq_cur_o x hx e)
  replace oW := oW.tailb o106 g_oW_o
  replace o22 := o22.tailb o106 g_o22_o
  replace o81 := o81.tail o106 (fun k _ e => by have : k = o := e; rw [this]; exact in1)
  replace o85 := o85.tail o106 (fun k _ e => by have : k = o := e; rw [this]; exact (inq in1))
  replace l_o : ((ws.set i u_cur).set i u102 : List Value).length = (nMin bad B D) := (List.length_set ..).trans l_o
  refine wF ([(Value.agg #[(eN D), (eN B), (eN Q)]), ub, (ptr gg 0), (ptr cb 0), (Value.slice none 0 0), u_dies, (eN (nMin bad B D)), (z 7), (z 8), (z 9), (sli o 0 (nMin bad B D) (nMin bad B D)), (eN i), undef, (z 13), (Value.agg #[(eN D), (eN B), (eN Q)]), (Value.bool true), (Value.bool false), (ptr gg 1), (eN B), (ptr gg 0), (eN D), (eN d), (Value.bool (decide (d < D)))] ++ (zs z 23 19 ++ [(eN (nMin bad B D)), (sli o 0 (nMin bad B D) (nMin bad B D)), (sli o 0 (nMin bad B D) (nMin bad B D)), (eN (nMin bad B D)), (eN i), (Value.bool (decide (i < (nMin bad B D)))), (eN i), u_dies, (eN vs.length), (eN d2), (Value.bool (decide (d2 < vs.length)))] ++ (zs z 53 16 ++ [(sli o 0 (nMin bad B D) (nMin bad B D)), (eN i), (sli o 0 (nMin bad B D) (nMin bad B D)), (eN i), (ptr o i), u_cur, u102, (ptr o i), (z 77), undef]))) ?_
  refine wpL.done ?_
  refine inb_n (then_n ?_)
  refine plain ?_
  refine wI (n_add (a := i) (b := 1) rfl rfl (by omega)) ?_
  refine wI (d_move rfl) ?_
  refine wF ([(Value.agg #[(eN D), (eN B), (eN Q)]), ub, (ptr gg 0), (ptr cb 0), (Value.slice none 0 0), u_dies, (eN (nMin bad B D)), (z 7), (z 8), (z 9), (sli o 0 (nMin bad B D) (nMin bad B D)), (eN i), undef, (z 13), (Value.agg #[(eN D), (eN B), (eN Q)]), (Value.bool true), (Value.bool false), (ptr gg 1), (eN B), (ptr gg 0), (eN D), (eN d), (Value.bool (decide (d < D)))] ++ (zs z 23 19 ++ [(eN (nMin bad B D)), (sli o 0 (nMin bad B D) (nMin bad B D)), (sli o 0 (nMin bad B D) (nMin bad B D)), (eN (nMin bad B D)), (eN (i + 1)), (Value.bool (decide (i < (nMin bad B D)))), (eN i), u_dies, (eN vs.length), (eN d2), (Value.bool (decide (d2 < vs.length)))] ++ (zs z 53 16 ++ [(sli o 0 (nMin bad B D) (nMin bad B D)), (eN i), (sli o 0 (nMin bad B D) (nMin bad B D)), (eN i), (ptr o i), u_cur, u102, (ptr o i), (eN (i + 1)), undef]))) ?_
  refine wpL.done ?_
  refine then_n ?_
  refine ⟨_, ⟨i + 1, ws.set i u102⟩, rfl, rfl, ⟨?_, ?_, ?_, ?_, ?_, ?_, ?_, ?_, ?_⟩, ?_⟩
  ·
   (try dsimp only)
   all_goals (omega)
  ·
   (try dsimp only)
   all_goals (rw [List.length_set]; exact hw)
  ·
   exact fun k h1 h2 => (set_getD_ne (by omega)).trans (hN k (by omega) h2)
  ·
   (try dsimp only)
   all_goals (exact fam_put (hG.less (xx_skip (xx_or1 (xx_or1 (xx_or1 xx_id))))) (f103.less (xx_skip (xx_or1 (xx_or1 (xx_or1 xx_id))))) (by rw [show d2 = D by omega]; rfl) (by omega))
  ·
   exact o81
  ·
   exact a13
  ·
   exact a17
  ·
   (try dsimp only)
   all_goals (rw [List.length_set]; omega)
  ·
   (try dsimp only)
   all_goals (rw [List.set_set] at a105; exact a105)
  ·
   (try dsimp only)
   all_goals (omega)
 refine wpIn_exit ?_
 refine then_x (then_x (inb_e ?_))
 refine then_n ?_
 refine wpIn_seq ?_
 refine plain ?_
 refine wI (d_move rfl) ?_
 refine wI (d_assign rfl) ?_
 refine wF ([(Value.agg #[(eN D), (eN B), (eN Q)]), ub, (ptr gg 0), (ptr cb 0), (sli o 0 (nMin bad B D) (nMin bad B D)), u_dies, (eN (nMin bad B D)), (z 7), (z 8), (z 9), (sli o 0 (nMin bad B D) (nMin bad B D)), (z 11), undef, (z 13), (Value.agg #[(eN D), (eN B), (eN Q)]), (Value.bool true), (Value.bool false), (ptr gg 1), (eN B), (ptr gg 0), (eN D), (eN d), (Value.bool (decide (d < D)))] ++ (zs z 23 19 ++ [(eN (nMin bad B D)), (sli o 0 (nMin bad B D) (nMin bad B D)), (sli o 0 (nMin bad B D) (nMin bad B D)), (eN (nMin bad B D)), (eN i), (Value.bool (decide (i < (nMin bad B D))))] ++ (zs z 48 30 ++ [(sli o 0 (nMin bad B D) (nMin bad B D))]))) ?_
 refine wpL.done ?_
 refine then_n ?_
 refine wpIn_ret ?_
 have hmk_ := hM.now
 refine leave hmk_ (fun w107 o108 => ⟨res1 Try.results31 rfl, ?_⟩)
 replace hF := hF.nodef (nodef_fam fun _ _ => nodef_seq) hmk_ o108
 replace f76 := f76.nodef nodef_seq hmk_ o108
 replace hG := hG.nodef (nodef_fam fun _ _ => nodef_seq) hmk_ o108
 replace a13 := nodef_now nodef_arr a13 hmk_ o108
 replace a17 := nodef_now nodef_arr a17 hmk_ o108
 replace a79 := nodef_now nodef_arr a79 hmk_ o108
 replace oW := only_marks oW o108 hrs
 have hin_ : i = (nMin bad B D) := by omega
 rw [hin_] at hG
 exact ⟨ws, hw, (arr_keep a79 l_o (Nat.le_refl _) (old_ne g_oW_o)), hG.less (xx_skip (xx_skip (xx_skip xx_id))), oW⟩

set_option maxRecDepth 20000 in
set_option maxHeartbeats 1000000 in
theorem superso_ok (x y z : Int) (ub : Value) (W : World) (hf : fitsI x y z = false) :
    CW Try.prog 31 #[(Value.agg #[(eI x), (eI y), (eI z)]), ub] W (Rt (RIs (.slice none 0 0) W)) := by
 have oW : Only No W W := Only.refl _ _
 refine enter (al := [(Value.agg #[(eI x), (eI y), (eI z)]), ub]) (k := 77) (l := ([(Value.agg #[(eI x), (eI y), (eI z)]), ub] ++ (us 77))) Try.func31 rfl Try.ntmps31 rfl rfl ?_
 refine wpIn_seq ?_
 refine plain ?_
 refine wO (d_box rfl rfl) ?_
 rintro _ w12 ⟨b11, rfl, g13, a14, o15⟩
 have g_oW_b11 : W.heap.size ≤ b11 := Nat.le_trans oW.size g13
 replace oW := oW.tail0 o15
 refine wO (d_box rfl rfl) ?_
 rintro _ w17 ⟨b16, rfl, g18, a19, o20⟩
 have n_b11_b16 : b11 ≠ b16 := a14.ne g18
 have g_oW_b16 : W.heap.size ≤ b16 := Nat.le_trans oW.size g18
 replace a14 := a14.step0 o20
 replace oW := oW.tail0 o20
 refine wI (d_assign rfl) ?_
 refine wF ([(Value.agg #[(eI x), (eI y), (eI z)]), ub, (ptr b11 0), (ptr b16 0), (Value.slice none 0 0)] ++ (us 74)) ?_
 refine wpL.done ?_
 refine then_n ?_
 refine wpIn_seq ?_
 refine wpIn_seq ?_
 refine plain ?_
 refine wI (d_loadAg (vs := [(eI x), (eI y), (eI z)]) ⟨_, Try.underlying25, rfl⟩ s_ti25 rfl a14 rfl rfl) ?_
 refine wO (d_call (xl := [.tmp 14]) (al := [(Value.agg #[(eI x), (eI y), (eI z)])]) Try.func38 (by kernel_rfl) rfl rfl rfl (cw_is (gfitsI_ok x y z _) (congrArg Value.bool (show fitsI x y z = false from (Bool.eq_false_iff.2 (Bool.eq_false_iff.1 hf)))))) ?_
 rintro _ w21 ⟨rfl, o22⟩
 replace a14 := a14.step0 o22
 replace a19 := a19.step0 o22
 replace oW := oW.tail0 o22
 refine wI (d_not rfl rfl) ?_
 refine wF ([(Value.agg #[(eI x), (eI y), (eI z)]), ub, (ptr b11 0), (ptr b16 0), (Value.slice none 0 0)] ++ (us 9 ++ [(Value.agg #[(eI x), (eI y), (eI z)]), (Value.bool false), (Value.bool true)] ++ (us 62))) ?_
 refine wpL.done ?_
 refine then_n ?_
 refine cond_t rfl ?_
 refine wpIn_seq ?_
 refine plain ?_
 refine wI (d_assign rfl) ?_
 refine wF ([(Value.agg #[(eI x), (eI y), (eI z)]), ub, (ptr b11 0), (ptr b16 0), (Value.slice none 0 0)] ++ (us 9 ++ [(Value.agg #[(eI x), (eI y), (eI z)]), (Value.bool false), (Value.bool true)] ++ (us 62))) ?_
 refine wpL.done ?_
 refine then_n ?_
 refine wpIn_ret ?_
 refine then_r ?_
 refine leave0 (v := (Value.slice none 0 0)) (res1 Try.results31 rfl) ?_
 exact ⟨rfl, oW⟩

set_option maxRecDepth 20000 in
set_option maxHeartbeats 1000000 in
theorem ref9Superso_ok (x y z : Int) (ub : Value) (W : World) (hf : fitsI x y z = false) :
    CW Try.prog 32 #[(Value.agg #[(eI x), (eI y), (eI z)]), ub] W (Rt (RIs (.slice none 0 0) W)) := by
 have oW : Only No W W := Only.refl _ _
 refine enter (al := [(Value.agg #[(eI x), (eI y), (eI z)]), ub]) (k := 87) (l := ([(Value.agg #[(eI x), (eI y), (eI z)]), ub] ++ (us 87))) Try.func32 rfl Try.ntmps32 rfl rfl ?_
 refine wpIn_seq ?_
 refine plain ?_
 refine wO (d_box rfl rfl) ?_
 rintro _ w12 ⟨b11, rfl, g13, a14, o15⟩
 have g_oW_b11 : W.heap.size ≤ b11 := Nat.le_trans oW.size g13
 replace oW := oW.tail0 o15
 refine wI (d_assign rfl) ?_
 refine wF ([(Value.agg #[(eI x), (eI y), (eI z)]), ub, (ptr b11 0), undef, (Value.slice none 0 0)] ++ (us 84)) ?_
 refine wpL.done ?_
 refine then_n ?_
 refine wpIn_seq ?_
 refine wpIn_seq ?_
 refine plain ?_
 refine wI (d_loadAg (vs := [(eI x), (eI y), (eI z)]) ⟨_, Try.underlying25, rfl⟩ s_ti25 rfl a14 rfl rfl) ?_
 refine wO (d_call (xl := [.tmp 16]) (al := [(Value.agg #[(eI x), (eI y), (eI z)])]) Try.func34 (by kernel_rfl) rfl rfl rfl (cw_is (v' := eN 1) (ref9Check_ok x y z _) (by rw [(show fitsI x y z = false from (Bool.eq_false_iff.2 (Bool.eq_false_iff.1 hf)))] <;> rfl))) ?_
 rintro _ w16 ⟨rfl, o17⟩
 replace a14 := a14.step0 o17
 replace oW := oW.tail0 o17
 refine wI (n_neq (a := 1) (b := 0) rfl rfl (by rw [decide_eq_false (by decide)] <;> rfl)) ?_
 refine wF ([(Value.agg #[(eI x), (eI y), (eI z)]), ub, (ptr b11 0), undef, (Value.slice none 0 0)] ++ (us 11 ++ [(Value.agg #[(eI x), (eI y), (eI z)]), (eN 1), (Value.bool true)] ++ (us 70))) ?_
 refine wpL.done ?_
 refine then_n ?_
 refine cond_t rfl ?_
 refine wpIn_seq ?_
 refine plain ?_
 refine wI (d_assign rfl) ?_
 refine wF ([(Value.agg #[(eI x), (eI y), (eI z)]), ub, (ptr b11 0), undef, (Value.slice none 0 0)] ++ (us 11 ++ [(Value.agg #[(eI x), (eI y), (eI z)]), (eN 1), (Value.bool true)] ++ (us 70))) ?_
 refine wpL.done ?_
 refine then_n ?_
 refine wpIn_ret ?_
 refine then_r ?_
 refine leave0 (v := (Value.slice none 0 0)) (res1 Try.results32 rfl) ?_
 exact ⟨rfl, oW⟩

set_option maxRecDepth 20000 in
set_option maxHeartbeats 4000000 in
theorem ref9Supers_ok (D B Q : Nat) (bad : List (Int × Int)) (ub : Value) (W : World) (hb : Ps No (Seq (kA 2 eQ) bad ub) W) (gb : bad.length ≤ 1000000000) (hD : 6 ≤ D ∧ D ≤ 8) (hB : 8 ≤ B ∧ B ≤ 12) (hQ : 4 ≤ Q ∧ Q ≤ 8) :
    CW Try.prog 32 #[(Value.agg #[(eN D), (eN B), (eN Q)]), ub] W (Rt (fun u w => ∃ ws, ws.length = (nMin bad B D) ∧ Ps (Old W.heap.size) (Seq (kS eV) ws u) w ∧ Ps (Old W.heap.size) (Fam kN (nMin bad B D) (fun k => supR bad B D k) ws) w ∧ Only No W w)) := by
 have oW : Only No W W := Only.refl _ _
 refine enter (al := [(Value.agg #[(eN D), (eN B), (eN Q)]), ub]) (k := 87) (l := ([(Value.agg #[(eN D), (eN B), (eN Q)]), ub] ++ (us 87))) Try.func32 rfl Try.ntmps32 rfl rfl ?_
 refine wpIn_seq ?_
 refine plain ?_
 refine wO (d_box rfl rfl) ?_
 rintro _ w11 ⟨gg, rfl, g12, a13, o14⟩
 have g_oW_gg : W.heap.size ≤ gg := Nat.le_trans oW.size g12
 replace hb := hb.new o14 g12
 replace oW := oW.tail0 o14
 refine wI (d_assign rfl) ?_
 refine wF ([(Value.agg #[(eN D), (eN B), (eN Q)]), ub, (ptr gg 0), undef, (Value.slice none 0 0)] ++ (us 84)) ?_
 refine wpL.done ?_
 refine then_n ?_
 refine wpIn_seq ?_
 refine wpIn_seq ?_
 refine plain ?_
 refine wI (d_loadAg (vs := [(eN D), (eN B), (eN Q)]) ⟨_, Try.underlying25, rfl⟩ s_ti25 rfl a13 rfl rfl) ?_
 refine wO (d_call (xl := [.tmp 16]) (al := [(Value.agg #[(eN D), (eN B), (eN Q)])]) Try.func34 (by kernel_rfl) rfl rfl rfl (cw_is (v' := eN 0) (ref9Check_ok ((D : Nat) : Int) ((B : Nat) : Int) ((Q : Nat) : Int) _) (by rw [(show fitsI ((D : Nat) : Int) ((B : Nat) : Int) ((Q : Nat) : Int) = true from (fits_is (by omega)).symm)] <;> rfl))) ?_
 rintro _ w15 ⟨rfl, o16⟩
 replace hb := hb.step0 o16
 replace a13 := a13.step0 o16
 replace oW := oW.tail0 o16
 refine wI (n_neq (a := 0) (b := 0) rfl rfl (by rw [decide_eq_true rfl] <;> rfl)) ?_
 refine wF ([(Value.agg #[(eN D), (eN B), (eN Q)]), ub, (ptr gg 0), undef, (Value.slice none 0 0)] ++ (us 11 ++ [(Value.agg #[(eN D), (eN B), (eN Q)]), (eN 0), (Value.bool false)] ++ (us 70))) ?_
 refine wpL.done ?_
 refine then_n ?_
 refine cond_f rfl ?_
 refine wpIn_skip ?_
 refine then_n ?_
 refine wpIn_seq ?_
 refine plain ?_
 refine wI (d_assign rfl) ?_
 refine wF ([(Value.agg #[(eN D), (eN B), (eN Q)]), ub, (ptr gg 0), undef, (Value.slice none 0 0), (Value.slice none 0 0)] ++ (us 10 ++ [(Value.agg #[(eN D), (eN B), (eN Q)]), (eN 0), (Value.bool false)] ++ (us 70))) ?_
 refine wpL.done ?_
 have a17 : Ow 29 1 none (Value.slice none 0 0) ([] : List (Value)).length (([] : List (Value)).map eV) w15 := Ow.nil _ _ _
 have nq_dies_gg : ∀ x, (none : Option Nat) = some x → ¬ x = gg := fun x e => by cases e
 have q_oW_dies : Fr none none W.heap.size := Fr.none
 replace hb := hb.qnone
 refine then_n ?_
 refine wpIn_seq ?_
 refine plain ?_
 refine wI (d_fieldAddr (j := 1) Try.underlying25 rfl s_ti3 (by decide) rfl rfl) ?_
 refine wI (d_load (v := (eN B)) ⟨_, Try.underlying3, rfl⟩ rfl a13 rfl) ?_
 refine wI (d_assign rfl) ?_
 refine wF ([(Value.agg #[(eN D), (eN B), (eN Q)]), ub, (ptr gg 0), undef, (Value.slice none 0 0), (Value.slice none 0 0), (eN B)] ++ (us 9 ++ [(Value.agg #[(eN D), (eN B), (eN Q)]), (eN 0), (Value.bool false), (ptr gg 1), (eN B)] ++ (us 68))) ?_
 refine wpL.done ?_
 refine then_n ?_
 refine wpIn_seq ?_
 refine wpIn_seq ?_
 refine plain ?_
 refine wI (d_assign rfl) ?_
 refine wF ([(Value.agg #[(eN D), (eN B), (eN Q)]), ub, (ptr gg 0), undef, (Value.slice none 0 0), (Value.slice none 0 0), (eN B), (eN 0)] ++ (us 8 ++ [(Value.agg #[(eN D), (eN B), (eN Q)]), (eN 0), (Value.bool false), (ptr gg 1), (eN B)] ++ (us 68))) ?_
 refine wpL.done ?_
 refine then_n ?_
 refine wpIn_block ?_
 have h_lt_gg := a13.lt
 have h_lts_dies := a17.lts
 refine loop2 (fun (s_ : (Nat) × (List Value) × (Option Nat) × (Value)) => match s_ with | ⟨d, vs, bo_dies, u_dies⟩ => fun (z : Nat → Value) => (([(Value.agg #[(eN D), (eN B), (eN Q)]), ub, (ptr gg 0), undef, (Value.slice none 0 0), u_dies, (eN (nMin bad B d)), (eN d), (z 8), (z 9), (z 10), (z 11), undef, undef, undef, undef, (Value.agg #[(eN D), (eN B), (eN Q)]), (eN 0), (Value.bool false), (ptr gg 1), (eN B)] ++ (zs z 21 42 ++ (us 26))) : List Value)) (fun (s_ : (Nat) × (List Value) × (Option Nat) × (Value)) => match s_ with | ⟨d, vs, bo_dies, u_dies⟩ => fun (w_ : World) => (d ≤ D) ∧ (vs.length = d) ∧ (Ps (Orq bo_dies (Or1 gg (Old W.heap.size))) (Fam kN d (fun k => goodL bad k B) vs) w_) ∧ Only (Orq none (Or1 gg No)) w15 w_ ∧ Arr 25 gg [(eN D), (eN B), (eN Q)] w_ ∧ Ow 29 1 bo_dies u_dies (vs).length ((vs).map eV) w_ ∧ Fr bo_dies none w15.heap.size) (fun (s_ : (Nat) × (List Value) × (Option Nat) × (Value)) => match s_ with | ⟨d, vs, bo_dies, u_dies⟩ => D - d) ⟨0, [], none, (Value.slice none 0 0)⟩ rfl ?_ ?_
 ·
  refine ⟨?_, ?_, ?_, ?_, ?_, ?_, ?_⟩
  ·
   exact Nat.zero_le _
  ·
   exact rfl
  ·
   exact fam_zero
  ·
   exact Only.refl _ _
  ·
   exact a13
  ·
   exact a17
  ·
   exact Fr.same
 rintro ⟨d, vs, bo_dies, u_dies⟩ z w19 ⟨hd, hv, hF, o18, a13, a17, qq_dies⟩
 (try dsimp only)
 replace hb := hb.re o18 (orq_mono (or1_mono no_any)) (xx_re qq_dies (xx_or1 xx_id))
 have tq_oW := oW.size
 replace oW := oW.tail o18 (tl_q q_oW_dies (fun _ e => by cases e) (tl_new g_oW_gg tl_no))
 replace q_oW_dies := qtr qq_dies q_oW_dies tq_oW
 replace nq_dies_gg := nqs nq_dies_gg qq_dies h_lt_gg
 have q_o18_dies := qq_dies
 refine wpIn_seq ?_
 refine wpIn_seq ?_
 refine plain ?_
 refine wI (d_move rfl) ?_
 refine wI (d_fieldAddr (j := 0) Try.underlying25 rfl s_ti3 (by decide) rfl rfl) ?_
 refine wI (d_load (v := (eN D)) ⟨_, Try.underlying3, rfl⟩ rfl a13 rfl) ?_
 refine wF ([(Value.agg #[(eN D), (eN B), (eN Q)]), ub, (ptr gg 0), undef, (Value.slice none 0 0), u_dies, (eN (nMin bad B d)), (eN d), (z 8), (z 9), (z 10), (z 11), undef, undef, undef, undef, (Value.agg #[(eN D), (eN B), (eN Q)]), (eN 0), (Value.bool false), (ptr gg 1), (eN B), (eN d), (ptr gg 0), (eN D)] ++ (zs z 24 39 ++ (us 26))) ?_
 refine wI (n_lss (a := d) (b := D) rfl rfl rfl) ?_
 refine wF ([(Value.agg #[(eN D), (eN B), (eN Q)]), ub, (ptr gg 0), undef, (Value.slice none 0 0), u_dies, (eN (nMin bad B d)), (eN d), (z 8), (z 9), (z 10), (z 11), undef, undef, undef, undef, (Value.agg #[(eN D), (eN B), (eN Q)]), (eN 0), (Value.bool false), (ptr gg 1), (eN B), (eN d), (ptr gg 0), (eN D), (Value.bool (decide (d < D)))] ++ (zs z 25 38 ++ (us 26))) ?_
 refine wpL.done ?_
 refine then_n ?_
 refine cond_if rfl (fun c20 => ?_) (fun c20 => ?_)
 ·
  refine wpIn_skip ?_
  refine then_n ?_
  refine wpIn_seq ?_
  refine wpIn_block ?_
  refine wpIn_seq ?_
  refine plain ?_
  refine wI (d_assign rfl) ?_
  refine wF ([(Value.agg #[(eN D), (eN B), (eN Q)]), ub, (ptr gg 0), undef, (Value.slice none 0 0), u_dies, (eN (nMin bad B d)), (eN d), (Value.slice none 0 0), (z 9), (z 10), (z 11), undef, undef, undef, undef, (Value.agg #[(eN D), (eN B), (eN Q)]), (eN 0), (Value.bool false), (ptr gg 1), (eN B), (eN d), (ptr gg 0), (eN D), (Value.bool (decide (d < D)))] ++ (zs z 25 38 ++ (us 26))) ?_
  refine wpL.done ?_
  have a21 : Ow 3 1 none (Value.slice none 0 0) ([] : List (Nat)).length (([] : List (Nat)).map eN) w19 := Ow.nil _ _ _
  have nq_good_gg : ∀ x, (none : Option Nat) = some x → ¬ x = gg := fun x e => by cases e
  have nqq_dies_good : ∀ x, bo_dies = some x → (none : Option Nat) = some x → False := fun _ _ e => by cases e
  have q_oW_good : Fr none none W.heap.size := Fr.none
  have q_o18_good : Fr none none w15.heap.size := Fr.none
  replace hb := hb.qnone
  replace hF := hF.qnone
  refine then_n ?_
  refine wpIn_seq ?_
  refine wpIn_seq ?_
  refine plain ?_
  refine wI (d_assign rfl) ?_
  refine wF ([(Value.agg #[(eN D), (eN B), (eN Q)]), ub, (ptr gg 0), undef, (Value.slice none 0 0), u_dies, (eN (nMin bad B d)), (eN d), (Value.slice none 0 0), (eN 0), (z 10), (z 11), undef, undef, undef, undef, (Value.agg #[(eN D), (eN B), (eN Q)]), (eN 0), (Value.bool false), (ptr gg 1), (eN B), (eN d), (ptr gg 0), (eN D), (Value.bool (decide (d < D)))] ++ (zs z 25 38 ++ (us 26))) ?_
  refine wpL.done ?_
  refine then_n ?_
  refine wpIn_block ?_
  have h_lt_gg := a13.lt
  have h_lts_dies := a17.lts
  have h_lts_good := a21.lts
  refine loop2 (fun (s_ : (Nat) × (Option Nat) × (Value)) => match s_ with | ⟨b, bo_good, u_good⟩ => fun (z : Nat → Value) => (([(Value.agg #[(eN D), (eN B), (eN Q)]), ub, (ptr gg 0), undef, (Value.slice none 0 0), u_dies, (eN (nMin bad B d)), (eN d), u_good, (eN b), (z 10), (z 11), undef, undef, undef, undef, (Value.agg #[(eN D), (eN B), (eN Q)]), (eN 0), (Value.bool false), (ptr gg 1), (eN B), (eN d), (ptr gg 0), (eN D), (Value.bool (decide (d < D)))] ++ (zs z 25 38 ++ (us 26))) : List Value)) (fun (s_ : (Nat) × (Option Nat) × (Value)) => match s_ with | ⟨b, bo_good, u_good⟩ => fun (w_ : World) => (b ≤ B) ∧ Only (Orq none (Orq bo_dies (Or1 gg No))) w19 w_ ∧ Arr 25 gg [(eN D), (eN B), (eN Q)] w_ ∧ Ow 29 1 bo_dies u_dies (vs).length ((vs).map eV) w_ ∧ Ow 3 1 bo_good u_good (goodL bad d b).length ((goodL bad d b).map eN) w_ ∧ Fr bo_good none w19.heap.size) (fun (s_ : (Nat) × (Option Nat) × (Value)) => match s_ with | ⟨b, bo_good, u_good⟩ => B - b) ⟨0, none, (Value.slice none 0 0)⟩ rfl ?_ ?_
  ·
   refine ⟨?_, ?_, ?_, ?_, ?_, ?_⟩
   ·
    exact Nat.zero_le _
   ·
    exact Only.refl _ _
   ·
    exact a13
   ·
    exact a17
   ·
    exact a21
   ·
    exact Fr.same
  rintro ⟨b, bo_good, u_good⟩ z w23 ⟨hb2, o22, a13, a17, a21, qq_good⟩
  (try dsimp only)
  replace hb := hb.re o22 (orq_mono (orq_mono (or1_mono no_any))) (xx_re qq_good (xx_orq (xx_or1 xx_id)))
  replace hF := hF.re o22 (orq_mono (orq_mono (or1_mono no_any))) (xx_re qq_good (xx_orq (xx_or1 xx_id)))
  have tq_oW := oW.size
  replace oW := oW.tail o22 (tl_q q_oW_good (fun _ e => by cases e) (tl_q q_oW_dies (fun _ e => by cases e) (tl_new g_oW_gg tl_no)))
  replace q_oW_good := qtr qq_good q_oW_good tq_oW
  have tq_o18 := o18.size
  replace o18 := o18.tail o22 (tl_q q_o18_good (fun _ e => by cases e) (tl_q q_o18_dies (fun k e => (.inl e)) (tl_in (inq in1) tl_no)))
  replace q_o18_good := qtr qq_good q_o18_good tq_o18
  replace nq_good_gg := nqs nq_good_gg qq_good h_lt_gg
  replace nqq_dies_good := nqq_step nqq_dies_good qq_good h_lts_dies
  have q_o22_dies : Fr bo_dies bo_dies w19.heap.size := Fr.same
  have q_o22_good := qq_good
  have gl_ := good_len bad d b
  refine wpIn_seq ?_
  refine wpIn_seq ?_
  refine plain ?_
  refine wI (d_move rfl) ?_
  refine wI (d_fieldAddr (j := 1) Try.underlying25 rfl s_ti3 (by decide) rfl rfl) ?_
  refine wI (d_load (v := (eN B)) ⟨_, Try.underlying3, rfl⟩ rfl a13 rfl) ?_
  refine wF ([(Value.agg #[(eN D), (eN B), (eN Q)]), ub, (ptr gg 0), undef, (Value.slice none 0 0), u_dies, (eN (nMin bad B d)), (eN d), u_good, (eN b), (z 10), (z 11), undef, undef, undef, undef, (Value.agg #[(eN D), (eN B), (eN Q)]), (eN 0), (Value.bool false), (ptr gg 1), (eN B), (eN d), (ptr gg 0), (eN D), (Value.bool (decide (d < D))), (z 25), (z 26), (eN b), (ptr gg 1), (eN B)] ++ (zs z 30 33 ++ (us 26))) ?_
  refine wI (n_lss (a := b) (b := B) rfl rfl rfl) ?_
  refine wF ([(Value.agg #[(eN D), (eN B), (eN Q)]), ub, (ptr gg 0), undef, (Value.slice none 0 0), u_dies, (eN (nMin bad B d)), (eN d), u_good, (eN b), (z 10), (z 11), undef, undef, undef, undef, (Value.agg #[(eN D), (eN B), (eN Q)]), (eN 0), (Value.bool false), (ptr gg 1), (eN B), (eN d), (ptr gg 0), (eN D), (Value.bool (decide (d < D))), (z 25), (z 26), (eN b), (ptr gg 1), (eN B), (Value.bool (decide (b < B)))] ++ (zs z 31 32 ++ (us 26))) ?_
  refine wpL.done ?_
  refine then_n ?_
  refine cond_if rfl (fun c24 => ?_) (fun c24 => ?_)
  ·
   refine wpIn_skip ?_
   refine then_n ?_
   refine wpIn_seq ?_
   refine wpIn_block ?_
   refine wpIn_seq ?_
   refine plain ?_
   refine wI (d_assign rfl) ?_
   refine wF ([(Value.agg #[(eN D), (eN B), (eN Q)]), ub, (ptr gg 0), undef, (Value.slice none 0 0), u_dies, (eN (nMin bad B d)), (eN d), u_good, (eN b), (Value.bool true), (z 11), undef, undef, undef, undef, (Value.agg #[(eN D), (eN B), (eN Q)]), (eN 0), (Value.bool false), (ptr gg 1), (eN B), (eN d), (ptr gg 0), (eN D), (Value.bool (decide (d < D))), (z 25), (z 26), (eN b), (ptr gg 1), (eN B), (Value.bool (decide (b < B)))] ++ (zs z 31 32 ++ (us 26))) ?_
   refine wpL.done ?_
   refine then_n ?_
   refine wpIn_seq ?_
   refine wpIn_seq ?_
   refine wp_eq (l' := ([(Value.agg #[(eN D), (eN B), (eN Q)]), ub, (ptr gg 0), undef, (Value.slice none 0 0), u_dies, (eN (nMin bad B d)), (eN d), u_good, (eN b), (Value.bool (clearL bad d b 0)), (z 11), undef, undef, undef, undef, (Value.agg #[(eN D), (eN B), (eN Q)]), (eN 0), (Value.bool false), (ptr gg 1), (eN B), (eN d), (ptr gg 0), (eN D), (Value.bool (decide (d < D))), (z 25), (z 26), (eN b), (ptr gg 1), (eN B), (Value.bool (decide (b < B)))] ++ (zs z 31 32 ++ (us 26)))) (show (([(Value.agg #[(eN D), (eN B), (eN Q)]), ub, (ptr gg 0), undef, (Value.slice none 0 0), u_dies, (eN (nMin bad B d)), (eN d), u_good, (eN b), (Value.bool true), (z 11), undef, undef, undef, undef, (Value.agg #[(eN D), (eN B), (eN Q)]), (eN 0), (Value.bool false), (ptr gg 1), (eN B), (eN d), (ptr gg 0), (eN D), (Value.bool (decide (d < D))), (z 25), (z 26), (eN b), (ptr gg 1), (eN B), (Value.bool (decide (b < B)))] ++ (zs z 31 32 ++ (us 26))) : List Value) = ([(Value.agg #[(eN D), (eN B), (eN Q)]), ub, (ptr gg 0), undef, (Value.slice none 0 0), u_dies, (eN (nMin bad B d)), (eN d), u_good, (eN b), (Value.bool (clearL bad d b 0)), (z 11), undef, undef, undef, undef, (Value.agg #[(eN D), (eN B), (eN Q)]), (eN 0), (Value.bool false), (ptr gg 1), (eN B), (eN d), (ptr gg 0), (eN D), (Value.bool (decide (d < D))), (z 25), (z 26), (eN b), (ptr gg 1), (eN B), (Value.bool (decide (b < B)))] ++ (zs z 31 32 ++ (us 26))) from reslot ([(Value.agg #[(eN D), (eN B), (eN Q)]), ub, (ptr gg 0), undef, (Value.slice none 0 0), u_dies, (eN (nMin bad B d)), (eN d), u_good, (eN b), (Value.bool true), (z 11), undef, undef, undef, undef, (Value.agg #[(eN D), (eN B), (eN Q)]), (eN 0), (Value.bool false), (ptr gg 1), (eN B), (eN d), (ptr gg 0), (eN D), (Value.bool (decide (d < D))), (z 25), (z 26), (eN b), (ptr gg 1), (eN B), (Value.bool (decide (b < B)))] ++ (zs z 31 32 ++ (us 26))) 10 (congrArg Value.bool clear_zero)) ?_
   refine plain ?_
   refine wI (d_assign rfl) ?_
   refine wF ([(Value.agg #[(eN D), (eN B), (eN Q)]), ub, (ptr gg 0), undef, (Value.slice none 0 0), u_dies, (eN (nMin bad B d)), (eN d), u_good, (eN b), (Value.bool (clearL bad d b 0)), (eN 0), undef, undef, undef, undef, (Value.agg #[(eN D), (eN B), (eN Q)]), (eN 0), (Value.bool false), (ptr gg 1), (eN B), (eN d), (ptr gg 0), (eN D), (Value.bool (decide (d < D))), (z 25), (z 26), (eN b), (ptr gg 1), (eN B), (Value.bool (decide (b < B)))] ++ (zs z 31 32 ++ (us 26))) ?_
   refine wpL.done ?_
   refine then_n ?_
   refine wpIn_block ?_
   refine loop2 (fun (j : (Nat)) => fun (z : Nat → Value) => (([(Value.agg #[(eN D), (eN B), (eN Q)]), ub, (ptr gg 0), undef, (Value.slice none 0 0), u_dies, (eN (nMin bad B d)), (eN d), u_good, (eN b), (Value.bool (clearL bad d b j)), (eN j), undef, undef, undef, undef, (Value.agg #[(eN D), (eN B), (eN Q)]), (eN 0), (Value.bool false), (ptr gg 1), (eN B), (eN d), (ptr gg 0), (eN D), (Value.bool (decide (d < D))), (z 25), (z 26), (eN b), (ptr gg 1), (eN B), (Value.bool (decide (b < B)))] ++ (zs z 31 32 ++ (us 26))) : List Value)) (fun (j : (Nat)) => fun (w_ : World) => (j ≤ bad.length) ∧ Only (Orq bo_good (Orq bo_dies (Or1 gg No))) w23 w_ ∧ Arr 25 gg [(eN D), (eN B), (eN Q)] w_ ∧ Ow 29 1 bo_dies u_dies (vs).length ((vs).map eV) w_ ∧ Ow 3 1 bo_good u_good (goodL bad d b).length ((goodL bad d b).map eN) w_) (fun (j : (Nat)) => bad.length - j) 0 rfl ?_ ?_
   ·
    refine ⟨?_, ?_, ?_, ?_, ?_⟩
    ·
     exact Nat.zero_le _
    ·
     exact Only.refl _ _
    ·
     exact a13
    ·
     exact a17
    ·
     exact a21
   rintro j z w26 ⟨hj0, o25, a13, a17, a21⟩
   (try dsimp only)
   replace hb := hb.step o25 (orq_mono (orq_mono (or1_mono no_any)))
   replace hF := hF.step o25 (orq_mono (orq_mono (or1_mono no_any)))
   replace oW := oW.tail o25 (tl_q q_oW_good (fun _ e => by cases e) (tl_q q_oW_dies (fun _ e => by cases e) (tl_new g_oW_gg tl_no)))
   replace o18 := o18.tail o25 (tl_q q_o18_good (fun _ e => by cases e) (tl_q q_o18_dies (fun k e => (.inl e)) (tl_in (inq in1) tl_no)))
   replace o22 := o22.tail o25 (tl_q q_o22_good (fun k e => (.inl e)) (tl_q q_o22_dies (fun k e => (.inr (.inl e))) (tl_in (inq (inq in1)) tl_no)))
   have q_o25_dies : Fr bo_dies bo_dies w23.heap.size := Fr.same
   have q_o25_good : Fr bo_good bo_good w23.heap.size := Fr.same
   refine wpIn_seq ?_
   refine wpIn_seq ?_
   refine plain ?_
   refine wI (d_move rfl) ?_
   refine wI (d_move rfl) ?_
   refine wI (d_lenS rfl Try.underlying42 rfl hb) ?_
   refine wF ([(Value.agg #[(eN D), (eN B), (eN Q)]), ub, (ptr gg 0), undef, (Value.slice none 0 0), u_dies, (eN (nMin bad B d)), (eN d), u_good, (eN b), (Value.bool (clearL bad d b j)), (eN j), undef, undef, undef, undef, (Value.agg #[(eN D), (eN B), (eN Q)]), (eN 0), (Value.bool false), (ptr gg 1), (eN B), (eN d), (ptr gg 0), (eN D), (Value.bool (decide (d < D))), (z 25), (z 26), (eN b), (ptr gg 1), (eN B), (Value.bool (decide (b < B))), (z 31), (z 32), (eN j), ub, (eN bad.length)] ++ (zs z 36 27 ++ (us 26))) ?_
   refine wI (n_lss (a := j) (b := bad.length) rfl rfl rfl) ?_
   refine wF ([(Value.agg #[(eN D), (eN B), (eN Q)]), ub, (ptr gg 0), undef, (Value.slice none 0 0), u_dies, (eN (nMin bad B d)), (eN d), u_good, (eN b), (Value.bool (clearL bad d b j)), (eN j), undef, undef, undef, undef, (Value.agg #[(eN D), (eN B), (eN Q)]), (eN 0), (Value.bool false), (ptr gg 1), (eN B), (eN d), (ptr gg 0), (eN D), (Value.bool (decide (d < D))), (z 25), (z 26), (eN b), (ptr gg 1), (eN B), (Value.bool (decide (b < B))), (z 31), (z 32), (eN j), ub, (eN bad.length), (Value.bool (decide (j < bad.length)))] ++ (zs z 37 26 ++ (us 26))) ?_
   refine wpL.done ?_
   refine then_n ?_
   refine cond_if rfl (fun cj_ => ?_) (fun cj_ => ?_)
   ·
    refine wpIn_skip ?_
    refine then_n ?_
    refine wpIn_seq ?_
    refine wpIn_block ?_
    have hj : j < bad.length := by omega
    by_cases kc_ : clearL bad d b j = true
    ·
     refine wp_eq (l' := ([(Value.agg #[(eN D), (eN B), (eN Q)]), ub, (ptr gg 0), undef, (Value.slice none 0 0), u_dies, (eN (nMin bad B d)), (eN d), u_good, (eN b), (Value.bool true), (eN j), undef, undef, undef, undef, (Value.agg #[(eN D), (eN B), (eN Q)]), (eN 0), (Value.bool false), (ptr gg 1), (eN B), (eN d), (ptr gg 0), (eN D), (Value.bool (decide (d < D))), (z 25), (z 26), (eN b), (ptr gg 1), (eN B), (Value.bool (decide (b < B))), (z 31), (z 32), (eN j), ub, (eN bad.length), (Value.bool (decide (j < bad.length)))] ++ (zs z 37 26 ++ (us 26)))) (show (([(Value.agg #[(eN D), (eN B), (eN Q)]), ub, (ptr gg 0), undef, (Value.slice none 0 0), u_dies, (eN (nMin bad B d)), (eN d), u_good, (eN b), (Value.bool (clearL bad d b j)), (eN j), undef, undef, undef, undef, (Value.agg #[(eN D), (eN B), (eN Q)]), (eN 0), (Value.bool false), (ptr gg 1), (eN B), (eN d), (ptr gg 0), (eN D), (Value.bool (decide (d < D))), (z 25), (z 26), (eN b), (ptr gg 1), (eN B), (Value.bool (decide (b < B))), (z 31), (z 32), (eN j), ub, (eN bad.length), (Value.bool (decide (j < bad.length)))] ++ (zs z 37 26 ++ (us 26))) : List Value) = ([(Value.agg #[(eN D), (eN B), (eN Q)]), ub, (ptr gg 0), undef, (Value.slice none 0 0), u_dies, (eN (nMin bad B d)), (eN d), u_good, (eN b), (Value.bool true), (eN j), undef, undef, undef, undef, (Value.agg #[(eN D), (eN B), (eN Q)]), (eN 0), (Value.bool false), (ptr gg 1), (eN B), (eN d), (ptr gg 0), (eN D), (Value.bool (decide (d < D))), (z 25), (z 26), (eN b), (ptr gg 1), (eN B), (Value.bool (decide (b < B))), (z 31), (z 32), (eN j), ub, (eN bad.length), (Value.bool (decide (j < bad.length)))] ++ (zs z 37 26 ++ (us 26))) from reslot ([(Value.agg #[(eN D), (eN B), (eN Q)]), ub, (ptr gg 0), undef, (Value.slice none 0 0), u_dies, (eN (nMin bad B d)), (eN d), u_good, (eN b), (Value.bool (clearL bad d b j)), (eN j), undef, undef, undef, undef, (Value.agg #[(eN D), (eN B), (eN Q)]), (eN 0), (Value.bool false), (ptr gg 1), (eN B), (eN d), (ptr gg 0), (eN D), (Value.bool (decide (d < D))), (z 25), (z 26), (eN b), (ptr gg 1), (eN B), (Value.bool (decide (b < B))), (z 31), (z 32), (eN j), ub, (eN bad.length), (Value.bool (decide (j < bad.length)))] ++ (zs z 37 26 ++ (us 26))) 10 (congrArg Value.bool kc_)) ?_
     refine plain ?_
     refine wI (d_move rfl) ?_
     refine wI (d_move rfl) ?_
     refine wpL.onis rfl rfl rfl (nb rfl) rfl (d_move rfl) ?_
     refine wF ([(Value.agg #[(eN D), (eN B), (eN Q)]), ub, (ptr gg 0), undef, (Value.slice none 0 0), u_dies, (eN (nMin bad B d)), (eN d), u_good, (eN b), (Value.bool true), (eN j), undef, undef, undef, undef, (Value.agg #[(eN D), (eN B), (eN Q)]), (eN 0), (Value.bool false), (ptr gg 1), (eN B), (eN d), (ptr gg 0), (eN D), (Value.bool (decide (d < D))), (z 25), (z 26), (eN b), (ptr gg 1), (eN B), (Value.bool (decide (b < B))), (z 31), (z 32), (eN j), ub, (eN bad.length), (Value.bool (decide (j < bad.length))), (z 37), (z 38), (Value.bool true), (Value.bool true), ub] ++ (zs z 42 21 ++ (us 26))) ?_
     refine wpL.onis rfl rfl rfl (nb rfl) rfl (d_move rfl) ?_
     refine wpL.on rfl rfl rfl (nb rfl) rfl (d_indexS (q := (kA 2 eQ)) (xs := bad) (v := (bad.getD j (0, 0))) Try.underlying42 s_ti53 rfl hb (show _ = Value.int _ ((j : Nat) : Int) from rfl) (by omega) (g_at (by first | omega | (simp; done) | (simp; omega)))) ?_
     rintro u27 _ ⟨f28, rfl⟩
     refine wpL.onis rfl rfl rfl (nb rfl) rfl (d_loadAtA (enc := eQ) (v := (bad.getD j (0, 0))) ⟨_, Try.underlying53, rfl⟩ s_ti53 rfl f28) ?_
     refine wF ([(Value.agg #[(eN D), (eN B), (eN Q)]), ub, (ptr gg 0), undef, (Value.slice none 0 0), u_dies, (eN (nMin bad B d)), (eN d), u_good, (eN b), (Value.bool true), (eN j), undef, undef, undef, undef, (Value.agg #[(eN D), (eN B), (eN Q)]), (eN 0), (Value.bool false), (ptr gg 1), (eN B), (eN d), (ptr gg 0), (eN D), (Value.bool (decide (d < D))), (z 25), (z 26), (eN b), (ptr gg 1), (eN B), (Value.bool (decide (b < B))), (z 31), (z 32), (eN j), ub, (eN bad.length), (Value.bool (decide (j < bad.length))), (z 37), (z 38), (Value.bool true), (Value.bool true), ub, (eN j), u27, (Value.agg #[(eI ((bad.getD j (0, 0)).1)), (eI ((bad.getD j (0, 0)).2))])] ++ (zs z 45 18 ++ (us 26))) ?_
     refine wpL.onis rfl rfl rfl (nb rfl) rfl (d_move rfl) ?_
     refine wpL.onis rfl rfl rfl (nb rfl) rfl (d_move rfl) ?_
     refine wpL.onis rfl rfl rfl (nb rfl) rfl (d_buildA (zs := [(eN 0), (eN 0)]) (cs := [(eN d), (eN b)]) Try.underlying53 s_ti53 s_ti3 rfl (parts_cons (vs := [(eN d)]) (cells_of (v := (eN d)) rfl rfl) (parts_cons (vs := [(eN b)]) (cells_of (v := (eN b)) rfl rfl) parts_nil)) rfl) ?_
     refine wF ([(Value.agg #[(eN D), (eN B), (eN Q)]), ub, (ptr gg 0), undef, (Value.slice none 0 0), u_dies, (eN (nMin bad B d)), (eN d), u_good, (eN b), (Value.bool true), (eN j), undef, undef, undef, undef, (Value.agg #[(eN D), (eN B), (eN Q)]), (eN 0), (Value.bool false), (ptr gg 1), (eN B), (eN d), (ptr gg 0), (eN D), (Value.bool (decide (d < D))), (z 25), (z 26), (eN b), (ptr gg 1), (eN B), (Value.bool (decide (b < B))), (z 31), (z 32), (eN j), ub, (eN bad.length), (Value.bool (decide (j < bad.length))), (z 37), (z 38), (Value.bool true), (Value.bool true), ub, (eN j), u27, (Value.agg #[(eI ((bad.getD j (0, 0)).1)), (eI ((bad.getD j (0, 0)).2))]), (eN d), (eN b), (Value.agg #[(eN d), (eN b)])] ++ (zs z 48 15 ++ (us 26))) ?_
     refine wpL.onis rfl rfl rfl (nb rfl) rfl (d_neqlPair (a := ((bad.getD j (0, 0)).1)) (b := ((bad.getD j (0, 0)).2)) (c := ((d : Nat) : Int)) (d := ((b : Nat) : Int)) Try.underlying53 Try.underlying3 s_ti3 (by kernel_rfl) (by kernel_rfl) rfl rfl rfl) ?_
     refine wI (d_pick (b := true) (v := (Value.bool (!decide (((bad.getD j (0, 0)).1) = ((d : Nat) : Int) ∧ ((bad.getD j (0, 0)).2) = ((b : Nat) : Int))))) rfl rfl) ?_
     refine wI (d_assign rfl) ?_
     refine wF ([(Value.agg #[(eN D), (eN B), (eN Q)]), ub, (ptr gg 0), undef, (Value.slice none 0 0), u_dies, (eN (nMin bad B d)), (eN d), u_good, (eN b), (Value.bool (!decide (((bad.getD j (0, 0)).1) = ((d : Nat) : Int) ∧ ((bad.getD j (0, 0)).2) = ((b : Nat) : Int)))), (eN j), undef, undef, undef, undef, (Value.agg #[(eN D), (eN B), (eN Q)]), (eN 0), (Value.bool false), (ptr gg 1), (eN B), (eN d), (ptr gg 0), (eN D), (Value.bool (decide (d < D))), (z 25), (z 26), (eN b), (ptr gg 1), (eN B), (Value.bool (decide (b < B))), (z 31), (z 32), (eN j), ub, (eN bad.length), (Value.bool (decide (j < bad.length))), (z 37), (z 38), (Value.bool true), (Value.bool true), ub, (eN j), u27, (Value.agg #[(eI ((bad.getD j (0, 0)).1)), (eI ((bad.getD j (0, 0)).2))]), (eN d), (eN b), (Value.agg #[(eN d), (eN b)]), (Value.bool (!decide (((bad.getD j (0, 0)).1) = ((d : Nat) : Int) ∧ ((bad.getD j (0, 0)).2) = ((b : Nat) : Int)))), (Value.bool (!decide (((bad.getD j (0, 0)).1) = ((d : Nat) : Int) ∧ ((bad.getD j (0, 0)).2) = ((b : Nat) : Int))))] ++ (zs z 50 13 ++ (us 26))) ?_
     refine wpL.done ?_
     refine inb_n (then_n ?_)
     refine plain ?_
     refine wI (d_move rfl) ?_
     refine wI (n_add (a := j) (b := 1) rfl rfl (by omega)) ?_
     refine wI (d_assign rfl) ?_
     refine wF ([(Value.agg #[(eN D), (eN B), (eN Q)]), ub, (ptr gg 0), undef, (Value.slice none 0 0), u_dies, (eN (nMin bad B d)), (eN d), u_good, (eN b), (Value.bool (!decide (((bad.getD j (0, 0)).1) = ((d : Nat) : Int) ∧ ((bad.getD j (0, 0)).2) = ((b : Nat) : Int)))), (eN (j + 1)), undef, undef, undef, undef, (Value.agg #[(eN D), (eN B), (eN Q)]), (eN 0), (Value.bool false), (ptr gg 1), (eN B), (eN d), (ptr gg 0), (eN D), (Value.bool (decide (d < D))), (z 25), (z 26), (eN b), (ptr gg 1), (eN B), (Value.bool (decide (b < B))), (z 31), (z 32), (eN j), ub, (eN bad.length), (Value.bool (decide (j < bad.length))), (eN j), (eN (j + 1)), (Value.bool true), (Value.bool true), ub, (eN j), u27, (Value.agg #[(eI ((bad.getD j (0, 0)).1)), (eI ((bad.getD j (0, 0)).2))]), (eN d), (eN b), (Value.agg #[(eN d), (eN b)]), (Value.bool (!decide (((bad.getD j (0, 0)).1) = ((d : Nat) : Int) ∧ ((bad.getD j (0, 0)).2) = ((b : Nat) : Int)))), (Value.bool (!decide (((bad.getD j (0, 0)).1) = ((d : Nat) : Int) ∧ ((bad.getD j (0, 0)).2) = ((b : Nat) : Int))))] ++ (zs z 50 13 ++ (us 26))) ?_
     refine wpL.done ?_
     refine then_n ?_
     refine ⟨([(Value.agg #[(eN D), (eN B), (eN Q)]), ub, (ptr gg 0), undef, (Value.slice none 0 0), u_dies, (eN (nMin bad B d)), (eN d), u_good, (eN b), (Value.bool (clearL bad d b (j + 1))), (eN (j + 1)), undef, undef, undef, undef, (Value.agg #[(eN D), (eN B), (eN Q)]), (eN 0), (Value.bool false), (ptr gg 1), (eN B), (eN d), (ptr gg 0), (eN D), (Value.bool (decide (d < D))), (z 25), (z 26), (eN b), (ptr gg 1), (eN B), (Value.bool (decide (b < B))), (z 31), (z 32), (eN j), ub, (eN bad.length), (Value.bool (decide (j < bad.length))), (eN j), (eN (j + 1)), (Value.bool true), (Value.bool true), ub, (eN j), u27, (Value.agg #[(eI ((bad.getD j (0, 0)).1)), (eI ((bad.getD j (0, 0)).2))]), (eN d), (eN b), (Value.agg #[(eN d), (eN b)]), (Value.bool (!decide (((bad.getD j (0, 0)).1) = ((d : Nat) : Int) ∧ ((bad.getD j (0, 0)).2) = ((b : Nat) : Int)))), (Value.bool (!decide (((bad.getD j (0, 0)).1) = ((d : Nat) : Int) ∧ ((bad.getD j (0, 0)).2) = ((b : Nat) : Int))))] ++ (zs z 50 13 ++ (us 26))), (j + 1), (congrArg (fun l_ => fr l_ _) (show (([(Value.agg #[(eN D), (eN B), (eN Q)]), ub, (ptr gg 0), undef, (Value.slice none 0 0), u_dies, (eN (nMin bad B d)), (eN d), u_good, (eN b), (Value.bool (!decide (((bad.getD j (0, 0)).1) = ((d : Nat) : Int) ∧ ((bad.getD j (0, 0)).2) = ((b : Nat) : Int)))), (eN (j + 1)), undef, undef, undef, undef, (Value.agg #[(eN D), (eN B), (eN Q)]), (eN 0), (Value.bool false), (ptr gg 1), (eN B), (eN d), (ptr gg 0), (eN D), (Value.bool (decide (d < D))), (z 25), (z 26), (eN b), (ptr gg 1), (eN B), (Value.bool (decide (b < B))), (z 31), (z 32), (eN j), ub, (eN bad.length), (Value.bool (decide (j < bad.length))), (eN j), (eN (j + 1)), (Value.bool true), (Value.bool true), ub, (eN j), u27, (Value.agg #[(eI ((bad.getD j (0, 0)).1)), (eI ((bad.getD j (0, 0)).2))]), (eN d), (eN b), (Value.agg #[(eN d), (eN b)]), (Value.bool (!decide (((bad.getD j (0, 0)).1) = ((d : Nat) : Int) ∧ ((bad.getD j (0, 0)).2) = ((b : Nat) : Int)))), (Value.bool (!decide (((bad.getD j (0, 0)).1) = ((d : Nat) : Int) ∧ ((bad.getD j (0, 0)).2) = ((b : Nat) : Int))))] ++ (zs z 50 13 ++ (us 26))) : List Value) = ([(Value.agg #[(eN D), (eN B), (eN Q)]), ub, (ptr gg 0), undef, (Value.slice none 0 0), u_dies, (eN (nMin bad B d)), (eN d), u_good, (eN b), (Value.bool (clearL bad d b (j + 1))), (eN (j + 1)), undef, undef, undef, undef, (Value.agg #[(eN D), (eN B), (eN Q)]), (eN 0), (Value.bool false), (ptr gg 1), (eN B), (eN d), (ptr gg 0), (eN D), (Value.bool (decide (d < D))), (z 25), (z 26), (eN b), (ptr gg 1), (eN B), (Value.bool (decide (b < B))), (z 31), (z 32), (eN j), ub, (eN bad.length), (Value.bool (decide (j < bad.length))), (eN j), (eN (j + 1)), (Value.bool true), (Value.bool true), ub, (eN j), u27, (Value.agg #[(eI ((bad.getD j (0, 0)).1)), (eI ((bad.getD j (0, 0)).2))]), (eN d), (eN b), (Value.agg #[(eN d), (eN b)]), (Value.bool (!decide (((bad.getD j (0, 0)).1) = ((d : Nat) : Int) ∧ ((bad.getD j (0, 0)).2) = ((b : Nat) : Int)))), (Value.bool (!decide (((bad.getD j (0, 0)).1) = ((d : Nat) : Int) ∧ ((bad.getD j (0, 0)).2) = ((b : Nat) : Int))))] ++ (zs z 50 13 ++ (us 26))) from reslot ([(Value.agg #[(eN D), (eN B), (eN Q)]), ub, (ptr gg 0), undef, (Value.slice none 0 0), u_dies, (eN (nMin bad B d)), (eN d), u_good, (eN b), (Value.bool (!decide (((bad.getD j (0, 0)).1) = ((d : Nat) : Int) ∧ ((bad.getD j (0, 0)).2) = ((b : Nat) : Int)))), (eN (j + 1)), undef, undef, undef, undef, (Value.agg #[(eN D), (eN B), (eN Q)]), (eN 0), (Value.bool false), (ptr gg 1), (eN B), (eN d), (ptr gg 0), (eN D), (Value.bool (decide (d < D))), (z 25), (z 26), (eN b), (ptr gg 1), (eN B), (Value.bool (decide (b < B))), (z 31), (z 32), (eN j), ub, (eN bad.length), (Value.bool (decide (j < bad.length))), (eN j), (eN (j + 1)), (Value.bool true), (Value.bool true), ub, (eN j), u27, (Value.agg #[(eI ((bad.getD j (0, 0)).1)), (eI ((bad.getD j (0, 0)).2))]), (eN d), (eN b), (Value.agg #[(eN d), (eN b)]), (Value.bool (!decide (((bad.getD j (0, 0)).1) = ((d : Nat) : Int) ∧ ((bad.getD j (0, 0)).2) = ((b : Nat) : Int)))), (Value.bool (!decide (((bad.getD j (0, 0)).1) = ((d : Nat) : Int) ∧ ((bad.getD j (0, 0)).2) = ((b : Nat) : Int))))] ++ (zs z 50 13 ++ (us 26))) 10 (congrArg Value.bool (clear_step hj kc_)))), rfl, ⟨?_, ?_, ?_, ?_, ?_⟩, ?_⟩
     ·
      (try dsimp only)
      all_goals (omega)
     ·
      exact o25
     ·
      exact a13
     ·
      exact a17
     ·
      exact a21
     ·
      (try dsimp only)
      all_goals (omega)
    refine wp_eq (l' := ([(Value.agg #[(eN D), (eN B), (eN Q)]), ub, (ptr gg 0), undef, (Value.slice none 0 0), u_dies, (eN (nMin bad B d)), (eN d), u_good, (eN b), (Value.bool false), (eN j), undef, undef, undef, undef, (Value.agg #[(eN D), (eN B), (eN Q)]), (eN 0), (Value.bool false), (ptr gg 1), (eN B), (eN d), (ptr gg 0), (eN D), (Value.bool (decide (d < D))), (z 25), (z 26), (eN b), (ptr gg 1), (eN B), (Value.bool (decide (b < B))), (z 31), (z 32), (eN j), ub, (eN bad.length), (Value.bool (decide (j < bad.length)))] ++ (zs z 37 26 ++ (us 26)))) (show (([(Value.agg #[(eN D), (eN B), (eN Q)]), ub, (ptr gg 0), undef, (Value.slice none 0 0), u_dies, (eN (nMin bad B d)), (eN d), u_good, (eN b), (Value.bool (clearL bad d b j)), (eN j), undef, undef, undef, undef, (Value.agg #[(eN D), (eN B), (eN Q)]), (eN 0), (Value.bool false), (ptr gg 1), (eN B), (eN d), (ptr gg 0), (eN D), (Value.bool (decide (d < D))), (z 25), (z 26), (eN b), (ptr gg 1), (eN B), (Value.bool (decide (b < B))), (z 31), (z 32), (eN j), ub, (eN bad.length), (Value.bool (decide (j < bad.length)))] ++ (zs z 37 26 ++ (us 26))) : List Value) = ([(Value.agg #[(eN D), (eN B), (eN Q)]), ub, (ptr gg 0), undef, (Value.slice none 0 0), u_dies, (eN (nMin bad B d)), (eN d), u_good, (eN b), (Value.bool false), (eN j), undef, undef, undef, undef, (Value.agg #[(eN D), (eN B), (eN Q)]), (eN 0), (Value.bool false), (ptr gg 1), (eN B), (eN d), (ptr gg 0), (eN D), (Value.bool (decide (d < D))), (z 25), (z 26), (eN b), (ptr gg 1), (eN B), (Value.bool (decide (b < B))), (z 31), (z 32), (eN j), ub, (eN bad.length), (Value.bool (decide (j < bad.length)))] ++ (zs z 37 26 ++ (us 26))) from reslot ([(Value.agg #[(eN D), (eN B), (eN Q)]), ub, (ptr gg 0), undef, (Value.slice none 0 0), u_dies, (eN (nMin bad B d)), (eN d), u_good, (eN b), (Value.bool (clearL bad d b j)), (eN j), undef, undef, undef, undef, (Value.agg #[(eN D), (eN B), (eN Q)]), (eN 0), (Value.bool false), (ptr gg 1), (eN B), (eN d), (ptr gg 0), (eN D), (Value.bool (decide (d < D))), (z 25), (z 26), (eN b), (ptr gg 1), (eN B), (Value.bool (decide (b < B))), (z 31), (z 32), (eN j), ub, (eN bad.length), (Value.bool (decide (j < bad.length)))] ++ (zs z 37 26 ++ (us 26))) 10 (congrArg Value.bool (Bool.eq_false_iff.2 kc_))) ?_
    refine plain ?_
    refine wI (d_move rfl) ?_
    refine wI (d_move rfl) ?_
    refine wF ([(Value.agg #[(eN D), (eN B), (eN Q)]), ub, (ptr gg 0), undef, (Value.slice none 0 0), u_dies, (eN (nMin bad B d)), (eN d), u_good, (eN b), (Value.bool false), (eN j), undef, undef, undef, undef, (Value.agg #[(eN D), (eN B), (eN Q)]), (eN 0), (Value.bool false), (ptr gg 1), (eN B), (eN d), (ptr gg 0), (eN D), (Value.bool (decide (d < D))), (z 25), (z 26), (eN b), (ptr gg 1), (eN B), (Value.bool (decide (b < B))), (z 31), (z 32), (eN j), ub, (eN bad.length), (Value.bool (decide (j < bad.length))), (z 37), (z 38), (Value.bool false), (Value.bool false)] ++ (zs z 41 22 ++ (us 26))) ?_
    refine wpL.off rfl rfl rfl (nb rfl) rfl ?_
    refine wpL.off rfl rfl rfl (nb rfl) rfl ?_
    refine wpL.off rfl rfl rfl (nb rfl) rfl ?_
    refine wF ([(Value.agg #[(eN D), (eN B), (eN Q)]), ub, (ptr gg 0), undef, (Value.slice none 0 0), u_dies, (eN (nMin bad B d)), (eN d), u_good, (eN b), (Value.bool false), (eN j), undef, undef, undef, undef, (Value.agg #[(eN D), (eN B), (eN Q)]), (eN 0), (Value.bool false), (ptr gg 1), (eN B), (eN d), (ptr gg 0), (eN D), (Value.bool (decide (d < D))), (z 25), (z 26), (eN b), (ptr gg 1), (eN B), (Value.bool (decide (b < B))), (z 31), (z 32), (eN j), ub, (eN bad.length), (Value.bool (decide (j < bad.length))), (z 37), (z 38), (Value.bool false), (Value.bool false), undef, undef, undef] ++ (zs z 44 19 ++ (us 26))) ?_
    refine wpL.off rfl rfl rfl (nb rfl) rfl ?_
    refine wpL.off rfl rfl rfl (nb rfl) rfl ?_
    refine wpL.off rfl rfl rfl (nb rfl) rfl ?_
    refine wF ([(Value.agg #[(eN D), (eN B), (eN Q)]), ub, (ptr gg 0), undef, (Value.slice none 0 0), u_dies, (eN (nMin bad B d)), (eN d), u_good, (eN b), (Value.bool false), (eN j), undef, undef, undef, undef, (Value.agg #[(eN D), (eN B), (eN Q)]), (eN 0), (Value.bool false), (ptr gg 1), (eN B), (eN d), (ptr gg 0), (eN D), (Value.bool (decide (d < D))), (z 25), (z 26), (eN b), (ptr gg 1), (eN B), (Value.bool (decide (b < B))), (z 31), (z 32), (eN j), ub, (eN bad.length), (Value.bool (decide (j < bad.length))), (z 37), (z 38), (Value.bool false), (Value.bool false)] ++ (us 6 ++ (zs z 47 16 ++ (us 26)))) ?_
    refine wpL.off rfl rfl rfl (nb rfl) rfl ?_
    refine wpL.off rfl rfl rfl (nb rfl) rfl ?_
    refine wI (d_pick (b := false) (v := (Value.bool false)) rfl rfl) ?_
    refine wI (d_assign rfl) ?_
    refine wF ([(Value.agg #[(eN D), (eN B), (eN Q)]), ub, (ptr gg 0), undef, (Value.slice none 0 0), u_dies, (eN (nMin bad B d)), (eN d), u_good, (eN b), (Value.bool false), (eN j), undef, undef, undef, undef, (Value.agg #[(eN D), (eN B), (eN Q)]), (eN 0), (Value.bool false), (ptr gg 1), (eN B), (eN d), (ptr gg 0), (eN D), (Value.bool (decide (d < D))), (z 25), (z 26), (eN b), (ptr gg 1), (eN B), (Value.bool (decide (b < B))), (z 31), (z 32), (eN j), ub, (eN bad.length), (Value.bool (decide (j < bad.length))), (z 37), (z 38), (Value.bool false), (Value.bool false)] ++ (us 8 ++ [(Value.bool false)] ++ (zs z 50 13 ++ (us 26)))) ?_
    refine wpL.done ?_
    refine inb_n (then_n ?_)
    refine plain ?_
    refine wI (d_move rfl) ?_
    refine wI (n_add (a := j) (b := 1) rfl rfl (by omega)) ?_
    refine wI (d_assign rfl) ?_
    refine wF ([(Value.agg #[(eN D), (eN B), (eN Q)]), ub, (ptr gg 0), undef, (Value.slice none 0 0), u_dies, (eN (nMin bad B d)), (eN d), u_good, (eN b), (Value.bool false), (eN (j + 1)), undef, undef, undef, undef, (Value.agg #[(eN D), (eN B), (eN Q)]), (eN 0), (Value.bool false), (ptr gg 1), (eN B), (eN d), (ptr gg 0), (eN D), (Value.bool (decide (d < D))), (z 25), (z 26), (eN b), (ptr gg 1), (eN B), (Value.bool (decide (b < B))), (z 31), (z 32), (eN j), ub, (eN bad.length), (Value.bool (decide (j < bad.length))), (eN j), (eN (j + 1)), (Value.bool false), (Value.bool false)] ++ (us 8 ++ [(Value.bool false)] ++ (zs z 50 13 ++ (us 26)))) ?_
    refine wpL.done ?_
    refine then_n ?_
    refine ⟨([(Value.agg #[(eN D), (eN B), (eN Q)]), ub, (ptr gg 0), undef, (Value.slice none 0 0), u_dies, (eN (nMin bad B d)), (eN d), u_good, (eN b), (Value.bool (clearL bad d b (j + 1))), (eN (j + 1)), undef, undef, undef, undef, (Value.agg #[(eN D), (eN B), (eN Q)]), (eN 0), (Value.bool false), (ptr gg 1), (eN B), (eN d), (ptr gg 0), (eN D), (Value.bool (decide (d < D))), (z 25), (z 26), (eN b), (ptr gg 1), (eN B), (Value.bool (decide (b < B))), (z 31), (z 32), (eN j), ub, (eN bad.length), (Value.bool (decide (j < bad.length))), (eN j), (eN (j + 1)), (Value.bool false), (Value.bool false)] ++ (us 8 ++ [(Value.bool false)] ++ (zs z 50 13 ++ (us 26)))), (j + 1), (congrArg (fun l_ => fr l_ _) (show (([(Value.agg #[(eN D), (eN B), (eN Q)]), ub, (ptr gg 0), undef, (Value.slice none 0 0), u_dies, (eN (nMin bad B d)), (eN d), u_good, (eN b), (Value.bool false), (eN (j + 1)), undef, undef, undef, undef, (Value.agg #[(eN D), (eN B), (eN Q)]), (eN 0), (Value.bool false), (ptr gg 1), (eN B), (eN d), (ptr gg 0), (eN D), (Value.bool (decide (d < D))), (z 25), (z 26), (eN b), (ptr gg 1), (eN B), (Value.bool (decide (b < B))), (z 31), (z 32), (eN j), ub, (eN bad.length), (Value.bool (decide (j < bad.length))), (eN j), (eN (j + 1)), (Value.bool false), (Value.bool false)] ++ (us 8 ++ [(Value.bool false)] ++ (zs z 50 13 ++ (us 26)))) : List Value) = ([(Value.agg #[(eN D), (eN B), (eN Q)]), ub, (ptr gg 0), undef, (Value.slice none 0 0), u_dies, (eN (nMin bad B d)), (eN d), u_good, (eN b), (Value.bool (clearL bad d b (j + 1))), (eN (j + 1)), undef, undef, undef, undef, (Value.agg #[(eN D), (eN B), (eN Q)]), (eN 0), (Value.bool false), (ptr gg 1), (eN B), (eN d), (ptr gg 0), (eN D), (Value.bool (decide (d < D))), (z 25), (z 26), (eN b), (ptr gg 1), (eN B), (Value.bool (decide (b < B))), (z 31), (z 32), (eN j), ub, (eN bad.length), (Value.bool (decide (j < bad.length))), (eN j), (eN (j + 1)), (Value.bool false), (Value.bool false)] ++ (us 8 ++ [(Value.bool false)] ++ (zs z 50 13 ++ (us 26)))) from reslot ([(Value.agg #[(eN D), (eN B), (eN Q)]), ub, (ptr gg 0), undef, (Value.slice none 0 0), u_dies, (eN (nMin bad B d)), (eN d), u_good, (eN b), (Value.bool false), (eN (j + 1)), undef, undef, undef, undef, (Value.agg #[(eN D), (eN B), (eN Q)]), (eN 0), (Value.bool false), (ptr gg 1), (eN B), (eN d), (ptr gg 0), (eN D), (Value.bool (decide (d < D))), (z 25), (z 26), (eN b), (ptr gg 1), (eN B), (Value.bool (decide (b < B))), (z 31), (z 32), (eN j), ub, (eN bad.length), (Value.bool (decide (j < bad.length))), (eN j), (eN (j + 1)), (Value.bool false), (Value.bool false)] ++ (us 8 ++ [(Value.bool false)] ++ (zs z 50 13 ++ (us 26)))) 10 (congrArg Value.bool (clear_no hj kc_)))), rfl, ⟨?_, ?_, ?_, ?_, ?_⟩, ?_⟩
    ·
     (try dsimp only)
     all_goals (omega)
    ·
     exact o25
    ·
     exact a13
    ·
     exact a17
    ·
     exact a21
    ·
     (try dsimp only)
     all_goals (omega)
   refine wpIn_exit ?_
   refine then_x (then_x (inb_e ?_))
   refine then_n ?_
   refine wpIn_seq ?_
   by_cases kb_ : isBadL bad d b = true
   ·
    refine wp_eq (l' := ([(Value.agg #[(eN D), (eN B), (eN Q)]), ub, (ptr gg 0), undef, (Value.slice none 0 0), u_dies, (eN (nMin bad B d)), (eN d), u_good, (eN b), (Value.bool false), (eN j), undef, undef, undef, undef, (Value.agg #[(eN D), (eN B), (eN Q)]), (eN 0), (Value.bool false), (ptr gg 1), (eN B), (eN d), (ptr gg 0), (eN D), (Value.bool (decide (d < D))), (z 25), (z 26), (eN b), (ptr gg 1), (eN B), (Value.bool (decide (b < B))), (z 31), (z 32), (eN j), ub, (eN bad.length), (Value.bool (decide (j < bad.length)))] ++ (zs z 37 26 ++ (us 26)))) (show (([(Value.agg #[(eN D), (eN B), (eN Q)]), ub, (ptr gg 0), undef, (Value.slice none 0 0), u_dies, (eN (nMin bad B d)), (eN d), u_good, (eN b), (Value.bool (clearL bad d b j)), (eN j), undef, undef, undef, undef, (Value.agg #[(eN D), (eN B), (eN Q)]), (eN 0), (Value.bool false), (ptr gg 1), (eN B), (eN d), (ptr gg 0), (eN D), (Value.bool (decide (d < D))), (z 25), (z 26), (eN b), (ptr gg 1), (eN B), (Value.bool (decide (b < B))), (z 31), (z 32), (eN j), ub, (eN bad.length), (Value.bool (decide (j < bad.length)))] ++ (zs z 37 26 ++ (us 26))) : List Value) = ([(Value.agg #[(eN D), (eN B), (eN Q)]), ub, (ptr gg 0), undef, (Value.slice none 0 0), u_dies, (eN (nMin bad B d)), (eN d), u_good, (eN b), (Value.bool false), (eN j), undef, undef, undef, undef, (Value.agg #[(eN D), (eN B), (eN Q)]), (eN 0), (Value.bool false), (ptr gg 1), (eN B), (eN d), (ptr gg 0), (eN D), (Value.bool (decide (d < D))), (z 25), (z 26), (eN b), (ptr gg 1), (eN B), (Value.bool (decide (b < B))), (z 31), (z 32), (eN j), ub, (eN bad.length), (Value.bool (decide (j < bad.length)))] ++ (zs z 37 26 ++ (us 26))) from reslot ([(Value.agg #[(eN D), (eN B), (eN Q)]), ub, (ptr gg 0), undef, (Value.slice none 0 0), u_dies, (eN (nMin bad B d)), (eN d), u_good, (eN b), (Value.bool (clearL bad d b j)), (eN j), undef, undef, undef, undef, (Value.agg #[(eN D), (eN B), (eN Q)]), (eN 0), (Value.bool false), (ptr gg 1), (eN B), (eN d), (ptr gg 0), (eN D), (Value.bool (decide (d < D))), (z 25), (z 26), (eN b), (ptr gg 1), (eN B), (Value.bool (decide (b < B))), (z 31), (z 32), (eN j), ub, (eN bad.length), (Value.bool (decide (j < bad.length)))] ++ (zs z 37 26 ++ (us 26))) 10 (congrArg Value.bool (by rw [clear_end (show j = bad.length by omega)]; simp [kb_]))) ?_
    refine plain ?_
    refine wI (d_move rfl) ?_
    refine wF ([(Value.agg #[(eN D), (eN B), (eN Q)]), ub, (ptr gg 0), undef, (Value.slice none 0 0), u_dies, (eN (nMin bad B d)), (eN d), u_good, (eN b), (Value.bool false), (eN j), undef, undef, undef, undef, (Value.agg #[(eN D), (eN B), (eN Q)]), (eN 0), (Value.bool false), (ptr gg 1), (eN B), (eN d), (ptr gg 0), (eN D), (Value.bool (decide (d < D))), (z 25), (z 26), (eN b), (ptr gg 1), (eN B), (Value.bool (decide (b < B))), (z 31), (z 32), (eN j), ub, (eN bad.length), (Value.bool (decide (j < bad.length)))] ++ (zs z 37 13 ++ [(Value.bool false)] ++ (zs z 51 12 ++ (us 26)))) ?_
    refine wpL.done ?_
    refine then_n ?_
    refine cond_f rfl ?_
    refine wpIn_skip ?_
    refine inb_n (then_n ?_)
    refine plain ?_
    refine wI (d_move rfl) ?_
    refine wI (n_add (a := b) (b := 1) rfl rfl (by omega)) ?_
    refine wI (d_assign rfl) ?_
    refine wF ([(Value.agg #[(eN D), (eN B), (eN Q)]), ub, (ptr gg 0), undef, (Value.slice none 0 0), u_dies, (eN (nMin bad B d)), (eN d), u_good, (eN (b + 1)), (Value.bool false), (eN j), undef, undef, undef, undef, (Value.agg #[(eN D), (eN B), (eN Q)]), (eN 0), (Value.bool false), (ptr gg 1), (eN B), (eN d), (ptr gg 0), (eN D), (Value.bool (decide (d < D))), (z 25), (z 26), (eN b), (ptr gg 1), (eN B), (Value.bool (decide (b < B))), (eN b), (eN (b + 1)), (eN j), ub, (eN bad.length), (Value.bool (decide (j < bad.length)))] ++ (zs z 37 13 ++ [(Value.bool false)] ++ (zs z 51 12 ++ (us 26)))) ?_
    refine wpL.done ?_
    refine then_n ?_
    refine ⟨_, ⟨b + 1, bo_good, u_good⟩, rfl, rfl, ⟨?_, ?_, ?_, ?_, ?_, ?_⟩, ?_⟩
    ·
     (try dsimp only)
     all_goals (omega)
    ·
     exact o22
    ·
     exact a13
    ·
     exact a17
    ·
     (try dsimp only)
     all_goals (rw [good_yes kb_]; exact a21)
    ·
     exact q_o22_good
    ·
     (try dsimp only)
     all_goals (omega)
   refine wp_eq (l' := ([(Value.agg #[(eN D), (eN B), (eN Q)]), ub, (ptr gg 0), undef, (Value.slice none 0 0), u_dies, (eN (nMin bad B d)), (eN d), u_good, (eN b), (Value.bool true), (eN j), undef, undef, undef, undef, (Value.agg #[(eN D), (eN B), (eN Q)]), (eN 0), (Value.bool false), (ptr gg 1), (eN B), (eN d), (ptr gg 0), (eN D), (Value.bool (decide (d < D))), (z 25), (z 26), (eN b), (ptr gg 1), (eN B), (Value.bool (decide (b < B))), (z 31), (z 32), (eN j), ub, (eN bad.length), (Value.bool (decide (j < bad.length)))] ++ (zs z 37 26 ++ (us 26)))) (show (([(Value.agg #[(eN D), (eN B), (eN Q)]), ub, (ptr gg 0), undef, (Value.slice none 0 0), u_dies, (eN (nMin bad B d)), (eN d), u_good, (eN b), (Value.bool (clearL bad d b j)), (eN j), undef, undef, undef, undef, (Value.agg #[(eN D), (eN B), (eN Q)]), (eN 0), (Value.bool false), (ptr gg 1), (eN B), (eN d), (ptr gg 0), (eN D), (Value.bool (decide (d < D))), (z 25), (z 26), (eN b), (ptr gg 1), (eN B), (Value.bool (decide (b < B))), (z 31), (z 32), (eN j), ub, (eN bad.length), (Value.bool (decide (j < bad.length)))] ++ (zs z 37 26 ++ (us 26))) : List Value) = ([(Value.agg #[(eN D), (eN B), (eN Q)]), ub, (ptr gg 0), undef, (Value.slice none 0 0), u_dies, (eN (nMin bad B d)), (eN d), u_good, (eN b), (Value.bool true), (eN j), undef, undef, undef, undef, (Value.agg #[(eN D), (eN B), (eN Q)]), (eN 0), (Value.bool false), (ptr gg 1), (eN B), (eN d), (ptr gg 0), (eN D), (Value.bool (decide (d < D))), (z 25), (z 26), (eN b), (ptr gg 1), (eN B), (Value.bool (decide (b < B))), (z 31), (z 32), (eN j), ub, (eN bad.length), (Value.bool (decide (j < bad.length)))] ++ (zs z 37 26 ++ (us 26))) from reslot ([(Value.agg #[(eN D), (eN B), (eN Q)]), ub, (ptr gg 0), undef, (Value.slice none 0 0), u_dies, (eN (nMin bad B d)), (eN d), u_good, (eN b), (Value.bool (clearL bad d b j)), (eN j), undef, undef, undef, undef, (Value.agg #[(eN D), (eN B), (eN Q)]), (eN 0), (Value.bool false), (ptr gg 1), (eN B), (eN d), (ptr gg 0), (eN D), (Value.bool (decide (d < D))), (z 25), (z 26), (eN b), (ptr gg 1), (eN B), (Value.bool (decide (b < B))), (z 31), (z 32), (eN j), ub, (eN bad.length), (Value.bool (decide (j < bad.length)))] ++ (zs z 37 26 ++ (us 26))) 10 (congrArg Value.bool (by rw [clear_end (show j = bad.length by omega)]; simp [kb_]))) ?_
   refine plain ?_
   refine wI (d_move rfl) ?_
   refine wF ([(Value.agg #[(eN D), (eN B), (eN Q)]), ub, (ptr gg 0), undef, (Value.slice none 0 0), u_dies, (eN (nMin bad B d)), (eN d), u_good, (eN b), (Value.bool true), (eN j), undef, undef, undef, undef, (Value.agg #[(eN D), (eN B), (eN Q)]), (eN 0), (Value.bool false), (ptr gg 1), (eN B), (eN d), (ptr gg 0), (eN D), (Value.bool (decide (d < D))), (z 25), (z 26), (eN b), (ptr gg 1), (eN B), (Value.bool (decide (b < B))), (z 31), (z 32), (eN j), ub, (eN bad.length), (Value.bool (decide (j < bad.length)))] ++ (zs z 37 13 ++ [(Value.bool true)] ++ (zs z 51 12 ++ (us 26)))) ?_
   refine wpL.done ?_
   refine then_n ?_
   refine cond_t rfl ?_
   refine plain ?_
   refine wI (d_move rfl) ?_
   refine wI (d_move rfl) ?_
   refine wO (d_buildL (cs := [(eN b)]) Try.underlying29 s_ti3 rfl (nb rfl) (parts_cons (vs := [(eN b)]) (cells_of (v := (eN b)) rfl rfl) parts_nil) rfl) ?_
   rintro _ w30 ⟨b29, rfl, g31, a32, o33⟩
   replace a32 : Arr 3 b29 (([b] : List Nat).map eN) w30 := a32
   have l_b29 : ([b] : List Nat).length = 1 := rfl
   have n_gg_b29 : gg ≠ b29 := a13.ne g31
   have nq_dies_b29 : ∀ x, bo_dies = some x → ¬ x = b29 := fun x hx e => by have := a17.lts x hx; omega
   have nq_good_b29 : ∀ x, bo_good = some x → ¬ x = b29 := fun x hx e => by have := a21.lts x hx; omega
   have g_oW_b29 : W.heap.size ≤ b29 := Nat.le_trans oW.size g31
   have g_o18_b29 : w15.heap.size ≤ b29 := Nat.le_trans o18.size g31
   have g_o22_b29 : w19.heap.size ≤ b29 := Nat.le_trans o22.size g31
   have g_o25_b29 : w23.heap.size ≤ b29 := Nat.le_trans o25.size g31
   replace hb := hb.new o33 g31
   replace hF := hF.new o33 g31
   replace a13 := a13.step0 o33
   replace a17 := a17.step0 o33
   replace a21 := a21.step0 o33
   replace oW := oW.tail0 o33
   replace o18 := o18.tail0 o33
   replace o22 := o22.tail0 o33
   replace o25 := o25.tail0 o33
   refine wF ([(Value.agg #[(eN D), (eN B), (eN Q)]), ub, (ptr gg 0), undef, (Value.slice none 0 0), u_dies, (eN (nMin bad B d)), (eN d), u_good, (eN b), (Value.bool true), (eN j), undef, undef, undef, undef, (Value.agg #[(eN D), (eN B), (eN Q)]), (eN 0), (Value.bool false), (ptr gg 1), (eN B), (eN d), (ptr gg 0), (eN D), (Value.bool (decide (d < D))), (z 25), (z 26), (eN b), (ptr gg 1), (eN B), (Value.bool (decide (b < B))), (z 31), (z 32), (eN j), ub, (eN bad.length), (Value.bool (decide (j < bad.length)))] ++ (zs z 37 13 ++ [(Value.bool true), u_good, (eN b), (sli b29 0 1 1)] ++ (zs z 54 9 ++ (us 26)))) ?_
   refine wO (d_append Try.underlying29 Try.underlying29 s_ti3 rfl rfl rfl a21 (SrcV.of_seq (arr_seq a32 l_b29 (Nat.le_refl _)) (fun _ => rfl)) (by first | omega | (simp; omega)) (by first | omega | (simp; omega)) rfl) ?_
   rintro u34 w35 ⟨bo36, a37, o38, q39⟩
   replace a37 : Ow 3 1 bo36 u34 ((goodL bad d b) ++ ([b] : List Nat)).length (((goodL bad d b) ++ ([b] : List Nat)).map eN) w35 := by rw [List.length_append, List.map_append]; exact a37
   replace hb := hb.gr o38 (fun k e => (.inr (.inl e))) (xx_or1 (xx_re (Fr.of_or q39) (xx_orq (xx_or1 xx_id))))
   replace hF := hF.gr o38 (fun k e => (.inr (.inl e))) (xx_or1 (xx_re (Fr.of_or q39) (xx_orq (xx_or1 xx_id))))
   have nq2 := nqs nq_good_gg (Fr.of_or q39) a13.lt
   replace a13 := a13.step o38 (fun e => nq_good_gg _ e rfl)
   replace nq_good_gg := nq2
   clear nq2
   have nq2 := nqs nq_good_b29 (Fr.of_or q39) a32.lt
   replace a32 := a32.step o38 (fun e => nq_good_b29 _ e rfl)
   replace nq_good_b29 := nq2
   clear nq2
   have lt2 := a17.lts
   replace a17 := a17.step o38 (fun x hx e => nqq_dies_good x hx e)
   replace nqq_dies_good := nqq_step nqq_dies_good (Fr.of_or q39) lt2
   clear lt2
   have tq := oW.size
   replace oW := oW.tailr o38 q_oW_good (fun _ e => by cases e)
   replace q_oW_good := qtr (Fr.of_or q39) q_oW_good tq
   clear tq
   have tq := o18.size
   replace o18 := o18.tailr o38 q_o18_good (fun _ e => by cases e)
   replace q_o18_good := qtr (Fr.of_or q39) q_o18_good tq
   clear tq
   have tq := o22.size
   replace o22 := o22.tailr o38 q_o22_good (fun k e => (.inl e))
   replace q_o22_good := qtr (Fr.of_or q39) q_o22_good tq
   clear tq
   have tq := o25.size
   replace o25 := o25.tailr o38 q_o25_good (fun k e => (.inl e))
   replace q_o25_good := qtr (Fr.of_or q39) q_o25_good tq
   clear tq
   refine wI (d_assign rfl) ?_
   refine wF ([(Value.agg #[(eN D), (eN B), (eN Q)]), ub, (ptr gg 0), undef, (Value.slice none 0 0), u_dies, (eN (nMin bad B d)), (eN d), u34, (eN b), (Value.bool true), (eN j), undef, undef, undef, undef, (Value.agg #[(eN D), (eN B), (eN Q)]), (eN 0), (Value.bool false), (ptr gg 1), (eN B), (eN d), (ptr gg 0), (eN D), (Value.bool (decide (d < D))), (z 25), (z 26), (eN b), (ptr gg 1), (eN B), (Value.bool (decide (b < B))), (z 31), (z 32), (eN j), ub, (eN bad.length), (Value.bool (decide (j < bad.length)))] ++ (zs z 37 13 ++ [(Value.bool true), u_good, (eN b), (sli b29 0 1 1), u34] ++ (zs z 55 8 ++ (us 26)))) ?_
   refine wpL.done ?_
   refine inb_n (then_n ?_)
   refine plain ?_
   refine wI (d_move rfl) ?_
   refine wI (n_add (a := b) (b := 1) rfl rfl (by omega)) ?_
   refine wI (d_assign rfl) ?_
   refine wF ([(Value.agg #[(eN D), (eN B), (eN Q)]), ub, (ptr gg 0), undef, (Value.slice none 0 0), u_dies, (eN (nMin bad B d)), (eN d), u34, (eN (b + 1)), (Value.bool true), (eN j), undef, undef, undef, undef, (Value.agg #[(eN D), (eN B), (eN Q)]), (eN 0), (Value.bool false), (ptr gg 1), (eN B), (eN d), (ptr gg 0), (eN D), (Value.bool (decide (d < D))), (z 25), (z 26), (eN b), (ptr gg 1), (eN B), (Value.bool (decide (b < B))), (eN b), (eN (b + 1)), (eN j), ub, (eN bad.length), (Value.bool (decide (j < bad.length)))] ++ (zs z 37 13 ++ [(Value.bool true), u_good, (eN b), (sli b29 0 1 1), u34] ++ (zs z 55 8 ++ (us 26)))) ?_
   refine wpL.done ?_
   refine then_n ?_
   refine ⟨_, ⟨b + 1, bo36, u34⟩, rfl, rfl, ⟨?_, ?_, ?_, ?_, ?_, ?_⟩, ?_⟩
   ·
    (try dsimp only)
    all_goals (omega)
   ·
    exact o22
   ·
    exact a13
   ·
    exact a17
   ·
    (try dsimp only)
    all_goals (rw [good_no (Bool.eq_false_iff.2 kb_)]; exact a37)
   ·
    exact q_o22_good
   ·
    (try dsimp only)
    all_goals (omega)
  refine wpIn_exit ?_
  refine then_x (then_x (inb_e ?_))
  refine then_n ?_
  refine wpIn_seq ?_
  have f40 : Ps (Orq bo_dies (Or1 gg (Old W.heap.size))) (Seq kN (goodL bad d b) u_good) w23 := Ow.seq a21 (fun b_ hb_ => (not_orq (fun x_ hx_ e_ => nqq_dies_good x_ hx_ (e_ ▸ hb_)) (not_or1 (nq_good_gg b_ hb_) (old_q q_oW_good b_ hb_))))
  replace hb := Ps.less (Y := (Orq bo_dies (Or1 gg No))) hb (xx_skip (xx_orq (xx_or1 xx_id)))
  replace hF := Ps.less (Y := (Orq bo_dies (Or1 gg (Old W.heap.size)))) hF (xx_skip (xx_orq (xx_or1 xx_id)))
  refine plain ?_
  refine wI (d_move rfl) ?_
  refine wI (d_move rfl) ?_
  refine wO (d_buildL (cs := [u_good]) Try.underlying47 s_ti29 rfl (nb rfl) (parts_cons (vs := [u_good]) (cells_of (v := u_good) rfl (Seq.cells f40)) parts_nil) rfl) ?_
  rintro _ w42 ⟨b41, rfl, g43, a44, o45⟩
  replace a44 : Arr 29 b41 (([u_good] : List Value).map eV) w42 := a44
  have l_b41 : ([u_good] : List Value).length = 1 := rfl
  have n_gg_b41 : gg ≠ b41 := a13.ne g43
  have nq_dies_b41 : ∀ x, bo_dies = some x → ¬ x = b41 := fun x hx e => by have := a17.lts x hx; omega
  have g_oW_b41 : W.heap.size ≤ b41 := Nat.le_trans oW.size g43
  have g_o18_b41 : w15.heap.size ≤ b41 := Nat.le_trans o18.size g43
  have g_o22_b41 : w19.heap.size ≤ b41 := Nat.le_trans o22.size g43
  replace hb := hb.new o45 g43
  replace hF := hF.new o45 g43
  replace f40 := f40.new o45 g43
  replace a13 := a13.step0 o45
  replace a17 := a17.step0 o45
  replace oW := oW.tail0 o45
  replace o18 := o18.tail0 o45
  replace o22 := o22.tail0 o45
  refine wF ([(Value.agg #[(eN D), (eN B), (eN Q)]), ub, (ptr gg 0), undef, (Value.slice none 0 0), u_dies, (eN (nMin bad B d)), (eN d), u_good, (eN b), (z 10), (z 11), undef, undef, undef, undef, (Value.agg #[(eN D), (eN B), (eN Q)]), (eN 0), (Value.bool false), (ptr gg 1), (eN B), (eN d), (ptr gg 0), (eN D), (Value.bool (decide (d < D))), (z 25), (z 26), (eN b), (ptr gg 1), (eN B), (Value.bool (decide (b < B)))] ++ (zs z 31 24 ++ [u_dies, u_good, (sli b41 0 1 1)] ++ (zs z 58 5 ++ (us 26)))) ?_
  refine wO (d_append Try.underlying47 Try.underlying47 s_ti29 rfl rfl rfl a17 (SrcV.of_arr (n := 1) (sz := 1) a44 rfl (fun v_ hv_ => by rw [List.mem_singleton.1 (show v_ ∈ [u_good] from hv_)]; exact (Seq.one f40))) (by first | omega | (simp; omega)) (by first | omega | (simp; omega)) rfl) ?_
  rintro u46 w47 ⟨bo48, a49, o50, q51⟩
  replace a49 : Ow 29 1 bo48 u46 (vs ++ ([u_good] : List Value)).length ((vs ++ ([u_good] : List Value)).map eV) w47 := by rw [List.length_append, List.map_append]; exact a49
  replace hb := hb.gr o50 (fun k e => (.inr (.inl e))) (xx_or1 (xx_re (Fr.of_or q51) (xx_or1 xx_id)))
  replace hF := hF.gr o50 (fun k e => (.inr (.inl e))) (xx_or1 (xx_re (Fr.of_or q51) (xx_or1 xx_id)))
  replace f40 := f40.gr o50 (fun k e => (.inr (.inl e))) (xx_or1 (xx_re (Fr.of_or q51) (xx_or1 xx_id)))
  have nq2 := nqs nq_dies_gg (Fr.of_or q51) a13.lt
  replace a13 := a13.step o50 (fun e => nq_dies_gg _ e rfl)
  replace nq_dies_gg := nq2
  clear nq2
  have nq2 := nqs nq_dies_b41 (Fr.of_or q51) a44.lt
  replace a44 := a44.step o50 (fun e => nq_dies_b41 _ e rfl)
  replace nq_dies_b41 := nq2
  clear nq2
  have tq := oW.size
  replace oW := oW.tailr o50 q_oW_dies (fun _ e => by cases e)
  replace q_oW_dies := qtr (Fr.of_or q51) q_oW_dies tq
  clear tq
  have tq := o18.size
  replace o18 := o18.tailr o50 q_o18_dies (fun k e => (.inl e))
  replace q_o18_dies := qtr (Fr.of_or q51) q_o18_dies tq
  clear tq
  have tq := o22.size
  replace o22 := o22.tailr o50 q_o22_dies (fun k e => (.inr (.inl e)))
  replace q_o22_dies := qtr (Fr.of_or q51) q_o22_dies tq
  clear tq
  refine wI (d_assign rfl) ?_
  refine wF ([(Value.agg #[(eN D), (eN B), (eN Q)]), ub, (ptr gg 0), undef, (Value.slice none 0 0), u46, (eN (nMin bad B d)), (eN d), u_good, (eN b), (z 10), (z 11), undef, undef, undef, undef, (Value.agg #[(eN D), (eN B), (eN Q)]), (eN 0), (Value.bool false), (ptr gg 1), (eN B), (eN d), (ptr gg 0), (eN D), (Value.bool (decide (d < D))), (z 25), (z 26), (eN b), (ptr gg 1), (eN B), (Value.bool (decide (b < B)))] ++ (zs z 31 24 ++ [u_dies, u_good, (sli b41 0 1 1), u46, (z 59), (z 60), (z 61), (z 62)] ++ (us 26))) ?_
  refine wpL.done ?_
  refine then_n ?_
  refine plain ?_
  refine wI (d_move rfl) ?_
  refine wI (d_move rfl) ?_
  refine wI (d_lenS rfl Try.underlying29 rfl f40) ?_
  refine wF ([(Value.agg #[(eN D), (eN B), (eN Q)]), ub, (ptr gg 0), undef, (Value.slice none 0 0), u46, (eN (nMin bad B d)), (eN d), u_good, (eN b), (z 10), (z 11), undef, undef, undef, undef, (Value.agg #[(eN D), (eN B), (eN Q)]), (eN 0), (Value.bool false), (ptr gg 1), (eN B), (eN d), (ptr gg 0), (eN D), (Value.bool (decide (d < D))), (z 25), (z 26), (eN b), (ptr gg 1), (eN B), (Value.bool (decide (b < B)))] ++ (zs z 31 24 ++ [u_dies, u_good, (sli b41 0 1 1), u46, (eN (nMin bad B d)), u_good, (eN ((goodL bad d b).length)), (z 62)] ++ (us 26))) ?_
  refine wI (n_min rfl rfl) ?_
  refine wI (d_assign rfl) ?_
  refine wF ([(Value.agg #[(eN D), (eN B), (eN Q)]), ub, (ptr gg 0), undef, (Value.slice none 0 0), u46, (eN (min (nMin bad B d) ((goodL bad d b).length))), (eN d), u_good, (eN b), (z 10), (z 11), undef, undef, undef, undef, (Value.agg #[(eN D), (eN B), (eN Q)]), (eN 0), (Value.bool false), (ptr gg 1), (eN B), (eN d), (ptr gg 0), (eN D), (Value.bool (decide (d < D))), (z 25), (z 26), (eN b), (ptr gg 1), (eN B), (Value.bool (decide (b < B)))] ++ (zs z 31 24 ++ [u_dies, u_good, (sli b41 0 1 1), u46, (eN (nMin bad B d)), u_good, (eN ((goodL bad d b).length)), (eN (min (nMin bad B d) ((goodL bad d b).length)))] ++ (us 26))) ?_
  refine wpL.done ?_
  refine inb_n (then_n ?_)
  refine plain ?_
  refine wI (d_move rfl) ?_
  refine wI (n_add (a := d) (b := 1) rfl rfl (by omega)) ?_
  refine wI (d_assign rfl) ?_
  refine wF ([(Value.agg #[(eN D), (eN B), (eN Q)]), ub, (ptr gg 0), undef, (Value.slice none 0 0), u46, (eN (min (nMin bad B d) ((goodL bad d b).length))), (eN (d + 1)), u_good, (eN b), (z 10), (z 11), undef, undef, undef, undef, (Value.agg #[(eN D), (eN B), (eN Q)]), (eN 0), (Value.bool false), (ptr gg 1), (eN B), (eN d), (ptr gg 0), (eN D), (Value.bool (decide (d < D))), (eN d), (eN (d + 1)), (eN b), (ptr gg 1), (eN B), (Value.bool (decide (b < B)))] ++ (zs z 31 24 ++ [u_dies, u_good, (sli b41 0 1 1), u46, (eN (nMin bad B d)), u_good, (eN ((goodL bad d b).length)), (eN (min (nMin bad B d) ((goodL bad d b).length)))] ++ (us 26))) ?_
  refine wpL.done ?_
  refine then_n ?_
  refine ⟨([(Value.agg #[(eN D), (eN B), (eN Q)]), ub, (ptr gg 0), undef, (Value.slice none 0 0), u46, (eN (nMin bad B (d + 1))), (eN (d + 1)), u_good, (eN b), (z 10), (z 11), undef, undef, undef, undef, (Value.agg #[(eN D), (eN B), (eN Q)]), (eN 0), (Value.bool false), (ptr gg 1), (eN B), (eN d), (ptr gg 0), (eN D), (Value.bool (decide (d < D))), (eN d), (eN (d + 1)), (eN b), (ptr gg 1), (eN B), (Value.bool (decide (b < B)))] ++ (zs z 31 24 ++ [u_dies, u_good, (sli b41 0 1 1), u46, (eN (nMin bad B d)), u_good, (eN ((goodL bad d b).length)), (eN (min (nMin bad B d) ((goodL bad d b).length)))] ++ (us 26))), ⟨d + 1, vs ++ [u_good], bo48, u46⟩, (congrArg (fun l_ => fr l_ _) (show (([(Value.agg #[(eN D), (eN B), (eN Q)]), ub, (ptr gg 0), undef, (Value.slice none 0 0), u46, (eN (min (nMin bad B d) ((goodL bad d b).length))), (eN (d + 1)), u_good, (eN b), (z 10), (z 11), undef, undef, undef, undef, (Value.agg #[(eN D), (eN B), (eN Q)]), (eN 0), (Value.bool false), (ptr gg 1), (eN B), (eN d), (ptr gg 0), (eN D), (Value.bool (decide (d < D))), (eN d), (eN (d + 1)), (eN b), (ptr gg 1), (eN B), (Value.bool (decide (b < B)))] ++ (zs z 31 24 ++ [u_dies, u_good, (sli b41 0 1 1), u46, (eN (nMin bad B d)), u_good, (eN ((goodL bad d b).length)), (eN (min (nMin bad B d) ((goodL bad d b).length)))] ++ (us 26))) : List Value) = ([(Value.agg #[(eN D), (eN B), (eN Q)]), ub, (ptr gg 0), undef, (Value.slice none 0 0), u46, (eN (nMin bad B (d + 1))), (eN (d + 1)), u_good, (eN b), (z 10), (z 11), undef, undef, undef, undef, (Value.agg #[(eN D), (eN B), (eN Q)]), (eN 0), (Value.bool false), (ptr gg 1), (eN B), (eN d), (ptr gg 0), (eN D), (Value.bool (decide (d < D))), (eN d), (eN (d + 1)), (eN b), (ptr gg 1), (eN B), (Value.bool (decide (b < B)))] ++ (zs z 31 24 ++ [u_dies, u_good, (sli b41 0 1 1), u46, (eN (nMin bad B d)), u_good, (eN ((goodL bad d b).length)), (eN (min (nMin bad B d) ((goodL bad d b).length)))] ++ (us 26))) from reslot ([(Value.agg #[(eN D), (eN B), (eN Q)]), ub, (ptr gg 0), undef, (Value.slice none 0 0), u46, (eN (min (nMin bad B d) ((goodL bad d b).length))), (eN (d + 1)), u_good, (eN b), (z 10), (z 11), undef, undef, undef, undef, (Value.agg #[(eN D), (eN B), (eN Q)]), (eN 0), (Value.bool false), (ptr gg 1), (eN B), (eN d), (ptr gg 0), (eN D), (Value.bool (decide (d < D))), (eN d), (eN (d + 1)), (eN b), (ptr gg 1), (eN B), (Value.bool (decide (b < B)))] ++ (zs z 31 24 ++ [u_dies, u_good, (sli b41 0 1 1), u46, (eN (nMin bad B d)), u_good, (eN ((goodL bad d b).length)), (eN (min (nMin bad B d) ((goodL bad d b).length)))] ++ (us 26))) 6 (show eN (min (nMin bad B d) (goodL bad d b).length) = eN (nMin bad B (d + 1)) from by rw [show b = B by omega]; rfl))), rfl, ⟨?_, ?_, ?_, ?_, ?_, ?_, ?_⟩, ?_⟩
  ·
   (try dsimp only)
   all_goals (omega)
  ·
   (try dsimp only)
   all_goals (rw [List.length_append, hv, List.length_singleton])
  ·
   exact fam_snoc (hF.less (xx_skip (xx_orq (xx_or1 xx_id)))) (f40.less (xx_skip (xx_orq (xx_or1 xx_id)))) (by rw [show b = B by omega]) hv
  ·
   exact o18
  ·
   exact a13
  ·
   exact a49
  ·
   exact q_o18_dies
  ·
   (try dsimp only)
   all_goals (omega)
 refine wpIn_exit ?_
 refine then_x (then_x (inb_e ?_))
 refine then_n ?_
 refine wpIn_seq ?_
 refine plain ?_
 refine wI (d_assign rfl) ?_
 refine wF ([(Value.agg #[(eN D), (eN B), (eN Q)]), ub, (ptr gg 0), undef, (Value.slice none 0 0), u_dies, (eN (nMin bad B d)), (eN d), (z 8), (z 9), (z 10), (z 11), (Value.slice none 0 0), undef, undef, undef, (Value.agg #[(eN D), (eN B), (eN Q)]), (eN 0), (Value.bool false), (ptr gg 1), (eN B), (eN d), (ptr gg 0), (eN D), (Value.bool (decide (d < D)))] ++ (zs z 25 38 ++ (us 26))) ?_
 refine wpL.done ?_
 refine then_n ?_
 refine wpIn_seq ?_
 refine wpIn_seq ?_
 have hdD : d = D := by omega
 rw [hdD] at hF hv
 refine wp_eq (l' := ([(Value.agg #[(eN D), (eN B), (eN Q)]), ub, (ptr gg 0), undef, (Value.slice none 0 0), u_dies, (eN (nMin bad B D)), (eN d), (z 8), (z 9), (z 10), (z 11), (Value.slice none 0 0), undef, undef, undef, (Value.agg #[(eN D), (eN B), (eN Q)]), (eN 0), (Value.bool false), (ptr gg 1), (eN B), (eN d), (ptr gg 0), (eN D), (Value.bool (decide (d < D)))] ++ (zs z 25 38 ++ (us 26)))) (show (([(Value.agg #[(eN D), (eN B), (eN Q)]), ub, (ptr gg 0), undef, (Value.slice none 0 0), u_dies, (eN (nMin bad B d)), (eN d), (z 8), (z 9), (z 10), (z 11), (Value.slice none 0 0), undef, undef, undef, (Value.agg #[(eN D), (eN B), (eN Q)]), (eN 0), (Value.bool false), (ptr gg 1), (eN B), (eN d), (ptr gg 0), (eN D), (Value.bool (decide (d < D)))] ++ (zs z 25 38 ++ (us 26))) : List Value) = ([(Value.agg #[(eN D), (eN B), (eN Q)]), ub, (ptr gg 0), undef, (Value.slice none 0 0), u_dies, (eN (nMin bad B D)), (eN d), (z 8), (z 9), (z 10), (z 11), (Value.slice none 0 0), undef, undef, undef, (Value.agg #[(eN D), (eN B), (eN Q)]), (eN 0), (Value.bool false), (ptr gg 1), (eN B), (eN d), (ptr gg 0), (eN D), (Value.bool (decide (d < D)))] ++ (zs z 25 38 ++ (us 26))) from reslot ([(Value.agg #[(eN D), (eN B), (eN Q)]), ub, (ptr gg 0), undef, (Value.slice none 0 0), u_dies, (eN (nMin bad B d)), (eN d), (z 8), (z 9), (z 10), (z 11), (Value.slice none 0 0), undef, undef, undef, (Value.agg #[(eN D), (eN B), (eN Q)]), (eN 0), (Value.bool false), (ptr gg 1), (eN B), (eN d), (ptr gg 0), (eN D), (Value.bool (decide (d < D)))] ++ (zs z 25 38 ++ (us 26))) 6 (congrArg (fun x_ => eN (nMin bad B x_)) hdD)) ?_
 have nm_ := nMin_le bad B D
 have f52 : Ps (Or1 gg (Old W.heap.size)) (Seq (kS eV) vs u_dies) w19 := Ow.seq a17 (fun b_ hb_ => (not_or1 (nq_dies_gg b_ hb_) (old_q q_oW_dies b_ hb_)))
 replace hb := Ps.less (Y := (Or1 gg No)) hb (xx_skip (xx_or1 xx_id))
 replace hF := Ps.less (Y := (Or1 gg (Old W.heap.size))) hF (xx_skip (xx_or1 xx_id))
 have a53 : Ow 29 1 none (Value.slice none 0 0) ([] : List (Value)).length (([] : List (Value)).map eV) w19 := Ow.nil _ _ _
 have nq_outr_gg : ∀ x, (none : Option Nat) = some x → ¬ x = gg := fun x e => by cases e
 have q_oW_outr : Fr none none W.heap.size := Fr.none
 have q_o18_outr : Fr none none w15.heap.size := Fr.none
 replace hb := hb.qnone
 replace hF := hF.qnone
 replace f52 := f52.qnone
 refine plain ?_
 refine wI (d_assign rfl) ?_
 refine wF ([(Value.agg #[(eN D), (eN B), (eN Q)]), ub, (ptr gg 0), undef, (Value.slice none 0 0), u_dies, (eN (nMin bad B D)), (eN d), (z 8), (z 9), (z 10), (z 11), (Value.slice none 0 0), (eN 0), undef, undef, (Value.agg #[(eN D), (eN B), (eN Q)]), (eN 0), (Value.bool false), (ptr gg 1), (eN B), (eN d), (ptr gg 0), (eN D), (Value.bool (decide (d < D)))] ++ (zs z 25 38 ++ (us 26))) ?_
 refine wpL.done ?_
 refine then_n ?_
 refine wpIn_block ?_
 have h_lt_gg := a13.lt
 have h_lts_outr := a53.lts
 refine loop2 (fun (s_ : (Nat) × (List Value) × (Option Nat) × (Value)) => match s_ with | ⟨i, ws, bo_outr, u_outr⟩ => fun (z : Nat → Value) => (([(Value.agg #[(eN D), (eN B), (eN Q)]), ub, (ptr gg 0), undef, (Value.slice none 0 0), u_dies, (eN (nMin bad B D)), (eN d), (z 8), (z 9), (z 10), (z 11), u_outr, (eN i), (z 14), (z 15), (Value.agg #[(eN D), (eN B), (eN Q)]), (eN 0), (Value.bool false), (ptr gg 1), (eN B), (eN d), (ptr gg 0), (eN D), (Value.bool (decide (d < D)))] ++ (zs z 25 63 ++ [undef])) : List Value)) (fun (s_ : (Nat) × (List Value) × (Option Nat) × (Value)) => match s_ with | ⟨i, ws, bo_outr, u_outr⟩ => fun (w_ : World) => (i ≤ (nMin bad B D)) ∧ (ws.length = i) ∧ (Ps (Orq bo_outr (Or1 gg (Old W.heap.size))) (Fam kN i (fun k => supR bad B D k) ws) w_) ∧ Only (Orq none (Or1 gg No)) w19 w_ ∧ Arr 25 gg [(eN D), (eN B), (eN Q)] w_ ∧ Ow 29 1 bo_outr u_outr (ws).length ((ws).map eV) w_ ∧ Fr bo_outr none w19.heap.size) (fun (s_ : (Nat) × (List Value) × (Option Nat) × (Value)) => match s_ with | ⟨i, ws, bo_outr, u_outr⟩ => (nMin bad B D) - i) ⟨0, [], none, (Value.slice none 0 0)⟩ rfl ?_ ?_
 ·
  refine ⟨?_, ?_, ?_, ?_, ?_, ?_, ?_⟩
  ·
   exact Nat.zero_le _
  ·
   exact rfl
  ·
   exact fam_zero
  ·
   exact Only.refl _ _
  ·
   exact a13
  ·
   exact a53
  ·
   exact Fr.same
 rintro ⟨i, ws, bo_outr, u_outr⟩ z w55 ⟨hi, hw, hG, o54, a13, a53, qq_outr⟩
 (try dsimp only)
 replace hb := hb.re o54 (orq_mono (or1_mono no_any)) (xx_re qq_outr (xx_or1 xx_id))
 replace hF := hF.re o54 (orq_mono (or1_mono no_any)) (xx_re qq_outr (xx_or1 xx_id))
 replace f52 := f52.re o54 (orq_mono (or1_mono no_any)) (xx_re qq_outr (xx_or1 xx_id))
 have tq_oW := oW.size
 replace oW := oW.tail o54 (tl_q q_oW_outr (fun _ e => by cases e) (tl_new g_oW_gg tl_no))
 replace q_oW_outr := qtr qq_outr q_oW_outr tq_oW
 have tq_o18 := o18.size
 replace o18 := o18.tail o54 (tl_q q_o18_outr (fun _ e => by cases e) (tl_in (inq in1) tl_no))
 replace q_o18_outr := qtr qq_outr q_o18_outr tq_o18
 replace nq_outr_gg := nqs nq_outr_gg qq_outr h_lt_gg
 have q_o54_outr := qq_outr
 refine wpIn_seq ?_
 refine wpIn_seq ?_
 refine plain ?_
 refine wI (d_move rfl) ?_
 refine wI (d_move rfl) ?_
 refine wI (n_lss (a := i) (b := (nMin bad B D)) rfl rfl rfl) ?_
 refine wF ([(Value.agg #[(eN D), (eN B), (eN Q)]), ub, (ptr gg 0), undef, (Value.slice none 0 0), u_dies, (eN (nMin bad B D)), (eN d), (z 8), (z 9), (z 10), (z 11), u_outr, (eN i), (z 14), (z 15), (Value.agg #[(eN D), (eN B), (eN Q)]), (eN 0), (Value.bool false), (ptr gg 1), (eN B), (eN d), (ptr gg 0), (eN D), (Value.bool (decide (d < D)))] ++ (zs z 25 38 ++ [(eN i), (eN (nMin bad B D)), (Value.bool (decide (i < (nMin bad B D))))] ++ (zs z 66 22 ++ [undef]))) ?_
 refine wpL.done ?_
 refine then_n ?_
 refine cond_if rfl (fun c56 => ?_) (fun c56 => ?_)
 ·
  refine wpIn_skip ?_
  refine then_n ?_
  refine wpIn_seq ?_
  refine wpIn_block ?_
  refine wpIn_seq ?_
  refine plain ?_
  refine wI (d_assign rfl) ?_
  refine wF ([(Value.agg #[(eN D), (eN B), (eN Q)]), ub, (ptr gg 0), undef, (Value.slice none 0 0), u_dies, (eN (nMin bad B D)), (eN d), (z 8), (z 9), (z 10), (z 11), u_outr, (eN i), (Value.slice none 0 0), (z 15), (Value.agg #[(eN D), (eN B), (eN Q)]), (eN 0), (Value.bool false), (ptr gg 1), (eN B), (eN d), (ptr gg 0), (eN D), (Value.bool (decide (d < D)))] ++ (zs z 25 38 ++ [(eN i), (eN (nMin bad B D)), (Value.bool (decide (i < (nMin bad B D))))] ++ (zs z 66 22 ++ [undef]))) ?_
  refine wpL.done ?_
  have a57 : Ow 3 1 none (Value.slice none 0 0) ([] : List (Nat)).length (([] : List (Nat)).map eN) w55 := Ow.nil _ _ _
  have nq_cur_gg : ∀ x, (none : Option Nat) = some x → ¬ x = gg := fun x e => by cases e
  have nqq_outr_cur : ∀ x, bo_outr = some x → (none : Option Nat) = some x → False := fun _ _ e => by cases e
  have q_oW_cur : Fr none none W.heap.size := Fr.none
  have q_o18_cur : Fr none none w15.heap.size := Fr.none
  have q_o54_cur : Fr none none w19.heap.size := Fr.none
  replace hb := hb.qnone
  replace hF := hF.qnone
  replace f52 := f52.qnone
  replace hG := hG.qnone
  refine then_n ?_
  refine wpIn_seq ?_
  refine wpIn_seq ?_
  refine plain ?_
  refine wI (d_assign rfl) ?_
  refine wF ([(Value.agg #[(eN D), (eN B), (eN Q)]), ub, (ptr gg 0), undef, (Value.slice none 0 0), u_dies, (eN (nMin bad B D)), (eN d), (z 8), (z 9), (z 10), (z 11), u_outr, (eN i), (Value.slice none 0 0), (eN 0), (Value.agg #[(eN D), (eN B), (eN Q)]), (eN 0), (Value.bool false), (ptr gg 1), (eN B), (eN d), (ptr gg 0), (eN D), (Value.bool (decide (d < D)))] ++ (zs z 25 38 ++ [(eN i), (eN (nMin bad B D)), (Value.bool (decide (i < (nMin bad B D))))] ++ (zs z 66 22 ++ [undef]))) ?_
  refine wpL.done ?_
  refine then_n ?_
  refine wpIn_block ?_
  have h_lt_gg := a13.lt
  have h_lts_outr := a53.lts
  have h_lts_cur := a57.lts
  refine loop2 (fun (s_ : (Nat) × (Option Nat) × (Value)) => match s_ with | ⟨d2, bo_cur, u_cur⟩ => fun (z : Nat → Value) => (([(Value.agg #[(eN D), (eN B), (eN Q)]), ub, (ptr gg 0), undef, (Value.slice none 0 0), u_dies, (eN (nMin bad B D)), (eN d), (z 8), (z 9), (z 10), (z 11), u_outr, (eN i), u_cur, (eN d2), (Value.agg #[(eN D), (eN B), (eN Q)]), (eN 0), (Value.bool false), (ptr gg 1), (eN B), (eN d), (ptr gg 0), (eN D), (Value.bool (decide (d < D)))] ++ (zs z 25 38 ++ [(eN i), (eN (nMin bad B D)), (Value.bool (decide (i < (nMin bad B D))))] ++ (zs z 66 22 ++ [undef]))) : List Value)) (fun (s_ : (Nat) × (Option Nat) × (Value)) => match s_ with | ⟨d2, bo_cur, u_cur⟩ => fun (w_ : World) => (d2 ≤ D) ∧ Only (Orq none (Orq bo_outr (Or1 gg No))) w55 w_ ∧ Arr 25 gg [(eN D), (eN B), (eN Q)] w_ ∧ Ow 29 1 bo_outr u_outr (ws).length ((ws).map eV) w_ ∧ Ow 3 1 bo_cur u_cur (supTo bad B i d2).length ((supTo bad B i d2).map eN) w_ ∧ Fr bo_cur none w55.heap.size) (fun (s_ : (Nat) × (Option Nat) × (Value)) => match s_ with | ⟨d2, bo_cur, u_cur⟩ => D - d2) ⟨0, none, (Value.slice none 0 0)⟩ rfl ?_ ?_
  ·
   refine ⟨?_, ?_, ?_, ?_, ?_, ?_⟩
   ·
    exact Nat.zero_le _
   ·
    exact Only.refl _ _
   ·
    exact a13
   ·
    exact a53
   ·
    exact a57
   ·
    exact Fr.same
  rintro ⟨d2, bo_cur, u_cur⟩ z w59 ⟨hd2, o58, a13, a53, a57, qq_cur⟩
  (try dsimp only)
  replace hb := hb.re o58 (orq_mono (orq_mono (or1_mono no_any))) (xx_re qq_cur (xx_orq (xx_or1 xx_id)))
  replace hF := hF.re o58 (orq_mono (orq_mono (or1_mono no_any))) (xx_re qq_cur (xx_orq (xx_or1 xx_id)))
  replace f52 := f52.re o58 (orq_mono (orq_mono (or1_mono no_any))) (xx_re qq_cur (xx_orq (xx_or1 xx_id)))
  replace hG := hG.re o58 (orq_mono (orq_mono (or1_mono no_any))) (xx_re qq_cur (xx_orq (xx_or1 xx_id)))
  have tq_oW := oW.size
  replace oW := oW.tail o58 (tl_q q_oW_cur (fun _ e => by cases e) (tl_q q_oW_outr (fun _ e => by cases e) (tl_new g_oW_gg tl_no)))
  replace q_oW_cur := qtr qq_cur q_oW_cur tq_oW
  have tq_o18 := o18.size
  replace o18 := o18.tail o58 (tl_q q_o18_cur (fun _ e => by cases e) (tl_q q_o18_outr (fun _ e => by cases e) (tl_in (inq in1) tl_no)))
  replace q_o18_cur := qtr qq_cur q_o18_cur tq_o18
  have tq_o54 := o54.size
  replace o54 := o54.tail o58 (tl_q q_o54_cur (fun _ e => by cases e) (tl_q q_o54_outr (fun k e => (.inl e)) (tl_in (inq in1) tl_no)))
  replace q_o54_cur := qtr qq_cur q_o54_cur tq_o54
  replace nq_cur_gg := nqs nq_cur_gg qq_cur h_lt_gg
  replace nqq_outr_cur := nqq_step nqq_outr_cur qq_cur h_lts_outr
  have q_o58_outr : Fr bo_outr bo_outr w55.heap.size := Fr.same
  have q_o58_cur := qq_cur
  have stl_ := supTo_len bad B i d2
  refine wpIn_seq ?_
  refine wpIn_seq ?_
  refine plain ?_
  refine wI (d_move rfl) ?_
  refine wI (d_fieldAddr (j := 0) Try.underlying25 rfl s_ti3 (by decide) rfl rfl) ?_
  refine wI (d_load (v := (eN D)) ⟨_, Try.underlying3, rfl⟩ rfl a13 rfl) ?_
  refine wF ([(Value.agg #[(eN D), (eN B), (eN Q)]), ub, (ptr gg 0), undef, (Value.slice none 0 0), u_dies, (eN (nMin bad B D)), (eN d), (z 8), (z 9), (z 10), (z 11), u_outr, (eN i), u_cur, (eN d2), (Value.agg #[(eN D), (eN B), (eN Q)]), (eN 0), (Value.bool false), (ptr gg 1), (eN B), (eN d), (ptr gg 0), (eN D), (Value.bool (decide (d < D)))] ++ (zs z 25 38 ++ [(eN i), (eN (nMin bad B D)), (Value.bool (decide (i < (nMin bad B D)))), (z 66), (z 67), (eN d2), (ptr gg 0), (eN D)] ++ (zs z 71 17 ++ [undef]))) ?_
  refine wI (n_lss (a := d2) (b := D) rfl rfl rfl) ?_
  refine wF ([(Value.agg #[(eN D), (eN B), (eN Q)]), ub, (ptr gg 0), undef, (Value.slice none 0 0), u_dies, (eN (nMin bad B D)), (eN d), (z 8), (z 9), (z 10), (z 11), u_outr, (eN i), u_cur, (eN d2), (Value.agg #[(eN D), (eN B), (eN Q)]), (eN 0), (Value.bool false), (ptr gg 1), (eN B), (eN d), (ptr gg 0), (eN D), (Value.bool (decide (d < D)))] ++ (zs z 25 38 ++ [(eN i), (eN (nMin bad B D)), (Value.bool (decide (i < (nMin bad B D)))), (z 66), (z 67), (eN d2), (ptr gg 0), (eN D), (Value.bool (decide (d2 < D)))] ++ (zs z 72 16 ++ [undef]))) ?_
  refine wpL.done ?_
  refine then_n ?_
  refine cond_if rfl (fun c60 => ?_) (fun c60 => ?_)
  ·
   refine wpIn_skip ?_
   refine then_n ?_
   refine wpIn_seq ?_
   refine wpIn_block ?_
   have hrw_ := fam_at hF (show d2 < D by omega)
   have gi_ : i < (goodL bad d2 B).length := Nat.lt_of_lt_of_le (show i < nMin bad B D by omega) (nMin_good bad B (by omega))
   refine plain ?_
   refine wI (d_move rfl) ?_
   refine wI (d_move rfl) ?_
   refine wI (d_move rfl) ?_
   refine wF ([(Value.agg #[(eN D), (eN B), (eN Q)]), ub, (ptr gg 0), undef, (Value.slice none 0 0), u_dies, (eN (nMin bad B D)), (eN d), (z 8), (z 9), (z 10), (z 11), u_outr, (eN i), u_cur, (eN d2), (Value.agg #[(eN D), (eN B), (eN Q)]), (eN 0), (Value.bool false), (ptr gg 1), (eN B), (eN d), (ptr gg 0), (eN D), (Value.bool (decide (d < D)))] ++ (zs z 25 38 ++ [(eN i), (eN (nMin bad B D)), (Value.bool (decide (i < (nMin bad B D)))), (z 66), (z 67), (eN d2), (ptr gg 0), (eN D), (Value.bool (decide (d2 < D))), (z 72), (z 73), u_cur, u_dies, (eN d2)] ++ (zs z 77 11 ++ [undef]))) ?_
   refine wI (d_ix (i := d2) (xs := vs) Try.underlying47 s_ti29 rfl f52 (show _ = Value.int _ ((d2 : Nat) : Int) from rfl) (by first | omega | (simp; done) | (simp; omega))) ?_
   refine wI (d_ldx (i := d2) (xs := vs) (enc := eV) (v := (vs.getD d2 undef)) ⟨_, Try.underlying29, rfl⟩ rfl f52 (g_at (by first | omega | (simp; done) | (simp; omega)))) ?_
   refine wI (d_move rfl) ?_
   refine wF ([(Value.agg #[(eN D), (eN B), (eN Q)]), ub, (ptr gg 0), undef, (Value.slice none 0 0), u_dies, (eN (nMin bad B D)), (eN d), (z 8), (z 9), (z 10), (z 11), u_outr, (eN i), u_cur, (eN d2), (Value.agg #[(eN D), (eN B), (eN Q)]), (eN 0), (Value.bool false), (ptr gg 1), (eN B), (eN d), (ptr gg 0), (eN D), (Value.bool (decide (d < D)))] ++ (zs z 25 38 ++ [(eN i), (eN (nMin bad B D)), (Value.bool (decide (i < (nMin bad B D)))), (z 66), (z 67), (eN d2), (ptr gg 0), (eN D), (Value.bool (decide (d2 < D))), (z 72), (z 73), u_cur, u_dies, (eN d2), (ixp u_dies d2), (vs.getD d2 undef), (eN i)] ++ (zs z 80 8 ++ [undef]))) ?_
   refine wI (d_ix (i := i) (xs := (goodL bad d2 B)) Try.underlying29 s_ti3 rfl hrw_ (show _ = Value.int _ ((i : Nat) : Int) from rfl) gi_) ?_
   refine wI (d_ldx (i := i) (xs := (goodL bad d2 B)) (enc := eN) (v := ((goodL bad d2 B).getD i 0)) ⟨_, Try.underlying3, rfl⟩ rfl hrw_ (g_at gi_)) ?_
   refine wO (d_buildL (cs := [(eN ((goodL bad d2 B).getD i 0))]) Try.underlying29 s_ti3 rfl (nb rfl) (parts_cons (vs := [(eN ((goodL bad d2 B).getD i 0))]) (cells_of (v := (eN ((goodL bad d2 B).getD i 0))) rfl rfl) parts_nil) rfl) ?_
   rintro _ w62 ⟨b61, rfl, g63, a64, o65⟩
   replace a64 : Arr 3 b61 (([((goodL bad d2 B).getD i 0)] : List Nat).map eN) w62 := a64
   have l_b61 : ([((goodL bad d2 B).getD i 0)] : List Nat).length = 1 := rfl
   have n_gg_b61 : gg ≠ b61 := a13.ne g63
   have nq_outr_b61 : ∀ x, bo_outr = some x → ¬ x = b61 := fun x hx e => by have := a53.lts x hx; omega
   have nq_cur_b61 : ∀ x, bo_cur = some x → ¬ x = b61 := fun x hx e => by have := a57.lts x hx; omega
   have g_oW_b61 : W.heap.size ≤ b61 := Nat.le_trans oW.size g63
   have g_o18_b61 : w15.heap.size ≤ b61 := Nat.le_trans o18.size g63
   have g_o54_b61 : w19.heap.size ≤ b61 := Nat.le_trans o54.size g63
   have g_o58_b61 : w55.heap.size ≤ b61 := Nat.le_trans o58.size g63
   replace hb := hb.new o65 g63
   replace hF := hF.new o65 g63
   replace f52 := f52.new o65 g63
   replace hG := hG.new o65 g63
   replace hrw_ := hrw_.new o65 g63
   replace a13 := a13.step0 o65
   replace a53 := a53.step0 o65
   replace a57 := a57.step0 o65
   replace oW := oW.tail0 o65
   replace o18 := o18.tail0 o65
   replace o54 := o54.tail0 o65
   replace o58 := o58.tail0 o65
   refine wF ([(Value.agg #[(eN D), (eN B), (eN Q)]), ub, (ptr gg 0), undef, (Value.slice none 0 0), u_dies, (eN (nMin bad B D)), (eN d), (z 8), (z 9), (z 10), (z 11), u_outr, (eN i), u_cur, (eN d2), (Value.agg #[(eN D), (eN B), (eN Q)]), (eN 0), (Value.bool false), (ptr gg 1), (eN B), (eN d), (ptr gg 0), (eN D), (Value.bool (decide (d < D)))] ++ (zs z 25 38 ++ [(eN i), (eN (nMin bad B D)), (Value.bool (decide (i < (nMin bad B D)))), (z 66), (z 67), (eN d2), (ptr gg 0), (eN D), (Value.bool (decide (d2 < D))), (z 72), (z 73), u_cur, u_dies, (eN d2), (ixp u_dies d2), (vs.getD d2 undef), (eN i), (ixp (vs.getD d2 undef) i), (eN ((goodL bad d2 B).getD i 0)), (sli b61 0 1 1)] ++ (zs z 83 5 ++ [undef]))) ?_
   refine wO (d_append Try.underlying29 Try.underlying29 s_ti3 rfl rfl rfl a57 (SrcV.of_seq (arr_seq a64 l_b61 (Nat.le_refl _)) (fun _ => rfl)) (by first | omega | (simp; omega)) (by first | omega | (simp; omega)) rfl) ?_
   rintro u66 w67 ⟨bo68, a69, o70, q71⟩
   replace a69 : Ow 3 1 bo68 u66 ((supTo bad B i d2) ++ ([((goodL bad d2 B).getD i 0)] : List Nat)).length (((supTo bad B i d2) ++ ([((goodL bad d2 B).getD i 0)] : List Nat)).map eN) w67 := by rw [List.length_append, List.map_append]; exact a69
   replace hb := hb.gr o70 (fun k e => (.inr (.inl e))) (xx_or1 (xx_re (Fr.of_or q71) (xx_orq (xx_or1 xx_id))))
   replace hF := hF.gr o70 (fun k e => (.inr (.inl e))) (xx_or1 (xx_re (Fr.of_or q71) (xx_orq (xx_or1 xx_id))))
   replace f52 := f52.gr o70 (fun k e => (.inr (.inl e))) (xx_or1 (xx_re (Fr.of_or q71) (xx_orq (xx_or1 xx_id))))
   replace hG := hG.gr o70 (fun k e => (.inr (.inl e))) (xx_or1 (xx_re (Fr.of_or q71) (xx_orq (xx_or1 xx_id))))
   replace hrw_ := hrw_.gr o70 (fun k e => (.inr (.inl e))) (xx_or1 (xx_re (Fr.of_or q71) (xx_orq (xx_or1 xx_id))))
   have nq2 := nqs nq_cur_gg (Fr.of_or q71) a13.lt
   replace a13 := a13.step o70 (fun e => nq_cur_gg _ e rfl)
   replace nq_cur_gg := nq2
   clear nq2
   have nq2 := nqs nq_cur_b61 (Fr.of_or q71) a64.lt
   replace a64 := a64.step o70 (fun e => nq_cur_b61 _ e rfl)
   replace nq_cur_b61 := nq2
   clear nq2
   have lt2 := a53.lts
   replace a53 := a53.step o70 (fun x hx e => nqq_outr_cur x hx e)
   replace nqq_outr_cur := nqq_step nqq_outr_cur (Fr.of_or q71) lt2
   clear lt2
   have tq := oW.size
   replace oW := oW.tailr o70 q_oW_cur (fun _ e => by cases e)
   replace q_oW_cur := qtr (Fr.of_or q71) q_oW_cur tq
   clear tq
   have tq := o18.size
   replace o18 := o18.tailr o70 q_o18_cur (fun _ e => by cases e)
   replace q_o18_cur := qtr (Fr.of_or q71) q_o18_cur tq
   clear tq
   have tq := o54.size
   replace o54 := o54.tailr o70 q_o54_cur (fun _ e => by cases e)
   replace q_o54_cur := qtr (Fr.of_or q71) q_o54_cur tq
   clear tq
   have tq := o58.size
   replace o58 := o58.tailr o70 q_o58_cur (fun k e => (.inl e))
   replace q_o58_cur := qtr (Fr.of_or q71) q_o58_cur tq
   clear tq
   refine wI (d_assign rfl) ?_
   refine wF ([(Value.agg #[(eN D), (eN B), (eN Q)]), ub, (ptr gg 0), undef, (Value.slice none 0 0), u_dies, (eN (nMin bad B D)), (eN d), (z 8), (z 9), (z 10), (z 11), u_outr, (eN i), u66, (eN d2), (Value.agg #[(eN D), (eN B), (eN Q)]), (eN 0), (Value.bool false), (ptr gg 1), (eN B), (eN d), (ptr gg 0), (eN D), (Value.bool (decide (d < D)))] ++ (zs z 25 38 ++ [(eN i), (eN (nMin bad B D)), (Value.bool (decide (i < (nMin bad B D)))), (z 66), (z 67), (eN d2), (ptr gg 0), (eN D), (Value.bool (decide (d2 < D))), (z 72), (z 73), u_cur, u_dies, (eN d2), (ixp u_dies d2), (vs.getD d2 undef), (eN i), (ixp (vs.getD d2 undef) i), (eN ((goodL bad d2 B).getD i 0)), (sli b61 0 1 1), u66, (z 84), (z 85), (z 86), (z 87), undef])) ?_
   refine wpL.done ?_
   refine inb_n (then_n ?_)
   refine plain ?_
   refine wI (d_move rfl) ?_
   refine wI (n_add (a := d2) (b := 1) rfl rfl (by omega)) ?_
   refine wI (d_assign rfl) ?_
   refine wF ([(Value.agg #[(eN D), (eN B), (eN Q)]), ub, (ptr gg 0), undef, (Value.slice none 0 0), u_dies, (eN (nMin bad B D)), (eN d), (z 8), (z 9), (z 10), (z 11), u_outr, (eN i), u66, (eN (d2 + 1)), (Value.agg #[(eN D), (eN B), (eN Q)]), (eN 0), (Value.bool false), (ptr gg 1), (eN B), (eN d), (ptr gg 0), (eN D), (Value.bool (decide (d < D)))] ++ (zs z 25 38 ++ [(eN i), (eN (nMin bad B D)), (Value.bool (decide (i < (nMin bad B D)))), (z 66), (z 67), (eN d2), (ptr gg 0), (eN D), (Value.bool (decide (d2 < D))), (eN d2), (eN (d2 + 1)), u_cur, u_dies, (eN d2), (ixp u_dies d2), (vs.getD d2 undef), (eN i), (ixp (vs.getD d2 undef) i), (eN ((goodL bad d2 B).getD i 0)), (sli b61 0 1 1), u66, (z 84), (z 85), (z 86), (z 87), undef])) ?_
   refine wpL.done ?_
   refine then_n ?_
   refine ⟨_, ⟨d2 + 1, bo68, u66⟩, rfl, rfl, ⟨?_, ?_, ?_, ?_, ?_, ?_⟩, ?_⟩
   ·
    (try dsimp only)
    all_goals (omega)
   ·
    exact o58
   ·
    exact a13
   ·
    exact a53
   ·
    (try dsimp only)
    all_goals (rw [← supTo_next]; exact a69)
   ·
    exact q_o58_cur
   ·
    (try dsimp only)
    all_goals (omega)
  refine wpIn_exit ?_
  refine then_x (then_x (inb_e ?_))
  refine then_n ?_
  have f72 : Ps (Orq bo_outr (Or1 gg (Old W.heap.size))) (Seq kN (supTo bad B i d2) u_cur) w59 := Ow.seq a57 (fun b_ hb_ => (not_orq (fun x_ hx_ e_ => nqq_outr_cur x_ hx_ (e_ ▸ hb_)) (not_or1 (nq_cur_gg b_ hb_) (old_q q_oW_cur b_ hb_))))
  replace hb := Ps.less (Y := (Orq bo_outr (Or1 gg No))) hb (xx_skip (xx_orq (xx_or1 xx_id)))
  replace hF := Ps.less (Y := (Orq bo_outr (Or1 gg (Old W.heap.size)))) hF (xx_skip (xx_orq (xx_or1 xx_id)))
  replace f52 := Ps.less (Y := (Orq bo_outr (Or1 gg (Old W.heap.size)))) f52 (xx_skip (xx_orq (xx_or1 xx_id)))
  replace hG := Ps.less (Y := (Orq bo_outr (Or1 gg (Old W.heap.size)))) hG (xx_skip (xx_orq (xx_or1 xx_id)))
  refine plain ?_
  refine wI (d_move rfl) ?_
  refine wI (d_move rfl) ?_
  refine wO (d_buildL (cs := [u_cur]) Try.underlying47 s_ti29 rfl (nb rfl) (parts_cons (vs := [u_cur]) (cells_of (v := u_cur) rfl (Seq.cells f72)) parts_nil) rfl) ?_
  rintro _ w74 ⟨b73, rfl, g75, a76, o77⟩
  replace a76 : Arr 29 b73 (([u_cur] : List Value).map eV) w74 := a76
  have l_b73 : ([u_cur] : List Value).length = 1 := rfl
  have n_gg_b73 : gg ≠ b73 := a13.ne g75
  have nq_outr_b73 : ∀ x, bo_outr = some x → ¬ x = b73 := fun x hx e => by have := a53.lts x hx; omega
  have g_oW_b73 : W.heap.size ≤ b73 := Nat.le_trans oW.size g75
  have g_o18_b73 : w15.heap.size ≤ b73 := Nat.le_trans o18.size g75
  have g_o54_b73 : w19.heap.size ≤ b73 := Nat.le_trans o54.size g75
  have g_o58_b73 : w55.heap.size ≤ b73 := Nat.le_trans o58.size g75
  replace hb := hb.new o77 g75
  replace hF := hF.new o77 g75
  replace f52 := f52.new o77 g75
  replace hG := hG.new o77 g75
  replace f72 := f72.new o77 g75
  replace a13 := a13.step0 o77
  replace a53 := a53.step0 o77
  replace oW := oW.tail0 o77
  replace o18 := o18.tail0 o77
  replace o54 := o54.tail0 o77
  replace o58 := o58.tail0 o77
  refine wF ([(Value.agg #[(eN D), (eN B), (eN Q)]), ub, (ptr gg 0), undef, (Value.slice none 0 0), u_dies, (eN (nMin bad B D)), (eN d), (z 8), (z 9), (z 10), (z 11), u_outr, (eN i), u_cur, (eN d2), (Value.agg #[(eN D), (eN B), (eN Q)]), (eN 0), (Value.bool false), (ptr gg 1), (eN B), (eN d), (ptr gg 0), (eN D), (Value.bool (decide (d < D)))] ++ (zs z 25 38 ++ [(eN i), (eN (nMin bad B D)), (Value.bool (decide (i < (nMin bad B D)))), (z 66), (z 67), (eN d2), (ptr gg 0), (eN D), (Value.bool (decide (d2 < D)))] ++ (zs z 72 12 ++ [u_outr, u_cur, (sli b73 0 1 1), (z 87), undef]))) ?_
  refine wO (d_append Try.underlying47 Try.underlying47 s_ti29 rfl rfl rfl a53 (SrcV.of_arr (n := 1) (sz := 1) a76 rfl (fun v_ hv_ => by rw [List.mem_singleton.1 (show v_ ∈ [u_cur] from hv_)]; exact (Seq.one f72))) (by first | omega | (simp; omega)) (by first | omega | (simp; omega)) rfl) ?_
  rintro u78 w79 ⟨bo80, a81, o82, q83⟩
  replace a81 : Ow 29 1 bo80 u78 (ws ++ ([u_cur] : List Value)).length ((ws ++ ([u_cur] : List Value)).map eV) w79 := by rw [List.length_append, List.map_append]; exact a81
  replace hb := hb.gr o82 (fun k e => (.inr (.inl e))) (xx_or1 (xx_re (Fr.of_or q83) (xx_or1 xx_id)))
  replace hF := hF.gr o82 (fun k e => (.inr (.inl e))) (xx_or1 (xx_re (Fr.of_or q83) (xx_or1 xx_id)))
  replace f52 := f52.gr o82 (fun k e => (.inr (.inl e))) (xx_or1 (xx_re (Fr.of_or q83) (xx_or1 xx_id)))
  replace hG := hG.gr o82 (fun k e => (.inr (.inl e))) (xx_or1 (xx_re (Fr.of_or q83) (xx_or1 xx_id)))
  replace f72 := f72.gr o82 (fun k e => (.inr (.inl e))) (xx_or1 (xx_re (Fr.of_or q83) (xx_or1 xx_id)))
  have nq2 := nqs nq_outr_gg (Fr.of_or q83) a13.lt
  replace a13 := a13.step o82 (fun e => nq_outr_gg _ e rfl)
  replace nq_outr_gg := nq2
  clear nq2
  have nq2 := nqs nq_outr_b73 (Fr.of_or q83) a76.lt
  replace a76 := a76.step o82 (fun e => nq_outr_b73 _ e rfl)
  replace nq_outr_b73 := nq2
  clear nq2
  have tq := oW.size
  replace oW := oW.tailr o82 q_oW_outr (fun _ e => by cases e)
  replace q_oW_outr := qtr (Fr.of_or q83) q_oW_outr tq
  clear tq
  have tq := o18.size
  replace o18 := o18.tailr o82 q_o18_outr (fun _ e => by cases e)
  replace q_o18_outr := qtr (Fr.of_or q83) q_o18_outr tq
  clear tq
  have tq := o54.size
  replace o54 := o54.tailr o82 q_o54_outr (fun k e => (.inl e))
  replace q_o54_outr := qtr (Fr.of_or q83) q_o54_outr tq
  clear tq
  have tq := o58.size
  replace o58 := o58.tailr o82 q_o58_outr (fun k e => (.inr (.inl e)))
  replace q_o58_outr := qtr (Fr.of_or q83) q_o58_outr tq
  clear tq
  refine wI (d_assign rfl) ?_
  refine wF ([(Value.agg #[(eN D), (eN B), (eN Q)]), ub, (ptr gg 0), undef, (Value.slice none 0 0), u_dies, (eN (nMin bad B D)), (eN d), (z 8), (z 9), (z 10), (z 11), u78, (eN i), u_cur, (eN d2), (Value.agg #[(eN D), (eN B), (eN Q)]), (eN 0), (Value.bool false), (ptr gg 1), (eN B), (eN d), (ptr gg 0), (eN D), (Value.bool (decide (d < D)))] ++ (zs z 25 38 ++ [(eN i), (eN (nMin bad B D)), (Value.bool (decide (i < (nMin bad B D)))), (z 66), (z 67), (eN d2), (ptr gg 0), (eN D), (Value.bool (decide (d2 < D)))] ++ (zs z 72 12 ++ [u_outr, u_cur, (sli b73 0 1 1), u78, undef]))) ?_
  refine wpL.done ?_
  refine inb_n (then_n ?_)
  refine plain ?_
  refine wI (d_move rfl) ?_
  refine wI (n_add (a := i) (b := 1) rfl rfl (by omega)) ?_
  refine wI (d_assign rfl) ?_
  refine wF ([(Value.agg #[(eN D), (eN B), (eN Q)]), ub, (ptr gg 0), undef, (Value.slice none 0 0), u_dies, (eN (nMin bad B D)), (eN d), (z 8), (z 9), (z 10), (z 11), u78, (eN (i + 1)), u_cur, (eN d2), (Value.agg #[(eN D), (eN B), (eN Q)]), (eN 0), (Value.bool false), (ptr gg 1), (eN B), (eN d), (ptr gg 0), (eN D), (Value.bool (decide (d < D)))] ++ (zs z 25 38 ++ [(eN i), (eN (nMin bad B D)), (Value.bool (decide (i < (nMin bad B D)))), (eN i), (eN (i + 1)), (eN d2), (ptr gg 0), (eN D), (Value.bool (decide (d2 < D)))] ++ (zs z 72 12 ++ [u_outr, u_cur, (sli b73 0 1 1), u78, undef]))) ?_
  refine wpL.done ?_
  refine then_n ?_
  refine ⟨_, ⟨i + 1, ws ++ [u_cur], bo80, u78⟩, rfl, rfl, ⟨?_, ?_, ?_, ?_, ?_, ?_, ?_⟩, ?_⟩
  ·
   (try dsimp only)
   all_goals (omega)
  ·
   (try dsimp only)
   all_goals (rw [List.length_append, hw, List.length_singleton])
  ·
   (try dsimp only)
   all_goals (exact fam_snoc (hG.less (xx_skip (xx_orq (xx_or1 xx_id)))) (f72.less (xx_skip (xx_orq (xx_or1 xx_id)))) (by rw [show d2 = D by omega]; rfl) hw)
  ·
   exact o54
  ·
   exact a13
  ·
   exact a81
  ·
   exact q_o54_outr
  ·
   (try dsimp only)
   all_goals (omega)
 refine wpIn_exit ?_
 refine then_x (then_x (inb_e ?_))
 refine then_n ?_
 refine wpIn_seq ?_
 refine plain ?_
 refine wI (d_move rfl) ?_
 refine wI (d_assign rfl) ?_
 refine wF ([(Value.agg #[(eN D), (eN B), (eN Q)]), ub, (ptr gg 0), undef, u_outr, u_dies, (eN (nMin bad B D)), (eN d), (z 8), (z 9), (z 10), (z 11), u_outr, (eN i), (z 14), (z 15), (Value.agg #[(eN D), (eN B), (eN Q)]), (eN 0), (Value.bool false), (ptr gg 1), (eN B), (eN d), (ptr gg 0), (eN D), (Value.bool (decide (d < D)))] ++ (zs z 25 38 ++ [(eN i), (eN (nMin bad B D)), (Value.bool (decide (i < (nMin bad B D))))] ++ (zs z 66 22 ++ [u_outr]))) ?_
 refine wpL.done ?_
 refine then_n ?_
 refine wpIn_ret ?_
 refine leave0 (v := u_outr) (res1 Try.results32 rfl) ?_
 have hin_ : i = (nMin bad B D) := by omega
 rw [hin_] at hG
 exact ⟨ws, hw.trans hin_, (Ow.seq a53 (old_q q_oW_outr)), hG.less (xx_skip (xx_skip xx_id)), oW⟩

set_option maxRecDepth 20000 in
set_option maxHeartbeats 1000000 in
theorem law7Within_ok (a : Int) (m : Nat) (W : World) (hm : 0 < m) (hm2 : m ≤ 1000000) :
    CW Try.prog 46 #[(eI a), (eN m)] W (Rt (RIs (eN (a % (m : Int)).toNat) W)) := by
 have oW : Only No W W := Only.refl _ _
 refine enter (al := [(eI a), (eN m)]) (k := 13) (l := ([(eI a), (eN m)] ++ (us 13))) Try.func46 rfl Try.ntmps46 rfl rfl ?_
 refine wpIn_seq ?_
 refine plain ?_
 refine wI (d_assign rfl) ?_
 refine wF ([(eI a), (eN m), undef, undef, (eN 0)] ++ (us 10)) ?_
 refine wpL.done ?_
 refine then_n ?_
 refine wpIn_seq ?_
 refine plain ?_
 refine wI (d_move rfl) ?_
 refine wI (d_move rfl) ?_
 refine wI (d_rem (k := .i64) (m := a) (n := ((m : Nat) : Int)) rfl rfl (by omega) (r := Int.tmod a (m : Int)) rfl) ?_
 refine wF ([(eI a), (eN m), undef, undef, (eN 0), undef, (eI a), (eN m), (eI (Int.tmod a (m : Int)))] ++ (us 6)) ?_
 refine wI (d_assign rfl) ?_
 refine wF ([(eI a), (eN m), undef, undef, (eN 0), (eI (Int.tmod a (m : Int))), (eI a), (eN m), (eI (Int.tmod a (m : Int)))] ++ (us 6)) ?_
 refine wpL.done ?_
 refine then_n ?_
 refine wpIn_seq ?_
 refine wpIn_seq ?_
 refine plain ?_
 refine wI (d_move rfl) ?_
 refine wI (d_lss (k := .i64) (m := Int.tmod a (m : Int)) (n := 0) rfl rfl rfl) ?_
 refine wF [(eI a), (eN m), undef, undef, (eN 0), (eI (Int.tmod a (m : Int))), (eI a), (eN m), (eI (Int.tmod a (m : Int))), (eI (Int.tmod a (m : Int))), (Value.bool (decide (Int.tmod a (m : Int) < 0))), undef, undef, undef, undef] ?_
 refine wpL.done ?_
 refine then_n ?_
 refine cond_if rfl (fun k1 => ?_) (fun k1 => ?_)
 ·
  refine plain ?_
  refine wI (d_move rfl) ?_
  refine wI (d_move rfl) ?_
  refine wI (d_add (k := .i64) (m := Int.tmod a (m : Int)) (n := ((m : Nat) : Int)) rfl rfl (r := (((a % (m : Int)).toNat : Nat) : Int)) (tmm_neg hm hm2 k1)) ?_
  refine wF [(eI a), (eN m), undef, undef, (eN 0), (eI (Int.tmod a (m : Int))), (eI a), (eN m), (eI (Int.tmod a (m : Int))), (eI (Int.tmod a (m : Int))), (Value.bool (decide (Int.tmod a (m : Int) < 0))), (eI (Int.tmod a (m : Int))), (eN m), (eN ((a % (m : Int)).toNat)), undef] ?_
  refine wI (d_assign rfl) ?_
  refine wF [(eI a), (eN m), undef, undef, (eN 0), (eN ((a % (m : Int)).toNat)), (eI a), (eN m), (eI (Int.tmod a (m : Int))), (eI (Int.tmod a (m : Int))), (Value.bool (decide (Int.tmod a (m : Int) < 0))), (eI (Int.tmod a (m : Int))), (eN m), (eN ((a % (m : Int)).toNat)), undef] ?_
  refine wpL.done ?_
  refine then_n ?_
  refine wpIn_seq ?_
  refine plain ?_
  refine wI (d_move rfl) ?_
  refine wI (d_assign rfl) ?_
  refine wF [(eI a), (eN m), undef, undef, (eN ((a % (m : Int)).toNat)), (eN ((a % (m : Int)).toNat)), (eI a), (eN m), (eI (Int.tmod a (m : Int))), (eI (Int.tmod a (m : Int))), (Value.bool (decide (Int.tmod a (m : Int) < 0))), (eI (Int.tmod a (m : Int))), (eN m), (eN ((a % (m : Int)).toNat)), (eN ((a % (m : Int)).toNat))] ?_
  refine wpL.done ?_
  refine then_n ?_
  refine wpIn_ret ?_
  refine leave0 (v := (eN ((a % (m : Int)).toNat))) (res1 Try.results46 rfl) ?_
  exact ⟨rfl, oW⟩
 refine wp_eq (l' := [(eI a), (eN m), undef, undef, (eN 0), (eN ((a % (m : Int)).toNat)), (eI a), (eN m), (eN ((a % (m : Int)).toNat)), (eN ((a % (m : Int)).toNat)), (Value.bool (decide (Int.tmod a (m : Int) < 0))), undef, undef, undef, undef]) (Eq.trans (Eq.trans (show ([(eI a), (eN m), undef, undef, (eN 0), (eI (Int.tmod a (m : Int))), (eI a), (eN m), (eI (Int.tmod a (m : Int))), (eI (Int.tmod a (m : Int))), (Value.bool (decide (Int.tmod a (m : Int) < 0))), undef, undef, undef, undef] : List Value) = [(eI a), (eN m), undef, undef, (eN 0), (eN ((a % (m : Int)).toNat)), (eI a), (eN m), (eI (Int.tmod a (m : Int))), (eI (Int.tmod a (m : Int))), (Value.bool (decide (Int.tmod a (m : Int) < 0))), undef, undef, undef, undef] from reslot [(eI a), (eN m), undef, undef, (eN 0), (eI (Int.tmod a (m : Int))), (eI a), (eN m), (eI (Int.tmod a (m : Int))), (eI (Int.tmod a (m : Int))), (Value.bool (decide (Int.tmod a (m : Int) < 0))), undef, undef, undef, undef] 5 (tmm_pos hm k1)) (show ([(eI a), (eN m), undef, undef, (eN 0), (eN ((a % (m : Int)).toNat)), (eI a), (eN m), (eI (Int.tmod a (m : Int))), (eI (Int.tmod a (m : Int))), (Value.bool (decide (Int.tmod a (m : Int) < 0))), undef, undef, undef, undef] : List Value) = [(eI a), (eN m), undef, undef, (eN 0), (eN ((a % (m : Int)).toNat)), (eI a), (eN m), (eN ((a % (m : Int)).toNat)), (eI (Int.tmod a (m : Int))), (Value.bool (decide (Int.tmod a (m : Int) < 0))), undef, undef, undef, undef] from reslot [(eI a), (eN m), undef, undef, (eN 0), (eN ((a % (m : Int)).toNat)), (eI a), (eN m), (eI (Int.tmod a (m : Int))), (eI (Int.tmod a (m : Int))), (Value.bool (decide (Int.tmod a (m : Int) < 0))), undef, undef, undef, undef] 8 (tmm_pos hm k1))) (show ([(eI a), (eN m), undef, undef, (eN 0), (eN ((a % (m : Int)).toNat)), (eI a), (eN m), (eN ((a % (m : Int)).toNat)), (eI (Int.tmod a (m : Int))), (Value.bool (decide (Int.tmod a (m : Int) < 0))), undef, undef, undef, undef] : List Value) = [(eI a), (eN m), undef, undef, (eN 0), (eN ((a % (m : Int)).toNat)), (eI a), (eN m), (eN ((a % (m : Int)).toNat)), (eN ((a % (m : Int)).toNat)), (Value.bool (decide (Int.tmod a (m : Int) < 0))), undef, undef, undef, undef] from reslot [(eI a), (eN m), undef, undef, (eN 0), (eN ((a % (m : Int)).toNat)), (eI a), (eN m), (eN ((a % (m : Int)).toNat)), (eI (Int.tmod a (m : Int))), (Value.bool (decide (Int.tmod a (m : Int) < 0))), undef, undef, undef, undef] 9 (tmm_pos hm k1))) ?_
 refine wpIn_skip ?_
 refine then_n ?_
 refine wpIn_seq ?_
 refine plain ?_
 refine wI (d_move rfl) ?_
 refine wI (d_assign rfl) ?_
 refine wF [(eI a), (eN m), undef, undef, (eN ((a % (m : Int)).toNat)), (eN ((a % (m : Int)).toNat)), (eI a), (eN m), (eN ((a % (m : Int)).toNat)), (eN ((a % (m : Int)).toNat)), (Value.bool (decide (Int.tmod a (m : Int) < 0))), undef, undef, undef, (eN ((a % (m : Int)).toNat))] ?_
 refine wpL.done ?_
 refine then_n ?_
 refine wpIn_ret ?_
 refine leave0 (v := (eN ((a % (m : Int)).toNat))) (res1 Try.results46 rfl) ?_
 exact ⟨rfl, oW⟩

set_option maxRecDepth 20000 in
set_option maxHeartbeats 1000000 in
theorem law7MakeE_ok (a b c : Int) (W : World) :
    CW Try.prog 29 #[(Value.agg #[(eI a), (eI b), (eI c)])] W (Rt (fun u w => ∃ D B Q : Nat, u = .agg #[eN D, eN B, eN Q] ∧ (6 ≤ D ∧ D ≤ 8 ∧ 8 ≤ B ∧ B ≤ 12 ∧ 4 ≤ Q ∧ Q ≤ 8) ∧ Only No W w)) := by
 have oW : Only No W W := Only.refl _ _
 refine enter (al := [(Value.agg #[(eI a), (eI b), (eI c)])]) (k := 15) (l := ([(Value.agg #[(eI a), (eI b), (eI c)])] ++ (us 15))) Try.func29 rfl Try.ntmps29 rfl rfl ?_
 refine wpIn_seq ?_
 refine plain ?_
 refine wO (d_box rfl rfl) ?_
 rintro _ w11 ⟨g, rfl, g12, a13, o14⟩
 have g_oW_g : W.heap.size ≤ g := Nat.le_trans oW.size g12
 replace oW := oW.tail0 o14
 refine wO (d_alloc s_ti25 rfl) ?_
 rintro _ w15 ⟨r, rfl, g16, a17, o18⟩
 have n_g_r : g ≠ r := a13.ne g16
 have g_oW_r : W.heap.size ≤ r := Nat.le_trans oW.size g16
 replace a13 := a13.step0 o18
 replace oW := oW.tail0 o18
 refine wF ([(Value.agg #[(eI a), (eI b), (eI c)]), (ptr g 0), (ptr r 0)] ++ (us 13)) ?_
 refine wpL.done ?_
 refine then_n ?_
 refine wpIn_seq ?_
 refine drawn_last (O := (Is1 r)) (m := 13) (R := fun w_ => Arr 25 r [(eN (6 + ((a % ((3 : Nat) : Int)).toNat))), (eN (8 + ((b % ((5 : Nat) : Int)).toNat))), (eN (4 + ((c % ((5 : Nat) : Int)).toNat)))] w_) [0, 1, 3, 7, 0, 16, 55, 119, 0, 256, 887, 1911, 4095, 8191] [(0, 3), (1, 4), (2, 5), (3, 6), (4, 7), (5, 8), (6, 9), (7, 10), (8, 11), (9, 12), (10, 13), (11, 14), (12, 15)] [(ptr g 0), (eI a), (eN ((a % ((3 : Nat) : Int)).toNat)), (eN (6 + ((a % ((3 : Nat) : Int)).toNat))), (ptr g 1), (eI b), (eN ((b % ((5 : Nat) : Int)).toNat)), (eN (8 + ((b % ((5 : Nat) : Int)).toNat))), (ptr g 2), (eI c), (eN ((c % ((5 : Nat) : Int)).toNat)), (eN (4 + ((c % ((5 : Nat) : Int)).toNat))), (Value.agg #[(eN (6 + ((a % ((3 : Nat) : Int)).toNat))), (eN (8 + ((b % ((5 : Nat) : Int)).toNat))), (eN (4 + ((c % ((5 : Nat) : Int)).toNat)))])] [(Value.agg #[(eI a), (eI b), (eI c)]), (ptr g 0), (ptr r 0), (ptr g 0), (eI a), (eN ((a % ((3 : Nat) : Int)).toNat)), (eN (6 + ((a % ((3 : Nat) : Int)).toNat))), (ptr g 1), (eI b), (eN ((b % ((5 : Nat) : Int)).toNat)), (eN (8 + ((b % ((5 : Nat) : Int)).toNat))), (ptr g 2), (eI c), (eN ((c % ((5 : Nat) : Int)).toNat)), (eN (4 + ((c % ((5 : Nat) : Int)).toNat))), (Value.agg #[(eN (6 + ((a % ((3 : Nat) : Int)).toNat))), (eN (8 + ((b % ((5 : Nat) : Int)).toNat))), (eN (4 + ((c % ((5 : Nat) : Int)).toNat)))])] s_mx (by kernel_rfl) (by kernel_rfl) rfl rfl (by decide) (by kernel_rfl) (by kernel_rfl) ?_ (fun _ _ h_ ho_ => h_.step0 ho_) ⟨_, rfl, rfl, fun w_ hO_ => gd rfl ((d_storeAg (cs' := [(eN (6 + ((a % ((3 : Nat) : Int)).toNat))), (eN (8 + ((b % ((5 : Nat) : Int)).toNat))), (eN (4 + ((c % ((5 : Nat) : Int)).toNat)))]) s_ti25 rfl rfl rfl (oc_cons rfl (oc_cons rfl (oc_cons rfl oc_nil))) (a17.step0 hO_) (by decide) rfl).mono fun u_ w2_ h_ => ⟨h_.2, h_.1⟩)⟩ ?_
 ·
  intro w_ hO_
  refine AllG.cons (gi rfl (d_fieldAddr (j := 0) Try.underlying25 rfl s_ti3 (by decide) rfl rfl)) ?_
  refine AllG.cons (gi rfl (d_load (v := (eI a)) ⟨_, Try.underlying3, rfl⟩ rfl (a13.step0 hO_) rfl)) ?_
  refine AllG.cons (gc rfl (d_call (xl := [.tmp 4, .const (.int .i64 3)]) (al := [(eI a), (eN 3)]) Try.func46 (by kernel_rfl) rfl rfl rfl (law7Within_ok a 3 _ (by omega) (by omega)))) ?_
  refine AllG.cons (gi rfl (n_add (a := 6) (b := ((a % ((3 : Nat) : Int)).toNat)) rfl rfl (by omega))) ?_
  refine AllG.cons (gi rfl (d_fieldAddr (j := 1) Try.underlying25 rfl s_ti3 (by decide) rfl rfl)) ?_
  refine AllG.cons (gi rfl (d_load (v := (eI b)) ⟨_, Try.underlying3, rfl⟩ rfl (a13.step0 hO_) rfl)) ?_
  refine AllG.cons (gc rfl (d_call (xl := [.tmp 8, .const (.int .i64 5)]) (al := [(eI b), (eN 5)]) Try.func46 (by kernel_rfl) rfl rfl rfl (law7Within_ok b 5 _ (by omega) (by omega)))) ?_
  refine AllG.cons (gi rfl (n_add (a := 8) (b := ((b % ((5 : Nat) : Int)).toNat)) rfl rfl (by omega))) ?_
  refine AllG.cons (gi rfl (d_fieldAddr (j := 2) Try.underlying25 rfl s_ti3 (by decide) rfl rfl)) ?_
  refine AllG.cons (gi rfl (d_load (v := (eI c)) ⟨_, Try.underlying3, rfl⟩ rfl (a13.step0 hO_) rfl)) ?_
  refine AllG.cons (gc rfl (d_call (xl := [.tmp 12, .const (.int .i64 5)]) (al := [(eI c), (eN 5)]) Try.func46 (by kernel_rfl) rfl rfl rfl (law7Within_ok c 5 _ (by omega) (by omega)))) ?_
  refine AllG.cons (gi rfl (n_add (a := 4) (b := ((c % ((5 : Nat) : Int)).toNat)) rfl rfl (by omega))) ?_
  refine AllG.cons (gi rfl (d_buildS (pl := [(0, 1), (1, 1), (2, 1)]) (zs := [(eN 0), (eN 0), (eN 0)]) (cs := [(eN (6 + ((a % ((3 : Nat) : Int)).toNat))), (eN (8 + ((b % ((5 : Nat) : Int)).toNat))), (eN (4 + ((c % ((5 : Nat) : Int)).toNat)))]) Try.underlying25 s_ti25 ⟨_, _, _, _, rfl, s_ti3, ⟨_, _, _, _, rfl, s_ti3, ⟨_, _, _, _, rfl, s_ti3, rfl⟩⟩⟩ rfl (parts_cons (vs := [(eN (6 + ((a % ((3 : Nat) : Int)).toNat)))]) (cells_of (v := (eN (6 + ((a % ((3 : Nat) : Int)).toNat)))) rfl rfl) (parts_cons (vs := [(eN (8 + ((b % ((5 : Nat) : Int)).toNat)))]) (cells_of (v := (eN (8 + ((b % ((5 : Nat) : Int)).toNat)))) rfl rfl) (parts_cons (vs := [(eN (4 + ((c % ((5 : Nat) : Int)).toNat)))]) (cells_of (v := (eN (4 + ((c % ((5 : Nat) : Int)).toNat)))) rfl rfl) parts_nil))) rfl)) ?_
  exact AllG.nil
 intro w19 o20 a21
 replace a13 := a13.step o20 (fun e => absurd e n_g_r)
 replace oW := oW.tailb o20 g_oW_r
 refine then_n ?_
 refine wpIn_ret ?_
 refine leave0 (v := (Value.agg #[(eN (6 + ((a % ((3 : Nat) : Int)).toNat))), (eN (8 + ((b % ((5 : Nat) : Int)).toNat))), (eN (4 + ((c % ((5 : Nat) : Int)).toNat)))])) (resC Try.results29 ⟨_, Try.underlying25, rfl⟩ s_ti25 rfl a21 rfl) ?_
 exact ⟨_, _, _, rfl, by omega, oW⟩

set_option maxRecDepth 20000 in
set_option maxHeartbeats 1000000 in
theorem law7Spoil_ok (D B Q : Nat) (ls : List Int) (u1 : Value) (W : World) (h1 : Ps No (Seq kI ls u1) W) (g1 : ls.length ≤ 140737488351232) (hD : D ≤ 8) (hB : 8 ≤ B ∧ B ≤ 12) :
    CW Try.prog 30 #[(Value.agg #[(eN D), (eN B), (eN Q)]), u1] W (Rt (RPs (Seq (kA 2 eQ) (spoilL D B ls)) W)) := by
 have oW : Only No W W := Only.refl _ _
 refine enter (al := [(Value.agg #[(eN D), (eN B), (eN Q)]), u1]) (k := 37) (l := ([(Value.agg #[(eN D), (eN B), (eN Q)]), u1] ++ (us 37))) Try.func30 rfl Try.ntmps30 rfl rfl ?_
 refine wpIn_seq ?_
 refine plain ?_
 refine wO (d_box rfl rfl) ?_
 rintro _ w11 ⟨gg, rfl, g12, a13, o14⟩
 have g_oW_gg : W.heap.size ≤ gg := Nat.le_trans oW.size g12
 replace h1 := h1.new o14 g12
 replace oW := oW.tail0 o14
 refine wI (d_assign rfl) ?_
 refine wF ([(Value.agg #[(eN D), (eN B), (eN Q)]), u1, (ptr gg 0), undef, (Value.slice none 0 0)] ++ (us 34)) ?_
 refine wpL.done ?_
 refine then_n ?_
 refine wpIn_seq ?_
 refine plain ?_
 refine wI (d_assign rfl) ?_
 refine wF ([(Value.agg #[(eN D), (eN B), (eN Q)]), u1, (ptr gg 0), undef, (Value.slice none 0 0), (Value.slice none 0 0)] ++ (us 33)) ?_
 refine wpL.done ?_
 have a15 : Ow 53 2 none (Value.slice none 0 0) ([] : List (Int × Int)).length (([] : List (Int × Int)).flatMap eQ) w11 := Ow.nil _ _ _
 have nq_out_gg : ∀ x, (none : Option Nat) = some x → ¬ x = gg := fun x e => by cases e
 have q_oW_out : Fr none none W.heap.size := Fr.none
 replace h1 := h1.qnone
 refine then_n ?_
 refine wpIn_seq ?_
 refine wpIn_seq ?_
 refine plain ?_
 refine wI (d_assign rfl) ?_
 refine wF ([(Value.agg #[(eN D), (eN B), (eN Q)]), u1, (ptr gg 0), undef, (Value.slice none 0 0), (Value.slice none 0 0), (eN 0)] ++ (us 32)) ?_
 refine wpL.done ?_
 refine then_n ?_
 refine wpIn_block ?_
 have h_lt_gg := a13.lt
 have h_lts_out := a15.lts
 refine loop2 (fun (s_ : (Nat) × (Option Nat) × (Value)) => match s_ with | ⟨i, bo_out, u_out⟩ => fun (z : Nat → Value) => (([(Value.agg #[(eN D), (eN B), (eN Q)]), u1, (ptr gg 0), undef, (Value.slice none 0 0), u_out, (eN i)] ++ (zs z 7 31 ++ [undef])) : List Value)) (fun (s_ : (Nat) × (Option Nat) × (Value)) => match s_ with | ⟨i, bo_out, u_out⟩ => fun (w_ : World) => (i ≤ ls.length ∧ i ≤ D) ∧ Only (Orq none (Or1 gg No)) w11 w_ ∧ Arr 25 gg [(eN D), (eN B), (eN Q)] w_ ∧ Ow 53 2 bo_out u_out (spoilTo B ls i).length ((spoilTo B ls i).flatMap eQ) w_ ∧ Fr bo_out none w11.heap.size) (fun (s_ : (Nat) × (Option Nat) × (Value)) => match s_ with | ⟨i, bo_out, u_out⟩ => D - i) ⟨0, none, (Value.slice none 0 0)⟩ rfl ?_ ?_
 ·
  refine ⟨?_, ?_, ?_, ?_, ?_⟩
  ·
   exact ⟨Nat.zero_le _, Nat.zero_le _⟩
  ·
   exact Only.refl _ _
  ·
   exact a13
  ·
   exact a15
  ·
   exact Fr.same
 rintro ⟨i, bo_out, u_out⟩ z w17 ⟨hi, o16, a13, a15, qq_out⟩
 (try dsimp only)
 replace h1 := h1.re o16 (orq_mono (or1_mono no_any)) (xx_re qq_out (xx_or1 xx_id))
 have tq_oW := oW.size
 replace oW := oW.tail o16 (tl_q q_oW_out (fun _ e => by cases e) (tl_new g_oW_gg tl_no))
 replace q_oW_out := qtr qq_out q_oW_out tq_oW
 replace nq_out_gg := nqs nq_out_gg qq_out h_lt_gg
 have q_o16_out := qq_out
 refine wpIn_seq ?_
 refine wpIn_seq ?_
 by_cases k0 : i < ls.length
 ·
  by_cases k1 : i < D
  ·
   refine plain ?_
   refine wI (d_move rfl) ?_
   refine wI (d_move rfl) ?_
   refine wI (d_lenS rfl Try.underlying29 rfl h1) ?_
   refine wF ([(Value.agg #[(eN D), (eN B), (eN Q)]), u1, (ptr gg 0), undef, (Value.slice none 0 0), u_out, (eN i), (z 7), (eN i), u1, (eN ls.length)] ++ (zs z 11 27 ++ [undef])) ?_
   refine wI (n_lss (a := i) (b := ls.length) rfl rfl (decide_eq_true k0)) ?_
   refine wI (d_move rfl) ?_
   refine wpL.onis rfl rfl rfl (nb rfl) rfl (d_move rfl) ?_
   refine wF ([(Value.agg #[(eN D), (eN B), (eN Q)]), u1, (ptr gg 0), undef, (Value.slice none 0 0), u_out, (eN i), (z 7), (eN i), u1, (eN ls.length), (Value.bool true), (Value.bool true), (eN i)] ++ (zs z 14 24 ++ [undef])) ?_
   refine wpL.onis rfl rfl rfl (nb rfl) rfl (d_fieldAddr (j := 0) Try.underlying25 rfl s_ti3 (by decide) rfl rfl) ?_
   refine wpL.onis rfl rfl rfl (nb rfl) rfl (d_load (v := (eN D)) ⟨_, Try.underlying3, rfl⟩ rfl a13 rfl) ?_
   refine wpL.onis rfl rfl rfl (nb rfl) rfl (n_lss (a := i) (b := D) rfl rfl (decide_eq_true k1)) ?_
   refine wF ([(Value.agg #[(eN D), (eN B), (eN Q)]), u1, (ptr gg 0), undef, (Value.slice none 0 0), u_out, (eN i), (z 7), (eN i), u1, (eN ls.length), (Value.bool true), (Value.bool true), (eN i), (ptr gg 0), (eN D), (Value.bool true)] ++ (zs z 17 21 ++ [undef])) ?_
   refine wI (d_pick (b := true) (v := (Value.bool true)) rfl rfl) ?_
   refine wF ([(Value.agg #[(eN D), (eN B), (eN Q)]), u1, (ptr gg 0), undef, (Value.slice none 0 0), u_out, (eN i), (z 7), (eN i), u1, (eN ls.length), (Value.bool true), (Value.bool true), (eN i), (ptr gg 0), (eN D), (Value.bool true), (Value.bool true)] ++ (zs z 18 20 ++ [undef])) ?_
   refine wpL.done ?_
   refine then_n ?_
   refine forget (fun zf18 => ([(Value.agg #[(eN D), (eN B), (eN Q)]), u1, (ptr gg 0), undef, (Value.slice none 0 0), u_out, (eN i)] ++ (zs zf18 7 10 ++ [(Value.bool true), (zf18 18), (zf18 19)] ++ (zs z 20 8 ++ (zs zf18 28 10 ++ [undef]))))) (by kernel_rfl) (fun zf18 => ?_)
   refine cond_t rfl ?_
   refine wpIn_skip ?_
   refine then_n ?_
   refine wpIn_seq ?_
   refine wpIn_block ?_
   refine wpIn_seq ?_
   refine drawn_pure [0, 0, 3, 7, 0, 16, 48, 127, 255] [(0, 20), (1, 21), (2, 22), (3, 23), (4, 24), (5, 25), (6, 26), (7, 27), (8, 7)] [u1, (eN i), (ixp u1 i), (eI (ls.getD i 0)), (ptr gg 1), (eN B), (eN (2 * B)), (eN (((ls.getD i 0) % ((2 * B : Nat) : Int)).toNat)), (eN (((ls.getD i 0) % ((2 * B : Nat) : Int)).toNat))] ([(Value.agg #[(eN D), (eN B), (eN Q)]), u1, (ptr gg 0), undef, (Value.slice none 0 0), u_out, (eN i), (eN (((ls.getD i 0) % ((2 * B : Nat) : Int)).toNat))] ++ (zs zf18 8 9 ++ [(Value.bool true), (zf18 18), (zf18 19), u1, (eN i), (ixp u1 i), (eI (ls.getD i 0)), (ptr gg 1), (eN B), (eN (2 * B)), (eN (((ls.getD i 0) % ((2 * B : Nat) : Int)).toNat))] ++ (zs zf18 28 10 ++ [undef]))) s_mx (by kernel_rfl) (by kernel_rfl) rfl (by kernel_rfl) (by kernel_rfl) ?_ ?_
   ·
    intro w_ hO_
    refine AllG.cons (gi rfl (d_move rfl)) ?_
    refine AllG.cons (gi rfl (d_move rfl)) ?_
    refine AllG.cons (gi rfl (d_ix (i := i) (xs := ls) Try.underlying29 s_ti3 rfl (h1.step0 hO_) (show _ = Value.int _ ((i : Nat) : Int) from rfl) (by first | omega | (simp; done) | (simp; omega)))) ?_
    refine AllG.cons (gi rfl (d_ldx (i := i) (xs := ls) (enc := eI) (v := (ls.getD i 0)) ⟨_, Try.underlying3, rfl⟩ rfl (h1.step0 hO_) (g_at (by first | omega | (simp; done) | (simp; omega))))) ?_
    refine AllG.cons (gi rfl (d_fieldAddr (j := 1) Try.underlying25 rfl s_ti3 (by decide) rfl rfl)) ?_
    refine AllG.cons (gi rfl (d_load (v := (eN B)) ⟨_, Try.underlying3, rfl⟩ rfl (a13.step0 hO_) rfl)) ?_
    refine AllG.cons (gi rfl (n_mul (a := 2) (b := B) rfl rfl (by omega))) ?_
    refine AllG.cons (gc rfl (d_call (xl := [.tmp 23, .tmp 26]) (al := [(eI (ls.getD i 0)), (eN (2 * B))]) Try.func46 (by kernel_rfl) rfl rfl rfl (law7Within_ok (ls.getD i 0) (2 * B) _ (by omega) (by omega)))) ?_
    refine AllG.cons (gi rfl (d_assign rfl)) ?_
    exact AllG.nil
   intro w19 o20
   replace h1 := h1.step0 o20
   replace a13 := a13.step0 o20
   replace a15 := a15.step0 o20
   replace oW := oW.tail0 o20
   replace o16 := o16.tail0 o20
   refine then_n ?_
   refine wpIn_seq ?_
   refine plain ?_
   refine wI (d_move rfl) ?_
   refine wI (d_fieldAddr (j := 1) Try.underlying25 rfl s_ti3 (by decide) rfl rfl) ?_
   refine wI (d_load (v := (eN B)) ⟨_, Try.underlying3, rfl⟩ rfl a13 rfl) ?_
   refine wF ([(Value.agg #[(eN D), (eN B), (eN Q)]), u1, (ptr gg 0), undef, (Value.slice none 0 0), u_out, (eN i), (eN (((ls.getD i 0) % ((2 * B : Nat) : Int)).toNat))] ++ (zs zf18 8 9 ++ [(Value.bool true), (zf18 18), (zf18 19), u1, (eN i), (ixp u1 i), (eI (ls.getD i 0)), (ptr gg 1), (eN B), (eN (2 * B)), (eN (((ls.getD i 0) % ((2 * B : Nat) : Int)).toNat)), (eN (((ls.getD i 0) % ((2 * B : Nat) : Int)).toNat)), (ptr gg 1), (eN B)] ++ (zs zf18 31 7 ++ [undef]))) ?_
   refine wI (n_lss (a := (((ls.getD i 0) % ((2 * B : Nat) : Int)).toNat)) (b := B) rfl rfl rfl) ?_
   refine wF ([(Value.agg #[(eN D), (eN B), (eN Q)]), u1, (ptr gg 0), undef, (Value.slice none 0 0), u_out, (eN i), (eN (((ls.getD i 0) % ((2 * B : Nat) : Int)).toNat))] ++ (zs zf18 8 9 ++ [(Value.bool true), (zf18 18), (zf18 19), u1, (eN i), (ixp u1 i), (eI (ls.getD i 0)), (ptr gg 1), (eN B), (eN (2 * B)), (eN (((ls.getD i 0) % ((2 * B : Nat) : Int)).toNat)), (eN (((ls.getD i 0) % ((2 * B : Nat) : Int)).toNat)), (ptr gg 1), (eN B), (Value.bool (decide ((((ls.getD i 0) % ((2 * B : Nat) : Int)).toNat) < B)))] ++ (zs zf18 32 6 ++ [undef]))) ?_
   refine wpL.done ?_
   refine then_n ?_
   refine cond_if rfl (fun c2_ => ?_) (fun c2_ => ?_)
   ·
    refine plain ?_
    refine wI (d_move rfl) ?_
    refine wI (d_move rfl) ?_
    refine wI (d_move rfl) ?_
    refine wF ([(Value.agg #[(eN D), (eN B), (eN Q)]), u1, (ptr gg 0), undef, (Value.slice none 0 0), u_out, (eN i), (eN (((ls.getD i 0) % ((2 * B : Nat) : Int)).toNat))] ++ (zs zf18 8 9 ++ [(Value.bool true), (zf18 18), (zf18 19), u1, (eN i), (ixp u1 i), (eI (ls.getD i 0)), (ptr gg 1), (eN B), (eN (2 * B)), (eN (((ls.getD i 0) % ((2 * B : Nat) : Int)).toNat)), (eN (((ls.getD i 0) % ((2 * B : Nat) : Int)).toNat)), (ptr gg 1), (eN B), (Value.bool (decide ((((ls.getD i 0) % ((2 * B : Nat) : Int)).toNat) < B))), u_out, (eN i), (eN (((ls.getD i 0) % ((2 * B : Nat) : Int)).toNat)), (zf18 35), (zf18 36), (zf18 37), undef])) ?_
    refine wI (d_buildA (zs := [(eN 0), (eN 0)]) (cs := [(eN i), (eN (((ls.getD i 0) % ((2 * B : Nat) : Int)).toNat))]) Try.underlying53 s_ti53 s_ti3 rfl (parts_cons (vs := [(eN i)]) (cells_of (v := (eN i)) rfl rfl) (parts_cons (vs := [(eN (((ls.getD i 0) % ((2 * B : Nat) : Int)).toNat))]) (cells_of (v := (eN (((ls.getD i 0) % ((2 * B : Nat) : Int)).toNat))) rfl rfl) parts_nil)) rfl) ?_
    refine wO (d_buildL2 (zs := [(eN 0), (eN 0)]) (cs := [(eN i), (eN (((ls.getD i 0) % ((2 * B : Nat) : Int)).toNat))]) Try.underlying42 s_ti53 made_one2 (nb rfl) (parts_cons (vs := [(eN i), (eN (((ls.getD i 0) % ((2 * B : Nat) : Int)).toNat))]) (cells_of (v := (Value.agg #[(eN i), (eN (((ls.getD i 0) % ((2 * B : Nat) : Int)).toNat))])) rfl rfl) parts_nil) rfl) ?_
    rintro _ w22 ⟨b21, rfl, g23, a24, o25⟩
    have n_gg_b21 : gg ≠ b21 := a13.ne g23
    have nq_out_b21 : ∀ x, bo_out = some x → ¬ x = b21 := fun x hx e => by have := a15.lts x hx; omega
    have g_oW_b21 : W.heap.size ≤ b21 := Nat.le_trans oW.size g23
    have g_o16_b21 : w11.heap.size ≤ b21 := Nat.le_trans o16.size g23
    replace h1 := h1.new o25 g23
    replace a13 := a13.step0 o25
    replace a15 := a15.step0 o25
    replace oW := oW.tail0 o25
    replace o16 := o16.tail0 o25
    refine wO (d_append Try.underlying42 Try.underlying42 s_ti53 rfl rfl rfl a15 (SrcV.of_arr (n := 1) (sz := 2) a24 rfl (one_eQ [(((i : Nat) : Int), ((((ls.getD i 0) % ((2 * B : Nat) : Int)).toNat : Nat) : Int))])) (by have h_ := spoil_len B ls i; omega) (by have h_ := spoil_len B ls i; omega) rfl) ?_
    rintro u26 w27 ⟨bo28, a29, o30, q31⟩
    replace a29 : Ow 53 2 bo28 u26 ((spoilTo B ls i) ++ [(((i : Nat) : Int), ((((ls.getD i 0) % ((2 * B : Nat) : Int)).toNat : Nat) : Int))]).length (((spoilTo B ls i) ++ [(((i : Nat) : Int), ((((ls.getD i 0) % ((2 * B : Nat) : Int)).toNat : Nat) : Int))]).flatMap eQ) w27 := ow_app2 (xs := spoilTo B ls i) a29 rfl rfl
    replace h1 := h1.gr o30 (fun k e => (.inr (.inl e))) (xx_or1 (xx_re (Fr.of_or q31) (xx_or1 xx_id)))
    have nq2 := nqs nq_out_gg (Fr.of_or q31) a13.lt
    replace a13 := a13.step o30 (fun e => nq_out_gg _ e rfl)
    replace nq_out_gg := nq2
    clear nq2
    have nq2 := nqs nq_out_b21 (Fr.of_or q31) a24.lt
    replace a24 := a24.step o30 (fun e => nq_out_b21 _ e rfl)
    replace nq_out_b21 := nq2
    clear nq2
    have tq := oW.size
    replace oW := oW.tailr o30 q_oW_out (fun _ e => by cases e)
    replace q_oW_out := qtr (Fr.of_or q31) q_oW_out tq
    clear tq
    have tq := o16.size
    replace o16 := o16.tailr o30 q_o16_out (fun k e => (.inl e))
    replace q_o16_out := qtr (Fr.of_or q31) q_o16_out tq
    clear tq
    refine wF ([(Value.agg #[(eN D), (eN B), (eN Q)]), u1, (ptr gg 0), undef, (Value.slice none 0 0), u_out, (eN i), (eN (((ls.getD i 0) % ((2 * B : Nat) : Int)).toNat))] ++ (zs zf18 8 9 ++ [(Value.bool true), (zf18 18), (zf18 19), u1, (eN i), (ixp u1 i), (eI (ls.getD i 0)), (ptr gg 1), (eN B), (eN (2 * B)), (eN (((ls.getD i 0) % ((2 * B : Nat) : Int)).toNat)), (eN (((ls.getD i 0) % ((2 * B : Nat) : Int)).toNat)), (ptr gg 1), (eN B), (Value.bool (decide ((((ls.getD i 0) % ((2 * B : Nat) : Int)).toNat) < B))), u_out, (eN i), (eN (((ls.getD i 0) % ((2 * B : Nat) : Int)).toNat)), (Value.agg #[(eN i), (eN (((ls.getD i 0) % ((2 * B : Nat) : Int)).toNat))]), (sli b21 0 1 1), u26, undef])) ?_
    refine wI (d_assign rfl) ?_
    refine wF ([(Value.agg #[(eN D), (eN B), (eN Q)]), u1, (ptr gg 0), undef, (Value.slice none 0 0), u26, (eN i), (eN (((ls.getD i 0) % ((2 * B : Nat) : Int)).toNat))] ++ (zs zf18 8 9 ++ [(Value.bool true), (zf18 18), (zf18 19), u1, (eN i), (ixp u1 i), (eI (ls.getD i 0)), (ptr gg 1), (eN B), (eN (2 * B)), (eN (((ls.getD i 0) % ((2 * B : Nat) : Int)).toNat)), (eN (((ls.getD i 0) % ((2 * B : Nat) : Int)).toNat)), (ptr gg 1), (eN B), (Value.bool (decide ((((ls.getD i 0) % ((2 * B : Nat) : Int)).toNat) < B))), u_out, (eN i), (eN (((ls.getD i 0) % ((2 * B : Nat) : Int)).toNat)), (Value.agg #[(eN i), (eN (((ls.getD i 0) % ((2 * B : Nat) : Int)).toNat))]), (sli b21 0 1 1), u26, undef])) ?_
    refine wpL.done ?_
    refine inb_n (then_n ?_)
    refine forget (fun zf32 => ([(Value.agg #[(eN D), (eN B), (eN Q)]), u1, (ptr gg 0), undef, (Value.slice none 0 0), u26, (eN i)] ++ (zs zf32 7 13 ++ [u1, (eN i), (ixp u1 i), (eI (ls.getD i 0)), (ptr gg 1), (eN B), (eN (2 * B)), (eN (((ls.getD i 0) % ((2 * B : Nat) : Int)).toNat))] ++ (zs zf32 28 10 ++ [undef])))) (by kernel_rfl) (fun zf32 => ?_)
    refine plain ?_
    refine wI (d_move rfl) ?_
    refine wI (n_add (a := i) (b := 1) rfl rfl (by omega)) ?_
    refine wI (d_assign rfl) ?_
    refine wF ([(Value.agg #[(eN D), (eN B), (eN Q)]), u1, (ptr gg 0), undef, (Value.slice none 0 0), u26, (eN (i + 1))] ++ (zs zf32 7 11 ++ [(eN i), (eN (i + 1)), u1, (eN i), (ixp u1 i), (eI (ls.getD i 0)), (ptr gg 1), (eN B), (eN (2 * B)), (eN (((ls.getD i 0) % ((2 * B : Nat) : Int)).toNat))] ++ (zs zf32 28 10 ++ [undef]))) ?_
    refine wpL.done ?_
    refine then_n ?_
    refine ⟨_, ⟨i + 1, bo28, u26⟩, rfl, rfl, ⟨?_, ?_, ?_, ?_, ?_⟩, ?_⟩
    ·
     (try dsimp only)
     all_goals (omega)
    ·
     exact o16
    ·
     exact a13
    ·
     (try dsimp only)
     all_goals (rw [← spoil_yes c2_]; exact a29)
    ·
     exact q_o16_out
    ·
     (try dsimp only)
     all_goals (omega)
   refine wpIn_skip ?_
   refine inb_n (then_n ?_)
   refine plain ?_
   refine wI (d_move rfl) ?_
   refine wI (n_add (a := i) (b := 1) rfl rfl (by omega)) ?_
   refine wI (d_assign rfl) ?_
   refine wF ([(Value.agg #[(eN D), (eN B), (eN Q)]), u1, (ptr gg 0), undef, (Value.slice none 0 0), u_out, (eN (i + 1)), (eN (((ls.getD i 0) % ((2 * B : Nat) : Int)).toNat))] ++ (zs zf18 8 9 ++ [(Value.bool true), (eN i), (eN (i + 1)), u1, (eN i), (ixp u1 i), (eI (ls.getD i 0)), (ptr gg 1), (eN B), (eN (2 * B)), (eN (((ls.getD i 0) % ((2 * B : Nat) : Int)).toNat)), (eN (((ls.getD i 0) % ((2 * B : Nat) : Int)).toNat)), (ptr gg 1), (eN B), (Value.bool (decide ((((ls.getD i 0) % ((2 * B : Nat) : Int)).toNat) < B)))] ++ (zs zf18 32 6 ++ [undef]))) ?_
   refine wpL.done ?_
   refine then_n ?_
   refine ⟨_, ⟨i + 1, bo_out, u_out⟩, rfl, rfl, ⟨?_, ?_, ?_, ?_, ?_⟩, ?_⟩
   ·
    (try dsimp only)
    all_goals (omega)
   ·
    exact o16
   ·
    exact a13
   ·
    (try dsimp only)
    all_goals (rw [spoil_skip c2_]; exact a15)
   ·
    exact q_o16_out
   ·
    (try dsimp only)
    all_goals (omega)
  refine plain ?_
  refine wI (d_move rfl) ?_
  refine wI (d_move rfl) ?_
  refine wI (d_lenS rfl Try.underlying29 rfl h1) ?_
  refine wF ([(Value.agg #[(eN D), (eN B), (eN Q)]), u1, (ptr gg 0), undef, (Value.slice none 0 0), u_out, (eN i), (z 7), (eN i), u1, (eN ls.length)] ++ (zs z 11 27 ++ [undef])) ?_
  refine wI (n_lss (a := i) (b := ls.length) rfl rfl (decide_eq_true k0)) ?_
  refine wI (d_move rfl) ?_
  refine wpL.onis rfl rfl rfl (nb rfl) rfl (d_move rfl) ?_
  refine wF ([(Value.agg #[(eN D), (eN B), (eN Q)]), u1, (ptr gg 0), undef, (Value.slice none 0 0), u_out, (eN i), (z 7), (eN i), u1, (eN ls.length), (Value.bool true), (Value.bool true), (eN i)] ++ (zs z 14 24 ++ [undef])) ?_
  refine wpL.onis rfl rfl rfl (nb rfl) rfl (d_fieldAddr (j := 0) Try.underlying25 rfl s_ti3 (by decide) rfl rfl) ?_
  refine wpL.onis rfl rfl rfl (nb rfl) rfl (d_load (v := (eN D)) ⟨_, Try.underlying3, rfl⟩ rfl a13 rfl) ?_
  refine wpL.onis rfl rfl rfl (nb rfl) rfl (n_lss (a := i) (b := D) rfl rfl (decide_eq_false k1)) ?_
  refine wF ([(Value.agg #[(eN D), (eN B), (eN Q)]), u1, (ptr gg 0), undef, (Value.slice none 0 0), u_out, (eN i), (z 7), (eN i), u1, (eN ls.length), (Value.bool true), (Value.bool true), (eN i), (ptr gg 0), (eN D), (Value.bool false)] ++ (zs z 17 21 ++ [undef])) ?_
  refine wI (d_pick (b := true) (v := (Value.bool false)) rfl rfl) ?_
  refine wF ([(Value.agg #[(eN D), (eN B), (eN Q)]), u1, (ptr gg 0), undef, (Value.slice none 0 0), u_out, (eN i), (z 7), (eN i), u1, (eN ls.length), (Value.bool true), (Value.bool true), (eN i), (ptr gg 0), (eN D), (Value.bool false), (Value.bool false)] ++ (zs z 18 20 ++ [undef])) ?_
  refine wpL.done ?_
  refine then_n ?_
  refine forget (fun zf33 => ([(Value.agg #[(eN D), (eN B), (eN Q)]), u1, (ptr gg 0), undef, (Value.slice none 0 0), u_out, (eN i)] ++ (zs zf33 7 10 ++ [(Value.bool false), (zf33 18), (zf33 19)] ++ (zs z 20 8 ++ (zs zf33 28 10 ++ [undef]))))) (by kernel_rfl) (fun zf33 => ?_)
  refine cond_f rfl ?_
  refine wpIn_exit ?_
  refine then_x (then_x (inb_e ?_))
  refine then_n ?_
  refine wpIn_seq ?_
  refine plain ?_
  refine wI (d_move rfl) ?_
  refine wI (d_assign rfl) ?_
  refine wF ([(Value.agg #[(eN D), (eN B), (eN Q)]), u1, (ptr gg 0), undef, u_out, u_out, (eN i)] ++ (zs zf33 7 10 ++ [(Value.bool false), (zf33 18), (zf33 19)] ++ (zs z 20 8 ++ (zs zf33 28 10 ++ [u_out])))) ?_
  refine wpL.done ?_
  refine then_n ?_
  refine wpIn_ret ?_
  refine leave0 (v := u_out) (res1 Try.results30 rfl) ?_
  have hi_ : i = min ls.length D := by omega
  exact ⟨by unfold spoilL; rw [← hi_]; exact (Ow.seqA a15 (old_q q_oW_out)), oW⟩
 refine plain ?_
 refine wI (d_move rfl) ?_
 refine wI (d_move rfl) ?_
 refine wI (d_lenS rfl Try.underlying29 rfl h1) ?_
 refine wF ([(Value.agg #[(eN D), (eN B), (eN Q)]), u1, (ptr gg 0), undef, (Value.slice none 0 0), u_out, (eN i), (z 7), (eN i), u1, (eN ls.length)] ++ (zs z 11 27 ++ [undef])) ?_
 refine wI (n_lss (a := i) (b := ls.length) rfl rfl (decide_eq_false k0)) ?_
 refine wI (d_move rfl) ?_
 refine wF ([(Value.agg #[(eN D), (eN B), (eN Q)]), u1, (ptr gg 0), undef, (Value.slice none 0 0), u_out, (eN i), (z 7), (eN i), u1, (eN ls.length), (Value.bool false), (Value.bool false)] ++ (zs z 13 25 ++ [undef])) ?_
 refine wpL.off rfl rfl rfl (nb rfl) rfl ?_
 refine wpL.off rfl rfl rfl (nb rfl) rfl ?_
 refine wpL.off rfl rfl rfl (nb rfl) rfl ?_
 refine wF ([(Value.agg #[(eN D), (eN B), (eN Q)]), u1, (ptr gg 0), undef, (Value.slice none 0 0), u_out, (eN i), (z 7), (eN i), u1, (eN ls.length), (Value.bool false), (Value.bool false), undef, undef, undef] ++ (zs z 16 22 ++ [undef])) ?_
 refine wpL.off rfl rfl rfl (nb rfl) rfl ?_
 refine wI (d_pick (b := false) (v := (Value.bool false)) rfl rfl) ?_
 refine wF ([(Value.agg #[(eN D), (eN B), (eN Q)]), u1, (ptr gg 0), undef, (Value.slice none 0 0), u_out, (eN i), (z 7), (eN i), u1, (eN ls.length), (Value.bool false), (Value.bool false), undef, undef, undef, undef, (Value.bool false)] ++ (zs z 18 20 ++ [undef])) ?_
 refine wpL.done ?_
 refine then_n ?_
 refine cond_f rfl ?_
 refine wpIn_exit ?_
 refine then_x (then_x (inb_e ?_))
 refine then_n ?_
 refine forget (fun zf34 => (zs zf34 0 5 ++ [u_out, (eN i)] ++ (zs zf34 7 32))) (by kernel_rfl) (fun zf34 => ?_)
 refine wpIn_seq ?_
 refine plain ?_
 refine wI (d_move rfl) ?_
 refine wI (d_assign rfl) ?_
 refine wF ([(zf34 0), (zf34 1), (zf34 2), (zf34 3), u_out, u_out, (eN i)] ++ (zs zf34 7 31 ++ [u_out])) ?_
 refine wpL.done ?_
 refine then_n ?_
 refine wpIn_ret ?_
 refine leave0 (v := u_out) (res1 Try.results30 rfl) ?_
 have hi_ : i = min ls.length D := by omega
 exact ⟨by unfold spoilL; rw [← hi_]; exact (Ow.seqA a15 (old_q q_oW_out)), oW⟩

end Go.Proofs.YtnlbekdjepkhcaaF
