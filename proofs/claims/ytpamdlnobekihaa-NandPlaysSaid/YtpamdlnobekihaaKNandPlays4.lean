/- Part of the proof of the law NandPlays, for all its inputs. -/
import Derived.Test.YtpamdlnobekihaaKNandPlays3
set_option linter.unusedVariables false
set_option linter.unusedSimpArgs false
set_option maxRecDepth 20000
set_option maxHeartbeats 4000000
namespace Go.Proofs.YtpamdlnobekihaaF
open Go Shelf YtpamdlnobekihaaS Ram
theorem ref7Ones_ok (W : World) :
    CW Try.prog 42 #[] W (Rt (ROw 5 eB onesW W)) := by
 have oW : Only No W W := Only.refl _ _
 refine en 14 Try.func42 Try.ntmps42 ?_
 refine wQ ?_
 refine gS ?_
 refine pL ?_
 refine wO (d_make1 (n := 60) Try.underlying36 s_ti5 rfl rfl oo oo rfl) ?_
 rintro _ w11 ⟨b, rfl, g12, a13, o14⟩
 replace a13 : Arr 5 b ((List.replicate 60 0).map eB) w11 := by rw [List.map_replicate]; exact a13
 have l_b : (List.replicate 60 0 : List UInt8).length = 60 := by simp
 have g_oW_b : W.heap.size ≤ b := Nat.le_trans oW.size g12
 replace oW := oW.tail0 o14
 refine gs ?_
 refine gS ?_
 refine loop2 (fun (i : (Nat)) => fun (z : Nat → Value) => (([(z 0), (sli b 0 60 60), (eN i)] ++ (zs z 3 11)) : List Value)) (fun (i : (Nat)) => fun (w_ : World) => (i ≤ 60) ∧ Only (Or1 b No) w11 w_ ∧ (List.replicate i (255 : UInt8) ++ List.replicate (60 - i) 0).length = 60 ∧ Arr 5 b ((List.replicate i (255 : UInt8) ++ List.replicate (60 - i) 0).map eB) w_) (fun (i : (Nat)) => 60 - i) 0 kr ?_ ?_
 ·
  refine ⟨?_, ?_, ?_, ?_⟩
  ·
   exact Nat.zero_le _
  ·
   exact Only.refl _ _
  ·
   (try dsimp only)
   all_goals (simp)
  ·
   exact a13
 rintro i z w16 ⟨hi, o15, l_b, a13⟩
 (try dsimp only)
 replace oW := oW.tail o15 (tl_new g_oW_b tl_no)
 refine gs ?_
 refine gS ?_
 refine wI (d_len rfl Try.underlying36 rfl) ?_
 refine wI (n_lss (a := i) (b := 60) rfl rfl rfl) ?_
 refine gs ?_
 refine cond_if rfl (fun c17 => ?_) (fun c17 => ?_)
 ·
  refine gs ?_
  refine gS ?_
  refine wI (dI (n := 60) (i := i) oo) ?_
  refine wO (d_store (b := b) (i := i) (v := (eB 255)) s_ti5 rfl rfl rfl a13 (by rw [List.length_map, l_b]; omega) (m_put (List.replicate i (255 : UInt8) ++ List.replicate (60 - i) 0) i 255 eB)) ?_
  rintro _ w18 ⟨a19, o20⟩
  replace oW := oW.tailb o20 g_oW_b
  replace o15 := o15.tail o20 (fun k _ e => by have : k = b := e; rw [this]; exact in1)
  replace l_b : ((List.replicate i (255 : UInt8) ++ List.replicate (60 - i) 0).set i 255 : List UInt8).length = 60 := (List.length_set ..).trans l_b
  refine gs ?_
  refine gS ?_
  refine wI (n_add (a := i) (b := 1) rfl rfl oo) ?_
  refine gs ?_
  refine ⟨_, (i + 1), rfl, kr, ⟨?_, ?_, ?_, ?_⟩, ?_⟩
  ·
   (try dsimp only)
   all_goals (omega)
  ·
   exact o15
  ·
   (try dsimp only)
   all_goals (simp; omega)
  ·
   (try dsimp only)
   all_goals (rw [← ones_set i oo]; exact a19)
  ·
   (try dsimp only)
   all_goals (omega)
 refine gs ?_
 refine gS ?_
 refine leave0 (v := (sli b 0 60 60)) (res1 Try.results42 rfl) ?_
 exact ROw.arr a13 l_b (rep_end i oo) g_oW_b oW
theorem ref7Check_ok (D B Q : Nat) (W : World) (hD : 6 ≤ D ∧ D ≤ 8) (hB : 8 ≤ B ∧ B ≤ 12) (hQ : 4 ≤ Q ∧ Q ≤ 8) :
    CW Try.prog 41 #[(ag3 D B Q)] W (Rt (RIs (.bool true) W)) := by
 have oW : Only No W W := Only.refl _ _
 refine en 30 Try.func41 Try.ntmps41 ?_
 refine wQ ?_
 refine pL ?_
 refine wO dB ?_
 rintro _ w12 ⟨b11, rfl, g13, a14, o15⟩
 have g_oW_b11 : W.heap.size ≤ b11 := Nat.le_trans oW.size g13
 replace oW := oW.tail0 o15
 refine gs ?_
 refine gS ?_
 refine wI (n_geq (a := D) (b := 6) rfl rfl (decide_eq_true oo)) ?_
 refine gs ?_
 refine wG (n_leq (a := D) (b := 8) rfl rfl (decide_eq_true oo)) ?_
 refine gs ?_
 refine wG (n_geq (a := B) (b := 8) rfl rfl (decide_eq_true oo)) ?_
 refine gs ?_
 refine wG (n_leq (a := B) (b := 12) rfl rfl (decide_eq_true oo)) ?_
 refine gs ?_
 refine wG (n_geq (a := Q) (b := 4) rfl rfl (decide_eq_true oo)) ?_
 refine gs ?_
 refine wG (n_leq (a := Q) (b := 8) rfl rfl (decide_eq_true oo)) ?_
 refine gs ?_
 refine leave0 (v := vT) (res1 Try.results41 rfl) ?_
 exact ⟨rfl, oW⟩
theorem refThere_ok (L : RL) (s : NS) {X : Nat → Prop} (W : World) (hN : Rd L s X W) {r : Bool} (d : Int) (b : Int) (hr : s.there d b = r) :
    CW Try.prog 43 #[(ptr L.bN 0), (eI d), (eI b)] W (Rt (RIs (.bool r) W)) := by
 have oW : Only No W W := Only.refl _ _
 refine en 28 Try.func43 Try.ntmps43 ?_
 refine wQ ?_
 refine gS ?_
 by_cases k0 : 0 ≤ d
 ·
  by_cases k1 : d < (s.gD : Int)
  ·
   by_cases k2 : 0 ≤ b
   ·
    by_cases k3 : b < (s.gB : Int)
    ·
     refine gS ?_
     refine wI (d_geq (k := .i64) (m := d) (n := 0) rfl rfl (decide_eq_true k0)) ?_
     refine gs ?_
     refine wG (rd_ld (v := (eN s.gD)) hN ⟨_, Try.underlying3, rfl⟩ rfl (fun _ => rfl)) ?_
     refine wG (d_lss (k := .i64) (m := d) (n := (s.gD : Int)) rfl rfl (decide_eq_true k1)) ?_
     refine gs ?_
     refine wG (d_geq (k := .i64) (m := b) (n := 0) rfl rfl (decide_eq_true k2)) ?_
     refine gs ?_
     refine wG (rd_ld (v := (eN s.gB)) hN ⟨_, Try.underlying3, rfl⟩ rfl (fun _ => rfl)) ?_
     refine wG (d_lss (k := .i64) (m := b) (n := (s.gB : Int)) rfl rfl (decide_eq_true k3)) ?_
     refine gs ?_
     refine leave0 (v := vT) (res1 Try.results43 rfl) ?_
     exact ⟨congrArg Value.bool (by rw [← hr]; simp [NS.there, *]; try omega), oW⟩
    refine gS ?_
    refine wI (d_geq (k := .i64) (m := d) (n := 0) rfl rfl (decide_eq_true k0)) ?_
    refine gs ?_
    refine wG (rd_ld (v := (eN s.gD)) hN ⟨_, Try.underlying3, rfl⟩ rfl (fun _ => rfl)) ?_
    refine wG (d_lss (k := .i64) (m := d) (n := (s.gD : Int)) rfl rfl (decide_eq_true k1)) ?_
    refine gs ?_
    refine wG (d_geq (k := .i64) (m := b) (n := 0) rfl rfl (decide_eq_true k2)) ?_
    refine gs ?_
    refine wG (rd_ld (v := (eN s.gB)) hN ⟨_, Try.underlying3, rfl⟩ rfl (fun _ => rfl)) ?_
    refine wG (d_lss (k := .i64) (m := b) (n := (s.gB : Int)) rfl rfl (decide_eq_false k3)) ?_
    refine gs ?_
    refine leave0 (v := vF) (res1 Try.results43 rfl) ?_
    exact ⟨congrArg Value.bool (by rw [← hr]; simp [NS.there, *]; try omega), oW⟩
   refine gS ?_
   refine wI (d_geq (k := .i64) (m := d) (n := 0) rfl rfl (decide_eq_true k0)) ?_
   refine gs ?_
   refine wG (rd_ld (v := (eN s.gD)) hN ⟨_, Try.underlying3, rfl⟩ rfl (fun _ => rfl)) ?_
   refine wG (d_lss (k := .i64) (m := d) (n := (s.gD : Int)) rfl rfl (decide_eq_true k1)) ?_
   refine gs ?_
   refine wG (d_geq (k := .i64) (m := b) (n := 0) rfl rfl (decide_eq_false k2)) ?_
   refine gs ?_
   refine leave0 (v := vF) (res1 Try.results43 rfl) ?_
   exact ⟨congrArg Value.bool (by rw [← hr]; simp [NS.there, *]; try omega), oW⟩
  refine gS ?_
  refine wI (d_geq (k := .i64) (m := d) (n := 0) rfl rfl (decide_eq_true k0)) ?_
  refine gs ?_
  refine wG (rd_ld (v := (eN s.gD)) hN ⟨_, Try.underlying3, rfl⟩ rfl (fun _ => rfl)) ?_
  refine wG (d_lss (k := .i64) (m := d) (n := (s.gD : Int)) rfl rfl (decide_eq_false k1)) ?_
  refine gs ?_
  refine leave0 (v := vF) (res1 Try.results43 rfl) ?_
  exact ⟨congrArg Value.bool (by rw [← hr]; simp [NS.there, *]; try omega), oW⟩
 refine gS ?_
 refine wI (d_geq (k := .i64) (m := d) (n := 0) rfl rfl (decide_eq_false k0)) ?_
 refine gs ?_
 refine leave0 (v := vF) (res1 Try.results43 rfl) ?_
 exact ⟨congrArg Value.bool (by rw [← hr]; simp [NS.there, *]; try omega), oW⟩
theorem refNew_ok (D B Q : Nat) (lb : List (Int × Int)) (ub : Value) (W : World) (h2 : Ps No (Seq (kA 2 eQ) lb ub) W) (glb : lb.length ≤ 1048576) (hD : 6 ≤ D ∧ D ≤ 8) (hB : 8 ≤ B ∧ B ≤ 12) (hQ : 4 ≤ Q ∧ Q ≤ 8) :
    CW Try.prog 14 #[(ag3 D B Q), ub] W (Rt (fun u w => ∃ p, u = .tuple #[p, eN (newE D B lb)] ∧ Only No W w ∧ (newE D B lb = 0 → ∃ L s, p = ptr L.bN 0 ∧ (Rd L s (Old W.heap.size) w ∧ ∀ k, L.S k → W.heap.size ≤ k) ∧ NewJ s D B Q lb))) := by
 have oW : Only No W W := Only.refl _ _
 refine en 111 Try.func14 Try.ntmps14 ?_
 have h2W := h2
 refine wQ ?_
 refine pL ?_
 refine wO dB ?_
 rintro _ w11 ⟨gb, rfl, g12, a13, o14⟩
 have g_oW_gb : W.heap.size ≤ gb := Nat.le_trans oW.size g12
 replace oW := oW.tail0 o14
 refine gs ?_
 refine pL ?_
 refine wI (d_loadAg (vs := [(eN D), (eN B), (eN Q)]) ⟨_, Try.underlying23, rfl⟩ s_ti23 rfl a13 rfl rfl) ?_
 refine wO (dC (ref7Check_ok D B Q _ oo oo oo)) ?_
 rintro _ w15 ⟨rfl, o16⟩
 replace a13 := a13.step0 o16
 replace oW := oW.tail0 o16
 refine gs ?_
 refine pL ?_
 refine wI (d_loadAg (vs := [(eN D), (eN B), (eN Q)]) ⟨_, Try.underlying23, rfl⟩ s_ti23 rfl a13 rfl rfl) ?_
 refine wI (d_buildS (pl := [(0, 3), (3, 1), (4, 1), (5, 1), (6, 1), (7, 1), (8, 1), (9, 1)]) (zs := [(eN 0), (eN 0), (eN 0), vN, vN, (eN 0), vN, vF, (eN 0), (eN 0)]) (cs := [(eN D), (eN B), (eN Q), vN, vN, (eN 0), vN, vF, (eN 0), (eN 0)]) Try.underlying81 s_ti81 ⟨_, _, _, _, rfl, s_ti23, ⟨_, _, _, _, rfl, s_ti78, ⟨_, _, _, _, rfl, s_ti79, ⟨_, _, _, _, rfl, s_ti3, ⟨_, _, _, _, rfl, s_ti36, ⟨_, _, _, _, rfl, s_ti4, ⟨_, _, _, _, rfl, s_ti3, ⟨_, _, _, _, rfl, s_ti3, rfl⟩⟩⟩⟩⟩⟩⟩⟩ rfl (parts_cons (vs := [(eN D), (eN B), (eN Q)]) (cells_of (v := (ag3 D B Q)) rfl rfl) parts_nil) rfl) ?_
 refine wO dB ?_
 rintro _ w17 ⟨cb, rfl, g18, a19, o20⟩
 have n_gb_cb : gb ≠ cb := a13.ne g18
 have g_oW_cb : W.heap.size ≤ cb := Nat.le_trans oW.size g18
 replace a13 := a13.step0 o20
 replace oW := oW.tail0 o20
 refine gs ?_
 refine gS ?_
 have a21 : Ow 82 1 none vN ([] : List (Value)).length (([] : List (Value)).map eV) w17 := Ow.nil _ _ _
 have nq_uB_gb : ∀ x, (none : Option Nat) = some x → ¬ x = gb := fun x e => by cases e
 have nq_uB_cb : ∀ x, (none : Option Nat) = some x → ¬ x = cb := fun x e => by cases e
 have q_oW_uB : Fr none none W.heap.size := Fr.none
 have a22 : Ow 83 1 none vN ([] : List (Value)).length (([] : List (Value)).map eV) w17 := Ow.nil _ _ _
 have nq_uV_gb : ∀ x, (none : Option Nat) = some x → ¬ x = gb := fun x e => by cases e
 have nq_uV_cb : ∀ x, (none : Option Nat) = some x → ¬ x = cb := fun x e => by cases e
 have nqq_uB_uV : ∀ x, none = some x → (none : Option Nat) = some x → False := fun _ _ e => by cases e
 have q_oW_uV : Fr none none W.heap.size := Fr.none
 have h_lt_gb := a13.lt
 have h_lt_cb := a19.lt
 have h_lts_uB := a21.lts
 have h_lts_uV := a22.lts
 refine loop2 (fun (s_ : (Nat) × (NF) × (List Value) × (List Value) × (Option Nat) × (Value) × (Option Nat) × (Value)) => match s_ with | ⟨d, F, vB, vV, bo_uB, u_uB, bo_uV, u_uV⟩ => fun (z : Nat → Value) => (([(ag3 D B Q), ub, (ptr gb 0), undef, (Value.pointer none), (eN 0), (ptr cb 0), (eN d)] ++ (zs z 8 5 ++ [undef, (ag3 D B Q), vT, vF, (ag3 D B Q), (Value.agg #[(eN D), (eN B), (eN Q), vN, vN, (eN 0), vN, vF, (eN 0), (eN 0)]), (ptr cb 0)] ++ (zs z 20 55 ++ (us 38)))) : List Value)) (fun (s_ : (Nat) × (NF) × (List Value) × (List Value) × (Option Nat) × (Value) × (Option Nat) × (Value)) => match s_ with | ⟨d, F, vB, vV, bo_uB, u_uB, bo_uV, u_uV⟩ => fun (w_ : World) => (d ≤ D) ∧ (NewM F d (d * B) W.heap.size w_.heap.size) ∧ (vB.length = d) ∧ (∀ j, j < d → vB.getD j undef = sli (F.bd j) 0 B (F.cd j)) ∧ (vV.length = d) ∧ (∀ j, j < d → vV.getD j undef = sli (F.bw j) 0 B (F.cw j)) ∧ (Ps (Orq bo_uV (Orq bo_uB (Or1 cb (Or1 gb (Old W.heap.size))))) (NewF 85 67 36 37 B Q F d (d * B)) w_) ∧ (Ps (Orq bo_uV (Orq bo_uB (Or1 cb (Or1 gb (NF.B F d (d * B) W.heap.size))))) (NewP Q F (d * B)) w_) ∧ Only (Orq none (Orq none (Or1 cb (Or1 gb No)))) w17 w_ ∧ Arr 23 gb [(eN D), (eN B), (eN Q)] w_ ∧ Arr 81 cb [(eN D), (eN B), (eN Q), u_uB, u_uV, (eN 0), vN, vF, (eN 0), (eN 0)] w_ ∧ Ow 82 1 bo_uB u_uB (vB).length ((vB).map eV) w_ ∧ Fr bo_uB none w17.heap.size ∧ Ow 83 1 bo_uV u_uV (vV).length ((vV).map eV) w_ ∧ Fr bo_uV none w17.heap.size ∧ (∀ x, bo_uB = some x → bo_uV = some x → False)) (fun (s_ : (Nat) × (NF) × (List Value) × (List Value) × (Option Nat) × (Value) × (Option Nat) × (Value)) => match s_ with | ⟨d, F, vB, vV, bo_uB, u_uB, bo_uV, u_uV⟩ => D - d) ⟨0, NF.nil, ([] : List Value), ([] : List Value), none, vN, none, vN⟩ kr ?_ ?_
 ·
  refine ⟨?_, ?_, ?_, ?_, ?_, ?_, ?_, ?_, ?_, ?_, ?_, ?_, ?_, ?_, ?_, ?_⟩
  ·
   exact Nat.zero_le _
  ·
   (try dsimp only)
   all_goals (rw [Nat.zero_mul]; exact NewM.zero)
  ·
   exact rfl
  ·
   exact fun j h => absurd h (Nat.not_lt_zero j)
  ·
   exact rfl
  ·
   exact fun j h => absurd h (Nat.not_lt_zero j)
  ·
   (try dsimp only)
   all_goals (rw [Nat.zero_mul]; exact newF_zero)
  ·
   (try dsimp only)
   all_goals (rw [Nat.zero_mul]; exact newP_zero)
  ·
   exact Only.refl _ _
  ·
   exact a13
  ·
   exact a19
  ·
   exact a21
  ·
   exact Fr.same
  ·
   exact a22
  ·
   exact Fr.same
  ·
   exact nqq_uB_uV
 rintro ⟨d, F, vB, vV, bo_uB, u_uB, bo_uV, u_uV⟩ z w24 ⟨hd, hI, lU, hvB, lV, hvV, hF, hG, o23, a13, a19, a21, qq_uB, a22, qq_uV, nqL_uB_uV⟩
 (try dsimp only)
 have tq_oW := oW.size
 have tq_oW := oW.size
 replace oW := oW.tail o23 (tl_q q_oW_uV (fun _ e => by cases e) (tl_q q_oW_uB (fun _ e => by cases e) (tl_new g_oW_cb (tl_new g_oW_gb tl_no))))
 replace q_oW_uB := qtr qq_uB q_oW_uB tq_oW
 replace q_oW_uV := qtr qq_uV q_oW_uV tq_oW
 replace nq_uB_gb := nqs nq_uB_gb qq_uB h_lt_gb
 replace nq_uB_cb := nqs nq_uB_cb qq_uB h_lt_cb
 replace nq_uV_gb := nqs nq_uV_gb qq_uV h_lt_gb
 replace nq_uV_cb := nqs nq_uV_cb qq_uV h_lt_cb
 replace nqq_uB_uV := nqL_uB_uV
 have q_o23_uB := qq_uB
 have q_o23_uV := qq_uV
 have oD : Only (Orq bo_uV (Orq bo_uB (Or1 cb (Or1 gb No)))) w24 w24 := Only.refl _ _
 have q_oD_uB : Fr bo_uB bo_uB w24.heap.size := Fr.same
 have q_oD_uV : Fr bo_uV bo_uV w24.heap.size := Fr.same
 have hWD := oW.size
 refine gs ?_
 refine gS ?_
 refine wI (n_lss (a := d) (b := D) rfl rfl rfl) ?_
 refine gs ?_
 refine cond_if rfl (fun c25 => ?_) (fun c25 => ?_)
 ·
  refine gs ?_
  refine gS ?_
  refine gS ?_
  refine gS ?_
  have a26 : Ow 85 4 none vN ([] : List (Value)).length (([] : List (Value)).flatMap eR) w24 := Ow.nil _ _ _
  have nq_bs_gb : ∀ x, (none : Option Nat) = some x → ¬ x = gb := fun x e => by cases e
  have nq_bs_cb : ∀ x, (none : Option Nat) = some x → ¬ x = cb := fun x e => by cases e
  have nqq_uB_bs : ∀ x, bo_uB = some x → (none : Option Nat) = some x → False := fun _ _ e => by cases e
  have nqq_uV_bs : ∀ x, bo_uV = some x → (none : Option Nat) = some x → False := fun _ _ e => by cases e
  have q_oW_bs : Fr none none W.heap.size := Fr.none
  have q_o23_bs : Fr none none w17.heap.size := Fr.none
  have q_oD_bs : Fr none none w24.heap.size := Fr.none
  replace hF := hF.qnone
  replace hG := hG.qnone
  have a27 : Ow 67 1 none vN ([] : List (Nat)).length (([] : List (Nat)).map (eK Q)) w24 := Ow.nil _ _ _
  have nq_ls_gb : ∀ x, (none : Option Nat) = some x → ¬ x = gb := fun x e => by cases e
  have nq_ls_cb : ∀ x, (none : Option Nat) = some x → ¬ x = cb := fun x e => by cases e
  have nqq_uB_ls : ∀ x, bo_uB = some x → (none : Option Nat) = some x → False := fun _ _ e => by cases e
  have nqq_uV_ls : ∀ x, bo_uV = some x → (none : Option Nat) = some x → False := fun _ _ e => by cases e
  have nqq_bs_ls : ∀ x, none = some x → (none : Option Nat) = some x → False := fun _ _ e => by cases e
  have q_oW_ls : Fr none none W.heap.size := Fr.none
  have q_o23_ls : Fr none none w17.heap.size := Fr.none
  have q_oD_ls : Fr none none w24.heap.size := Fr.none
  replace hF := hF.qnone
  replace hG := hG.qnone
  have h_lt_gb := a13.lt
  have h_lt_cb := a19.lt
  have h_lts_uB := a21.lts
  have h_lts_uV := a22.lts
  have h_lts_bs := a26.lts
  have h_lts_ls := a27.lts
  refine loop2 (fun (s_ : (Nat) × (NF) × (List Value) × (List Nat) × (Option Nat) × (Value) × (Option Nat) × (Value)) => match s_ with | ⟨b, F2, vb, lz, bo_bs, u_bs, bo_ls, u_ls⟩ => fun (z : Nat → Value) => (([(ag3 D B Q), ub, (ptr gb 0), undef, (Value.pointer none), (eN 0), (ptr cb 0), (eN d), u_bs, u_ls, (eN b), (z 11), (z 12), undef, (ag3 D B Q), vT, vF, (ag3 D B Q), (Value.agg #[(eN D), (eN B), (eN Q), vN, vN, (eN 0), vN, vF, (eN 0), (eN 0)]), (ptr cb 0), (eN d), (ptr gb 0), (eN D), (Value.bool (decide (d < D)))] ++ (zs z 24 51 ++ (us 38))) : List Value)) (fun (s_ : (Nat) × (NF) × (List Value) × (List Nat) × (Option Nat) × (Value) × (Option Nat) × (Value)) => match s_ with | ⟨b, F2, vb, lz, bo_bs, u_bs, bo_ls, u_ls⟩ => fun (w_ : World) => (b ≤ B) ∧ (F2.bd = F.bd ∧ F2.cd = F.cd ∧ F2.bw = F.bw ∧ F2.cw = F.cw) ∧ (NewM F2 d (d * B + b) W.heap.size w_.heap.size) ∧ (vb.length = b) ∧ (∀ j, j < b → vb.getD j undef = sli (F2.bp (d * B + j)) 0 Q (F2.cp (d * B + j))) ∧ (lz.length = b) ∧ (∀ j, j < b → lz.getD j 0 = F2.bz (d * B + j)) ∧ (Ps (Orq bo_ls (Orq bo_bs (Orq bo_uV (Orq bo_uB (Or1 cb (Or1 gb (Old W.heap.size))))))) (NewF 85 67 36 37 B Q F2 d (d * B + b)) w_) ∧ (Ps (Orq bo_ls (Orq bo_bs (Orq bo_uV (Orq bo_uB (Or1 cb (Or1 gb (NF.B F2 d (d * B + b) W.heap.size))))))) (NewP Q F2 (d * B + b)) w_) ∧ Only (Orq none (Orq none (Orq bo_uV (Orq bo_uB (Or1 cb (Or1 gb No)))))) w24 w_ ∧ Arr 23 gb [(eN D), (eN B), (eN Q)] w_ ∧ Arr 81 cb [(eN D), (eN B), (eN Q), u_uB, u_uV, (eN 0), vN, vF, (eN 0), (eN 0)] w_ ∧ Ow 82 1 bo_uB u_uB (vB).length ((vB).map eV) w_ ∧ Ow 83 1 bo_uV u_uV (vV).length ((vV).map eV) w_ ∧ Ow 85 4 bo_bs u_bs (vb).length ((vb).flatMap eR) w_ ∧ Fr bo_bs none w24.heap.size ∧ Ow 67 1 bo_ls u_ls (lz).length ((lz).map (eK Q)) w_ ∧ Fr bo_ls none w24.heap.size ∧ (∀ x, bo_bs = some x → bo_ls = some x → False)) (fun (s_ : (Nat) × (NF) × (List Value) × (List Nat) × (Option Nat) × (Value) × (Option Nat) × (Value)) => match s_ with | ⟨b, F2, vb, lz, bo_bs, u_bs, bo_ls, u_ls⟩ => B - b) ⟨0, F, ([] : List Value), ([] : List Nat), none, vN, none, vN⟩ kr ?_ ?_
  ·
   refine ⟨?_, ?_, ?_, ?_, ?_, ?_, ?_, ?_, ?_, ?_, ?_, ?_, ?_, ?_, ?_, ?_, ?_, ?_, ?_⟩
   ·
    exact Nat.zero_le _
   ·
    exact ⟨rfl, rfl, rfl, rfl⟩
   ·
    exact hI.le oD.size
   ·
    exact rfl
   ·
    exact fun j h => absurd h (Nat.not_lt_zero j)
   ·
    exact rfl
   ·
    exact fun j h => absurd h (Nat.not_lt_zero j)
   ·
    exact hF
   ·
    exact hG
   ·
    exact Only.refl _ _
   ·
    exact a13
   ·
    exact a19
   ·
    exact a21
   ·
    exact a22
   ·
    exact a26
   ·
    exact Fr.same
   ·
    exact a27
   ·
    exact Fr.same
   ·
    exact nqq_bs_ls
  rintro ⟨b, F2, vb, lz, bo_bs, u_bs, bo_ls, u_ls⟩ z w29 ⟨hb, hE, hI2, lvb, hvb, llz, hlz, hF2, hG2, o28, a13, a19, a21, a22, a26, qq_bs, a27, qq_ls, nqL_bs_ls⟩
  (try dsimp only)
  have tq_oW := oW.size
  have tq_oW := oW.size
  replace oW := oW.tail o28 (tl_q q_oW_ls (fun _ e => by cases e) (tl_q q_oW_bs (fun _ e => by cases e) (tl_q q_oW_uV (fun _ e => by cases e) (tl_q q_oW_uB (fun _ e => by cases e) (tl_new g_oW_cb (tl_new g_oW_gb tl_no))))))
  replace q_oW_bs := qtr qq_bs q_oW_bs tq_oW
  replace q_oW_ls := qtr qq_ls q_oW_ls tq_oW
  have tq_o23 := o23.size
  have tq_o23 := o23.size
  replace o23 := o23.tail o28 (tl_q q_o23_ls (fun _ e => by cases e) (tl_q q_o23_bs (fun _ e => by cases e) (tl_q q_o23_uV (fun k e => (.inl e)) (tl_q q_o23_uB (fun k e => (.inr (.inl e))) (tl_in (inq (inq in1)) (tl_in (inq (inq (in2 in1))) tl_no))))))
  replace q_o23_bs := qtr qq_bs q_o23_bs tq_o23
  replace q_o23_ls := qtr qq_ls q_o23_ls tq_o23
  have tq_oD := oD.size
  have tq_oD := oD.size
  replace oD := oD.tail o28 (tl_q q_oD_ls (fun _ e => by cases e) (tl_q q_oD_bs (fun _ e => by cases e) (tl_q q_oD_uV (fun k e => (.inl e)) (tl_q q_oD_uB (fun k e => (.inr (.inl e))) (tl_in (inq (inq in1)) (tl_in (inq (inq (in2 in1))) tl_no))))))
  replace q_oD_bs := qtr qq_bs q_oD_bs tq_oD
  replace q_oD_ls := qtr qq_ls q_oD_ls tq_oD
  replace nq_bs_gb := nqs nq_bs_gb qq_bs h_lt_gb
  replace nq_bs_cb := nqs nq_bs_cb qq_bs h_lt_cb
  replace nq_ls_gb := nqs nq_ls_gb qq_ls h_lt_gb
  replace nq_ls_cb := nqs nq_ls_cb qq_ls h_lt_cb
  replace nqq_uB_bs := nqq_step nqq_uB_bs qq_bs h_lts_uB
  replace nqq_uB_ls := nqq_step nqq_uB_ls qq_ls h_lts_uB
  replace nqq_uV_bs := nqq_step nqq_uV_bs qq_bs h_lts_uV
  replace nqq_uV_ls := nqq_step nqq_uV_ls qq_ls h_lts_uV
  replace nqq_bs_ls := nqL_bs_ls
  have q_o28_uB : Fr bo_uB bo_uB w24.heap.size := Fr.same
  have q_o28_uV : Fr bo_uV bo_uV w24.heap.size := Fr.same
  have q_o28_bs := qq_bs
  have q_o28_ls := qq_ls
  have oB : Only (Orq bo_ls (Orq bo_bs (Orq bo_uV (Orq bo_uB (Or1 cb (Or1 gb No)))))) w29 w29 := Only.refl _ _
  have q_oB_uB : Fr bo_uB bo_uB w29.heap.size := Fr.same
  have q_oB_uV : Fr bo_uV bo_uV w29.heap.size := Fr.same
  have q_oB_bs : Fr bo_bs bo_bs w29.heap.size := Fr.same
  have q_oB_ls : Fr bo_ls bo_ls w29.heap.size := Fr.same
  have hWB := oW.size
  refine gs ?_
  refine gS ?_
  refine wI (n_lss (a := b) (b := B) rfl rfl rfl) ?_
  refine gs ?_
  refine cond_if rfl (fun c30 => ?_) (fun c30 => ?_)
  ·
   refine gs ?_
   refine pL ?_
   refine wI (d_buildS (pl := [(0, 1), (1, 1), (2, 1), (3, 1)]) (zs := [vN, (eN 0), (eN 0), vF]) (cs := [vN, (eN 0), (eN 0), vF]) Try.underlying85 s_ti85 ⟨_, _, _, _, rfl, s_ti63, ⟨_, _, _, _, rfl, s_ti3, ⟨_, _, _, _, rfl, s_ti3, ⟨_, _, _, _, rfl, s_ti4, rfl⟩⟩⟩⟩ rfl parts_nil rfl) ?_
   refine wO dA ?_
   rintro _ w31 ⟨xb, rfl, g32, a33, o34⟩
   have n_gb_xb : gb ≠ xb := a13.ne g32
   have n_cb_xb : cb ≠ xb := a19.ne g32
   have nq_uB_xb : ∀ x, bo_uB = some x → ¬ x = xb := fun x hx e => by have := a21.lts x hx; omega
   have nq_uV_xb : ∀ x, bo_uV = some x → ¬ x = xb := fun x hx e => by have := a22.lts x hx; omega
   have nq_bs_xb : ∀ x, bo_bs = some x → ¬ x = xb := fun x hx e => by have := a26.lts x hx; omega
   have nq_ls_xb : ∀ x, bo_ls = some x → ¬ x = xb := fun x hx e => by have := a27.lts x hx; omega
   have g_oW_xb : W.heap.size ≤ xb := Nat.le_trans oW.size g32
   have g_o23_xb : w17.heap.size ≤ xb := Nat.le_trans o23.size g32
   have g_oD_xb : w24.heap.size ≤ xb := Nat.le_trans oD.size g32
   have g_o28_xb : w24.heap.size ≤ xb := Nat.le_trans o28.size g32
   have g_oB_xb : w29.heap.size ≤ xb := Nat.le_trans oB.size g32
   replace hF2 := hF2.new o34 g32
   replace hG2 := hG2.new o34 g32
   replace a13 := a13.step0 o34
   replace a19 := a19.step0 o34
   replace a21 := a21.step0 o34
   replace a22 := a22.step0 o34
   replace a26 := a26.step0 o34
   replace a27 := a27.step0 o34
   replace oW := oW.tail0 o34
   replace o23 := o23.tail0 o34
   replace oD := oD.tail0 o34
   replace o28 := o28.tail0 o34
   replace oB := oB.tail0 o34
   refine wO (d_storeAg (cs' := [vN, (eN 0), (eN 0), vF]) s_ti85 rfl rfl rfl (oc_cons rfl (oc_cons rfl (oc_cons rfl (oc_cons rfl oc_nil)))) a33 (by decide) rfl) ?_
   rintro _ w35 ⟨a36, o37⟩
   replace hF2 := hF2.stepb o37 in1
   replace hG2 := hG2.stepb o37 in1
   replace a13 := a13.step o37 (fun e => absurd e n_gb_xb)
   replace a19 := a19.step o37 (fun e => absurd e n_cb_xb)
   replace a21 := a21.step o37 (fun x hx e => nq_uB_xb x hx e)
   replace a22 := a22.step o37 (fun x hx e => nq_uV_xb x hx e)
   replace a26 := a26.step o37 (fun x hx e => nq_bs_xb x hx e)
   replace a27 := a27.step o37 (fun x hx e => nq_ls_xb x hx e)
   replace oW := oW.tailb o37 g_oW_xb
   replace o23 := o23.tailb o37 g_o23_xb
   replace oD := oD.tailb o37 g_oD_xb
   replace o28 := o28.tailb o37 g_o28_xb
   replace oB := oB.tailb o37 g_oB_xb
   refine gs ?_
   refine gS ?_
   have a38 : Ow 36 1 none vN ([] : List (Value)).length (([] : List (Value)).map eV) w35 := Ow.nil _ _ _
   have nq_pg_gb : ∀ x, (none : Option Nat) = some x → ¬ x = gb := fun x e => by cases e
   have nq_pg_cb : ∀ x, (none : Option Nat) = some x → ¬ x = cb := fun x e => by cases e
   have nq_pg_xb : ∀ x, (none : Option Nat) = some x → ¬ x = xb := fun x e => by cases e
   have nqq_uB_pg : ∀ x, bo_uB = some x → (none : Option Nat) = some x → False := fun _ _ e => by cases e
   have nqq_uV_pg : ∀ x, bo_uV = some x → (none : Option Nat) = some x → False := fun _ _ e => by cases e
   have nqq_bs_pg : ∀ x, bo_bs = some x → (none : Option Nat) = some x → False := fun _ _ e => by cases e
   have nqq_ls_pg : ∀ x, bo_ls = some x → (none : Option Nat) = some x → False := fun _ _ e => by cases e
   have q_oW_pg : Fr none none W.heap.size := Fr.none
   have q_o23_pg : Fr none none w17.heap.size := Fr.none
   have q_oD_pg : Fr none none w24.heap.size := Fr.none
   have q_o28_pg : Fr none none w24.heap.size := Fr.none
   have q_oB_pg : Fr none none w29.heap.size := Fr.none
   replace hF2 := hF2.qnone
   replace hG2 := hG2.qnone
   have h_lt_gb := a13.lt
   have h_lt_cb := a19.lt
   have h_lt_xb := a36.lt
   have h_lts_uB := a21.lts
   have h_lts_uV := a22.lts
   have h_lts_bs := a26.lts
   have h_lts_ls := a27.lts
   have h_lts_pg := a38.lts
   refine loop2 (fun (s_ : (Nat) × (List Value) × (Option Nat) × (Value)) => match s_ with | ⟨p, pgs, bo_pg, u_pg⟩ => fun (z : Nat → Value) => (([(ag3 D B Q), ub, (ptr gb 0), undef, (Value.pointer none), (eN 0), (ptr cb 0), (eN d), u_bs, u_ls, (eN b), (ptr xb 0), (eN p), undef, (ag3 D B Q), vT, vF, (ag3 D B Q), (Value.agg #[(eN D), (eN B), (eN Q), vN, vN, (eN 0), vN, vF, (eN 0), (eN 0)]), (ptr cb 0), (eN d), (ptr gb 0), (eN D), (Value.bool (decide (d < D))), (z 24), (z 25), (eN b), (ptr gb 1), (eN B), (Value.bool (decide (b < B))), (z 30), (z 31), (Value.agg #[vN, (eN 0), (eN 0), vF])] ++ (zs z 33 42 ++ (us 38))) : List Value)) (fun (s_ : (Nat) × (List Value) × (Option Nat) × (Value)) => match s_ with | ⟨p, pgs, bo_pg, u_pg⟩ => fun (w_ : World) => (p ≤ Q) ∧ (pgs.length = p) ∧ (Ps (Orq bo_pg (Or1 xb (Orq bo_ls (Orq bo_bs (Orq bo_uV (Orq bo_uB (Or1 cb (Or1 gb (Old w29.heap.size))))))))) (fun w => ∀ j, j < p → Seq kB onesW (pgs.getD j undef) w) w_) ∧ Only (Orq none (Or1 xb (Orq bo_ls (Orq bo_bs (Orq bo_uV (Orq bo_uB (Or1 cb (Or1 gb No)))))))) w35 w_ ∧ Arr 23 gb [(eN D), (eN B), (eN Q)] w_ ∧ Arr 81 cb [(eN D), (eN B), (eN Q), u_uB, u_uV, (eN 0), vN, vF, (eN 0), (eN 0)] w_ ∧ Arr 85 xb [u_pg, (eN 0), (eN 0), vF] w_ ∧ Ow 82 1 bo_uB u_uB (vB).length ((vB).map eV) w_ ∧ Ow 83 1 bo_uV u_uV (vV).length ((vV).map eV) w_ ∧ Ow 85 4 bo_bs u_bs (vb).length ((vb).flatMap eR) w_ ∧ Ow 67 1 bo_ls u_ls (lz).length ((lz).map (eK Q)) w_ ∧ Ow 36 1 bo_pg u_pg (pgs).length ((pgs).map eV) w_ ∧ Fr bo_pg none w35.heap.size) (fun (s_ : (Nat) × (List Value) × (Option Nat) × (Value)) => match s_ with | ⟨p, pgs, bo_pg, u_pg⟩ => Q - p) ⟨0, ([] : List Value), none, vN⟩ kr ?_ ?_
   ·
    refine ⟨?_, ?_, ?_, ?_, ?_, ?_, ?_, ?_, ?_, ?_, ?_, ?_, ?_⟩
    ·
     exact Nat.zero_le _
    ·
     exact rfl
    ·
     exact fun w' _ j h => absurd h (Nat.not_lt_zero j)
    ·
     exact Only.refl _ _
    ·
     exact a13
    ·
     exact a19
    ·
     exact a36
    ·
     exact a21
    ·
     exact a22
    ·
     exact a26
    ·
     exact a27
    ·
     exact a38
    ·
     exact Fr.same
   rintro ⟨p, pgs, bo_pg, u_pg⟩ z w40 ⟨hp, lp, hH, o39, a13, a19, a36, a21, a22, a26, a27, a38, qq_pg⟩
   (try dsimp only)
   replace hF2 := hF2.re o39 (orq_mono (or1_mono (orq_mono (orq_mono (orq_mono (orq_mono (or1_mono (or1_mono no_any)))))))) (xx_re qq_pg (xx_or1 (xx_orq (xx_orq (xx_orq (xx_orq (xx_or1 (xx_or1 xx_id))))))))
   replace hG2 := hG2.re o39 (orq_mono (or1_mono (orq_mono (orq_mono (orq_mono (orq_mono (or1_mono (or1_mono no_any)))))))) (xx_re qq_pg (xx_or1 (xx_orq (xx_orq (xx_orq (xx_orq (xx_or1 (xx_or1 xx_id))))))))
   have tq_oW := oW.size
   replace oW := oW.tail o39 (tl_q q_oW_pg (fun _ e => by cases e) (tl_new g_oW_xb (tl_q q_oW_ls (fun _ e => by cases e) (tl_q q_oW_bs (fun _ e => by cases e) (tl_q q_oW_uV (fun _ e => by cases e) (tl_q q_oW_uB (fun _ e => by cases e) (tl_new g_oW_cb (tl_new g_oW_gb tl_no))))))))
   replace q_oW_pg := qtr qq_pg q_oW_pg tq_oW
   have tq_o23 := o23.size
   replace o23 := o23.tail o39 (tl_q q_o23_pg (fun _ e => by cases e) (tl_new g_o23_xb (tl_q q_o23_ls (fun _ e => by cases e) (tl_q q_o23_bs (fun _ e => by cases e) (tl_q q_o23_uV (fun k e => (.inl e)) (tl_q q_o23_uB (fun k e => (.inr (.inl e))) (tl_in (inq (inq in1)) (tl_in (inq (inq (in2 in1))) tl_no))))))))
   replace q_o23_pg := qtr qq_pg q_o23_pg tq_o23
   have tq_oD := oD.size
   replace oD := oD.tail o39 (tl_q q_oD_pg (fun _ e => by cases e) (tl_new g_oD_xb (tl_q q_oD_ls (fun _ e => by cases e) (tl_q q_oD_bs (fun _ e => by cases e) (tl_q q_oD_uV (fun k e => (.inl e)) (tl_q q_oD_uB (fun k e => (.inr (.inl e))) (tl_in (inq (inq in1)) (tl_in (inq (inq (in2 in1))) tl_no))))))))
   replace q_oD_pg := qtr qq_pg q_oD_pg tq_oD
   have tq_o28 := o28.size
   replace o28 := o28.tail o39 (tl_q q_o28_pg (fun _ e => by cases e) (tl_new g_o28_xb (tl_q q_o28_ls (fun k e => (.inl e)) (tl_q q_o28_bs (fun k e => (.inr (.inl e))) (tl_q q_o28_uV (fun k e => (.inr (.inr (.inl e)))) (tl_q q_o28_uB (fun k e => (.inr (.inr (.inr (.inl e))))) (tl_in (inq (inq (inq (inq in1)))) (tl_in (inq (inq (inq (inq (in2 in1))))) tl_no))))))))
   replace q_o28_pg := qtr qq_pg q_o28_pg tq_o28
   have tq_oB := oB.size
   replace oB := oB.tail o39 (tl_q q_oB_pg (fun _ e => by cases e) (tl_new g_oB_xb (tl_q q_oB_ls (fun k e => (.inl e)) (tl_q q_oB_bs (fun k e => (.inr (.inl e))) (tl_q q_oB_uV (fun k e => (.inr (.inr (.inl e)))) (tl_q q_oB_uB (fun k e => (.inr (.inr (.inr (.inl e))))) (tl_in (inq (inq (inq (inq in1)))) (tl_in (inq (inq (inq (inq (in2 in1))))) tl_no))))))))
   replace q_oB_pg := qtr qq_pg q_oB_pg tq_oB
   replace nq_pg_gb := nqs nq_pg_gb qq_pg h_lt_gb
   replace nq_pg_cb := nqs nq_pg_cb qq_pg h_lt_cb
   replace nq_pg_xb := nqs nq_pg_xb qq_pg h_lt_xb
   replace nqq_uB_pg := nqq_step nqq_uB_pg qq_pg h_lts_uB
   replace nqq_uV_pg := nqq_step nqq_uV_pg qq_pg h_lts_uV
   replace nqq_bs_pg := nqq_step nqq_bs_pg qq_pg h_lts_bs
   replace nqq_ls_pg := nqq_step nqq_ls_pg qq_pg h_lts_ls
   have q_o39_uB : Fr bo_uB bo_uB w35.heap.size := Fr.same
   have q_o39_uV : Fr bo_uV bo_uV w35.heap.size := Fr.same
   have q_o39_bs : Fr bo_bs bo_bs w35.heap.size := Fr.same
   have q_o39_ls : Fr bo_ls bo_ls w35.heap.size := Fr.same
   have q_o39_pg := qq_pg
   refine gs ?_
   refine gS ?_
   refine wI (n_lss (a := p) (b := Q) rfl rfl rfl) ?_
   refine gs ?_
   refine cond_if rfl (fun c41 => ?_) (fun c41 => ?_)
   ·
    refine gs ?_
    refine dpN 4 [2, 0] ?_
    refine gx_ ?_
    refine pz_ ?_
    intro w42 o43
    replace hF2 := hF2.step0 o43
    replace hG2 := hG2.step0 o43
    replace hH := hH.step0 o43
    replace a13 := a13.step0 o43
    replace a19 := a19.step0 o43
    replace a36 := a36.step0 o43
    replace a21 := a21.step0 o43
    replace a22 := a22.step0 o43
    replace a26 := a26.step0 o43
    replace a27 := a27.step0 o43
    replace a38 := a38.step0 o43
    replace oW := oW.tail0 o43
    replace o23 := o23.tail0 o43
    replace oD := oD.tail0 o43
    replace o28 := o28.tail0 o43
    replace oB := oB.tail0 o43
    replace o39 := o39.tail0 o43
    refine qO (d_call (xl := []) (al := []) Try.func42 kr rfl rfl rfl (ref7Ones_ok _)) ?_
    rintro u46 w44 f47
    replace f47 := f47.ps
    obtain ⟨f47, o45⟩ := f47
    replace f47 := f47.less (Y := (Orq bo_pg (Or1 xb (Orq bo_ls (Orq bo_bs (Orq bo_uV (Orq bo_uB (Or1 cb (Or1 gb (Old w29.heap.size)))))))))) (orq_old a38.lts (or1_old a36.lt (orq_old a27.lts (orq_old a26.lts (orq_old a22.lts (orq_old a21.lts (or1_old a19.lt (or1_old a13.lt (old_old oB.size)))))))))
    replace hF2 := hF2.step0 o45
    replace hG2 := hG2.step0 o45
    replace hH := hH.step0 o45
    replace a13 := a13.step0 o45
    replace a19 := a19.step0 o45
    replace a36 := a36.step0 o45
    replace a21 := a21.step0 o45
    replace a22 := a22.step0 o45
    replace a26 := a26.step0 o45
    replace a27 := a27.step0 o45
    replace a38 := a38.step0 o45
    replace oW := oW.tail0 o45
    replace o23 := o23.tail0 o45
    replace oD := oD.tail0 o45
    replace o28 := o28.tail0 o45
    replace oB := oB.tail0 o45
    replace o39 := o39.tail0 o45
    refine qO (d_buildL (cs := [u46]) Try.underlying63 s_ti36 rfl (nb rfl) (parts_cons (vs := [u46]) (cells_of (v := u46) rfl (Seq.cells f47)) parts_nil) rfl) ?_
    rintro _ w49 ⟨b48, rfl, g50, a51, o52⟩
    replace a51 : Arr 36 b48 (([u46] : List Value).map eV) w49 := a51
    have l_b48 : ([u46] : List Value).length = 1 := rfl
    have n_gb_b48 : gb ≠ b48 := a13.ne g50
    have n_cb_b48 : cb ≠ b48 := a19.ne g50
    have n_xb_b48 : xb ≠ b48 := a36.ne g50
    have nq_uB_b48 : ∀ x, bo_uB = some x → ¬ x = b48 := fun x hx e => by have := a21.lts x hx; omega
    have nq_uV_b48 : ∀ x, bo_uV = some x → ¬ x = b48 := fun x hx e => by have := a22.lts x hx; omega
    have nq_bs_b48 : ∀ x, bo_bs = some x → ¬ x = b48 := fun x hx e => by have := a26.lts x hx; omega
    have nq_ls_b48 : ∀ x, bo_ls = some x → ¬ x = b48 := fun x hx e => by have := a27.lts x hx; omega
    have nq_pg_b48 : ∀ x, bo_pg = some x → ¬ x = b48 := fun x hx e => by have := a38.lts x hx; omega
    have g_oW_b48 : W.heap.size ≤ b48 := Nat.le_trans oW.size g50
    have g_o23_b48 : w17.heap.size ≤ b48 := Nat.le_trans o23.size g50
    have g_oD_b48 : w24.heap.size ≤ b48 := Nat.le_trans oD.size g50
    have g_o28_b48 : w24.heap.size ≤ b48 := Nat.le_trans o28.size g50
    have g_oB_b48 : w29.heap.size ≤ b48 := Nat.le_trans oB.size g50
    have g_o39_b48 : w35.heap.size ≤ b48 := Nat.le_trans o39.size g50
    replace hF2 := hF2.new o52 g50
    replace hG2 := hG2.new o52 g50
    replace hH := hH.new o52 g50
    replace f47 := f47.new o52 g50
    replace a13 := a13.step0 o52
    replace a19 := a19.step0 o52
    replace a36 := a36.step0 o52
    replace a21 := a21.step0 o52
    replace a22 := a22.step0 o52
    replace a26 := a26.step0 o52
    replace a27 := a27.step0 o52
    replace a38 := a38.step0 o52
    replace oW := oW.tail0 o52
    replace o23 := o23.tail0 o52
    replace oD := oD.tail0 o52
    replace o28 := o28.tail0 o52
    replace oB := oB.tail0 o52
    replace o39 := o39.tail0 o52
    refine qN ?_
    refine wO (d_append Try.underlying63 Try.underlying63 s_ti36 rfl rfl rfl a38 (SrcV.of_arr (n := 1) (sz := 1) a51 rfl (fun v_ hv_ => by rw [List.mem_singleton.1 (show v_ ∈ [u46] from hv_)]; exact (Seq.one f47))) (by first | omega | (rw [lp]; omega) | (simp; omega) | (rw [lp]; simp; omega)) (by first | omega | (rw [lp]; omega) | (simp; omega) | (rw [lp]; simp; omega)) rfl) ?_
    rintro u53 w54 ⟨bo55, a56, o57, q58⟩
    replace a56 : Ow 36 1 bo55 u53 (pgs ++ ([u46] : List Value)).length ((pgs ++ ([u46] : List Value)).map eV) w54 := by rw [List.length_append, List.map_append]; exact a56
    replace hF2 := hF2.gr o57 (fun k e => (.inr (.inl e))) (xx_or1 (xx_re (Fr.of_or q58) (xx_or1 (xx_orq (xx_orq (xx_orq (xx_orq (xx_or1 (xx_or1 xx_id)))))))))
    replace hG2 := hG2.gr o57 (fun k e => (.inr (.inl e))) (xx_or1 (xx_re (Fr.of_or q58) (xx_or1 (xx_orq (xx_orq (xx_orq (xx_orq (xx_or1 (xx_or1 xx_id)))))))))
    replace hH := hH.gr o57 (fun k e => (.inr (.inl e))) (xx_or1 (xx_re (Fr.of_or q58) (xx_or1 (xx_orq (xx_orq (xx_orq (xx_orq (xx_or1 (xx_or1 xx_id)))))))))
    replace f47 := f47.gr o57 (fun k e => (.inr (.inl e))) (xx_or1 (xx_re (Fr.of_or q58) (xx_or1 (xx_orq (xx_orq (xx_orq (xx_orq (xx_or1 (xx_or1 xx_id)))))))))
    have nq2 := nqs nq_pg_gb (Fr.of_or q58) a13.lt
    replace a13 := a13.step o57 (fun e => nq_pg_gb _ e rfl)
    replace nq_pg_gb := nq2
    clear nq2
    have nq2 := nqs nq_pg_cb (Fr.of_or q58) a19.lt
    replace a19 := a19.step o57 (fun e => nq_pg_cb _ e rfl)
    replace nq_pg_cb := nq2
    clear nq2
    have nq2 := nqs nq_pg_xb (Fr.of_or q58) a36.lt
    replace a36 := a36.step o57 (fun e => nq_pg_xb _ e rfl)
    replace nq_pg_xb := nq2
    clear nq2
    have nq2 := nqs nq_pg_b48 (Fr.of_or q58) a51.lt
    replace a51 := a51.step o57 (fun e => nq_pg_b48 _ e rfl)
    replace nq_pg_b48 := nq2
    clear nq2
    have lt2 := a21.lts
    replace a21 := a21.step o57 (fun x hx e => nqq_uB_pg x hx e)
    replace nqq_uB_pg := nqq_step nqq_uB_pg (Fr.of_or q58) lt2
    clear lt2
    have lt2 := a22.lts
    replace a22 := a22.step o57 (fun x hx e => nqq_uV_pg x hx e)
    replace nqq_uV_pg := nqq_step nqq_uV_pg (Fr.of_or q58) lt2
    clear lt2
    have lt2 := a26.lts
    replace a26 := a26.step o57 (fun x hx e => nqq_bs_pg x hx e)
    replace nqq_bs_pg := nqq_step nqq_bs_pg (Fr.of_or q58) lt2
    clear lt2
    have lt2 := a27.lts
    replace a27 := a27.step o57 (fun x hx e => nqq_ls_pg x hx e)
    replace nqq_ls_pg := nqq_step nqq_ls_pg (Fr.of_or q58) lt2
    clear lt2
    have tq := oW.size
    replace oW := oW.tailr o57 q_oW_pg (fun _ e => by cases e)
    replace q_oW_pg := qtr (Fr.of_or q58) q_oW_pg tq
    clear tq
    have tq := o23.size
    replace o23 := o23.tailr o57 q_o23_pg (fun _ e => by cases e)
    replace q_o23_pg := qtr (Fr.of_or q58) q_o23_pg tq
    clear tq
    have tq := oD.size
    replace oD := oD.tailr o57 q_oD_pg (fun _ e => by cases e)
    replace q_oD_pg := qtr (Fr.of_or q58) q_oD_pg tq
    clear tq
    have tq := o28.size
    replace o28 := o28.tailr o57 q_o28_pg (fun _ e => by cases e)
    replace q_o28_pg := qtr (Fr.of_or q58) q_o28_pg tq
    clear tq
    have tq := oB.size
    replace oB := oB.tailr o57 q_oB_pg (fun _ e => by cases e)
    replace q_oB_pg := qtr (Fr.of_or q58) q_oB_pg tq
    clear tq
    have tq := o39.size
    replace o39 := o39.tailr o57 q_o39_pg (fun k e => (.inl e))
    replace q_o39_pg := qtr (Fr.of_or q58) q_o39_pg tq
    clear tq
    refine gs ?_
    refine wO (dW (hv := (Ow.one a56)) (hA := a36)) ?_
    rintro _ w59 ⟨a60, o61⟩
    replace hF2 := hF2.stepb o61 (in2 (inq in1))
    replace hG2 := hG2.stepb o61 (in2 (inq in1))
    replace hH := hH.stepb o61 (in2 (inq in1))
    replace f47 := f47.stepb o61 (in2 (inq in1))
    replace a13 := a13.step o61 (fun e => absurd e n_gb_xb)
    replace a19 := a19.step o61 (fun e => absurd e n_cb_xb)
    replace a51 := a51.step o61 (fun e => absurd e (Ne.symm n_xb_b48))
    replace a21 := a21.step o61 (fun x hx e => nq_uB_xb x hx e)
    replace a22 := a22.step o61 (fun x hx e => nq_uV_xb x hx e)
    replace a26 := a26.step o61 (fun x hx e => nq_bs_xb x hx e)
    replace a27 := a27.step o61 (fun x hx e => nq_ls_xb x hx e)
    replace a56 := a56.step o61 (fun x hx e => nq_pg_xb x hx e)
    replace oW := oW.tailb o61 g_oW_xb
    replace o23 := o23.tailb o61 g_o23_xb
    replace oD := oD.tailb o61 g_oD_xb
    replace o28 := o28.tailb o61 g_o28_xb
    replace oB := oB.tailb o61 g_oB_xb
    replace o39 := o39.tail o61 (fun k _ e => by have : k = xb := e; rw [this]; exact (inq in1))
    refine gs ?_
    refine gS ?_
    refine wI (n_add (a := p) (b := 1) rfl rfl oo) ?_
    refine gs ?_
    refine ⟨_, ⟨p + 1, pgs ++ ([u46] : List Value), bo55, u53⟩, rfl, kr, ⟨?_, ?_, ?_, ?_, ?_, ?_, ?_, ?_, ?_, ?_, ?_, ?_, ?_⟩, ?_⟩
    ·
     (try dsimp only)
     all_goals (omega)
    ·
     (try dsimp only)
     all_goals (rw [List.length_append, lp]; rfl)
    ·
     exact (pages_snoc hH f47 lp).less (xx_skip (xx_orq (xx_or1 (xx_orq (xx_orq (xx_orq (xx_orq (xx_or1 (xx_or1 xx_id)))))))))
    ·
     exact o39
    ·
     exact a13
    ·
     exact a19
    ·
     exact a60
    ·
     exact a21
    ·
     exact a22
    ·
     exact a26
    ·
     exact a27
    ·
     exact a56
    ·
     exact q_o39_pg
    ·
     (try dsimp only)
     all_goals (omega)
   refine gs ?_
   have hpQ : p = Q := by omega
   have hX0_ : ∀ k, (Orq bo_pg (Or1 xb (Orq bo_ls (Orq bo_bs (Orq bo_uV (Orq bo_uB (Or1 cb (Or1 gb (Old w29.heap.size))))))))) k → k < w40.heap.size := (lt_orq a38.lts (lt_or1 a36.lt (lt_orq a27.lts (lt_orq a26.lts (lt_orq a22.lts (lt_orq a21.lts (lt_or1 a19.lt (lt_or1 a13.lt (fun k t => Nat.lt_of_lt_of_le t oB.size)))))))))
   have hO0_ : ∀ k, (Orq bo_pg (Or1 xb (Orq bo_ls (Orq bo_bs (Orq bo_uV (Orq bo_uB (Or1 cb (Or1 gb No)))))))) k → k < w40.heap.size := fun k h => hX0_ k ((orq_mono (or1_mono (orq_mono (orq_mono (orq_mono (orq_mono (or1_mono (or1_mono no_any)))))))) k h)
   refine drawnT (O := (Orq bo_pg (Or1 xb (Orq bo_ls (Orq bo_bs (Orq bo_uV (Orq bo_uB (Or1 cb (Or1 gb No))))))))) (n := 12) 9 [0, 0, 2, 7, 0, 0, 32, 96, 224, 511, 1023, 2047] [(0, 45), (1, 46), (2, 47), (3, 48), (4, 49), (5, 50), (6, 51), (7, 52), (8, 53), (9, 54), (10, 8), (11, 9)] [(0, 45), (1, 46), (2, 47), (3, 48), (4, 49), (5, 50), (6, 51), (7, 52), (8, 53)] [0, 1, 2, 4, 5, 6, 7, 8] [3] (fun i_ => ([RF.is (Orq bo_pg (Or1 xb (Orq bo_ls (Orq bo_bs (Orq bo_uV (Orq bo_uB (Or1 cb (Or1 gb No)))))))) u_bs, RF.is (Orq bo_pg (Or1 xb (Orq bo_ls (Orq bo_bs (Orq bo_uV (Orq bo_uB (Or1 cb (Or1 gb No)))))))) (Value.agg #[u_pg, (eN 0), (eN 0), vF]), RF.mk_ (Orq bo_pg (Or1 xb (Orq bo_ls (Orq bo_bs (Orq bo_uV (Orq bo_uB (Or1 cb (Or1 gb No)))))))) (fun b_ => (sli b_ 0 1 1)) 85 [u_pg, (eN 0), (eN 0), vF] w40.heap.size hO0_, RF.gr (Orq bo_pg (Or1 xb (Orq bo_ls (Orq bo_bs (Orq bo_uV (Orq bo_uB (Or1 cb (Or1 gb No)))))))) 85 4 bo_bs (vb ++ [u_pg]).length ((vb ++ [u_pg]).flatMap eR) w40.heap.size, RF.is (Orq bo_pg (Or1 xb (Orq bo_ls (Orq bo_bs (Orq bo_uV (Orq bo_uB (Or1 cb (Or1 gb No)))))))) u_ls, RF.is (Orq bo_pg (Or1 xb (Orq bo_ls (Orq bo_bs (Orq bo_uV (Orq bo_uB (Or1 cb (Or1 gb No)))))))) (ptr gb 2), RF.is (Orq bo_pg (Or1 xb (Orq bo_ls (Orq bo_bs (Orq bo_uV (Orq bo_uB (Or1 cb (Or1 gb No)))))))) (eN Q), RF.mk_ (Orq bo_pg (Or1 xb (Orq bo_ls (Orq bo_bs (Orq bo_uV (Orq bo_uB (Or1 cb (Or1 gb No)))))))) (fun b_ => (sli b_ 0 Q Q)) 37 (List.replicate Q vN) w40.heap.size hO0_, RF.mkv_ (Orq bo_pg (Or1 xb (Orq bo_ls (Orq bo_bs (Orq bo_uV (Orq bo_uB (Or1 cb (Or1 gb No)))))))) (fun b_ => (sli b_ 0 1 1)) 67 (fun v62 => [(v62 7)]) w40.heap.size hO0_] : List (RF (Orq bo_pg (Or1 xb (Orq bo_ls (Orq bo_bs (Orq bo_uV (Orq bo_uB (Or1 cb (Or1 gb No)))))))))).getD i_ (RF.any (Orq bo_pg (Or1 xb (Orq bo_ls (Orq bo_bs (Orq bo_uV (Orq bo_uB (Or1 cb (Or1 gb No)))))))))) (fun k_ w_ => match k_ with | 0 => Arr 23 gb [(eN D), (eN B), (eN Q)] w_ ∧ Arr 81 cb [(eN D), (eN B), (eN Q), u_uB, u_uV, (eN 0), vN, vF, (eN 0), (eN 0)] w_ ∧ Arr 85 xb [u_pg, (eN 0), (eN 0), vF] w_ ∧ Ow 82 1 bo_uB u_uB (vB).length ((vB).map eV) w_ ∧ Ow 83 1 bo_uV u_uV (vV).length ((vV).map eV) w_ ∧ Ow 85 4 bo_bs u_bs (vb).length ((vb).flatMap eR) w_ ∧ Ow 67 1 bo_ls u_ls (lz).length ((lz).map (eK Q)) w_ ∧ Ow 36 1 bo_pg u_pg (pgs).length ((pgs).map eV) w_ | _ => Arr 23 gb [(eN D), (eN B), (eN Q)] w_ ∧ Arr 81 cb [(eN D), (eN B), (eN Q), u_uB, u_uV, (eN 0), vN, vF, (eN 0), (eN 0)] w_ ∧ Arr 85 xb [u_pg, (eN 0), (eN 0), vF] w_ ∧ Ow 82 1 bo_uB u_uB (vB).length ((vB).map eV) w_ ∧ Ow 83 1 bo_uV u_uV (vV).length ((vV).map eV) w_ ∧ True ∧ Ow 67 1 bo_ls u_ls (lz).length ((lz).map (eK Q)) w_ ∧ Ow 36 1 bo_pg u_pg (pgs).length ((pgs).map eV) w_) (fun v62 => ([(ag3 D B Q), ub, (ptr gb 0), undef, (Value.pointer none), (eN 0), (ptr cb 0), (eN d), (v62 10), (v62 11), (eN b), (ptr xb 0), (eN p), undef, (ag3 D B Q), vT, vF, (ag3 D B Q), (Value.agg #[(eN D), (eN B), (eN Q), vN, vN, (eN 0), vN, vF, (eN 0), (eN 0)]), (ptr cb 0), (eN d), (ptr gb 0), (eN D), (Value.bool (decide (d < D))), (z 24), (z 25), (eN b), (ptr gb 1), (eN B), (Value.bool (decide (b < B))), (z 30), (z 31), (Value.agg #[vN, (eN 0), (eN 0), vF]), (eN p), (ptr gb 2), (eN Q), (Value.bool (decide (p < Q)))] ++ (zs z 37 8 ++ [(v62 0), (v62 1), (v62 2), (v62 3), (v62 4), (v62 5), (v62 6), (v62 7), (v62 8), (v62 9)] ++ (zs z 55 20 ++ (us 38))))) (fun v62 => ([(ag3 D B Q), ub, (ptr gb 0), undef, (Value.pointer none), (eN 0), (ptr cb 0), (eN d), u_bs, u_ls, (eN b), (ptr xb 0), (eN p), undef, (ag3 D B Q), vT, vF, (ag3 D B Q), (Value.agg #[(eN D), (eN B), (eN Q), vN, vN, (eN 0), vN, vF, (eN 0), (eN 0)]), (ptr cb 0), (eN d), (ptr gb 0), (eN D), (Value.bool (decide (d < D))), (z 24), (z 25), (eN b), (ptr gb 1), (eN B), (Value.bool (decide (b < B))), (z 30), (z 31), (Value.agg #[vN, (eN 0), (eN 0), vF]), (eN p), (ptr gb 2), (eN Q), (Value.bool (decide (p < Q)))] ++ (zs z 37 8 ++ [(v62 0), (v62 1), (v62 2), (v62 3), (v62 4), (v62 5), (v62 6), (v62 7), (v62 8)] ++ (zs z 54 21 ++ (us 38))))) s_mx kr rfl (by decide) (by rfl) kr kr kr (by rfl) (fun v_ => by kernel_rfl) (fun v_ => by kernel_rfl) (fun k_ => match k_ with | 0 => fun w_ w2_ h ho => by obtain ⟨r_a13, r_a19, r_a36, r_a21, r_a22, r_a26, r_a27, r_a38⟩ := h; exact ⟨r_a13.step0 ho, r_a19.step0 ho, r_a36.step0 ho, r_a21.step0 ho, r_a22.step0 ho, r_a26.step0 ho, r_a27.step0 ho, r_a38.step0 ho⟩ | (_ + 1) => fun w_ w2_ h ho => by obtain ⟨r_a13, r_a19, r_a36, r_a21, r_a22, r_a26, r_a27, r_a38⟩ := h; exact ⟨r_a13.step0 ho, r_a19.step0 ho, r_a36.step0 ho, r_a21.step0 ho, r_a22.step0 ho, trivial, r_a27.step0 ho, r_a38.step0 ho⟩) ⟨a13, a19, a36, a21, a22, a26, a27, a38⟩ ?_ ?_ ?_
   ·
    refine ls_cons ?_ ?_
    ·
     intro v62 lo hi w_ k_ hO hd _ _ hk_ _ hR hold
     obtain rfl : k_ = 0 := Nat.le_zero.1 (hk_ 0 (by decide) kr)
     obtain ⟨r_a13, r_a19, r_a36, r_a21, r_a22, r_a26, r_a27, r_a38⟩ := hR
     have eo10 : v62 10 = u_bs := hold (10, 8) (by decide) kr
     clear hd hold
     refine ⟨_, rfl, gd rfl ?_⟩
     exact Does.is (d_move (v := u_bs) eo10)
    refine ls_cons ?_ ?_
    ·
     intro v62 lo hi w_ k_ hO hd _ _ hk_ _ hR hold
     obtain rfl : k_ = 0 := Nat.le_zero.1 (hk_ 0 (by decide) kr)
     obtain ⟨r_a13, r_a19, r_a36, r_a21, r_a22, r_a26, r_a27, r_a38⟩ := hR
     clear hd hold
     refine ⟨_, rfl, gd rfl ?_⟩
     exact Does.is (d_loadAg (vs := [u_pg, (eN 0), (eN 0), vF]) ⟨_, Try.underlying85, rfl⟩ s_ti85 rfl r_a36 rfl rfl)
    refine ls_cons ?_ ?_
    ·
     intro v62 lo hi w_ k_ hO hd _ _ hk_ _ hR hold
     obtain rfl : k_ = 0 := Nat.le_zero.1 (hk_ 0 (by decide) kr)
     obtain ⟨r_a13, r_a19, r_a36, r_a21, r_a22, r_a26, r_a27, r_a38⟩ := hR
     have e1 : v62 1 = (Value.agg #[u_pg, (eN 0), (eN 0), vF]) := hd 1 kr
     clear hd hold
     refine ⟨_, rfl, gd rfl ?_⟩
     refine Does.mono (d_buildL2 (zs := [vN, (eN 0), (eN 0), vF]) (cs := [u_pg, (eN 0), (eN 0), vF]) Try.underlying82 s_ti85 made_bk (nb rfl) (parts_cons (vs := [u_pg, (eN 0), (eN 0), vF]) (cells_of (v := (Value.agg #[u_pg, (eN 0), (eN 0), vF])) e1 rfl) parts_nil) rfl) (fun u w' h => by obtain ⟨b_, rfl, hb_, hA_, hO_⟩ := h; exact ⟨⟨b_, rfl, hA_, Nat.le_trans hO.size hb_⟩, hO_⟩)
    refine ls_cons ?_ ?_
    ·
     intro v62 lo hi w_ k_ hO hd _ _ hk_ _ hR hold
     obtain ⟨r_a13, r_a19, r_a36, r_a21, r_a22, r_a26, r_a27, r_a38⟩ := (show Arr 23 gb [(eN D), (eN B), (eN Q)] w_ ∧ Arr 81 cb [(eN D), (eN B), (eN Q), u_uB, u_uV, (eN 0), vN, vF, (eN 0), (eN 0)] w_ ∧ Arr 85 xb [u_pg, (eN 0), (eN 0), vF] w_ ∧ Ow 82 1 bo_uB u_uB (vB).length ((vB).map eV) w_ ∧ Ow 83 1 bo_uV u_uV (vV).length ((vV).map eV) w_ ∧ True ∧ Ow 67 1 bo_ls u_ls (lz).length ((lz).map (eK Q)) w_ ∧ Ow 36 1 bo_pg u_pg (pgs).length ((pgs).map eV) w_ from by match k_, hR with | 0, h_ => exact (by obtain ⟨r_a13, r_a19, r_a36, r_a21, r_a22, r_a26, r_a27, r_a38⟩ := h_; exact ⟨r_a13, r_a19, r_a36, r_a21, r_a22, trivial, r_a27, r_a38⟩) | (_ + 1), h_ => exact h_)
     have eo11 : v62 11 = u_ls := hold (11, 9) (by decide) kr
     clear hd hold
     refine ⟨_, rfl, gd rfl ?_⟩
     exact Does.is (d_move (v := u_ls) eo11)
    refine ls_cons ?_ ?_
    ·
     intro v62 lo hi w_ k_ hO hd _ _ hk_ _ hR hold
     obtain ⟨r_a13, r_a19, r_a36, r_a21, r_a22, r_a26, r_a27, r_a38⟩ := (show Arr 23 gb [(eN D), (eN B), (eN Q)] w_ ∧ Arr 81 cb [(eN D), (eN B), (eN Q), u_uB, u_uV, (eN 0), vN, vF, (eN 0), (eN 0)] w_ ∧ Arr 85 xb [u_pg, (eN 0), (eN 0), vF] w_ ∧ Ow 82 1 bo_uB u_uB (vB).length ((vB).map eV) w_ ∧ Ow 83 1 bo_uV u_uV (vV).length ((vV).map eV) w_ ∧ True ∧ Ow 67 1 bo_ls u_ls (lz).length ((lz).map (eK Q)) w_ ∧ Ow 36 1 bo_pg u_pg (pgs).length ((pgs).map eV) w_ from by match k_, hR with | 0, h_ => exact (by obtain ⟨r_a13, r_a19, r_a36, r_a21, r_a22, r_a26, r_a27, r_a38⟩ := h_; exact ⟨r_a13, r_a19, r_a36, r_a21, r_a22, trivial, r_a27, r_a38⟩) | (_ + 1), h_ => exact h_)
     clear hd hold
     refine ⟨_, rfl, gd rfl ?_⟩
     exact Does.is (d_fieldAddr (j := 2) Try.underlying23 rfl s_ti3 (by decide) rfl rfl)
    refine ls_cons ?_ ?_
    ·
     intro v62 lo hi w_ k_ hO hd _ _ hk_ _ hR hold
     obtain ⟨r_a13, r_a19, r_a36, r_a21, r_a22, r_a26, r_a27, r_a38⟩ := (show Arr 23 gb [(eN D), (eN B), (eN Q)] w_ ∧ Arr 81 cb [(eN D), (eN B), (eN Q), u_uB, u_uV, (eN 0), vN, vF, (eN 0), (eN 0)] w_ ∧ Arr 85 xb [u_pg, (eN 0), (eN 0), vF] w_ ∧ Ow 82 1 bo_uB u_uB (vB).length ((vB).map eV) w_ ∧ Ow 83 1 bo_uV u_uV (vV).length ((vV).map eV) w_ ∧ True ∧ Ow 67 1 bo_ls u_ls (lz).length ((lz).map (eK Q)) w_ ∧ Ow 36 1 bo_pg u_pg (pgs).length ((pgs).map eV) w_ from by match k_, hR with | 0, h_ => exact (by obtain ⟨r_a13, r_a19, r_a36, r_a21, r_a22, r_a26, r_a27, r_a38⟩ := h_; exact ⟨r_a13, r_a19, r_a36, r_a21, r_a22, trivial, r_a27, r_a38⟩) | (_ + 1), h_ => exact h_)
     have e5 : v62 5 = (ptr gb 2) := hd 5 kr
     clear hd hold
     refine ⟨_, rfl, gd rfl ?_⟩
     exact Does.is (d_load (v := (eN Q)) ⟨_, Try.underlying3, rfl⟩ e5 r_a13 rfl)
    refine ls_cons ?_ ?_
    ·
     intro v62 lo hi w_ k_ hO hd _ _ hk_ _ hR hold
     obtain ⟨r_a13, r_a19, r_a36, r_a21, r_a22, r_a26, r_a27, r_a38⟩ := (show Arr 23 gb [(eN D), (eN B), (eN Q)] w_ ∧ Arr 81 cb [(eN D), (eN B), (eN Q), u_uB, u_uV, (eN 0), vN, vF, (eN 0), (eN 0)] w_ ∧ Arr 85 xb [u_pg, (eN 0), (eN 0), vF] w_ ∧ Ow 82 1 bo_uB u_uB (vB).length ((vB).map eV) w_ ∧ Ow 83 1 bo_uV u_uV (vV).length ((vV).map eV) w_ ∧ True ∧ Ow 67 1 bo_ls u_ls (lz).length ((lz).map (eK Q)) w_ ∧ Ow 36 1 bo_pg u_pg (pgs).length ((pgs).map eV) w_ from by match k_, hR with | 0, h_ => exact (by obtain ⟨r_a13, r_a19, r_a36, r_a21, r_a22, r_a26, r_a27, r_a38⟩ := h_; exact ⟨r_a13, r_a19, r_a36, r_a21, r_a22, trivial, r_a27, r_a38⟩) | (_ + 1), h_ => exact h_)
     have e6 : v62 6 = (eN Q) := hd 6 kr
     clear hd hold
     refine ⟨_, rfl, gd rfl ?_⟩
     refine Does.mono (d_make1 (n := Q) Try.underlying67 s_ti37 e6 e6 oo oo rfl) (fun u w' h => by obtain ⟨b_, rfl, hb_, hA_, hO_⟩ := h; exact ⟨⟨b_, rfl, hA_, Nat.le_trans hO.size hb_⟩, hO_⟩)
    refine ls_cons ?_ ?_
    ·
     intro v62 lo hi w_ k_ hO hd _ _ hk_ _ hR hold
     obtain ⟨r_a13, r_a19, r_a36, r_a21, r_a22, r_a26, r_a27, r_a38⟩ := (show Arr 23 gb [(eN D), (eN B), (eN Q)] w_ ∧ Arr 81 cb [(eN D), (eN B), (eN Q), u_uB, u_uV, (eN 0), vN, vF, (eN 0), (eN 0)] w_ ∧ Arr 85 xb [u_pg, (eN 0), (eN 0), vF] w_ ∧ Ow 82 1 bo_uB u_uB (vB).length ((vB).map eV) w_ ∧ Ow 83 1 bo_uV u_uV (vV).length ((vV).map eV) w_ ∧ True ∧ Ow 67 1 bo_ls u_ls (lz).length ((lz).map (eK Q)) w_ ∧ Ow 36 1 bo_pg u_pg (pgs).length ((pgs).map eV) w_ from by match k_, hR with | 0, h_ => exact (by obtain ⟨r_a13, r_a19, r_a36, r_a21, r_a22, r_a26, r_a27, r_a38⟩ := h_; exact ⟨r_a13, r_a19, r_a36, r_a21, r_a22, trivial, r_a27, r_a38⟩) | (_ + 1), h_ => exact h_)
     obtain ⟨mb7, me7, ma7, mf7⟩ : ∃ b_, v62 7 = (fun b_ => (sli b_ 0 Q Q)) b_ ∧ Arr 37 b_ (List.replicate Q vN) w_ ∧ w40.heap.size ≤ b_ := hd 7 kr
     clear hd hold
     refine ⟨_, rfl, gd rfl ?_⟩
     refine Does.mono (d_buildL (cs := [(v62 7)]) Try.underlying83 s_ti67 rfl (nb rfl) (parts_cons (vs := [(v62 7)]) (cells_of (v := (v62 7)) rfl (by rw [me7]; rfl)) parts_nil) rfl) (fun u w' h => by obtain ⟨b_, rfl, hb_, hA_, hO_⟩ := h; exact ⟨⟨b_, rfl, hA_, Nat.le_trans hO.size hb_⟩, hO_⟩)
    exact ls_nil
   ·
    refine ms_one ?_
    ·
     refine ⟨by kernel_rfl, ?_⟩
     intro v62 lo hi w_ hO hd _ hR hold
     obtain ⟨r_a13, r_a19, r_a36, r_a21, r_a22, r_a26, r_a27, r_a38⟩ := hR
     have e0 : v62 0 = u_bs := hd 0 kr
     obtain ⟨mb2, me2, ma2, mf2⟩ : ∃ b_, v62 2 = (fun b_ => (sli b_ 0 1 1)) b_ ∧ Arr 85 b_ [u_pg, (eN 0), (eN 0), vF] w_ ∧ w40.heap.size ≤ b_ := hd 2 kr
     clear hd hold
     refine ⟨_, rfl, gd rfl ?_⟩
     refine Does.mono (d_append Try.underlying82 Try.underlying82 s_ti85 rfl e0 me2 r_a26 (SrcV.of_arr (n := 1) (sz := 4) ma2 rfl (one_eR (Ow.one r_a38))) (by first | omega | (rw [lvb]; omega) | (simp; omega) | (rw [lvb]; simp; omega)) (by first | omega | (rw [lvb]; omega) | (simp; omega) | (rw [lvb]; simp; omega)) rfl) (fun u w' h => by obtain ⟨bo_, h1_, h2_, h3_⟩ := h; exact ⟨⟨bo_, (ow_appR (xs := vb) h1_ rfl rfl : Ow 85 4 bo_ u (vb ++ [u_pg]).length ((vb ++ [u_pg]).flatMap eR) w'), qtr2 (Fr.of_or h3_) Fr.same hO.size⟩, ⟨r_a13.step h2_ (fun e => nq_bs_gb _ e rfl), r_a19.step h2_ (fun e => nq_bs_cb _ e rfl), r_a36.step h2_ (fun e => nq_bs_xb _ e rfl), r_a21.step h2_ (fun x hx e => nqq_uB_bs x hx e), r_a22.step h2_ (fun x hx e => nqq_uV_bs x hx e), trivial, r_a27.step h2_ (fun x hx e => nqq_bs_ls x e hx), r_a38.step h2_ (fun x hx e => nqq_bs_pg x e hx)⟩, h2_.mono (fun k _ (e : bo_bs = some k) => (.inr (.inr (.inr (.inl e)))))⟩)
   intro v62 lo_ hi_ w63 o64 hd iv_ hR
   have e0 : v62 0 = u_bs := hd 0 (by decide)
   have e1 : v62 1 = (Value.agg #[u_pg, (eN 0), (eN 0), vF]) := hd 1 (by decide)
   have e4 : v62 4 = u_ls := hd 4 (by decide)
   have e5 : v62 5 = (ptr gb 2) := hd 5 (by decide)
   have e6 : v62 6 = (eN Q) := hd 6 (by decide)
   obtain ⟨kb, e2, a65, g66⟩ : ∃ b_, v62 2 = (fun b_ => (sli b_ 0 1 1)) b_ ∧ Arr 85 b_ [u_pg, (eN 0), (eN 0), vF] w63 ∧ w40.heap.size ≤ b_ := hd 2 (by decide)
   dsimp only at e2
   obtain ⟨zb, e7, a67, g68⟩ : ∃ b_, v62 7 = (fun b_ => (sli b_ 0 Q Q)) b_ ∧ Arr 37 b_ (List.replicate Q vN) w63 ∧ w40.heap.size ≤ b_ := hd 7 (by decide)
   dsimp only at e7
   have n_gb_zb : gb ≠ zb := a13.ne g68
   have n_cb_zb : cb ≠ zb := a19.ne g68
   have n_xb_zb : xb ≠ zb := a36.ne g68
   have nq_uB_zb : ∀ x, bo_uB = some x → ¬ x = zb := fun x hx e => by have := a21.lts x hx; omega
   have nq_uV_zb : ∀ x, bo_uV = some x → ¬ x = zb := fun x hx e => by have := a22.lts x hx; omega
   have nq_bs_zb : ∀ x, bo_bs = some x → ¬ x = zb := fun x hx e => by have := a26.lts x hx; omega
   have nq_ls_zb : ∀ x, bo_ls = some x → ¬ x = zb := fun x hx e => by have := a27.lts x hx; omega
   have nq_pg_zb : ∀ x, bo_pg = some x → ¬ x = zb := fun x hx e => by have := a38.lts x hx; omega
   have g_oW_zb : W.heap.size ≤ zb := Nat.le_trans oW.size g68
   have g_o23_zb : w17.heap.size ≤ zb := Nat.le_trans o23.size g68
   have g_oD_zb : w24.heap.size ≤ zb := Nat.le_trans oD.size g68
   have g_o28_zb : w24.heap.size ≤ zb := Nat.le_trans o28.size g68
   have g_oB_zb : w29.heap.size ≤ zb := Nat.le_trans oB.size g68
   have g_o39_zb : w35.heap.size ≤ zb := Nat.le_trans o39.size g68
   obtain ⟨lb_, e8, a69, g70⟩ : ∃ b_, v62 8 = (fun b_ => (sli b_ 0 1 1)) b_ ∧ Arr 67 b_ [(v62 7)] w63 ∧ w40.heap.size ≤ b_ := hd 8 (by decide)
   dsimp only at e8
   have n_gb_lb_ : gb ≠ lb_ := a13.ne g70
   have n_cb_lb_ : cb ≠ lb_ := a19.ne g70
   have n_xb_lb_ : xb ≠ lb_ := a36.ne g70
   have nq_uB_lb_ : ∀ x, bo_uB = some x → ¬ x = lb_ := fun x hx e => by have := a21.lts x hx; omega
   have nq_uV_lb_ : ∀ x, bo_uV = some x → ¬ x = lb_ := fun x hx e => by have := a22.lts x hx; omega
   have nq_bs_lb_ : ∀ x, bo_bs = some x → ¬ x = lb_ := fun x hx e => by have := a26.lts x hx; omega
   have nq_ls_lb_ : ∀ x, bo_ls = some x → ¬ x = lb_ := fun x hx e => by have := a27.lts x hx; omega
   have nq_pg_lb_ : ∀ x, bo_pg = some x → ¬ x = lb_ := fun x hx e => by have := a38.lts x hx; omega
   have g_oW_lb_ : W.heap.size ≤ lb_ := Nat.le_trans oW.size g70
   have g_o23_lb_ : w17.heap.size ≤ lb_ := Nat.le_trans o23.size g70
   have g_oD_lb_ : w24.heap.size ≤ lb_ := Nat.le_trans oD.size g70
   have g_o28_lb_ : w24.heap.size ≤ lb_ := Nat.le_trans o28.size g70
   have g_oB_lb_ : w29.heap.size ≤ lb_ := Nat.le_trans oB.size g70
   have g_o39_lb_ : w35.heap.size ≤ lb_ := Nat.le_trans o39.size g70
   have n_zb_lb_ : zb ≠ lb_ := arr_ne a67 a69 (by decide)
   rw [e7] at a69
   replace a69 : Arr 67 lb_ (([zb] : List Nat).map (eK Q)) w63 := a69
   obtain ⟨bo71, a72, q73⟩ : ∃ bo_, Ow 85 4 bo_ (v62 3) (vb ++ [u_pg]).length ((vb ++ [u_pg]).flatMap eR) w63 ∧ Fr bo_ bo_bs w40.heap.size := hd 3 (by decide)
   replace nq_bs_gb := nqs nq_bs_gb q73 a13.lt
   replace nq_bs_cb := nqs nq_bs_cb q73 a19.lt
   replace nq_bs_xb := nqs nq_bs_xb q73 a36.lt
   replace nq_bs_zb := ow_ne a72 a67 (by decide)
   replace nq_bs_lb_ := ow_ne a72 a69 (by decide)
   replace nqq_uB_bs := nqq_step nqq_uB_bs q73 a21.lts
   replace nqq_uV_bs := nqq_step nqq_uV_bs q73 a22.lts
   replace nqq_bs_ls := fun x h1 h2 => nqq_step (fun x h1 h2 => nqq_bs_ls x h2 h1) q73 a27.lts x h2 h1
   replace nqq_bs_pg := fun x h1 h2 => nqq_step (fun x h1 h2 => nqq_bs_pg x h2 h1) q73 a38.lts x h2 h1
   clear hd iv_ lo_ hi_
   refine wpL.flat ([(ag3 D B Q), ub, (ptr gb 0), undef, (Value.pointer none), (eN 0), (ptr cb 0), (eN d), u_bs, u_ls, (eN b), (ptr xb 0), (eN p), undef, (ag3 D B Q), vT, vF, (ag3 D B Q), (Value.agg #[(eN D), (eN B), (eN Q), vN, vN, (eN 0), vN, vF, (eN 0), (eN 0)]), (ptr cb 0), (eN d), (ptr gb 0), (eN D), (Value.bool (decide (d < D))), (z 24), (z 25), (eN b), (ptr gb 1), (eN B), (Value.bool (decide (b < B))), (z 30), (z 31), (Value.agg #[vN, (eN 0), (eN 0), vF]), (eN p), (ptr gb 2), (eN Q), (Value.bool (decide (p < Q)))] ++ (zs z 37 8 ++ [u_bs, (Value.agg #[u_pg, (eN 0), (eN 0), vF]), (sli kb 0 1 1), (v62 3), u_ls, (ptr gb 2), (eN Q), (sli zb 0 Q Q), (sli lb_ 0 1 1)] ++ (zs z 54 21 ++ (us 38)))) (by rw [e0, e1, e4, e5, e6, e2, e7, e8] <;> rfl) ?_
   clear e0 e1 e4 e5 e6 e2 e7 e8
   replace hF2 : Ps (Or1 lb_ (Or1 zb (Orq bo_pg (Or1 xb (Orq bo_ls (Orq bo71 (Orq bo_uV (Orq bo_uB (Or1 cb (Or1 gb (Old W.heap.size))))))))))) _ w63 := ((((hF2.less (Y := Orq bo71 (Orq bo_pg (Or1 xb (Orq bo_ls (Orq bo_bs (Orq bo_uV (Orq bo_uB (Or1 cb (Or1 gb (Old W.heap.size)))))))))) (xx_fr q73 (fun k e => (.inr (.inr (.inr (.inl e))))))).less (Y := (Or1 zb (Orq bo71 (Orq bo_pg (Or1 xb (Orq bo_ls (Orq bo_bs (Orq bo_uV (Orq bo_uB (Or1 cb (Or1 gb (Old W.heap.size)))))))))))) (xx_new g68 xx_id)).less (Y := (Or1 lb_ (Or1 zb (Orq bo71 (Orq bo_pg (Or1 xb (Orq bo_ls (Orq bo_bs (Orq bo_uV (Orq bo_uB (Or1 cb (Or1 gb (Old W.heap.size))))))))))))) (xx_new g70 xx_id)).step o64 (or1_skip (or1_skip (orq_skip (orq_mono (or1_mono (orq_mono (orq_mono (orq_mono (orq_mono (or1_mono (or1_mono no_any)))))))))))).less (xs_end (xs_mk' (xs_mk' (xs_q (xs_b (xs_q (xs_row xs_id)))))))
   replace hG2 : Ps (Or1 lb_ (Or1 zb (Orq bo_pg (Or1 xb (Orq bo_ls (Orq bo71 (Orq bo_uV (Orq bo_uB (Or1 cb (Or1 gb (NF.B F2 d (d * B + b) W.heap.size))))))))))) _ w63 := ((((hG2.less (Y := Orq bo71 (Orq bo_pg (Or1 xb (Orq bo_ls (Orq bo_bs (Orq bo_uV (Orq bo_uB (Or1 cb (Or1 gb (NF.B F2 d (d * B + b) W.heap.size)))))))))) (xx_fr q73 (fun k e => (.inr (.inr (.inr (.inl e))))))).less (Y := (Or1 zb (Orq bo71 (Orq bo_pg (Or1 xb (Orq bo_ls (Orq bo_bs (Orq bo_uV (Orq bo_uB (Or1 cb (Or1 gb (NF.B F2 d (d * B + b) W.heap.size)))))))))))) (xx_new g68 xx_id)).less (Y := (Or1 lb_ (Or1 zb (Orq bo71 (Orq bo_pg (Or1 xb (Orq bo_ls (Orq bo_bs (Orq bo_uV (Orq bo_uB (Or1 cb (Or1 gb (NF.B F2 d (d * B + b) W.heap.size))))))))))))) (xx_new g70 xx_id)).step o64 (or1_skip (or1_skip (orq_skip (orq_mono (or1_mono (orq_mono (orq_mono (orq_mono (orq_mono (or1_mono (or1_mono no_any)))))))))))).less (xs_end (xs_mk' (xs_mk' (xs_q (xs_b (xs_q (xs_row xs_id)))))))
   replace hH : Ps (Or1 lb_ (Or1 zb (Orq bo_pg (Or1 xb (Orq bo_ls (Orq bo71 (Orq bo_uV (Orq bo_uB (Or1 cb (Or1 gb (Old w29.heap.size))))))))))) _ w63 := ((((hH.less (Y := Orq bo71 (Orq bo_pg (Or1 xb (Orq bo_ls (Orq bo_bs (Orq bo_uV (Orq bo_uB (Or1 cb (Or1 gb (Old w29.heap.size)))))))))) (xx_fr q73 (fun k e => (.inr (.inr (.inr (.inl e))))))).less (Y := (Or1 zb (Orq bo71 (Orq bo_pg (Or1 xb (Orq bo_ls (Orq bo_bs (Orq bo_uV (Orq bo_uB (Or1 cb (Or1 gb (Old w29.heap.size)))))))))))) (xx_new g68 xx_id)).less (Y := (Or1 lb_ (Or1 zb (Orq bo71 (Orq bo_pg (Or1 xb (Orq bo_ls (Orq bo_bs (Orq bo_uV (Orq bo_uB (Or1 cb (Or1 gb (Old w29.heap.size))))))))))))) (xx_new g70 xx_id)).step o64 (or1_skip (or1_skip (orq_skip (orq_mono (or1_mono (orq_mono (orq_mono (orq_mono (orq_mono (or1_mono (or1_mono no_any)))))))))))).less (xs_end (xs_mk' (xs_mk' (xs_q (xs_b (xs_q (xs_row xs_id)))))))
   obtain ⟨xr_a13, xr_a19, xr_a36, xr_a21, xr_a22, xr_a26, xr_a27, xr_a38⟩ := hR
   replace a13 : Arr 23 gb [(eN D), (eN B), (eN Q)] w63 := xr_a13
   replace a19 : Arr 81 cb [(eN D), (eN B), (eN Q), u_uB, u_uV, (eN 0), vN, vF, (eN 0), (eN 0)] w63 := xr_a19
   replace a36 : Arr 85 xb [u_pg, (eN 0), (eN 0), vF] w63 := xr_a36
   replace a21 : Ow 82 1 bo_uB u_uB (vB).length ((vB).map eV) w63 := xr_a21
   replace a22 : Ow 83 1 bo_uV u_uV (vV).length ((vV).map eV) w63 := xr_a22
   replace a27 : Ow 67 1 bo_ls u_ls (lz).length ((lz).map (eK Q)) w63 := xr_a27
   replace a38 : Ow 36 1 bo_pg u_pg (pgs).length ((pgs).map eV) w63 := xr_a38
   clear xr_a13 xr_a19 xr_a36 xr_a21 xr_a22 xr_a26 xr_a27 xr_a38
   have tq_ := oW.size
   replace oW := oW.tail o64 (tl_q q_oW_pg (fun _ e => by cases e) (tl_new g_oW_xb (tl_q q_oW_ls (fun _ e => by cases e) (tl_q q_oW_bs (fun _ e => by cases e) (tl_q q_oW_uV (fun _ e => by cases e) (tl_q q_oW_uB (fun _ e => by cases e) (tl_new g_oW_cb (tl_new g_oW_gb tl_no))))))))
   replace q_oW_bs := qtr q73 q_oW_bs tq_
   clear tq_
   have tq_ := o23.size
   replace o23 := o23.tail o64 (tl_q q_o23_pg (fun _ e => by cases e) (tl_new g_o23_xb (tl_q q_o23_ls (fun _ e => by cases e) (tl_q q_o23_bs (fun _ e => by cases e) (tl_q q_o23_uV (fun k e => (.inl e)) (tl_q q_o23_uB (fun k e => (.inr (.inl e))) (tl_in (inq (inq in1)) (tl_in (inq (inq (in2 in1))) tl_no))))))))
   replace q_o23_bs := qtr q73 q_o23_bs tq_
   clear tq_
   have tq_ := oD.size
   replace oD := oD.tail o64 (tl_q q_oD_pg (fun _ e => by cases e) (tl_new g_oD_xb (tl_q q_oD_ls (fun _ e => by cases e) (tl_q q_oD_bs (fun _ e => by cases e) (tl_q q_oD_uV (fun k e => (.inl e)) (tl_q q_oD_uB (fun k e => (.inr (.inl e))) (tl_in (inq (inq in1)) (tl_in (inq (inq (in2 in1))) tl_no))))))))
   replace q_oD_bs := qtr q73 q_oD_bs tq_
   clear tq_
   have tq_ := o28.size
   replace o28 := o28.tail o64 (tl_q q_o28_pg (fun _ e => by cases e) (tl_new g_o28_xb (tl_q q_o28_ls (fun k e => (.inl e)) (tl_q q_o28_bs (fun k e => (.inr (.inl e))) (tl_q q_o28_uV (fun k e => (.inr (.inr (.inl e)))) (tl_q q_o28_uB (fun k e => (.inr (.inr (.inr (.inl e))))) (tl_in (inq (inq (inq (inq in1)))) (tl_in (inq (inq (inq (inq (in2 in1))))) tl_no))))))))
   replace q_o28_bs := qtr q73 q_o28_bs tq_
   clear tq_
   have tq_ := oB.size
   replace oB := oB.tail o64 (tl_q q_oB_pg (fun _ e => by cases e) (tl_new g_oB_xb (tl_q q_oB_ls (fun k e => (.inl e)) (tl_q q_oB_bs (fun k e => (.inr (.inl e))) (tl_q q_oB_uV (fun k e => (.inr (.inr (.inl e)))) (tl_q q_oB_uB (fun k e => (.inr (.inr (.inr (.inl e))))) (tl_in (inq (inq (inq (inq in1)))) (tl_in (inq (inq (inq (inq (in2 in1))))) tl_no))))))))
   replace q_oB_bs := qtr q73 q_oB_bs tq_
   clear tq_
   have tq_ := o39.size
   replace o39 := o39.tail o64 (tl_q q_o39_pg (fun k e => (.inl e)) (tl_in (inq in1) (tl_q q_o39_ls (fun k e => (.inr (.inr (.inl e)))) (tl_q q_o39_bs (fun k e => (.inr (.inr (.inr (.inl e))))) (tl_q q_o39_uV (fun k e => (.inr (.inr (.inr (.inr (.inl e)))))) (tl_q q_o39_uB (fun k e => (.inr (.inr (.inr (.inr (.inr (.inl e))))))) (tl_in (inq (in2 (inq (inq (inq (inq in1)))))) (tl_in (inq (in2 (inq (inq (inq (inq (in2 in1))))))) tl_no))))))))
   replace q_o39_bs := qtr q73 q_o39_bs tq_
   clear tq_
   have l_lb_ : (([zb] : List Nat) : List Nat).length = 1 := by simp
   refine wLD ?_
   refine wO (d_append Try.underlying83 Try.underlying83 s_ti67 rfl rfl rfl a27 (SrcV.of_seq (arr_seq a69 l_lb_ (Nat.le_refl _)) (fun _ => rfl)) (by first | omega | (rw [llz]; omega) | (simp; omega) | (rw [llz]; simp; omega)) (by first | omega | (rw [llz]; omega) | (simp; omega) | (rw [llz]; simp; omega)) rfl) ?_
   rintro u74 w75 ⟨bo76, a77, o78, q79⟩
   replace a77 : Ow 67 1 bo76 u74 (lz ++ ([zb] : List Nat)).length ((lz ++ ([zb] : List Nat)).map (eK Q)) w75 := by rw [List.length_append, List.map_append]; exact a77
   replace hF2 := hF2.gr o78 (fun k e => (.inr (.inr (.inr (.inr (.inl e)))))) (xx_or1 (xx_or1 (xx_orq (xx_or1 (xx_re (Fr.of_or q79) (xx_orq (xx_orq (xx_orq (xx_or1 (xx_or1 xx_id))))))))))
   replace hG2 := hG2.gr o78 (fun k e => (.inr (.inr (.inr (.inr (.inl e)))))) (xx_or1 (xx_or1 (xx_orq (xx_or1 (xx_re (Fr.of_or q79) (xx_orq (xx_orq (xx_orq (xx_or1 (xx_or1 xx_id))))))))))
   replace hH := hH.gr o78 (fun k e => (.inr (.inr (.inr (.inr (.inl e)))))) (xx_or1 (xx_or1 (xx_orq (xx_or1 (xx_re (Fr.of_or q79) (xx_orq (xx_orq (xx_orq (xx_or1 (xx_or1 xx_id))))))))))
   have nq2 := nqs nq_ls_gb (Fr.of_or q79) a13.lt
   replace a13 := a13.step o78 (fun e => nq_ls_gb _ e rfl)
   replace nq_ls_gb := nq2
   clear nq2
   have nq2 := nqs nq_ls_cb (Fr.of_or q79) a19.lt
   replace a19 := a19.step o78 (fun e => nq_ls_cb _ e rfl)
   replace nq_ls_cb := nq2
   clear nq2
   have nq2 := nqs nq_ls_xb (Fr.of_or q79) a36.lt
   replace a36 := a36.step o78 (fun e => nq_ls_xb _ e rfl)
   replace nq_ls_xb := nq2
   clear nq2
   have nq2 := nqs nq_ls_zb (Fr.of_or q79) a67.lt
   replace a67 := a67.step o78 (fun e => nq_ls_zb _ e rfl)
   replace nq_ls_zb := nq2
   clear nq2
   have nq2 := nqs nq_ls_lb_ (Fr.of_or q79) a69.lt
   replace a69 := a69.step o78 (fun e => nq_ls_lb_ _ e rfl)
   replace nq_ls_lb_ := nq2
   clear nq2
   have lt2 := a21.lts
   replace a21 := a21.step o78 (fun x hx e => nqq_uB_ls x hx e)
   replace nqq_uB_ls := nqq_step nqq_uB_ls (Fr.of_or q79) lt2
   clear lt2
   have lt2 := a22.lts
   replace a22 := a22.step o78 (fun x hx e => nqq_uV_ls x hx e)
   replace nqq_uV_ls := nqq_step nqq_uV_ls (Fr.of_or q79) lt2
   clear lt2
   have lt2 := a72.lts
   replace a72 := a72.step o78 (fun x hx e => nqq_bs_ls x hx e)
   replace nqq_bs_ls := nqq_step nqq_bs_ls (Fr.of_or q79) lt2
   clear lt2
   have lt2 := a38.lts
   replace a38 := a38.step o78 (fun x hx e => nqq_ls_pg x e hx)
   replace nqq_ls_pg := fun x h1 h2 => nqq_step (fun x h1 h2 => nqq_ls_pg x h2 h1) (Fr.of_or q79) lt2 x h2 h1
   clear lt2
   have tq := oW.size
   replace oW := oW.tailr o78 q_oW_ls (fun _ e => by cases e)
   replace q_oW_ls := qtr (Fr.of_or q79) q_oW_ls tq
   clear tq
   have tq := o23.size
   replace o23 := o23.tailr o78 q_o23_ls (fun _ e => by cases e)
   replace q_o23_ls := qtr (Fr.of_or q79) q_o23_ls tq
   clear tq
   have tq := oD.size
   replace oD := oD.tailr o78 q_oD_ls (fun _ e => by cases e)
   replace q_oD_ls := qtr (Fr.of_or q79) q_oD_ls tq
   clear tq
   have tq := o28.size
   replace o28 := o28.tailr o78 q_o28_ls (fun k e => (.inl e))
   replace q_o28_ls := qtr (Fr.of_or q79) q_o28_ls tq
   clear tq
   have tq := oB.size
   replace oB := oB.tailr o78 q_oB_ls (fun k e => (.inl e))
   replace q_oB_ls := qtr (Fr.of_or q79) q_oB_ls tq
   clear tq
   have tq := o39.size
   replace o39 := o39.tailr o78 q_o39_ls (fun k e => (.inr (.inr (.inl e))))
   replace q_o39_ls := qtr (Fr.of_or q79) q_o39_ls tq
   clear tq
   refine gs ?_
   refine gS ?_
   refine wI (n_add (a := b) (b := 1) rfl rfl oo) ?_
   refine gs ?_
   obtain ⟨bpg, cpg, rpg, epg, eup, hApg⟩ := a38.some_ (by rw [lp]; omega)
   have gpg := (q_oB_pg bpg epg).elim (fun e => by cases e) id
   have g0_bpg := Nat.le_trans hWB gpg
   have g0_zb := g_oW_zb
   rw [hpQ] at lp hH
   refine ⟨_, ⟨b + 1, (F2.addK (d * B + b) bpg cpg zb (fun p => pgs.getD p undef)), vb ++ [u_pg], lz ++ ([zb] : List Nat), bo71, (v62 3), bo76, u74⟩, rfl, kr, ⟨?_, ?_, ?_, ?_, ?_, ?_, ?_, ?_, ?_, ?_, ?_, ?_, ?_, ?_, ?_, ?_, ?_, ?_, ?_⟩, ?_⟩
   ·
    (try dsimp only)
    all_goals (omega)
   ·
    exact hE
   ·
    exact NewM.addK hI2 gpg g_oB_zb hWB hApg.lt a67.lt
   ·
    (try dsimp only)
    all_goals (rw [List.length_append, lvb]; rfl)
   ·
    exact vb_snoc hvb lvb (eup.trans (by rw [lp]))
   ·
    (try dsimp only)
    all_goals (rw [List.length_append, llz]; rfl)
   ·
    exact lz_snoc hlz llz
   ·
    exact newF_addK rfl hF2 (xx_skip (xx_skip (xx_skip (xx_skip (xx_orq (xx_orq (xx_orq (xx_orq (xx_or1 (xx_or1 xx_id)))))))))) hApg lp a67 (nx_orq (fun x hx e => nqq_ls_pg x hx (e ▸ epg)) (nx_orq (fun x hx e => nqq_bs_pg x hx (e ▸ epg)) (nx_orq (fun x hx e => nqq_uV_pg x hx (e ▸ epg)) (nx_orq (fun x hx e => nqq_uB_pg x hx (e ▸ epg)) (nx_or1 (fun e => nq_pg_cb _ epg e.symm) (nx_or1 (fun e => nq_pg_gb _ epg e.symm) (old_ne g0_bpg))))))) (nx_orq nq_ls_zb (nx_orq nq_bs_zb (nx_orq nq_uV_zb (nx_orq nq_uB_zb (nx_or1 n_cb_zb (nx_or1 n_gb_zb (old_ne g0_zb)))))))
   ·
    (try dsimp only)
    all_goals (exact newP_addK hG2 (by intro j _ h; simp only [Or1, Orq] at h ⊢; have h2 := nfB_addK (F := F2) (nd := d) (k := (d * B + b)) (n0 := W.heap.size) (j := j) (p := bpg) (c := cpg) (z := zb) (v := (fun p => pgs.getD p undef)); grind) hH (by intro j _ h; simp only [Or1, Orq, Old] at h ⊢; have h2 := nfB_addK (F := F2) (nd := d) (k := (d * B + b)) (n0 := W.heap.size) (j := j) (p := bpg) (c := cpg) (z := zb) (v := (fun p => pgs.getD p undef)); have h3 := nfB_lt (F := F2) (nd := d) (nk := (d * B + b)) (n0 := W.heap.size) (n1 := w29.heap.size) (j := j) hI2 hWB; grind))
   ·
    exact o28
   ·
    exact a13
   ·
    exact a19
   ·
    exact a21
   ·
    exact a22
   ·
    exact a72
   ·
    exact q_o28_bs
   ·
    exact a77
   ·
    exact q_o28_ls
   ·
    exact nqq_bs_ls
   ·
    (try dsimp only)
    all_goals (omega)
  refine gs ?_
  have hbB : b = B := by omega
  have hX0_ : ∀ k, (Orq bo_ls (Orq bo_bs (Orq bo_uV (Orq bo_uB (Or1 cb (Or1 gb (Old W.heap.size))))))) k → k < w29.heap.size := (lt_orq a27.lts (lt_orq a26.lts (lt_orq a22.lts (lt_orq a21.lts (lt_or1 a19.lt (lt_or1 a13.lt (fun k t => Nat.lt_of_lt_of_le t oW.size)))))))
  have hO0_ : ∀ k, (Orq bo_ls (Orq bo_bs (Orq bo_uV (Orq bo_uB (Or1 cb (Or1 gb No)))))) k → k < w29.heap.size := fun k h => hX0_ k ((orq_mono (orq_mono (orq_mono (orq_mono (or1_mono (or1_mono no_any)))))) k h)
  refine drawnF (O := (Orq bo_ls (Orq bo_bs (Orq bo_uV (Orq bo_uB (Or1 cb (Or1 gb No))))))) (n := 22) [0, 1] [15, 16, 17, 18, 19, 20, 21] (fun i_ => nth [(ptr cb 0), (ptr cb 0)] i_) 15 [0, 0, 0, 4, 12, 28, 0, 64, 252, 0, 512, 1536, 3584, 0, 8192, 32764, 65533, 131069, 262141, 524287, 1048575, 2097151] [(0, 55), (1, 56), (2, 57), (3, 58), (4, 59), (5, 60), (6, 61), (7, 62), (8, 63), (9, 64), (10, 65), (11, 66), (12, 67), (13, 68), (14, 69), (15, 70), (16, 71), (17, 72), (19, 73), (20, 74)] [(0, 55), (1, 56), (2, 57), (3, 58), (4, 59), (5, 60), (6, 61), (7, 62), (8, 63), (9, 64), (10, 65), (11, 66), (12, 67), (13, 68), (14, 69)] [0, 1, 2, 3, 4, 5, 6, 7, 9, 10, 11, 12, 13, 14] [8] (fun i_ => ([RF.is (Orq bo_ls (Orq bo_bs (Orq bo_uV (Orq bo_uB (Or1 cb (Or1 gb No)))))) (ptr cb 0), RF.is (Orq bo_ls (Orq bo_bs (Orq bo_uV (Orq bo_uB (Or1 cb (Or1 gb No)))))) (ptr cb 0), RF.is (Orq bo_ls (Orq bo_bs (Orq bo_uV (Orq bo_uB (Or1 cb (Or1 gb No)))))) (ptr cb 0), RF.is (Orq bo_ls (Orq bo_bs (Orq bo_uV (Orq bo_uB (Or1 cb (Or1 gb No)))))) (ptr cb 0), RF.is (Orq bo_ls (Orq bo_bs (Orq bo_uV (Orq bo_uB (Or1 cb (Or1 gb No)))))) (ptr cb 3), RF.is (Orq bo_ls (Orq bo_bs (Orq bo_uV (Orq bo_uB (Or1 cb (Or1 gb No)))))) u_uB, RF.is (Orq bo_ls (Orq bo_bs (Orq bo_uV (Orq bo_uB (Or1 cb (Or1 gb No)))))) u_bs, RF.mk_ (Orq bo_ls (Orq bo_bs (Orq bo_uV (Orq bo_uB (Or1 cb (Or1 gb No)))))) (fun b_ => (sli b_ 0 1 1)) 82 [u_bs] w29.heap.size hO0_, RF.gr (Orq bo_ls (Orq bo_bs (Orq bo_uV (Orq bo_uB (Or1 cb (Or1 gb No)))))) 82 1 bo_uB (vB ++ [u_bs]).length ((vB ++ [u_bs]).map eV) w29.heap.size, RF.is (Orq bo_ls (Orq bo_bs (Orq bo_uV (Orq bo_uB (Or1 cb (Or1 gb No)))))) (ptr cb 0), RF.is (Orq bo_ls (Orq bo_bs (Orq bo_uV (Orq bo_uB (Or1 cb (Or1 gb No)))))) (ptr cb 0), RF.is (Orq bo_ls (Orq bo_bs (Orq bo_uV (Orq bo_uB (Or1 cb (Or1 gb No)))))) (ptr cb 4), RF.is (Orq bo_ls (Orq bo_bs (Orq bo_uV (Orq bo_uB (Or1 cb (Or1 gb No)))))) u_uV, RF.is (Orq bo_ls (Orq bo_bs (Orq bo_uV (Orq bo_uB (Or1 cb (Or1 gb No)))))) u_ls, RF.mk_ (Orq bo_ls (Orq bo_bs (Orq bo_uV (Orq bo_uB (Or1 cb (Or1 gb No)))))) (fun b_ => (sli b_ 0 1 1)) 83 [u_ls] w29.heap.size hO0_] : List (RF (Orq bo_ls (Orq bo_bs (Orq bo_uV (Orq bo_uB (Or1 cb (Or1 gb No)))))))).getD i_ (RF.any (Orq bo_ls (Orq bo_bs (Orq bo_uV (Orq bo_uB (Or1 cb (Or1 gb No)))))))) (fun k_ w_ => match k_ with | 0 => Arr 23 gb [(eN D), (eN B), (eN Q)] w_ ∧ Arr 81 cb [(eN D), (eN B), (eN Q), u_uB, u_uV, (eN 0), vN, vF, (eN 0), (eN 0)] w_ ∧ Ow 82 1 bo_uB u_uB (vB).length ((vB).map eV) w_ ∧ Ow 83 1 bo_uV u_uV (vV).length ((vV).map eV) w_ ∧ Ow 85 4 bo_bs u_bs (vb).length ((vb).flatMap eR) w_ ∧ Ow 67 1 bo_ls u_ls (lz).length ((lz).map (eK Q)) w_ | _ => Arr 23 gb [(eN D), (eN B), (eN Q)] w_ ∧ Arr 81 cb [(eN D), (eN B), (eN Q), u_uB, u_uV, (eN 0), vN, vF, (eN 0), (eN 0)] w_ ∧ True ∧ Ow 83 1 bo_uV u_uV (vV).length ((vV).map eV) w_ ∧ Ow 85 4 bo_bs u_bs (vb).length ((vb).flatMap eR) w_ ∧ Ow 67 1 bo_ls u_ls (lz).length ((lz).map (eK Q)) w_) (fun v80 => ([(ag3 D B Q), ub, (ptr gb 0), undef, (Value.pointer none), (eN 0), (ptr cb 0), (eN d), u_bs, u_ls, (eN b), (z 11), (z 12), undef, (ag3 D B Q), vT, vF, (ag3 D B Q), (Value.agg #[(eN D), (eN B), (eN Q), vN, vN, (eN 0), vN, vF, (eN 0), (eN 0)]), (ptr cb 0), (eN d), (ptr gb 0), (eN D), (Value.bool (decide (d < D))), (z 24), (z 25), (eN b), (ptr gb 1), (eN B), (Value.bool (decide (b < B)))] ++ (zs z 30 25 ++ [(v80 0), (v80 1), (v80 2), (v80 3), (v80 4), (v80 5), (v80 6), (v80 7), (v80 8), (v80 9), (v80 10), (v80 11), (v80 12), (v80 13), (v80 14), (v80 15), (v80 16), (v80 17), (v80 19), (v80 20)] ++ (us 38)))) (fun v80 => ([(ag3 D B Q), ub, (ptr gb 0), undef, (Value.pointer none), (eN 0), (ptr cb 0), (eN d), u_bs, u_ls, (eN b), (z 11), (z 12), undef, (ag3 D B Q), vT, vF, (ag3 D B Q), (Value.agg #[(eN D), (eN B), (eN Q), vN, vN, (eN 0), vN, vF, (eN 0), (eN 0)]), (ptr cb 0), (eN d), (ptr gb 0), (eN D), (Value.bool (decide (d < D))), (z 24), (z 25), (eN b), (ptr gb 1), (eN B), (Value.bool (decide (b < B)))] ++ (zs z 30 25 ++ [(v80 0), (v80 1), (v80 2), (v80 3), (v80 4), (v80 5), (v80 6), (v80 7), (v80 8), (v80 9), (v80 10), (v80 11), (v80 12), (v80 13), (v80 14)] ++ (zs z 70 5 ++ (us 38))))) s_mx kr rfl (by decide) (by rfl) kr kr kr kr (fun l2_ w_ hl_ hn_ => fl_cons (fl_move (t := 6) hn_ kr (by rfl) (by rfl)) (fl_cons (fl_move (t := 6) hn_ kr (by rfl) (by rfl)) (fl_nil))) (fl_cons (by rfl) (fl_cons (by rfl) (fl_nil))) kr kr (by rfl) (fun v_ => by kernel_rfl) (fun v_ => by kernel_rfl) (fun k_ => match k_ with | 0 => fun w_ w2_ h ho => by obtain ⟨r_a13, r_a19, r_a21, r_a22, r_a26, r_a27⟩ := h; exact ⟨r_a13.step0 ho, r_a19.step0 ho, r_a21.step0 ho, r_a22.step0 ho, r_a26.step0 ho, r_a27.step0 ho⟩ | (_ + 1) => fun w_ w2_ h ho => by obtain ⟨r_a13, r_a19, r_a21, r_a22, r_a26, r_a27⟩ := h; exact ⟨r_a13.step0 ho, r_a19.step0 ho, trivial, r_a22.step0 ho, r_a26.step0 ho, r_a27.step0 ho⟩) ⟨a13, a19, a21, a22, a26, a27⟩ ?_ ?_ ?_
  ·
   refine ls_cons ?_ ?_
   ·
    intro v80 lo hi w_ k_ hO hd _ _ hk_ _ hR hold
    obtain ⟨r_a13, r_a19, r_a21, r_a22, r_a26, r_a27⟩ := (show Arr 23 gb [(eN D), (eN B), (eN Q)] w_ ∧ Arr 81 cb [(eN D), (eN B), (eN Q), u_uB, u_uV, (eN 0), vN, vF, (eN 0), (eN 0)] w_ ∧ True ∧ Ow 83 1 bo_uV u_uV (vV).length ((vV).map eV) w_ ∧ Ow 85 4 bo_bs u_bs (vb).length ((vb).flatMap eR) w_ ∧ Ow 67 1 bo_ls u_ls (lz).length ((lz).map (eK Q)) w_ from by match k_, hR with | 0, h_ => exact (by obtain ⟨r_a13, r_a19, r_a21, r_a22, r_a26, r_a27⟩ := h_; exact ⟨r_a13, r_a19, trivial, r_a22, r_a26, r_a27⟩) | (_ + 1), h_ => exact h_)
    clear hd hold
    refine ⟨_, rfl, gd rfl ?_⟩
    exact Does.is (d_move rfl)
   refine ls_cons ?_ ?_
   ·
    intro v80 lo hi w_ k_ hO hd _ _ hk_ _ hR hold
    obtain ⟨r_a13, r_a19, r_a21, r_a22, r_a26, r_a27⟩ := (show Arr 23 gb [(eN D), (eN B), (eN Q)] w_ ∧ Arr 81 cb [(eN D), (eN B), (eN Q), u_uB, u_uV, (eN 0), vN, vF, (eN 0), (eN 0)] w_ ∧ True ∧ Ow 83 1 bo_uV u_uV (vV).length ((vV).map eV) w_ ∧ Ow 85 4 bo_bs u_bs (vb).length ((vb).flatMap eR) w_ ∧ Ow 67 1 bo_ls u_ls (lz).length ((lz).map (eK Q)) w_ from by match k_, hR with | 0, h_ => exact (by obtain ⟨r_a13, r_a19, r_a21, r_a22, r_a26, r_a27⟩ := h_; exact ⟨r_a13, r_a19, trivial, r_a22, r_a26, r_a27⟩) | (_ + 1), h_ => exact h_)
    clear hd hold
    refine ⟨_, rfl, gd rfl ?_⟩
    exact Does.is (d_move rfl)
   refine ls_cons ?_ ?_
   ·
    intro v80 lo hi w_ k_ hO hd _ _ hk_ _ hR hold
    obtain rfl : k_ = 0 := Nat.le_zero.1 (hk_ 0 (by decide) kr)
    obtain ⟨r_a13, r_a19, r_a21, r_a22, r_a26, r_a27⟩ := hR
    clear hd hold
    refine ⟨_, rfl, gd rfl ?_⟩
    exact Does.is (d_move rfl)
   refine ls_cons ?_ ?_
   ·
    intro v80 lo hi w_ k_ hO hd _ _ hk_ _ hR hold
    obtain rfl : k_ = 0 := Nat.le_zero.1 (hk_ 0 (by decide) kr)
    obtain ⟨r_a13, r_a19, r_a21, r_a22, r_a26, r_a27⟩ := hR
    have e2 : v80 2 = (ptr cb 0) := hd 2 kr
    clear hd hold
    refine ⟨_, rfl, gd rfl ?_⟩
    exact Does.is (d_nilCheck (b := cb) (o := 0) e2)
   refine ls_cons ?_ ?_
   ·
    intro v80 lo hi w_ k_ hO hd _ _ hk_ _ hR hold
    obtain rfl : k_ = 0 := Nat.le_zero.1 (hk_ 0 (by decide) kr)
    obtain ⟨r_a13, r_a19, r_a21, r_a22, r_a26, r_a27⟩ := hR
    have e3 : v80 3 = (ptr cb 0) := hd 3 kr
    clear hd hold
    refine ⟨_, rfl, gd rfl ?_⟩
    exact Does.is (d_fieldAddr (j := 3) Try.underlying81 rfl s_ti78 (by decide) e3 rfl)
   refine ls_cons ?_ ?_
   ·
    intro v80 lo hi w_ k_ hO hd _ _ hk_ _ hR hold
    obtain rfl : k_ = 0 := Nat.le_zero.1 (hk_ 0 (by decide) kr)
    obtain ⟨r_a13, r_a19, r_a21, r_a22, r_a26, r_a27⟩ := hR
    have e4 : v80 4 = (ptr cb 3) := hd 4 kr
    clear hd hold
    refine ⟨_, rfl, gd rfl ?_⟩
    exact Does.is (d_load (v := u_uB) ⟨_, Try.underlying78, rfl⟩ e4 r_a19 rfl)
   refine ls_cons ?_ ?_
   ·
    intro v80 lo hi w_ k_ hO hd _ _ hk_ _ hR hold
    obtain rfl : k_ = 0 := Nat.le_zero.1 (hk_ 0 (by decide) kr)
    obtain ⟨r_a13, r_a19, r_a21, r_a22, r_a26, r_a27⟩ := hR
    clear hd hold
    refine ⟨_, rfl, gd rfl ?_⟩
    exact Does.is (d_move rfl)
   refine ls_cons ?_ ?_
   ·
    intro v80 lo hi w_ k_ hO hd _ _ hk_ _ hR hold
    obtain rfl : k_ = 0 := Nat.le_zero.1 (hk_ 0 (by decide) kr)
    obtain ⟨r_a13, r_a19, r_a21, r_a22, r_a26, r_a27⟩ := hR
    have e6 : v80 6 = u_bs := hd 6 kr
    clear hd hold
    refine ⟨_, rfl, gd rfl ?_⟩
    refine Does.mono (d_buildL (cs := [u_bs]) Try.underlying78 s_ti82 rfl (nb rfl) (parts_cons (vs := [u_bs]) (cells_of (v := u_bs) e6 (Ow.cells r_a26)) parts_nil) rfl) (fun u w' h => by obtain ⟨b_, rfl, hb_, hA_, hO_⟩ := h; exact ⟨⟨b_, rfl, hA_, Nat.le_trans hO.size hb_⟩, hO_⟩)
   refine ls_cons ?_ ?_
   ·
    intro v80 lo hi w_ k_ hO hd _ _ hk_ _ hR hold
    obtain ⟨r_a13, r_a19, r_a21, r_a22, r_a26, r_a27⟩ := (show Arr 23 gb [(eN D), (eN B), (eN Q)] w_ ∧ Arr 81 cb [(eN D), (eN B), (eN Q), u_uB, u_uV, (eN 0), vN, vF, (eN 0), (eN 0)] w_ ∧ True ∧ Ow 83 1 bo_uV u_uV (vV).length ((vV).map eV) w_ ∧ Ow 85 4 bo_bs u_bs (vb).length ((vb).flatMap eR) w_ ∧ Ow 67 1 bo_ls u_ls (lz).length ((lz).map (eK Q)) w_ from by match k_, hR with | 0, h_ => exact (by obtain ⟨r_a13, r_a19, r_a21, r_a22, r_a26, r_a27⟩ := h_; exact ⟨r_a13, r_a19, trivial, r_a22, r_a26, r_a27⟩) | (_ + 1), h_ => exact h_)
    clear hd hold
    refine ⟨_, rfl, gd rfl ?_⟩
    exact Does.is (d_move rfl)
   refine ls_cons ?_ ?_
   ·
    intro v80 lo hi w_ k_ hO hd _ _ hk_ _ hR hold
    obtain ⟨r_a13, r_a19, r_a21, r_a22, r_a26, r_a27⟩ := (show Arr 23 gb [(eN D), (eN B), (eN Q)] w_ ∧ Arr 81 cb [(eN D), (eN B), (eN Q), u_uB, u_uV, (eN 0), vN, vF, (eN 0), (eN 0)] w_ ∧ True ∧ Ow 83 1 bo_uV u_uV (vV).length ((vV).map eV) w_ ∧ Ow 85 4 bo_bs u_bs (vb).length ((vb).flatMap eR) w_ ∧ Ow 67 1 bo_ls u_ls (lz).length ((lz).map (eK Q)) w_ from by match k_, hR with | 0, h_ => exact (by obtain ⟨r_a13, r_a19, r_a21, r_a22, r_a26, r_a27⟩ := h_; exact ⟨r_a13, r_a19, trivial, r_a22, r_a26, r_a27⟩) | (_ + 1), h_ => exact h_)
    have e9 : v80 9 = (ptr cb 0) := hd 9 kr
    clear hd hold
    refine ⟨_, rfl, gd rfl ?_⟩
    exact Does.is (d_nilCheck (b := cb) (o := 0) e9)
   refine ls_cons ?_ ?_
   ·
    intro v80 lo hi w_ k_ hO hd _ _ hk_ _ hR hold
    obtain ⟨r_a13, r_a19, r_a21, r_a22, r_a26, r_a27⟩ := (show Arr 23 gb [(eN D), (eN B), (eN Q)] w_ ∧ Arr 81 cb [(eN D), (eN B), (eN Q), u_uB, u_uV, (eN 0), vN, vF, (eN 0), (eN 0)] w_ ∧ True ∧ Ow 83 1 bo_uV u_uV (vV).length ((vV).map eV) w_ ∧ Ow 85 4 bo_bs u_bs (vb).length ((vb).flatMap eR) w_ ∧ Ow 67 1 bo_ls u_ls (lz).length ((lz).map (eK Q)) w_ from by match k_, hR with | 0, h_ => exact (by obtain ⟨r_a13, r_a19, r_a21, r_a22, r_a26, r_a27⟩ := h_; exact ⟨r_a13, r_a19, trivial, r_a22, r_a26, r_a27⟩) | (_ + 1), h_ => exact h_)
    have e10 : v80 10 = (ptr cb 0) := hd 10 kr
    clear hd hold
    refine ⟨_, rfl, gd rfl ?_⟩
    exact Does.is (d_fieldAddr (j := 4) Try.underlying81 rfl s_ti79 (by decide) e10 rfl)
   refine ls_cons ?_ ?_
   ·
    intro v80 lo hi w_ k_ hO hd _ _ hk_ _ hR hold
    obtain ⟨r_a13, r_a19, r_a21, r_a22, r_a26, r_a27⟩ := (show Arr 23 gb [(eN D), (eN B), (eN Q)] w_ ∧ Arr 81 cb [(eN D), (eN B), (eN Q), u_uB, u_uV, (eN 0), vN, vF, (eN 0), (eN 0)] w_ ∧ True ∧ Ow 83 1 bo_uV u_uV (vV).length ((vV).map eV) w_ ∧ Ow 85 4 bo_bs u_bs (vb).length ((vb).flatMap eR) w_ ∧ Ow 67 1 bo_ls u_ls (lz).length ((lz).map (eK Q)) w_ from by match k_, hR with | 0, h_ => exact (by obtain ⟨r_a13, r_a19, r_a21, r_a22, r_a26, r_a27⟩ := h_; exact ⟨r_a13, r_a19, trivial, r_a22, r_a26, r_a27⟩) | (_ + 1), h_ => exact h_)
    have e11 : v80 11 = (ptr cb 4) := hd 11 kr
    clear hd hold
    refine ⟨_, rfl, gd rfl ?_⟩
    exact Does.is (d_load (v := u_uV) ⟨_, Try.underlying79, rfl⟩ e11 r_a19 rfl)
   refine ls_cons ?_ ?_
   ·
    intro v80 lo hi w_ k_ hO hd _ _ hk_ _ hR hold
    obtain ⟨r_a13, r_a19, r_a21, r_a22, r_a26, r_a27⟩ := (show Arr 23 gb [(eN D), (eN B), (eN Q)] w_ ∧ Arr 81 cb [(eN D), (eN B), (eN Q), u_uB, u_uV, (eN 0), vN, vF, (eN 0), (eN 0)] w_ ∧ True ∧ Ow 83 1 bo_uV u_uV (vV).length ((vV).map eV) w_ ∧ Ow 85 4 bo_bs u_bs (vb).length ((vb).flatMap eR) w_ ∧ Ow 67 1 bo_ls u_ls (lz).length ((lz).map (eK Q)) w_ from by match k_, hR with | 0, h_ => exact (by obtain ⟨r_a13, r_a19, r_a21, r_a22, r_a26, r_a27⟩ := h_; exact ⟨r_a13, r_a19, trivial, r_a22, r_a26, r_a27⟩) | (_ + 1), h_ => exact h_)
    clear hd hold
    refine ⟨_, rfl, gd rfl ?_⟩
    exact Does.is (d_move rfl)
   refine ls_cons ?_ ?_
   ·
    intro v80 lo hi w_ k_ hO hd _ _ hk_ _ hR hold
    obtain ⟨r_a13, r_a19, r_a21, r_a22, r_a26, r_a27⟩ := (show Arr 23 gb [(eN D), (eN B), (eN Q)] w_ ∧ Arr 81 cb [(eN D), (eN B), (eN Q), u_uB, u_uV, (eN 0), vN, vF, (eN 0), (eN 0)] w_ ∧ True ∧ Ow 83 1 bo_uV u_uV (vV).length ((vV).map eV) w_ ∧ Ow 85 4 bo_bs u_bs (vb).length ((vb).flatMap eR) w_ ∧ Ow 67 1 bo_ls u_ls (lz).length ((lz).map (eK Q)) w_ from by match k_, hR with | 0, h_ => exact (by obtain ⟨r_a13, r_a19, r_a21, r_a22, r_a26, r_a27⟩ := h_; exact ⟨r_a13, r_a19, trivial, r_a22, r_a26, r_a27⟩) | (_ + 1), h_ => exact h_)
    have e13 : v80 13 = u_ls := hd 13 kr
    clear hd hold
    refine ⟨_, rfl, gd rfl ?_⟩
    refine Does.mono (d_buildL (cs := [u_ls]) Try.underlying79 s_ti83 rfl (nb rfl) (parts_cons (vs := [u_ls]) (cells_of (v := u_ls) e13 (Ow.cells r_a27)) parts_nil) rfl) (fun u w' h => by obtain ⟨b_, rfl, hb_, hA_, hO_⟩ := h; exact ⟨⟨b_, rfl, hA_, Nat.le_trans hO.size hb_⟩, hO_⟩)
   exact ls_nil
  ·
   refine ms_one ?_
   ·
    refine ⟨by kernel_rfl, ?_⟩
    intro v80 lo hi w_ hO hd _ hR hold
    obtain ⟨r_a13, r_a19, r_a21, r_a22, r_a26, r_a27⟩ := hR
    have e5 : v80 5 = u_uB := hd 5 kr
    obtain ⟨mb7, me7, ma7, mf7⟩ : ∃ b_, v80 7 = (fun b_ => (sli b_ 0 1 1)) b_ ∧ Arr 82 b_ [u_bs] w_ ∧ w29.heap.size ≤ b_ := hd 7 kr
    clear hd hold
    refine ⟨_, rfl, gd rfl ?_⟩
    refine Does.mono (d_append Try.underlying78 Try.underlying78 s_ti82 rfl e5 me7 r_a21 (SrcV.of_arr (n := 1) (sz := 1) ma7 rfl (fun v_ hv_ => by rw [List.mem_singleton.1 (show v_ ∈ [u_bs] from hv_)]; exact (Ow.one r_a26))) (by first | omega | (rw [lU]; omega) | (simp; omega) | (rw [lU]; simp; omega)) (by first | omega | (rw [lU]; omega) | (simp; omega) | (rw [lU]; simp; omega)) rfl) (fun u w' h => by obtain ⟨bo_, h1_, h2_, h3_⟩ := h; exact ⟨⟨bo_, (by rw [List.length_append, List.map_append]; exact h1_ : Ow 82 1 bo_ u (vB ++ [u_bs]).length ((vB ++ [u_bs]).map eV) w'), qtr2 (Fr.of_or h3_) Fr.same hO.size⟩, ⟨r_a13.step h2_ (fun e => nq_uB_gb _ e rfl), r_a19.step h2_ (fun e => nq_uB_cb _ e rfl), trivial, r_a22.step h2_ (fun x hx e => nqq_uB_uV x e hx), r_a26.step h2_ (fun x hx e => nqq_uB_bs x e hx), r_a27.step h2_ (fun x hx e => nqq_uB_ls x e hx)⟩, h2_.mono (fun k _ (e : bo_uB = some k) => (.inr (.inr (.inr (.inl e)))))⟩)
  intro v80 lo_ hi_ w81 o82 hd hR
  have e0 : v80 0 = (ptr cb 0) := hd 0 (by decide)
  have e1 : v80 1 = (ptr cb 0) := hd 1 (by decide)
  have e2 : v80 2 = (ptr cb 0) := hd 2 (by decide)
  have e3 : v80 3 = (ptr cb 0) := hd 3 (by decide)
  have e4 : v80 4 = (ptr cb 3) := hd 4 (by decide)
  have e5 : v80 5 = u_uB := hd 5 (by decide)
  have e6 : v80 6 = u_bs := hd 6 (by decide)
  have e9 : v80 9 = (ptr cb 0) := hd 9 (by decide)
  have e10 : v80 10 = (ptr cb 0) := hd 10 (by decide)
  have e11 : v80 11 = (ptr cb 4) := hd 11 (by decide)
  have e12 : v80 12 = u_uV := hd 12 (by decide)
  have e13 : v80 13 = u_ls := hd 13 (by decide)
  obtain ⟨nb_, e7, a83, g84⟩ : ∃ b_, v80 7 = (fun b_ => (sli b_ 0 1 1)) b_ ∧ Arr 82 b_ [u_bs] w81 ∧ w29.heap.size ≤ b_ := hd 7 (by decide)
  dsimp only at e7
  obtain ⟨mb_, e14, a85, g86⟩ : ∃ b_, v80 14 = (fun b_ => (sli b_ 0 1 1)) b_ ∧ Arr 83 b_ [u_ls] w81 ∧ w29.heap.size ≤ b_ := hd 14 (by decide)
  dsimp only at e14
  have n_gb_mb_ : gb ≠ mb_ := a13.ne g86
  have n_cb_mb_ : cb ≠ mb_ := a19.ne g86
  have nq_uB_mb_ : ∀ x, bo_uB = some x → ¬ x = mb_ := fun x hx e => by have := a21.lts x hx; omega
  have nq_uV_mb_ : ∀ x, bo_uV = some x → ¬ x = mb_ := fun x hx e => by have := a22.lts x hx; omega
  have nq_bs_mb_ : ∀ x, bo_bs = some x → ¬ x = mb_ := fun x hx e => by have := a26.lts x hx; omega
  have nq_ls_mb_ : ∀ x, bo_ls = some x → ¬ x = mb_ := fun x hx e => by have := a27.lts x hx; omega
  have g_oW_mb_ : W.heap.size ≤ mb_ := Nat.le_trans oW.size g86
  have g_o23_mb_ : w17.heap.size ≤ mb_ := Nat.le_trans o23.size g86
  have g_oD_mb_ : w24.heap.size ≤ mb_ := Nat.le_trans oD.size g86
  have g_o28_mb_ : w24.heap.size ≤ mb_ := Nat.le_trans o28.size g86
  have g_oB_mb_ : w29.heap.size ≤ mb_ := Nat.le_trans oB.size g86
  obtain ⟨bo87, a88, q89⟩ : ∃ bo_, Ow 82 1 bo_ (v80 8) (vB ++ [u_bs]).length ((vB ++ [u_bs]).map eV) w81 ∧ Fr bo_ bo_uB w29.heap.size := hd 8 (by decide)
  replace nq_uB_gb := nqs nq_uB_gb q89 a13.lt
  replace nq_uB_cb := nqs nq_uB_cb q89 a19.lt
  replace nq_uB_mb_ := ow_ne a88 a85 (by decide)
  replace nqq_uB_uV := fun x h1 h2 => nqq_step (fun x h1 h2 => nqq_uB_uV x h2 h1) q89 a22.lts x h2 h1
  replace nqq_uB_bs := fun x h1 h2 => nqq_step (fun x h1 h2 => nqq_uB_bs x h2 h1) q89 a26.lts x h2 h1
  replace nqq_uB_ls := fun x h1 h2 => nqq_step (fun x h1 h2 => nqq_uB_ls x h2 h1) q89 a27.lts x h2 h1
  clear hd lo_ hi_
  refine wS.flat ([(ag3 D B Q), ub, (ptr gb 0), undef, (Value.pointer none), (eN 0), (ptr cb 0), (eN d), u_bs, u_ls, (eN b), (z 11), (z 12), undef, (ag3 D B Q), vT, vF, (ag3 D B Q), (Value.agg #[(eN D), (eN B), (eN Q), vN, vN, (eN 0), vN, vF, (eN 0), (eN 0)]), (ptr cb 0), (eN d), (ptr gb 0), (eN D), (Value.bool (decide (d < D))), (z 24), (z 25), (eN b), (ptr gb 1), (eN B), (Value.bool (decide (b < B)))] ++ (zs z 30 25 ++ [(ptr cb 0), (ptr cb 0), (ptr cb 0), (ptr cb 0), (ptr cb 3), u_uB, u_bs, (sli nb_ 0 1 1), (v80 8), (ptr cb 0), (ptr cb 0), (ptr cb 4), u_uV, u_ls, (sli mb_ 0 1 1)] ++ (zs z 70 5 ++ (us 38)))) (by rw [e0, e1, e2, e3, e4, e5, e6, e9, e10, e11, e12, e13, e7, e14] <;> rfl) ?_
  clear e0 e1 e2 e3 e4 e5 e6 e9 e10 e11 e12 e13 e7 e14
  replace hF2 : Ps (Or1 mb_ (Orq bo_ls (Orq bo_bs (Orq bo_uV (Orq bo87 (Or1 cb (Or1 gb (Old W.heap.size)))))))) _ w81 := (((hF2.less (Y := Orq bo87 (Orq bo_ls (Orq bo_bs (Orq bo_uV (Orq bo_uB (Or1 cb (Or1 gb (Old W.heap.size)))))))) (xx_fr q89 (fun k e => (.inr (.inr (.inr (.inl e))))))).less (Y := (Or1 mb_ (Orq bo87 (Orq bo_ls (Orq bo_bs (Orq bo_uV (Orq bo_uB (Or1 cb (Or1 gb (Old W.heap.size)))))))))) (xx_new g86 xx_id)).step o82 (or1_skip (orq_skip (orq_mono (orq_mono (orq_mono (orq_mono (or1_mono (or1_mono no_any))))))))).less (xs_end (xs_mk' (xs_q (xs_q (xs_q (xs_row xs_id))))))
  replace hG2 : Ps (Or1 mb_ (Orq bo_ls (Orq bo_bs (Orq bo_uV (Orq bo87 (Or1 cb (Or1 gb (NF.B F2 d (d * B + b) W.heap.size)))))))) _ w81 := (((hG2.less (Y := Orq bo87 (Orq bo_ls (Orq bo_bs (Orq bo_uV (Orq bo_uB (Or1 cb (Or1 gb (NF.B F2 d (d * B + b) W.heap.size)))))))) (xx_fr q89 (fun k e => (.inr (.inr (.inr (.inl e))))))).less (Y := (Or1 mb_ (Orq bo87 (Orq bo_ls (Orq bo_bs (Orq bo_uV (Orq bo_uB (Or1 cb (Or1 gb (NF.B F2 d (d * B + b) W.heap.size)))))))))) (xx_new g86 xx_id)).step o82 (or1_skip (orq_skip (orq_mono (orq_mono (orq_mono (orq_mono (or1_mono (or1_mono no_any))))))))).less (xs_end (xs_mk' (xs_q (xs_q (xs_q (xs_row xs_id))))))
  obtain ⟨xr_a13, xr_a19, xr_a21, xr_a22, xr_a26, xr_a27⟩ := hR
  replace a13 : Arr 23 gb [(eN D), (eN B), (eN Q)] w81 := xr_a13
  replace a19 : Arr 81 cb [(eN D), (eN B), (eN Q), u_uB, u_uV, (eN 0), vN, vF, (eN 0), (eN 0)] w81 := xr_a19
  replace a22 : Ow 83 1 bo_uV u_uV (vV).length ((vV).map eV) w81 := xr_a22
  replace a26 : Ow 85 4 bo_bs u_bs (vb).length ((vb).flatMap eR) w81 := xr_a26
  replace a27 : Ow 67 1 bo_ls u_ls (lz).length ((lz).map (eK Q)) w81 := xr_a27
  clear xr_a13 xr_a19 xr_a21 xr_a22 xr_a26 xr_a27
  have tq_ := oW.size
  replace oW := oW.tail o82 (tl_q q_oW_ls (fun _ e => by cases e) (tl_q q_oW_bs (fun _ e => by cases e) (tl_q q_oW_uV (fun _ e => by cases e) (tl_q q_oW_uB (fun _ e => by cases e) (tl_new g_oW_cb (tl_new g_oW_gb tl_no))))))
  replace q_oW_uB := qtr q89 q_oW_uB tq_
  clear tq_
  have tq_ := o23.size
  replace o23 := o23.tail o82 (tl_q q_o23_ls (fun _ e => by cases e) (tl_q q_o23_bs (fun _ e => by cases e) (tl_q q_o23_uV (fun k e => (.inl e)) (tl_q q_o23_uB (fun k e => (.inr (.inl e))) (tl_in (inq (inq in1)) (tl_in (inq (inq (in2 in1))) tl_no))))))
  replace q_o23_uB := qtr q89 q_o23_uB tq_
  clear tq_
  have tq_ := oD.size
  replace oD := oD.tail o82 (tl_q q_oD_ls (fun _ e => by cases e) (tl_q q_oD_bs (fun _ e => by cases e) (tl_q q_oD_uV (fun k e => (.inl e)) (tl_q q_oD_uB (fun k e => (.inr (.inl e))) (tl_in (inq (inq in1)) (tl_in (inq (inq (in2 in1))) tl_no))))))
  replace q_oD_uB := qtr q89 q_oD_uB tq_
  clear tq_
  have tq_ := o28.size
  replace o28 := o28.tail o82 (tl_q q_o28_ls (fun k e => (.inl e)) (tl_q q_o28_bs (fun k e => (.inr (.inl e))) (tl_q q_o28_uV (fun k e => (.inr (.inr (.inl e)))) (tl_q q_o28_uB (fun k e => (.inr (.inr (.inr (.inl e))))) (tl_in (inq (inq (inq (inq in1)))) (tl_in (inq (inq (inq (inq (in2 in1))))) tl_no))))))
  replace q_o28_uB := qtr q89 q_o28_uB tq_
  clear tq_
  have tq_ := oB.size
  replace oB := oB.tail o82 (tl_q q_oB_ls (fun k e => (.inl e)) (tl_q q_oB_bs (fun k e => (.inr (.inl e))) (tl_q q_oB_uV (fun k e => (.inr (.inr (.inl e)))) (tl_q q_oB_uB (fun k e => (.inr (.inr (.inr (.inl e))))) (tl_in (inq (inq (inq (inq in1)))) (tl_in (inq (inq (inq (inq (in2 in1))))) tl_no))))))
  replace q_oB_uB := qtr q89 q_oB_uB tq_
  clear tq_
  refine wS.op rfl rfl (d_append Try.underlying79 Try.underlying79 s_ti83 rfl rfl rfl a22 (SrcV.of_arr (n := 1) (sz := 1) a85 rfl (fun v_ hv_ => by rw [List.mem_singleton.1 (show v_ ∈ [u_ls] from hv_)]; exact (Ow.one a27))) (by first | omega | (rw [lV]; omega) | (simp; omega) | (rw [lV]; simp; omega)) (by first | omega | (rw [lV]; omega) | (simp; omega) | (rw [lV]; simp; omega)) rfl) ?_
  rintro u90 w91 ⟨bo92, a93, o94, q95⟩
  replace a93 : Ow 83 1 bo92 u90 (vV ++ [u_ls]).length ((vV ++ [u_ls]).map eV) w91 := by rw [List.length_append, List.map_append]; exact a93
  replace hF2 := hF2.gr o94 (fun k e => (.inr (.inr (.inr (.inl e))))) (xx_or1 (xx_orq (xx_orq (xx_re (Fr.of_or q95) (xx_orq (xx_or1 (xx_or1 xx_id)))))))
  replace hG2 := hG2.gr o94 (fun k e => (.inr (.inr (.inr (.inl e))))) (xx_or1 (xx_orq (xx_orq (xx_re (Fr.of_or q95) (xx_orq (xx_or1 (xx_or1 xx_id)))))))
  have nq2 := nqs nq_uV_gb (Fr.of_or q95) a13.lt
  replace a13 := a13.step o94 (fun e => nq_uV_gb _ e rfl)
  replace nq_uV_gb := nq2
  clear nq2
  have nq2 := nqs nq_uV_cb (Fr.of_or q95) a19.lt
  replace a19 := a19.step o94 (fun e => nq_uV_cb _ e rfl)
  replace nq_uV_cb := nq2
  clear nq2
  have nq2 := nqs nq_uV_mb_ (Fr.of_or q95) a85.lt
  replace a85 := a85.step o94 (fun e => nq_uV_mb_ _ e rfl)
  replace nq_uV_mb_ := nq2
  clear nq2
  have lt2 := a88.lts
  replace a88 := a88.step o94 (fun x hx e => nqq_uB_uV x hx e)
  replace nqq_uB_uV := nqq_step nqq_uB_uV (Fr.of_or q95) lt2
  clear lt2
  have lt2 := a26.lts
  replace a26 := a26.step o94 (fun x hx e => nqq_uV_bs x e hx)
  replace nqq_uV_bs := fun x h1 h2 => nqq_step (fun x h1 h2 => nqq_uV_bs x h2 h1) (Fr.of_or q95) lt2 x h2 h1
  clear lt2
  have lt2 := a27.lts
  replace a27 := a27.step o94 (fun x hx e => nqq_uV_ls x e hx)
  replace nqq_uV_ls := fun x h1 h2 => nqq_step (fun x h1 h2 => nqq_uV_ls x h2 h1) (Fr.of_or q95) lt2 x h2 h1
  clear lt2
  have tq := oW.size
  replace oW := oW.tailr o94 q_oW_uV (fun _ e => by cases e)
  replace q_oW_uV := qtr (Fr.of_or q95) q_oW_uV tq
  clear tq
  have tq := o23.size
  replace o23 := o23.tailr o94 q_o23_uV (fun k e => (.inl e))
  replace q_o23_uV := qtr (Fr.of_or q95) q_o23_uV tq
  clear tq
  have tq := oD.size
  replace oD := oD.tailr o94 q_oD_uV (fun k e => (.inl e))
  replace q_oD_uV := qtr (Fr.of_or q95) q_oD_uV tq
  clear tq
  have tq := o28.size
  replace o28 := o28.tailr o94 q_o28_uV (fun k e => (.inr (.inr (.inl e))))
  replace q_o28_uV := qtr (Fr.of_or q95) q_o28_uV tq
  clear tq
  have tq := oB.size
  replace oB := oB.tailr o94 q_oB_uV (fun k e => (.inr (.inr (.inl e))))
  replace q_oB_uV := qtr (Fr.of_or q95) q_oB_uV tq
  clear tq
  refine wS.is rfl rfl (d_nilCheck (b := cb) (o := 0) rfl) ?_
  refine wS.is rfl rfl (d_fieldAddr (j := 3) Try.underlying81 rfl s_ti78 (by decide) rfl rfl) ?_
  refine wS.op rfl rfl (d_store s_ti78 rfl rfl (Ow.one a88) a19 (nb rfl) rfl) ?_
  rintro _ w96 ⟨a97, o98⟩
  replace hF2 := hF2.stepb o98 (in2 (inq (inq (inq (inq in1)))))
  replace hG2 := hG2.stepb o98 (in2 (inq (inq (inq (inq in1)))))
  replace a13 := a13.step o98 (fun e => absurd e n_gb_cb)
  replace a85 := a85.step o98 (fun e => absurd e (Ne.symm n_cb_mb_))
  replace a88 := a88.step o98 (fun x hx e => nq_uB_cb x hx e)
  replace a93 := a93.step o98 (fun x hx e => nq_uV_cb x hx e)
  replace a26 := a26.step o98 (fun x hx e => nq_bs_cb x hx e)
  replace a27 := a27.step o98 (fun x hx e => nq_ls_cb x hx e)
  replace oW := oW.tailb o98 g_oW_cb
  replace o23 := o23.tail o98 (fun k _ e => by have : k = cb := e; rw [this]; exact (inq (inq in1)))
  replace oD := oD.tail o98 (fun k _ e => by have : k = cb := e; rw [this]; exact (inq (inq in1)))
  replace o28 := o28.tail o98 (fun k _ e => by have : k = cb := e; rw [this]; exact (inq (inq (inq (inq in1)))))
  replace oB := oB.tail o98 (fun k _ e => by have : k = cb := e; rw [this]; exact (inq (inq (inq (inq in1)))))
  refine wS.is rfl rfl (d_nilCheck (b := cb) (o := 0) rfl) ?_
  refine wS.is rfl rfl (d_fieldAddr (j := 4) Try.underlying81 rfl s_ti79 (by decide) rfl rfl) ?_
  refine wS.op rfl rfl (d_store s_ti79 rfl rfl (Ow.one a93) a97 (nb rfl) rfl) ?_
  rintro _ w99 ⟨a100, o101⟩
  replace hF2 := hF2.stepb o101 (in2 (inq (inq (inq (inq in1)))))
  replace hG2 := hG2.stepb o101 (in2 (inq (inq (inq (inq in1)))))
  replace a13 := a13.step o101 (fun e => absurd e n_gb_cb)
  replace a85 := a85.step o101 (fun e => absurd e (Ne.symm n_cb_mb_))
  replace a88 := a88.step o101 (fun x hx e => nq_uB_cb x hx e)
  replace a93 := a93.step o101 (fun x hx e => nq_uV_cb x hx e)
  replace a26 := a26.step o101 (fun x hx e => nq_bs_cb x hx e)
  replace a27 := a27.step o101 (fun x hx e => nq_ls_cb x hx e)
  replace oW := oW.tailb o101 g_oW_cb
  replace o23 := o23.tail o101 (fun k _ e => by have : k = cb := e; rw [this]; exact (inq (inq in1)))
  replace oD := oD.tail o101 (fun k _ e => by have : k = cb := e; rw [this]; exact (inq (inq in1)))
  replace o28 := o28.tail o101 (fun k _ e => by have : k = cb := e; rw [this]; exact (inq (inq (inq (inq in1)))))
  replace oB := oB.tail o101 (fun k _ e => by have : k = cb := e; rw [this]; exact (inq (inq (inq (inq in1)))))
  refine wS.flat ([(ag3 D B Q), ub, (ptr gb 0), undef, (Value.pointer none), (eN 0), (ptr cb 0), (eN d), u_bs, u_ls, (eN b), (z 11), (z 12), undef, (ag3 D B Q), vT, vF, (ag3 D B Q), (Value.agg #[(eN D), (eN B), (eN Q), vN, vN, (eN 0), vN, vF, (eN 0), (eN 0)]), (ptr cb 0), (eN d), (ptr gb 0), (eN D), (Value.bool (decide (d < D))), (z 24), (z 25), (eN b), (ptr gb 1), (eN B), (Value.bool (decide (b < B)))] ++ (zs z 30 25 ++ [(ptr cb 0), (ptr cb 0), (ptr cb 0), (ptr cb 0), (ptr cb 3), u_uB, u_bs, (sli nb_ 0 1 1), (v80 8), (ptr cb 0), (ptr cb 0), (ptr cb 4), u_uV, u_ls, (sli mb_ 0 1 1), u90, (ptr cb 0), (ptr cb 3), (ptr cb 0), (ptr cb 4)] ++ (us 38))) kr ?_
  refine wS.done ?_
  refine inb_n (tN ?_)
  refine gS ?_
  refine wI (n_add (a := d) (b := 1) rfl rfl oo) ?_
  refine gs ?_
  obtain ⟨bbs, cbs, rbs, ebs, eub, hAbs⟩ := a26.some_ (by rw [lvb]; omega)
  obtain ⟨bls, cls, rls, els, eul, hAls⟩ := a27.some_ (by rw [llz]; omega)
  have gbs := (q_oD_bs bbs ebs).elim (fun e => by cases e) id
  have gls := (q_oD_ls bls els).elim (fun e => by cases e) id
  have g0_bbs := Nat.le_trans hWD gbs
  have g0_bls := Nat.le_trans hWD gls
  have eK_ : d * B + B = (d + 1) * B := (Nat.succ_mul d B).symm
  rw [hbB, eK_] at hI2 hF2 hG2
  rw [hbB] at lvb llz hvb hlz
  have szD_ := oD.size
  have szB_ := oB.size
  refine ⟨_, ⟨d + 1, (F2.addD d bbs cbs bls cls), vB ++ [u_bs], vV ++ [u_ls], bo87, (v80 8), bo92, u90⟩, rfl, kr, ⟨?_, ?_, ?_, ?_, ?_, ?_, ?_, ?_, ?_, ?_, ?_, ?_, ?_, ?_, ?_, ?_⟩, ?_⟩
  ·
   (try dsimp only)
   all_goals (omega)
  ·
   exact NewM.addD2 hI2 hI hE gbs gls hWD oo oo hAbs.lt hAls.lt
  ·
   (try dsimp only)
   all_goals (rw [List.length_append, lU]; rfl)
  ·
   (try dsimp only)
   all_goals (rw [← hE.1, ← hE.2.1] at hvB; exact vd_snoc hvB lU (eub.trans (by rw [lvb])))
  ·
   (try dsimp only)
   all_goals (rw [List.length_append, lV]; rfl)
  ·
   (try dsimp only)
   all_goals (rw [← hE.2.2.1, ← hE.2.2.2] at hvV; exact vd_snoc hvV lV (eul.trans (by rw [llz])))
  ·
   exact newF_addD hF2 (xx_skip (xx_skip (xx_skip (xx_orq (xx_orq (xx_or1 (xx_or1 xx_id))))))) hAbs lvb hvb hAls llz hlz (nx_orq (fun x hx e => nqq_uV_bs x hx (e ▸ ebs)) (nx_orq (fun x hx e => nqq_uB_bs x hx (e ▸ ebs)) (nx_or1 (fun e => nq_bs_cb _ ebs e.symm) (nx_or1 (fun e => nq_bs_gb _ ebs e.symm) (old_ne g0_bbs))))) (nx_orq (fun x hx e => nqq_uV_ls x hx (e ▸ els)) (nx_orq (fun x hx e => nqq_uB_ls x hx (e ▸ els)) (nx_or1 (fun e => nq_ls_cb _ els e.symm) (nx_or1 (fun e => nq_ls_gb _ els e.symm) (old_ne g0_bls)))))
  ·
   (try dsimp only)
   all_goals (exact newP_addD hG2 (by intro j _ h; simp only [Or1, Orq] at h ⊢; have h2 := nfB_addD (F := F2) (d := d) (nk := (d + 1) * B) (n0 := W.heap.size) (j := j) (b := bbs) (c := cbs) (q := bls) (c2 := cls); grind))
  ·
   exact o23
  ·
   exact a13
  ·
   exact a100
  ·
   exact a88
  ·
   exact q_o23_uB
  ·
   exact a93
  ·
   exact q_o23_uV
  ·
   exact nqq_uB_uV
  ·
   (try dsimp only)
   all_goals (omega)
 refine gs ?_
 have hdD : d = D := by omega
 rw [hdD] at hI hF hG hvB hvV lU lV
 obtain ⟨Lq, eL, hN, hfr⟩ := rd_new (tN := 81) (tU := 82) (tV := 83) hD hB hQ (by decide) a19 a21 lU hvB a22 lV hvV hF.now (hG.less (by intro k _ h; simp only [Or1, Orq, NF.B] at h ⊢; grind)) (hI.le oD.size) g_oW_cb (fun x hx => (q_oW_uB x hx).elim (fun e => by cases e) id) (fun x hx => (q_oW_uV x hx).elim (fun e => by cases e) id)
 have h2 : Ps (Ors Lq.S No) (Seq (kA 2 eQ) lb ub) w24 := h2W.re oW (fun _ t => t.elim) (xx_news hfr xx_id)
 have g_oW_Lq := hfr
 refine rsC 6 (show (ptr cb 0) = (ptr Lq.bN 0) from congrArg (fun x_ => ptr x_ 0) eL) ?_
 refine gS ?_
 refine loop2 (fun (s_ : (Nat) × (NS)) => match s_ with | ⟨i6, s6⟩ => fun (z : Nat → Value) => (([(ag3 D B Q), ub, (ptr gb 0), undef, (z 4), (z 5), (ptr Lq.bN 0), (eN d)] ++ (zs z 8 5 ++ [(eN i6), (ag3 D B Q), vT, vF, (ag3 D B Q), (Value.agg #[(eN D), (eN B), (eN Q), vN, vN, (eN 0), vN, vF, (eN 0), (eN 0)]), (ptr cb 0), (eN d), (ptr gb 0), (eN D), (Value.bool (decide (d < D)))] ++ (zs z 24 88 ++ [undef]))) : List Value)) (fun (s_ : (Nat) × (NS)) => match s_ with | ⟨i6, s6⟩ => fun (w_ : World) => (i6 ≤ lb.length) ∧ (NewJ s6 D B Q (lb.take i6)) ∧ Only (Ors Lq.S No) w24 w_ ∧ Rd Lq s6 (Old W.heap.size) w_) (fun (s_ : (Nat) × (NS)) => match s_ with | ⟨i6, s6⟩ => lb.length - i6) ⟨0, (NS.new D B Q (fun _ _ => false))⟩ kr ?_ ?_
 ·
  refine ⟨?_, ?_, ?_, ?_⟩
  ·
   exact Nat.zero_le _
  ·
   exact newJ_nil D B Q
  ·
   exact Only.refl _ _
  ·
   exact hN
 rintro ⟨i6, s6⟩ z w103 ⟨hi6, hS, o102, hN⟩
 (try dsimp only)
 replace h2 := h2.step o102 (ors_mono no_any)
 replace oW := oW.tail o102 (tl_snew g_oW_Lq tl_no)
 refine gs ?_
 refine gS ?_
 refine wI (dN h2) ?_
 refine wI (n_lss (a := i6) (b := lb.length) rfl rfl rfl) ?_
 refine gs ?_
 refine cond_if rfl (fun c104 => ?_) (fun c104 => ?_)
 ·
  refine gs ?_
  refine drawn' (O := (Ors Lq.S No)) (n := 13) [0, 0, 0, 6, 14, 30, 0, 0, 192, 448, 960, 2047, 4095] [(0, 81), (1, 82), (2, 83), (3, 84), (4, 85), (5, 86), (6, 87), (7, 88), (8, 89), (9, 90), (10, 91), (11, 92), (12, 93)] [0, 1, 2, 3, 4, 5, 6, 7, 8, 9, 10, 11, 12] [] (fun i_ => ([RF.is (Ors Lq.S No) (ptr Lq.bN 0), RF.is (Ors Lq.S No) ub, RF.is (Ors Lq.S No) (eN i6), RF.ps (Ors Lq.S No) (Ors Lq.S No) (At (kA 2 eQ) (lb.getD i6 (0, 0))) (ors_mono no_any), RF.ps (Ors Lq.S No) (Ors Lq.S No) (At kI ((lb.getD i6 (0, 0)).1)) (ors_mono no_any), RF.is (Ors Lq.S No) (eI ((lb.getD i6 (0, 0)).1)), RF.is (Ors Lq.S No) ub, RF.is (Ors Lq.S No) (eN i6), RF.ps (Ors Lq.S No) (Ors Lq.S No) (At (kA 2 eQ) (lb.getD i6 (0, 0))) (ors_mono no_any), RF.ps (Ors Lq.S No) (Ors Lq.S No) (At kI ((lb.getD i6 (0, 0)).2)) (ors_mono no_any), RF.is (Ors Lq.S No) (eI ((lb.getD i6 (0, 0)).2)), RF.is (Ors Lq.S No) (Value.bool (s6.there ((lb.getD i6 (0, 0)).1) ((lb.getD i6 (0, 0)).2))), RF.is (Ors Lq.S No) (Value.bool (!(s6.there ((lb.getD i6 (0, 0)).1) ((lb.getD i6 (0, 0)).2))))] : List (RF (Ors Lq.S No))).getD i_ (RF.any (Ors Lq.S No))) (fun _ w_ => Rd Lq s6 (Old W.heap.size) w_) (fun v105 => ([(ag3 D B Q), ub, (ptr gb 0), undef, (z 4), (z 5), (ptr Lq.bN 0), (eN d)] ++ (zs z 8 5 ++ [(eN i6), (ag3 D B Q), vT, vF, (ag3 D B Q), (Value.agg #[(eN D), (eN B), (eN Q), vN, vN, (eN 0), vN, vF, (eN 0), (eN 0)]), (ptr cb 0), (eN d), (ptr gb 0), (eN D), (Value.bool (decide (d < D)))] ++ (zs z 24 51 ++ [(eN i6), ub, (eN lb.length), (Value.bool (decide (i6 < lb.length))), (z 79), (z 80), (v105 0), (v105 1), (v105 2), (v105 3), (v105 4), (v105 5), (v105 6), (v105 7), (v105 8), (v105 9), (v105 10), (v105 11), (v105 12)] ++ (zs z 94 18 ++ [undef]))))) s_mx kr rfl kr (by rfl) (fun v_ => by kernel_rfl) (fun _ => fun w_ w2_ h ho => by have r_hN := h; exact r_hN.step0 ho) hN ?_ ?_ ?_
  ·
   refine ls_cons ?_ ?_
   ·
    intro v105 lo hi w_ k_ hO hd _ _ hk_ _ hR hold
    have r_hN := hR
    clear hd hold
    refine ⟨_, rfl, gd rfl ?_⟩
    exact Does.is (d_move rfl)
   refine ls_cons ?_ ?_
   ·
    intro v105 lo hi w_ k_ hO hd _ _ hk_ _ hR hold
    have r_hN := hR
    clear hd hold
    refine ⟨_, rfl, gd rfl ?_⟩
    exact Does.is (d_move rfl)
   refine ls_cons ?_ ?_
   ·
    intro v105 lo hi w_ k_ hO hd _ _ hk_ _ hR hold
    have r_hN := hR
    clear hd hold
    refine ⟨_, rfl, gd rfl ?_⟩
    exact Does.is (d_move rfl)
   refine ls_cons ?_ ?_
   ·
    intro v105 lo hi w_ k_ hO hd _ _ hk_ _ hR hold
    have r_hN := hR
    have e1 : v105 1 = ub := hd 1 kr
    have e2 : v105 2 = (eN i6) := hd 2 kr
    clear hd hold
    refine ⟨_, rfl, gd rfl ?_⟩
    refine Does.mono (d_indexS (q := (kA 2 eQ)) (xs := lb) (v := (lb.getD i6 (0, 0))) Try.underlying24 s_ti51 e1 (h2.step hO (ors_mono no_any)) (show _ = Value.int _ (i6 : Int) from e2) oo (g_at fo)) (fun u w' h => ⟨h.2 ▸ h.1, h.2 ▸ Only.refl _ _⟩)
   refine ls_cons ?_ ?_
   ·
    intro v105 lo hi w_ k_ hO hd _ _ hk_ _ hR hold
    have r_hN := hR
    have d3 : Ps (Ors Lq.S No) (At (kA 2 eQ) (lb.getD i6 (0, 0)) (v105 3)) w_ := hd 3 kr
    clear hd hold
    refine ⟨_, rfl, gd rfl ?_⟩
    refine Does.mono (d_indexA (v := (lb.getD i6 (0, 0))) (c := (lb.getD i6 (0, 0)).1) Try.underlying51 s_ti3 rfl d3 (show _ = Value.int _ ((0 : Nat) : Int) from rfl) (by decide) (by decide) rfl) (fun u w' h => ⟨h.2 ▸ h.1, h.2 ▸ Only.refl _ _⟩)
   refine ls_cons ?_ ?_
   ·
    intro v105 lo hi w_ k_ hO hd _ _ hk_ _ hR hold
    have r_hN := hR
    have d4 : Ps (Ors Lq.S No) (At kI ((lb.getD i6 (0, 0)).1) (v105 4)) w_ := hd 4 kr
    clear hd hold
    refine ⟨_, rfl, gd rfl ?_⟩
    exact Does.is (d_loadAt (enc := eI) (v := (lb.getD i6 (0, 0)).1) ⟨_, Try.underlying3, rfl⟩ rfl d4)
   refine ls_cons ?_ ?_
   ·
    intro v105 lo hi w_ k_ hO hd _ _ hk_ _ hR hold
    have r_hN := hR
    clear hd hold
    refine ⟨_, rfl, gd rfl ?_⟩
    exact Does.is (d_move rfl)
   refine ls_cons ?_ ?_
   ·
    intro v105 lo hi w_ k_ hO hd _ _ hk_ _ hR hold
    have r_hN := hR
    clear hd hold
    refine ⟨_, rfl, gd rfl ?_⟩
    exact Does.is (d_move rfl)
   refine ls_cons ?_ ?_
   ·
    intro v105 lo hi w_ k_ hO hd _ _ hk_ _ hR hold
    have r_hN := hR
    have e6 : v105 6 = ub := hd 6 kr
    have e7 : v105 7 = (eN i6) := hd 7 kr
    clear hd hold
    refine ⟨_, rfl, gd rfl ?_⟩
    refine Does.mono (d_indexS (q := (kA 2 eQ)) (xs := lb) (v := (lb.getD i6 (0, 0))) Try.underlying24 s_ti51 e6 (h2.step hO (ors_mono no_any)) (show _ = Value.int _ (i6 : Int) from e7) oo (g_at fo)) (fun u w' h => ⟨h.2 ▸ h.1, h.2 ▸ Only.refl _ _⟩)
   refine ls_cons ?_ ?_
   ·
    intro v105 lo hi w_ k_ hO hd _ _ hk_ _ hR hold
    have r_hN := hR
    have d8 : Ps (Ors Lq.S No) (At (kA 2 eQ) (lb.getD i6 (0, 0)) (v105 8)) w_ := hd 8 kr
    clear hd hold
    refine ⟨_, rfl, gd rfl ?_⟩
    refine Does.mono (d_indexA (v := (lb.getD i6 (0, 0))) (c := (lb.getD i6 (0, 0)).2) Try.underlying51 s_ti3 rfl d8 (show _ = Value.int _ ((1 : Nat) : Int) from rfl) (by decide) (by decide) rfl) (fun u w' h => ⟨h.2 ▸ h.1, h.2 ▸ Only.refl _ _⟩)
   refine ls_cons ?_ ?_
   ·
    intro v105 lo hi w_ k_ hO hd _ _ hk_ _ hR hold
    have r_hN := hR
    have d9 : Ps (Ors Lq.S No) (At kI ((lb.getD i6 (0, 0)).2) (v105 9)) w_ := hd 9 kr
    clear hd hold
    refine ⟨_, rfl, gd rfl ?_⟩
    exact Does.is (d_loadAt (enc := eI) (v := (lb.getD i6 (0, 0)).2) ⟨_, Try.underlying3, rfl⟩ rfl d9)
   refine ls_cons ?_ ?_
   ·
    intro v105 lo hi w_ k_ hO hd _ _ hk_ _ hR hold
    have r_hN := hR
    have e0 : v105 0 = (ptr Lq.bN 0) := hd 0 kr
    have e10 : v105 10 = (eI ((lb.getD i6 (0, 0)).2)) := hd 10 kr
    have e5 : v105 5 = (eI ((lb.getD i6 (0, 0)).1)) := hd 5 kr
    clear hd hold
    refine ⟨_, rfl, gd rfl ?_⟩
    exact d_call (xl := [.tmp 81, .tmp 86, .tmp 91]) (al := [(ptr Lq.bN 0), (eI ((lb.getD i6 (0, 0)).1)), (eI ((lb.getD i6 (0, 0)).2))]) Try.func43 kr rfl (show ([(v105 0), (v105 5), (v105 10)] : List Value) = [(ptr Lq.bN 0), (eI ((lb.getD i6 (0, 0)).1)), (eI ((lb.getD i6 (0, 0)).2))] from by rw [e0, e5, e10]) rfl (refThere_ok Lq s6 _ r_hN (r := (s6.there ((lb.getD i6 (0, 0)).1) ((lb.getD i6 (0, 0)).2))) ((lb.getD i6 (0, 0)).1) ((lb.getD i6 (0, 0)).2) rfl)
   refine ls_cons ?_ ?_
   ·
    intro v105 lo hi w_ k_ hO hd _ _ hk_ _ hR hold
    have r_hN := hR
    have e11 : v105 11 = (Value.bool (s6.there ((lb.getD i6 (0, 0)).1) ((lb.getD i6 (0, 0)).2))) := hd 11 kr
    clear hd hold
    refine ⟨_, rfl, gd rfl ?_⟩
    exact Does.is (d_not e11 rfl)
   exact ls_nil
  ·
   exact ms_nil
  intro v105 lo_ hi_ w106 o107 hd iv_ hR
  have e0 : v105 0 = (ptr Lq.bN 0) := hd 0 (by decide)
  have e1 : v105 1 = ub := hd 1 (by decide)
  have e2 : v105 2 = (eN i6) := hd 2 (by decide)
  have e5 : v105 5 = (eI ((lb.getD i6 (0, 0)).1)) := hd 5 (by decide)
  have e6 : v105 6 = ub := hd 6 (by decide)
  have e7 : v105 7 = (eN i6) := hd 7 (by decide)
  have e10 : v105 10 = (eI ((lb.getD i6 (0, 0)).2)) := hd 10 (by decide)
  have e11 : v105 11 = (Value.bool (s6.there ((lb.getD i6 (0, 0)).1) ((lb.getD i6 (0, 0)).2))) := hd 11 (by decide)
  have e12 : v105 12 = (Value.bool (!(s6.there ((lb.getD i6 (0, 0)).1) ((lb.getD i6 (0, 0)).2)))) := hd 12 (by decide)
  have f_v105_3 : Ps (Ors Lq.S No) (At (kA 2 eQ) (lb.getD i6 (0, 0)) (v105 3)) w106 := hd 3 (by decide)
  have f_v105_4 : Ps (Ors Lq.S No) (At kI ((lb.getD i6 (0, 0)).1) (v105 4)) w106 := hd 4 (by decide)
  have f_v105_8 : Ps (Ors Lq.S No) (At (kA 2 eQ) (lb.getD i6 (0, 0)) (v105 8)) w106 := hd 8 (by decide)
  have f_v105_9 : Ps (Ors Lq.S No) (At kI ((lb.getD i6 (0, 0)).2) (v105 9)) w106 := hd 9 (by decide)
  clear hd iv_ lo_ hi_
  refine fr_eq (l' := ([(ag3 D B Q), ub, (ptr gb 0), undef, (z 4), (z 5), (ptr Lq.bN 0), (eN d)] ++ (zs z 8 5 ++ [(eN i6), (ag3 D B Q), vT, vF, (ag3 D B Q), (Value.agg #[(eN D), (eN B), (eN Q), vN, vN, (eN 0), vN, vF, (eN 0), (eN 0)]), (ptr cb 0), (eN d), (ptr gb 0), (eN D), (Value.bool (decide (d < D)))] ++ (zs z 24 51 ++ [(eN i6), ub, (eN lb.length), (Value.bool (decide (i6 < lb.length))), (z 79), (z 80), (ptr Lq.bN 0), ub, (eN i6), (v105 3), (v105 4), (eI ((lb.getD i6 (0, 0)).1)), ub, (eN i6), (v105 8), (v105 9), (eI ((lb.getD i6 (0, 0)).2)), (Value.bool (s6.there ((lb.getD i6 (0, 0)).1) ((lb.getD i6 (0, 0)).2))), (Value.bool (!(s6.there ((lb.getD i6 (0, 0)).1) ((lb.getD i6 (0, 0)).2))))] ++ (zs z 94 18 ++ [undef]))))) (by rw [e0, e1, e2, e5, e6, e7, e10, e11, e12] <;> rfl) ?_
  clear e0 e1 e2 e5 e6 e7 e10 e11 e12
  replace h2 := h2.step o107 (ors_mono no_any)
  replace hN := hR
  clear hR
  replace oW := oW.tail o107 (tl_snew g_oW_Lq tl_no)
  replace o102 := o102.tail o107 (tl_sin sub1 tl_no)
  refine tN ?_
  refine cond_b rfl (fun c93 => ?_) (fun c93 => ?_)
  ·
   refine wQ ?_
   refine gS ?_
   refine leave0 (v := (Value.tuple #[(Value.pointer none), (eN 1)])) (res2 Try.results14 rfl rfl) ?_
   have hE_ : newE D B lb = 1 := newE_no (i := i6) oo (fun t => by rw [(inR_there hS (lb.getD i6 (0, 0))).2 t] at c93; cases c93)
   exact ⟨_, by rw [hE_], oW, fun e => by rw [hE_] at e; cases e⟩
  refine gs ?_
  have ht_ := (inR_there hS (lb.getD i6 (0, 0))).1 (by simpa using c93)
  obtain ⟨x1, ex1⟩ := Int.eq_ofNat_of_zero_le ht_.1.1
  obtain ⟨x2, ex2⟩ := Int.eq_ofNat_of_zero_le ht_.2.1
  have hx1 : x1 < D := by have := ht_.1.2; omega
  have hx2 : x2 < B := by have := ht_.2.2; omega
  have gD6 := hS.i.c.gD
  have gB6 := hS.i.c.gB
  refine drawnT (O := (Ors Lq.S No)) (n := 19) 16 [0, 1, 3, 7, 0, 0, 48, 112, 240, 511, 1023, 0, 0, 6144, 14336, 30720, 65535, 131071, 262143] [(0, 94), (1, 95), (2, 96), (3, 97), (4, 98), (5, 99), (6, 100), (7, 101), (8, 102), (9, 103), (10, 104), (11, 105), (12, 106), (13, 107), (14, 108), (15, 109), (16, 110), (17, 111)] [(0, 94), (1, 95), (2, 96), (3, 97), (4, 98), (5, 99), (6, 100), (7, 101), (8, 102), (9, 103), (10, 104), (11, 105), (12, 106), (13, 107), (14, 108), (15, 109)] [0, 1, 2, 3, 4, 5, 6, 7, 8, 9, 10, 11, 12, 13, 14, 15] [] (fun i_ => ([RF.is (Ors Lq.S No) (ptr Lq.bN 0), RF.is (Ors Lq.S No) (ptr Lq.bN 0), RF.is (Ors Lq.S No) (ptr Lq.bN 3), RF.is (Ors Lq.S No) (sli Lq.bU 0 s6.gD Lq.cU), RF.is (Ors Lq.S No) ub, RF.is (Ors Lq.S No) (eN i6), RF.ps (Ors Lq.S No) (Ors Lq.S No) (At (kA 2 eQ) (lb.getD i6 (0, 0))) (ors_mono no_any), RF.ps (Ors Lq.S No) (Ors Lq.S No) (At kI ((lb.getD i6 (0, 0)).1)) (ors_mono no_any), RF.is (Ors Lq.S No) (eN x1), RF.is (Ors Lq.S No) (ptr Lq.bU x1), RF.is (Ors Lq.S No) (sli (Lq.bd x1) 0 s6.gB (Lq.cd x1)), RF.is (Ors Lq.S No) ub, RF.is (Ors Lq.S No) (eN i6), RF.ps (Ors Lq.S No) (Ors Lq.S No) (At (kA 2 eQ) (lb.getD i6 (0, 0))) (ors_mono no_any), RF.ps (Ors Lq.S No) (Ors Lq.S No) (At kI ((lb.getD i6 (0, 0)).2)) (ors_mono no_any), RF.is (Ors Lq.S No) (eN x2)] : List (RF (Ors Lq.S No))).getD i_ (RF.any (Ors Lq.S No))) (fun _ w_ => Rd Lq s6 (Old W.heap.size) w_) (fun v108 => ([(ag3 D B Q), ub, (ptr gb 0), undef, (z 4), (z 5), (ptr Lq.bN 0), (eN d)] ++ (zs z 8 5 ++ [(eN i6), (ag3 D B Q), vT, vF, (ag3 D B Q), (Value.agg #[(eN D), (eN B), (eN Q), vN, vN, (eN 0), vN, vF, (eN 0), (eN 0)]), (ptr cb 0), (eN d), (ptr gb 0), (eN D), (Value.bool (decide (d < D)))] ++ (zs z 24 51 ++ [(eN i6), ub, (eN lb.length), (Value.bool (decide (i6 < lb.length))), (z 79), (z 80), (ptr Lq.bN 0), ub, (eN i6), (v105 3), (v105 4), (eI ((lb.getD i6 (0, 0)).1)), ub, (eN i6), (v105 8), (v105 9), (eI ((lb.getD i6 (0, 0)).2)), (Value.bool (s6.there ((lb.getD i6 (0, 0)).1) ((lb.getD i6 (0, 0)).2))), (Value.bool (!(s6.there ((lb.getD i6 (0, 0)).1) ((lb.getD i6 (0, 0)).2)))), (v108 0), (v108 1), (v108 2), (v108 3), (v108 4), (v108 5), (v108 6), (v108 7), (v108 8), (v108 9), (v108 10), (v108 11), (v108 12), (v108 13), (v108 14), (v108 15), (v108 16), (v108 17), undef])))) (fun v108 => ([(ag3 D B Q), ub, (ptr gb 0), undef, (z 4), (z 5), (ptr Lq.bN 0), (eN d)] ++ (zs z 8 5 ++ [(eN i6), (ag3 D B Q), vT, vF, (ag3 D B Q), (Value.agg #[(eN D), (eN B), (eN Q), vN, vN, (eN 0), vN, vF, (eN 0), (eN 0)]), (ptr cb 0), (eN d), (ptr gb 0), (eN D), (Value.bool (decide (d < D)))] ++ (zs z 24 51 ++ [(eN i6), ub, (eN lb.length), (Value.bool (decide (i6 < lb.length))), (z 79), (z 80), (ptr Lq.bN 0), ub, (eN i6), (v105 3), (v105 4), (eI ((lb.getD i6 (0, 0)).1)), ub, (eN i6), (v105 8), (v105 9), (eI ((lb.getD i6 (0, 0)).2)), (Value.bool (s6.there ((lb.getD i6 (0, 0)).1) ((lb.getD i6 (0, 0)).2))), (Value.bool (!(s6.there ((lb.getD i6 (0, 0)).1) ((lb.getD i6 (0, 0)).2)))), (v108 0), (v108 1), (v108 2), (v108 3), (v108 4), (v108 5), (v108 6), (v108 7), (v108 8), (v108 9), (v108 10), (v108 11), (v108 12), (v108 13), (v108 14), (v108 15), (z 110), (z 111), undef])))) s_mx kr rfl (by decide) (by rfl) kr kr kr (by rfl) (fun v_ => by kernel_rfl) (fun v_ => by kernel_rfl) (fun _ => fun w_ w2_ h ho => by have r_hN := h; exact r_hN.step0 ho) hN ?_ ?_ ?_
  ·
   refine ls_cons ?_ ?_
   ·
    intro v108 lo hi w_ k_ hO hd _ _ hk_ _ hR hold
    have r_hN := hR
    clear hd hold
    refine ⟨_, rfl, gd rfl ?_⟩
    exact Does.is (d_move rfl)
   refine ls_cons ?_ ?_
   ·
    intro v108 lo hi w_ k_ hO hd _ _ hk_ _ hR hold
    have r_hN := hR
    have e0 : v108 0 = (ptr Lq.bN 0) := hd 0 kr
    clear hd hold
    refine ⟨_, rfl, gd rfl ?_⟩
    exact Does.is (d_nilCheck (b := Lq.bN) (o := 0) e0)
   refine ls_cons ?_ ?_
   ·
    intro v108 lo hi w_ k_ hO hd _ _ hk_ _ hR hold
    have r_hN := hR
    have e1 : v108 1 = (ptr Lq.bN 0) := hd 1 kr
    clear hd hold
    refine ⟨_, rfl, gd rfl ?_⟩
    exact Does.is (d_fieldAddr (j := 3) Try.underlying81 rfl s_ti78 (by decide) e1 rfl)
   refine ls_cons ?_ ?_
   ·
    intro v108 lo hi w_ k_ hO hd _ _ hk_ _ hR hold
    have r_hN := hR
    have e2 : v108 2 = (ptr Lq.bN 3) := hd 2 kr
    clear hd hold
    refine ⟨_, rfl, gd rfl ?_⟩
    exact Does.is (rd_ld (v := (sli Lq.bU 0 s6.gD Lq.cU)) r_hN ⟨_, Try.underlying78, rfl⟩ e2 (fun _ => rfl))
   refine ls_cons ?_ ?_
   ·
    intro v108 lo hi w_ k_ hO hd _ _ hk_ _ hR hold
    have r_hN := hR
    clear hd hold
    refine ⟨_, rfl, gd rfl ?_⟩
    exact Does.is (d_move rfl)
   refine ls_cons ?_ ?_
   ·
    intro v108 lo hi w_ k_ hO hd _ _ hk_ _ hR hold
    have r_hN := hR
    clear hd hold
    refine ⟨_, rfl, gd rfl ?_⟩
    exact Does.is (d_move rfl)
   refine ls_cons ?_ ?_
   ·
    intro v108 lo hi w_ k_ hO hd _ _ hk_ _ hR hold
    have r_hN := hR
    have e4 : v108 4 = ub := hd 4 kr
    have e5 : v108 5 = (eN i6) := hd 5 kr
    clear hd hold
    refine ⟨_, rfl, gd rfl ?_⟩
    refine Does.mono (d_indexS (q := (kA 2 eQ)) (xs := lb) (v := (lb.getD i6 (0, 0))) Try.underlying24 s_ti51 e4 (h2.step hO (ors_mono no_any)) (show _ = Value.int _ (i6 : Int) from e5) oo (g_at fo)) (fun u w' h => ⟨h.2 ▸ h.1, h.2 ▸ Only.refl _ _⟩)
   refine ls_cons ?_ ?_
   ·
    intro v108 lo hi w_ k_ hO hd _ _ hk_ _ hR hold
    have r_hN := hR
    have d6 : Ps (Ors Lq.S No) (At (kA 2 eQ) (lb.getD i6 (0, 0)) (v108 6)) w_ := hd 6 kr
    clear hd hold
    refine ⟨_, rfl, gd rfl ?_⟩
    refine Does.mono (d_indexA (v := (lb.getD i6 (0, 0))) (c := (lb.getD i6 (0, 0)).1) Try.underlying51 s_ti3 rfl d6 (show _ = Value.int _ ((0 : Nat) : Int) from rfl) (by decide) (by decide) rfl) (fun u w' h => ⟨h.2 ▸ h.1, h.2 ▸ Only.refl _ _⟩)
   refine ls_cons ?_ ?_
   ·
    intro v108 lo hi w_ k_ hO hd _ _ hk_ _ hR hold
    have r_hN := hR
    have d7 : Ps (Ors Lq.S No) (At kI ((lb.getD i6 (0, 0)).1) (v108 7)) w_ := hd 7 kr
    clear hd hold
    refine ⟨_, rfl, gd rfl ?_⟩
    exact Does.is (dv_to (d_loadAt (enc := eI) (v := (lb.getD i6 (0, 0)).1) ⟨_, Try.underlying3, rfl⟩ rfl d7) (congrArg eI ex1))
   refine ls_cons ?_ ?_
   ·
    intro v108 lo hi w_ k_ hO hd _ _ hk_ _ hR hold
    have r_hN := hR
    have e3 : v108 3 = (sli Lq.bU 0 s6.gD Lq.cU) := hd 3 kr
    have e8 : v108 8 = (eN x1) := hd 8 kr
    clear hd hold
    refine ⟨_, rfl, gd rfl ?_⟩
    exact Does.is (d_index1 (n := s6.gD) (i := x1) Try.underlying78 s_ti82 e3 (show _ = Value.int _ (x1 : Int) from e8) (by rw [gD6]; exact hx1))
   refine ls_cons ?_ ?_
   ·
    intro v108 lo hi w_ k_ hO hd _ _ hk_ _ hR hold
    have r_hN := hR
    have e9 : v108 9 = (ptr Lq.bU x1) := hd 9 kr
    clear hd hold
    refine ⟨_, rfl, gd rfl ?_⟩
    exact Does.is (rd_ldU (i := x1) r_hN ⟨_, Try.underlying82, rfl⟩ e9 (by rw [gD6]; exact hx1))
   refine ls_cons ?_ ?_
   ·
    intro v108 lo hi w_ k_ hO hd _ _ hk_ _ hR hold
    have r_hN := hR
    clear hd hold
    refine ⟨_, rfl, gd rfl ?_⟩
    exact Does.is (d_move rfl)
   refine ls_cons ?_ ?_
   ·
    intro v108 lo hi w_ k_ hO hd _ _ hk_ _ hR hold
    have r_hN := hR
    clear hd hold
    refine ⟨_, rfl, gd rfl ?_⟩
    exact Does.is (d_move rfl)
   refine ls_cons ?_ ?_
   ·
    intro v108 lo hi w_ k_ hO hd _ _ hk_ _ hR hold
    have r_hN := hR
    have e11 : v108 11 = ub := hd 11 kr
    have e12 : v108 12 = (eN i6) := hd 12 kr
    clear hd hold
    refine ⟨_, rfl, gd rfl ?_⟩
    refine Does.mono (d_indexS (q := (kA 2 eQ)) (xs := lb) (v := (lb.getD i6 (0, 0))) Try.underlying24 s_ti51 e11 (h2.step hO (ors_mono no_any)) (show _ = Value.int _ (i6 : Int) from e12) oo (g_at fo)) (fun u w' h => ⟨h.2 ▸ h.1, h.2 ▸ Only.refl _ _⟩)
   refine ls_cons ?_ ?_
   ·
    intro v108 lo hi w_ k_ hO hd _ _ hk_ _ hR hold
    have r_hN := hR
    have d13 : Ps (Ors Lq.S No) (At (kA 2 eQ) (lb.getD i6 (0, 0)) (v108 13)) w_ := hd 13 kr
    clear hd hold
    refine ⟨_, rfl, gd rfl ?_⟩
    refine Does.mono (d_indexA (v := (lb.getD i6 (0, 0))) (c := (lb.getD i6 (0, 0)).2) Try.underlying51 s_ti3 rfl d13 (show _ = Value.int _ ((1 : Nat) : Int) from rfl) (by decide) (by decide) rfl) (fun u w' h => ⟨h.2 ▸ h.1, h.2 ▸ Only.refl _ _⟩)
   refine ls_cons ?_ ?_
   ·
    intro v108 lo hi w_ k_ hO hd _ _ hk_ _ hR hold
    have r_hN := hR
    have d14 : Ps (Ors Lq.S No) (At kI ((lb.getD i6 (0, 0)).2) (v108 14)) w_ := hd 14 kr
    clear hd hold
    refine ⟨_, rfl, gd rfl ?_⟩
    exact Does.is (dv_to (d_loadAt (enc := eI) (v := (lb.getD i6 (0, 0)).2) ⟨_, Try.underlying3, rfl⟩ rfl d14) (congrArg eI ex2))
   exact ls_nil
  ·
   exact ms_nil
  intro v108 lo_ hi_ w109 o110 hd iv_ hR
  have e0 : v108 0 = (ptr Lq.bN 0) := hd 0 (by decide)
  have e1 : v108 1 = (ptr Lq.bN 0) := hd 1 (by decide)
  have e2 : v108 2 = (ptr Lq.bN 3) := hd 2 (by decide)
  have e3 : v108 3 = (sli Lq.bU 0 s6.gD Lq.cU) := hd 3 (by decide)
  have e4 : v108 4 = ub := hd 4 (by decide)
  have e5 : v108 5 = (eN i6) := hd 5 (by decide)
  have e8 : v108 8 = (eN x1) := hd 8 (by decide)
  have e9 : v108 9 = (ptr Lq.bU x1) := hd 9 (by decide)
  have e10 : v108 10 = (sli (Lq.bd x1) 0 s6.gB (Lq.cd x1)) := hd 10 (by decide)
  have e11 : v108 11 = ub := hd 11 (by decide)
  have e12 : v108 12 = (eN i6) := hd 12 (by decide)
  have e15 : v108 15 = (eN x2) := hd 15 (by decide)
  have f_v108_6 : Ps (Ors Lq.S No) (At (kA 2 eQ) (lb.getD i6 (0, 0)) (v108 6)) w109 := hd 6 (by decide)
  have f_v108_7 : Ps (Ors Lq.S No) (At kI ((lb.getD i6 (0, 0)).1) (v108 7)) w109 := hd 7 (by decide)
  have f_v108_13 : Ps (Ors Lq.S No) (At (kA 2 eQ) (lb.getD i6 (0, 0)) (v108 13)) w109 := hd 13 (by decide)
  have f_v108_14 : Ps (Ors Lq.S No) (At kI ((lb.getD i6 (0, 0)).2) (v108 14)) w109 := hd 14 (by decide)
  clear hd iv_ lo_ hi_
  refine wpL.flat ([(ag3 D B Q), ub, (ptr gb 0), undef, (z 4), (z 5), (ptr Lq.bN 0), (eN d)] ++ (zs z 8 5 ++ [(eN i6), (ag3 D B Q), vT, vF, (ag3 D B Q), (Value.agg #[(eN D), (eN B), (eN Q), vN, vN, (eN 0), vN, vF, (eN 0), (eN 0)]), (ptr cb 0), (eN d), (ptr gb 0), (eN D), (Value.bool (decide (d < D)))] ++ (zs z 24 51 ++ [(eN i6), ub, (eN lb.length), (Value.bool (decide (i6 < lb.length))), (z 79), (z 80), (ptr Lq.bN 0), ub, (eN i6), (v105 3), (v105 4), (eI ((lb.getD i6 (0, 0)).1)), ub, (eN i6), (v105 8), (v105 9), (eI ((lb.getD i6 (0, 0)).2)), (Value.bool (s6.there ((lb.getD i6 (0, 0)).1) ((lb.getD i6 (0, 0)).2))), (Value.bool (!(s6.there ((lb.getD i6 (0, 0)).1) ((lb.getD i6 (0, 0)).2)))), (ptr Lq.bN 0), (ptr Lq.bN 0), (ptr Lq.bN 3), (sli Lq.bU 0 s6.gD Lq.cU), ub, (eN i6), (v108 6), (v108 7), (eN x1), (ptr Lq.bU x1), (sli (Lq.bd x1) 0 s6.gB (Lq.cd x1)), ub, (eN i6), (v108 13), (v108 14), (eN x2), (z 110), (z 111), undef]))) (by rw [e0, e1, e2, e3, e4, e5, e8, e9, e10, e11, e12, e15] <;> rfl) ?_
  clear e0 e1 e2 e3 e4 e5 e8 e9 e10 e11 e12 e15
  replace h2 := h2.step o110 (ors_mono no_any)
  replace f_v105_3 := f_v105_3.step o110 (ors_mono no_any)
  replace f_v105_4 := f_v105_4.step o110 (ors_mono no_any)
  replace f_v105_8 := f_v105_8.step o110 (ors_mono no_any)
  replace f_v105_9 := f_v105_9.step o110 (ors_mono no_any)
  replace hN := hR
  clear hR
  replace oW := oW.tail o110 (tl_snew g_oW_Lq tl_no)
  replace o102 := o102.tail o110 (tl_sin sub1 tl_no)
  refine wLD ?_
  refine wI (d_index (b := (Lq.bd x1)) (o := 0) (n := s6.gB) (c := (Lq.cd x1)) (j := (x2 * 4)) Try.underlying82 s_ti85 rfl (show _ = Value.int _ (x2 : Int) from rfl) oo (by rw [gB6]; exact_mod_cast hx2) (by simp)) ?_
  refine gs ?_
  refine wO (rd_stS (i := x1) (j := x2) (f := 3) (x' := { s6.bl x1 x2 with bad := true }) hN s_ti4 rfl rfl rfl (by rw [gD6]; exact hx1) (by rw [gB6]; exact hx2) (by decide) (fun _ => rfl) (hN.ok.nx _ _)) ?_
  rintro _ w111 ⟨a112, o113⟩
  replace h2 := h2.step o113 sub1
  replace f_v105_3 := f_v105_3.step o113 sub1
  replace f_v105_4 := f_v105_4.step o113 sub1
  replace f_v105_8 := f_v105_8.step o113 sub1
  replace f_v105_9 := f_v105_9.step o113 sub1
  replace f_v108_6 := f_v108_6.step o113 sub1
  replace f_v108_7 := f_v108_7.step o113 sub1
  replace f_v108_13 := f_v108_13.step o113 sub1
  replace f_v108_14 := f_v108_14.step o113 sub1
  replace oW := oW.tail o113 (fun k hk e => by have := g_oW_Lq k e; omega)
  replace o102 := o102.tail o113 (fun k _ e => sub1 k e)
  replace hN := a112
  refine gs ?_
  refine gS ?_
  refine wI (n_add (a := i6) (b := 1) rfl rfl oo) ?_
  refine gs ?_
  refine ⟨_, ⟨i6 + 1, (s6.setB x1 x2 { s6.bl x1 x2 with bad := true })⟩, rfl, kr, ⟨?_, ?_, ?_, ?_⟩, ?_⟩
  ·
   (try dsimp only)
   all_goals (omega)
  ·
   exact newJ_step hS oo ex1 ex2 hx1 hx2
  ·
   exact o102
  ·
   exact hN
  ·
   (try dsimp only)
   all_goals (omega)
 refine gs ?_
 refine gS ?_
 refine leave0 (v := (Value.tuple #[(ptr Lq.bN 0), (eN 0)])) (res2 Try.results14 rfl rfl) ?_
 have hi_ : i6 = lb.length := by omega
 rw [hi_, List.take_length] at hS
 have hE_ := newE_ok hS.r
 exact ⟨_, by rw [hE_], oW, fun _ => ⟨Lq, s6, rfl, ⟨hN, hfr⟩, hS⟩⟩
theorem newG_ok (D B Q : Nat) (lb : List (Int × Int)) (ub : Value) (W : World) (h2 : Ps No (Seq (kA 2 eQ) lb ub) W) (glb : lb.length ≤ 1048576) (hD : 6 ≤ D ∧ D ≤ 8) (hB : 8 ≤ B ∧ B ≤ 12) (hQ : 4 ≤ Q ∧ Q ≤ 8) :
    CW Try.prog 13 #[(ag3 D B Q), ub] W (Rt (fun u w => ∃ p, u = .tuple #[p, eN (newE D B lb)] ∧ Only No W w ∧ (newE D B lb = 0 → ∃ L s, p = ptr L.bN 0 ∧ (Nd L s (Old W.heap.size) w ∧ ∀ k, L.S k → W.heap.size ≤ k) ∧ NewJ s D B Q lb))) := by
 have oW : Only No W W := Only.refl _ _
 refine en 80 Try.func13 Try.ntmps13 ?_
 have m1_ : D * B ≤ 8 * 12 := Nat.mul_le_mul hD.2 hB.2
 have m2_ : D * B * Q ≤ 8 * 12 * 8 := Nat.mul_le_mul m1_ hQ.2
 have h2W := h2
 refine wQ ?_
 refine pL ?_
 refine wO dB ?_
 rintro _ w11 ⟨gb, rfl, g12, a13, o14⟩
 have g_oW_gb : W.heap.size ≤ gb := Nat.le_trans oW.size g12
 replace oW := oW.tail0 o14
 refine gs ?_
 refine pL ?_
 refine wI (d_loadAg (vs := [(eN D), (eN B), (eN Q)]) ⟨_, Try.underlying23, rfl⟩ s_ti23 rfl a13 rfl rfl) ?_
 refine wO (dC (fits_ok D B Q _ oo oo oo)) ?_
 rintro _ w15 ⟨rfl, o16⟩
 replace a13 := a13.step0 o16
 replace oW := oW.tail0 o16
 refine gs ?_
 refine dpN 5 [2, 1] ?_
 refine pI (fun _ hO_ => d_loadAg (vs := [(eN D), (eN B), (eN Q)]) ⟨_, Try.underlying23, rfl⟩ s_ti23 rfl (a13.step0 hO_) rfl rfl) ?_
 refine pI (fun _ hO_ => d_loadAg (vs := [(eN D), (eN B), (eN Q)]) ⟨_, Try.underlying23, rfl⟩ s_ti23 rfl (a13.step0 hO_) rfl rfl) ?_
 refine pI (fun _ hO_ => d_loadAg (vs := [(eN D), (eN B), (eN Q)]) ⟨_, Try.underlying23, rfl⟩ s_ti23 rfl (a13.step0 hO_) rfl rfl) ?_
 refine pz_ ?_
 intro w17 o18
 replace a13 := a13.step0 o18
 replace oW := oW.tail0 o18
 refine qO (d_call (xl := [.tmp 14]) (al := [(ag3 D B Q)]) Try.func37 kr rfl rfl rfl (noneD_ok D B Q _ oo oo oo)) ?_
 rintro _ w21 ⟨db, rfl, g22, a23, o24⟩
 have n_gb_db : gb ≠ db := a13.ne g22
 have g_oW_db : W.heap.size ≤ db := Nat.le_trans oW.size g22
 replace a13 := a13.step0 o24
 replace oW := oW.tail0 o24
 refine qO (d_call (xl := [.tmp 16]) (al := [(ag3 D B Q)]) Try.func38 kr rfl rfl rfl (noneZ_ok D B Q _ oo oo oo)) ?_
 rintro _ w27 ⟨zb, rfl, g28, a29, o30⟩
 have n_gb_zb : gb ≠ zb := a13.ne g28
 have n_db_zb : db ≠ zb := a23.ne g28
 have g_oW_zb : W.heap.size ≤ zb := Nat.le_trans oW.size g28
 replace a13 := a13.step0 o30
 replace a23 := a23.step0 o30
 replace oW := oW.tail0 o30
 refine qN ?_
 refine wI (d_buildS (pl := [(0, 3), (3, 4), (7, 4), (11, 1), (12, 1), (13, 1), (14, 1), (15, 1), (16, 1)]) (zs := [(eN 0), (eN 0), (eN 0), (eN 0), (eN 0), (eN 0), vN, (eN 0), (eN 0), (eN 0), vN, vN, (eN 0), vN, vF, (eN 0), (eN 0)]) (cs := [(eN D), (eN B), (eN Q), (eN D), (eN B), (eN Q), (sli db 0 (D * B * Q) (D * B * Q)), (eN D), (eN B), (eN Q), (sli zb 0 (D * B * Q) (D * B * Q)), vN, (eN 0), vN, vF, (eN 0), (eN 0)]) Try.underlying73 s_ti73 ⟨_, _, _, _, rfl, s_ti23, ⟨_, _, _, _, rfl, s_ti65, ⟨_, _, _, _, rfl, s_ti69, ⟨_, _, _, _, rfl, s_ti71, ⟨_, _, _, _, rfl, s_ti3, ⟨_, _, _, _, rfl, s_ti36, ⟨_, _, _, _, rfl, s_ti4, ⟨_, _, _, _, rfl, s_ti3, ⟨_, _, _, _, rfl, s_ti3, rfl⟩⟩⟩⟩⟩⟩⟩⟩⟩ rfl (parts_cons (vs := [(eN D), (eN B), (eN Q)]) (cells_of (v := (ag3 D B Q)) rfl rfl) (parts_cons (vs := [(eN D), (eN B), (eN Q), (sli db 0 (D * B * Q) (D * B * Q))]) (cells_of (v := (Value.agg #[(eN D), (eN B), (eN Q), (sli db 0 (D * B * Q) (D * B * Q))])) rfl rfl) (parts_cons (vs := [(eN D), (eN B), (eN Q), (sli zb 0 (D * B * Q) (D * B * Q))]) (cells_of (v := (Value.agg #[(eN D), (eN B), (eN Q), (sli zb 0 (D * B * Q) (D * B * Q))])) rfl rfl) parts_nil))) rfl) ?_
 refine wO dB ?_
 rintro _ w31 ⟨cb, rfl, g32, a33, o34⟩
 have n_gb_cb : gb ≠ cb := a13.ne g32
 have n_db_cb : db ≠ cb := a23.ne g32
 have n_zb_cb : zb ≠ cb := a29.ne g32
 have g_oW_cb : W.heap.size ≤ cb := Nat.le_trans oW.size g32
 replace a13 := a13.step0 o34
 replace a23 := a23.step0 o34
 replace a29 := a29.step0 o34
 replace oW := oW.tail0 o34
 refine gs ?_
 refine gS ?_
 refine wI (d_len rfl Try.underlying63 rfl) ?_
 refine gs ?_
 replace a23 : Arr 36 db ((List.replicate (D * B * Q) vN).map eV) w31 := by rw [map_eV]; exact a23
 have l_db : (List.replicate (D * B * Q) vN).length = D * B * Q := List.length_replicate
 refine loop2 (fun (s_ : (Nat) × (List Value)) => match s_ with | ⟨i, vd⟩ => fun (z : Nat → Value) => (([(ag3 D B Q), ub, (ptr gb 0), undef, (Value.pointer none), (eN 0), (ptr cb 0), (z 7), undef, undef, (ag3 D B Q), vT, vF, (ag3 D B Q), (ag3 D B Q), (Value.agg #[(eN D), (eN B), (eN Q), (sli db 0 (D * B * Q) (D * B * Q))]), (ag3 D B Q), (Value.agg #[(eN D), (eN B), (eN Q), (sli zb 0 (D * B * Q) (D * B * Q))]), (Value.agg #[(eN D), (eN B), (eN Q), (eN D), (eN B), (eN Q), (sli db 0 (D * B * Q) (D * B * Q)), (eN D), (eN B), (eN Q), (sli zb 0 (D * B * Q) (D * B * Q)), vN, (eN 0), vN, vF, (eN 0), (eN 0)]), (ptr cb 0), (ptr cb 0), (ptr cb 0), (ptr cb 3), (ptr cb 6), (sli db 0 (D * B * Q) (D * B * Q)), (eN (D * B * Q)), (eN i)] ++ (zs z 27 11 ++ (us 44))) : List Value)) (fun (s_ : (Nat) × (List Value)) => match s_ with | ⟨i, vd⟩ => fun (w_ : World) => (i ≤ D * B * Q) ∧ (Ps (Or1 cb (Or1 zb (Or1 db (Or1 gb (Old W.heap.size))))) (Fam kB i (fun _ => onesW) vd) w_) ∧ Only (Or1 cb (Or1 zb (Or1 db (Or1 gb No)))) w31 w_ ∧ Arr 23 gb [(eN D), (eN B), (eN Q)] w_ ∧ vd.length = D * B * Q ∧ Arr 36 db (vd.map eV) w_ ∧ Arr 37 zb (List.replicate (D * B * Q) vN) w_ ∧ Arr 73 cb [(eN D), (eN B), (eN Q), (eN D), (eN B), (eN Q), (sli db 0 (D * B * Q) (D * B * Q)), (eN D), (eN B), (eN Q), (sli zb 0 (D * B * Q) (D * B * Q)), vN, (eN 0), vN, vF, (eN 0), (eN 0)] w_) (fun (s_ : (Nat) × (List Value)) => match s_ with | ⟨i, vd⟩ => D * B * Q - i) ⟨0, (List.replicate (D * B * Q) vN)⟩ kr ?_ ?_
 ·
  refine ⟨?_, ?_, ?_, ?_, ?_, ?_, ?_, ?_⟩
  ·
   exact Nat.zero_le _
  ·
   exact fun w' _ k hk => absurd hk (Nat.not_lt_zero k)
  ·
   exact Only.refl _ _
  ·
   exact a13
  ·
   exact l_db
  ·
   exact a23
  ·
   exact a29
  ·
   exact a33
 rintro ⟨i, vd⟩ z w36 ⟨hi, hF, o35, a13, l_db, a23, a29, a33⟩
 (try dsimp only)
 replace oW := oW.tail o35 (tl_new g_oW_cb (tl_new g_oW_zb (tl_new g_oW_db (tl_new g_oW_gb tl_no))))
 refine wQ ?_
 refine pL ?_
 refine wI (n_lss (a := i) (b := (D * B * Q)) rfl rfl rfl) ?_
 refine gs ?_
 refine cond_if rfl (fun c37 => ?_) (fun c37 => ?_)
 ·
  refine gs ?_
  refine gS ?_
  refine dpN 7 [6] ?_
  refine gx_ ?_
  refine pz_ ?_
  intro w38 o39
  replace hF := hF.step0 o39
  replace a13 := a13.step0 o39
  replace a23 := a23.step0 o39
  replace a29 := a29.step0 o39
  replace a33 := a33.step0 o39
  replace oW := oW.tail0 o39
  replace o35 := o35.tail0 o39
  refine qO (d_call (xl := []) (al := []) Try.func39 kr rfl rfl rfl (blank_ok _)) ?_
  rintro u42 w40 f43
  replace f43 := f43.ps
  obtain ⟨f43, o41⟩ := f43
  replace f43 := f43.less (Y := (Or1 cb (Or1 zb (Or1 db (Or1 gb (Old W.heap.size)))))) (or1_old a33.lt (or1_old a29.lt (or1_old a23.lt (or1_old a13.lt (old_old oW.size)))))
  replace hF := hF.step0 o41
  replace a13 := a13.step0 o41
  replace a23 := a23.step0 o41
  replace a29 := a29.step0 o41
  replace a33 := a33.step0 o41
  replace oW := oW.tail0 o41
  replace o35 := o35.tail0 o41
  refine qN ?_
  refine wI (dI (n := (D * B * Q)) (i := i) oo) ?_
  refine wO (d_store (b := db) (i := i) (v := u42) s_ti36 rfl rfl (Seq.one f43) a23 (by rw [List.length_map, l_db]; omega) (m_put vd i u42 eV)) ?_
  rintro _ w44 ⟨a45, o46⟩
  replace hF := hF.stepb o46 (in2 (in2 in1))
  replace f43 := f43.stepb o46 (in2 (in2 in1))
  replace a13 := a13.step o46 (fun e => absurd e n_gb_db)
  replace a29 := a29.step o46 (fun e => absurd e (Ne.symm n_db_zb))
  replace a33 := a33.step o46 (fun e => absurd e (Ne.symm n_db_cb))
  replace oW := oW.tailb o46 g_oW_db
  replace o35 := o35.tail o46 (fun k _ e => by have : k = db := e; rw [this]; exact (in2 (in2 in1)))
  replace l_db : (vd.set i u42 : List Value).length = D * B * Q := (List.length_set ..).trans l_db
  refine gs ?_
  refine pL ?_
  refine wI (n_add (a := i) (b := 1) rfl rfl oo) ?_
  refine gs ?_
  refine ⟨_, ⟨i + 1, vd.set i u42⟩, rfl, kr, ⟨?_, ?_, ?_, ?_, ?_, ?_, ?_, ?_⟩, ?_⟩
  ·
   (try dsimp only)
   all_goals (omega)
  ·
   (try dsimp only)
   all_goals (exact fam_next hF f43 (by rw [List.length_set] at l_db; omega))
  ·
   exact o35
  ·
   exact a13
  ·
   exact l_db
  ·
   exact a45
  ·
   exact a29
  ·
   exact a33
  ·
   (try dsimp only)
   all_goals (omega)
 refine gs ?_
 obtain rfl : i = D * B * Q := by omega
 refine gS ?_
 have a47 : Ow 75 1 none vN ([] : List (Nat)).length (([] : List (Nat)).map (eK B)) w36 := Ow.nil _ _ _
 have nq_bk_gb : ∀ x, (none : Option Nat) = some x → ¬ x = gb := fun x e => by cases e
 have nq_bk_db : ∀ x, (none : Option Nat) = some x → ¬ x = db := fun x e => by cases e
 have nq_bk_zb : ∀ x, (none : Option Nat) = some x → ¬ x = zb := fun x e => by cases e
 have nq_bk_cb : ∀ x, (none : Option Nat) = some x → ¬ x = cb := fun x e => by cases e
 have q_oW_bk : Fr none none W.heap.size := Fr.none
 have q_o35_bk : Fr none none w31.heap.size := Fr.none
 replace hF := hF.qnone
 have h_lt_gb := a13.lt
 have h_lt_db := a23.lt
 have h_lt_zb := a29.lt
 have h_lt_cb := a33.lt
 have h_lts_bk := a47.lts
 refine loop2 (fun (s_ : (Nat) × (List Nat) × (Option Nat) × (Value)) => match s_ with | ⟨j, bk, bo_bk, u_bk⟩ => fun (z : Nat → Value) => (([(ag3 D B Q), ub, (ptr gb 0), undef, (Value.pointer none), (eN 0), (ptr cb 0), (z 7), undef, undef, (ag3 D B Q), vT, vF, (ag3 D B Q), (ag3 D B Q), (Value.agg #[(eN D), (eN B), (eN Q), (sli db 0 (D * B * Q) (D * B * Q))]), (ag3 D B Q), (Value.agg #[(eN D), (eN B), (eN Q), (sli zb 0 (D * B * Q) (D * B * Q))]), (Value.agg #[(eN D), (eN B), (eN Q), (eN D), (eN B), (eN Q), (sli db 0 (D * B * Q) (D * B * Q)), (eN D), (eN B), (eN Q), (sli zb 0 (D * B * Q) (D * B * Q)), vN, (eN 0), vN, vF, (eN 0), (eN 0)]), (ptr cb 0), (ptr cb 0), (ptr cb 0), (ptr cb 3), (ptr cb 6), (sli db 0 (D * B * Q) (D * B * Q)), (eN (D * B * Q)), (eN (D * B * Q)), (Value.bool (decide ((D * B * Q) < (D * B * Q))))] ++ (zs z 28 10 ++ [(ptr gb 0), (eN D), (eN j)] ++ (zs z 41 14 ++ (us 27)))) : List Value)) (fun (s_ : (Nat) × (List Nat) × (Option Nat) × (Value)) => match s_ with | ⟨j, bk, bo_bk, u_bk⟩ => fun (w_ : World) => (j ≤ D) ∧ (bk.length = j) ∧ (bk.Nodup) ∧ (∀ x ∈ bk, x ≠ cb ∧ x ≠ db ∧ x ≠ zb ∧ W.heap.size ≤ x ∧ x < w_.heap.size) ∧ (∀ x, bo_bk = some x → x ∉ bk) ∧ (Ps (Orq bo_bk (Or1 cb (Or1 zb (Or1 db (Or1 gb (Old W.heap.size)))))) (fun w => ∀ q, q < j → Arr 77 (bk.getD q 0) (stC B (fun _ => St0)) w) w_) ∧ (Ps (Orq bo_bk (Or1 cb (Or1 zb (Or1 db (Or1 gb (fun k => k ∈ bk ∨ Old W.heap.size k)))))) (Fam kB (D * B * Q) (fun _ => onesW) vd) w_) ∧ Only (Orq none (Or1 cb (Or1 zb (Or1 db (Or1 gb No))))) w36 w_ ∧ Arr 23 gb [(eN D), (eN B), (eN Q)] w_ ∧ Arr 36 db (vd.map eV) w_ ∧ Arr 37 zb (List.replicate (D * B * Q) vN) w_ ∧ Arr 73 cb [(eN D), (eN B), (eN Q), (eN D), (eN B), (eN Q), (sli db 0 (D * B * Q) (D * B * Q)), (eN D), (eN B), (eN Q), (sli zb 0 (D * B * Q) (D * B * Q)), u_bk, (eN 0), vN, vF, (eN 0), (eN 0)] w_ ∧ Ow 75 1 bo_bk u_bk (bk).length ((bk).map (eK B)) w_ ∧ Fr bo_bk none w36.heap.size) (fun (s_ : (Nat) × (List Nat) × (Option Nat) × (Value)) => match s_ with | ⟨j, bk, bo_bk, u_bk⟩ => D - j) ⟨0, [], none, vN⟩ kr ?_ ?_
 ·
  refine ⟨?_, ?_, ?_, ?_, ?_, ?_, ?_, ?_, ?_, ?_, ?_, ?_, ?_, ?_⟩
  ·
   exact Nat.zero_le _
  ·
   exact rfl
  ·
   exact List.nodup_nil
  ·
   exact fun x hx => by cases hx
  ·
   exact fun x hx => by cases hx
  ·
   exact fun w' _ q hq => absurd hq (Nat.not_lt_zero q)
  ·
   (try dsimp only)
   all_goals (exact hF.less (by intro k _ h; simp only [Or1, Orq] at h ⊢; grind))
  ·
   exact Only.refl _ _
  ·
   exact a13
  ·
   exact a23
  ·
   exact a29
  ·
   exact a33
  ·
   exact a47
  ·
   exact Fr.same
 rintro ⟨j, bk, bo_bk, u_bk⟩ z w49 ⟨hi2, hl, hn, hb, hbo, hK, hG, o48, a13, a23, a29, a33, a47, qq_bk⟩
 (try dsimp only)
 have tq_oW := oW.size
 replace oW := oW.tail o48 (tl_q q_oW_bk (fun _ e => by cases e) (tl_new g_oW_cb (tl_new g_oW_zb (tl_new g_oW_db (tl_new g_oW_gb tl_no)))))
 replace q_oW_bk := qtr qq_bk q_oW_bk tq_oW
 have tq_o35 := o35.size
 replace o35 := o35.tail o48 (tl_q q_o35_bk (fun _ e => by cases e) (tl_in in1 (tl_in (in2 in1) (tl_in (in2 (in2 in1)) (tl_in (in2 (in2 (in2 in1))) tl_no)))))
 replace q_o35_bk := qtr qq_bk q_o35_bk tq_o35
 replace nq_bk_gb := nqs nq_bk_gb qq_bk h_lt_gb
 replace nq_bk_db := nqs nq_bk_db qq_bk h_lt_db
 replace nq_bk_zb := nqs nq_bk_zb qq_bk h_lt_zb
 replace nq_bk_cb := nqs nq_bk_cb qq_bk h_lt_cb
 have q_o48_bk := qq_bk
 have oH : Only (Orq bo_bk (Or1 cb (Or1 zb (Or1 db (Or1 gb No))))) w49 w49 := Only.refl _ _
 have q_oH_bk : Fr bo_bk bo_bk w49.heap.size := Fr.same
 refine wQ ?_
 refine pL ?_
 refine wI (n_lss (a := j) (b := D) rfl rfl rfl) ?_
 refine gs ?_
 refine cond_if rfl (fun c50 => ?_) (fun c50 => ?_)
 ·
  refine gs ?_
  have hX0_ : ∀ k, (Orq bo_bk (Or1 cb (Or1 zb (Or1 db (Or1 gb (Old W.heap.size)))))) k → k < w49.heap.size := (lt_orq a47.lts (lt_or1 a33.lt (lt_or1 a29.lt (lt_or1 a23.lt (lt_or1 a13.lt (fun k t => Nat.lt_of_lt_of_le t oW.size))))))
  have hO0_ : ∀ k, (Orq bo_bk (Or1 cb (Or1 zb (Or1 db (Or1 gb No))))) k → k < w49.heap.size := fun k h => hX0_ k ((orq_mono (or1_mono (or1_mono (or1_mono (or1_mono no_any))))) k h)
  refine drawnF (O := (Orq bo_bk (Or1 cb (Or1 zb (Or1 db (Or1 gb No)))))) (n := 13) [0] [9, 10, 11, 12] (fun i_ => nth [(ptr cb 0)] i_) 9 [0, 0, 2, 6, 14, 0, 32, 96, 224, 510, 1023, 2047, 4095] [(0, 42), (1, 43), (2, 44), (3, 45), (4, 46), (5, 47), (6, 48), (7, 49), (8, 50), (9, 51), (10, 52), (11, 53)] [(0, 42), (1, 43), (2, 44), (3, 45), (4, 46), (5, 47), (6, 48), (7, 49), (8, 50)] [0, 1, 2, 3, 4, 5, 6, 7, 8] [] (fun i_ => ([RF.is (Orq bo_bk (Or1 cb (Or1 zb (Or1 db (Or1 gb No))))) (ptr cb 0), RF.is (Orq bo_bk (Or1 cb (Or1 zb (Or1 db (Or1 gb No))))) (ptr cb 0), RF.is (Orq bo_bk (Or1 cb (Or1 zb (Or1 db (Or1 gb No))))) (ptr cb 0), RF.is (Orq bo_bk (Or1 cb (Or1 zb (Or1 db (Or1 gb No))))) (ptr cb 11), RF.is (Orq bo_bk (Or1 cb (Or1 zb (Or1 db (Or1 gb No))))) u_bk, RF.is (Orq bo_bk (Or1 cb (Or1 zb (Or1 db (Or1 gb No))))) (ptr gb 1), RF.is (Orq bo_bk (Or1 cb (Or1 zb (Or1 db (Or1 gb No))))) (eN B), RF.mk_ (Orq bo_bk (Or1 cb (Or1 zb (Or1 db (Or1 gb No))))) (fun b_ => (sli b_ 0 B B)) 77 (stC B (fun _ => St0)) w49.heap.size hO0_, RF.mkv_ (Orq bo_bk (Or1 cb (Or1 zb (Or1 db (Or1 gb No))))) (fun b_ => (sli b_ 0 1 1)) 75 (fun v51 => [(v51 7)]) w49.heap.size hO0_] : List (RF (Orq bo_bk (Or1 cb (Or1 zb (Or1 db (Or1 gb No))))))).getD i_ (RF.any (Orq bo_bk (Or1 cb (Or1 zb (Or1 db (Or1 gb No))))))) (fun _ w_ => Arr 23 gb [(eN D), (eN B), (eN Q)] w_ ∧ Arr 36 db (vd.map eV) w_ ∧ Arr 37 zb (List.replicate (D * B * Q) vN) w_ ∧ Arr 73 cb [(eN D), (eN B), (eN Q), (eN D), (eN B), (eN Q), (sli db 0 (D * B * Q) (D * B * Q)), (eN D), (eN B), (eN Q), (sli zb 0 (D * B * Q) (D * B * Q)), u_bk, (eN 0), vN, vF, (eN 0), (eN 0)] w_ ∧ Ow 75 1 bo_bk u_bk (bk).length ((bk).map (eK B)) w_) (fun v51 => ([(ag3 D B Q), ub, (ptr gb 0), undef, (Value.pointer none), (eN 0), (ptr cb 0), (z 7), undef, undef, (ag3 D B Q), vT, vF, (ag3 D B Q), (ag3 D B Q), (Value.agg #[(eN D), (eN B), (eN Q), (sli db 0 (D * B * Q) (D * B * Q))]), (ag3 D B Q), (Value.agg #[(eN D), (eN B), (eN Q), (sli zb 0 (D * B * Q) (D * B * Q))]), (Value.agg #[(eN D), (eN B), (eN Q), (eN D), (eN B), (eN Q), (sli db 0 (D * B * Q) (D * B * Q)), (eN D), (eN B), (eN Q), (sli zb 0 (D * B * Q) (D * B * Q)), vN, (eN 0), vN, vF, (eN 0), (eN 0)]), (ptr cb 0), (ptr cb 0), (ptr cb 0), (ptr cb 3), (ptr cb 6), (sli db 0 (D * B * Q) (D * B * Q)), (eN (D * B * Q)), (eN (D * B * Q)), (Value.bool (decide ((D * B * Q) < (D * B * Q))))] ++ (zs z 28 10 ++ [(ptr gb 0), (eN D), (eN j), (Value.bool (decide (j < D))), (v51 0), (v51 1), (v51 2), (v51 3), (v51 4), (v51 5), (v51 6), (v51 7), (v51 8), (v51 9), (v51 10), (v51 11), (z 54)] ++ (us 27)))) (fun v51 => ([(ag3 D B Q), ub, (ptr gb 0), undef, (Value.pointer none), (eN 0), (ptr cb 0), (z 7), undef, undef, (ag3 D B Q), vT, vF, (ag3 D B Q), (ag3 D B Q), (Value.agg #[(eN D), (eN B), (eN Q), (sli db 0 (D * B * Q) (D * B * Q))]), (ag3 D B Q), (Value.agg #[(eN D), (eN B), (eN Q), (sli zb 0 (D * B * Q) (D * B * Q))]), (Value.agg #[(eN D), (eN B), (eN Q), (eN D), (eN B), (eN Q), (sli db 0 (D * B * Q) (D * B * Q)), (eN D), (eN B), (eN Q), (sli zb 0 (D * B * Q) (D * B * Q)), vN, (eN 0), vN, vF, (eN 0), (eN 0)]), (ptr cb 0), (ptr cb 0), (ptr cb 0), (ptr cb 3), (ptr cb 6), (sli db 0 (D * B * Q) (D * B * Q)), (eN (D * B * Q)), (eN (D * B * Q)), (Value.bool (decide ((D * B * Q) < (D * B * Q))))] ++ (zs z 28 10 ++ [(ptr gb 0), (eN D), (eN j), (Value.bool (decide (j < D))), (v51 0), (v51 1), (v51 2), (v51 3), (v51 4), (v51 5), (v51 6), (v51 7), (v51 8), (z 51), (z 52), (z 53), (z 54)] ++ (us 27)))) s_mx kr rfl (by decide) (by rfl) kr kr kr kr (fun l2_ w_ hl_ hn_ => fl_cons (fl_move (t := 6) hn_ kr (by rfl) (by rfl)) (fl_nil)) (fl_cons (by rfl) (fl_nil)) kr kr (by rfl) (fun v_ => by kernel_rfl) (fun v_ => by kernel_rfl) (fun _ => fun w_ w2_ h ho => by obtain ⟨r_a13, r_a23, r_a29, r_a33, r_a47⟩ := h; exact ⟨r_a13.step0 ho, r_a23.step0 ho, r_a29.step0 ho, r_a33.step0 ho, r_a47.step0 ho⟩) ⟨a13, a23, a29, a33, a47⟩ ?_ ?_ ?_
  ·
   refine ls_cons ?_ ?_
   ·
    intro v51 lo hi w_ k_ hO hd _ _ hk_ _ hR hold
    obtain ⟨r_a13, r_a23, r_a29, r_a33, r_a47⟩ := hR
    clear hd hold
    refine ⟨_, rfl, gd rfl ?_⟩
    exact Does.is (d_move rfl)
   refine ls_cons ?_ ?_
   ·
    intro v51 lo hi w_ k_ hO hd _ _ hk_ _ hR hold
    obtain ⟨r_a13, r_a23, r_a29, r_a33, r_a47⟩ := hR
    clear hd hold
    refine ⟨_, rfl, gd rfl ?_⟩
    exact Does.is (d_move rfl)
   refine ls_cons ?_ ?_
   ·
    intro v51 lo hi w_ k_ hO hd _ _ hk_ _ hR hold
    obtain ⟨r_a13, r_a23, r_a29, r_a33, r_a47⟩ := hR
    have e1 : v51 1 = (ptr cb 0) := hd 1 kr
    clear hd hold
    refine ⟨_, rfl, gd rfl ?_⟩
    exact Does.is (d_nilCheck (b := cb) (o := 0) e1)
   refine ls_cons ?_ ?_
   ·
    intro v51 lo hi w_ k_ hO hd _ _ hk_ _ hR hold
    obtain ⟨r_a13, r_a23, r_a29, r_a33, r_a47⟩ := hR
    have e2 : v51 2 = (ptr cb 0) := hd 2 kr
    clear hd hold
    refine ⟨_, rfl, gd rfl ?_⟩
    exact Does.is (d_fieldAddr (j := 11) Try.underlying73 rfl s_ti71 (by decide) e2 rfl)
   refine ls_cons ?_ ?_
   ·
    intro v51 lo hi w_ k_ hO hd _ _ hk_ _ hR hold
    obtain ⟨r_a13, r_a23, r_a29, r_a33, r_a47⟩ := hR
    have e3 : v51 3 = (ptr cb 11) := hd 3 kr
    clear hd hold
    refine ⟨_, rfl, gd rfl ?_⟩
    exact Does.is (d_load (v := u_bk) ⟨_, Try.underlying71, rfl⟩ e3 r_a33 rfl)
   refine ls_cons ?_ ?_
   ·
    intro v51 lo hi w_ k_ hO hd _ _ hk_ _ hR hold
    obtain ⟨r_a13, r_a23, r_a29, r_a33, r_a47⟩ := hR
    clear hd hold
    refine ⟨_, rfl, gd rfl ?_⟩
    exact Does.is (d_fieldAddr (j := 1) Try.underlying23 rfl s_ti3 (by decide) rfl rfl)
   refine ls_cons ?_ ?_
   ·
    intro v51 lo hi w_ k_ hO hd _ _ hk_ _ hR hold
    obtain ⟨r_a13, r_a23, r_a29, r_a33, r_a47⟩ := hR
    have e5 : v51 5 = (ptr gb 1) := hd 5 kr
    clear hd hold
    refine ⟨_, rfl, gd rfl ?_⟩
    exact Does.is (d_load (v := (eN B)) ⟨_, Try.underlying3, rfl⟩ e5 r_a13 rfl)
   refine ls_cons ?_ ?_
   ·
    intro v51 lo hi w_ k_ hO hd _ _ hk_ _ hR hold
    obtain ⟨r_a13, r_a23, r_a29, r_a33, r_a47⟩ := hR
    have e6 : v51 6 = (eN B) := hd 6 kr
    clear hd hold
    refine ⟨_, rfl, gd rfl ?_⟩
    refine Does.mono (d_make (n := B) (cs := (stC B (fun _ => St0))) Try.underlying75 s_ti77 e6 e6 oo oo (made_st B)) (fun u w' h => by obtain ⟨b_, rfl, hb_, hA_, hO_⟩ := h; exact ⟨⟨b_, rfl, hA_, Nat.le_trans hO.size hb_⟩, hO_⟩)
   refine ls_cons ?_ ?_
   ·
    intro v51 lo hi w_ k_ hO hd _ _ hk_ _ hR hold
    obtain ⟨r_a13, r_a23, r_a29, r_a33, r_a47⟩ := hR
    obtain ⟨mb7, me7, ma7, mf7⟩ : ∃ b_, v51 7 = (fun b_ => (sli b_ 0 B B)) b_ ∧ Arr 77 b_ (stC B (fun _ => St0)) w_ ∧ w49.heap.size ≤ b_ := hd 7 kr
    clear hd hold
    refine ⟨_, rfl, gd rfl ?_⟩
    refine Does.mono (d_buildL (cs := [(v51 7)]) Try.underlying71 s_ti75 rfl (nb rfl) (parts_cons (vs := [(v51 7)]) (cells_of (v := (v51 7)) rfl (by rw [me7]; rfl)) parts_nil) rfl) (fun u w' h => by obtain ⟨b_, rfl, hb_, hA_, hO_⟩ := h; exact ⟨⟨b_, rfl, hA_, Nat.le_trans hO.size hb_⟩, hO_⟩)
   exact ls_nil
  ·
   exact ms_nil
  intro v51 lo_ hi_ w52 o53 hd hR
  have e0 : v51 0 = (ptr cb 0) := hd 0 (by decide)
  have e1 : v51 1 = (ptr cb 0) := hd 1 (by decide)
  have e2 : v51 2 = (ptr cb 0) := hd 2 (by decide)
  have e3 : v51 3 = (ptr cb 11) := hd 3 (by decide)
  have e4 : v51 4 = u_bk := hd 4 (by decide)
  have e5 : v51 5 = (ptr gb 1) := hd 5 (by decide)
  have e6 : v51 6 = (eN B) := hd 6 (by decide)
  obtain ⟨b49, e7, a54, g55⟩ : ∃ b_, v51 7 = (fun b_ => (sli b_ 0 B B)) b_ ∧ Arr 77 b_ (stC B (fun _ => St0)) w52 ∧ w49.heap.size ≤ b_ := hd 7 (by decide)
  dsimp only at e7
  have n_gb_b49 : gb ≠ b49 := a13.ne g55
  have n_db_b49 : db ≠ b49 := a23.ne g55
  have n_zb_b49 : zb ≠ b49 := a29.ne g55
  have n_cb_b49 : cb ≠ b49 := a33.ne g55
  have nq_bk_b49 : ∀ x, bo_bk = some x → ¬ x = b49 := fun x hx e => by have := a47.lts x hx; omega
  have g_oW_b49 : W.heap.size ≤ b49 := Nat.le_trans oW.size g55
  have g_o35_b49 : w31.heap.size ≤ b49 := Nat.le_trans o35.size g55
  have g_o48_b49 : w36.heap.size ≤ b49 := Nat.le_trans o48.size g55
  have g_oH_b49 : w49.heap.size ≤ b49 := Nat.le_trans oH.size g55
  obtain ⟨b50, e8, a56, g57⟩ : ∃ b_, v51 8 = (fun b_ => (sli b_ 0 1 1)) b_ ∧ Arr 75 b_ [(v51 7)] w52 ∧ w49.heap.size ≤ b_ := hd 8 (by decide)
  dsimp only at e8
  have n_gb_b50 : gb ≠ b50 := a13.ne g57
  have n_db_b50 : db ≠ b50 := a23.ne g57
  have n_zb_b50 : zb ≠ b50 := a29.ne g57
  have n_cb_b50 : cb ≠ b50 := a33.ne g57
  have nq_bk_b50 : ∀ x, bo_bk = some x → ¬ x = b50 := fun x hx e => by have := a47.lts x hx; omega
  have g_oW_b50 : W.heap.size ≤ b50 := Nat.le_trans oW.size g57
  have g_o35_b50 : w31.heap.size ≤ b50 := Nat.le_trans o35.size g57
  have g_o48_b50 : w36.heap.size ≤ b50 := Nat.le_trans o48.size g57
  have g_oH_b50 : w49.heap.size ≤ b50 := Nat.le_trans oH.size g57
  have n_b49_b50 : b49 ≠ b50 := arr_ne a54 a56 (by decide)
  rw [e7] at a56
  replace a56 : Arr 75 b50 (([b49] : List Nat).map (eK B)) w52 := a56
  clear hd lo_ hi_
  refine wS.flat ([(ag3 D B Q), ub, (ptr gb 0), undef, (Value.pointer none), (eN 0), (ptr cb 0), (z 7), undef, undef, (ag3 D B Q), vT, vF, (ag3 D B Q), (ag3 D B Q), (Value.agg #[(eN D), (eN B), (eN Q), (sli db 0 (D * B * Q) (D * B * Q))]), (ag3 D B Q), (Value.agg #[(eN D), (eN B), (eN Q), (sli zb 0 (D * B * Q) (D * B * Q))]), (Value.agg #[(eN D), (eN B), (eN Q), (eN D), (eN B), (eN Q), (sli db 0 (D * B * Q) (D * B * Q)), (eN D), (eN B), (eN Q), (sli zb 0 (D * B * Q) (D * B * Q)), vN, (eN 0), vN, vF, (eN 0), (eN 0)]), (ptr cb 0), (ptr cb 0), (ptr cb 0), (ptr cb 3), (ptr cb 6), (sli db 0 (D * B * Q) (D * B * Q)), (eN (D * B * Q)), (eN (D * B * Q)), (Value.bool (decide ((D * B * Q) < (D * B * Q))))] ++ (zs z 28 10 ++ [(ptr gb 0), (eN D), (eN j), (Value.bool (decide (j < D))), (ptr cb 0), (ptr cb 0), (ptr cb 0), (ptr cb 11), u_bk, (ptr gb 1), (eN B), (sli b49 0 B B), (sli b50 0 1 1), (z 51), (z 52), (z 53), (z 54)] ++ (us 27))) (by rw [e0, e1, e2, e3, e4, e5, e6, e7, e8] <;> rfl) ?_
  clear e0 e1 e2 e3 e4 e5 e6 e7 e8
  replace hG := ((hG.less (Y := (Or1 b49 (Orq bo_bk (Or1 cb (Or1 zb (Or1 db (Or1 gb (fun k => k ∈ bk ∨ Old W.heap.size k)))))))) (xx_new g55 xx_id)).less (Y := (Or1 b50 (Or1 b49 (Orq bo_bk (Or1 cb (Or1 zb (Or1 db (Or1 gb (fun k => k ∈ bk ∨ Old W.heap.size k))))))))) (xx_new g57 xx_id)).step o53 (or1_skip (or1_skip (orq_mono (or1_mono (or1_mono (or1_mono (or1_mono no_any)))))))
  replace hK := ((hK.less (Y := (Or1 b49 (Orq bo_bk (Or1 cb (Or1 zb (Or1 db (Or1 gb (Old W.heap.size)))))))) (xx_new g55 xx_id)).less (Y := (Or1 b50 (Or1 b49 (Orq bo_bk (Or1 cb (Or1 zb (Or1 db (Or1 gb (Old W.heap.size))))))))) (xx_new g57 xx_id)).step o53 (or1_skip (or1_skip (orq_mono (or1_mono (or1_mono (or1_mono (or1_mono no_any)))))))
  obtain ⟨xr_a13, xr_a23, xr_a29, xr_a33, xr_a47⟩ := hR
  replace a13 : Arr 23 gb [(eN D), (eN B), (eN Q)] w52 := xr_a13
  replace a23 : Arr 36 db (vd.map eV) w52 := xr_a23
  replace a29 : Arr 37 zb (List.replicate (D * B * Q) vN) w52 := xr_a29
  replace a33 : Arr 73 cb [(eN D), (eN B), (eN Q), (eN D), (eN B), (eN Q), (sli db 0 (D * B * Q) (D * B * Q)), (eN D), (eN B), (eN Q), (sli zb 0 (D * B * Q) (D * B * Q)), u_bk, (eN 0), vN, vF, (eN 0), (eN 0)] w52 := xr_a33
  replace a47 : Ow 75 1 bo_bk u_bk (bk).length ((bk).map (eK B)) w52 := xr_a47
  clear xr_a13 xr_a23 xr_a29 xr_a33 xr_a47
  replace oW := oW.tail o53 (tl_q q_oW_bk (fun _ e => by cases e) (tl_new g_oW_cb (tl_new g_oW_zb (tl_new g_oW_db (tl_new g_oW_gb tl_no)))))
  replace o35 := o35.tail o53 (tl_q q_o35_bk (fun _ e => by cases e) (tl_in in1 (tl_in (in2 in1) (tl_in (in2 (in2 in1)) (tl_in (in2 (in2 (in2 in1))) tl_no)))))
  replace o48 := o48.tail o53 (tl_q q_o48_bk (fun k e => (.inl e)) (tl_in (inq in1) (tl_in (inq (in2 in1)) (tl_in (inq (in2 (in2 in1))) (tl_in (inq (in2 (in2 (in2 in1)))) tl_no)))))
  replace oH := oH.tail o53 (tl_q q_oH_bk (fun k e => (.inl e)) (tl_in (inq in1) (tl_in (inq (in2 in1)) (tl_in (inq (in2 (in2 in1))) (tl_in (inq (in2 (in2 (in2 in1)))) tl_no)))))
  have l_b50 : (([b49] : List Nat) : List Nat).length = 1 := by simp
  refine wS.op rfl rfl (d_append Try.underlying71 Try.underlying71 s_ti75 rfl rfl rfl a47 (SrcV.of_seq (arr_seq a56 l_b50 (Nat.le_refl _)) (fun _ => rfl)) (by simp; omega) (by simp; omega) rfl) ?_
  rintro u58 w59 ⟨bo60, a61, o62, q63⟩
  replace a61 : Ow 75 1 bo60 u58 (bk ++ ([b49] : List Nat)).length ((bk ++ ([b49] : List Nat)).map (eK B)) w59 := by rw [List.length_append, List.map_append]; exact a61
  replace hG := hG.gr o62 (fun k e => (.inr (.inr (.inl e)))) (xx_or1 (xx_or1 (xx_re (Fr.of_or q63) (xx_or1 (xx_or1 (xx_or1 (xx_or1 xx_id)))))))
  replace hK := hK.gr o62 (fun k e => (.inr (.inr (.inl e)))) (xx_or1 (xx_or1 (xx_re (Fr.of_or q63) (xx_or1 (xx_or1 (xx_or1 (xx_or1 xx_id)))))))
  have nq2 := nqs nq_bk_gb (Fr.of_or q63) a13.lt
  replace a13 := a13.step o62 (fun e => nq_bk_gb _ e rfl)
  replace nq_bk_gb := nq2
  clear nq2
  have nq2 := nqs nq_bk_db (Fr.of_or q63) a23.lt
  replace a23 := a23.step o62 (fun e => nq_bk_db _ e rfl)
  replace nq_bk_db := nq2
  clear nq2
  have nq2 := nqs nq_bk_zb (Fr.of_or q63) a29.lt
  replace a29 := a29.step o62 (fun e => nq_bk_zb _ e rfl)
  replace nq_bk_zb := nq2
  clear nq2
  have nq2 := nqs nq_bk_cb (Fr.of_or q63) a33.lt
  replace a33 := a33.step o62 (fun e => nq_bk_cb _ e rfl)
  replace nq_bk_cb := nq2
  clear nq2
  have nq2 := nqs nq_bk_b49 (Fr.of_or q63) a54.lt
  replace a54 := a54.step o62 (fun e => nq_bk_b49 _ e rfl)
  replace nq_bk_b49 := nq2
  clear nq2
  have nq2 := nqs nq_bk_b50 (Fr.of_or q63) a56.lt
  replace a56 := a56.step o62 (fun e => nq_bk_b50 _ e rfl)
  replace nq_bk_b50 := nq2
  clear nq2
  have tq := oW.size
  replace oW := oW.tailr o62 q_oW_bk (fun _ e => by cases e)
  replace q_oW_bk := qtr (Fr.of_or q63) q_oW_bk tq
  clear tq
  have tq := o35.size
  replace o35 := o35.tailr o62 q_o35_bk (fun _ e => by cases e)
  replace q_o35_bk := qtr (Fr.of_or q63) q_o35_bk tq
  clear tq
  have tq := o48.size
  replace o48 := o48.tailr o62 q_o48_bk (fun k e => (.inl e))
  replace q_o48_bk := qtr (Fr.of_or q63) q_o48_bk tq
  clear tq
  have tq := oH.size
  replace oH := oH.tailr o62 q_oH_bk (fun k e => (.inl e))
  replace q_oH_bk := qtr (Fr.of_or q63) q_oH_bk tq
  clear tq
  refine wS.is rfl rfl (d_nilCheck (b := cb) (o := 0) rfl) ?_
  refine wS.is rfl rfl (d_fieldAddr (j := 11) Try.underlying73 rfl s_ti71 (by decide) rfl rfl) ?_
  refine wS.op rfl rfl (d_store s_ti71 rfl rfl (Ow.one a61) a33 (nb rfl) rfl) ?_
  rintro _ w64 ⟨a65, o66⟩
  replace hG := hG.stepb o66 (in2 (in2 (inq in1)))
  replace hK := hK.stepb o66 (in2 (in2 (inq in1)))
  replace a13 := a13.step o66 (fun e => absurd e n_gb_cb)
  replace a23 := a23.step o66 (fun e => absurd e n_db_cb)
  replace a29 := a29.step o66 (fun e => absurd e n_zb_cb)
  replace a54 := a54.step o66 (fun e => absurd e (Ne.symm n_cb_b49))
  replace a56 := a56.step o66 (fun e => absurd e (Ne.symm n_cb_b50))
  replace a61 := a61.step o66 (fun x hx e => nq_bk_cb x hx e)
  replace oW := oW.tailb o66 g_oW_cb
  replace o35 := o35.tail o66 (fun k _ e => by have : k = cb := e; rw [this]; exact in1)
  replace o48 := o48.tail o66 (fun k _ e => by have : k = cb := e; rw [this]; exact (inq in1))
  replace oH := oH.tail o66 (fun k _ e => by have : k = cb := e; rw [this]; exact (inq in1))
  refine wS.flat ([(ag3 D B Q), ub, (ptr gb 0), undef, (Value.pointer none), (eN 0), (ptr cb 0), (z 7), undef, undef, (ag3 D B Q), vT, vF, (ag3 D B Q), (ag3 D B Q), (Value.agg #[(eN D), (eN B), (eN Q), (sli db 0 (D * B * Q) (D * B * Q))]), (ag3 D B Q), (Value.agg #[(eN D), (eN B), (eN Q), (sli zb 0 (D * B * Q) (D * B * Q))]), (Value.agg #[(eN D), (eN B), (eN Q), (eN D), (eN B), (eN Q), (sli db 0 (D * B * Q) (D * B * Q)), (eN D), (eN B), (eN Q), (sli zb 0 (D * B * Q) (D * B * Q)), vN, (eN 0), vN, vF, (eN 0), (eN 0)]), (ptr cb 0), (ptr cb 0), (ptr cb 0), (ptr cb 3), (ptr cb 6), (sli db 0 (D * B * Q) (D * B * Q)), (eN (D * B * Q)), (eN (D * B * Q)), (Value.bool (decide ((D * B * Q) < (D * B * Q))))] ++ (zs z 28 10 ++ [(ptr gb 0), (eN D), (eN j), (Value.bool (decide (j < D))), (ptr cb 0), (ptr cb 0), (ptr cb 0), (ptr cb 11), u_bk, (ptr gb 1), (eN B), (sli b49 0 B B), (sli b50 0 1 1), u58, (ptr cb 0), (ptr cb 11), (z 54)] ++ (us 27))) kr ?_
  refine wS.done ?_
  refine inb_n (tN ?_)
  refine pL ?_
  refine wI (n_add (a := j) (b := 1) rfl rfl oo) ?_
  refine gs ?_
  have szH := oH.size
  have gH := g_oH_b49
  refine ⟨_, ⟨j + 1, bk ++ [b49], bo60, u58⟩, rfl, kr, ⟨?_, ?_, ?_, ?_, ?_, ?_, ?_, ?_, ?_, ?_, ?_, ?_, ?_, ?_⟩, ?_⟩
  ·
   (try dsimp only)
   all_goals (omega)
  ·
   (try dsimp only)
   all_goals (rw [List.length_append, hl, List.length_singleton])
  ·
   (try dsimp only)
   all_goals (rw [List.nodup_append]; exact ⟨hn, List.nodup_cons.2 ⟨List.not_mem_nil, List.nodup_nil⟩, fun x hx y hy => by rw [List.mem_singleton.1 hy]; have := (hb x hx).2.2.2.2; omega⟩)
  ·
   (try dsimp only)
   all_goals (intro x hx; rcases List.mem_append.1 hx with hx | hx; (obtain ⟨h1, h2, h3, h4, h5⟩ := hb x hx; exact ⟨h1, h2, h3, h4, by omega⟩); (rw [List.mem_singleton.1 hx]; exact ⟨Ne.symm n_cb_b49, Ne.symm n_db_b49, Ne.symm n_zb_b49, g_oW_b49, a54.lt⟩))
  ·
   (try dsimp only)
   all_goals (intro x hx hm; rcases List.mem_append.1 hm with hm | hm; (rcases q_oH_bk x hx with h | h; (exact hbo x h hm); (have := (hb x hm).2.2.2.2; omega)); (exact nq_bk_b49 x hx (List.mem_singleton.1 hm)))
  ·
   exact kst_next (hK.less (xx_skip (xx_skip (xx_orq (xx_or1 (xx_or1 (xx_or1 (xx_or1 xx_id)))))))) ((a54.ps fun _ h => h).less (nx_orq nq_bk_b49 (nx_or1 n_cb_b49 (nx_or1 n_zb_b49 (nx_or1 n_db_b49 (nx_or1 n_gb_b49 (old_ne g_oW_b49))))))) hl
  ·
   (try dsimp only)
   all_goals (exact hG.less (by intro k _ h; simp only [Or1, Orq, List.mem_append, List.mem_singleton] at h ⊢; grind))
  ·
   exact o48
  ·
   exact a13
  ·
   exact a23
  ·
   exact a29
  ·
   exact a65
  ·
   exact a61
  ·
   exact q_o48_bk
  ·
   (try dsimp only)
   all_goals (omega)
 refine gs ?_
 have hjD : j = D := by omega
 rw [hjD] at hK hl
 obtain ⟨Lq, eL, hN, hfr⟩ : ∃ Lq : NL, cb = Lq.bN ∧ Nd Lq (NS.new D B Q (fun _ _ => false)) (Old W.heap.size) w49 ∧ ∀ k, Lq.S k → W.heap.size ≤ k := ⟨⟨73, 36, 37, 77, cb, db, zb, bo_bk, u_bk, bk⟩, rfl, nd_new hD hB hQ a33 a23 a29 a47 hK (hG.less (by intro k _ h; simp only [Or1, Orq] at h ⊢; grind)) l_db hl oW (Ne.symm n_db_cb) (Ne.symm n_zb_cb) n_db_zb hn (fun x hx => by obtain ⟨h1, h2, h3, h4, h5⟩ := hb x hx; have := oH.size; exact ⟨h1, h2, h3, h4, by omega⟩) (fun x hx => ⟨nq_bk_cb x hx, nq_bk_db x hx, nq_bk_zb x hx, hbo x hx, (q_oW_bk x hx).elim (fun e => by cases e) id, a47.lts x hx⟩) g_oW_cb g_oW_db g_oW_zb⟩
 have h2 : Ps (Ors Lq.S No) (Seq (kA 2 eQ) lb ub) w49 := h2W.re oW (fun _ t => t.elim) (xx_news hfr xx_id)
 have g_oW_Lq := hfr
 refine rsC 6 (show (ptr cb 0) = (ptr Lq.bN 0) from congrArg (fun x_ => ptr x_ 0) eL) ?_
 refine gS ?_
 refine wI (dN h2) ?_
 refine gs ?_
 refine loop2 (fun (s_ : (Nat) × (NS)) => match s_ with | ⟨i6, s6⟩ => fun (z : Nat → Value) => (([(ag3 D B Q), ub, (ptr gb 0), undef, (z 4), (z 5), (ptr Lq.bN 0), (z 7), undef, (z 9), (ag3 D B Q), vT, vF, (ag3 D B Q), (ag3 D B Q), (Value.agg #[(eN D), (eN B), (eN Q), (sli db 0 (D * B * Q) (D * B * Q))]), (ag3 D B Q), (Value.agg #[(eN D), (eN B), (eN Q), (sli zb 0 (D * B * Q) (D * B * Q))]), (Value.agg #[(eN D), (eN B), (eN Q), (eN D), (eN B), (eN Q), (sli db 0 (D * B * Q) (D * B * Q)), (eN D), (eN B), (eN Q), (sli zb 0 (D * B * Q) (D * B * Q)), vN, (eN 0), vN, vF, (eN 0), (eN 0)]), (ptr cb 0), (ptr cb 0), (ptr cb 0), (ptr cb 3), (ptr cb 6), (sli db 0 (D * B * Q) (D * B * Q)), (eN (D * B * Q)), (eN (D * B * Q)), (Value.bool (decide ((D * B * Q) < (D * B * Q))))] ++ (zs z 28 10 ++ [(ptr gb 0), (eN D), (eN j), (Value.bool (decide (j < D)))] ++ (zs z 42 13 ++ [ub, (eN lb.length), (eN i6)] ++ (zs z 58 23 ++ [undef])))) : List Value)) (fun (s_ : (Nat) × (NS)) => match s_ with | ⟨i6, s6⟩ => fun (w_ : World) => (i6 ≤ lb.length) ∧ (NewJ s6 D B Q (lb.take i6)) ∧ Only (Ors Lq.S No) w49 w_ ∧ Nd Lq s6 (Old W.heap.size) w_) (fun (s_ : (Nat) × (NS)) => match s_ with | ⟨i6, s6⟩ => lb.length - i6) ⟨0, (NS.new D B Q (fun _ _ => false))⟩ kr ?_ ?_
 ·
  refine ⟨?_, ?_, ?_, ?_⟩
  ·
   exact Nat.zero_le _
  ·
   exact newJ_nil D B Q
  ·
   exact Only.refl _ _
  ·
   exact hN
 rintro ⟨i6, s6⟩ z w68 ⟨hi6, hS, o67, hN⟩
 (try dsimp only)
 replace h2 := h2.step o67 (ors_mono no_any)
 replace oW := oW.tail o67 (tl_snew g_oW_Lq tl_no)
 refine wQ ?_
 refine pL ?_
 refine wI (n_lss (a := i6) (b := lb.length) rfl rfl rfl) ?_
 refine gs ?_
 refine cond_if rfl (fun c69 => ?_) (fun c69 => ?_)
 ·
  refine gs ?_
  refine pL ?_
  refine wO (d_indexS (q := (kA 2 eQ)) (xs := lb) (v := (lb.getD i6 (0, 0))) Try.underlying24 s_ti51 rfl h2 (show _ = Value.int _ (i6 : Int) from rfl) oo (g_at fo)) ?_
  rintro u70 _ ⟨f71, rfl⟩
  refine wI (d_loadAtA (enc := eQ) (v := (lb.getD i6 (0, 0))) ⟨_, Try.underlying51, rfl⟩ s_ti51 rfl f71) ?_
  refine wO dA ?_
  rintro _ w72 ⟨pb, rfl, g73, a74, o75⟩
  have g_oW_pb : W.heap.size ≤ pb := Nat.le_trans oW.size g73
  have g_o67_pb : w49.heap.size ≤ pb := Nat.le_trans o67.size g73
  replace hN := hN.new o75 g73
  replace h2 := h2.new o75 g73
  replace f71 := f71.new o75 g73
  replace oW := oW.tail0 o75
  replace o67 := o67.tail0 o75
  refine wO (d_storeAg (cs' := [(eI ((lb.getD i6 (0, 0)).1)), (eI ((lb.getD i6 (0, 0)).2))]) s_ti51 rfl rfl rfl (oc_cons rfl (oc_cons rfl oc_nil)) a74 (by decide) rfl) ?_
  rintro _ w76 ⟨a77, o78⟩
  replace hN := hN.stepb o78 in1
  replace h2 := h2.stepb o78 in1
  replace f71 := f71.stepb o78 in1
  replace oW := oW.tailb o78 g_oW_pb
  replace o67 := o67.tailb o78 g_o67_pb
  refine gs ?_
  refine gS ?_
  refine wI (dJ (i := 0) oo) ?_
  refine gs ?_
  refine wI (dJ (i := 1) oo) ?_
  refine gs ?_
  refine wO (dC (there_ok Lq s6 _ hN (r := (s6.there ((lb.getD i6 (0, 0)).1) ((lb.getD i6 (0, 0)).2))) ((lb.getD i6 (0, 0)).1) ((lb.getD i6 (0, 0)).2) rfl)) ?_
  rintro _ w79 ⟨rfl, o80⟩
  replace hN := hN.step0 o80
  replace h2 := h2.step0 o80
  replace f71 := f71.step0 o80
  replace a77 := a77.step0 o80
  replace oW := oW.tail0 o80
  replace o67 := o67.tail0 o80
  refine gs ?_
  refine cond_b rfl (fun c93 => ?_) (fun c93 => ?_)
  ·
   refine wQ ?_
   refine gS ?_
   refine leave0 (v := (Value.tuple #[(Value.pointer none), (eN 1)])) (res2 Try.results13 rfl rfl) ?_
   have hE_ : newE D B lb = 1 := newE_no (i := i6) oo (fun t => by rw [(inR_there hS (lb.getD i6 (0, 0))).2 t] at c93; cases c93)
   exact ⟨_, by rw [hE_], oW, fun e => by rw [hE_] at e; cases e⟩
  refine gs ?_
  have ht_ := (inR_there hS (lb.getD i6 (0, 0))).1 (by simpa using c93)
  obtain ⟨x1, ex1⟩ := Int.eq_ofNat_of_zero_le ht_.1.1
  obtain ⟨x2, ex2⟩ := Int.eq_ofNat_of_zero_le ht_.2.1
  have hx1 : x1 < D := by have := ht_.1.2; omega
  have hx2 : x2 < B := by have := ht_.2.2; omega
  have gD6 := hS.i.c.gD
  have gB6 := hS.i.c.gB
  replace a77 : Arr 51 pb [eN x1, eN x2] w79 := by have h_ := a77; rw [show eI (lb.getD i6 (0, 0)).1 = eN x1 from congrArg eI ex1, show eI (lb.getD i6 (0, 0)).2 = eN x2 from congrArg eI ex2] at h_; exact h_
  refine dpT 10 ?_
  refine gx_ ?_
  refine pI (fun _ hO_ => nd_ld (v := Lq.ub) (hN.step0 hO_) ⟨_, Try.underlying71, rfl⟩ rfl (fun _ => rfl)) ?_
  refine pI (fun _ hO_ => dJ (i := 0) oo) ?_
  refine gx_ ?_
  refine pI (fun _ hO_ => nd_ixU (i := x1) (hN.step0 hO_) Try.underlying71 s_ti75 rfl (show _ = Value.int _ (x1 : Int) from rfl) (by rw [gD6]; exact hx1)) ?_
  refine pI (fun _ hO_ => nd_ldU (i := x1) (hN.step0 hO_) ⟨_, Try.underlying75, rfl⟩ rfl (by rw [gD6]; exact hx1)) ?_
  refine pI (fun _ hO_ => dJ (i := 1) oo) ?_
  refine gx_ ?_
  refine pz_ ?_
  intro w81 o82
  replace hN := hN.step0 o82
  replace h2 := h2.step0 o82
  replace f71 := f71.step0 o82
  replace a77 := a77.step0 o82
  replace oW := oW.tail0 o82
  replace o67 := o67.tail0 o82
  refine wI (d_index (b := (Lq.bk.getD x1 0)) (o := 0) (n := s6.gB) (c := s6.gB) (j := (x2 * 3)) Try.underlying75 s_ti77 rfl (show _ = Value.int _ (x2 : Int) from rfl) oo (by rw [gB6]; exact_mod_cast hx2) (by simp)) ?_
  refine gs ?_
  refine wO (nd_stS (i := x1) (j := x2) (f := 2) (x' := { s6.bl x1 x2 with bad := true }) hN s_ti4 rfl rfl rfl (by rw [gD6]; exact hx1) (by rw [gB6]; exact hx2) (by decide) rfl (hN.ok.nx _ _)) ?_
  rintro _ w83 ⟨a84, o85⟩
  replace a77 := a77.step o85 (hN.dis _ in1)
  replace h2 := h2.step o85 (sub2 sub1)
  replace f71 := f71.step o85 (sub2 sub1)
  replace oW := oW.tail o85 (fun k hk e => by have := g_oW_Lq k e; omega)
  replace o67 := o67.tail o85 (fun k _ e => sub1 k e)
  replace hN := a84
  refine gs ?_
  refine pL ?_
  refine wI (n_add (a := i6) (b := 1) rfl rfl oo) ?_
  refine gs ?_
  refine ⟨_, ⟨i6 + 1, (s6.setB x1 x2 { s6.bl x1 x2 with bad := true })⟩, rfl, kr, ⟨?_, ?_, ?_, ?_⟩, ?_⟩
  ·
   (try dsimp only)
   all_goals (omega)
  ·
   exact newJ_step hS oo ex1 ex2 hx1 hx2
  ·
   exact o67
  ·
   exact hN.less (xx_skip xx_id)
  ·
   (try dsimp only)
   all_goals (omega)
 refine gs ?_
 refine gS ?_
 refine leave0 (v := (Value.tuple #[(ptr Lq.bN 0), (eN 0)])) (res2 Try.results13 rfl rfl) ?_
 have hi_ : i6 = lb.length := by omega
 rw [hi_, List.take_length] at hS
 have hE_ := newE_ok hS.r
 exact ⟨_, by rw [hE_], oW, fun _ => ⟨Lq, s6, rfl, ⟨hN, hfr⟩, hS⟩⟩
end Go.Proofs.YtpamdlnobekihaaF
namespace Go.Proofs.YtpamdlnobekihaaF
open Go Shelf YtpamdlnobekihaaS Ram
namespace NS
def mayOk (s : NS) (d b p : Int) (f : Bool) : Bool := s.there d b && !s.isBad d b && decide (0 ≤ p ∧ p < (s.gP : Int)) && f
def may (s : NS) (f : Bool) : NS := { s with wrong := if s.dead then s.wrong else if f then s.wrong else IntKind.i64.wrap (s.wrong + 1) }
def stops (s : NS) : NS := { s.goes with ops := IntKind.i64.wrap (s.ops + 1) }
def powerX (s : NS) : NS := { { s with stop := 0 } with dead := false }
theorem may_yes {s : NS} {f : Bool} (h : s.askR f = 0) : s.may f = s := by
 obtain ⟨h1, h2⟩ := askR_yes h
 have e : (if s.dead then s.wrong else if f then s.wrong else IntKind.i64.wrap (s.wrong + 1)) = s.wrong := by rw [h1, h2]; rfl
 unfold may
 rw [e]
theorem may_dead {s : NS} {f : Bool} (h : s.dead = true) : s.may f = s := by
 have e : (if s.dead then s.wrong else if f then s.wrong else IntKind.i64.wrap (s.wrong + 1)) = s.wrong := by rw [h]; rfl
 unfold may
 rw [e]
theorem may_true {s : NS} : s.may true = s := by
 have e : (if s.dead then s.wrong else if true then s.wrong else IntKind.i64.wrap (s.wrong + 1)) = s.wrong := by cases s.dead <;> rfl
 unfold may
 rw [e]
theorem may_false {s : NS} (h : s.dead = false) : { s with wrong := IntKind.i64.wrap (s.wrong + 1) } = s.may false := by
 have e : (if s.dead then s.wrong else if false then s.wrong else IntKind.i64.wrap (s.wrong + 1)) = IntKind.i64.wrap (s.wrong + 1) := by rw [h]; rfl
 unfold may
 rw [e]
theorem may_no {s : NS} {f : Bool} (h : ¬ s.askR f = 0) : s.may f = s.ask f := by
 unfold may ask
 unfold askR at h
 cases hd : s.dead <;> cases f <;> simp_all
theorem mayOk_of {s : NS} {d b p : Int} {f : Bool} (h : s.mayOk d b p f = true) : (0 ≤ d ∧ d < (s.gD : Int) ∧ 0 ≤ b ∧ b < (s.gB : Int)) ∧ (0 ≤ p ∧ p < (s.gP : Int)) ∧ f = true := by
 unfold mayOk at h
 simp only [Bool.and_eq_true, decide_eq_true_eq] at h
 exact ⟨there_of h.1.1.1, h.1.2, h.2⟩
theorem mayOk_read (s : NS) (d b p : Int) : s.mayOk d b p true = s.readOk d b p := by
 unfold mayOk readOk pageIn
 cases s.there d b <;> cases s.isBad d b <;> simp
theorem mayOk_erase (s : NS) (d b : Int) (h : 0 < s.gP) : s.mayOk d b 0 true = s.eraseOk d b := by
 unfold mayOk eraseOk
 cases s.there d b <;> cases s.isBad d b <;> simp <;> omega
theorem mayOk_prog (s : NS) (d b p : Int) (l : List UInt8) : s.mayOk d b p (s.there d b && decide (((s.bl d.toNat b.toNat).nx : Int) = p) && decide (l.length = 60)) = s.progOk d b p l := by
 unfold mayOk progOk pageIn
 cases s.there d b <;> cases s.isBad d b <;> simp [Bool.and_comm, Bool.and_left_comm, Bool.and_assoc]
theorem read_state {s : NS} {f : Bool} (h : s.askR f = 0) : { s with ops := IntKind.i64.wrap (s.ops + 1) } = s.ask f := by
 obtain ⟨h1, h2⟩ := askR_yes h
 rw [h2, ask_yes h1]
theorem stops_prog {s : NS} {f : Bool} (h : s.askR f = 0) (d b : Nat) : (s.prog2 d b).stops = ((s.ask f).prog2 d b).goes := by
 obtain ⟨h1, h2⟩ := askR_yes h
 rw [h2, ask_yes h1]; rfl
theorem stops_erase {s : NS} {f : Bool} (h : s.askR f = 0) (d b : Nat) : (s.erase2 d b).stops = ((s.ask f).erase2 d b).goes := by
 obtain ⟨h1, h2⟩ := askR_yes h
 rw [h2, ask_yes h1]; rfl
def Rg (s : NS) : Prop := ∀ k, ∀ x ∈ s.nl k, -9223372036854775808 ≤ x ∧ x < 9223372036854775808
end NS
end Go.Proofs.YtpamdlnobekihaaF
set_option maxRecDepth 20000
set_option maxHeartbeats 4000000
namespace Go.Proofs.YtpamdlnobekihaaF
open Go Shelf YtpamdlnobekihaaS Ram
theorem refIsBad_ok (L : RL) (s : NS) {X : Nat → Prop} (W : World) (hN : Rd L s X W) {r : Bool} (d b : Int) (hr : s.isBad d b = r) :
    CW Try.prog 61 #[(ptr L.bN 0), (eI d), (eI b)] W (Rt (RIs (.bool r) W)) := by
 have oW : Only No W W := Only.refl _ _
 refine en 21 Try.func61 Try.ntmps61 ?_
 refine wQ ?_
 refine gS ?_
 by_cases k0 : (s.there d b) = true
 ·
  obtain ⟨hd0, hd1, hb0, hb1⟩ := NS.there_of k0
  obtain ⟨dn, rfl⟩ := Int.eq_ofNat_of_zero_le hd0
  replace hd1 : dn < s.gD := Int.ofNat_lt.1 hd1
  obtain ⟨bn, rfl⟩ := Int.eq_ofNat_of_zero_le hb0
  replace hb1 : bn < s.gB := Int.ofNat_lt.1 hb1
  refine gS ?_
  refine wO (dC (refThere_ok L s _ hN (r := true) (dn : Int) (bn : Int) k0)) ?_
  rintro _ w11 ⟨rfl, o12⟩
  replace hN := hN.step0 o12
  replace oW := oW.tail0 o12
  refine gs ?_
  refine wG (rd_ld (v := (sli L.bU 0 s.gD L.cU)) hN ⟨_, Try.underlying78, rfl⟩ rfl (fun _ => rfl)) ?_
  refine gs ?_
  refine wG (dI (n := s.gD) (i := dn) hd1) ?_
  refine wG (rd_ldU (i := dn) hN ⟨_, Try.underlying82, rfl⟩ rfl hd1) ?_
  refine gs ?_
  refine wG (d_index (b := (L.bd dn)) (o := 0) (n := s.gB) (c := (L.cd dn)) (j := (bn * 4)) Try.underlying82 s_ti85 rfl (show _ = Value.int _ (bn : Int) from rfl) oo (Int.ofNat_lt.2 hb1) (by simp)) ?_
  refine gs ?_
  refine wG (rd_ldS (i := dn) (j := bn) (f := 3) hN ⟨_, Try.underlying4, rfl⟩ rfl hd1 hb1 (by decide) rfl) ?_
  refine gs ?_
  refine leave0 (v := (Value.bool ((s.bl dn bn).bad))) (res1 Try.results61 rfl) ?_
  exact ⟨congrArg Value.bool (by rw [← hr]; simp [NS.isBad, *]), oW⟩
 refine gS ?_
 refine wO (dC (refThere_ok L s _ hN (r := false) d b (Bool.eq_false_iff.2 k0))) ?_
 rintro _ w13 ⟨rfl, o14⟩
 replace hN := hN.step0 o14
 replace oW := oW.tail0 o14
 refine gs ?_
 refine leave0 (v := vF) (res1 Try.results61 rfl) ?_
 exact ⟨congrArg Value.bool (by rw [← hr]; simp [NS.isBad, *]), oW⟩
theorem refErases_ok (L : RL) (s : NS) {X : Nat → Prop} (W : World) (hN : Rd L s X W) (d b : Int) :
    CW Try.prog 60 #[(ptr L.bN 0), (eI d), (eI b)] W (Rt (RIs (eI (s.erases d b)) W)) := by
 have oW : Only No W W := Only.refl _ _
 refine en 20 Try.func60 Try.ntmps60 ?_
 refine wQ ?_
 refine gS ?_
 by_cases k0 : (s.there d b) = true
 ·
  refine gS ?_
  refine wO (dC (refThere_ok L s _ hN (r := true) d b k0)) ?_
  rintro _ w11 ⟨rfl, o12⟩
  replace hN := hN.step0 o12
  replace oW := oW.tail0 o12
  refine gs ?_
  obtain ⟨hd0, hd1, hb0, hb1⟩ := NS.there_of k0
  obtain ⟨dn, rfl⟩ := Int.eq_ofNat_of_zero_le hd0
  replace hd1 : dn < s.gD := Int.ofNat_lt.1 hd1
  obtain ⟨bn, rfl⟩ := Int.eq_ofNat_of_zero_le hb0
  replace hb1 : bn < s.gB := Int.ofNat_lt.1 hb1
  refine gS ?_
  refine wI (rd_ld (v := (sli L.bU 0 s.gD L.cU)) hN ⟨_, Try.underlying78, rfl⟩ rfl (fun _ => rfl)) ?_
  refine gs ?_
  refine wI (dI (n := s.gD) (i := dn) hd1) ?_
  refine wI (rd_ldU (i := dn) hN ⟨_, Try.underlying82, rfl⟩ rfl hd1) ?_
  refine gs ?_
  refine wI (d_index (b := (L.bd dn)) (o := 0) (n := s.gB) (c := (L.cd dn)) (j := (bn * 4)) Try.underlying82 s_ti85 rfl (show _ = Value.int _ (bn : Int) from rfl) oo (Int.ofNat_lt.2 hb1) (by simp)) ?_
  refine gs ?_
  refine wI (rd_ldS (i := dn) (j := bn) (f := 2) hN ⟨_, Try.underlying3, rfl⟩ rfl hd1 hb1 (by decide) rfl) ?_
  refine gs ?_
  refine leave0 (v := (eI ((s.bl dn bn).er))) (res1 Try.results60 rfl) ?_
  exact ⟨congrArg eI (by unfold NS.erases; rw [if_pos k0]; rfl), oW⟩
 refine gS ?_
 refine wO (dC (refThere_ok L s _ hN (r := false) d b (Bool.eq_false_iff.2 k0))) ?_
 rintro _ w13 ⟨rfl, o14⟩
 replace hN := hN.step0 o14
 replace oW := oW.tail0 o14
 refine gs ?_
 refine gS ?_
 refine leave0 (v := (eN 0)) (res1 Try.results60 rfl) ?_
 exact ⟨congrArg eI (by unfold NS.erases; rw [if_neg k0]; rfl), oW⟩
theorem refMay_ok (L : RL) (s : NS) {X : Nat → Prop} (W : World) (hN : Rd L s X W) {g : Bool} (d b p : Int) (fine : Bool) (hg : s.mayOk d b p fine = g) :
    CW Try.prog 64 #[(ptr L.bN 0), (eI d), (eI b), (eI p), (Value.bool fine)] W (Rt (fun u w => u = eN (s.askR g) ∧ Rd L (s.may g) X w ∧ Only L.S W w)) := by
 have oW : Only L.S W W := Only.refl _ _
 refine en 52 Try.func64 Try.ntmps64 ?_
 refine wQ ?_
 refine gS ?_
 refine gS ?_
 refine wI (rd_ld (v := (Value.bool s.dead)) hN ⟨_, Try.underlying4, rfl⟩ rfl (fun _ => rfl)) ?_
 refine gs ?_
 refine cond_b rfl (fun c0 => ?_) (fun c0 => ?_)
 ·
  refine wQ ?_
  refine gS ?_
  refine leave0 (v := (eN 8)) (res1 Try.results64 rfl) ?_
  exact ⟨congrArg eN (by simp [NS.askR, c0]), rd_to hN (NS.may_dead c0).symm, oW⟩
 refine gs ?_
 by_cases k0 : (s.there d b) = true
 ·
  obtain ⟨hd0, hd1, hb0, hb1⟩ := NS.there_of k0
  obtain ⟨dn, rfl⟩ := Int.eq_ofNat_of_zero_le hd0
  replace hd1 : dn < s.gD := Int.ofNat_lt.1 hd1
  obtain ⟨bn, rfl⟩ := Int.eq_ofNat_of_zero_le hb0
  replace hb1 : bn < s.gB := Int.ofNat_lt.1 hb1
  by_cases k1 : (s.bl dn bn).bad = true
  ·
   refine gS ?_
   refine wO (dC (refThere_ok L s _ hN (r := true) (dn : Int) (bn : Int) k0)) ?_
   rintro _ w11 ⟨rfl, o12⟩
   replace hN := hN.step0 o12
   replace oW := oW.tail0 o12
   refine gs ?_
   refine wG (rd_ld (v := (sli L.bU 0 s.gD L.cU)) hN ⟨_, Try.underlying78, rfl⟩ rfl (fun _ => rfl)) ?_
   refine gs ?_
   refine wG (dI (n := s.gD) (i := dn) hd1) ?_
   refine wG (rd_ldU (i := dn) hN ⟨_, Try.underlying82, rfl⟩ rfl hd1) ?_
   refine gs ?_
   refine wG (d_index (b := (L.bd dn)) (o := 0) (n := s.gB) (c := (L.cd dn)) (j := (bn * 4)) Try.underlying82 s_ti85 rfl (show _ = Value.int _ (bn : Int) from rfl) oo (Int.ofNat_lt.2 hb1) (by simp)) ?_
   refine gs ?_
   refine wG (dv_to (v := .bool (s.bl dn bn).bad) (rd_ldS (i := dn) (j := bn) (f := 3) hN ⟨_, Try.underlying4, rfl⟩ rfl hd1 hb1 (by decide) rfl) (congrArg Value.bool k1)) ?_
   refine gs ?_
   refine gS ?_
   refine wI (rd_ld (v := (eI s.wrong)) hN ⟨_, Try.underlying3, rfl⟩ rfl (fun _ => rfl)) ?_
   refine wI (d_add (k := .i64) (m := s.wrong) (n := 1) rfl rfl rfl) ?_
   refine gs ?_
   refine wO (rd_st (s' := { s with wrong := IntKind.i64.wrap (s.wrong + 1) }) (i := 9) (v := (eI (IntKind.i64.wrap (s.wrong + 1)))) hN s_ti3 rfl rfl rfl (by decide) (fun _ => rfl) ⟨hN.ok.d, hN.ok.b, hN.ok.p, hN.ok.nx, hN.ok.st, hN.ok.dl, hN.ok.nl, hN.ok.ml⟩ ⟨rfl, rfl, rfl, rfl, rfl, rfl, rfl⟩) ?_
   rintro _ w13 ⟨a14, o15⟩
   replace oW := oW.tail o15 (fun k _ e => (fun k h => h) k e)
   replace hN := a14
   refine gs ?_
   refine gS ?_
   refine leave0 (v := (eN 1)) (res1 Try.results64 rfl) ?_
   have c0' : s.dead = false := by simpa using c0
   have hg_ : g = false := by rw [← hg]; simp [NS.mayOk, NS.isBad, *] <;> first | omega | (intros; omega) | (simp_all; done)
   exact ⟨congrArg eN (by rw [hg_]; simp [NS.askR, c0']), rd_to hN (by rw [hg_]; exact NS.may_false c0'), oW⟩
  by_cases k2 : p < 0
  ·
   refine gS ?_
   refine wO (dC (refThere_ok L s _ hN (r := true) (dn : Int) (bn : Int) k0)) ?_
   rintro _ w16 ⟨rfl, o17⟩
   replace hN := hN.step0 o17
   replace oW := oW.tail0 o17
   refine gs ?_
   refine wG (rd_ld (v := (sli L.bU 0 s.gD L.cU)) hN ⟨_, Try.underlying78, rfl⟩ rfl (fun _ => rfl)) ?_
   refine gs ?_
   refine wG (dI (n := s.gD) (i := dn) hd1) ?_
   refine wG (rd_ldU (i := dn) hN ⟨_, Try.underlying82, rfl⟩ rfl hd1) ?_
   refine gs ?_
   refine wG (d_index (b := (L.bd dn)) (o := 0) (n := s.gB) (c := (L.cd dn)) (j := (bn * 4)) Try.underlying82 s_ti85 rfl (show _ = Value.int _ (bn : Int) from rfl) oo (Int.ofNat_lt.2 hb1) (by simp)) ?_
   refine gs ?_
   refine wG (dv_to (v := .bool (s.bl dn bn).bad) (rd_ldS (i := dn) (j := bn) (f := 3) hN ⟨_, Try.underlying4, rfl⟩ rfl hd1 hb1 (by decide) rfl) (congrArg Value.bool (Bool.eq_false_iff.2 k1))) ?_
   refine gs ?_
   refine wG (d_lss (k := .i64) (m := p) (n := 0) rfl rfl (decide_eq_true k2)) ?_
   refine gs ?_
   refine gS ?_
   refine wI (rd_ld (v := (eI s.wrong)) hN ⟨_, Try.underlying3, rfl⟩ rfl (fun _ => rfl)) ?_
   refine wI (d_add (k := .i64) (m := s.wrong) (n := 1) rfl rfl rfl) ?_
   refine gs ?_
   refine wO (rd_st (s' := { s with wrong := IntKind.i64.wrap (s.wrong + 1) }) (i := 9) (v := (eI (IntKind.i64.wrap (s.wrong + 1)))) hN s_ti3 rfl rfl rfl (by decide) (fun _ => rfl) ⟨hN.ok.d, hN.ok.b, hN.ok.p, hN.ok.nx, hN.ok.st, hN.ok.dl, hN.ok.nl, hN.ok.ml⟩ ⟨rfl, rfl, rfl, rfl, rfl, rfl, rfl⟩) ?_
   rintro _ w18 ⟨a19, o20⟩
   replace oW := oW.tail o20 (fun k _ e => (fun k h => h) k e)
   replace hN := a19
   refine gs ?_
   refine gS ?_
   refine leave0 (v := (eN 1)) (res1 Try.results64 rfl) ?_
   have c0' : s.dead = false := by simpa using c0
   have hg_ : g = false := by rw [← hg]; simp [NS.mayOk, NS.isBad, *] <;> first | omega | (intros; omega) | (simp_all; done)
   exact ⟨congrArg eN (by rw [hg_]; simp [NS.askR, c0']), rd_to hN (by rw [hg_]; exact NS.may_false c0'), oW⟩
  by_cases k3 : (s.gP : Int) ≤ p
  ·
   refine gS ?_
   refine wO (dC (refThere_ok L s _ hN (r := true) (dn : Int) (bn : Int) k0)) ?_
   rintro _ w21 ⟨rfl, o22⟩
   replace hN := hN.step0 o22
   replace oW := oW.tail0 o22
   refine gs ?_
   refine wG (rd_ld (v := (sli L.bU 0 s.gD L.cU)) hN ⟨_, Try.underlying78, rfl⟩ rfl (fun _ => rfl)) ?_
   refine gs ?_
   refine wG (dI (n := s.gD) (i := dn) hd1) ?_
   refine wG (rd_ldU (i := dn) hN ⟨_, Try.underlying82, rfl⟩ rfl hd1) ?_
   refine gs ?_
   refine wG (d_index (b := (L.bd dn)) (o := 0) (n := s.gB) (c := (L.cd dn)) (j := (bn * 4)) Try.underlying82 s_ti85 rfl (show _ = Value.int _ (bn : Int) from rfl) oo (Int.ofNat_lt.2 hb1) (by simp)) ?_
   refine gs ?_
   refine wG (dv_to (v := .bool (s.bl dn bn).bad) (rd_ldS (i := dn) (j := bn) (f := 3) hN ⟨_, Try.underlying4, rfl⟩ rfl hd1 hb1 (by decide) rfl) (congrArg Value.bool (Bool.eq_false_iff.2 k1))) ?_
   refine gs ?_
   refine wG (d_lss (k := .i64) (m := p) (n := 0) rfl rfl (decide_eq_false k2)) ?_
   refine gs ?_
   refine wG (rd_ld (v := (eN s.gP)) hN ⟨_, Try.underlying3, rfl⟩ rfl (fun _ => rfl)) ?_
   refine wG (d_geq (k := .i64) (m := p) (n := (s.gP : Int)) rfl rfl (decide_eq_true k3)) ?_
   refine gs ?_
   refine gS ?_
   refine wI (rd_ld (v := (eI s.wrong)) hN ⟨_, Try.underlying3, rfl⟩ rfl (fun _ => rfl)) ?_
   refine wI (d_add (k := .i64) (m := s.wrong) (n := 1) rfl rfl rfl) ?_
   refine gs ?_
   refine wO (rd_st (s' := { s with wrong := IntKind.i64.wrap (s.wrong + 1) }) (i := 9) (v := (eI (IntKind.i64.wrap (s.wrong + 1)))) hN s_ti3 rfl rfl rfl (by decide) (fun _ => rfl) ⟨hN.ok.d, hN.ok.b, hN.ok.p, hN.ok.nx, hN.ok.st, hN.ok.dl, hN.ok.nl, hN.ok.ml⟩ ⟨rfl, rfl, rfl, rfl, rfl, rfl, rfl⟩) ?_
   rintro _ w23 ⟨a24, o25⟩
   replace oW := oW.tail o25 (fun k _ e => (fun k h => h) k e)
   replace hN := a24
   refine gs ?_
   refine gS ?_
   refine leave0 (v := (eN 1)) (res1 Try.results64 rfl) ?_
   have c0' : s.dead = false := by simpa using c0
   have hg_ : g = false := by rw [← hg]; simp [NS.mayOk, NS.isBad, *] <;> first | omega | (intros; omega) | (simp_all; done)
   exact ⟨congrArg eN (by rw [hg_]; simp [NS.askR, c0']), rd_to hN (by rw [hg_]; exact NS.may_false c0'), oW⟩
  refine gS ?_
  refine wO (dC (refThere_ok L s _ hN (r := true) (dn : Int) (bn : Int) k0)) ?_
  rintro _ w26 ⟨rfl, o27⟩
  replace hN := hN.step0 o27
  replace oW := oW.tail0 o27
  refine gs ?_
  refine wG (rd_ld (v := (sli L.bU 0 s.gD L.cU)) hN ⟨_, Try.underlying78, rfl⟩ rfl (fun _ => rfl)) ?_
  refine gs ?_
  refine wG (dI (n := s.gD) (i := dn) hd1) ?_
  refine wG (rd_ldU (i := dn) hN ⟨_, Try.underlying82, rfl⟩ rfl hd1) ?_
  refine gs ?_
  refine wG (d_index (b := (L.bd dn)) (o := 0) (n := s.gB) (c := (L.cd dn)) (j := (bn * 4)) Try.underlying82 s_ti85 rfl (show _ = Value.int _ (bn : Int) from rfl) oo (Int.ofNat_lt.2 hb1) (by simp)) ?_
  refine gs ?_
  refine wG (dv_to (v := .bool (s.bl dn bn).bad) (rd_ldS (i := dn) (j := bn) (f := 3) hN ⟨_, Try.underlying4, rfl⟩ rfl hd1 hb1 (by decide) rfl) (congrArg Value.bool (Bool.eq_false_iff.2 k1))) ?_
  refine gs ?_
  refine wG (d_lss (k := .i64) (m := p) (n := 0) rfl rfl (decide_eq_false k2)) ?_
  refine gs ?_
  refine wG (rd_ld (v := (eN s.gP)) hN ⟨_, Try.underlying3, rfl⟩ rfl (fun _ => rfl)) ?_
  refine wG (d_geq (k := .i64) (m := p) (n := (s.gP : Int)) rfl rfl (decide_eq_false k3)) ?_
  refine gs ?_
  refine cond_b rfl (fun c1 => ?_) (fun c1 => ?_)
  ·
   refine wQ ?_
   refine gS ?_
   refine wI (rd_ld (v := (eI s.wrong)) hN ⟨_, Try.underlying3, rfl⟩ rfl (fun _ => rfl)) ?_
   refine wI (d_add (k := .i64) (m := s.wrong) (n := 1) rfl rfl rfl) ?_
   refine gs ?_
   refine wO (rd_st (s' := { s with wrong := IntKind.i64.wrap (s.wrong + 1) }) (i := 9) (v := (eI (IntKind.i64.wrap (s.wrong + 1)))) hN s_ti3 rfl rfl rfl (by decide) (fun _ => rfl) ⟨hN.ok.d, hN.ok.b, hN.ok.p, hN.ok.nx, hN.ok.st, hN.ok.dl, hN.ok.nl, hN.ok.ml⟩ ⟨rfl, rfl, rfl, rfl, rfl, rfl, rfl⟩) ?_
   rintro _ w28 ⟨a29, o30⟩
   replace oW := oW.tail o30 (fun k _ e => (fun k h => h) k e)
   replace hN := a29
   refine gs ?_
   refine gS ?_
   refine leave0 (v := (eN 1)) (res1 Try.results64 rfl) ?_
   have c0' : s.dead = false := by simpa using c0
   have c2_ : fine = false := by simpa using c1
   have hg_ : g = false := by rw [← hg]; simp [NS.mayOk, NS.isBad, *] <;> first | omega | (intros; omega) | (simp_all; done)
   exact ⟨congrArg eN (by rw [hg_]; simp [NS.askR, c0']), rd_to hN (by rw [hg_]; exact NS.may_false c0'), oW⟩
  refine gs ?_
  refine gS ?_
  refine leave0 (v := (eN 0)) (res1 Try.results64 rfl) ?_
  have c0' : s.dead = false := by simpa using c0
  have c2_ : fine = true := by simpa using c1
  have hg_ : g = true := by rw [← hg]; simp [NS.mayOk, NS.isBad, *] <;> first | omega | (intros; omega) | (simp_all; done)
  exact ⟨congrArg eN (by rw [hg_]; simp [NS.askR, c0']), rd_to hN (by rw [hg_]; exact NS.may_true.symm), oW⟩
 refine gS ?_
 refine wO (dC (refThere_ok L s _ hN (r := false) d b (Bool.eq_false_iff.2 k0))) ?_
 rintro _ w31 ⟨rfl, o32⟩
 replace hN := hN.step0 o32
 replace oW := oW.tail0 o32
 refine gs ?_
 refine gS ?_
 refine wI (rd_ld (v := (eI s.wrong)) hN ⟨_, Try.underlying3, rfl⟩ rfl (fun _ => rfl)) ?_
 refine wI (d_add (k := .i64) (m := s.wrong) (n := 1) rfl rfl rfl) ?_
 refine gs ?_
 refine wO (rd_st (s' := { s with wrong := IntKind.i64.wrap (s.wrong + 1) }) (i := 9) (v := (eI (IntKind.i64.wrap (s.wrong + 1)))) hN s_ti3 rfl rfl rfl (by decide) (fun _ => rfl) ⟨hN.ok.d, hN.ok.b, hN.ok.p, hN.ok.nx, hN.ok.st, hN.ok.dl, hN.ok.nl, hN.ok.ml⟩ ⟨rfl, rfl, rfl, rfl, rfl, rfl, rfl⟩) ?_
 rintro _ w33 ⟨a34, o35⟩
 replace oW := oW.tail o35 (fun k _ e => (fun k h => h) k e)
 replace hN := a34
 refine gs ?_
 refine gS ?_
 refine leave0 (v := (eN 1)) (res1 Try.results64 rfl) ?_
 have c0' : s.dead = false := by simpa using c0
 have hg_ : g = false := by rw [← hg]; simp [NS.mayOk, NS.isBad, *] <;> first | omega | (intros; omega) | (simp_all; done)
 exact ⟨congrArg eN (by rw [hg_]; simp [NS.askR, c0']), rd_to hN (by rw [hg_]; exact NS.may_false c0'), oW⟩
theorem refStops_ok (L : RL) (s : NS) {X : Nat → Prop} (W : World) (hN : Rd L s X W) (hd : s.dead = false) :
    CW Try.prog 65 #[(ptr L.bN 0)] W (Rt (fun u w => u = .bool s.goesR ∧ Rd L s.stops X w ∧ Only L.S W w)) := by
 have oW : Only L.S W W := Only.refl _ _
 refine en 33 Try.func65 Try.ntmps65 ?_
 refine wQ ?_
 refine gS ?_
 refine gS ?_
 refine wI (rd_ld (v := (eI s.ops)) hN ⟨_, Try.underlying3, rfl⟩ rfl (fun _ => rfl)) ?_
 refine wI (d_add (k := .i64) (m := s.ops) (n := 1) rfl rfl rfl) ?_
 refine gs ?_
 refine wO (rd_st (s' := { s with ops := IntKind.i64.wrap (s.ops + 1) }) (i := 8) (v := (eI (IntKind.i64.wrap (s.ops + 1)))) hN s_ti3 rfl rfl rfl (by decide) (fun _ => rfl) ⟨hN.ok.d, hN.ok.b, hN.ok.p, hN.ok.nx, hN.ok.st, hN.ok.dl, hN.ok.nl, hN.ok.ml⟩ ⟨rfl, rfl, rfl, rfl, rfl, rfl, rfl⟩) ?_
 rintro _ w11 ⟨a12, o13⟩
 replace oW := oW.tail o13 (fun k _ e => (fun k h => h) k e)
 replace hN := a12
 refine gs ?_
 refine gS ?_
 refine wI (rd_ld (v := (eN (({ s with ops := IntKind.i64.wrap (s.ops + 1) }).stop))) hN ⟨_, Try.underlying3, rfl⟩ rfl (fun _ => rfl)) ?_
 refine wI (n_gtr (a := (({ s with ops := IntKind.i64.wrap (s.ops + 1) }).stop)) (b := 0) rfl rfl rfl) ?_
 refine gs ?_
 refine cond_if rfl (fun c0 => ?_) (fun c0 => ?_)
 ·
  refine wQ ?_
  have st_ : s.stop < 2 ^ 62 := hN.ok.st
  refine gS ?_
  refine wI (rd_ld (v := (eN (({ s with ops := IntKind.i64.wrap (s.ops + 1) }).stop))) hN ⟨_, Try.underlying3, rfl⟩ rfl (fun _ => rfl)) ?_
  refine wI (n_sub (a := (({ s with ops := IntKind.i64.wrap (s.ops + 1) }).stop)) (b := 1) rfl rfl (by dsimp only; omega) (by dsimp only; omega)) ?_
  refine gs ?_
  refine wO (rd_st (s' := { { s with ops := IntKind.i64.wrap (s.ops + 1) } with stop := (({ s with ops := IntKind.i64.wrap (s.ops + 1) }).stop) - 1 }) (i := 5) (v := (eN ((({ s with ops := IntKind.i64.wrap (s.ops + 1) }).stop) - 1))) hN s_ti3 rfl rfl rfl (by decide) (fun _ => rfl) ⟨hN.ok.d, hN.ok.b, hN.ok.p, hN.ok.nx, (by have := hN.ok.st; show (({ s with ops := IntKind.i64.wrap (s.ops + 1) }).stop) - 1 < 2 ^ 62; omega), hN.ok.dl, hN.ok.nl, hN.ok.ml⟩ ⟨rfl, rfl, rfl, rfl, rfl, rfl, rfl⟩) ?_
  rintro _ w14 ⟨a15, o16⟩
  replace oW := oW.tail o16 (fun k _ e => (fun k h => h) k e)
  replace hN := a15
  refine gs ?_
  refine gS ?_
  refine wI (rd_ld (v := (eN (({ { s with ops := IntKind.i64.wrap (s.ops + 1) } with stop := (({ s with ops := IntKind.i64.wrap (s.ops + 1) }).stop) - 1 }).stop))) hN ⟨_, Try.underlying3, rfl⟩ rfl (fun _ => rfl)) ?_
  refine wI (n_eql (a := (({ { s with ops := IntKind.i64.wrap (s.ops + 1) } with stop := (({ s with ops := IntKind.i64.wrap (s.ops + 1) }).stop) - 1 }).stop)) (b := 0) rfl rfl rfl) ?_
  refine gs ?_
  refine wO (rd_st (s' := { { { s with ops := IntKind.i64.wrap (s.ops + 1) } with stop := (({ s with ops := IntKind.i64.wrap (s.ops + 1) }).stop) - 1 } with dead := decide ((({ { s with ops := IntKind.i64.wrap (s.ops + 1) } with stop := (({ s with ops := IntKind.i64.wrap (s.ops + 1) }).stop) - 1 }).stop) = 0) }) (i := 7) (v := (Value.bool (decide ((({ { s with ops := IntKind.i64.wrap (s.ops + 1) } with stop := (({ s with ops := IntKind.i64.wrap (s.ops + 1) }).stop) - 1 }).stop) = 0)))) hN s_ti4 rfl rfl rfl (by decide) (fun _ => rfl) ⟨hN.ok.d, hN.ok.b, hN.ok.p, hN.ok.nx, hN.ok.st, hN.ok.dl, hN.ok.nl, hN.ok.ml⟩ ⟨rfl, rfl, rfl, rfl, rfl, rfl, rfl⟩) ?_
  rintro _ w17 ⟨a18, o19⟩
  replace oW := oW.tail o19 (fun k _ e => (fun k h => h) k e)
  replace hN := a18
  refine gs ?_
  refine gS ?_
  refine wI (rd_ld (v := (Value.bool (({ { { s with ops := IntKind.i64.wrap (s.ops + 1) } with stop := (({ s with ops := IntKind.i64.wrap (s.ops + 1) }).stop) - 1 } with dead := decide ((({ { s with ops := IntKind.i64.wrap (s.ops + 1) } with stop := (({ s with ops := IntKind.i64.wrap (s.ops + 1) }).stop) - 1 }).stop) = 0) }).dead))) hN ⟨_, Try.underlying4, rfl⟩ rfl (fun _ => rfl)) ?_
  refine gs ?_
  refine leave0 (v := (Value.bool (({ { { s with ops := IntKind.i64.wrap (s.ops + 1) } with stop := (({ s with ops := IntKind.i64.wrap (s.ops + 1) }).stop) - 1 } with dead := decide ((({ { s with ops := IntKind.i64.wrap (s.ops + 1) } with stop := (({ s with ops := IntKind.i64.wrap (s.ops + 1) }).stop) - 1 }).stop) = 0) }).dead))) (res1 Try.results65 rfl) ?_
  have c9_ : 0 < s.stop := c0
  exact ⟨congrArg Value.bool (by unfold NS.goesR; rw [if_neg (show ¬ s.stop < 1 by omega)]), rd_to hN (by unfold NS.stops; rw [NS.goes_yes oo]), oW⟩
 refine gs ?_
 refine gS ?_
 refine wI (rd_ld (v := (Value.bool (({ s with ops := IntKind.i64.wrap (s.ops + 1) }).dead))) hN ⟨_, Try.underlying4, rfl⟩ rfl (fun _ => rfl)) ?_
 refine gs ?_
 refine leave0 (v := (Value.bool (({ s with ops := IntKind.i64.wrap (s.ops + 1) }).dead))) (res1 Try.results65 rfl) ?_
 have c9_ : ¬ 0 < s.stop := c0
 exact ⟨congrArg Value.bool (by unfold NS.goesR; rw [if_pos (show s.stop < 1 by omega)]; exact hd), rd_to hN (by unfold NS.stops; rw [NS.goes_no oo]), oW⟩
theorem refRead_ok (L : RL) (s : NS) {X : Nat → Prop} (W : World) (hN : Rd L s X W) (d b p : Int) (hX : ∀ k, X k → k < W.heap.size) (hrg : s.Rg) :
    CW Try.prog 56 #[(ptr L.bN 0), (eI d), (eI b), (eI p)] W (Rt (fun u w => ∃ v, u = .tuple #[v, eN (s.askR (s.readOk d b p))] ∧ Ps (Old W.heap.size) (Seq kB (s.readL d b p) v) w ∧ Rd L (s.ask (s.readOk d b p)) X w ∧ Only L.S W w)) := by
 have oW : Only L.S W W := Only.refl _ _
 refine en 50 Try.func56 Try.ntmps56 ?_
 refine wQ ?_
 refine gS ?_
 refine gS ?_
 refine wO (dC (refMay_ok L s _ hN (g := (s.readOk d b p)) d b p true (NS.mayOk_read _ _ _ _))) ?_
 rintro _ w11 ⟨rfl, a13, o12⟩
 replace oW := oW.tail o12 (fun k _ e => (fun k h => h) k e)
 replace hN := a13
 refine gs ?_
 refine gS ?_
 refine wI (n_neq (a := (s.askR (s.readOk d b p))) (b := 0) rfl rfl rfl) ?_
 refine gs ?_
 refine cond_un rfl (fun c0 => ?_) (fun c0 => ?_)
 ·
  refine wQ ?_
  refine gS ?_
  refine leave0 (v := (Value.tuple #[vN, (eN (s.askR (s.readOk d b p)))])) (res2 Try.results56 rfl rfl) ?_
  exact ⟨_, rfl, by unfold NS.readL; rw [if_neg c0]; exact seq_nil, rd_to hN (NS.may_no c0), oW⟩
 refine gs ?_
 obtain ⟨⟨hd0, hd1, hb0, hb1⟩, ⟨hp0, hp1⟩, _⟩ := NS.mayOk_of (by rw [NS.mayOk_read]; exact (NS.askR_yes c0).2)
 obtain ⟨dn, rfl⟩ := Int.eq_ofNat_of_zero_le hd0
 replace hd1 : dn < s.gD := Int.ofNat_lt.1 hd1
 obtain ⟨bn, rfl⟩ := Int.eq_ofNat_of_zero_le hb0
 replace hb1 : bn < s.gB := Int.ofNat_lt.1 hb1
 obtain ⟨pn, rfl⟩ := Int.eq_ofNat_of_zero_le hp0
 replace hp1 : pn < s.gP := Int.ofNat_lt.1 hp1
 replace hN := rd_to hN (NS.may_yes c0)
 refine gS ?_
 refine wI (rd_ld (v := (eI s.ops)) hN ⟨_, Try.underlying3, rfl⟩ rfl (fun _ => rfl)) ?_
 refine wI (d_add (k := .i64) (m := s.ops) (n := 1) rfl rfl rfl) ?_
 refine gs ?_
 refine wO (rd_st (s' := { s with ops := IntKind.i64.wrap (s.ops + 1) }) (i := 8) (v := (eI (IntKind.i64.wrap (s.ops + 1)))) hN s_ti3 rfl rfl rfl (by decide) (fun _ => rfl) ⟨hN.ok.d, hN.ok.b, hN.ok.p, hN.ok.nx, hN.ok.st, hN.ok.dl, hN.ok.nl, hN.ok.ml⟩ ⟨rfl, rfl, rfl, rfl, rfl, rfl, rfl⟩) ?_
 rintro _ w14 ⟨a15, o16⟩
 replace oW := oW.tail o16 (fun k _ e => (fun k h => h) k e)
 replace hN := a15
 refine gs ?_
 replace hN := rd_to hN (NS.read_state c0)
 have l1_ : ((s.ask (s.readOk ↑dn ↑bn ↑pn)).dl ((s.ask (s.readOk ↑dn ↑bn ↑pn)).ix dn bn pn)).length = 60 := hN.ok.dl _
 have l2_ : ((s.ask (s.readOk ↑dn ↑bn ↑pn)).nl ((s.ask (s.readOk ↑dn ↑bn ↑pn)).ix dn bn pn)).length ≤ 1048576 := hN.ok.nl _
 have hrg_ : ∀ x ∈ (s.ask (s.readOk ↑dn ↑bn ↑pn)).nl ((s.ask (s.readOk ↑dn ↑bn ↑pn)).ix dn bn pn), -9223372036854775808 ≤ x ∧ x < 9223372036854775808 := hrg _
 obtain ⟨u17, f18, k19⟩ := rd_pD (i := dn) (j := bn) (f := pn) (Y := (Ors L.S X)) hN xo_s hd1 hb1 (by first | exact hd1 | exact hb1 | exact hp1 | exact Int.ofNat_lt.2 hd1 | exact Int.ofNat_lt.2 hb1 | exact Int.ofNat_lt.2 hp1 | omega)
 obtain ⟨u20, f21, k22⟩ := rd_pZ (i := dn) (j := bn) (f := pn) (Y := (Ors L.S X)) hN xo_s hd1 hb1 (by first | exact hd1 | exact hb1 | exact hp1 | exact Int.ofNat_lt.2 hd1 | exact Int.ofNat_lt.2 hb1 | exact Int.ofNat_lt.2 hp1 | omega)
 refine dpT 27 ?_
 refine gx_ ?_
 refine pI (fun _ hO_ => rd_ld (v := (sli L.bU 0 ((s.ask (s.readOk ↑dn ↑bn ↑pn)).gD) L.cU)) (hN.step0 hO_) ⟨_, Try.underlying78, rfl⟩ rfl (fun _ => rfl)) ?_
 refine gx_ ?_
 refine pI (fun _ hO_ => dI (n := ((s.ask (s.readOk ↑dn ↑bn ↑pn)).gD)) (i := dn) hd1) ?_
 refine pI (fun _ hO_ => rd_ldU (i := dn) (hN.step0 hO_) ⟨_, Try.underlying82, rfl⟩ rfl hd1) ?_
 refine gx_ ?_
 refine pI (fun _ hO_ => d_index (b := (L.bd dn)) (o := 0) (n := ((s.ask (s.readOk ↑dn ↑bn ↑pn)).gB)) (c := (L.cd dn)) (j := (bn * 4)) Try.underlying82 s_ti85 rfl (show _ = Value.int _ (bn : Int) from rfl) oo (Int.ofNat_lt.2 hb1) (by simp)) ?_
 refine gx_ ?_
 refine pI (fun _ hO_ => rd_ldS (i := dn) (j := bn) (f := 0) (hN.step0 hO_) ⟨_, Try.underlying63, rfl⟩ rfl hd1 hb1 (by decide) rfl) ?_
 refine gx_ ?_
 refine pI (fun _ hO_ => dI (n := ((s.ask (s.readOk ↑dn ↑bn ↑pn)).gP)) (i := pn) hp1) ?_
 refine pI (fun _ hO_ => k19 _ hO_ ⟨_, Try.underlying36, rfl⟩ rfl) ?_
 refine gx_ ?_
 refine pI (fun _ hO_ => rd_ld (v := (sli L.bV 0 ((s.ask (s.readOk ↑dn ↑bn ↑pn)).gD) L.cV)) (hN.step0 hO_) ⟨_, Try.underlying79, rfl⟩ rfl (fun _ => rfl)) ?_
 refine gx_ ?_
 refine pI (fun _ hO_ => dI (n := ((s.ask (s.readOk ↑dn ↑bn ↑pn)).gD)) (i := dn) hd1) ?_
 refine pI (fun _ hO_ => rd_ldV (i := dn) (hN.step0 hO_) ⟨_, Try.underlying83, rfl⟩ rfl hd1) ?_
 refine gx_ ?_
 refine pI (fun _ hO_ => dI (n := ((s.ask (s.readOk ↑dn ↑bn ↑pn)).gB)) (i := bn) hb1) ?_
 refine pI (fun _ hO_ => rd_ldW (i := dn) (j := bn) (hN.step0 hO_) ⟨_, Try.underlying67, rfl⟩ rfl hd1 hb1) ?_
 refine gx_ ?_
 refine pI (fun _ hO_ => dI (n := ((s.ask (s.readOk ↑dn ↑bn ↑pn)).gP)) (i := pn) hp1) ?_
 refine pI (fun _ hO_ => k22 _ hO_ ⟨_, Try.underlying37, rfl⟩ rfl) ?_
 refine pz_ ?_
 intro w23 o24
 replace hN := hN.step0 o24
 replace f18 := f18.step0 o24
 replace f21 := f21.step0 o24
 replace oW := oW.tail0 o24
 refine wO (dC (ref6FlipI_ok ((s.ask (s.readOk ↑dn ↑bn ↑pn)).dl ((s.ask (s.readOk ↑dn ↑bn ↑pn)).ix dn bn pn)) ((s.ask (s.readOk ↑dn ↑bn ↑pn)).nl ((s.ask (s.readOk ↑dn ↑bn ↑pn)).ix dn bn pn)) u17 u20 _ (Ps.no f18) (Ps.no f21) fo fo hrg_)) ?_
 rintro u27 w25 f28
 replace f28 := f28.ps
 obtain ⟨f28, o26⟩ := f28
 replace f28 := f28.less (Y := (Ors L.S (Old W.heap.size))) (ors_old hN.lt (old_old oW.size))
 replace hN := hN.step0 o26
 replace f18 := f18.step0 o26
 replace f21 := f21.step0 o26
 replace oW := oW.tail0 o26
 refine gs ?_
 refine leave0 (v := (Value.tuple #[u27, (eN 0)])) (res2 Try.results56 rfl rfl) ?_
 exact ⟨_, congrArg (fun x_ => Value.tuple #[_, eN x_]) c0.symm, by unfold NS.readL; rw [if_pos c0]; exact (f28.less (xx_skip xx_id)), hN, oW⟩
theorem refProg_ok (L : RL) (s : NS) {X : Nat → Prop} (W : World) (hN : Rd L s X W) (d b p : Int) (l : List UInt8) (ul : Value) (hX : ∀ k, X k → k < W.heap.size) (hl : Ps (Ors L.S No) (Seq kB l ul) W) (gl : l.length ≤ 1048576) :
    CW Try.prog 54 #[(ptr L.bN 0), (eI d), (eI b), (eI p), ul] W (Rt (fun u w => u = eN (s.progR d b p l) ∧ Rd L (s.prog d b p l) X w ∧ Only L.S W w)) := by
 have oW : Only L.S W W := Only.refl _ _
 refine en 82 Try.func54 Try.ntmps54 ?_
 refine wQ ?_
 refine gS ?_
 by_cases k0 : (s.there d b) = true
 ·
  obtain ⟨hd0, hd1, hb0, hb1⟩ := NS.there_of k0
  obtain ⟨dn, rfl⟩ := Int.eq_ofNat_of_zero_le hd0
  replace hd1 : dn < s.gD := Int.ofNat_lt.1 hd1
  obtain ⟨bn, rfl⟩ := Int.eq_ofNat_of_zero_le hb0
  replace hb1 : bn < s.gB := Int.ofNat_lt.1 hb1
  by_cases k1 : (((s.bl dn bn).nx : Nat) : Int) = p
  ·
   by_cases k2 : l.length = 60
   ·
    refine gS ?_
    refine wO (dC (refThere_ok L s _ hN (r := true) (dn : Int) (bn : Int) k0)) ?_
    rintro _ w11 ⟨rfl, o12⟩
    replace hl := hl.step0 o12
    replace hN := hN.step0 o12
    replace oW := oW.tail0 o12
    refine gs ?_
    refine wG (rd_ld (v := (sli L.bU 0 s.gD L.cU)) hN ⟨_, Try.underlying78, rfl⟩ rfl (fun _ => rfl)) ?_
    refine gs ?_
    refine wG (dI (n := s.gD) (i := dn) hd1) ?_
    refine wG (rd_ldU (i := dn) hN ⟨_, Try.underlying82, rfl⟩ rfl hd1) ?_
    refine gs ?_
    refine wG (d_index (b := (L.bd dn)) (o := 0) (n := s.gB) (c := (L.cd dn)) (j := (bn * 4)) Try.underlying82 s_ti85 rfl (show _ = Value.int _ (bn : Int) from rfl) oo (Int.ofNat_lt.2 hb1) (by simp)) ?_
    refine gs ?_
    refine wG (rd_ldS (i := dn) (j := bn) (f := 1) hN ⟨_, Try.underlying3, rfl⟩ rfl hd1 hb1 (by decide) rfl) ?_
    refine gs ?_
    refine wG (d_eql (k := .i64) (m := (((s.bl dn bn).nx : Nat) : Int)) (n := p) rfl rfl (decide_eq_true k1)) ?_
    refine gs ?_
    refine wG (dN hl) ?_
    refine wG (n_eql (a := l.length) (b := 60) rfl rfl (decide_eq_true k2)) ?_
    refine gs ?_
    refine gS ?_
    refine wO (dC (refMay_ok L s _ hN (g := (s.progOk ↑dn ↑bn p l)) (dn : Int) (bn : Int) p true (by rw [← NS.mayOk_prog]; congr 1; simp [*]))) ?_
    rintro _ w13 ⟨rfl, a15, o14⟩
    replace hl := hl.step o14 sub1
    replace oW := oW.tail o14 (fun k _ e => (fun k h => h) k e)
    replace hN := a15
    refine gs ?_
    refine gS ?_
    refine wI (n_neq (a := (s.askR (s.progOk ↑dn ↑bn p l))) (b := 0) rfl rfl rfl) ?_
    refine gs ?_
    refine cond_un rfl (fun c0 => ?_) (fun c0 => ?_)
    ·
     refine wQ ?_
     refine gS ?_
     refine leave0 (v := (eN (s.askR (s.progOk ↑dn ↑bn p l)))) (res1 Try.results54 rfl) ?_
     obtain ⟨e1_, e2_⟩ := NS.prog_no c0; exact ⟨congrArg eN e2_.symm, e1_ ▸ rd_to hN (NS.may_no c0), oW⟩
    refine gs ?_
    obtain ⟨⟨hd0_, hd1_, hb0_, hb1_⟩, ⟨hp0, hp1⟩, _⟩ := NS.mayOk_of (by rw [NS.mayOk_prog]; exact (NS.askR_yes c0).2)
    obtain ⟨pn, rfl⟩ := Int.eq_ofNat_of_zero_le hp0
    replace hp1 : pn < s.gP := Int.ofNat_lt.1 hp1
    replace hN := rd_to hN (NS.may_yes c0)
    obtain ⟨hnx_, hl6_⟩ := NS.progOk_nx c0
    have okp_ : 4 ≤ s.gP ∧ s.gP ≤ 8 := hN.ok.p
    have hdd_ := (NS.askR_yes c0).1
    refine gS ?_
    refine wI (rd_ld (v := (sli L.bU 0 s.gD L.cU)) hN ⟨_, Try.underlying78, rfl⟩ rfl (fun _ => rfl)) ?_
    refine gs ?_
    refine wI (dI (n := s.gD) (i := dn) hd1) ?_
    refine wI (rd_ldU (i := dn) hN ⟨_, Try.underlying82, rfl⟩ rfl hd1) ?_
    refine gs ?_
    refine wI (d_index (b := (L.bd dn)) (o := 0) (n := s.gB) (c := (L.cd dn)) (j := (bn * 4)) Try.underlying82 s_ti85 rfl (show _ = Value.int _ (bn : Int) from rfl) oo (Int.ofNat_lt.2 hb1) (by simp)) ?_
    refine gs ?_
    refine gS ?_
    refine wI (rd_ldS (i := dn) (j := bn) (f := 1) hN ⟨_, Try.underlying3, rfl⟩ rfl hd1 hb1 (by decide) rfl) ?_
    refine wI (n_add (a := ((s.bl dn bn).nx)) (b := 1) rfl rfl (by show (s.bl dn bn).nx + 1 < _; omega)) ?_
    refine gs ?_
    refine wO (rd_stS (i := dn) (j := bn) (f := 1) (x' := { s.bl dn bn with nx := (s.bl dn bn).nx + 1 }) hN s_ti3 rfl rfl rfl hd1 hb1 (by decide) (fun _ => rfl) (by show (s.bl dn bn).nx + 1 ≤ 8; omega)) ?_
    rintro _ w16 ⟨a17, o18⟩
    replace hl := hl.step o18 sub1
    replace oW := oW.tail o18 (fun k _ e => (fun k h => h) k e)
    replace hN := a17
    refine gs ?_
    refine gS ?_
    refine wO (dC (refStops_ok L (s.setB dn bn { s.bl dn bn with nx := (s.bl dn bn).nx + 1 }) _ hN hdd_)) ?_
    rintro _ w19 ⟨rfl, a21, o20⟩
    replace hl := hl.step o20 sub1
    replace oW := oW.tail o20 (fun k _ e => (fun k h => h) k e)
    replace hN := a21
    refine gs ?_
    refine cond_b rfl (fun c1 => ?_) (fun c1 => ?_)
    ·
     refine wQ ?_
     replace hN := rd_to hN (show _ = s.progA ↑dn ↑bn ↑pn l from NS.stops_prog c0 _ _)
     have l3_ : (s.progA ↑dn ↑bn ↑pn l).mask.length ≤ 1048576 := hN.ok.ml
     obtain ⟨u22, f23, k24⟩ := rd_pm (Y := (Ors L.S X)) hN xo_s
     refine dpN 12 [5, 5] ?_
     refine gx_ ?_
     refine pI (fun _ hO_ => rd_ldS (i := dn) (j := bn) (f := 0) (hN.step0 hO_) ⟨_, Try.underlying63, rfl⟩ rfl hd1 hb1 (by decide) rfl) ?_
     refine gx_ ?_
     refine pI (fun _ hO_ => k24 _ hO_ ⟨_, Try.underlying36, rfl⟩ rfl) ?_
     refine pz_ ?_
     intro w25 o26
     replace hl := hl.step0 o26
     replace hN := hN.step0 o26
     replace f23 := f23.step0 o26
     replace oW := oW.tail0 o26
     refine qO (d_call (xl := []) (al := []) Try.func42 kr rfl rfl rfl (ref7Ones_ok _)) ?_
     rintro u29 w27 f30
     replace f30 := f30.ps
     obtain ⟨f30, o28⟩ := f30
     replace f30 := f30.less (Y := (Ors L.S (Old W.heap.size))) (ors_old hN.lt (old_old oW.size))
     replace hl := hl.step0 o28
     replace hN := hN.step0 o28
     replace f23 := f23.step0 o28
     replace oW := oW.tail0 o28
     refine qO (d_call (xl := [.tmp 70, .tmp 71, .tmp 75]) (al := [u29, ul, u22]) Try.func29 kr rfl rfl rfl (ref6Mix_ok onesW l ((s.progA ↑dn ↑bn ↑pn l).mask) u29 ul u22 _ (Ps.no f30) (Ps.no hl) (Ps.no f23) (by have := onesW_len; first | omega | (simp; done) | (simp; omega)) fo fo)) ?_
     rintro u33 w31 f34
     replace f34 := f34.ps
     obtain ⟨f34, o32⟩ := f34
     replace f34 := f34.less (Y := (Ors L.S (Old W.heap.size))) (ors_old hN.lt (old_old oW.size))
     replace hl := hl.step0 o32
     replace hN := hN.step0 o32
     replace f23 := f23.step0 o32
     replace f30 := f30.step0 o32
     replace oW := oW.tail0 o32
     refine qN ?_
     refine wI (dI (n := ((s.progA ↑dn ↑bn ↑pn l).gP)) (i := pn) hp1) ?_
     refine wO (rd_stD (i := dn) (j := bn) (f := pn) (Y := (Ors L.S X)) (l := (mixR onesW l ((s.progA ↑dn ↑bn ↑pn l).mask))) hN ox_s s_ti36 rfl rfl (f34.less (Y := (Ors L.S X)) (xx_ors (lt_old hX))) hd1 hb1 hp1 (mixR60 onesW_len hl6_)) ?_
     rintro _ w35 ⟨a36, o37⟩
     replace hl := hl.step o37 sub1
     replace f23 := f23.step o37 sub1
     replace f30 := f30.step o37 sub1
     replace f34 := f34.step o37 sub1
     replace oW := oW.tail o37 (fun k _ e => (fun k h => h) k e)
     replace hN := a36
     refine gs ?_
     refine gS ?_
     refine leave0 (v := (eN 8)) (res1 Try.results54 rfl) ?_
     obtain ⟨e1_, e2_⟩ := NS.prog_torn c0 c1; exact ⟨congrArg eN e2_.symm, by rw [e1_]; exact hN, oW⟩
    refine gs ?_
    replace hN := rd_to hN (show _ = s.progA ↑dn ↑bn ↑pn l from NS.stops_prog c0 _ _)
    have l3_ : (s.progA ↑dn ↑bn ↑pn l).mask.length ≤ 1048576 := hN.ok.ml
    have hX0_ : ∀ k, (Ors L.S (Old W.heap.size)) k → k < w19.heap.size := (lt_ors hN.lt (fun k t => Nat.lt_of_lt_of_le t oW.size))
    have hO0_ : ∀ k, (Ors L.S No) k → k < w19.heap.size := fun k h => hX0_ k ((ors_mono no_any) k h)
    refine drawnT (O := (Ors L.S No)) (n := 10) 8 [0, 1, 3, 7, 0, 0, 0, 96, 255, 511] [(0, 78), (1, 79), (2, 80), (3, 81), (4, 82), (5, 83), (6, 84), (7, 85), (8, 86)] [(0, 78), (1, 79), (2, 80), (3, 81), (4, 82), (5, 83), (6, 84), (7, 85)] [0, 1, 2, 3, 4, 5, 6, 7] [] (fun i_ => ([RF.is (Ors L.S No) (ptr (L.bd dn) (bn * 4)), RF.is (Ors L.S No) (ptr (L.bd dn) (bn * 4)), RF.is (Ors L.S No) (ptr (L.bd dn) (bn * 4)), RF.is (Ors L.S No) (sli (L.bp (dn * (s.progA ↑dn ↑bn ↑pn l).gB + bn)) 0 ((s.progA ↑dn ↑bn ↑pn l).gP) (L.cp (dn * (s.progA ↑dn ↑bn ↑pn l).gB + bn))), RF.is (Ors L.S No) (eN pn), RF.ar (Ors L.S No) 5 0 (([] : List UInt8).map eB) w19.heap.size hO0_, RF.is (Ors L.S No) ul, RF.ps (Ors L.S No) (Ors L.S (Old W.heap.size)) (Seq kB l) (ors_mono no_any)] : List (RF (Ors L.S No))).getD i_ (RF.any (Ors L.S No))) (fun _ w_ => Rd L (s.progA ↑dn ↑bn ↑pn l) X w_) (fun v38 => ([(ptr L.bN 0), (eN dn), (eN bn), (eN pn), ul] ++ (us 5 ++ [(eN 0), vT, (eN (s.askR (s.progOk ↑dn ↑bn ↑pn l))), (ptr (L.bd dn) (bn * 4)), (ptr L.bN 0), (eN dn), (eN bn), vT, vT, (ptr L.bN 0), (ptr L.bN 0), (ptr L.bN 3), (sli L.bU 0 s.gD L.cU), (eN dn), (ptr L.bU dn), (sli (L.bd dn) 0 s.gB (L.cd dn)), (eN bn), (ptr (L.bd dn) (bn * 4)), (ptr (L.bd dn) (bn * 4 + 1)), (eN ((s.bl dn bn).nx)), (eN pn), vT, vT, vT, ul, (eN l.length), vT, vT, (ptr L.bN 0), (eN dn), (eN bn), (eN pn), vT, (eN (s.askR (s.progOk ↑dn ↑bn ↑pn l))), (eN (s.askR (s.progOk ↑dn ↑bn ↑pn l))), (Value.bool (!decide ((s.askR (s.progOk ↑dn ↑bn ↑pn l)) = 0))), undef, (ptr L.bN 0), (ptr L.bN 0), (ptr L.bN 3), (sli L.bU 0 s.gD L.cU), (eN dn), (ptr L.bU dn), (sli (L.bd dn) 0 s.gB (L.cd dn)), (eN bn), (ptr (L.bd dn) (bn * 4)), (ptr (L.bd dn) (bn * 4)), (ptr (L.bd dn) (bn * 4)), (ptr (L.bd dn) (bn * 4 + 1)), (eN ((s.bl dn bn).nx)), (eN ((s.bl dn bn).nx + 1)), (ptr (L.bd dn) (bn * 4)), (ptr (L.bd dn) (bn * 4 + 1)), (ptr L.bN 0), (Value.bool ((s.setB dn bn { s.bl dn bn with nx := (s.bl dn bn).nx + 1 }).goesR))] ++ (us 13 ++ [(v38 0), (v38 1), (v38 2), (v38 3), (v38 4), (v38 5), (v38 6), (v38 7), (v38 8)])))) (fun v38 => ([(ptr L.bN 0), (eN dn), (eN bn), (eN pn), ul] ++ (us 5 ++ [(eN 0), vT, (eN (s.askR (s.progOk ↑dn ↑bn ↑pn l))), (ptr (L.bd dn) (bn * 4)), (ptr L.bN 0), (eN dn), (eN bn), vT, vT, (ptr L.bN 0), (ptr L.bN 0), (ptr L.bN 3), (sli L.bU 0 s.gD L.cU), (eN dn), (ptr L.bU dn), (sli (L.bd dn) 0 s.gB (L.cd dn)), (eN bn), (ptr (L.bd dn) (bn * 4)), (ptr (L.bd dn) (bn * 4 + 1)), (eN ((s.bl dn bn).nx)), (eN pn), vT, vT, vT, ul, (eN l.length), vT, vT, (ptr L.bN 0), (eN dn), (eN bn), (eN pn), vT, (eN (s.askR (s.progOk ↑dn ↑bn ↑pn l))), (eN (s.askR (s.progOk ↑dn ↑bn ↑pn l))), (Value.bool (!decide ((s.askR (s.progOk ↑dn ↑bn ↑pn l)) = 0))), undef, (ptr L.bN 0), (ptr L.bN 0), (ptr L.bN 3), (sli L.bU 0 s.gD L.cU), (eN dn), (ptr L.bU dn), (sli (L.bd dn) 0 s.gB (L.cd dn)), (eN bn), (ptr (L.bd dn) (bn * 4)), (ptr (L.bd dn) (bn * 4)), (ptr (L.bd dn) (bn * 4)), (ptr (L.bd dn) (bn * 4 + 1)), (eN ((s.bl dn bn).nx)), (eN ((s.bl dn bn).nx + 1)), (ptr (L.bd dn) (bn * 4)), (ptr (L.bd dn) (bn * 4 + 1)), (ptr L.bN 0), (Value.bool ((s.setB dn bn { s.bl dn bn with nx := (s.bl dn bn).nx + 1 }).goesR))] ++ (us 13 ++ [(v38 0), (v38 1), (v38 2), (v38 3), (v38 4), (v38 5), (v38 6), (v38 7), undef])))) s_mx kr rfl (by decide) (by rfl) kr kr kr (by rfl) (fun v_ => by kernel_rfl) (fun v_ => by kernel_rfl) (fun _ => fun w_ w2_ h ho => by have r_hN := h; exact r_hN.step0 ho) hN ?_ ?_ ?_
    ·
     refine ls_cons ?_ ?_
     ·
      intro v38 lo hi w_ k_ hO hd _ _ hk_ _ hR hold
      have r_hN := hR
      clear hd hold
      refine ⟨_, rfl, gd rfl ?_⟩
      exact Does.is (d_move rfl)
     refine ls_cons ?_ ?_
     ·
      intro v38 lo hi w_ k_ hO hd _ _ hk_ _ hR hold
      have r_hN := hR
      have e0 : v38 0 = (ptr (L.bd dn) (bn * 4)) := hd 0 kr
      clear hd hold
      refine ⟨_, rfl, gd rfl ?_⟩
      exact Does.is (d_nilCheck (b := (L.bd dn)) (o := (bn * 4)) e0)
     refine ls_cons ?_ ?_
     ·
      intro v38 lo hi w_ k_ hO hd _ _ hk_ _ hR hold
      have r_hN := hR
      have e1 : v38 1 = (ptr (L.bd dn) (bn * 4)) := hd 1 kr
      clear hd hold
      refine ⟨_, rfl, gd rfl ?_⟩
      exact Does.is (d_fieldAddr (j := bn * 4) Try.underlying85 rfl s_ti63 (by decide) e1 rfl)
     refine ls_cons ?_ ?_
     ·
      intro v38 lo hi w_ k_ hO hd _ _ hk_ _ hR hold
      have r_hN := hR
      have e2 : v38 2 = (ptr (L.bd dn) (bn * 4)) := hd 2 kr
      clear hd hold
      refine ⟨_, rfl, gd rfl ?_⟩
      exact Does.is (rd_ldS (i := dn) (j := bn) (f := 0) r_hN ⟨_, Try.underlying63, rfl⟩ e2 hd1 hb1 (by decide) rfl)
     refine ls_cons ?_ ?_
     ·
      intro v38 lo hi w_ k_ hO hd _ _ hk_ _ hR hold
      have r_hN := hR
      clear hd hold
      refine ⟨_, rfl, gd rfl ?_⟩
      exact Does.is (d_move rfl)
     refine ls_cons ?_ ?_
     ·
      intro v38 lo hi w_ k_ hO hd _ _ hk_ _ hR hold
      have r_hN := hR
      clear hd hold
      refine ⟨_, rfl, gd rfl ?_⟩
      refine Does.mono (d_buildL (cs := []) Try.underlying36 s_ti5 rfl (nb rfl) parts_nil rfl) (fun u w' h => by obtain ⟨b_, rfl, hb_, hA_, hO_⟩ := h; exact ⟨⟨b_, rfl, hA_, Nat.le_trans hO.size hb_⟩, hO_⟩)
     refine ls_cons ?_ ?_
     ·
      intro v38 lo hi w_ k_ hO hd _ _ hk_ _ hR hold
      have r_hN := hR
      clear hd hold
      refine ⟨_, rfl, gd rfl ?_⟩
      exact Does.is (d_move rfl)
     refine ls_cons ?_ ?_
     ·
      intro v38 lo hi w_ k_ hO hd _ _ hk_ _ hR hold
      have r_hN := hR
      obtain ⟨mb5, me5, ma5, mf5⟩ : ∃ b, v38 5 = sli b 0 0 0 ∧ Arr 5 b (([] : List UInt8).map eB) w_ ∧ w19.heap.size ≤ b := hd 5 kr
      have e6 : v38 6 = ul := hd 6 kr
      clear hd hold
      refine ⟨_, rfl, gd rfl ?_⟩
      refine Does.mono (R := AppFull 5 eB mb5 (l) w_) ?_ (fun u w' h => by obtain ⟨bo_, h1_, h2_, h3_⟩ := h; exact ⟨h1_.seq (not_of_lt hX0_ (fresh_of h2_ mf5 hO.size)), h3_⟩)
      exact d_append_full (xs := ([] : List UInt8)) (ys := l) Try.underlying36 Try.underlying36 s_ti5 rfl me5 e6 ma5 (by simp) (SrcV.of_seq (hl.step hO (ors_mono no_any)) (fun _ => rfl)) (by first | omega | (simp; omega)) (by first | omega | (simp; omega)) rfl
     exact ls_nil
    ·
     exact ms_nil
    intro v38 lo_ hi_ w39 o40 hd iv_ hR
    have e0 : v38 0 = (ptr (L.bd dn) (bn * 4)) := hd 0 (by decide)
    have e1 : v38 1 = (ptr (L.bd dn) (bn * 4)) := hd 1 (by decide)
    have e2 : v38 2 = (ptr (L.bd dn) (bn * 4)) := hd 2 (by decide)
    have e3 : v38 3 = (sli (L.bp (dn * (s.progA ↑dn ↑bn ↑pn l).gB + bn)) 0 ((s.progA ↑dn ↑bn ↑pn l).gP) (L.cp (dn * (s.progA ↑dn ↑bn ↑pn l).gB + bn))) := hd 3 (by decide)
    have e4 : v38 4 = (eN pn) := hd 4 (by decide)
    have e6 : v38 6 = ul := hd 6 (by decide)
    have f_v38_7 : Ps (Ors L.S (Old W.heap.size)) (Seq kB l (v38 7)) w39 := hd 7 (by decide)
    clear hd iv_ lo_ hi_
    refine wpL.flat ([(ptr L.bN 0), (eN dn), (eN bn), (eN pn), ul] ++ (us 5 ++ [(eN 0), vT, (eN (s.askR (s.progOk ↑dn ↑bn ↑pn l))), (ptr (L.bd dn) (bn * 4)), (ptr L.bN 0), (eN dn), (eN bn), vT, vT, (ptr L.bN 0), (ptr L.bN 0), (ptr L.bN 3), (sli L.bU 0 s.gD L.cU), (eN dn), (ptr L.bU dn), (sli (L.bd dn) 0 s.gB (L.cd dn)), (eN bn), (ptr (L.bd dn) (bn * 4)), (ptr (L.bd dn) (bn * 4 + 1)), (eN ((s.bl dn bn).nx)), (eN pn), vT, vT, vT, ul, (eN l.length), vT, vT, (ptr L.bN 0), (eN dn), (eN bn), (eN pn), vT, (eN (s.askR (s.progOk ↑dn ↑bn ↑pn l))), (eN (s.askR (s.progOk ↑dn ↑bn ↑pn l))), (Value.bool (!decide ((s.askR (s.progOk ↑dn ↑bn ↑pn l)) = 0))), undef, (ptr L.bN 0), (ptr L.bN 0), (ptr L.bN 3), (sli L.bU 0 s.gD L.cU), (eN dn), (ptr L.bU dn), (sli (L.bd dn) 0 s.gB (L.cd dn)), (eN bn), (ptr (L.bd dn) (bn * 4)), (ptr (L.bd dn) (bn * 4)), (ptr (L.bd dn) (bn * 4)), (ptr (L.bd dn) (bn * 4 + 1)), (eN ((s.bl dn bn).nx)), (eN ((s.bl dn bn).nx + 1)), (ptr (L.bd dn) (bn * 4)), (ptr (L.bd dn) (bn * 4 + 1)), (ptr L.bN 0), (Value.bool ((s.setB dn bn { s.bl dn bn with nx := (s.bl dn bn).nx + 1 }).goesR))] ++ (us 13 ++ [(ptr (L.bd dn) (bn * 4)), (ptr (L.bd dn) (bn * 4)), (ptr (L.bd dn) (bn * 4)), (sli (L.bp (dn * (s.progA ↑dn ↑bn ↑pn l).gB + bn)) 0 ((s.progA ↑dn ↑bn ↑pn l).gP) (L.cp (dn * (s.progA ↑dn ↑bn ↑pn l).gB + bn))), (eN pn), (v38 5), ul, (v38 7), undef]))) (by rw [e0, e1, e2, e3, e4, e6] <;> rfl) ?_
    clear e0 e1 e2 e3 e4 e6
    replace hl := hl.step o40 (ors_mono no_any)
    replace hN := hR
    clear hR
    replace oW := oW.tail o40 (tl_sin (fun k h => h) tl_no)
    refine wLD ?_
    refine wI (dI (n := ((s.progA ↑dn ↑bn ↑pn l).gP)) (i := pn) hp1) ?_
    refine wO (rd_stD (i := dn) (j := bn) (f := pn) (Y := (Ors L.S X)) (l := l) hN ox_s s_ti36 rfl rfl (f_v38_7.less (Y := (Ors L.S X)) (xx_ors (lt_old hX))) hd1 hb1 hp1 hl6_) ?_
    rintro _ w41 ⟨a42, o43⟩
    replace hl := hl.step o43 sub1
    replace f_v38_7 := f_v38_7.step o43 sub1
    replace oW := oW.tail o43 (fun k _ e => (fun k h => h) k e)
    replace hN := a42
    refine gs ?_
    refine gS ?_
    refine leave0 (v := (eN 0)) (res1 Try.results54 rfl) ?_
    obtain ⟨e1_, e2_⟩ := NS.prog_yes c0 c1; exact ⟨congrArg eN e2_.symm, by rw [e1_]; exact hN, oW⟩
   refine gS ?_
   refine wO (dC (refThere_ok L s _ hN (r := true) (dn : Int) (bn : Int) k0)) ?_
   rintro _ w44 ⟨rfl, o45⟩
   replace hl := hl.step0 o45
   replace hN := hN.step0 o45
   replace oW := oW.tail0 o45
   refine gs ?_
   refine wG (rd_ld (v := (sli L.bU 0 s.gD L.cU)) hN ⟨_, Try.underlying78, rfl⟩ rfl (fun _ => rfl)) ?_
   refine gs ?_
   refine wG (dI (n := s.gD) (i := dn) hd1) ?_
   refine wG (rd_ldU (i := dn) hN ⟨_, Try.underlying82, rfl⟩ rfl hd1) ?_
   refine gs ?_
   refine wG (d_index (b := (L.bd dn)) (o := 0) (n := s.gB) (c := (L.cd dn)) (j := (bn * 4)) Try.underlying82 s_ti85 rfl (show _ = Value.int _ (bn : Int) from rfl) oo (Int.ofNat_lt.2 hb1) (by simp)) ?_
   refine gs ?_
   refine wG (rd_ldS (i := dn) (j := bn) (f := 1) hN ⟨_, Try.underlying3, rfl⟩ rfl hd1 hb1 (by decide) rfl) ?_
   refine gs ?_
   refine wG (d_eql (k := .i64) (m := (((s.bl dn bn).nx : Nat) : Int)) (n := p) rfl rfl (decide_eq_true k1)) ?_
   refine gs ?_
   refine wG (dN hl) ?_
   refine wG (n_eql (a := l.length) (b := 60) rfl rfl (decide_eq_false k2)) ?_
   refine gs ?_
   refine gS ?_
   refine wO (dC (refMay_ok L s _ hN (g := (s.progOk ↑dn ↑bn p l)) (dn : Int) (bn : Int) p false (by rw [← NS.mayOk_prog]; congr 1; simp [*]))) ?_
   rintro _ w46 ⟨rfl, a48, o47⟩
   replace hl := hl.step o47 sub1
   replace oW := oW.tail o47 (fun k _ e => (fun k h => h) k e)
   replace hN := a48
   refine gs ?_
   refine gS ?_
   refine wI (n_neq (a := (s.askR (s.progOk ↑dn ↑bn p l))) (b := 0) rfl rfl rfl) ?_
   refine gs ?_
   refine cond_un rfl (fun c0 => ?_) (fun c0 => ?_)
   ·
    refine wQ ?_
    refine gS ?_
    refine leave0 (v := (eN (s.askR (s.progOk ↑dn ↑bn p l)))) (res1 Try.results54 rfl) ?_
    obtain ⟨e1_, e2_⟩ := NS.prog_no c0; exact ⟨congrArg eN e2_.symm, e1_ ▸ rd_to hN (NS.may_no c0), oW⟩
   exact absurd c0 (NS.askR_no (by rw [← NS.mayOk_prog]; simp [NS.mayOk, *]))
  refine gS ?_
  refine wO (dC (refThere_ok L s _ hN (r := true) (dn : Int) (bn : Int) k0)) ?_
  rintro _ w49 ⟨rfl, o50⟩
  replace hl := hl.step0 o50
  replace hN := hN.step0 o50
  replace oW := oW.tail0 o50
  refine gs ?_
  refine wG (rd_ld (v := (sli L.bU 0 s.gD L.cU)) hN ⟨_, Try.underlying78, rfl⟩ rfl (fun _ => rfl)) ?_
  refine gs ?_
  refine wG (dI (n := s.gD) (i := dn) hd1) ?_
  refine wG (rd_ldU (i := dn) hN ⟨_, Try.underlying82, rfl⟩ rfl hd1) ?_
  refine gs ?_
  refine wG (d_index (b := (L.bd dn)) (o := 0) (n := s.gB) (c := (L.cd dn)) (j := (bn * 4)) Try.underlying82 s_ti85 rfl (show _ = Value.int _ (bn : Int) from rfl) oo (Int.ofNat_lt.2 hb1) (by simp)) ?_
  refine gs ?_
  refine wG (rd_ldS (i := dn) (j := bn) (f := 1) hN ⟨_, Try.underlying3, rfl⟩ rfl hd1 hb1 (by decide) rfl) ?_
  refine gs ?_
  refine wG (d_eql (k := .i64) (m := (((s.bl dn bn).nx : Nat) : Int)) (n := p) rfl rfl (decide_eq_false k1)) ?_
  refine gs ?_
  refine gS ?_
  refine wO (dC (refMay_ok L s _ hN (g := (s.progOk ↑dn ↑bn p l)) (dn : Int) (bn : Int) p false (by rw [← NS.mayOk_prog]; congr 1; simp [*]))) ?_
  rintro _ w51 ⟨rfl, a53, o52⟩
  replace hl := hl.step o52 sub1
  replace oW := oW.tail o52 (fun k _ e => (fun k h => h) k e)
  replace hN := a53
  refine gs ?_
  refine gS ?_
  refine wI (n_neq (a := (s.askR (s.progOk ↑dn ↑bn p l))) (b := 0) rfl rfl rfl) ?_
  refine gs ?_
  refine cond_un rfl (fun c0 => ?_) (fun c0 => ?_)
  ·
   refine wQ ?_
   refine gS ?_
   refine leave0 (v := (eN (s.askR (s.progOk ↑dn ↑bn p l)))) (res1 Try.results54 rfl) ?_
   obtain ⟨e1_, e2_⟩ := NS.prog_no c0; exact ⟨congrArg eN e2_.symm, e1_ ▸ rd_to hN (NS.may_no c0), oW⟩
  exact absurd c0 (NS.askR_no (by rw [← NS.mayOk_prog]; simp [NS.mayOk, *]))
 refine gS ?_
 refine wO (dC (refThere_ok L s _ hN (r := false) d b (Bool.eq_false_iff.2 k0))) ?_
 rintro _ w54 ⟨rfl, o55⟩
 replace hl := hl.step0 o55
 replace hN := hN.step0 o55
 replace oW := oW.tail0 o55
 refine gs ?_
 refine gS ?_
 refine wO (dC (refMay_ok L s _ hN (g := (s.progOk d b p l)) d b p false (by rw [← NS.mayOk_prog]; congr 1; simp [*]))) ?_
 rintro _ w56 ⟨rfl, a58, o57⟩
 replace hl := hl.step o57 sub1
 replace oW := oW.tail o57 (fun k _ e => (fun k h => h) k e)
 replace hN := a58
 refine gs ?_
 refine gS ?_
 refine wI (n_neq (a := (s.askR (s.progOk d b p l))) (b := 0) rfl rfl rfl) ?_
 refine gs ?_
 refine cond_un rfl (fun c0 => ?_) (fun c0 => ?_)
 ·
  refine wQ ?_
  refine gS ?_
  refine leave0 (v := (eN (s.askR (s.progOk d b p l)))) (res1 Try.results54 rfl) ?_
  obtain ⟨e1_, e2_⟩ := NS.prog_no c0; exact ⟨congrArg eN e2_.symm, e1_ ▸ rd_to hN (NS.may_no c0), oW⟩
 exact absurd c0 (NS.askR_no (by rw [← NS.mayOk_prog]; simp [NS.mayOk, *]))
theorem refErase_ok (L : RL) (s : NS) {X : Nat → Prop} (W : World) (hN : Rd L s X W) (d b : Int) (hX : ∀ k, X k → k < W.heap.size) :
    CW Try.prog 55 #[(ptr L.bN 0), (eI d), (eI b)] W (Rt (fun u w => u = eN (s.eraseR d b) ∧ Rd L (s.erase d b) X w ∧ Only L.S W w)) := by
 have oW : Only L.S W W := Only.refl _ _
 refine en 73 Try.func55 Try.ntmps55 ?_
 refine wQ ?_
 refine gS ?_
 refine gS ?_
 refine wO (dC (refMay_ok L s _ hN (g := (s.eraseOk d b)) d b 0 true (NS.mayOk_erase _ _ _ (by have h_ : 4 ≤ s.gP ∧ s.gP ≤ 8 := hN.ok.p; omega)))) ?_
 rintro _ w11 ⟨rfl, a13, o12⟩
 replace oW := oW.tail o12 (fun k _ e => (fun k h => h) k e)
 replace hN := a13
 refine gs ?_
 refine gS ?_
 refine wI (n_neq (a := (s.askR (s.eraseOk d b))) (b := 0) rfl rfl rfl) ?_
 refine gs ?_
 refine cond_un rfl (fun c0 => ?_) (fun c0 => ?_)
 ·
  refine wQ ?_
  refine gS ?_
  refine leave0 (v := (eN (s.askR (s.eraseOk d b)))) (res1 Try.results55 rfl) ?_
  obtain ⟨e1_, e2_⟩ := NS.erase_no c0; exact ⟨congrArg eN e2_.symm, e1_ ▸ rd_to hN (NS.may_no c0), oW⟩
 refine gs ?_
 obtain ⟨⟨hd0, hd1, hb0, hb1⟩, ⟨hp0, hp1⟩, _⟩ := NS.mayOk_of (by rw [NS.mayOk_erase s d b (by have h_ : 4 ≤ s.gP ∧ s.gP ≤ 8 := hN.ok.p; omega)]; exact (NS.askR_yes c0).2)
 obtain ⟨dn, rfl⟩ := Int.eq_ofNat_of_zero_le hd0
 replace hd1 : dn < s.gD := Int.ofNat_lt.1 hd1
 obtain ⟨bn, rfl⟩ := Int.eq_ofNat_of_zero_le hb0
 replace hb1 : bn < s.gB := Int.ofNat_lt.1 hb1
 replace hN := rd_to hN (NS.may_yes c0)
 have hdd_ := (NS.askR_yes c0).1
 refine gS ?_
 refine wI (rd_ld (v := (sli L.bU 0 s.gD L.cU)) hN ⟨_, Try.underlying78, rfl⟩ rfl (fun _ => rfl)) ?_
 refine gs ?_
 refine wI (dI (n := s.gD) (i := dn) hd1) ?_
 refine wI (rd_ldU (i := dn) hN ⟨_, Try.underlying82, rfl⟩ rfl hd1) ?_
 refine gs ?_
 refine wI (d_index (b := (L.bd dn)) (o := 0) (n := s.gB) (c := (L.cd dn)) (j := (bn * 4)) Try.underlying82 s_ti85 rfl (show _ = Value.int _ (bn : Int) from rfl) oo (Int.ofNat_lt.2 hb1) (by simp)) ?_
 refine gs ?_
 refine gS ?_
 refine wI (rd_ldS (i := dn) (j := bn) (f := 2) hN ⟨_, Try.underlying3, rfl⟩ rfl hd1 hb1 (by decide) rfl) ?_
 refine wI (d_add (k := .i64) (m := (s.bl dn bn).er) (n := 1) rfl rfl rfl) ?_
 refine gs ?_
 refine wO (rd_stS (i := dn) (j := bn) (f := 2) (x' := { s.bl dn bn with er := IntKind.i64.wrap ((s.bl dn bn).er + 1) }) hN s_ti3 rfl rfl rfl hd1 hb1 (by decide) (fun _ => rfl) (hN.ok.nx _ _)) ?_
 rintro _ w14 ⟨a15, o16⟩
 replace oW := oW.tail o16 (fun k _ e => (fun k h => h) k e)
 replace hN := a15
 refine gs ?_
 refine gS ?_
 refine wO (dC (refStops_ok L (s.setB dn bn { s.bl dn bn with er := IntKind.i64.wrap ((s.bl dn bn).er + 1) }) _ hN hdd_)) ?_
 rintro _ w17 ⟨rfl, a19, o18⟩
 replace oW := oW.tail o18 (fun k _ e => (fun k h => h) k e)
 replace hN := a19
 refine gs ?_
 replace hN := rd_to hN (show _ = s.eraseA ↑dn ↑bn from NS.stops_erase c0 _ _)
 obtain ⟨T_, hT_⟩ : ∃ T_, s.goesR = T_ := ⟨_, rfl⟩
 refine gS ?_
 refine loop2 (fun (p : (Nat)) => fun (z : Nat → Value) => (([(ptr L.bN 0), (eN dn), (eN bn), undef, undef, undef, (eN 0), (eN (s.askR (s.eraseOk ↑dn ↑bn))), (ptr (L.bd dn) (bn * 4)), (Value.bool ((s.setB dn bn { s.bl dn bn with er := IntKind.i64.wrap ((s.bl dn bn).er + 1) }).goesR)), (eN p), (ptr L.bN 0), (eN dn), (eN bn), (eN (s.askR (s.eraseOk ↑dn ↑bn))), (eN (s.askR (s.eraseOk ↑dn ↑bn))), (Value.bool (!decide ((s.askR (s.eraseOk ↑dn ↑bn)) = 0))), undef, (ptr L.bN 0), (ptr L.bN 0), (ptr L.bN 3), (sli L.bU 0 s.gD L.cU), (eN dn), (ptr L.bU dn), (sli (L.bd dn) 0 s.gB (L.cd dn)), (eN bn), (ptr (L.bd dn) (bn * 4)), (ptr (L.bd dn) (bn * 4)), (ptr (L.bd dn) (bn * 4)), (ptr (L.bd dn) (bn * 4 + 2)), (eI ((s.bl dn bn).er)), (eI (IntKind.i64.wrap ((s.bl dn bn).er + 1))), (ptr (L.bd dn) (bn * 4)), (ptr (L.bd dn) (bn * 4 + 2)), (ptr L.bN 0), (Value.bool ((s.setB dn bn { s.bl dn bn with er := IntKind.i64.wrap ((s.bl dn bn).er + 1) }).goesR))] ++ (zs z 36 36 ++ [undef, undef, undef, undef])) : List Value)) (fun (p : (Nat)) => fun (w_ : World) => (p ≤ s.gP) ∧ Only (Ors L.S No) w17 w_ ∧ Rd L ((s.eraseA ↑dn ↑bn).eraseTo s.goesR dn bn p) X w_) (fun (p : (Nat)) => s.gP - p) 0 kr ?_ ?_
 ·
  refine ⟨?_, ?_, ?_⟩
  ·
   exact Nat.zero_le _
  ·
   exact Only.refl _ _
  ·
   exact (rd_to hN (NS.eraseTo_zero _ _ _ _).symm)
 rintro p z w21 ⟨hp, o20, hN⟩
 (try dsimp only)
 replace oW := oW.tail o20 (tl_sin (fun k h => h) tl_no)
 refine gs ?_
 have hgp_ : ((s.eraseA ↑dn ↑bn).eraseTo s.goesR dn bn p).gP = s.gP := rfl
 have okp_ : 4 ≤ s.gP ∧ s.gP ≤ 8 := hN.ok.p
 refine gS ?_
 refine wI (rd_ld (v := (eN (((s.eraseA ↑dn ↑bn).eraseTo s.goesR dn bn p).gP))) hN ⟨_, Try.underlying3, rfl⟩ rfl (fun _ => rfl)) ?_
 refine wI (n_lss (a := p) (b := (((s.eraseA ↑dn ↑bn).eraseTo s.goesR dn bn p).gP)) rfl rfl rfl) ?_
 refine gs ?_
 refine cond_if rfl (fun c22 => ?_) (fun c22 => ?_)
 ·
  refine gs ?_
  have hp1 : p < s.gP := by omega
  have l1_ : (((s.eraseA ↑dn ↑bn).eraseTo s.goesR dn bn p).dl (((s.eraseA ↑dn ↑bn).eraseTo s.goesR dn bn p).ix dn bn p)).length = 60 := hN.ok.dl _
  have l3_ : ((s.eraseA ↑dn ↑bn).eraseTo s.goesR dn bn p).mask.length ≤ 1048576 := hN.ok.ml
  refine gS ?_
  refine cond_b rfl (fun c1 => ?_) (fun c1 => ?_)
  ·
   obtain ⟨u23, f24, k25⟩ := rd_pD (i := dn) (j := bn) (f := p) (Y := (Ors L.S X)) hN xo_s hd1 hb1 (by first | exact hd1 | exact hb1 | exact hp1 | exact Int.ofNat_lt.2 hd1 | exact Int.ofNat_lt.2 hb1 | exact Int.ofNat_lt.2 hp1 | omega)
   obtain ⟨u26, f27, k28⟩ := rd_pm (Y := (Ors L.S X)) hN xo_s
   refine dpN 18 [12, 4] ?_
   refine gx_ ?_
   refine pI (fun _ hO_ => rd_ldS (i := dn) (j := bn) (f := 0) (hN.step0 hO_) ⟨_, Try.underlying63, rfl⟩ rfl hd1 hb1 (by decide) rfl) ?_
   refine gx_ ?_
   refine pI (fun _ hO_ => rd_ldS (i := dn) (j := bn) (f := 0) (hN.step0 hO_) ⟨_, Try.underlying63, rfl⟩ rfl hd1 hb1 (by decide) rfl) ?_
   refine gx_ ?_
   refine pI (fun _ hO_ => dI (n := (((s.eraseA ↑dn ↑bn).eraseTo s.goesR dn bn p).gP)) (i := p) hp1) ?_
   refine pI (fun _ hO_ => k25 _ hO_ ⟨_, Try.underlying36, rfl⟩ rfl) ?_
   refine gx_ ?_
   refine pI (fun _ hO_ => k28 _ hO_ ⟨_, Try.underlying36, rfl⟩ rfl) ?_
   refine pz_ ?_
   intro w29 o30
   replace hN := hN.step0 o30
   replace f24 := f24.step0 o30
   replace f27 := f27.step0 o30
   replace oW := oW.tail0 o30
   replace o20 := o20.tail0 o30
   refine qO (d_call (xl := []) (al := []) Try.func42 kr rfl rfl rfl (ref7Ones_ok _)) ?_
   rintro u33 w31 f34
   replace f34 := f34.ps
   obtain ⟨f34, o32⟩ := f34
   replace f34 := f34.less (Y := (Ors L.S (Old W.heap.size))) (ors_old hN.lt (old_old oW.size))
   replace hN := hN.step0 o32
   replace f24 := f24.step0 o32
   replace f27 := f27.step0 o32
   replace oW := oW.tail0 o32
   replace o20 := o20.tail0 o32
   refine qO (d_call (xl := [.tmp 57, .tmp 58, .tmp 62]) (al := [u23, u33, u26]) Try.func29 kr rfl rfl rfl (ref6Mix_ok (((s.eraseA ↑dn ↑bn).eraseTo s.goesR dn bn p).dl (((s.eraseA ↑dn ↑bn).eraseTo s.goesR dn bn p).ix dn bn p)) onesW (((s.eraseA ↑dn ↑bn).eraseTo s.goesR dn bn p).mask) u23 u33 u26 _ (Ps.no f24) (Ps.no f34) (Ps.no f27) fo (by have := onesW_len; first | omega | (simp; done) | (simp; omega)) fo)) ?_
   rintro u37 w35 f38
   replace f38 := f38.ps
   obtain ⟨f38, o36⟩ := f38
   replace f38 := f38.less (Y := (Ors L.S (Old W.heap.size))) (ors_old hN.lt (old_old oW.size))
   replace hN := hN.step0 o36
   replace f24 := f24.step0 o36
   replace f27 := f27.step0 o36
   replace f34 := f34.step0 o36
   replace oW := oW.tail0 o36
   replace o20 := o20.tail0 o36
   refine qN ?_
   refine wI (dI (n := (((s.eraseA ↑dn ↑bn).eraseTo s.goesR dn bn p).gP)) (i := p) hp1) ?_
   refine wO (rd_stD (i := dn) (j := bn) (f := p) (Y := (Ors L.S X)) (l := (mixR (((s.eraseA ↑dn ↑bn).eraseTo s.goesR dn bn p).dl (((s.eraseA ↑dn ↑bn).eraseTo s.goesR dn bn p).ix dn bn p)) onesW (((s.eraseA ↑dn ↑bn).eraseTo s.goesR dn bn p).mask))) hN ox_s s_ti36 rfl rfl (f38.less (Y := (Ors L.S X)) (xx_ors (lt_old hX))) hd1 hb1 hp1 (mixR60 l1_ onesW_len)) ?_
   rintro _ w39 ⟨a40, o41⟩
   replace f24 := f24.step o41 sub1
   replace f27 := f27.step o41 sub1
   replace f34 := f34.step o41 sub1
   replace f38 := f38.step o41 sub1
   replace oW := oW.tail o41 (fun k _ e => (fun k h => h) k e)
   replace o20 := o20.tail o41 (fun k _ e => sub1 k e)
   replace hN := a40
   refine gs ?_
   refine gS ?_
   refine wI (n_add (a := p) (b := 1) rfl rfl oo) ?_
   refine gs ?_
   refine ⟨_, (p + 1), rfl, kr, ⟨?_, ?_, ?_⟩, ?_⟩
   ·
    (try dsimp only)
    all_goals (omega)
   ·
    exact o20
   ·
    exact (rd_to hN (NS.eraseTo_next _ _ _ _ _ ((if_pos c1).trans (congrArg (fun x_ => mixR x_ onesW _) (NS.eraseTo_dl _ _ _ _ _).symm))))
   ·
    (try dsimp only)
    all_goals (omega)
  refine dpN 6 [5] ?_
  refine gx_ ?_
  refine pI (fun _ hO_ => rd_ldS (i := dn) (j := bn) (f := 0) (hN.step0 hO_) ⟨_, Try.underlying63, rfl⟩ rfl hd1 hb1 (by decide) rfl) ?_
  refine gx_ ?_
  refine pz_ ?_
  intro w42 o43
  replace hN := hN.step0 o43
  replace oW := oW.tail0 o43
  replace o20 := o20.tail0 o43
  refine qO (d_call (xl := []) (al := []) Try.func42 kr rfl rfl rfl (ref7Ones_ok _)) ?_
  rintro u46 w44 f47
  replace f47 := f47.ps
  obtain ⟨f47, o45⟩ := f47
  replace f47 := f47.less (Y := (Ors L.S (Old W.heap.size))) (ors_old hN.lt (old_old oW.size))
  replace hN := hN.step0 o45
  replace oW := oW.tail0 o45
  replace o20 := o20.tail0 o45
  refine qN ?_
  refine wI (dI (n := (((s.eraseA ↑dn ↑bn).eraseTo s.goesR dn bn p).gP)) (i := p) hp1) ?_
  refine wO (rd_stD (i := dn) (j := bn) (f := p) (Y := (Ors L.S X)) (l := onesW) hN ox_s s_ti36 rfl rfl (f47.less (Y := (Ors L.S X)) (xx_ors (lt_old hX))) hd1 hb1 hp1 onesW_len) ?_
  rintro _ w48 ⟨a49, o50⟩
  replace f47 := f47.step o50 sub1
  replace oW := oW.tail o50 (fun k _ e => (fun k h => h) k e)
  replace o20 := o20.tail o50 (fun k _ e => sub1 k e)
  replace hN := a49
  refine gs ?_
  refine gS ?_
  refine wI (n_add (a := p) (b := 1) rfl rfl oo) ?_
  refine gs ?_
  refine ⟨_, (p + 1), rfl, kr, ⟨?_, ?_, ?_⟩, ?_⟩
  ·
   (try dsimp only)
   all_goals (omega)
  ·
   exact o20
  ·
   (try dsimp only)
   all_goals (exact (rd_to hN (NS.eraseTo_next _ _ _ _ _ (if_neg (fun e_ => by have c1_ : s.goesR = false := c1; rw [c1_] at e_; cases e_)))))
  ·
   (try dsimp only)
   all_goals (omega)
 refine gs ?_
 have hpe_ : p = s.gP := by omega
 rw [hpe_] at hN
 refine gS ?_
 refine cond_b rfl (fun c1 => ?_) (fun c1 => ?_)
 ·
  refine wQ ?_
  refine gS ?_
  refine leave0 (v := (eN 8)) (res1 Try.results55 rfl) ?_
  obtain ⟨e1_, e2_⟩ := NS.erase_torn c0 c1; exact ⟨congrArg eN e2_.symm, by rw [e1_]; exact hN, oW⟩
 refine gs ?_
 refine gS ?_
 refine wO (rd_stS (i := dn) (j := bn) (f := 1) (x' := { ((s.eraseA ↑dn ↑bn).eraseTo s.goesR dn bn s.gP).bl dn bn with nx := 0 }) hN s_ti3 rfl rfl rfl hd1 hb1 (by decide) (fun _ => rfl) (Nat.zero_le _)) ?_
 rintro _ w51 ⟨a52, o53⟩
 replace oW := oW.tail o53 (fun k _ e => (fun k h => h) k e)
 replace o20 := o20.tail o53 (fun k _ e => sub1 k e)
 replace hN := a52
 refine gs ?_
 refine gS ?_
 refine leave0 (v := (eN 0)) (res1 Try.results55 rfl) ?_
 obtain ⟨e1_, e2_⟩ := NS.erase_yes c0 c1; exact ⟨congrArg eN e2_.symm, by rw [e1_]; exact hN, oW⟩
theorem refNoise_ok (L : RL) (s : NS) {X : Nat → Prop} (W : World) (hN : Rd L s X W) (d b p : Int) (l : List Int) (ul : Value) (hX : ∀ k, X k → k < W.heap.size) (hl : Ps (Ors L.S No) (Seq kI l ul) W) (gl : l.length ≤ 1048576) :
    CW Try.prog 57 #[(ptr L.bN 0), (eI d), (eI b), (eI p), ul] W (Rt (fun u w => u = eN (s.noiseR d b p) ∧ Rd L (s.noise d b p l) X w ∧ Only L.S W w)) := by
 have oW : Only L.S W W := Only.refl _ _
 refine en 39 Try.func57 Try.ntmps57 ?_
 refine wQ ?_
 refine gS ?_
 by_cases k0 : (s.there d b) = true
 ·
  by_cases k2 : p < 0
  ·
   refine gS ?_
   refine wO (dC (refThere_ok L s _ hN (r := true) d b k0)) ?_
   rintro _ w11 ⟨rfl, o12⟩
   replace hl := hl.step0 o12
   replace hN := hN.step0 o12
   replace oW := oW.tail0 o12
   refine gs ?_
   refine wG (d_lss (k := .i64) (m := p) (n := 0) rfl rfl (decide_eq_true k2)) ?_
   refine gs ?_
   refine gS ?_
   refine leave0 (v := (eN 1)) (res1 Try.results57 rfl) ?_
   have k9_ : ¬ (s.pageIn d b p) = true := by simp [NS.pageIn, k0] <;> omega
   exact ⟨congrArg eN (by unfold NS.noiseR; rw [if_neg k9_]), by unfold NS.noise; rw [if_neg k9_]; exact hN, oW⟩
  by_cases k3 : (s.gP : Int) ≤ p
  ·
   refine gS ?_
   refine wO (dC (refThere_ok L s _ hN (r := true) d b k0)) ?_
   rintro _ w13 ⟨rfl, o14⟩
   replace hl := hl.step0 o14
   replace hN := hN.step0 o14
   replace oW := oW.tail0 o14
   refine gs ?_
   refine wG (d_lss (k := .i64) (m := p) (n := 0) rfl rfl (decide_eq_false k2)) ?_
   refine gs ?_
   refine wG (rd_ld (v := (eN s.gP)) hN ⟨_, Try.underlying3, rfl⟩ rfl (fun _ => rfl)) ?_
   refine wG (d_geq (k := .i64) (m := p) (n := (s.gP : Int)) rfl rfl (decide_eq_true k3)) ?_
   refine gs ?_
   refine gS ?_
   refine leave0 (v := (eN 1)) (res1 Try.results57 rfl) ?_
   have k9_ : ¬ (s.pageIn d b p) = true := by simp [NS.pageIn, k0] <;> omega
   exact ⟨congrArg eN (by unfold NS.noiseR; rw [if_neg k9_]), by unfold NS.noise; rw [if_neg k9_]; exact hN, oW⟩
  refine gS ?_
  refine wO (dC (refThere_ok L s _ hN (r := true) d b k0)) ?_
  rintro _ w15 ⟨rfl, o16⟩
  replace hl := hl.step0 o16
  replace hN := hN.step0 o16
  replace oW := oW.tail0 o16
  refine gs ?_
  refine wG (d_lss (k := .i64) (m := p) (n := 0) rfl rfl (decide_eq_false k2)) ?_
  refine gs ?_
  refine wG (rd_ld (v := (eN s.gP)) hN ⟨_, Try.underlying3, rfl⟩ rfl (fun _ => rfl)) ?_
  refine wG (d_geq (k := .i64) (m := p) (n := (s.gP : Int)) rfl rfl (decide_eq_false k3)) ?_
  refine gs ?_
  have k9_ : (s.pageIn d b p) = true := by simp [NS.pageIn, k0]; omega
  have hp0 : 0 ≤ p := by omega
  have hp1 : p < (s.gP : Int) := by omega
  obtain ⟨pn, rfl⟩ := Int.eq_ofNat_of_zero_le hp0
  replace hp1 : pn < s.gP := Int.ofNat_lt.1 hp1
  obtain ⟨hd0, hd1, hb0, hb1⟩ := NS.there_of k0
  obtain ⟨dn, rfl⟩ := Int.eq_ofNat_of_zero_le hd0
  replace hd1 : dn < s.gD := Int.ofNat_lt.1 hd1
  obtain ⟨bn, rfl⟩ := Int.eq_ofNat_of_zero_le hb0
  replace hb1 : bn < s.gB := Int.ofNat_lt.1 hb1
  have hX0_ : ∀ k, (Ors L.S (Old W.heap.size)) k → k < w15.heap.size := (lt_ors hN.lt (fun k t => Nat.lt_of_lt_of_le t oW.size))
  have hO0_ : ∀ k, (Ors L.S No) k → k < w15.heap.size := fun k h => hX0_ k ((ors_mono no_any) k h)
  refine drawnT (O := (Ors L.S No)) (n := 16) 14 [0, 1, 3, 7, 0, 31, 63, 0, 255, 511, 0, 0, 0, 6144, 16383, 32767] [(0, 29), (1, 30), (2, 31), (3, 32), (4, 33), (5, 34), (6, 35), (7, 36), (8, 37), (9, 38), (10, 39), (11, 40), (12, 41), (13, 42), (14, 43)] [(0, 29), (1, 30), (2, 31), (3, 32), (4, 33), (5, 34), (6, 35), (7, 36), (8, 37), (9, 38), (10, 39), (11, 40), (12, 41), (13, 42)] [0, 1, 2, 3, 4, 5, 6, 7, 8, 9, 10, 11, 12, 13] [] (fun i_ => ([RF.is (Ors L.S No) (ptr L.bN 0), RF.is (Ors L.S No) (ptr L.bN 0), RF.is (Ors L.S No) (ptr L.bN 4), RF.is (Ors L.S No) (sli L.bV 0 s.gD L.cV), RF.is (Ors L.S No) (eN dn), RF.is (Ors L.S No) (ptr L.bV dn), RF.is (Ors L.S No) (sli (L.bw dn) 0 s.gB (L.cw dn)), RF.is (Ors L.S No) (eN bn), RF.is (Ors L.S No) (ptr (L.bw dn) bn), RF.is (Ors L.S No) (sli (L.bz (dn * s.gB + bn)) 0 s.gP s.gP), RF.is (Ors L.S No) (eN pn), RF.ar (Ors L.S No) 3 0 (([] : List Int).map eI) w15.heap.size hO0_, RF.is (Ors L.S No) ul, RF.ps (Ors L.S No) (Ors L.S (Old W.heap.size)) (Seq kI l) (ors_mono no_any)] : List (RF (Ors L.S No))).getD i_ (RF.any (Ors L.S No))) (fun _ w_ => Rd L s X w_) (fun v17 => ([(ptr L.bN 0), (eN dn), (eN bn), (eN pn), ul] ++ (us 5 ++ [(eN 0), (ptr L.bN 0), (eN dn), (eN bn), vT, vF, vF, (eN pn), vF, vF, vF, (eN pn), (ptr L.bN 0), (ptr L.bN 0), (ptr L.bN 0), (ptr L.bN 2), (eN s.gP), vF, vF, (v17 0), (v17 1), (v17 2), (v17 3), (v17 4), (v17 5), (v17 6), (v17 7), (v17 8), (v17 9), (v17 10), (v17 11), (v17 12), (v17 13), (v17 14)]))) (fun v17 => ([(ptr L.bN 0), (eN dn), (eN bn), (eN pn), ul] ++ (us 5 ++ [(eN 0), (ptr L.bN 0), (eN dn), (eN bn), vT, vF, vF, (eN pn), vF, vF, vF, (eN pn), (ptr L.bN 0), (ptr L.bN 0), (ptr L.bN 0), (ptr L.bN 2), (eN s.gP), vF, vF, (v17 0), (v17 1), (v17 2), (v17 3), (v17 4), (v17 5), (v17 6), (v17 7), (v17 8), (v17 9), (v17 10), (v17 11), (v17 12), (v17 13), undef]))) s_mx kr rfl (by decide) (by rfl) kr kr kr (by rfl) (fun v_ => by kernel_rfl) (fun v_ => by kernel_rfl) (fun _ => fun w_ w2_ h ho => by have r_hN := h; exact r_hN.step0 ho) hN ?_ ?_ ?_
  ·
   refine ls_cons ?_ ?_
   ·
    intro v17 lo hi w_ k_ hO hd _ _ hk_ _ hR hold
    have r_hN := hR
    clear hd hold
    refine ⟨_, rfl, gd rfl ?_⟩
    exact Does.is (d_move rfl)
   refine ls_cons ?_ ?_
   ·
    intro v17 lo hi w_ k_ hO hd _ _ hk_ _ hR hold
    have r_hN := hR
    have e0 : v17 0 = (ptr L.bN 0) := hd 0 kr
    clear hd hold
    refine ⟨_, rfl, gd rfl ?_⟩
    exact Does.is (d_nilCheck (b := L.bN) (o := 0) e0)
   refine ls_cons ?_ ?_
   ·
    intro v17 lo hi w_ k_ hO hd _ _ hk_ _ hR hold
    have r_hN := hR
    have e1 : v17 1 = (ptr L.bN 0) := hd 1 kr
    clear hd hold
    refine ⟨_, rfl, gd rfl ?_⟩
    exact Does.is (d_fieldAddr (j := 4) Try.underlying81 rfl s_ti79 (by decide) e1 rfl)
   refine ls_cons ?_ ?_
   ·
    intro v17 lo hi w_ k_ hO hd _ _ hk_ _ hR hold
    have r_hN := hR
    have e2 : v17 2 = (ptr L.bN 4) := hd 2 kr
    clear hd hold
    refine ⟨_, rfl, gd rfl ?_⟩
    exact Does.is (rd_ld (v := (sli L.bV 0 s.gD L.cV)) r_hN ⟨_, Try.underlying79, rfl⟩ e2 (fun _ => rfl))
   refine ls_cons ?_ ?_
   ·
    intro v17 lo hi w_ k_ hO hd _ _ hk_ _ hR hold
    have r_hN := hR
    clear hd hold
    refine ⟨_, rfl, gd rfl ?_⟩
    exact Does.is (d_move rfl)
   refine ls_cons ?_ ?_
   ·
    intro v17 lo hi w_ k_ hO hd _ _ hk_ _ hR hold
    have r_hN := hR
    have e3 : v17 3 = (sli L.bV 0 s.gD L.cV) := hd 3 kr
    have e4 : v17 4 = (eN dn) := hd 4 kr
    clear hd hold
    refine ⟨_, rfl, gd rfl ?_⟩
    exact Does.is (d_index1 (n := s.gD) (i := dn) Try.underlying79 s_ti83 e3 (show _ = Value.int _ (dn : Int) from e4) hd1)
   refine ls_cons ?_ ?_
   ·
    intro v17 lo hi w_ k_ hO hd _ _ hk_ _ hR hold
    have r_hN := hR
    have e5 : v17 5 = (ptr L.bV dn) := hd 5 kr
    clear hd hold
    refine ⟨_, rfl, gd rfl ?_⟩
    exact Does.is (rd_ldV (i := dn) r_hN ⟨_, Try.underlying83, rfl⟩ e5 hd1)
   refine ls_cons ?_ ?_
   ·
    intro v17 lo hi w_ k_ hO hd _ _ hk_ _ hR hold
    have r_hN := hR
    clear hd hold
    refine ⟨_, rfl, gd rfl ?_⟩
    exact Does.is (d_move rfl)
   refine ls_cons ?_ ?_
   ·
    intro v17 lo hi w_ k_ hO hd _ _ hk_ _ hR hold
    have r_hN := hR
    have e6 : v17 6 = (sli (L.bw dn) 0 s.gB (L.cw dn)) := hd 6 kr
    have e7 : v17 7 = (eN bn) := hd 7 kr
    clear hd hold
    refine ⟨_, rfl, gd rfl ?_⟩
    exact Does.is (d_index1 (n := s.gB) (i := bn) Try.underlying83 s_ti67 e6 (show _ = Value.int _ (bn : Int) from e7) hb1)
   refine ls_cons ?_ ?_
   ·
    intro v17 lo hi w_ k_ hO hd _ _ hk_ _ hR hold
    have r_hN := hR
    have e8 : v17 8 = (ptr (L.bw dn) bn) := hd 8 kr
    clear hd hold
    refine ⟨_, rfl, gd rfl ?_⟩
    exact Does.is (rd_ldW (i := dn) (j := bn) r_hN ⟨_, Try.underlying67, rfl⟩ e8 hd1 hb1)
   refine ls_cons ?_ ?_
   ·
    intro v17 lo hi w_ k_ hO hd _ _ hk_ _ hR hold
    have r_hN := hR
    clear hd hold
    refine ⟨_, rfl, gd rfl ?_⟩
    exact Does.is (d_move rfl)
   refine ls_cons ?_ ?_
   ·
    intro v17 lo hi w_ k_ hO hd _ _ hk_ _ hR hold
    have r_hN := hR
    clear hd hold
    refine ⟨_, rfl, gd rfl ?_⟩
    refine Does.mono (d_buildL (cs := []) Try.underlying37 s_ti3 rfl (nb rfl) parts_nil rfl) (fun u w' h => by obtain ⟨b_, rfl, hb_, hA_, hO_⟩ := h; exact ⟨⟨b_, rfl, hA_, Nat.le_trans hO.size hb_⟩, hO_⟩)
   refine ls_cons ?_ ?_
   ·
    intro v17 lo hi w_ k_ hO hd _ _ hk_ _ hR hold
    have r_hN := hR
    clear hd hold
    refine ⟨_, rfl, gd rfl ?_⟩
    exact Does.is (d_move rfl)
   refine ls_cons ?_ ?_
   ·
    intro v17 lo hi w_ k_ hO hd _ _ hk_ _ hR hold
    have r_hN := hR
    obtain ⟨mb11, me11, ma11, mf11⟩ : ∃ b, v17 11 = sli b 0 0 0 ∧ Arr 3 b (([] : List Int).map eI) w_ ∧ w15.heap.size ≤ b := hd 11 kr
    have e12 : v17 12 = ul := hd 12 kr
    clear hd hold
    refine ⟨_, rfl, gd rfl ?_⟩
    refine Does.mono (R := AppFull 3 eI mb11 (l) w_) ?_ (fun u w' h => by obtain ⟨bo_, h1_, h2_, h3_⟩ := h; exact ⟨h1_.seq (not_of_lt hX0_ (fresh_of h2_ mf11 hO.size)), h3_⟩)
    exact d_append_full (xs := ([] : List Int)) (ys := l) Try.underlying37 Try.underlying37 s_ti3 rfl me11 e12 ma11 (by simp) (SrcV.of_seq (hl.step hO (ors_mono no_any)) (fun _ => rfl)) (by first | omega | (simp; omega)) (by first | omega | (simp; omega)) rfl
   exact ls_nil
  ·
   exact ms_nil
  intro v17 lo_ hi_ w18 o19 hd iv_ hR
  have e0 : v17 0 = (ptr L.bN 0) := hd 0 (by decide)
  have e1 : v17 1 = (ptr L.bN 0) := hd 1 (by decide)
  have e2 : v17 2 = (ptr L.bN 4) := hd 2 (by decide)
  have e3 : v17 3 = (sli L.bV 0 s.gD L.cV) := hd 3 (by decide)
  have e4 : v17 4 = (eN dn) := hd 4 (by decide)
  have e5 : v17 5 = (ptr L.bV dn) := hd 5 (by decide)
  have e6 : v17 6 = (sli (L.bw dn) 0 s.gB (L.cw dn)) := hd 6 (by decide)
  have e7 : v17 7 = (eN bn) := hd 7 (by decide)
  have e8 : v17 8 = (ptr (L.bw dn) bn) := hd 8 (by decide)
  have e9 : v17 9 = (sli (L.bz (dn * s.gB + bn)) 0 s.gP s.gP) := hd 9 (by decide)
  have e10 : v17 10 = (eN pn) := hd 10 (by decide)
  have e12 : v17 12 = ul := hd 12 (by decide)
  have f_v17_13 : Ps (Ors L.S (Old W.heap.size)) (Seq kI l (v17 13)) w18 := hd 13 (by decide)
  clear hd iv_ lo_ hi_
  refine wpL.flat ([(ptr L.bN 0), (eN dn), (eN bn), (eN pn), ul] ++ (us 5 ++ [(eN 0), (ptr L.bN 0), (eN dn), (eN bn), vT, vF, vF, (eN pn), vF, vF, vF, (eN pn), (ptr L.bN 0), (ptr L.bN 0), (ptr L.bN 0), (ptr L.bN 2), (eN s.gP), vF, vF, (ptr L.bN 0), (ptr L.bN 0), (ptr L.bN 4), (sli L.bV 0 s.gD L.cV), (eN dn), (ptr L.bV dn), (sli (L.bw dn) 0 s.gB (L.cw dn)), (eN bn), (ptr (L.bw dn) bn), (sli (L.bz (dn * s.gB + bn)) 0 s.gP s.gP), (eN pn), (v17 11), ul, (v17 13), undef])) (by rw [e0, e1, e2, e3, e4, e5, e6, e7, e8, e9, e10, e12] <;> rfl) ?_
  clear e0 e1 e2 e3 e4 e5 e6 e7 e8 e9 e10 e12
  replace hl := hl.step o19 (ors_mono no_any)
  replace hN := hR
  clear hR
  replace oW := oW.tail o19 (tl_sin (fun k h => h) tl_no)
  refine wLD ?_
  refine wI (dI (n := s.gP) (i := pn) hp1) ?_
  refine wO (rd_stZ (i := dn) (j := bn) (f := pn) (Y := (Ors L.S X)) (l := l) hN ox_s s_ti37 rfl rfl (f_v17_13.less (Y := (Ors L.S X)) (xx_ors (lt_old hX))) hd1 hb1 hp1 gl) ?_
  rintro _ w20 ⟨a21, o22⟩
  replace hl := hl.step o22 sub1
  replace f_v17_13 := f_v17_13.step o22 sub1
  replace oW := oW.tail o22 (fun k _ e => (fun k h => h) k e)
  replace hN := a21
  refine gs ?_
  refine gS ?_
  refine leave0 (v := (eN 0)) (res1 Try.results57 rfl) ?_
  exact ⟨congrArg eN (by unfold NS.noiseR; rw [if_pos k9_]), by unfold NS.noise; rw [if_pos k9_]; exact hN, oW⟩
 refine gS ?_
 refine wO (dC (refThere_ok L s _ hN (r := false) d b (Bool.eq_false_iff.2 k0))) ?_
 rintro _ w23 ⟨rfl, o24⟩
 replace hl := hl.step0 o24
 replace hN := hN.step0 o24
 replace oW := oW.tail0 o24
 refine gs ?_
 refine gS ?_
 refine leave0 (v := (eN 1)) (res1 Try.results57 rfl) ?_
 have k9_ : ¬ (s.pageIn d b p) = true := by simp [NS.pageIn, k0] <;> omega
 exact ⟨congrArg eN (by unfold NS.noiseR; rw [if_neg k9_]), by unfold NS.noise; rw [if_neg k9_]; exact hN, oW⟩
theorem refStop_ok (L : RL) (s : NS) {X : Nat → Prop} (W : World) (hN : Rd L s X W) (k : Nat) (l : List UInt8) (ul : Value) (hX : ∀ k, X k → k < W.heap.size) (hl : Ps (Ors L.S No) (Seq kB l ul) W) (gl : l.length ≤ 1048576) (gk : k < 2 ^ 62) :
    CW Try.prog 58 #[(ptr L.bN 0), (eN k), ul] W (Rt (fun u w => Rd L (s.stopAt k l) X w ∧ Only L.S W w)) := by
 have oW : Only L.S W W := Only.refl _ _
 refine en 14 Try.func58 Try.ntmps58 ?_
 refine gS ?_
 refine wI (n_max rfl rfl) ?_
 refine wO (d_buildL (cs := []) Try.underlying36 s_ti5 rfl (nb rfl) parts_nil rfl) ?_
 rintro _ w11 ⟨eb, rfl, g12, a13, o14⟩
 replace a13 : Arr 5 eb (([] : List UInt8).map eB) w11 := a13
 have l_eb : ([] : List UInt8).length = 0 := rfl
 have g_oW_eb : W.heap.size ≤ eb := Nat.le_trans oW.size g12
 replace hl := hl.new o14 g12
 replace hN := hN.new o14 g12
 replace oW := oW.tail0 o14
 refine gs ?_
 have a16 := Ow.of_map2 a13 l_eb
 have q_oW_row15 : Fr (some eb) none W.heap.size := Fr.new g_oW_eb
 replace hl := hl.less (Y := (Orq (some eb) (Ors L.S No))) (xx_br (xx_ors xx_id))
 replace hN := hN.less (Y := (Orq (some eb) X)) (xx_br xx_id)
 refine wO (d_append Try.underlying36 Try.underlying36 s_ti5 rfl rfl rfl a16 (SrcV.of_seq hl (fun _ => rfl)) (by first | omega | (simp; omega)) (by first | omega | (simp; omega)) rfl) ?_
 rintro u17 w18 ⟨bo19, a20, o21, q22⟩
 replace a20 : Ow 5 1 bo19 u17 (([] : List UInt8) ++ l).length ((([] : List UInt8) ++ l).map eB) w18 := by rw [List.length_append, List.map_append]; exact a20
 replace hl := hl.gr o21 (fun k e => (.inl e)) (xx_re (Fr.of_or q22) (xx_ors xx_id))
 replace hN := hN.gr o21 (fun k e => (.inl e)) (xx_re (Fr.of_or q22) xx_id)
 have tq := oW.size
 replace oW := oW.tailr o21 q_oW_row15 (fun _ e => by cases e)
 replace q_oW_row15 := qtr (Fr.of_or q22) q_oW_row15 tq
 clear tq
 refine gs ?_
 refine wO (rd_st (s' := { s with stop := max k 0 }) (i := 5) (v := (eN (max k 0))) hN s_ti3 rfl rfl rfl (by decide) (fun _ => rfl) ⟨hN.ok.d, hN.ok.b, hN.ok.p, hN.ok.nx, (by have := hN.ok.st; show max k 0 < 2 ^ 62; omega), hN.ok.dl, hN.ok.nl, hN.ok.ml⟩ ⟨rfl, rfl, rfl, rfl, rfl, rfl, rfl⟩) ?_
 rintro _ w23 ⟨a24, o25⟩
 replace a20 := a20.step o25 (fun x hx => hN.dis x ((fun k e => (.inl e)) x hx))
 replace hl := hl.step o25 (subq sub1)
 replace oW := oW.tail o25 (fun k _ e => (fun k h => h) k e)
 replace hN := a24
 refine gs ?_
 have f26 : Ps (Ors L.S (Old W.heap.size)) (Seq kB (([] : List UInt8) ++ l) u17) w23 := Ow.seq a20 (fun b_ hb_ => (not_ors (hN.dis b_ ((fun k e => (.inl e)) b_ hb_)) (old_q q_oW_row15 b_ hb_)))
 replace hl := Ps.less (Y := (Ors L.S No)) hl (xx_skip (xx_ors xx_id))
 replace hN := Rd.less (Y := X) hN (xx_skip xx_id)
 refine wO (rd_stm (Y := (Ors L.S X)) (l := (([] : List UInt8) ++ l)) hN ox_s s_ti36 rfl rfl (f26.less (Y := (Ors L.S X)) (xx_ors (lt_old hX))) gl) ?_
 rintro _ w27 ⟨a28, o29⟩
 replace hl := hl.step o29 sub1
 replace f26 := f26.step o29 sub1
 replace oW := oW.tail o29 (fun k _ e => (fun k h => h) k e)
 replace hN := a28
 refine gs ?_
 refine leave0 (v := (Value.tuple #[])) (res0 Try.results58) ?_
 exact ⟨hN, oW⟩
theorem refPower_ok (L : RL) (s : NS) {X : Nat → Prop} (W : World) (hN : Rd L s X W) :
    CW Try.prog 34 #[(ptr L.bN 0)] W (Rt (fun u w => Rd L s.powerX X w ∧ Only L.S W w)) := by
 have oW : Only L.S W W := Only.refl _ _
 refine en 7 Try.func34 Try.ntmps34 ?_
 refine gS ?_
 refine wO (rd_st (s' := { s with stop := 0 }) (i := 5) (v := (eN 0)) hN s_ti3 rfl rfl rfl (by decide) (fun _ => rfl) ⟨hN.ok.d, hN.ok.b, hN.ok.p, hN.ok.nx, by show 0 < 2 ^ 62; decide, hN.ok.dl, hN.ok.nl, hN.ok.ml⟩ ⟨rfl, rfl, rfl, rfl, rfl, rfl, rfl⟩) ?_
 rintro _ w11 ⟨a12, o13⟩
 replace oW := oW.tail o13 (fun k _ e => (fun k h => h) k e)
 replace hN := a12
 refine gs ?_
 refine wO (rd_st (s' := { { s with stop := 0 } with dead := false }) (i := 7) (v := vF) hN s_ti4 rfl rfl rfl (by decide) (fun _ => rfl) ⟨hN.ok.d, hN.ok.b, hN.ok.p, hN.ok.nx, hN.ok.st, hN.ok.dl, hN.ok.nl, hN.ok.ml⟩ ⟨rfl, rfl, rfl, rfl, rfl, rfl, rfl⟩) ?_
 rintro _ w14 ⟨a15, o16⟩
 replace oW := oW.tail o16 (fun k _ e => (fun k h => h) k e)
 replace hN := a15
 refine gs ?_
 refine leave0 (v := (Value.tuple #[])) (res0 Try.results34) ?_
 exact ⟨hN, oW⟩
end Go.Proofs.YtpamdlnobekihaaF
namespace Go.Proofs.YtpamdlnobekihaaF
open Go Shelf YtpamdlnobekihaaS Ram
def Sm (s t : NS) : Prop := ∃ m, t = { s with mask := m } ∧ (0 < s.stop → m = s.mask)
section
variable {s t : NS} {d b p : Int} {l : List UInt8} {ll : List Int} {k : Nat}
theorem sm_refl (s : NS) : Sm s s := ⟨s.mask, rfl, fun _ => rfl⟩
theorem Sm.gD (h : Sm s t) : t.gD = s.gD := by obtain ⟨m, rfl, _⟩ := h; rfl
theorem Sm.gB (h : Sm s t) : t.gB = s.gB := by obtain ⟨m, rfl, _⟩ := h; rfl
theorem Sm.gP (h : Sm s t) : t.gP = s.gP := by obtain ⟨m, rfl, _⟩ := h; rfl
theorem Sm.nl (h : Sm s t) : t.nl = s.nl := by obtain ⟨m, rfl, _⟩ := h; rfl
theorem Sm.dead (h : Sm s t) : t.dead = s.dead := by obtain ⟨m, rfl, _⟩ := h; rfl
theorem Sm.wrong (h : Sm s t) : t.wrong = s.wrong := by obtain ⟨m, rfl, _⟩ := h; rfl
theorem Sm.ops (h : Sm s t) : t.ops = s.ops := by obtain ⟨m, rfl, _⟩ := h; rfl
theorem Sm.erases (h : Sm s t) (d b : Int) : t.erases d b = s.erases d b := by obtain ⟨m, rfl, _⟩ := h; rfl
theorem Sm.isBad (h : Sm s t) (d b : Int) : t.isBad d b = s.isBad d b := by obtain ⟨m, rfl, _⟩ := h; rfl
theorem Sm.rg (h : Sm s t) (hr : s.Rg) : t.Rg := by intro k x hx; rw [h.nl] at hx; exact hr k x hx
theorem Sm.readR (h : Sm s t) (d b p : Int) : t.askR (t.readOk d b p) = s.askR (s.readOk d b p) := by obtain ⟨m, rfl, _⟩ := h; rfl
theorem Sm.readL (h : Sm s t) (d b p : Int) : t.readL d b p = s.readL d b p := by obtain ⟨m, rfl, _⟩ := h; rfl
theorem Sm.read (h : Sm s t) (d b p : Int) : Sm (s.ask (s.readOk d b p)) (t.ask (t.readOk d b p)) := by
 obtain ⟨m, rfl, hm⟩ := h
 exact ⟨m, rfl, hm⟩
theorem goesR_no (h : ¬ 0 < s.stop) : s.goesR = false := by unfold NS.goesR; rw [if_pos (by omega)]
theorem Sm.prog (h : Sm s t) (d b p : Int) (l : List UInt8) : Sm (s.prog d b p l) (t.prog d b p l) ∧ t.progR d b p l = s.progR d b p l := by
 obtain ⟨m, rfl, hm⟩ := h
 by_cases hs : 0 < s.stop
 ·rw [hm hs]; exact ⟨sm_refl _, rfl⟩
 ·have hg := goesR_no hs
  have hg2 : ({ s with mask := m } : NS).goesR = false := hg
  by_cases hk : s.askR (s.progOk d b p l) = 0
  ·have hk2 : ({ s with mask := m } : NS).askR (({ s with mask := m } : NS).progOk d b p l) = 0 := hk
   obtain ⟨e1, e2⟩ := NS.prog_yes hk hg
   obtain ⟨e3, e4⟩ := NS.prog_yes hk2 hg2
   rw [e1, e2, e3, e4]
   refine ⟨⟨m, rfl, fun h => absurd h ?_⟩, rfl⟩
   show ¬ 0 < (if s.stop < 1 then s.stop else s.stop - 1)
   rw [if_pos (by omega)]; exact hs
  ·have hk2 : ¬ ({ s with mask := m } : NS).askR (({ s with mask := m } : NS).progOk d b p l) = 0 := hk
   obtain ⟨e1, e2⟩ := NS.prog_no hk
   obtain ⟨e3, e4⟩ := NS.prog_no hk2
   rw [e1, e2, e3, e4]
   exact ⟨⟨m, rfl, fun h => absurd h hs⟩, rfl⟩
theorem Sm.erase (h : Sm s t) (d b : Int) : Sm (s.erase d b) (t.erase d b) ∧ t.eraseR d b = s.eraseR d b := by
 obtain ⟨m, rfl, hm⟩ := h
 by_cases hs : 0 < s.stop
 ·rw [hm hs]; exact ⟨sm_refl _, rfl⟩
 ·have hg := goesR_no hs
  have hg2 : ({ s with mask := m } : NS).goesR = false := hg
  by_cases hk : s.askR (s.eraseOk d b) = 0
  ·have hk2 : ({ s with mask := m } : NS).askR (({ s with mask := m } : NS).eraseOk d b) = 0 := hk
   obtain ⟨e1, e2⟩ := NS.erase_yes hk hg
   obtain ⟨e3, e4⟩ := NS.erase_yes hk2 hg2
   rw [e1, e2, e3, e4, hg, hg2]
   refine ⟨⟨m, rfl, fun h => absurd h ?_⟩, rfl⟩
   show ¬ 0 < (if s.stop < 1 then s.stop else s.stop - 1)
   rw [if_pos (by omega)]; exact hs
  ·have hk2 : ¬ ({ s with mask := m } : NS).askR (({ s with mask := m } : NS).eraseOk d b) = 0 := hk
   obtain ⟨e1, e2⟩ := NS.erase_no hk
   obtain ⟨e3, e4⟩ := NS.erase_no hk2
   rw [e1, e2, e3, e4]
   exact ⟨⟨m, rfl, fun h => absurd h hs⟩, rfl⟩
theorem Sm.noise (h : Sm s t) (d b p : Int) (l : List Int) : Sm (s.noise d b p l) (t.noise d b p l) ∧ t.noiseR d b p = s.noiseR d b p := by
 obtain ⟨m, rfl, hm⟩ := h
 refine ⟨?_, rfl⟩
 unfold NS.noise
 have e : ({ s with mask := m } : NS).pageIn d b p = s.pageIn d b p := rfl
 rw [e]
 split
 ·exact ⟨m, rfl, hm⟩
 ·exact ⟨m, rfl, hm⟩
theorem Sm.stopAt (h : Sm s t) (k : Nat) (l : List UInt8) : Sm (s.stopAt k l) (t.stopAt k l) := by
 obtain ⟨m, rfl, hm⟩ := h
 exact ⟨l, rfl, fun _ => rfl⟩
theorem Sm.power (h : Sm s t) : Sm s.power t.powerX := by
 obtain ⟨m, rfl, hm⟩ := h
 exact ⟨m, rfl, fun h => absurd h (by show ¬ 0 < 0; decide)⟩
theorem rg_ask (h : s.Rg) (f : Bool) : (s.ask f).Rg := h
theorem prog_nl (s : NS) (d b p : Int) (l : List UInt8) : (s.prog d b p l).nl = s.nl := by
 unfold NS.prog
 split
 ·rfl
 ·rfl
theorem rg_prog (h : s.Rg) (d b p : Int) (l : List UInt8) : (s.prog d b p l).Rg := by intro k x hx; rw [prog_nl] at hx; exact h k x hx
theorem erase_nl (s : NS) (d b : Int) : (s.erase d b).nl = s.nl := by
 unfold NS.erase
 split
 ·split <;> rfl
 ·rfl
theorem rg_erase (h : s.Rg) (d b : Int) : (s.erase d b).Rg := by intro k x hx; rw [erase_nl] at hx; exact h k x hx
theorem rg_noise (h : s.Rg) (d b p : Int) (hl : ∀ x ∈ ll, -9223372036854775808 ≤ x ∧ x < 9223372036854775808) : (s.noise d b p ll).Rg := by
 unfold NS.noise
 split
 ·intro k x hx
  have hx : x ∈ (if k = s.ix d.toNat b.toNat p.toNat then ll else s.nl k) := hx
  split at hx
  ·exact hl x hx
  ·exact h k x hx
 ·exact h
theorem rg_stop (h : s.Rg) (k : Nat) (l : List UInt8) : (s.stopAt k l).Rg := h
theorem rg_power (h : s.Rg) : s.power.Rg := h
end
end Go.Proofs.YtpamdlnobekihaaF
namespace Go.Proofs.YtpamdlnobekihaaF
open Go
def isBadL (bad : List (Int × Int)) (d b : Nat) : Bool := decide (((d : Int), (b : Int)) ∈ bad)
def goodL (bad : List (Int × Int)) (d b : Nat) : List Nat := (List.range b).filter fun k => !isBadL bad d k
def nMin (bad : List (Int × Int)) (B : Nat) : Nat → Nat
 | 0 => B
 | d + 1 => min (nMin bad B d) (goodL bad d B).length
def supR (bad : List (Int × Int)) (B D i : Nat) : List Nat := (List.range D).map fun d => (goodL bad d B).getD i 0
def supL (bad : List (Int × Int)) (B D : Nat) : List (List Nat) := (List.range (nMin bad B D)).map (supR bad B D)
def supTo (bad : List (Int × Int)) (B i d : Nat) : List Nat := (List.range d).map fun d => (goodL bad d B).getD i 0
def fitsI (x y z : Int) : Bool := decide (6 ≤ x ∧ x ≤ 8 ∧ 8 ≤ y ∧ y ≤ 12 ∧ 4 ≤ z ∧ z ≤ 8)
def gsec (x y z s : Int) : Int := if fitsI x y z = true ∧ 7 ≤ s ∧ s ≤ y then (s - 4) * (z - 2) * (x - 2) / 4 else 0
def gslot (x y z : Int) : Int := if fitsI x y z = true then x - 2 else 0
def spoilTo (B : Nat) (ls : List Int) : Nat → List (Int × Int)
 | 0 => []
 | i + 1 => if (ls.getD i 0 % ((2 * B : Nat) : Int)).toNat < B then spoilTo B ls i ++ [((i : Int), (((ls.getD i 0 % ((2 * B : Nat) : Int)).toNat : Nat) : Int))] else spoilTo B ls i
def spoilL (D B : Nat) (ls : List Int) : List (Int × Int) := spoilTo B ls (min ls.length D)
section
variable {B D i : Nat} {ls : List Int}
theorem spoil_yes (h : (ls.getD i 0 % ((2 * B : Nat) : Int)).toNat < B) : spoilTo B ls i ++ [((i : Int), (((ls.getD i 0 % ((2 * B : Nat) : Int)).toNat : Nat) : Int))] = spoilTo B ls (i + 1) := (if_pos h).symm
theorem spoil_skip (h : ¬ (ls.getD i 0 % ((2 * B : Nat) : Int)).toNat < B) : spoilTo B ls (i + 1) = spoilTo B ls i := if_neg h
theorem spoil_len (B : Nat) (ls : List Int) : ∀ i, (spoilTo B ls i).length ≤ i
 | 0 => Nat.le_refl _
 | i + 1 => by
  have := spoil_len B ls i
  unfold spoilTo
  split
  ·rw [List.length_append, List.length_singleton]; omega
  ·omega
theorem spoilL_len (D B : Nat) (ls : List Int) : (spoilL D B ls).length ≤ D := Nat.le_trans (spoil_len _ _ _) (Nat.min_le_right _ _)
end
def clearL (bad : List (Int × Int)) (d b i : Nat) : Bool := !decide (((d : Int), (b : Int)) ∈ bad.take i)
end Go.Proofs.YtpamdlnobekihaaF
namespace Go.Proofs.YtpamdlnobekihaaF
open Go Shelf YtpamdlnobekihaaS Ram
structure AX where
 k : Int
 die : Int
 block : Int
 page : Int
 n : Int
 b : List UInt8
 l : List Int
 vb : Value
 vl : Value
def AX0 : AX := ⟨0, 0, 0, 0, 0, [], [], undef, undef⟩
def eAct (x : AX) : List Value := [eI x.k, eI x.die, eI x.block, eI x.page, eI x.n, x.vb, x.vl]
def kAct : Kd AX := ⟨7, fun w p x => (∀ j v, (eAct x)[j]? = some v → w.cell? (p.add j) = some v) ∧ Seq kB x.b x.vb w ∧ Seq kI x.l x.vl w⟩
section
variable {P : Program} {d : Option Tmp} {tt : TypeId} {s : String} {af : Array Edge} {g : Option (Nat × Bool)} {ρ : Operand → Value} {w : World} {t : TypeId} {x : Operand} {bytes f : Nat} {z u : Value} {v : AX} {X : Nat → Prop} {fs : Array Field} {fd : Field}
theorem act_b (h : Ps X (At kAct v u) w) : Ps X (Seq kB v.b v.vb) w := h.imp fun w h => by obtain ⟨p, _, _, h2, _⟩ := h; exact h2
theorem act_l (h : Ps X (At kAct v u) w) : Ps X (Seq kI v.l v.vl) w := h.imp fun w h => by obtain ⟨p, _, _, _, h3⟩ := h; exact h3
theorem d_fieldAct (j : Nat) (y : Value) (ht : P.underlying t = some (.struct fs)) (hf : fs[f]? = some fd) (hz : TI P fd.type 1 bytes z) (ho : fd.offset = j) (hx : ρ x = u) (hA : Ps X (At kAct v u) w) (hy : (eAct v)[j]? = some y) : Does P ⟨d, .fieldAddr t x f, tt, s, af, g⟩ ρ w fun u' w' => Ps X (At (kS eV) y u') w ∧ w = w' := by
 obtain ⟨p, hu, hc, _⟩ := hA.now
 subst hu; subst ho
 refine Does.of_value (v := .pointer (some (p.add fd.offset))) (w' := w) (by simp) ?_ ⟨?_, rfl⟩
 ·simp [execOp, Instr.fieldAt, Instr.sureAddr, fieldPlace, run_underlying ht, hf, hx, hz.size, go_sem]
 ·exact fun w' hw => by
   obtain ⟨p', hp, hc', _⟩ := hA w' hw
   have : p = p' := by injection hp with hp; exact Option.some.inj hp
   subst this
   exact ⟨_, rfl, hc' _ _ hy⟩
theorem d_loadAct {n : Nat} (ht : Ag P t) (hz : TI P t n bytes z) (hx : ρ x = u) (hA : Ps X (At kAct v u) w) (hn : n = 7) : DV P ⟨d, .load t x, tt, s, af, g⟩ ρ w (.agg #[eI v.k, eI v.die, eI v.block, eI v.page, eI v.n, v.vb, v.vl]) := by
 obtain ⟨p, hu, hc, _⟩ := hA.now
 have hl : (eAct v).length = n := hn.symm ▸ rfl
 clear hn
 subst hu
 refine Does.of_value (v := .agg (eAct v).toArray) (w' := w) (by simp) ?_ ⟨rfl, rfl⟩
 have h1 : (loadCells p (eAct v).length).run P w = .ok (eAct v).toArray w := run_loadCells_list (P := P) w _ (eAct v) (fun j y hj => hc j y hj)
 rw [hl] at h1
 have h2 : (loadCellsFrom p 0 n #[]).run P w = .ok (eAct v).toArray w := h1
 simp [execOp, Instr.loadAt, Instr.sureAddr, hx, loadVar, run_isAgg_agg ht, hz.size, go_sem, h2]
end
section
variable {P : Program} {d : Option Tmp} {tt : TypeId} {s : String} {af : Array Edge} {g : Option (Nat × Bool)} {ρ : Operand → Value} {w : World} {t t2 ti : TypeId} {x y : Operand} {a b c : Int} {f0 f1 f2 : Field}
theorem d_neqG3 (ht : P.underlying t = some (.struct #[f0, f1, f2])) (hi : P.underlying ti = some (.int .i64)) (hp : P.stoodInHeld t = false) (hg : P.eqGuardType P.depth t = false) (e0 : f0.name ≠ "_" ∧ f0.type = ti ∧ f0.offset = 0) (e1 : f1.name ≠ "_" ∧ f1.type = ti ∧ f1.offset = 1) (e2 : f2.name ≠ "_" ∧ f2.type = ti ∧ f2.offset = 2)
  (hx : ρ x = .agg #[.int .i64 a, .int .i64 b, .int .i64 c]) (hy : ρ y = .agg #[.int .i64 a, .int .i64 b, .int .i64 c]) : DV P ⟨d, .binOp .neq t x y t2, tt, s, af, g⟩ ρ w (.bool false) := by
 have hf : P.fieldsOf t = #[f0, f1, f2] := by unfold Program.fieldsOf; rw [ht]
 have h1 : (Op.equalIn 10000 t (.agg #[.int .i64 a, .int .i64 b, .int .i64 c]) (.agg #[.int .i64 a, .int .i64 b, .int .i64 c])).run P w = .ok true w := by
  rw [Go.run_equalIn_struct w 9999 t _ _ (by rw [hf]; exact ht) hp, hf]
  have st : ∀ (f : Field) (fs : List Field) (n : Nat) (v : Int), f.name ≠ "_" ∧ f.type = ti ∧ f.offset = n → (#[.int .i64 a, .int .i64 b, .int .i64 c] : Array Value)[n]? = some (.int .i64 v) →
    (Op.eqFields 9999 #[.int .i64 a, .int .i64 b, .int .i64 c] #[.int .i64 a, .int .i64 b, .int .i64 c] (f :: fs)).run P w = (Op.eqFields 9999 #[.int .i64 a, .int .i64 b, .int .i64 c] #[.int .i64 a, .int .i64 b, .int .i64 c] fs).run P w := by
   intro f fs n v he hv
   obtain ⟨h0, h1, h2⟩ := he
   rw [Op.eqFields, if_pos h0]
   simp only [Sem.run_bind, h1, h2, run_part hi hv, Result.andThen_ok, run_equalIn_int 9998 hi]
   simp
  show (Op.eqFields 9999 _ _ [f0, f1, f2]).run P w = _
  rw [st f0 _ 0 a e0 rfl, st f1 _ 1 b e1 rfl, st f2 _ 2 c e2 rfl]
  rfl
 refine Does.of_value (v := .bool false) (w' := w) (by simp) ?_ ⟨rfl, rfl⟩
 have h2 : (binOp .neq t (.agg #[.int .i64 a, .int .i64 b, .int .i64 c]) (.agg #[.int .i64 a, .int .i64 b, .int .i64 c])).run P w = .ok (.bool false) w := by
  rw [Go.run_neq_struct, h1]
  rfl
 have h3 := fun x y => Go.run_eqGuard_agg (P := P) w .neq t x y #[.int .i64 a, .int .i64 b, .int .i64 c] #[.int .i64 a, .int .i64 b, .int .i64 c] hg
 simp [execOp, hx, hy, Sem.run_bind, Result.andThen, h2, h3]
end
theorem cutC {α : Type} {r : Option Nat} {P : Program} {C : Code} {Q : Exit → Act → World → Prop} {l : List Value} {ds : List Deferred} {w : World} (shape : α → (Nat → Value) → List Value) (p : α → Prop)
  (h1 : ∀ Q' : Exit → Act → World → Prop, (∀ x z w', p x → Only No w w' → Q' .normal (fr (shape x z) ds) w') → C.wpIn (Wf r) 0 P Q' (fr l ds) w) (h2 : ∀ x z w', p x → Only No w w' → Q .normal (fr (shape x z) ds) w') : C.wpIn (Wf r) 0 P Q (fr l ds) w := h1 Q h2
theorem spoilTo_in {B : Nat} {ls : List Int} : ∀ {i : Nat}, ∀ x ∈ spoilTo B ls i, (0 ≤ x.1 ∧ x.1 < (i : Int)) ∧ 0 ≤ x.2 ∧ x.2 < (B : Int)
 | 0, x, h => by cases h
 | i + 1, x, h => by
  unfold spoilTo at h
  split at h
  ·rename_i hB
   rcases List.mem_append.1 h with h | h
   ·have := spoilTo_in x h; omega
   ·rw [List.mem_singleton.1 h]
    refine ⟨⟨by show (0 : Int) ≤ (i : Int); omega, by show (i : Int) < _; omega⟩, by show (0 : Int) ≤ (_ : Int); omega, by show (_ : Int) < (B : Int); omega⟩
  ·have := spoilTo_in x h; omega
theorem spoil_in {D B : Nat} {ls : List Int} : ∀ x ∈ spoilL D B ls, inR D B x := fun x hx => by
 obtain ⟨h1, h2⟩ := spoilTo_in x hx
 exact ⟨by omega, h2⟩
theorem newE_spoil (D B : Nat) (ls : List Int) : newE D B (spoilL D B ls) = 0 := newE_ok spoil_in
theorem badS_rg (D B Q : Nat) (l : List (Int × Int)) : (badS (NS.new D B Q fun _ _ => false) l).Rg := by
 intro k x hx
 rw [badS_nl] at hx
 cases hx
end Go.Proofs.YtpamdlnobekihaaF
