/- Part of the proof of the law NandMakes, for all its inputs. -/
import Derived.Test.YtpamdlnobekihaaKNandMakes3
set_option linter.unusedVariables false
set_option linter.unusedSimpArgs false
set_option maxRecDepth 20000
set_option maxHeartbeats 4000000
namespace Go.Proofs.YtpamdlnobekihaaF
open Go Shelf YtpamdlnobekihaaS Ram
theorem ref7Ones_ok (W : World) :
    CW Try.prog 42 #[] W (Rt (ROw 5 eB onesW W)) := by
 have oW : Only No W W := Only.refl _ _
 refine enter (al := []) (k := 14) (l := (us 14)) Try.func42 rfl Try.ntmps42 rfl rfl ?_
 refine wQ (pL ?_)
 refine wI (d_assign rfl) ?_
 refine wD (tN (wQ (pL ?_)))
 refine wO (d_make1 (n := 60) Try.underlying36 s_ti5 rfl rfl oo oo rfl) ?_
 rintro _ w11 ⟨b, rfl, g12, a13, o14⟩
 replace a13 : Arr 5 b ((List.replicate 60 0).map eB) w11 := by rw [List.map_replicate]; exact a13
 have l_b : (List.replicate 60 0 : List UInt8).length = 60 := by simp
 have g_oW_b : W.heap.size ≤ b := Nat.le_trans oW.size g12
 replace oW := oW.tail0 o14
 refine wI (d_assign rfl) ?_
 refine wD (tN (wQ (wQ (pL ?_))))
 refine wI (d_assign rfl) ?_
 refine wD (tN (wB ?_))
 refine loop2 (fun (i : (Nat)) => fun (z : Nat → Value) => (([(Value.slice none 0 0), (sli b 0 60 60), (eN i), (sli b 0 60 60)] ++ (zs z 4 9 ++ [undef])) : List Value)) (fun (i : (Nat)) => fun (w_ : World) => (i ≤ 60) ∧ Only (Or1 b No) w11 w_ ∧ (List.replicate i (255 : UInt8) ++ List.replicate (60 - i) 0).length = 60 ∧ Arr 5 b ((List.replicate i (255 : UInt8) ++ List.replicate (60 - i) 0).map eB) w_) (fun (i : (Nat)) => 60 - i) 0 kr ?_ ?_
 ·
  refine ⟨?_, ?_, ?_, ?_⟩
  ·
   exact Nat.zero_le _
  ·
   exact Only.refl _ _
  ·
   (try dsimp only)
   all_goals (simp)
  ·
   exact a13
 rintro i z w16 ⟨hi, o15, l_b, a13⟩
 (try dsimp only)
 replace oW := oW.tail o15 (tl_new g_oW_b tl_no)
 refine wQ (wQ (pL ?_))
 refine wI (d_move rfl) ?_
 refine wI (d_move rfl) ?_
 refine wI (d_len rfl Try.underlying36 rfl) ?_
 refine wI (n_lss (a := i) (b := 60) rfl rfl rfl) ?_
 refine wD (tN ?_)
 refine cond_if rfl (fun c17 => ?_) (fun c17 => ?_)
 ·
  refine wK (tN (wQ (wB (pL ?_))))
  refine wI (d_move rfl) ?_
  refine wF [(Value.slice none 0 0), (sli b 0 60 60), (eN i), (sli b 0 60 60), (eN i), (sli b 0 60 60), (eN 60), (Value.bool (decide (i < 60))), (z 8), (z 9), (sli b 0 60 60), (z 11), (z 12), undef] ?_
  refine wI (d_move rfl) ?_
  refine wI (d_index1 (n := 60) (i := i) Try.underlying36 s_ti5 rfl (show _ = Value.int _ (i : Int) from rfl) oo) ?_
  refine wO (d_store (b := b) (i := i) (v := (eB 255)) s_ti5 rfl rfl rfl a13 (by rw [List.length_map, l_b]; omega) (m_put (List.replicate i (255 : UInt8) ++ List.replicate (60 - i) 0) i 255 eB)) ?_
  rintro _ w18 ⟨a19, o20⟩
  replace oW := oW.tailb o20 g_oW_b
  replace o15 := o15.tail o20 (fun k _ e => by have : k = b := e; rw [this]; exact in1)
  replace l_b : ((List.replicate i (255 : UInt8) ++ List.replicate (60 - i) 0).set i 255 : List UInt8).length = 60 := (List.length_set ..).trans l_b
  refine wD ?_
  refine inb_n (tN ?_)
  refine pL ?_
  refine wI (d_move rfl) ?_
  refine wI (n_add (a := i) (b := 1) rfl rfl oo) ?_
  refine wF [(Value.slice none 0 0), (sli b 0 60 60), (eN i), (sli b 0 60 60), (eN i), (sli b 0 60 60), (eN 60), (Value.bool (decide (i < 60))), (eN i), (eN (i + 1)), (sli b 0 60 60), (eN i), (ptr b i), undef] ?_
  refine wI (d_assign rfl) ?_
  refine wD (tN ?_)
  refine ⟨_, (i + 1), rfl, kr, ⟨?_, ?_, ?_, ?_⟩, ?_⟩
  ·
   (try dsimp only)
   all_goals (omega)
  ·
   exact o15
  ·
   (try dsimp only)
   all_goals (simp; omega)
  ·
   (try dsimp only)
   all_goals (rw [← ones_set i oo]; exact a19)
  ·
   (try dsimp only)
   all_goals (omega)
 refine wpIn_exit ?_
 refine then_x (then_x (inb_e ?_))
 refine tN (wQ (pL ?_))
 refine wI (d_move rfl) ?_
 refine wF ([(Value.slice none 0 0), (sli b 0 60 60), (eN i), (sli b 0 60 60), (eN i), (sli b 0 60 60), (eN 60), (Value.bool (decide (i < 60)))] ++ (zs z 8 5 ++ [(sli b 0 60 60)])) ?_
 refine wI (d_assign rfl) ?_
 refine wD (tN ?_)
 refine wpIn_ret ?_
 refine leave0 (v := (sli b 0 60 60)) (res1 Try.results42 rfl) ?_
 exact ROw.arr a13 l_b (rep_end i oo) g_oW_b oW
theorem ref7Check_ok (D B Q : Nat) (W : World) (hD : 6 ≤ D ∧ D ≤ 8) (hB : 8 ≤ B ∧ B ≤ 12) (hQ : 4 ≤ Q ∧ Q ≤ 8) :
    CW Try.prog 41 #[(Value.agg #[(eN D), (eN B), (eN Q)])] W (Rt (RIs (.bool true) W)) := by
 have oW : Only No W W := Only.refl _ _
 refine enter (al := [(Value.agg #[(eN D), (eN B), (eN Q)])]) (k := 30) (l := ([(Value.agg #[(eN D), (eN B), (eN Q)])] ++ (us 30))) Try.func41 rfl Try.ntmps41 rfl rfl ?_
 refine wQ (pL ?_)
 refine wO (d_box rfl rfl) ?_
 rintro _ w12 ⟨b11, rfl, g13, a14, o15⟩
 have g_oW_b11 : W.heap.size ≤ b11 := Nat.le_trans oW.size g13
 replace oW := oW.tail0 o15
 refine wI (d_assign rfl) ?_
 refine wD (tN (wQ (pL ?_)))
 refine wI (d_fieldAddr (j := 0) Try.underlying23 rfl s_ti3 (by decide) rfl rfl) ?_
 refine wI (d_load (v := (eN D)) ⟨_, Try.underlying3, rfl⟩ rfl a14 rfl) ?_
 refine wI (n_geq (a := D) (b := 6) rfl rfl (decide_eq_true oo)) ?_
 refine wF ([(Value.agg #[(eN D), (eN B), (eN Q)]), (ptr b11 0), vF, (ptr b11 0), (eN D), vT] ++ (us 25)) ?_
 refine wI (d_move rfl) ?_
 refine wG (d_fieldAddr (j := 0) Try.underlying23 rfl s_ti3 (by decide) rfl rfl) ?_
 refine wG (d_load (v := (eN D)) ⟨_, Try.underlying3, rfl⟩ rfl a14 rfl) ?_
 refine wG (n_leq (a := D) (b := 8) rfl rfl (decide_eq_true oo)) ?_
 refine wI (d_pick (b := true) (v := vT) rfl rfl) ?_
 refine wF ([(Value.agg #[(eN D), (eN B), (eN Q)]), (ptr b11 0), vF, (ptr b11 0), (eN D), vT, vT, (ptr b11 0), (eN D), vT, vT] ++ (us 20)) ?_
 refine wI (d_move rfl) ?_
 refine wG (d_fieldAddr (j := 1) Try.underlying23 rfl s_ti3 (by decide) rfl rfl) ?_
 refine wG (d_load (v := (eN B)) ⟨_, Try.underlying3, rfl⟩ rfl a14 rfl) ?_
 refine wG (n_geq (a := B) (b := 8) rfl rfl (decide_eq_true oo)) ?_
 refine wI (d_pick (b := true) (v := vT) rfl rfl) ?_
 refine wF ([(Value.agg #[(eN D), (eN B), (eN Q)]), (ptr b11 0), vF, (ptr b11 0), (eN D), vT, vT, (ptr b11 0), (eN D), vT, vT, vT, (ptr b11 1), (eN B), vT, vT] ++ (us 15)) ?_
 refine wI (d_move rfl) ?_
 refine wG (d_fieldAddr (j := 1) Try.underlying23 rfl s_ti3 (by decide) rfl rfl) ?_
 refine wG (d_load (v := (eN B)) ⟨_, Try.underlying3, rfl⟩ rfl a14 rfl) ?_
 refine wG (n_leq (a := B) (b := 12) rfl rfl (decide_eq_true oo)) ?_
 refine wI (d_pick (b := true) (v := vT) rfl rfl) ?_
 refine wF ([(Value.agg #[(eN D), (eN B), (eN Q)]), (ptr b11 0), vF, (ptr b11 0), (eN D), vT, vT, (ptr b11 0), (eN D), vT, vT, vT, (ptr b11 1), (eN B), vT, vT, vT, (ptr b11 1), (eN B), vT, vT] ++ (us 10)) ?_
 refine wI (d_move rfl) ?_
 refine wG (d_fieldAddr (j := 2) Try.underlying23 rfl s_ti3 (by decide) rfl rfl) ?_
 refine wG (d_load (v := (eN Q)) ⟨_, Try.underlying3, rfl⟩ rfl a14 rfl) ?_
 refine wG (n_geq (a := Q) (b := 4) rfl rfl (decide_eq_true oo)) ?_
 refine wI (d_pick (b := true) (v := vT) rfl rfl) ?_
 refine wF ([(Value.agg #[(eN D), (eN B), (eN Q)]), (ptr b11 0), vF, (ptr b11 0), (eN D), vT, vT, (ptr b11 0), (eN D), vT, vT, vT, (ptr b11 1), (eN B), vT, vT, vT, (ptr b11 1), (eN B), vT, vT, vT, (ptr b11 2), (eN Q), vT, vT] ++ (us 5)) ?_
 refine wI (d_move rfl) ?_
 refine wG (d_fieldAddr (j := 2) Try.underlying23 rfl s_ti3 (by decide) rfl rfl) ?_
 refine wG (d_load (v := (eN Q)) ⟨_, Try.underlying3, rfl⟩ rfl a14 rfl) ?_
 refine wG (n_leq (a := Q) (b := 8) rfl rfl (decide_eq_true oo)) ?_
 refine wI (d_pick (b := true) (v := vT) rfl rfl) ?_
 refine wF [(Value.agg #[(eN D), (eN B), (eN Q)]), (ptr b11 0), vF, (ptr b11 0), (eN D), vT, vT, (ptr b11 0), (eN D), vT, vT, vT, (ptr b11 1), (eN B), vT, vT, vT, (ptr b11 1), (eN B), vT, vT, vT, (ptr b11 2), (eN Q), vT, vT, vT, (ptr b11 2), (eN Q), vT, vT] ?_
 refine wI (d_assign rfl) ?_
 refine wD (tN ?_)
 refine forget (fun zf16 => ([(zf16 0), (zf16 1), vT] ++ (zs zf16 3 28))) kr (fun zf16 => ?_)
 refine wpIn_ret ?_
 refine leave0 (v := vT) (res1 Try.results41 rfl) ?_
 exact ⟨rfl, oW⟩
theorem refThere_ok (L : RL) (s : NS) {X : Nat → Prop} (W : World) (hN : Rd L s X W) {r : Bool} (d : Int) (b : Int) (hr : s.there d b = r) :
    CW Try.prog 43 #[(ptr L.bN 0), (eI d), (eI b)] W (Rt (RIs (.bool r) W)) := by
 have oW : Only No W W := Only.refl _ _
 refine enter (al := [(ptr L.bN 0), (eI d), (eI b)]) (k := 28) (l := ([(ptr L.bN 0), (eI d), (eI b)] ++ (us 28))) Try.func43 rfl Try.ntmps43 rfl rfl ?_
 refine wQ (pL ?_)
 refine wI (d_assign rfl) ?_
 refine wD (tN (wQ ?_))
 by_cases k0 : 0 ≤ d
 ·
  by_cases k1 : d < (s.gD : Int)
  ·
   by_cases k2 : 0 ≤ b
   ·
    by_cases k3 : b < (s.gB : Int)
    ·
     refine pL ?_
     refine wI (d_move rfl) ?_
     refine wI (d_geq (k := .i64) (m := d) (n := 0) rfl rfl (decide_eq_true k0)) ?_
     refine wI (d_move rfl) ?_
     refine wG (d_move rfl) ?_
     refine wF ([(ptr L.bN 0), (eI d), (eI b), undef, undef, undef, vF, (eI d), vT, vT, (eI d)] ++ (us 20)) ?_
     refine wG (d_move rfl) ?_
     refine wG (d_nilCheck (b := L.bN) (o := 0) rfl) ?_
     refine wG (d_fieldAddr (j := 0) Try.underlying81 rfl s_ti23 (by decide) rfl rfl) ?_
     refine wG (d_fieldAddr (j := 0) Try.underlying23 rfl s_ti3 (by decide) rfl rfl) ?_
     refine wG (rd_ld (v := (eN s.gD)) hN ⟨_, Try.underlying3, rfl⟩ rfl (fun _ => rfl)) ?_
     refine wF ([(ptr L.bN 0), (eI d), (eI b), undef, undef, undef, vF, (eI d), vT, vT, (eI d), (ptr L.bN 0), (ptr L.bN 0), (ptr L.bN 0), (ptr L.bN 0), (eN s.gD)] ++ (us 15)) ?_
     refine wG (d_lss (k := .i64) (m := d) (n := (s.gD : Int)) rfl rfl (decide_eq_true k1)) ?_
     refine wI (d_pick (b := true) (v := vT) rfl rfl) ?_
     refine wI (d_move rfl) ?_
     refine wG (d_move rfl) ?_
     refine wG (d_geq (k := .i64) (m := b) (n := 0) rfl rfl (decide_eq_true k2)) ?_
     refine wF ([(ptr L.bN 0), (eI d), (eI b), undef, undef, undef, vF, (eI d), vT, vT, (eI d), (ptr L.bN 0), (ptr L.bN 0), (ptr L.bN 0), (ptr L.bN 0), (eN s.gD), vT, vT, vT, (eI b), vT] ++ (us 10)) ?_
     refine wI (d_pick (b := true) (v := vT) rfl rfl) ?_
     refine wI (d_move rfl) ?_
     refine wG (d_move rfl) ?_
     refine wG (d_move rfl) ?_
     refine wG (d_nilCheck (b := L.bN) (o := 0) rfl) ?_
     refine wF ([(ptr L.bN 0), (eI d), (eI b), undef, undef, undef, vF, (eI d), vT, vT, (eI d), (ptr L.bN 0), (ptr L.bN 0), (ptr L.bN 0), (ptr L.bN 0), (eN s.gD), vT, vT, vT, (eI b), vT, vT, vT, (eI b), (ptr L.bN 0), (ptr L.bN 0)] ++ (us 5)) ?_
     refine wG (d_fieldAddr (j := 0) Try.underlying81 rfl s_ti23 (by decide) rfl rfl) ?_
     refine wG (d_fieldAddr (j := 1) Try.underlying23 rfl s_ti3 (by decide) rfl rfl) ?_
     refine wG (rd_ld (v := (eN s.gB)) hN ⟨_, Try.underlying3, rfl⟩ rfl (fun _ => rfl)) ?_
     refine wG (d_lss (k := .i64) (m := b) (n := (s.gB : Int)) rfl rfl (decide_eq_true k3)) ?_
     refine wI (d_pick (b := true) (v := vT) rfl rfl) ?_
     refine wF [(ptr L.bN 0), (eI d), (eI b), undef, undef, undef, vF, (eI d), vT, vT, (eI d), (ptr L.bN 0), (ptr L.bN 0), (ptr L.bN 0), (ptr L.bN 0), (eN s.gD), vT, vT, vT, (eI b), vT, vT, vT, (eI b), (ptr L.bN 0), (ptr L.bN 0), (ptr L.bN 0), (ptr L.bN 1), (eN s.gB), vT, vT] ?_
     refine wI (d_assign rfl) ?_
     refine wD (tN ?_)
     refine wpIn_ret ?_
     refine leave0 (v := vT) (res1 Try.results43 rfl) ?_
     exact ⟨congrArg Value.bool (by rw [← hr]; simp [NS.there, *]; try omega), oW⟩
    refine pL ?_
    refine wI (d_move rfl) ?_
    refine wI (d_geq (k := .i64) (m := d) (n := 0) rfl rfl (decide_eq_true k0)) ?_
    refine wI (d_move rfl) ?_
    refine wG (d_move rfl) ?_
    refine wF ([(ptr L.bN 0), (eI d), (eI b), undef, undef, undef, vF, (eI d), vT, vT, (eI d)] ++ (us 20)) ?_
    refine wG (d_move rfl) ?_
    refine wG (d_nilCheck (b := L.bN) (o := 0) rfl) ?_
    refine wG (d_fieldAddr (j := 0) Try.underlying81 rfl s_ti23 (by decide) rfl rfl) ?_
    refine wG (d_fieldAddr (j := 0) Try.underlying23 rfl s_ti3 (by decide) rfl rfl) ?_
    refine wG (rd_ld (v := (eN s.gD)) hN ⟨_, Try.underlying3, rfl⟩ rfl (fun _ => rfl)) ?_
    refine wF ([(ptr L.bN 0), (eI d), (eI b), undef, undef, undef, vF, (eI d), vT, vT, (eI d), (ptr L.bN 0), (ptr L.bN 0), (ptr L.bN 0), (ptr L.bN 0), (eN s.gD)] ++ (us 15)) ?_
    refine wG (d_lss (k := .i64) (m := d) (n := (s.gD : Int)) rfl rfl (decide_eq_true k1)) ?_
    refine wI (d_pick (b := true) (v := vT) rfl rfl) ?_
    refine wI (d_move rfl) ?_
    refine wG (d_move rfl) ?_
    refine wG (d_geq (k := .i64) (m := b) (n := 0) rfl rfl (decide_eq_true k2)) ?_
    refine wF ([(ptr L.bN 0), (eI d), (eI b), undef, undef, undef, vF, (eI d), vT, vT, (eI d), (ptr L.bN 0), (ptr L.bN 0), (ptr L.bN 0), (ptr L.bN 0), (eN s.gD), vT, vT, vT, (eI b), vT] ++ (us 10)) ?_
    refine wI (d_pick (b := true) (v := vT) rfl rfl) ?_
    refine wI (d_move rfl) ?_
    refine wG (d_move rfl) ?_
    refine wG (d_move rfl) ?_
    refine wG (d_nilCheck (b := L.bN) (o := 0) rfl) ?_
    refine wF ([(ptr L.bN 0), (eI d), (eI b), undef, undef, undef, vF, (eI d), vT, vT, (eI d), (ptr L.bN 0), (ptr L.bN 0), (ptr L.bN 0), (ptr L.bN 0), (eN s.gD), vT, vT, vT, (eI b), vT, vT, vT, (eI b), (ptr L.bN 0), (ptr L.bN 0)] ++ (us 5)) ?_
    refine wG (d_fieldAddr (j := 0) Try.underlying81 rfl s_ti23 (by decide) rfl rfl) ?_
    refine wG (d_fieldAddr (j := 1) Try.underlying23 rfl s_ti3 (by decide) rfl rfl) ?_
    refine wG (rd_ld (v := (eN s.gB)) hN ⟨_, Try.underlying3, rfl⟩ rfl (fun _ => rfl)) ?_
    refine wG (d_lss (k := .i64) (m := b) (n := (s.gB : Int)) rfl rfl (decide_eq_false k3)) ?_
    refine wI (d_pick (b := true) (v := vF) rfl rfl) ?_
    refine wF [(ptr L.bN 0), (eI d), (eI b), undef, undef, undef, vF, (eI d), vT, vT, (eI d), (ptr L.bN 0), (ptr L.bN 0), (ptr L.bN 0), (ptr L.bN 0), (eN s.gD), vT, vT, vT, (eI b), vT, vT, vT, (eI b), (ptr L.bN 0), (ptr L.bN 0), (ptr L.bN 0), (ptr L.bN 1), (eN s.gB), vF, vF] ?_
    refine wI (d_assign rfl) ?_
    refine wD (tN ?_)
    refine wpIn_ret ?_
    refine leave0 (v := vF) (res1 Try.results43 rfl) ?_
    exact ⟨congrArg Value.bool (by rw [← hr]; simp [NS.there, *]; try omega), oW⟩
   refine pL ?_
   refine wI (d_move rfl) ?_
   refine wI (d_geq (k := .i64) (m := d) (n := 0) rfl rfl (decide_eq_true k0)) ?_
   refine wI (d_move rfl) ?_
   refine wG (d_move rfl) ?_
   refine wF ([(ptr L.bN 0), (eI d), (eI b), undef, undef, undef, vF, (eI d), vT, vT, (eI d)] ++ (us 20)) ?_
   refine wG (d_move rfl) ?_
   refine wG (d_nilCheck (b := L.bN) (o := 0) rfl) ?_
   refine wG (d_fieldAddr (j := 0) Try.underlying81 rfl s_ti23 (by decide) rfl rfl) ?_
   refine wG (d_fieldAddr (j := 0) Try.underlying23 rfl s_ti3 (by decide) rfl rfl) ?_
   refine wG (rd_ld (v := (eN s.gD)) hN ⟨_, Try.underlying3, rfl⟩ rfl (fun _ => rfl)) ?_
   refine wF ([(ptr L.bN 0), (eI d), (eI b), undef, undef, undef, vF, (eI d), vT, vT, (eI d), (ptr L.bN 0), (ptr L.bN 0), (ptr L.bN 0), (ptr L.bN 0), (eN s.gD)] ++ (us 15)) ?_
   refine wG (d_lss (k := .i64) (m := d) (n := (s.gD : Int)) rfl rfl (decide_eq_true k1)) ?_
   refine wI (d_pick (b := true) (v := vT) rfl rfl) ?_
   refine wI (d_move rfl) ?_
   refine wG (d_move rfl) ?_
   refine wG (d_geq (k := .i64) (m := b) (n := 0) rfl rfl (decide_eq_false k2)) ?_
   refine wF ([(ptr L.bN 0), (eI d), (eI b), undef, undef, undef, vF, (eI d), vT, vT, (eI d), (ptr L.bN 0), (ptr L.bN 0), (ptr L.bN 0), (ptr L.bN 0), (eN s.gD), vT, vT, vT, (eI b), vF] ++ (us 10)) ?_
   refine wI (d_pick (b := true) (v := vF) rfl rfl) ?_
   refine wI (d_move rfl) ?_
   refine wX ?_
   refine wX ?_
   refine wX ?_
   refine wF ([(ptr L.bN 0), (eI d), (eI b), undef, undef, undef, vF, (eI d), vT, vT, (eI d), (ptr L.bN 0), (ptr L.bN 0), (ptr L.bN 0), (ptr L.bN 0), (eN s.gD), vT, vT, vT, (eI b), vF, vF, vF] ++ (us 8)) ?_
   refine wX ?_
   refine wX ?_
   refine wX ?_
   refine wX ?_
   refine wI (d_pick (b := false) (v := vF) rfl rfl) ?_
   refine wF ([(ptr L.bN 0), (eI d), (eI b), undef, undef, undef, vF, (eI d), vT, vT, (eI d), (ptr L.bN 0), (ptr L.bN 0), (ptr L.bN 0), (ptr L.bN 0), (eN s.gD), vT, vT, vT, (eI b), vF, vF, vF] ++ (us 7 ++ [vF])) ?_
   refine wI (d_assign rfl) ?_
   refine wD (tN ?_)
   refine wpIn_ret ?_
   refine leave0 (v := vF) (res1 Try.results43 rfl) ?_
   exact ⟨congrArg Value.bool (by rw [← hr]; simp [NS.there, *]; try omega), oW⟩
  refine pL ?_
  refine wI (d_move rfl) ?_
  refine wI (d_geq (k := .i64) (m := d) (n := 0) rfl rfl (decide_eq_true k0)) ?_
  refine wI (d_move rfl) ?_
  refine wG (d_move rfl) ?_
  refine wF ([(ptr L.bN 0), (eI d), (eI b), undef, undef, undef, vF, (eI d), vT, vT, (eI d)] ++ (us 20)) ?_
  refine wG (d_move rfl) ?_
  refine wG (d_nilCheck (b := L.bN) (o := 0) rfl) ?_
  refine wG (d_fieldAddr (j := 0) Try.underlying81 rfl s_ti23 (by decide) rfl rfl) ?_
  refine wG (d_fieldAddr (j := 0) Try.underlying23 rfl s_ti3 (by decide) rfl rfl) ?_
  refine wG (rd_ld (v := (eN s.gD)) hN ⟨_, Try.underlying3, rfl⟩ rfl (fun _ => rfl)) ?_
  refine wF ([(ptr L.bN 0), (eI d), (eI b), undef, undef, undef, vF, (eI d), vT, vT, (eI d), (ptr L.bN 0), (ptr L.bN 0), (ptr L.bN 0), (ptr L.bN 0), (eN s.gD)] ++ (us 15)) ?_
  refine wG (d_lss (k := .i64) (m := d) (n := (s.gD : Int)) rfl rfl (decide_eq_false k1)) ?_
  refine wI (d_pick (b := true) (v := vF) rfl rfl) ?_
  refine wI (d_move rfl) ?_
  refine wX ?_
  refine wX ?_
  refine wI (d_pick (b := false) (v := vF) rfl rfl) ?_
  refine wF ([(ptr L.bN 0), (eI d), (eI b), undef, undef, undef, vF, (eI d), vT, vT, (eI d), (ptr L.bN 0), (ptr L.bN 0), (ptr L.bN 0), (ptr L.bN 0), (eN s.gD), vF, vF, vF, undef, undef, vF] ++ (us 9)) ?_
  refine wI (d_move rfl) ?_
  refine wX ?_
  refine wX ?_
  refine wX ?_
  refine wX ?_
  refine wF ([(ptr L.bN 0), (eI d), (eI b), undef, undef, undef, vF, (eI d), vT, vT, (eI d), (ptr L.bN 0), (ptr L.bN 0), (ptr L.bN 0), (ptr L.bN 0), (eN s.gD), vF, vF, vF, undef, undef, vF, vF] ++ (us 8)) ?_
  refine wX ?_
  refine wX ?_
  refine wX ?_
  refine wI (d_pick (b := false) (v := vF) rfl rfl) ?_
  refine wI (d_assign rfl) ?_
  refine wF ([(ptr L.bN 0), (eI d), (eI b), undef, undef, undef, vF, (eI d), vT, vT, (eI d), (ptr L.bN 0), (ptr L.bN 0), (ptr L.bN 0), (ptr L.bN 0), (eN s.gD), vF, vF, vF, undef, undef, vF, vF] ++ (us 7 ++ [vF])) ?_
  refine wD (tN ?_)
  refine wpIn_ret ?_
  refine leave0 (v := vF) (res1 Try.results43 rfl) ?_
  exact ⟨congrArg Value.bool (by rw [← hr]; simp [NS.there, *]; try omega), oW⟩
 refine pL ?_
 refine wI (d_move rfl) ?_
 refine wI (d_geq (k := .i64) (m := d) (n := 0) rfl rfl (decide_eq_false k0)) ?_
 refine wI (d_move rfl) ?_
 refine wX ?_
 refine wF ([(ptr L.bN 0), (eI d), (eI b), undef, undef, undef, vF, (eI d), vF, vF] ++ (us 21)) ?_
 refine wX ?_
 refine wX ?_
 refine wX ?_
 refine wX ?_
 refine wX ?_
 refine wF ([(ptr L.bN 0), (eI d), (eI b), undef, undef, undef, vF, (eI d), vF, vF] ++ (us 21)) ?_
 refine wX ?_
 refine wI (d_pick (b := false) (v := vF) rfl rfl) ?_
 refine wI (d_move rfl) ?_
 refine wX ?_
 refine wX ?_
 refine wI (d_pick (b := false) (v := vF) rfl rfl) ?_
 refine wF ([(ptr L.bN 0), (eI d), (eI b), undef, undef, undef, vF, (eI d), vF, vF] ++ (us 7 ++ [vF, vF, undef, undef, vF] ++ (us 9))) ?_
 refine wI (d_move rfl) ?_
 refine wX ?_
 refine wX ?_
 refine wX ?_
 refine wX ?_
 refine wF ([(ptr L.bN 0), (eI d), (eI b), undef, undef, undef, vF, (eI d), vF, vF] ++ (us 7 ++ [vF, vF, undef, undef, vF, vF] ++ (us 8))) ?_
 refine wX ?_
 refine wX ?_
 refine wX ?_
 refine wI (d_pick (b := false) (v := vF) rfl rfl) ?_
 refine wI (d_assign rfl) ?_
 refine wF ([(ptr L.bN 0), (eI d), (eI b), undef, undef, undef, vF, (eI d), vF, vF] ++ (us 7 ++ [vF, vF, undef, undef, vF, vF] ++ (us 7 ++ [vF]))) ?_
 refine wD (tN ?_)
 refine wpIn_ret ?_
 refine leave0 (v := vF) (res1 Try.results43 rfl) ?_
 exact ⟨congrArg Value.bool (by rw [← hr]; simp [NS.there, *]; try omega), oW⟩
theorem refNew_ok (D B Q : Nat) (lb : List (Int × Int)) (ub : Value) (W : World) (h2 : Ps No (Seq (kA 2 eQ) lb ub) W) (glb : lb.length ≤ 1048576) (hD : 6 ≤ D ∧ D ≤ 8) (hB : 8 ≤ B ∧ B ≤ 12) (hQ : 4 ≤ Q ∧ Q ≤ 8) :
    CW Try.prog 14 #[(Value.agg #[(eN D), (eN B), (eN Q)]), ub] W (Rt (fun u w => ∃ p, u = .tuple #[p, eN (newE D B lb)] ∧ Only No W w ∧ (newE D B lb = 0 → ∃ L s, p = ptr L.bN 0 ∧ (Rd L s (Old W.heap.size) w ∧ ∀ k, L.S k → W.heap.size ≤ k) ∧ NewJ s D B Q lb))) := by
 have oW : Only No W W := Only.refl _ _
 refine enter (al := [(Value.agg #[(eN D), (eN B), (eN Q)]), ub]) (k := 111) (l := ([(Value.agg #[(eN D), (eN B), (eN Q)]), ub] ++ (us 111))) Try.func14 rfl Try.ntmps14 rfl rfl ?_
 have h2W := h2
 refine wQ (pL ?_)
 refine wO (d_box rfl rfl) ?_
 rintro _ w11 ⟨gb, rfl, g12, a13, o14⟩
 have g_oW_gb : W.heap.size ≤ gb := Nat.le_trans oW.size g12
 replace oW := oW.tail0 o14
 refine wI (d_assign rfl) ?_
 refine wI (d_assign rfl) ?_
 refine wD (tN (wQ (wQ (pL ?_))))
 refine wI (d_loadAg (vs := [(eN D), (eN B), (eN Q)]) ⟨_, Try.underlying23, rfl⟩ s_ti23 rfl a13 rfl rfl) ?_
 refine wO (d_call (xl := [.tmp 14]) (al := [(Value.agg #[(eN D), (eN B), (eN Q)])]) Try.func41 kr rfl rfl rfl (ref7Check_ok D B Q _ oo oo oo)) ?_
 rintro _ w15 ⟨rfl, o16⟩
 replace a13 := a13.step0 o16
 replace oW := oW.tail0 o16
 refine wF ([(Value.agg #[(eN D), (eN B), (eN Q)]), ub, (ptr gb 0), undef, (Value.pointer none), (eN 0)] ++ (us 8 ++ [(Value.agg #[(eN D), (eN B), (eN Q)]), vT] ++ (us 97))) ?_
 refine wI (d_not rfl rfl) ?_
 refine wD (tN ?_)
 refine cond_f rfl ?_
 refine wK (tN (wQ (pL ?_)))
 refine wI (d_loadAg (vs := [(eN D), (eN B), (eN Q)]) ⟨_, Try.underlying23, rfl⟩ s_ti23 rfl a13 rfl rfl) ?_
 refine wI (d_buildS (pl := [(0, 3), (3, 1), (4, 1), (5, 1), (6, 1), (7, 1), (8, 1), (9, 1)]) (zs := [(eN 0), (eN 0), (eN 0), (Value.slice none 0 0), (Value.slice none 0 0), (eN 0), (Value.slice none 0 0), vF, (eN 0), (eN 0)]) (cs := [(eN D), (eN B), (eN Q), (Value.slice none 0 0), (Value.slice none 0 0), (eN 0), (Value.slice none 0 0), vF, (eN 0), (eN 0)]) Try.underlying81 s_ti81 ⟨_, _, _, _, rfl, s_ti23, ⟨_, _, _, _, rfl, s_ti78, ⟨_, _, _, _, rfl, s_ti79, ⟨_, _, _, _, rfl, s_ti3, ⟨_, _, _, _, rfl, s_ti36, ⟨_, _, _, _, rfl, s_ti4, ⟨_, _, _, _, rfl, s_ti3, ⟨_, _, _, _, rfl, s_ti3, rfl⟩⟩⟩⟩⟩⟩⟩⟩ rfl (parts_cons (vs := [(eN D), (eN B), (eN Q)]) (cells_of (v := (Value.agg #[(eN D), (eN B), (eN Q)])) rfl rfl) parts_nil) rfl) ?_
 refine wO (d_box rfl rfl) ?_
 rintro _ w17 ⟨cb, rfl, g18, a19, o20⟩
 have n_gb_cb : gb ≠ cb := a13.ne g18
 have g_oW_cb : W.heap.size ≤ cb := Nat.le_trans oW.size g18
 replace a13 := a13.step0 o20
 replace oW := oW.tail0 o20
 refine wI (d_assign rfl) ?_
 refine wF ([(Value.agg #[(eN D), (eN B), (eN Q)]), ub, (ptr gb 0), undef, (Value.pointer none), (eN 0), (ptr cb 0)] ++ (us 7 ++ [(Value.agg #[(eN D), (eN B), (eN Q)]), vT, vF, (Value.agg #[(eN D), (eN B), (eN Q)]), (Value.agg #[(eN D), (eN B), (eN Q), (Value.slice none 0 0), (Value.slice none 0 0), (eN 0), (Value.slice none 0 0), vF, (eN 0), (eN 0)]), (ptr cb 0)] ++ (us 93))) ?_
 refine wD (tN (wQ (wQ (pL ?_))))
 refine wI (d_assign rfl) ?_
 refine wD (tN (wB ?_))
 have a21 : Ow 82 1 none (Value.slice none 0 0) ([] : List (Value)).length (([] : List (Value)).map eV) w17 := Ow.nil _ _ _
 have nq_uB_gb : ∀ x, (none : Option Nat) = some x → ¬ x = gb := fun x e => by cases e
 have nq_uB_cb : ∀ x, (none : Option Nat) = some x → ¬ x = cb := fun x e => by cases e
 have q_oW_uB : Fr none none W.heap.size := Fr.none
 have a22 : Ow 83 1 none (Value.slice none 0 0) ([] : List (Value)).length (([] : List (Value)).map eV) w17 := Ow.nil _ _ _
 have nq_uV_gb : ∀ x, (none : Option Nat) = some x → ¬ x = gb := fun x e => by cases e
 have nq_uV_cb : ∀ x, (none : Option Nat) = some x → ¬ x = cb := fun x e => by cases e
 have nqq_uB_uV : ∀ x, none = some x → (none : Option Nat) = some x → False := fun _ _ e => by cases e
 have q_oW_uV : Fr none none W.heap.size := Fr.none
 have h_lt_gb := a13.lt
 have h_lt_cb := a19.lt
 have h_lts_uB := a21.lts
 have h_lts_uV := a22.lts
 refine loop2 (fun (s_ : (Nat) × (NF) × (List Value) × (List Value) × (Option Nat) × (Value) × (Option Nat) × (Value)) => match s_ with | ⟨d, F, vB, vV, bo_uB, u_uB, bo_uV, u_uV⟩ => fun (z : Nat → Value) => (([(Value.agg #[(eN D), (eN B), (eN Q)]), ub, (ptr gb 0), undef, (Value.pointer none), (eN 0), (ptr cb 0), (eN d)] ++ (zs z 8 5 ++ [undef, (Value.agg #[(eN D), (eN B), (eN Q)]), vT, vF, (Value.agg #[(eN D), (eN B), (eN Q)]), (Value.agg #[(eN D), (eN B), (eN Q), (Value.slice none 0 0), (Value.slice none 0 0), (eN 0), (Value.slice none 0 0), vF, (eN 0), (eN 0)]), (ptr cb 0)] ++ (zs z 20 55 ++ (us 38)))) : List Value)) (fun (s_ : (Nat) × (NF) × (List Value) × (List Value) × (Option Nat) × (Value) × (Option Nat) × (Value)) => match s_ with | ⟨d, F, vB, vV, bo_uB, u_uB, bo_uV, u_uV⟩ => fun (w_ : World) => (d ≤ D) ∧ (NewM F d (d * B) W.heap.size w_.heap.size) ∧ (vB.length = d) ∧ (∀ j, j < d → vB.getD j undef = sli (F.bd j) 0 B (F.cd j)) ∧ (vV.length = d) ∧ (∀ j, j < d → vV.getD j undef = sli (F.bw j) 0 B (F.cw j)) ∧ (Ps (Orq bo_uV (Orq bo_uB (Or1 cb (Or1 gb (Old W.heap.size))))) (NewF 85 67 36 37 B Q F d (d * B)) w_) ∧ (Ps (Orq bo_uV (Orq bo_uB (Or1 cb (Or1 gb (NF.B F d (d * B) W.heap.size))))) (NewP Q F (d * B)) w_) ∧ Only (Orq none (Orq none (Or1 cb (Or1 gb No)))) w17 w_ ∧ Arr 23 gb [(eN D), (eN B), (eN Q)] w_ ∧ Arr 81 cb [(eN D), (eN B), (eN Q), u_uB, u_uV, (eN 0), (Value.slice none 0 0), vF, (eN 0), (eN 0)] w_ ∧ Ow 82 1 bo_uB u_uB (vB).length ((vB).map eV) w_ ∧ Fr bo_uB none w17.heap.size ∧ Ow 83 1 bo_uV u_uV (vV).length ((vV).map eV) w_ ∧ Fr bo_uV none w17.heap.size ∧ (∀ x, bo_uB = some x → bo_uV = some x → False)) (fun (s_ : (Nat) × (NF) × (List Value) × (List Value) × (Option Nat) × (Value) × (Option Nat) × (Value)) => match s_ with | ⟨d, F, vB, vV, bo_uB, u_uB, bo_uV, u_uV⟩ => D - d) ⟨0, NF.nil, ([] : List Value), ([] : List Value), none, (Value.slice none 0 0), none, (Value.slice none 0 0)⟩ kr ?_ ?_
 ·
  refine ⟨?_, ?_, ?_, ?_, ?_, ?_, ?_, ?_, ?_, ?_, ?_, ?_, ?_, ?_, ?_, ?_⟩
  ·
   exact Nat.zero_le _
  ·
   (try dsimp only)
   all_goals (rw [Nat.zero_mul]; exact NewM.zero)
  ·
   exact rfl
  ·
   exact fun j h => absurd h (Nat.not_lt_zero j)
  ·
   exact rfl
  ·
   exact fun j h => absurd h (Nat.not_lt_zero j)
  ·
   (try dsimp only)
   all_goals (rw [Nat.zero_mul]; exact newF_zero)
  ·
   (try dsimp only)
   all_goals (rw [Nat.zero_mul]; exact newP_zero)
  ·
   exact Only.refl _ _
  ·
   exact a13
  ·
   exact a19
  ·
   exact a21
  ·
   exact Fr.same
  ·
   exact a22
  ·
   exact Fr.same
  ·
   exact nqq_uB_uV
 rintro ⟨d, F, vB, vV, bo_uB, u_uB, bo_uV, u_uV⟩ z w24 ⟨hd, hI, lU, hvB, lV, hvV, hF, hG, o23, a13, a19, a21, qq_uB, a22, qq_uV, nqL_uB_uV⟩
 (try dsimp only)
 have tq_oW := oW.size
 have tq_oW := oW.size
 replace oW := oW.tail o23 (tl_q q_oW_uV (fun _ e => by cases e) (tl_q q_oW_uB (fun _ e => by cases e) (tl_new g_oW_cb (tl_new g_oW_gb tl_no))))
 replace q_oW_uB := qtr qq_uB q_oW_uB tq_oW
 replace q_oW_uV := qtr qq_uV q_oW_uV tq_oW
 replace nq_uB_gb := nqs nq_uB_gb qq_uB h_lt_gb
 replace nq_uB_cb := nqs nq_uB_cb qq_uB h_lt_cb
 replace nq_uV_gb := nqs nq_uV_gb qq_uV h_lt_gb
 replace nq_uV_cb := nqs nq_uV_cb qq_uV h_lt_cb
 replace nqq_uB_uV := nqL_uB_uV
 have q_o23_uB := qq_uB
 have q_o23_uV := qq_uV
 have oD : Only (Orq bo_uV (Orq bo_uB (Or1 cb (Or1 gb No)))) w24 w24 := Only.refl _ _
 have q_oD_uB : Fr bo_uB bo_uB w24.heap.size := Fr.same
 have q_oD_uV : Fr bo_uV bo_uV w24.heap.size := Fr.same
 have hWD := oW.size
 refine wQ (wQ (pL ?_))
 refine wI (d_move rfl) ?_
 refine wI (d_fieldAddr (j := 0) Try.underlying23 rfl s_ti3 (by decide) rfl rfl) ?_
 refine wI (d_load (v := (eN D)) ⟨_, Try.underlying3, rfl⟩ rfl a13 rfl) ?_
 refine wI (n_lss (a := d) (b := D) rfl rfl rfl) ?_
 refine wD (tN ?_)
 refine cond_if rfl (fun c25 => ?_) (fun c25 => ?_)
 ·
  refine wK (tN (wQ (wB (wQ (pL ?_)))))
  refine wI (d_assign rfl) ?_
  refine wF ([(Value.agg #[(eN D), (eN B), (eN Q)]), ub, (ptr gb 0), undef, (Value.pointer none), (eN 0), (ptr cb 0), (eN d), (Value.slice none 0 0), (z 9), (z 10), (z 11), (z 12), undef, (Value.agg #[(eN D), (eN B), (eN Q)]), vT, vF, (Value.agg #[(eN D), (eN B), (eN Q)]), (Value.agg #[(eN D), (eN B), (eN Q), (Value.slice none 0 0), (Value.slice none 0 0), (eN 0), (Value.slice none 0 0), vF, (eN 0), (eN 0)]), (ptr cb 0), (eN d), (ptr gb 0), (eN D), (Value.bool (decide (d < D)))] ++ (zs z 24 51 ++ (us 38))) ?_
  refine wD (tN (wQ (pL ?_)))
  refine wI (d_assign rfl) ?_
  refine wD (tN (wQ (wQ (pL ?_))))
  refine wI (d_assign rfl) ?_
  refine wD (tN (wB ?_))
  have a26 : Ow 85 4 none (Value.slice none 0 0) ([] : List (Value)).length (([] : List (Value)).flatMap eR) w24 := Ow.nil _ _ _
  have nq_bs_gb : ∀ x, (none : Option Nat) = some x → ¬ x = gb := fun x e => by cases e
  have nq_bs_cb : ∀ x, (none : Option Nat) = some x → ¬ x = cb := fun x e => by cases e
  have nqq_uB_bs : ∀ x, bo_uB = some x → (none : Option Nat) = some x → False := fun _ _ e => by cases e
  have nqq_uV_bs : ∀ x, bo_uV = some x → (none : Option Nat) = some x → False := fun _ _ e => by cases e
  have q_oW_bs : Fr none none W.heap.size := Fr.none
  have q_o23_bs : Fr none none w17.heap.size := Fr.none
  have q_oD_bs : Fr none none w24.heap.size := Fr.none
  replace hF := hF.qnone
  replace hG := hG.qnone
  have a27 : Ow 67 1 none (Value.slice none 0 0) ([] : List (Nat)).length (([] : List (Nat)).map (eK Q)) w24 := Ow.nil _ _ _
  have nq_ls_gb : ∀ x, (none : Option Nat) = some x → ¬ x = gb := fun x e => by cases e
  have nq_ls_cb : ∀ x, (none : Option Nat) = some x → ¬ x = cb := fun x e => by cases e
  have nqq_uB_ls : ∀ x, bo_uB = some x → (none : Option Nat) = some x → False := fun _ _ e => by cases e
  have nqq_uV_ls : ∀ x, bo_uV = some x → (none : Option Nat) = some x → False := fun _ _ e => by cases e
  have nqq_bs_ls : ∀ x, none = some x → (none : Option Nat) = some x → False := fun _ _ e => by cases e
  have q_oW_ls : Fr none none W.heap.size := Fr.none
  have q_o23_ls : Fr none none w17.heap.size := Fr.none
  have q_oD_ls : Fr none none w24.heap.size := Fr.none
  replace hF := hF.qnone
  replace hG := hG.qnone
  have h_lt_gb := a13.lt
  have h_lt_cb := a19.lt
  have h_lts_uB := a21.lts
  have h_lts_uV := a22.lts
  have h_lts_bs := a26.lts
  have h_lts_ls := a27.lts
  refine loop2 (fun (s_ : (Nat) × (NF) × (List Value) × (List Nat) × (Option Nat) × (Value) × (Option Nat) × (Value)) => match s_ with | ⟨b, F2, vb, lz, bo_bs, u_bs, bo_ls, u_ls⟩ => fun (z : Nat → Value) => (([(Value.agg #[(eN D), (eN B), (eN Q)]), ub, (ptr gb 0), undef, (Value.pointer none), (eN 0), (ptr cb 0), (eN d), u_bs, u_ls, (eN b), (z 11), (z 12), undef, (Value.agg #[(eN D), (eN B), (eN Q)]), vT, vF, (Value.agg #[(eN D), (eN B), (eN Q)]), (Value.agg #[(eN D), (eN B), (eN Q), (Value.slice none 0 0), (Value.slice none 0 0), (eN 0), (Value.slice none 0 0), vF, (eN 0), (eN 0)]), (ptr cb 0), (eN d), (ptr gb 0), (eN D), (Value.bool (decide (d < D)))] ++ (zs z 24 51 ++ (us 38))) : List Value)) (fun (s_ : (Nat) × (NF) × (List Value) × (List Nat) × (Option Nat) × (Value) × (Option Nat) × (Value)) => match s_ with | ⟨b, F2, vb, lz, bo_bs, u_bs, bo_ls, u_ls⟩ => fun (w_ : World) => (b ≤ B) ∧ (F2.bd = F.bd ∧ F2.cd = F.cd ∧ F2.bw = F.bw ∧ F2.cw = F.cw) ∧ (NewM F2 d (d * B + b) W.heap.size w_.heap.size) ∧ (vb.length = b) ∧ (∀ j, j < b → vb.getD j undef = sli (F2.bp (d * B + j)) 0 Q (F2.cp (d * B + j))) ∧ (lz.length = b) ∧ (∀ j, j < b → lz.getD j 0 = F2.bz (d * B + j)) ∧ (Ps (Orq bo_ls (Orq bo_bs (Orq bo_uV (Orq bo_uB (Or1 cb (Or1 gb (Old W.heap.size))))))) (NewF 85 67 36 37 B Q F2 d (d * B + b)) w_) ∧ (Ps (Orq bo_ls (Orq bo_bs (Orq bo_uV (Orq bo_uB (Or1 cb (Or1 gb (NF.B F2 d (d * B + b) W.heap.size))))))) (NewP Q F2 (d * B + b)) w_) ∧ Only (Orq none (Orq none (Orq bo_uV (Orq bo_uB (Or1 cb (Or1 gb No)))))) w24 w_ ∧ Arr 23 gb [(eN D), (eN B), (eN Q)] w_ ∧ Arr 81 cb [(eN D), (eN B), (eN Q), u_uB, u_uV, (eN 0), (Value.slice none 0 0), vF, (eN 0), (eN 0)] w_ ∧ Ow 82 1 bo_uB u_uB (vB).length ((vB).map eV) w_ ∧ Ow 83 1 bo_uV u_uV (vV).length ((vV).map eV) w_ ∧ Ow 85 4 bo_bs u_bs (vb).length ((vb).flatMap eR) w_ ∧ Fr bo_bs none w24.heap.size ∧ Ow 67 1 bo_ls u_ls (lz).length ((lz).map (eK Q)) w_ ∧ Fr bo_ls none w24.heap.size ∧ (∀ x, bo_bs = some x → bo_ls = some x → False)) (fun (s_ : (Nat) × (NF) × (List Value) × (List Nat) × (Option Nat) × (Value) × (Option Nat) × (Value)) => match s_ with | ⟨b, F2, vb, lz, bo_bs, u_bs, bo_ls, u_ls⟩ => B - b) ⟨0, F, ([] : List Value), ([] : List Nat), none, (Value.slice none 0 0), none, (Value.slice none 0 0)⟩ kr ?_ ?_
  ·
   refine ⟨?_, ?_, ?_, ?_, ?_, ?_, ?_, ?_, ?_, ?_, ?_, ?_, ?_, ?_, ?_, ?_, ?_, ?_, ?_⟩
   ·
    exact Nat.zero_le _
   ·
    exact ⟨rfl, rfl, rfl, rfl⟩
   ·
    exact hI.le oD.size
   ·
    exact rfl
   ·
    exact fun j h => absurd h (Nat.not_lt_zero j)
   ·
    exact rfl
   ·
    exact fun j h => absurd h (Nat.not_lt_zero j)
   ·
    exact hF
   ·
    exact hG
   ·
    exact Only.refl _ _
   ·
    exact a13
   ·
    exact a19
   ·
    exact a21
   ·
    exact a22
   ·
    exact a26
   ·
    exact Fr.same
   ·
    exact a27
   ·
    exact Fr.same
   ·
    exact nqq_bs_ls
  rintro ⟨b, F2, vb, lz, bo_bs, u_bs, bo_ls, u_ls⟩ z w29 ⟨hb, hE, hI2, lvb, hvb, llz, hlz, hF2, hG2, o28, a13, a19, a21, a22, a26, qq_bs, a27, qq_ls, nqL_bs_ls⟩
  (try dsimp only)
  have tq_oW := oW.size
  have tq_oW := oW.size
  replace oW := oW.tail o28 (tl_q q_oW_ls (fun _ e => by cases e) (tl_q q_oW_bs (fun _ e => by cases e) (tl_q q_oW_uV (fun _ e => by cases e) (tl_q q_oW_uB (fun _ e => by cases e) (tl_new g_oW_cb (tl_new g_oW_gb tl_no))))))
  replace q_oW_bs := qtr qq_bs q_oW_bs tq_oW
  replace q_oW_ls := qtr qq_ls q_oW_ls tq_oW
  have tq_o23 := o23.size
  have tq_o23 := o23.size
  replace o23 := o23.tail o28 (tl_q q_o23_ls (fun _ e => by cases e) (tl_q q_o23_bs (fun _ e => by cases e) (tl_q q_o23_uV (fun k e => (.inl e)) (tl_q q_o23_uB (fun k e => (.inr (.inl e))) (tl_in (inq (inq in1)) (tl_in (inq (inq (in2 in1))) tl_no))))))
  replace q_o23_bs := qtr qq_bs q_o23_bs tq_o23
  replace q_o23_ls := qtr qq_ls q_o23_ls tq_o23
  have tq_oD := oD.size
  have tq_oD := oD.size
  replace oD := oD.tail o28 (tl_q q_oD_ls (fun _ e => by cases e) (tl_q q_oD_bs (fun _ e => by cases e) (tl_q q_oD_uV (fun k e => (.inl e)) (tl_q q_oD_uB (fun k e => (.inr (.inl e))) (tl_in (inq (inq in1)) (tl_in (inq (inq (in2 in1))) tl_no))))))
  replace q_oD_bs := qtr qq_bs q_oD_bs tq_oD
  replace q_oD_ls := qtr qq_ls q_oD_ls tq_oD
  replace nq_bs_gb := nqs nq_bs_gb qq_bs h_lt_gb
  replace nq_bs_cb := nqs nq_bs_cb qq_bs h_lt_cb
  replace nq_ls_gb := nqs nq_ls_gb qq_ls h_lt_gb
  replace nq_ls_cb := nqs nq_ls_cb qq_ls h_lt_cb
  replace nqq_uB_bs := nqq_step nqq_uB_bs qq_bs h_lts_uB
  replace nqq_uB_ls := nqq_step nqq_uB_ls qq_ls h_lts_uB
  replace nqq_uV_bs := nqq_step nqq_uV_bs qq_bs h_lts_uV
  replace nqq_uV_ls := nqq_step nqq_uV_ls qq_ls h_lts_uV
  replace nqq_bs_ls := nqL_bs_ls
  have q_o28_uB : Fr bo_uB bo_uB w24.heap.size := Fr.same
  have q_o28_uV : Fr bo_uV bo_uV w24.heap.size := Fr.same
  have q_o28_bs := qq_bs
  have q_o28_ls := qq_ls
  have oB : Only (Orq bo_ls (Orq bo_bs (Orq bo_uV (Orq bo_uB (Or1 cb (Or1 gb No)))))) w29 w29 := Only.refl _ _
  have q_oB_uB : Fr bo_uB bo_uB w29.heap.size := Fr.same
  have q_oB_uV : Fr bo_uV bo_uV w29.heap.size := Fr.same
  have q_oB_bs : Fr bo_bs bo_bs w29.heap.size := Fr.same
  have q_oB_ls : Fr bo_ls bo_ls w29.heap.size := Fr.same
  have hWB := oW.size
  refine wQ (wQ (pL ?_))
  refine wI (d_move rfl) ?_
  refine wI (d_fieldAddr (j := 1) Try.underlying23 rfl s_ti3 (by decide) rfl rfl) ?_
  refine wI (d_load (v := (eN B)) ⟨_, Try.underlying3, rfl⟩ rfl a13 rfl) ?_
  refine wI (n_lss (a := b) (b := B) rfl rfl rfl) ?_
  refine wD (tN ?_)
  refine cond_if rfl (fun c30 => ?_) (fun c30 => ?_)
  ·
   refine wK (tN (wQ (wB (wQ (pL ?_)))))
   refine wI (d_buildS (pl := [(0, 1), (1, 1), (2, 1), (3, 1)]) (zs := [(Value.slice none 0 0), (eN 0), (eN 0), vF]) (cs := [(Value.slice none 0 0), (eN 0), (eN 0), vF]) Try.underlying85 s_ti85 ⟨_, _, _, _, rfl, s_ti63, ⟨_, _, _, _, rfl, s_ti3, ⟨_, _, _, _, rfl, s_ti3, ⟨_, _, _, _, rfl, s_ti4, rfl⟩⟩⟩⟩ rfl parts_nil rfl) ?_
   refine wF ([(Value.agg #[(eN D), (eN B), (eN Q)]), ub, (ptr gb 0), undef, (Value.pointer none), (eN 0), (ptr cb 0), (eN d), u_bs, u_ls, (eN b), (z 11), (z 12), undef, (Value.agg #[(eN D), (eN B), (eN Q)]), vT, vF, (Value.agg #[(eN D), (eN B), (eN Q)]), (Value.agg #[(eN D), (eN B), (eN Q), (Value.slice none 0 0), (Value.slice none 0 0), (eN 0), (Value.slice none 0 0), vF, (eN 0), (eN 0)]), (ptr cb 0), (eN d), (ptr gb 0), (eN D), (Value.bool (decide (d < D))), (z 24), (z 25), (eN b), (ptr gb 1), (eN B), (Value.bool (decide (b < B))), (z 30), (z 31), (Value.agg #[(Value.slice none 0 0), (eN 0), (eN 0), vF])] ++ (zs z 33 42 ++ (us 38))) ?_
   refine wO (d_alloc s_ti85 rfl) ?_
   rintro _ w31 ⟨xb, rfl, g32, a33, o34⟩
   have n_gb_xb : gb ≠ xb := a13.ne g32
   have n_cb_xb : cb ≠ xb := a19.ne g32
   have nq_uB_xb : ∀ x, bo_uB = some x → ¬ x = xb := fun x hx e => by have := a21.lts x hx; omega
   have nq_uV_xb : ∀ x, bo_uV = some x → ¬ x = xb := fun x hx e => by have := a22.lts x hx; omega
   have nq_bs_xb : ∀ x, bo_bs = some x → ¬ x = xb := fun x hx e => by have := a26.lts x hx; omega
   have nq_ls_xb : ∀ x, bo_ls = some x → ¬ x = xb := fun x hx e => by have := a27.lts x hx; omega
   have g_oW_xb : W.heap.size ≤ xb := Nat.le_trans oW.size g32
   have g_o23_xb : w17.heap.size ≤ xb := Nat.le_trans o23.size g32
   have g_oD_xb : w24.heap.size ≤ xb := Nat.le_trans oD.size g32
   have g_o28_xb : w24.heap.size ≤ xb := Nat.le_trans o28.size g32
   have g_oB_xb : w29.heap.size ≤ xb := Nat.le_trans oB.size g32
   replace hF2 := hF2.new o34 g32
   replace hG2 := hG2.new o34 g32
   replace a13 := a13.step0 o34
   replace a19 := a19.step0 o34
   replace a21 := a21.step0 o34
   replace a22 := a22.step0 o34
   replace a26 := a26.step0 o34
   replace a27 := a27.step0 o34
   replace oW := oW.tail0 o34
   replace o23 := o23.tail0 o34
   replace oD := oD.tail0 o34
   replace o28 := o28.tail0 o34
   replace oB := oB.tail0 o34
   refine wO (d_storeAg (cs' := [(Value.slice none 0 0), (eN 0), (eN 0), vF]) s_ti85 rfl rfl rfl (oc_cons rfl (oc_cons rfl (oc_cons rfl (oc_cons rfl oc_nil)))) a33 (by decide) rfl) ?_
   rintro _ w35 ⟨a36, o37⟩
   replace hF2 := hF2.stepb o37 in1
   replace hG2 := hG2.stepb o37 in1
   replace a13 := a13.step o37 (fun e => absurd e n_gb_xb)
   replace a19 := a19.step o37 (fun e => absurd e n_cb_xb)
   replace a21 := a21.step o37 (fun x hx e => nq_uB_xb x hx e)
   replace a22 := a22.step o37 (fun x hx e => nq_uV_xb x hx e)
   replace a26 := a26.step o37 (fun x hx e => nq_bs_xb x hx e)
   replace a27 := a27.step o37 (fun x hx e => nq_ls_xb x hx e)
   replace oW := oW.tailb o37 g_oW_xb
   replace o23 := o23.tailb o37 g_o23_xb
   replace oD := oD.tailb o37 g_oD_xb
   replace o28 := o28.tailb o37 g_o28_xb
   replace oB := oB.tailb o37 g_oB_xb
   refine wD (tN (wQ (wQ (pL ?_))))
   refine wI (d_assign rfl) ?_
   refine wD (tN (wB ?_))
   have a38 : Ow 36 1 none (Value.slice none 0 0) ([] : List (Value)).length (([] : List (Value)).map eV) w35 := Ow.nil _ _ _
   have nq_pg_gb : ∀ x, (none : Option Nat) = some x → ¬ x = gb := fun x e => by cases e
   have nq_pg_cb : ∀ x, (none : Option Nat) = some x → ¬ x = cb := fun x e => by cases e
   have nq_pg_xb : ∀ x, (none : Option Nat) = some x → ¬ x = xb := fun x e => by cases e
   have nqq_uB_pg : ∀ x, bo_uB = some x → (none : Option Nat) = some x → False := fun _ _ e => by cases e
   have nqq_uV_pg : ∀ x, bo_uV = some x → (none : Option Nat) = some x → False := fun _ _ e => by cases e
   have nqq_bs_pg : ∀ x, bo_bs = some x → (none : Option Nat) = some x → False := fun _ _ e => by cases e
   have nqq_ls_pg : ∀ x, bo_ls = some x → (none : Option Nat) = some x → False := fun _ _ e => by cases e
   have q_oW_pg : Fr none none W.heap.size := Fr.none
   have q_o23_pg : Fr none none w17.heap.size := Fr.none
   have q_oD_pg : Fr none none w24.heap.size := Fr.none
   have q_o28_pg : Fr none none w24.heap.size := Fr.none
   have q_oB_pg : Fr none none w29.heap.size := Fr.none
   replace hF2 := hF2.qnone
   replace hG2 := hG2.qnone
   have h_lt_gb := a13.lt
   have h_lt_cb := a19.lt
   have h_lt_xb := a36.lt
   have h_lts_uB := a21.lts
   have h_lts_uV := a22.lts
   have h_lts_bs := a26.lts
   have h_lts_ls := a27.lts
   have h_lts_pg := a38.lts
   refine loop2 (fun (s_ : (Nat) × (List Value) × (Option Nat) × (Value)) => match s_ with | ⟨p, pgs, bo_pg, u_pg⟩ => fun (z : Nat → Value) => (([(Value.agg #[(eN D), (eN B), (eN Q)]), ub, (ptr gb 0), undef, (Value.pointer none), (eN 0), (ptr cb 0), (eN d), u_bs, u_ls, (eN b), (ptr xb 0), (eN p), undef, (Value.agg #[(eN D), (eN B), (eN Q)]), vT, vF, (Value.agg #[(eN D), (eN B), (eN Q)]), (Value.agg #[(eN D), (eN B), (eN Q), (Value.slice none 0 0), (Value.slice none 0 0), (eN 0), (Value.slice none 0 0), vF, (eN 0), (eN 0)]), (ptr cb 0), (eN d), (ptr gb 0), (eN D), (Value.bool (decide (d < D))), (z 24), (z 25), (eN b), (ptr gb 1), (eN B), (Value.bool (decide (b < B))), (z 30), (z 31), (Value.agg #[(Value.slice none 0 0), (eN 0), (eN 0), vF])] ++ (zs z 33 42 ++ (us 38))) : List Value)) (fun (s_ : (Nat) × (List Value) × (Option Nat) × (Value)) => match s_ with | ⟨p, pgs, bo_pg, u_pg⟩ => fun (w_ : World) => (p ≤ Q) ∧ (pgs.length = p) ∧ (Ps (Orq bo_pg (Or1 xb (Orq bo_ls (Orq bo_bs (Orq bo_uV (Orq bo_uB (Or1 cb (Or1 gb (Old w29.heap.size))))))))) (fun w => ∀ j, j < p → Seq kB onesW (pgs.getD j undef) w) w_) ∧ Only (Orq none (Or1 xb (Orq bo_ls (Orq bo_bs (Orq bo_uV (Orq bo_uB (Or1 cb (Or1 gb No)))))))) w35 w_ ∧ Arr 23 gb [(eN D), (eN B), (eN Q)] w_ ∧ Arr 81 cb [(eN D), (eN B), (eN Q), u_uB, u_uV, (eN 0), (Value.slice none 0 0), vF, (eN 0), (eN 0)] w_ ∧ Arr 85 xb [u_pg, (eN 0), (eN 0), vF] w_ ∧ Ow 82 1 bo_uB u_uB (vB).length ((vB).map eV) w_ ∧ Ow 83 1 bo_uV u_uV (vV).length ((vV).map eV) w_ ∧ Ow 85 4 bo_bs u_bs (vb).length ((vb).flatMap eR) w_ ∧ Ow 67 1 bo_ls u_ls (lz).length ((lz).map (eK Q)) w_ ∧ Ow 36 1 bo_pg u_pg (pgs).length ((pgs).map eV) w_ ∧ Fr bo_pg none w35.heap.size) (fun (s_ : (Nat) × (List Value) × (Option Nat) × (Value)) => match s_ with | ⟨p, pgs, bo_pg, u_pg⟩ => Q - p) ⟨0, ([] : List Value), none, (Value.slice none 0 0)⟩ kr ?_ ?_
   ·
    refine ⟨?_, ?_, ?_, ?_, ?_, ?_, ?_, ?_, ?_, ?_, ?_, ?_, ?_⟩
    ·
     exact Nat.zero_le _
    ·
     exact rfl
    ·
     exact fun w' _ j h => absurd h (Nat.not_lt_zero j)
    ·
     exact Only.refl _ _
    ·
     exact a13
    ·
     exact a19
    ·
     exact a36
    ·
     exact a21
    ·
     exact a22
    ·
     exact a26
    ·
     exact a27
    ·
     exact a38
    ·
     exact Fr.same
   rintro ⟨p, pgs, bo_pg, u_pg⟩ z w40 ⟨hp, lp, hH, o39, a13, a19, a36, a21, a22, a26, a27, a38, qq_pg⟩
   (try dsimp only)
   replace hF2 := hF2.re o39 (orq_mono (or1_mono (orq_mono (orq_mono (orq_mono (orq_mono (or1_mono (or1_mono no_any)))))))) (xx_re qq_pg (xx_or1 (xx_orq (xx_orq (xx_orq (xx_orq (xx_or1 (xx_or1 xx_id))))))))
   replace hG2 := hG2.re o39 (orq_mono (or1_mono (orq_mono (orq_mono (orq_mono (orq_mono (or1_mono (or1_mono no_any)))))))) (xx_re qq_pg (xx_or1 (xx_orq (xx_orq (xx_orq (xx_orq (xx_or1 (xx_or1 xx_id))))))))
   have tq_oW := oW.size
   replace oW := oW.tail o39 (tl_q q_oW_pg (fun _ e => by cases e) (tl_new g_oW_xb (tl_q q_oW_ls (fun _ e => by cases e) (tl_q q_oW_bs (fun _ e => by cases e) (tl_q q_oW_uV (fun _ e => by cases e) (tl_q q_oW_uB (fun _ e => by cases e) (tl_new g_oW_cb (tl_new g_oW_gb tl_no))))))))
   replace q_oW_pg := qtr qq_pg q_oW_pg tq_oW
   have tq_o23 := o23.size
   replace o23 := o23.tail o39 (tl_q q_o23_pg (fun _ e => by cases e) (tl_new g_o23_xb (tl_q q_o23_ls (fun _ e => by cases e) (tl_q q_o23_bs (fun _ e => by cases e) (tl_q q_o23_uV (fun k e => (.inl e)) (tl_q q_o23_uB (fun k e => (.inr (.inl e))) (tl_in (inq (inq in1)) (tl_in (inq (inq (in2 in1))) tl_no))))))))
   replace q_o23_pg := qtr qq_pg q_o23_pg tq_o23
   have tq_oD := oD.size
   replace oD := oD.tail o39 (tl_q q_oD_pg (fun _ e => by cases e) (tl_new g_oD_xb (tl_q q_oD_ls (fun _ e => by cases e) (tl_q q_oD_bs (fun _ e => by cases e) (tl_q q_oD_uV (fun k e => (.inl e)) (tl_q q_oD_uB (fun k e => (.inr (.inl e))) (tl_in (inq (inq in1)) (tl_in (inq (inq (in2 in1))) tl_no))))))))
   replace q_oD_pg := qtr qq_pg q_oD_pg tq_oD
   have tq_o28 := o28.size
   replace o28 := o28.tail o39 (tl_q q_o28_pg (fun _ e => by cases e) (tl_new g_o28_xb (tl_q q_o28_ls (fun k e => (.inl e)) (tl_q q_o28_bs (fun k e => (.inr (.inl e))) (tl_q q_o28_uV (fun k e => (.inr (.inr (.inl e)))) (tl_q q_o28_uB (fun k e => (.inr (.inr (.inr (.inl e))))) (tl_in (inq (inq (inq (inq in1)))) (tl_in (inq (inq (inq (inq (in2 in1))))) tl_no))))))))
   replace q_o28_pg := qtr qq_pg q_o28_pg tq_o28
   have tq_oB := oB.size
   replace oB := oB.tail o39 (tl_q q_oB_pg (fun _ e => by cases e) (tl_new g_oB_xb (tl_q q_oB_ls (fun k e => (.inl e)) (tl_q q_oB_bs (fun k e => (.inr (.inl e))) (tl_q q_oB_uV (fun k e => (.inr (.inr (.inl e)))) (tl_q q_oB_uB (fun k e => (.inr (.inr (.inr (.inl e))))) (tl_in (inq (inq (inq (inq in1)))) (tl_in (inq (inq (inq (inq (in2 in1))))) tl_no))))))))
   replace q_oB_pg := qtr qq_pg q_oB_pg tq_oB
   replace nq_pg_gb := nqs nq_pg_gb qq_pg h_lt_gb
   replace nq_pg_cb := nqs nq_pg_cb qq_pg h_lt_cb
   replace nq_pg_xb := nqs nq_pg_xb qq_pg h_lt_xb
   replace nqq_uB_pg := nqq_step nqq_uB_pg qq_pg h_lts_uB
   replace nqq_uV_pg := nqq_step nqq_uV_pg qq_pg h_lts_uV
   replace nqq_bs_pg := nqq_step nqq_bs_pg qq_pg h_lts_bs
   replace nqq_ls_pg := nqq_step nqq_ls_pg qq_pg h_lts_ls
   have q_o39_uB : Fr bo_uB bo_uB w35.heap.size := Fr.same
   have q_o39_uV : Fr bo_uV bo_uV w35.heap.size := Fr.same
   have q_o39_bs : Fr bo_bs bo_bs w35.heap.size := Fr.same
   have q_o39_ls : Fr bo_ls bo_ls w35.heap.size := Fr.same
   have q_o39_pg := qq_pg
   refine wQ (wQ (pL ?_))
   refine wI (d_move rfl) ?_
   refine wI (d_fieldAddr (j := 2) Try.underlying23 rfl s_ti3 (by decide) rfl rfl) ?_
   refine wI (d_load (v := (eN Q)) ⟨_, Try.underlying3, rfl⟩ rfl a13 rfl) ?_
   refine wI (n_lss (a := p) (b := Q) rfl rfl rfl) ?_
   refine wD (tN ?_)
   refine cond_if rfl (fun c41 => ?_) (fun c41 => ?_)
   ·
    refine wK (tN (wQ (wB ?_)))
    refine wp_eq (l' := ([(Value.agg #[(eN D), (eN B), (eN Q)]), ub, (ptr gb 0), undef, (Value.pointer none), (eN 0), (ptr cb 0), (eN d), u_bs, u_ls, (eN b), (ptr xb 0), (eN p), undef, (Value.agg #[(eN D), (eN B), (eN Q)]), vT, vF, (Value.agg #[(eN D), (eN B), (eN Q)]), (Value.agg #[(eN D), (eN B), (eN Q), (Value.slice none 0 0), (Value.slice none 0 0), (eN 0), (Value.slice none 0 0), vF, (eN 0), (eN 0)]), (ptr cb 0), (eN d), (ptr gb 0), (eN D), (Value.bool (decide (d < D))), (z 24), (z 25), (eN b), (ptr gb 1), (eN B), (Value.bool (decide (b < B))), (z 30), (z 31), (Value.agg #[(Value.slice none 0 0), (eN 0), (eN 0), vF]), (eN p), (ptr gb 2), (eN Q), (Value.bool (decide (p < Q)))] ++ (zs z 37 38 ++ (us 38)))) rfl ?_
    refine drawnG (O := (Orq bo_pg (Or1 xb (Orq bo_ls (Orq bo_bs (Orq bo_uV (Orq bo_uB (Or1 cb (Or1 gb No))))))))) (n := 7) 0 [0, 1, 0, 4, 15, 31, 63] [(0, 39), (1, 40), (2, 41), (3, 42), (4, 43), (5, 44)] [] [] [] (fun i_ => ([] : List (RF (Orq bo_pg (Or1 xb (Orq bo_ls (Orq bo_bs (Orq bo_uV (Orq bo_uB (Or1 cb (Or1 gb No)))))))))).getD i_ (RF.any (Orq bo_pg (Or1 xb (Orq bo_ls (Orq bo_bs (Orq bo_uV (Orq bo_uB (Or1 cb (Or1 gb No)))))))))) (fun _ w_ => Arr 23 gb [(eN D), (eN B), (eN Q)] w_ ∧ Arr 81 cb [(eN D), (eN B), (eN Q), u_uB, u_uV, (eN 0), (Value.slice none 0 0), vF, (eN 0), (eN 0)] w_ ∧ Arr 85 xb [u_pg, (eN 0), (eN 0), vF] w_ ∧ Ow 82 1 bo_uB u_uB (vB).length ((vB).map eV) w_ ∧ Ow 83 1 bo_uV u_uV (vV).length ((vV).map eV) w_ ∧ Ow 85 4 bo_bs u_bs (vb).length ((vb).flatMap eR) w_ ∧ Ow 67 1 bo_ls u_ls (lz).length ((lz).map (eK Q)) w_ ∧ Ow 36 1 bo_pg u_pg (pgs).length ((pgs).map eV) w_) (fun v42 => ([(Value.agg #[(eN D), (eN B), (eN Q)]), ub, (ptr gb 0), undef, (Value.pointer none), (eN 0), (ptr cb 0), (eN d), u_bs, u_ls, (eN b), (ptr xb 0), (eN p), undef, (Value.agg #[(eN D), (eN B), (eN Q)]), vT, vF, (Value.agg #[(eN D), (eN B), (eN Q)]), (Value.agg #[(eN D), (eN B), (eN Q), (Value.slice none 0 0), (Value.slice none 0 0), (eN 0), (Value.slice none 0 0), vF, (eN 0), (eN 0)]), (ptr cb 0), (eN d), (ptr gb 0), (eN D), (Value.bool (decide (d < D))), (z 24), (z 25), (eN b), (ptr gb 1), (eN B), (Value.bool (decide (b < B))), (z 30), (z 31), (Value.agg #[(Value.slice none 0 0), (eN 0), (eN 0), vF]), (eN p), (ptr gb 2), (eN Q), (Value.bool (decide (p < Q))), (z 37), (z 38), (v42 0), (v42 1), (v42 2), (v42 3), (v42 4), (v42 5)] ++ (zs z 45 30 ++ (us 38)))) (fun v42 => ([(Value.agg #[(eN D), (eN B), (eN Q)]), ub, (ptr gb 0), undef, (Value.pointer none), (eN 0), (ptr cb 0), (eN d), u_bs, u_ls, (eN b), (ptr xb 0), (eN p), undef, (Value.agg #[(eN D), (eN B), (eN Q)]), vT, vF, (Value.agg #[(eN D), (eN B), (eN Q)]), (Value.agg #[(eN D), (eN B), (eN Q), (Value.slice none 0 0), (Value.slice none 0 0), (eN 0), (Value.slice none 0 0), vF, (eN 0), (eN 0)]), (ptr cb 0), (eN d), (ptr gb 0), (eN D), (Value.bool (decide (d < D))), (z 24), (z 25), (eN b), (ptr gb 1), (eN B), (Value.bool (decide (b < B))), (z 30), (z 31), (Value.agg #[(Value.slice none 0 0), (eN 0), (eN 0), vF]), (eN p), (ptr gb 2), (eN Q), (Value.bool (decide (p < Q)))] ++ (zs z 37 38 ++ (us 38)))) s_mx kr rfl (by decide) (by rfl) kr kr kr (by rfl) (fun v_ => by kernel_rfl) (fun v_ => by kernel_rfl) (fun _ => fun w_ w2_ h ho => by obtain ⟨r_a13, r_a19, r_a36, r_a21, r_a22, r_a26, r_a27, r_a38⟩ := h; exact ⟨r_a13.step0 ho, r_a19.step0 ho, r_a36.step0 ho, r_a21.step0 ho, r_a22.step0 ho, r_a26.step0 ho, r_a27.step0 ho, r_a38.step0 ho⟩) ⟨a13, a19, a36, a21, a22, a26, a27, a38⟩ ?_ ?_ ?_
    ·
     exact ls_nil
    ·
     exact ms_nil
    intro v42 lo_ hi_ w43 o44 hd hR
    clear hd lo_ hi_
    replace hF2 := hF2.step o44 (orq_mono (or1_mono (orq_mono (orq_mono (orq_mono (orq_mono (or1_mono (or1_mono no_any))))))))
    replace hG2 := hG2.step o44 (orq_mono (or1_mono (orq_mono (orq_mono (orq_mono (orq_mono (or1_mono (or1_mono no_any))))))))
    replace hH := hH.step o44 (orq_mono (or1_mono (orq_mono (orq_mono (orq_mono (orq_mono (or1_mono (or1_mono no_any))))))))
    obtain ⟨xr_a13, xr_a19, xr_a36, xr_a21, xr_a22, xr_a26, xr_a27, xr_a38⟩ := hR
    replace a13 : Arr 23 gb [(eN D), (eN B), (eN Q)] w43 := xr_a13
    replace a19 : Arr 81 cb [(eN D), (eN B), (eN Q), u_uB, u_uV, (eN 0), (Value.slice none 0 0), vF, (eN 0), (eN 0)] w43 := xr_a19
    replace a36 : Arr 85 xb [u_pg, (eN 0), (eN 0), vF] w43 := xr_a36
    replace a21 : Ow 82 1 bo_uB u_uB (vB).length ((vB).map eV) w43 := xr_a21
    replace a22 : Ow 83 1 bo_uV u_uV (vV).length ((vV).map eV) w43 := xr_a22
    replace a26 : Ow 85 4 bo_bs u_bs (vb).length ((vb).flatMap eR) w43 := xr_a26
    replace a27 : Ow 67 1 bo_ls u_ls (lz).length ((lz).map (eK Q)) w43 := xr_a27
    replace a38 : Ow 36 1 bo_pg u_pg (pgs).length ((pgs).map eV) w43 := xr_a38
    clear xr_a13 xr_a19 xr_a36 xr_a21 xr_a22 xr_a26 xr_a27 xr_a38
    replace oW := oW.tail o44 (tl_q q_oW_pg (fun _ e => by cases e) (tl_new g_oW_xb (tl_q q_oW_ls (fun _ e => by cases e) (tl_q q_oW_bs (fun _ e => by cases e) (tl_q q_oW_uV (fun _ e => by cases e) (tl_q q_oW_uB (fun _ e => by cases e) (tl_new g_oW_cb (tl_new g_oW_gb tl_no))))))))
    replace o23 := o23.tail o44 (tl_q q_o23_pg (fun _ e => by cases e) (tl_new g_o23_xb (tl_q q_o23_ls (fun _ e => by cases e) (tl_q q_o23_bs (fun _ e => by cases e) (tl_q q_o23_uV (fun k e => (.inl e)) (tl_q q_o23_uB (fun k e => (.inr (.inl e))) (tl_in (inq (inq in1)) (tl_in (inq (inq (in2 in1))) tl_no))))))))
    replace oD := oD.tail o44 (tl_q q_oD_pg (fun _ e => by cases e) (tl_new g_oD_xb (tl_q q_oD_ls (fun _ e => by cases e) (tl_q q_oD_bs (fun _ e => by cases e) (tl_q q_oD_uV (fun k e => (.inl e)) (tl_q q_oD_uB (fun k e => (.inr (.inl e))) (tl_in (inq (inq in1)) (tl_in (inq (inq (in2 in1))) tl_no))))))))
    replace o28 := o28.tail o44 (tl_q q_o28_pg (fun _ e => by cases e) (tl_new g_o28_xb (tl_q q_o28_ls (fun k e => (.inl e)) (tl_q q_o28_bs (fun k e => (.inr (.inl e))) (tl_q q_o28_uV (fun k e => (.inr (.inr (.inl e)))) (tl_q q_o28_uB (fun k e => (.inr (.inr (.inr (.inl e))))) (tl_in (inq (inq (inq (inq in1)))) (tl_in (inq (inq (inq (inq (in2 in1))))) tl_no))))))))
    replace oB := oB.tail o44 (tl_q q_oB_pg (fun _ e => by cases e) (tl_new g_oB_xb (tl_q q_oB_ls (fun k e => (.inl e)) (tl_q q_oB_bs (fun k e => (.inr (.inl e))) (tl_q q_oB_uV (fun k e => (.inr (.inr (.inl e)))) (tl_q q_oB_uB (fun k e => (.inr (.inr (.inr (.inl e))))) (tl_in (inq (inq (inq (inq in1)))) (tl_in (inq (inq (inq (inq (in2 in1))))) tl_no))))))))
    replace o39 := o39.tail o44 (tl_q q_o39_pg (fun k e => (.inl e)) (tl_in (inq in1) (tl_q q_o39_ls (fun k e => (.inr (.inr (.inl e)))) (tl_q q_o39_bs (fun k e => (.inr (.inr (.inr (.inl e))))) (tl_q q_o39_uV (fun k e => (.inr (.inr (.inr (.inr (.inl e)))))) (tl_q q_o39_uB (fun k e => (.inr (.inr (.inr (.inr (.inr (.inl e))))))) (tl_in (inq (in2 (inq (inq (inq (inq in1)))))) (tl_in (inq (in2 (inq (inq (inq (inq (in2 in1))))))) tl_no))))))))
    refine rest_seg (n := 7) (p := 0) (q := 6) [0, 1] [2, 3, 4, 5] [(0, 39), (1, 40)] [(0, 39), (1, 40), (2, 41), (3, 42), (4, 43), (5, 44)] [0, 1, 0, 4, 15, 31, 63] (fun i_ => nth [(ptr xb 0), u_pg] i_) ([(Value.agg #[(eN D), (eN B), (eN Q)]), ub, (ptr gb 0), undef, (Value.pointer none), (eN 0), (ptr cb 0), (eN d), u_bs, u_ls, (eN b), (ptr xb 0), (eN p), undef, (Value.agg #[(eN D), (eN B), (eN Q)]), vT, vF, (Value.agg #[(eN D), (eN B), (eN Q)]), (Value.agg #[(eN D), (eN B), (eN Q), (Value.slice none 0 0), (Value.slice none 0 0), (eN 0), (Value.slice none 0 0), vF, (eN 0), (eN 0)]), (ptr cb 0), (eN d), (ptr gb 0), (eN D), (Value.bool (decide (d < D))), (z 24), (z 25), (eN b), (ptr gb 1), (eN B), (Value.bool (decide (b < B))), (z 30), (z 31), (Value.agg #[(Value.slice none 0 0), (eN 0), (eN 0), vF]), (eN p), (ptr gb 2), (eN Q), (Value.bool (decide (p < Q))), (z 37), (z 38), (ptr xb 0), u_pg] ++ (zs z 41 34 ++ (us 38))) (fun w_ => Arr 23 gb [(eN D), (eN B), (eN Q)] w_ ∧ Arr 81 cb [(eN D), (eN B), (eN Q), u_uB, u_uV, (eN 0), (Value.slice none 0 0), vF, (eN 0), (eN 0)] w_ ∧ Arr 85 xb [u_pg, (eN 0), (eN 0), vF] w_ ∧ True) kr rfl (by decide) kr kr (by rfl) kr kr kr kr kr (by decide) ?_ ?_
    ·
     rintro w_ ⟨a13, a19, a36, _⟩
     refine fl_cons ⟨_, rfl, gd rfl (d_fieldAddr (j := 0) Try.underlying85 rfl s_ti63 (by decide) rfl rfl)⟩ ?_
     refine fl_cons ⟨_, rfl, gd rfl (d_load (v := u_pg) ⟨_, Try.underlying63, rfl⟩ rfl a36 rfl)⟩ ?_
     exact fl_nil
    refine wJ.op ⟨a13, a19, a36, trivial⟩ rfl rfl (d_call (xl := []) (al := []) Try.func42 kr rfl rfl rfl (ref7Ones_ok _)) ?_
    rintro u47 w45 f48
    replace f48 := f48.ps
    obtain ⟨f48, o46⟩ := f48
    replace f48 := f48.less (Y := (Orq bo_pg (Or1 xb (Orq bo_ls (Orq bo_bs (Orq bo_uV (Orq bo_uB (Or1 cb (Or1 gb (Old w29.heap.size)))))))))) (orq_old a38.lts (or1_old a36.lt (orq_old a27.lts (orq_old a26.lts (orq_old a22.lts (orq_old a21.lts (or1_old a19.lt (or1_old a13.lt (old_old oB.size)))))))))
    replace hF2 := hF2.step0 o46
    replace hG2 := hG2.step0 o46
    replace hH := hH.step0 o46
    replace a13 := a13.step0 o46
    replace a19 := a19.step0 o46
    replace a36 := a36.step0 o46
    replace a21 := a21.step0 o46
    replace a22 := a22.step0 o46
    replace a26 := a26.step0 o46
    replace a27 := a27.step0 o46
    replace a38 := a38.step0 o46
    replace oW := oW.tail0 o46
    replace o23 := o23.tail0 o46
    replace oD := oD.tail0 o46
    replace o28 := o28.tail0 o46
    replace oB := oB.tail0 o46
    replace o39 := o39.tail0 o46
    refine wJ.flat ([(Value.agg #[(eN D), (eN B), (eN Q)]), ub, (ptr gb 0), undef, (Value.pointer none), (eN 0), (ptr cb 0), (eN d), u_bs, u_ls, (eN b), (ptr xb 0), (eN p), undef, (Value.agg #[(eN D), (eN B), (eN Q)]), vT, vF, (Value.agg #[(eN D), (eN B), (eN Q)]), (Value.agg #[(eN D), (eN B), (eN Q), (Value.slice none 0 0), (Value.slice none 0 0), (eN 0), (Value.slice none 0 0), vF, (eN 0), (eN 0)]), (ptr cb 0), (eN d), (ptr gb 0), (eN D), (Value.bool (decide (d < D))), (z 24), (z 25), (eN b), (ptr gb 1), (eN B), (Value.bool (decide (b < B))), (z 30), (z 31), (Value.agg #[(Value.slice none 0 0), (eN 0), (eN 0), vF]), (eN p), (ptr gb 2), (eN Q), (Value.bool (decide (p < Q))), (z 37), (z 38), (ptr xb 0), u_pg, u47] ++ (zs z 42 33 ++ (us 38))) kr ?_
    refine wJ.op ⟨a13, a19, a36, trivial⟩ rfl rfl (d_buildL (cs := [u47]) Try.underlying63 s_ti36 rfl (nb rfl) (parts_cons (vs := [u47]) (cells_of (v := u47) rfl (Seq.cells f48)) parts_nil) rfl) ?_
    rintro _ w50 ⟨b49, rfl, g51, a52, o53⟩
    replace a52 : Arr 36 b49 (([u47] : List Value).map eV) w50 := a52
    have l_b49 : ([u47] : List Value).length = 1 := rfl
    have n_gb_b49 : gb ≠ b49 := a13.ne g51
    have n_cb_b49 : cb ≠ b49 := a19.ne g51
    have n_xb_b49 : xb ≠ b49 := a36.ne g51
    have nq_uB_b49 : ∀ x, bo_uB = some x → ¬ x = b49 := fun x hx e => by have := a21.lts x hx; omega
    have nq_uV_b49 : ∀ x, bo_uV = some x → ¬ x = b49 := fun x hx e => by have := a22.lts x hx; omega
    have nq_bs_b49 : ∀ x, bo_bs = some x → ¬ x = b49 := fun x hx e => by have := a26.lts x hx; omega
    have nq_ls_b49 : ∀ x, bo_ls = some x → ¬ x = b49 := fun x hx e => by have := a27.lts x hx; omega
    have nq_pg_b49 : ∀ x, bo_pg = some x → ¬ x = b49 := fun x hx e => by have := a38.lts x hx; omega
    have g_oW_b49 : W.heap.size ≤ b49 := Nat.le_trans oW.size g51
    have g_o23_b49 : w17.heap.size ≤ b49 := Nat.le_trans o23.size g51
    have g_oD_b49 : w24.heap.size ≤ b49 := Nat.le_trans oD.size g51
    have g_o28_b49 : w24.heap.size ≤ b49 := Nat.le_trans o28.size g51
    have g_oB_b49 : w29.heap.size ≤ b49 := Nat.le_trans oB.size g51
    have g_o39_b49 : w35.heap.size ≤ b49 := Nat.le_trans o39.size g51
    replace hF2 := hF2.new o53 g51
    replace hG2 := hG2.new o53 g51
    replace hH := hH.new o53 g51
    replace f48 := f48.new o53 g51
    replace a13 := a13.step0 o53
    replace a19 := a19.step0 o53
    replace a36 := a36.step0 o53
    replace a21 := a21.step0 o53
    replace a22 := a22.step0 o53
    replace a26 := a26.step0 o53
    replace a27 := a27.step0 o53
    replace a38 := a38.step0 o53
    replace oW := oW.tail0 o53
    replace o23 := o23.tail0 o53
    replace oD := oD.tail0 o53
    replace o28 := o28.tail0 o53
    replace oB := oB.tail0 o53
    replace o39 := o39.tail0 o53
    refine wJ.flat ([(Value.agg #[(eN D), (eN B), (eN Q)]), ub, (ptr gb 0), undef, (Value.pointer none), (eN 0), (ptr cb 0), (eN d), u_bs, u_ls, (eN b), (ptr xb 0), (eN p), undef, (Value.agg #[(eN D), (eN B), (eN Q)]), vT, vF, (Value.agg #[(eN D), (eN B), (eN Q)]), (Value.agg #[(eN D), (eN B), (eN Q), (Value.slice none 0 0), (Value.slice none 0 0), (eN 0), (Value.slice none 0 0), vF, (eN 0), (eN 0)]), (ptr cb 0), (eN d), (ptr gb 0), (eN D), (Value.bool (decide (d < D))), (z 24), (z 25), (eN b), (ptr gb 1), (eN B), (Value.bool (decide (b < B))), (z 30), (z 31), (Value.agg #[(Value.slice none 0 0), (eN 0), (eN 0), vF]), (eN p), (ptr gb 2), (eN Q), (Value.bool (decide (p < Q))), (z 37), (z 38), (ptr xb 0), u_pg, u47, (sli b49 0 1 1)] ++ (zs z 43 32 ++ (us 38))) kr ?_
    refine wJ.op ⟨a13, a19, a36, trivial⟩ rfl rfl (d_append Try.underlying63 Try.underlying63 s_ti36 rfl rfl rfl a38 (SrcV.of_arr (n := 1) (sz := 1) a52 rfl (fun v_ hv_ => by rw [List.mem_singleton.1 (show v_ ∈ [u47] from hv_)]; exact (Seq.one f48))) (by first | omega | (rw [lp]; omega) | (simp; omega) | (rw [lp]; simp; omega)) (by first | omega | (rw [lp]; omega) | (simp; omega) | (rw [lp]; simp; omega)) rfl) ?_
    rintro u54 w55 ⟨bo56, a57, o58, q59⟩
    replace a57 : Ow 36 1 bo56 u54 (pgs ++ ([u47] : List Value)).length ((pgs ++ ([u47] : List Value)).map eV) w55 := by rw [List.length_append, List.map_append]; exact a57
    replace hF2 := hF2.gr o58 (fun k e => (.inr (.inl e))) (xx_or1 (xx_re (Fr.of_or q59) (xx_or1 (xx_orq (xx_orq (xx_orq (xx_orq (xx_or1 (xx_or1 xx_id)))))))))
    replace hG2 := hG2.gr o58 (fun k e => (.inr (.inl e))) (xx_or1 (xx_re (Fr.of_or q59) (xx_or1 (xx_orq (xx_orq (xx_orq (xx_orq (xx_or1 (xx_or1 xx_id)))))))))
    replace hH := hH.gr o58 (fun k e => (.inr (.inl e))) (xx_or1 (xx_re (Fr.of_or q59) (xx_or1 (xx_orq (xx_orq (xx_orq (xx_orq (xx_or1 (xx_or1 xx_id)))))))))
    replace f48 := f48.gr o58 (fun k e => (.inr (.inl e))) (xx_or1 (xx_re (Fr.of_or q59) (xx_or1 (xx_orq (xx_orq (xx_orq (xx_orq (xx_or1 (xx_or1 xx_id)))))))))
    have nq2 := nqs nq_pg_gb (Fr.of_or q59) a13.lt
    replace a13 := a13.step o58 (fun e => nq_pg_gb _ e rfl)
    replace nq_pg_gb := nq2
    clear nq2
    have nq2 := nqs nq_pg_cb (Fr.of_or q59) a19.lt
    replace a19 := a19.step o58 (fun e => nq_pg_cb _ e rfl)
    replace nq_pg_cb := nq2
    clear nq2
    have nq2 := nqs nq_pg_xb (Fr.of_or q59) a36.lt
    replace a36 := a36.step o58 (fun e => nq_pg_xb _ e rfl)
    replace nq_pg_xb := nq2
    clear nq2
    have nq2 := nqs nq_pg_b49 (Fr.of_or q59) a52.lt
    replace a52 := a52.step o58 (fun e => nq_pg_b49 _ e rfl)
    replace nq_pg_b49 := nq2
    clear nq2
    have lt2 := a21.lts
    replace a21 := a21.step o58 (fun x hx e => nqq_uB_pg x hx e)
    replace nqq_uB_pg := nqq_step nqq_uB_pg (Fr.of_or q59) lt2
    clear lt2
    have lt2 := a22.lts
    replace a22 := a22.step o58 (fun x hx e => nqq_uV_pg x hx e)
    replace nqq_uV_pg := nqq_step nqq_uV_pg (Fr.of_or q59) lt2
    clear lt2
    have lt2 := a26.lts
    replace a26 := a26.step o58 (fun x hx e => nqq_bs_pg x hx e)
    replace nqq_bs_pg := nqq_step nqq_bs_pg (Fr.of_or q59) lt2
    clear lt2
    have lt2 := a27.lts
    replace a27 := a27.step o58 (fun x hx e => nqq_ls_pg x hx e)
    replace nqq_ls_pg := nqq_step nqq_ls_pg (Fr.of_or q59) lt2
    clear lt2
    have tq := oW.size
    replace oW := oW.tailr o58 q_oW_pg (fun _ e => by cases e)
    replace q_oW_pg := qtr (Fr.of_or q59) q_oW_pg tq
    clear tq
    have tq := o23.size
    replace o23 := o23.tailr o58 q_o23_pg (fun _ e => by cases e)
    replace q_o23_pg := qtr (Fr.of_or q59) q_o23_pg tq
    clear tq
    have tq := oD.size
    replace oD := oD.tailr o58 q_oD_pg (fun _ e => by cases e)
    replace q_oD_pg := qtr (Fr.of_or q59) q_oD_pg tq
    clear tq
    have tq := o28.size
    replace o28 := o28.tailr o58 q_o28_pg (fun _ e => by cases e)
    replace q_o28_pg := qtr (Fr.of_or q59) q_o28_pg tq
    clear tq
    have tq := oB.size
    replace oB := oB.tailr o58 q_oB_pg (fun _ e => by cases e)
    replace q_oB_pg := qtr (Fr.of_or q59) q_oB_pg tq
    clear tq
    have tq := o39.size
    replace o39 := o39.tailr o58 q_o39_pg (fun k e => (.inl e))
    replace q_o39_pg := qtr (Fr.of_or q59) q_o39_pg tq
    clear tq
    refine wJ.flat ([(Value.agg #[(eN D), (eN B), (eN Q)]), ub, (ptr gb 0), undef, (Value.pointer none), (eN 0), (ptr cb 0), (eN d), u_bs, u_ls, (eN b), (ptr xb 0), (eN p), undef, (Value.agg #[(eN D), (eN B), (eN Q)]), vT, vF, (Value.agg #[(eN D), (eN B), (eN Q)]), (Value.agg #[(eN D), (eN B), (eN Q), (Value.slice none 0 0), (Value.slice none 0 0), (eN 0), (Value.slice none 0 0), vF, (eN 0), (eN 0)]), (ptr cb 0), (eN d), (ptr gb 0), (eN D), (Value.bool (decide (d < D))), (z 24), (z 25), (eN b), (ptr gb 1), (eN B), (Value.bool (decide (b < B))), (z 30), (z 31), (Value.agg #[(Value.slice none 0 0), (eN 0), (eN 0), vF]), (eN p), (ptr gb 2), (eN Q), (Value.bool (decide (p < Q))), (z 37), (z 38), (ptr xb 0), u_pg, u47, (sli b49 0 1 1), u54] ++ (zs z 44 31 ++ (us 38))) kr ?_
    refine wJ.is ⟨a13, a19, a36, trivial⟩ rfl rfl (d_fieldAddr (j := 0) Try.underlying85 rfl s_ti63 (by decide) rfl rfl) ?_
    refine wJ.flat ([(Value.agg #[(eN D), (eN B), (eN Q)]), ub, (ptr gb 0), undef, (Value.pointer none), (eN 0), (ptr cb 0), (eN d), u_bs, u_ls, (eN b), (ptr xb 0), (eN p), undef, (Value.agg #[(eN D), (eN B), (eN Q)]), vT, vF, (Value.agg #[(eN D), (eN B), (eN Q)]), (Value.agg #[(eN D), (eN B), (eN Q), (Value.slice none 0 0), (Value.slice none 0 0), (eN 0), (Value.slice none 0 0), vF, (eN 0), (eN 0)]), (ptr cb 0), (eN d), (ptr gb 0), (eN D), (Value.bool (decide (d < D))), (z 24), (z 25), (eN b), (ptr gb 1), (eN B), (Value.bool (decide (b < B))), (z 30), (z 31), (Value.agg #[(Value.slice none 0 0), (eN 0), (eN 0), vF]), (eN p), (ptr gb 2), (eN Q), (Value.bool (decide (p < Q))), (z 37), (z 38), (ptr xb 0), u_pg, u47, (sli b49 0 1 1), u54, (ptr xb 0)] ++ (zs z 45 30 ++ (us 38))) kr ?_
    refine wJ.done ⟨a13, a19, a36, trivial⟩ ?_
    refine rest_seg (n := 7) (p := 6) (q := 7) [] [6] [] [(0, 39), (1, 40), (2, 41), (3, 42), (4, 43), (5, 44)] [0, 1, 0, 4, 15, 31, 63] (fun i_ => nth [] i_) ([(Value.agg #[(eN D), (eN B), (eN Q)]), ub, (ptr gb 0), undef, (Value.pointer none), (eN 0), (ptr cb 0), (eN d), u_bs, u_ls, (eN b), (ptr xb 0), (eN p), undef, (Value.agg #[(eN D), (eN B), (eN Q)]), vT, vF, (Value.agg #[(eN D), (eN B), (eN Q)]), (Value.agg #[(eN D), (eN B), (eN Q), (Value.slice none 0 0), (Value.slice none 0 0), (eN 0), (Value.slice none 0 0), vF, (eN 0), (eN 0)]), (ptr cb 0), (eN d), (ptr gb 0), (eN D), (Value.bool (decide (d < D))), (z 24), (z 25), (eN b), (ptr gb 1), (eN B), (Value.bool (decide (b < B))), (z 30), (z 31), (Value.agg #[(Value.slice none 0 0), (eN 0), (eN 0), vF]), (eN p), (ptr gb 2), (eN Q), (Value.bool (decide (p < Q))), (z 37), (z 38), (ptr xb 0), u_pg, u47, (sli b49 0 1 1), u54, (ptr xb 0)] ++ (zs z 45 30 ++ (us 38))) (fun w_ => Ps (Or1 b49 (Or1 xb (Or1 cb (Or1 gb (Old w29.heap.size))))) (Seq kB onesW u47) w_ ∧ True) kr rfl (by decide) kr kr (by rfl) kr kr kr kr kr (by decide) ?_ ?_
    ·
     rintro w_ ⟨f48, _⟩
     exact fl_nil
    refine wJ.op ⟨f48.less (xx_or1 (xx_skip (xx_or1 (xx_skip (xx_skip (xx_skip (xx_skip (xx_or1 (xx_or1 xx_id))))))))), trivial⟩ rfl rfl (d_store s_ti63 rfl rfl (Ow.one a57) a36 (nb rfl) rfl) ?_
    rintro _ w60 ⟨a61, o62⟩
    replace hF2 := hF2.stepb o62 (in2 (inq in1))
    replace hG2 := hG2.stepb o62 (in2 (inq in1))
    replace hH := hH.stepb o62 (in2 (inq in1))
    replace f48 := f48.stepb o62 (in2 (inq in1))
    replace a13 := a13.step o62 (fun e => absurd e n_gb_xb)
    replace a19 := a19.step o62 (fun e => absurd e n_cb_xb)
    replace a52 := a52.step o62 (fun e => absurd e (Ne.symm n_xb_b49))
    replace a21 := a21.step o62 (fun x hx e => nq_uB_xb x hx e)
    replace a22 := a22.step o62 (fun x hx e => nq_uV_xb x hx e)
    replace a26 := a26.step o62 (fun x hx e => nq_bs_xb x hx e)
    replace a27 := a27.step o62 (fun x hx e => nq_ls_xb x hx e)
    replace a57 := a57.step o62 (fun x hx e => nq_pg_xb x hx e)
    replace oW := oW.tailb o62 g_oW_xb
    replace o23 := o23.tailb o62 g_o23_xb
    replace oD := oD.tailb o62 g_oD_xb
    replace o28 := o28.tailb o62 g_o28_xb
    replace oB := oB.tailb o62 g_oB_xb
    replace o39 := o39.tail o62 (fun k _ e => by have : k = xb := e; rw [this]; exact (inq in1))
    refine wJ.flat ([(Value.agg #[(eN D), (eN B), (eN Q)]), ub, (ptr gb 0), undef, (Value.pointer none), (eN 0), (ptr cb 0), (eN d), u_bs, u_ls, (eN b), (ptr xb 0), (eN p), undef, (Value.agg #[(eN D), (eN B), (eN Q)]), vT, vF, (Value.agg #[(eN D), (eN B), (eN Q)]), (Value.agg #[(eN D), (eN B), (eN Q), (Value.slice none 0 0), (Value.slice none 0 0), (eN 0), (Value.slice none 0 0), vF, (eN 0), (eN 0)]), (ptr cb 0), (eN d), (ptr gb 0), (eN D), (Value.bool (decide (d < D))), (z 24), (z 25), (eN b), (ptr gb 1), (eN B), (Value.bool (decide (b < B))), (z 30), (z 31), (Value.agg #[(Value.slice none 0 0), (eN 0), (eN 0), vF]), (eN p), (ptr gb 2), (eN Q), (Value.bool (decide (p < Q))), (z 37), (z 38), (ptr xb 0), u_pg, u47, (sli b49 0 1 1), u54, (ptr xb 0)] ++ (zs z 45 30 ++ (us 38))) kr ?_
    refine wJ.done ⟨f48.less (xx_or1 (xx_skip (xx_or1 (xx_skip (xx_skip (xx_skip (xx_skip (xx_or1 (xx_or1 xx_id))))))))), trivial⟩ ?_
    refine rest_done rfl ?_
    refine inb_n (tN ?_)
    refine pL ?_
    refine wI (d_move rfl) ?_
    refine wI (n_add (a := p) (b := 1) rfl rfl oo) ?_
    refine wI (d_assign rfl) ?_
    refine wD (tN ?_)
    refine ⟨_, ⟨p + 1, pgs ++ ([u47] : List Value), bo56, u54⟩, rfl, kr, ⟨?_, ?_, ?_, ?_, ?_, ?_, ?_, ?_, ?_, ?_, ?_, ?_, ?_⟩, ?_⟩
    ·
     (try dsimp only)
     all_goals (omega)
    ·
     (try dsimp only)
     all_goals (rw [List.length_append, lp]; rfl)
    ·
     exact (pages_snoc hH f48 lp).less (xx_skip (xx_orq (xx_or1 (xx_orq (xx_orq (xx_orq (xx_orq (xx_or1 (xx_or1 xx_id)))))))))
    ·
     exact o39
    ·
     exact a13
    ·
     exact a19
    ·
     exact a61
    ·
     exact a21
    ·
     exact a22
    ·
     exact a26
    ·
     exact a27
    ·
     exact a57
    ·
     exact q_o39_pg
    ·
     (try dsimp only)
     all_goals (omega)
   refine wpIn_exit ?_
   refine then_x (then_x (inb_e ?_))
   refine tN ?_
   have hpQ : p = Q := by omega
   refine wp_eq (l' := ([(Value.agg #[(eN D), (eN B), (eN Q)]), ub, (ptr gb 0), undef, (Value.pointer none), (eN 0), (ptr cb 0), (eN d), u_bs, u_ls, (eN b), (ptr xb 0), (eN p), undef, (Value.agg #[(eN D), (eN B), (eN Q)]), vT, vF, (Value.agg #[(eN D), (eN B), (eN Q)]), (Value.agg #[(eN D), (eN B), (eN Q), (Value.slice none 0 0), (Value.slice none 0 0), (eN 0), (Value.slice none 0 0), vF, (eN 0), (eN 0)]), (ptr cb 0), (eN d), (ptr gb 0), (eN D), (Value.bool (decide (d < D))), (z 24), (z 25), (eN b), (ptr gb 1), (eN B), (Value.bool (decide (b < B))), (z 30), (z 31), (Value.agg #[(Value.slice none 0 0), (eN 0), (eN 0), vF]), (eN p), (ptr gb 2), (eN Q), (Value.bool (decide (p < Q)))] ++ (zs z 37 38 ++ (us 38)))) rfl ?_
   have hX0_ : ∀ k, (Orq bo_pg (Or1 xb (Orq bo_ls (Orq bo_bs (Orq bo_uV (Orq bo_uB (Or1 cb (Or1 gb (Old w29.heap.size))))))))) k → k < w40.heap.size := (lt_orq a38.lts (lt_or1 a36.lt (lt_orq a27.lts (lt_orq a26.lts (lt_orq a22.lts (lt_orq a21.lts (lt_or1 a19.lt (lt_or1 a13.lt (fun k t => Nat.lt_of_lt_of_le t oB.size)))))))))
   have hO0_ : ∀ k, (Orq bo_pg (Or1 xb (Orq bo_ls (Orq bo_bs (Orq bo_uV (Orq bo_uB (Or1 cb (Or1 gb No)))))))) k → k < w40.heap.size := fun k h => hX0_ k ((orq_mono (or1_mono (orq_mono (orq_mono (orq_mono (orq_mono (or1_mono (or1_mono no_any)))))))) k h)
   refine drawnT (O := (Orq bo_pg (Or1 xb (Orq bo_ls (Orq bo_bs (Orq bo_uV (Orq bo_uB (Or1 cb (Or1 gb No))))))))) (n := 12) 9 [0, 0, 2, 7, 0, 0, 32, 96, 224, 511, 1023, 2047] [(0, 45), (1, 46), (2, 47), (3, 48), (4, 49), (5, 50), (6, 51), (7, 52), (8, 53), (9, 54), (10, 8), (11, 9)] [(0, 45), (1, 46), (2, 47), (3, 48), (4, 49), (5, 50), (6, 51), (7, 52), (8, 53)] [0, 1, 2, 4, 5, 6, 7, 8] [3] (fun i_ => ([RF.is (Orq bo_pg (Or1 xb (Orq bo_ls (Orq bo_bs (Orq bo_uV (Orq bo_uB (Or1 cb (Or1 gb No)))))))) u_bs, RF.is (Orq bo_pg (Or1 xb (Orq bo_ls (Orq bo_bs (Orq bo_uV (Orq bo_uB (Or1 cb (Or1 gb No)))))))) (Value.agg #[u_pg, (eN 0), (eN 0), vF]), RF.mk_ (Orq bo_pg (Or1 xb (Orq bo_ls (Orq bo_bs (Orq bo_uV (Orq bo_uB (Or1 cb (Or1 gb No)))))))) (fun b_ => (sli b_ 0 1 1)) 85 [u_pg, (eN 0), (eN 0), vF] w40.heap.size hO0_, RF.gr (Orq bo_pg (Or1 xb (Orq bo_ls (Orq bo_bs (Orq bo_uV (Orq bo_uB (Or1 cb (Or1 gb No)))))))) 85 4 bo_bs (vb ++ [u_pg]).length ((vb ++ [u_pg]).flatMap eR) w40.heap.size, RF.is (Orq bo_pg (Or1 xb (Orq bo_ls (Orq bo_bs (Orq bo_uV (Orq bo_uB (Or1 cb (Or1 gb No)))))))) u_ls, RF.is (Orq bo_pg (Or1 xb (Orq bo_ls (Orq bo_bs (Orq bo_uV (Orq bo_uB (Or1 cb (Or1 gb No)))))))) (ptr gb 2), RF.is (Orq bo_pg (Or1 xb (Orq bo_ls (Orq bo_bs (Orq bo_uV (Orq bo_uB (Or1 cb (Or1 gb No)))))))) (eN Q), RF.mk_ (Orq bo_pg (Or1 xb (Orq bo_ls (Orq bo_bs (Orq bo_uV (Orq bo_uB (Or1 cb (Or1 gb No)))))))) (fun b_ => (sli b_ 0 Q Q)) 37 (List.replicate Q (Value.slice none 0 0)) w40.heap.size hO0_, RF.mkv_ (Orq bo_pg (Or1 xb (Orq bo_ls (Orq bo_bs (Orq bo_uV (Orq bo_uB (Or1 cb (Or1 gb No)))))))) (fun b_ => (sli b_ 0 1 1)) 67 (fun v63 => [(v63 7)]) w40.heap.size hO0_] : List (RF (Orq bo_pg (Or1 xb (Orq bo_ls (Orq bo_bs (Orq bo_uV (Orq bo_uB (Or1 cb (Or1 gb No)))))))))).getD i_ (RF.any (Orq bo_pg (Or1 xb (Orq bo_ls (Orq bo_bs (Orq bo_uV (Orq bo_uB (Or1 cb (Or1 gb No)))))))))) (fun k_ w_ => match k_ with | 0 => Arr 23 gb [(eN D), (eN B), (eN Q)] w_ ∧ Arr 81 cb [(eN D), (eN B), (eN Q), u_uB, u_uV, (eN 0), (Value.slice none 0 0), vF, (eN 0), (eN 0)] w_ ∧ Arr 85 xb [u_pg, (eN 0), (eN 0), vF] w_ ∧ Ow 82 1 bo_uB u_uB (vB).length ((vB).map eV) w_ ∧ Ow 83 1 bo_uV u_uV (vV).length ((vV).map eV) w_ ∧ Ow 85 4 bo_bs u_bs (vb).length ((vb).flatMap eR) w_ ∧ Ow 67 1 bo_ls u_ls (lz).length ((lz).map (eK Q)) w_ ∧ Ow 36 1 bo_pg u_pg (pgs).length ((pgs).map eV) w_ | _ => Arr 23 gb [(eN D), (eN B), (eN Q)] w_ ∧ Arr 81 cb [(eN D), (eN B), (eN Q), u_uB, u_uV, (eN 0), (Value.slice none 0 0), vF, (eN 0), (eN 0)] w_ ∧ Arr 85 xb [u_pg, (eN 0), (eN 0), vF] w_ ∧ Ow 82 1 bo_uB u_uB (vB).length ((vB).map eV) w_ ∧ Ow 83 1 bo_uV u_uV (vV).length ((vV).map eV) w_ ∧ True ∧ Ow 67 1 bo_ls u_ls (lz).length ((lz).map (eK Q)) w_ ∧ Ow 36 1 bo_pg u_pg (pgs).length ((pgs).map eV) w_) (fun v63 => ([(Value.agg #[(eN D), (eN B), (eN Q)]), ub, (ptr gb 0), undef, (Value.pointer none), (eN 0), (ptr cb 0), (eN d), (v63 10), (v63 11), (eN b), (ptr xb 0), (eN p), undef, (Value.agg #[(eN D), (eN B), (eN Q)]), vT, vF, (Value.agg #[(eN D), (eN B), (eN Q)]), (Value.agg #[(eN D), (eN B), (eN Q), (Value.slice none 0 0), (Value.slice none 0 0), (eN 0), (Value.slice none 0 0), vF, (eN 0), (eN 0)]), (ptr cb 0), (eN d), (ptr gb 0), (eN D), (Value.bool (decide (d < D))), (z 24), (z 25), (eN b), (ptr gb 1), (eN B), (Value.bool (decide (b < B))), (z 30), (z 31), (Value.agg #[(Value.slice none 0 0), (eN 0), (eN 0), vF]), (eN p), (ptr gb 2), (eN Q), (Value.bool (decide (p < Q)))] ++ (zs z 37 8 ++ [(v63 0), (v63 1), (v63 2), (v63 3), (v63 4), (v63 5), (v63 6), (v63 7), (v63 8), (v63 9)] ++ (zs z 55 20 ++ (us 38))))) (fun v63 => ([(Value.agg #[(eN D), (eN B), (eN Q)]), ub, (ptr gb 0), undef, (Value.pointer none), (eN 0), (ptr cb 0), (eN d), u_bs, u_ls, (eN b), (ptr xb 0), (eN p), undef, (Value.agg #[(eN D), (eN B), (eN Q)]), vT, vF, (Value.agg #[(eN D), (eN B), (eN Q)]), (Value.agg #[(eN D), (eN B), (eN Q), (Value.slice none 0 0), (Value.slice none 0 0), (eN 0), (Value.slice none 0 0), vF, (eN 0), (eN 0)]), (ptr cb 0), (eN d), (ptr gb 0), (eN D), (Value.bool (decide (d < D))), (z 24), (z 25), (eN b), (ptr gb 1), (eN B), (Value.bool (decide (b < B))), (z 30), (z 31), (Value.agg #[(Value.slice none 0 0), (eN 0), (eN 0), vF]), (eN p), (ptr gb 2), (eN Q), (Value.bool (decide (p < Q)))] ++ (zs z 37 8 ++ [(v63 0), (v63 1), (v63 2), (v63 3), (v63 4), (v63 5), (v63 6), (v63 7), (v63 8)] ++ (zs z 54 21 ++ (us 38))))) s_mx kr rfl (by decide) (by rfl) kr kr kr (by rfl) (fun v_ => by kernel_rfl) (fun v_ => by kernel_rfl) (fun k_ => match k_ with | 0 => fun w_ w2_ h ho => by obtain ⟨r_a13, r_a19, r_a36, r_a21, r_a22, r_a26, r_a27, r_a38⟩ := h; exact ⟨r_a13.step0 ho, r_a19.step0 ho, r_a36.step0 ho, r_a21.step0 ho, r_a22.step0 ho, r_a26.step0 ho, r_a27.step0 ho, r_a38.step0 ho⟩ | (_ + 1) => fun w_ w2_ h ho => by obtain ⟨r_a13, r_a19, r_a36, r_a21, r_a22, r_a26, r_a27, r_a38⟩ := h; exact ⟨r_a13.step0 ho, r_a19.step0 ho, r_a36.step0 ho, r_a21.step0 ho, r_a22.step0 ho, trivial, r_a27.step0 ho, r_a38.step0 ho⟩) ⟨a13, a19, a36, a21, a22, a26, a27, a38⟩ ?_ ?_ ?_
   ·
    refine ls_cons ?_ ?_
    ·
     intro v63 lo hi w_ k_ hO hd _ _ hk_ _ hR hold
     obtain rfl : k_ = 0 := Nat.le_zero.1 (hk_ 0 (by decide) kr)
     obtain ⟨r_a13, r_a19, r_a36, r_a21, r_a22, r_a26, r_a27, r_a38⟩ := hR
     have eo10 : v63 10 = u_bs := hold (10, 8) (by decide) kr
     clear hd hold
     refine ⟨_, rfl, gd rfl ?_⟩
     exact Does.is (d_move (v := u_bs) eo10)
    refine ls_cons ?_ ?_
    ·
     intro v63 lo hi w_ k_ hO hd _ _ hk_ _ hR hold
     obtain rfl : k_ = 0 := Nat.le_zero.1 (hk_ 0 (by decide) kr)
     obtain ⟨r_a13, r_a19, r_a36, r_a21, r_a22, r_a26, r_a27, r_a38⟩ := hR
     clear hd hold
     refine ⟨_, rfl, gd rfl ?_⟩
     exact Does.is (d_loadAg (vs := [u_pg, (eN 0), (eN 0), vF]) ⟨_, Try.underlying85, rfl⟩ s_ti85 rfl r_a36 rfl rfl)
    refine ls_cons ?_ ?_
    ·
     intro v63 lo hi w_ k_ hO hd _ _ hk_ _ hR hold
     obtain rfl : k_ = 0 := Nat.le_zero.1 (hk_ 0 (by decide) kr)
     obtain ⟨r_a13, r_a19, r_a36, r_a21, r_a22, r_a26, r_a27, r_a38⟩ := hR
     have e1 : v63 1 = (Value.agg #[u_pg, (eN 0), (eN 0), vF]) := hd 1 kr
     clear hd hold
     refine ⟨_, rfl, gd rfl ?_⟩
     refine Does.mono (d_buildL2 (zs := [(Value.slice none 0 0), (eN 0), (eN 0), vF]) (cs := [u_pg, (eN 0), (eN 0), vF]) Try.underlying82 s_ti85 made_bk (nb rfl) (parts_cons (vs := [u_pg, (eN 0), (eN 0), vF]) (cells_of (v := (Value.agg #[u_pg, (eN 0), (eN 0), vF])) e1 rfl) parts_nil) rfl) (fun u w' h => by obtain ⟨b_, rfl, hb_, hA_, hO_⟩ := h; exact ⟨⟨b_, rfl, hA_, Nat.le_trans hO.size hb_⟩, hO_⟩)
    refine ls_cons ?_ ?_
    ·
     intro v63 lo hi w_ k_ hO hd _ _ hk_ _ hR hold
     obtain ⟨r_a13, r_a19, r_a36, r_a21, r_a22, r_a26, r_a27, r_a38⟩ := (show Arr 23 gb [(eN D), (eN B), (eN Q)] w_ ∧ Arr 81 cb [(eN D), (eN B), (eN Q), u_uB, u_uV, (eN 0), (Value.slice none 0 0), vF, (eN 0), (eN 0)] w_ ∧ Arr 85 xb [u_pg, (eN 0), (eN 0), vF] w_ ∧ Ow 82 1 bo_uB u_uB (vB).length ((vB).map eV) w_ ∧ Ow 83 1 bo_uV u_uV (vV).length ((vV).map eV) w_ ∧ True ∧ Ow 67 1 bo_ls u_ls (lz).length ((lz).map (eK Q)) w_ ∧ Ow 36 1 bo_pg u_pg (pgs).length ((pgs).map eV) w_ from by match k_, hR with | 0, h_ => exact (by obtain ⟨r_a13, r_a19, r_a36, r_a21, r_a22, r_a26, r_a27, r_a38⟩ := h_; exact ⟨r_a13, r_a19, r_a36, r_a21, r_a22, trivial, r_a27, r_a38⟩) | (_ + 1), h_ => exact h_)
     have eo11 : v63 11 = u_ls := hold (11, 9) (by decide) kr
     clear hd hold
     refine ⟨_, rfl, gd rfl ?_⟩
     exact Does.is (d_move (v := u_ls) eo11)
    refine ls_cons ?_ ?_
    ·
     intro v63 lo hi w_ k_ hO hd _ _ hk_ _ hR hold
     obtain ⟨r_a13, r_a19, r_a36, r_a21, r_a22, r_a26, r_a27, r_a38⟩ := (show Arr 23 gb [(eN D), (eN B), (eN Q)] w_ ∧ Arr 81 cb [(eN D), (eN B), (eN Q), u_uB, u_uV, (eN 0), (Value.slice none 0 0), vF, (eN 0), (eN 0)] w_ ∧ Arr 85 xb [u_pg, (eN 0), (eN 0), vF] w_ ∧ Ow 82 1 bo_uB u_uB (vB).length ((vB).map eV) w_ ∧ Ow 83 1 bo_uV u_uV (vV).length ((vV).map eV) w_ ∧ True ∧ Ow 67 1 bo_ls u_ls (lz).length ((lz).map (eK Q)) w_ ∧ Ow 36 1 bo_pg u_pg (pgs).length ((pgs).map eV) w_ from by match k_, hR with | 0, h_ => exact (by obtain ⟨r_a13, r_a19, r_a36, r_a21, r_a22, r_a26, r_a27, r_a38⟩ := h_; exact ⟨r_a13, r_a19, r_a36, r_a21, r_a22, trivial, r_a27, r_a38⟩) | (_ + 1), h_ => exact h_)
     clear hd hold
     refine ⟨_, rfl, gd rfl ?_⟩
     exact Does.is (d_fieldAddr (j := 2) Try.underlying23 rfl s_ti3 (by decide) rfl rfl)
    refine ls_cons ?_ ?_
    ·
     intro v63 lo hi w_ k_ hO hd _ _ hk_ _ hR hold
     obtain ⟨r_a13, r_a19, r_a36, r_a21, r_a22, r_a26, r_a27, r_a38⟩ := (show Arr 23 gb [(eN D), (eN B), (eN Q)] w_ ∧ Arr 81 cb [(eN D), (eN B), (eN Q), u_uB, u_uV, (eN 0), (Value.slice none 0 0), vF, (eN 0), (eN 0)] w_ ∧ Arr 85 xb [u_pg, (eN 0), (eN 0), vF] w_ ∧ Ow 82 1 bo_uB u_uB (vB).length ((vB).map eV) w_ ∧ Ow 83 1 bo_uV u_uV (vV).length ((vV).map eV) w_ ∧ True ∧ Ow 67 1 bo_ls u_ls (lz).length ((lz).map (eK Q)) w_ ∧ Ow 36 1 bo_pg u_pg (pgs).length ((pgs).map eV) w_ from by match k_, hR with | 0, h_ => exact (by obtain ⟨r_a13, r_a19, r_a36, r_a21, r_a22, r_a26, r_a27, r_a38⟩ := h_; exact ⟨r_a13, r_a19, r_a36, r_a21, r_a22, trivial, r_a27, r_a38⟩) | (_ + 1), h_ => exact h_)
     have e5 : v63 5 = (ptr gb 2) := hd 5 kr
     clear hd hold
     refine ⟨_, rfl, gd rfl ?_⟩
     exact Does.is (d_load (v := (eN Q)) ⟨_, Try.underlying3, rfl⟩ e5 r_a13 rfl)
    refine ls_cons ?_ ?_
    ·
     intro v63 lo hi w_ k_ hO hd _ _ hk_ _ hR hold
     obtain ⟨r_a13, r_a19, r_a36, r_a21, r_a22, r_a26, r_a27, r_a38⟩ := (show Arr 23 gb [(eN D), (eN B), (eN Q)] w_ ∧ Arr 81 cb [(eN D), (eN B), (eN Q), u_uB, u_uV, (eN 0), (Value.slice none 0 0), vF, (eN 0), (eN 0)] w_ ∧ Arr 85 xb [u_pg, (eN 0), (eN 0), vF] w_ ∧ Ow 82 1 bo_uB u_uB (vB).length ((vB).map eV) w_ ∧ Ow 83 1 bo_uV u_uV (vV).length ((vV).map eV) w_ ∧ True ∧ Ow 67 1 bo_ls u_ls (lz).length ((lz).map (eK Q)) w_ ∧ Ow 36 1 bo_pg u_pg (pgs).length ((pgs).map eV) w_ from by match k_, hR with | 0, h_ => exact (by obtain ⟨r_a13, r_a19, r_a36, r_a21, r_a22, r_a26, r_a27, r_a38⟩ := h_; exact ⟨r_a13, r_a19, r_a36, r_a21, r_a22, trivial, r_a27, r_a38⟩) | (_ + 1), h_ => exact h_)
     have e6 : v63 6 = (eN Q) := hd 6 kr
     clear hd hold
     refine ⟨_, rfl, gd rfl ?_⟩
     refine Does.mono (d_make1 (n := Q) Try.underlying67 s_ti37 e6 e6 oo oo rfl) (fun u w' h => by obtain ⟨b_, rfl, hb_, hA_, hO_⟩ := h; exact ⟨⟨b_, rfl, hA_, Nat.le_trans hO.size hb_⟩, hO_⟩)
    refine ls_cons ?_ ?_
    ·
     intro v63 lo hi w_ k_ hO hd _ _ hk_ _ hR hold
     obtain ⟨r_a13, r_a19, r_a36, r_a21, r_a22, r_a26, r_a27, r_a38⟩ := (show Arr 23 gb [(eN D), (eN B), (eN Q)] w_ ∧ Arr 81 cb [(eN D), (eN B), (eN Q), u_uB, u_uV, (eN 0), (Value.slice none 0 0), vF, (eN 0), (eN 0)] w_ ∧ Arr 85 xb [u_pg, (eN 0), (eN 0), vF] w_ ∧ Ow 82 1 bo_uB u_uB (vB).length ((vB).map eV) w_ ∧ Ow 83 1 bo_uV u_uV (vV).length ((vV).map eV) w_ ∧ True ∧ Ow 67 1 bo_ls u_ls (lz).length ((lz).map (eK Q)) w_ ∧ Ow 36 1 bo_pg u_pg (pgs).length ((pgs).map eV) w_ from by match k_, hR with | 0, h_ => exact (by obtain ⟨r_a13, r_a19, r_a36, r_a21, r_a22, r_a26, r_a27, r_a38⟩ := h_; exact ⟨r_a13, r_a19, r_a36, r_a21, r_a22, trivial, r_a27, r_a38⟩) | (_ + 1), h_ => exact h_)
     obtain ⟨mb7, me7, ma7, mf7⟩ : ∃ b_, v63 7 = (fun b_ => (sli b_ 0 Q Q)) b_ ∧ Arr 37 b_ (List.replicate Q (Value.slice none 0 0)) w_ ∧ w40.heap.size ≤ b_ := hd 7 kr
     clear hd hold
     refine ⟨_, rfl, gd rfl ?_⟩
     refine Does.mono (d_buildL (cs := [(v63 7)]) Try.underlying83 s_ti67 rfl (nb rfl) (parts_cons (vs := [(v63 7)]) (cells_of (v := (v63 7)) rfl (by rw [me7]; rfl)) parts_nil) rfl) (fun u w' h => by obtain ⟨b_, rfl, hb_, hA_, hO_⟩ := h; exact ⟨⟨b_, rfl, hA_, Nat.le_trans hO.size hb_⟩, hO_⟩)
    exact ls_nil
   ·
    refine ms_one ?_
    ·
     refine ⟨by kernel_rfl, ?_⟩
     intro v63 lo hi w_ hO hd _ hR hold
     obtain ⟨r_a13, r_a19, r_a36, r_a21, r_a22, r_a26, r_a27, r_a38⟩ := hR
     have e0 : v63 0 = u_bs := hd 0 kr
     obtain ⟨mb2, me2, ma2, mf2⟩ : ∃ b_, v63 2 = (fun b_ => (sli b_ 0 1 1)) b_ ∧ Arr 85 b_ [u_pg, (eN 0), (eN 0), vF] w_ ∧ w40.heap.size ≤ b_ := hd 2 kr
     clear hd hold
     refine ⟨_, rfl, gd rfl ?_⟩
     refine Does.mono (d_append Try.underlying82 Try.underlying82 s_ti85 rfl e0 me2 r_a26 (SrcV.of_arr (n := 1) (sz := 4) ma2 rfl (one_eR (Ow.one r_a38))) (by first | omega | (rw [lvb]; omega) | (simp; omega) | (rw [lvb]; simp; omega)) (by first | omega | (rw [lvb]; omega) | (simp; omega) | (rw [lvb]; simp; omega)) rfl) (fun u w' h => by obtain ⟨bo_, h1_, h2_, h3_⟩ := h; exact ⟨⟨bo_, (ow_appR (xs := vb) h1_ rfl rfl : Ow 85 4 bo_ u (vb ++ [u_pg]).length ((vb ++ [u_pg]).flatMap eR) w'), qtr2 (Fr.of_or h3_) Fr.same hO.size⟩, ⟨r_a13.step h2_ (fun e => nq_bs_gb _ e rfl), r_a19.step h2_ (fun e => nq_bs_cb _ e rfl), r_a36.step h2_ (fun e => nq_bs_xb _ e rfl), r_a21.step h2_ (fun x hx e => nqq_uB_bs x hx e), r_a22.step h2_ (fun x hx e => nqq_uV_bs x hx e), trivial, r_a27.step h2_ (fun x hx e => nqq_bs_ls x e hx), r_a38.step h2_ (fun x hx e => nqq_bs_pg x e hx)⟩, h2_.mono (fun k _ (e : bo_bs = some k) => (.inr (.inr (.inr (.inl e)))))⟩)
   intro v63 lo_ hi_ w64 o65 hd iv_ hR
   have e0 : v63 0 = u_bs := hd 0 (by decide)
   have e1 : v63 1 = (Value.agg #[u_pg, (eN 0), (eN 0), vF]) := hd 1 (by decide)
   have e4 : v63 4 = u_ls := hd 4 (by decide)
   have e5 : v63 5 = (ptr gb 2) := hd 5 (by decide)
   have e6 : v63 6 = (eN Q) := hd 6 (by decide)
   obtain ⟨kb, e2, a66, g67⟩ : ∃ b_, v63 2 = (fun b_ => (sli b_ 0 1 1)) b_ ∧ Arr 85 b_ [u_pg, (eN 0), (eN 0), vF] w64 ∧ w40.heap.size ≤ b_ := hd 2 (by decide)
   dsimp only at e2
   obtain ⟨zb, e7, a68, g69⟩ : ∃ b_, v63 7 = (fun b_ => (sli b_ 0 Q Q)) b_ ∧ Arr 37 b_ (List.replicate Q (Value.slice none 0 0)) w64 ∧ w40.heap.size ≤ b_ := hd 7 (by decide)
   dsimp only at e7
   have n_gb_zb : gb ≠ zb := a13.ne g69
   have n_cb_zb : cb ≠ zb := a19.ne g69
   have n_xb_zb : xb ≠ zb := a36.ne g69
   have nq_uB_zb : ∀ x, bo_uB = some x → ¬ x = zb := fun x hx e => by have := a21.lts x hx; omega
   have nq_uV_zb : ∀ x, bo_uV = some x → ¬ x = zb := fun x hx e => by have := a22.lts x hx; omega
   have nq_bs_zb : ∀ x, bo_bs = some x → ¬ x = zb := fun x hx e => by have := a26.lts x hx; omega
   have nq_ls_zb : ∀ x, bo_ls = some x → ¬ x = zb := fun x hx e => by have := a27.lts x hx; omega
   have nq_pg_zb : ∀ x, bo_pg = some x → ¬ x = zb := fun x hx e => by have := a38.lts x hx; omega
   have g_oW_zb : W.heap.size ≤ zb := Nat.le_trans oW.size g69
   have g_o23_zb : w17.heap.size ≤ zb := Nat.le_trans o23.size g69
   have g_oD_zb : w24.heap.size ≤ zb := Nat.le_trans oD.size g69
   have g_o28_zb : w24.heap.size ≤ zb := Nat.le_trans o28.size g69
   have g_oB_zb : w29.heap.size ≤ zb := Nat.le_trans oB.size g69
   have g_o39_zb : w35.heap.size ≤ zb := Nat.le_trans o39.size g69
   obtain ⟨lb_, e8, a70, g71⟩ : ∃ b_, v63 8 = (fun b_ => (sli b_ 0 1 1)) b_ ∧ Arr 67 b_ [(v63 7)] w64 ∧ w40.heap.size ≤ b_ := hd 8 (by decide)
   dsimp only at e8
   have n_gb_lb_ : gb ≠ lb_ := a13.ne g71
   have n_cb_lb_ : cb ≠ lb_ := a19.ne g71
   have n_xb_lb_ : xb ≠ lb_ := a36.ne g71
   have nq_uB_lb_ : ∀ x, bo_uB = some x → ¬ x = lb_ := fun x hx e => by have := a21.lts x hx; omega
   have nq_uV_lb_ : ∀ x, bo_uV = some x → ¬ x = lb_ := fun x hx e => by have := a22.lts x hx; omega
   have nq_bs_lb_ : ∀ x, bo_bs = some x → ¬ x = lb_ := fun x hx e => by have := a26.lts x hx; omega
   have nq_ls_lb_ : ∀ x, bo_ls = some x → ¬ x = lb_ := fun x hx e => by have := a27.lts x hx; omega
   have nq_pg_lb_ : ∀ x, bo_pg = some x → ¬ x = lb_ := fun x hx e => by have := a38.lts x hx; omega
   have g_oW_lb_ : W.heap.size ≤ lb_ := Nat.le_trans oW.size g71
   have g_o23_lb_ : w17.heap.size ≤ lb_ := Nat.le_trans o23.size g71
   have g_oD_lb_ : w24.heap.size ≤ lb_ := Nat.le_trans oD.size g71
   have g_o28_lb_ : w24.heap.size ≤ lb_ := Nat.le_trans o28.size g71
   have g_oB_lb_ : w29.heap.size ≤ lb_ := Nat.le_trans oB.size g71
   have g_o39_lb_ : w35.heap.size ≤ lb_ := Nat.le_trans o39.size g71
   have n_zb_lb_ : zb ≠ lb_ := arr_ne a68 a70 (by decide)
   rw [e7] at a70
   replace a70 : Arr 67 lb_ (([zb] : List Nat).map (eK Q)) w64 := a70
   obtain ⟨bo72, a73, q74⟩ : ∃ bo_, Ow 85 4 bo_ (v63 3) (vb ++ [u_pg]).length ((vb ++ [u_pg]).flatMap eR) w64 ∧ Fr bo_ bo_bs w40.heap.size := hd 3 (by decide)
   replace nq_bs_gb := nqs nq_bs_gb q74 a13.lt
   replace nq_bs_cb := nqs nq_bs_cb q74 a19.lt
   replace nq_bs_xb := nqs nq_bs_xb q74 a36.lt
   replace nq_bs_zb := ow_ne a73 a68 (by decide)
   replace nq_bs_lb_ := ow_ne a73 a70 (by decide)
   replace nqq_uB_bs := nqq_step nqq_uB_bs q74 a21.lts
   replace nqq_uV_bs := nqq_step nqq_uV_bs q74 a22.lts
   replace nqq_bs_ls := fun x h1 h2 => nqq_step (fun x h1 h2 => nqq_bs_ls x h2 h1) q74 a27.lts x h2 h1
   replace nqq_bs_pg := fun x h1 h2 => nqq_step (fun x h1 h2 => nqq_bs_pg x h2 h1) q74 a38.lts x h2 h1
   clear hd iv_ lo_ hi_
   refine wpL.flat ([(Value.agg #[(eN D), (eN B), (eN Q)]), ub, (ptr gb 0), undef, (Value.pointer none), (eN 0), (ptr cb 0), (eN d), u_bs, u_ls, (eN b), (ptr xb 0), (eN p), undef, (Value.agg #[(eN D), (eN B), (eN Q)]), vT, vF, (Value.agg #[(eN D), (eN B), (eN Q)]), (Value.agg #[(eN D), (eN B), (eN Q), (Value.slice none 0 0), (Value.slice none 0 0), (eN 0), (Value.slice none 0 0), vF, (eN 0), (eN 0)]), (ptr cb 0), (eN d), (ptr gb 0), (eN D), (Value.bool (decide (d < D))), (z 24), (z 25), (eN b), (ptr gb 1), (eN B), (Value.bool (decide (b < B))), (z 30), (z 31), (Value.agg #[(Value.slice none 0 0), (eN 0), (eN 0), vF]), (eN p), (ptr gb 2), (eN Q), (Value.bool (decide (p < Q)))] ++ (zs z 37 8 ++ [u_bs, (Value.agg #[u_pg, (eN 0), (eN 0), vF]), (sli kb 0 1 1), (v63 3), u_ls, (ptr gb 2), (eN Q), (sli zb 0 Q Q), (sli lb_ 0 1 1)] ++ (zs z 54 21 ++ (us 38)))) (by rw [e0, e1, e4, e5, e6, e2, e7, e8] <;> rfl) ?_
   clear e0 e1 e4 e5 e6 e2 e7 e8
   replace hF2 : Ps (Or1 lb_ (Or1 zb (Orq bo_pg (Or1 xb (Orq bo_ls (Orq bo72 (Orq bo_uV (Orq bo_uB (Or1 cb (Or1 gb (Old W.heap.size))))))))))) _ w64 := ((((hF2.less (Y := Orq bo72 (Orq bo_pg (Or1 xb (Orq bo_ls (Orq bo_bs (Orq bo_uV (Orq bo_uB (Or1 cb (Or1 gb (Old W.heap.size)))))))))) (xx_fr q74 (fun k e => (.inr (.inr (.inr (.inl e))))))).less (Y := (Or1 zb (Orq bo72 (Orq bo_pg (Or1 xb (Orq bo_ls (Orq bo_bs (Orq bo_uV (Orq bo_uB (Or1 cb (Or1 gb (Old W.heap.size)))))))))))) (xx_new g69 xx_id)).less (Y := (Or1 lb_ (Or1 zb (Orq bo72 (Orq bo_pg (Or1 xb (Orq bo_ls (Orq bo_bs (Orq bo_uV (Orq bo_uB (Or1 cb (Or1 gb (Old W.heap.size))))))))))))) (xx_new g71 xx_id)).step o65 (or1_skip (or1_skip (orq_skip (orq_mono (or1_mono (orq_mono (orq_mono (orq_mono (orq_mono (or1_mono (or1_mono no_any)))))))))))).less (xs_end (xs_mk' (xs_mk' (xs_q (xs_b (xs_q (xs_row xs_id)))))))
   replace hG2 : Ps (Or1 lb_ (Or1 zb (Orq bo_pg (Or1 xb (Orq bo_ls (Orq bo72 (Orq bo_uV (Orq bo_uB (Or1 cb (Or1 gb (NF.B F2 d (d * B + b) W.heap.size))))))))))) _ w64 := ((((hG2.less (Y := Orq bo72 (Orq bo_pg (Or1 xb (Orq bo_ls (Orq bo_bs (Orq bo_uV (Orq bo_uB (Or1 cb (Or1 gb (NF.B F2 d (d * B + b) W.heap.size)))))))))) (xx_fr q74 (fun k e => (.inr (.inr (.inr (.inl e))))))).less (Y := (Or1 zb (Orq bo72 (Orq bo_pg (Or1 xb (Orq bo_ls (Orq bo_bs (Orq bo_uV (Orq bo_uB (Or1 cb (Or1 gb (NF.B F2 d (d * B + b) W.heap.size)))))))))))) (xx_new g69 xx_id)).less (Y := (Or1 lb_ (Or1 zb (Orq bo72 (Orq bo_pg (Or1 xb (Orq bo_ls (Orq bo_bs (Orq bo_uV (Orq bo_uB (Or1 cb (Or1 gb (NF.B F2 d (d * B + b) W.heap.size))))))))))))) (xx_new g71 xx_id)).step o65 (or1_skip (or1_skip (orq_skip (orq_mono (or1_mono (orq_mono (orq_mono (orq_mono (orq_mono (or1_mono (or1_mono no_any)))))))))))).less (xs_end (xs_mk' (xs_mk' (xs_q (xs_b (xs_q (xs_row xs_id)))))))
   replace hH : Ps (Or1 lb_ (Or1 zb (Orq bo_pg (Or1 xb (Orq bo_ls (Orq bo72 (Orq bo_uV (Orq bo_uB (Or1 cb (Or1 gb (Old w29.heap.size))))))))))) _ w64 := ((((hH.less (Y := Orq bo72 (Orq bo_pg (Or1 xb (Orq bo_ls (Orq bo_bs (Orq bo_uV (Orq bo_uB (Or1 cb (Or1 gb (Old w29.heap.size)))))))))) (xx_fr q74 (fun k e => (.inr (.inr (.inr (.inl e))))))).less (Y := (Or1 zb (Orq bo72 (Orq bo_pg (Or1 xb (Orq bo_ls (Orq bo_bs (Orq bo_uV (Orq bo_uB (Or1 cb (Or1 gb (Old w29.heap.size)))))))))))) (xx_new g69 xx_id)).less (Y := (Or1 lb_ (Or1 zb (Orq bo72 (Orq bo_pg (Or1 xb (Orq bo_ls (Orq bo_bs (Orq bo_uV (Orq bo_uB (Or1 cb (Or1 gb (Old w29.heap.size))))))))))))) (xx_new g71 xx_id)).step o65 (or1_skip (or1_skip (orq_skip (orq_mono (or1_mono (orq_mono (orq_mono (orq_mono (orq_mono (or1_mono (or1_mono no_any)))))))))))).less (xs_end (xs_mk' (xs_mk' (xs_q (xs_b (xs_q (xs_row xs_id)))))))
   obtain ⟨xr_a13, xr_a19, xr_a36, xr_a21, xr_a22, xr_a26, xr_a27, xr_a38⟩ := hR
   replace a13 : Arr 23 gb [(eN D), (eN B), (eN Q)] w64 := xr_a13
   replace a19 : Arr 81 cb [(eN D), (eN B), (eN Q), u_uB, u_uV, (eN 0), (Value.slice none 0 0), vF, (eN 0), (eN 0)] w64 := xr_a19
   replace a36 : Arr 85 xb [u_pg, (eN 0), (eN 0), vF] w64 := xr_a36
   replace a21 : Ow 82 1 bo_uB u_uB (vB).length ((vB).map eV) w64 := xr_a21
   replace a22 : Ow 83 1 bo_uV u_uV (vV).length ((vV).map eV) w64 := xr_a22
   replace a27 : Ow 67 1 bo_ls u_ls (lz).length ((lz).map (eK Q)) w64 := xr_a27
   replace a38 : Ow 36 1 bo_pg u_pg (pgs).length ((pgs).map eV) w64 := xr_a38
   clear xr_a13 xr_a19 xr_a36 xr_a21 xr_a22 xr_a26 xr_a27 xr_a38
   have tq_ := oW.size
   replace oW := oW.tail o65 (tl_q q_oW_pg (fun _ e => by cases e) (tl_new g_oW_xb (tl_q q_oW_ls (fun _ e => by cases e) (tl_q q_oW_bs (fun _ e => by cases e) (tl_q q_oW_uV (fun _ e => by cases e) (tl_q q_oW_uB (fun _ e => by cases e) (tl_new g_oW_cb (tl_new g_oW_gb tl_no))))))))
   replace q_oW_bs := qtr q74 q_oW_bs tq_
   clear tq_
   have tq_ := o23.size
   replace o23 := o23.tail o65 (tl_q q_o23_pg (fun _ e => by cases e) (tl_new g_o23_xb (tl_q q_o23_ls (fun _ e => by cases e) (tl_q q_o23_bs (fun _ e => by cases e) (tl_q q_o23_uV (fun k e => (.inl e)) (tl_q q_o23_uB (fun k e => (.inr (.inl e))) (tl_in (inq (inq in1)) (tl_in (inq (inq (in2 in1))) tl_no))))))))
   replace q_o23_bs := qtr q74 q_o23_bs tq_
   clear tq_
   have tq_ := oD.size
   replace oD := oD.tail o65 (tl_q q_oD_pg (fun _ e => by cases e) (tl_new g_oD_xb (tl_q q_oD_ls (fun _ e => by cases e) (tl_q q_oD_bs (fun _ e => by cases e) (tl_q q_oD_uV (fun k e => (.inl e)) (tl_q q_oD_uB (fun k e => (.inr (.inl e))) (tl_in (inq (inq in1)) (tl_in (inq (inq (in2 in1))) tl_no))))))))
   replace q_oD_bs := qtr q74 q_oD_bs tq_
   clear tq_
   have tq_ := o28.size
   replace o28 := o28.tail o65 (tl_q q_o28_pg (fun _ e => by cases e) (tl_new g_o28_xb (tl_q q_o28_ls (fun k e => (.inl e)) (tl_q q_o28_bs (fun k e => (.inr (.inl e))) (tl_q q_o28_uV (fun k e => (.inr (.inr (.inl e)))) (tl_q q_o28_uB (fun k e => (.inr (.inr (.inr (.inl e))))) (tl_in (inq (inq (inq (inq in1)))) (tl_in (inq (inq (inq (inq (in2 in1))))) tl_no))))))))
   replace q_o28_bs := qtr q74 q_o28_bs tq_
   clear tq_
   have tq_ := oB.size
   replace oB := oB.tail o65 (tl_q q_oB_pg (fun _ e => by cases e) (tl_new g_oB_xb (tl_q q_oB_ls (fun k e => (.inl e)) (tl_q q_oB_bs (fun k e => (.inr (.inl e))) (tl_q q_oB_uV (fun k e => (.inr (.inr (.inl e)))) (tl_q q_oB_uB (fun k e => (.inr (.inr (.inr (.inl e))))) (tl_in (inq (inq (inq (inq in1)))) (tl_in (inq (inq (inq (inq (in2 in1))))) tl_no))))))))
   replace q_oB_bs := qtr q74 q_oB_bs tq_
   clear tq_
   have tq_ := o39.size
   replace o39 := o39.tail o65 (tl_q q_o39_pg (fun k e => (.inl e)) (tl_in (inq in1) (tl_q q_o39_ls (fun k e => (.inr (.inr (.inl e)))) (tl_q q_o39_bs (fun k e => (.inr (.inr (.inr (.inl e))))) (tl_q q_o39_uV (fun k e => (.inr (.inr (.inr (.inr (.inl e)))))) (tl_q q_o39_uB (fun k e => (.inr (.inr (.inr (.inr (.inr (.inl e))))))) (tl_in (inq (in2 (inq (inq (inq (inq in1)))))) (tl_in (inq (in2 (inq (inq (inq (inq (in2 in1))))))) tl_no))))))))
   replace q_o39_bs := qtr q74 q_o39_bs tq_
   clear tq_
   have l_lb_ : (([zb] : List Nat) : List Nat).length = 1 := by simp
   refine wO (d_append Try.underlying83 Try.underlying83 s_ti67 rfl rfl rfl a27 (SrcV.of_seq (arr_seq a70 l_lb_ (Nat.le_refl _)) (fun _ => rfl)) (by first | omega | (rw [llz]; omega) | (simp; omega) | (rw [llz]; simp; omega)) (by first | omega | (rw [llz]; omega) | (simp; omega) | (rw [llz]; simp; omega)) rfl) ?_
   rintro u75 w76 ⟨bo77, a78, o79, q80⟩
   replace a78 : Ow 67 1 bo77 u75 (lz ++ ([zb] : List Nat)).length ((lz ++ ([zb] : List Nat)).map (eK Q)) w76 := by rw [List.length_append, List.map_append]; exact a78
   replace hF2 := hF2.gr o79 (fun k e => (.inr (.inr (.inr (.inr (.inl e)))))) (xx_or1 (xx_or1 (xx_orq (xx_or1 (xx_re (Fr.of_or q80) (xx_orq (xx_orq (xx_orq (xx_or1 (xx_or1 xx_id))))))))))
   replace hG2 := hG2.gr o79 (fun k e => (.inr (.inr (.inr (.inr (.inl e)))))) (xx_or1 (xx_or1 (xx_orq (xx_or1 (xx_re (Fr.of_or q80) (xx_orq (xx_orq (xx_orq (xx_or1 (xx_or1 xx_id))))))))))
   replace hH := hH.gr o79 (fun k e => (.inr (.inr (.inr (.inr (.inl e)))))) (xx_or1 (xx_or1 (xx_orq (xx_or1 (xx_re (Fr.of_or q80) (xx_orq (xx_orq (xx_orq (xx_or1 (xx_or1 xx_id))))))))))
   have nq2 := nqs nq_ls_gb (Fr.of_or q80) a13.lt
   replace a13 := a13.step o79 (fun e => nq_ls_gb _ e rfl)
   replace nq_ls_gb := nq2
   clear nq2
   have nq2 := nqs nq_ls_cb (Fr.of_or q80) a19.lt
   replace a19 := a19.step o79 (fun e => nq_ls_cb _ e rfl)
   replace nq_ls_cb := nq2
   clear nq2
   have nq2 := nqs nq_ls_xb (Fr.of_or q80) a36.lt
   replace a36 := a36.step o79 (fun e => nq_ls_xb _ e rfl)
   replace nq_ls_xb := nq2
   clear nq2
   have nq2 := nqs nq_ls_zb (Fr.of_or q80) a68.lt
   replace a68 := a68.step o79 (fun e => nq_ls_zb _ e rfl)
   replace nq_ls_zb := nq2
   clear nq2
   have nq2 := nqs nq_ls_lb_ (Fr.of_or q80) a70.lt
   replace a70 := a70.step o79 (fun e => nq_ls_lb_ _ e rfl)
   replace nq_ls_lb_ := nq2
   clear nq2
   have lt2 := a21.lts
   replace a21 := a21.step o79 (fun x hx e => nqq_uB_ls x hx e)
   replace nqq_uB_ls := nqq_step nqq_uB_ls (Fr.of_or q80) lt2
   clear lt2
   have lt2 := a22.lts
   replace a22 := a22.step o79 (fun x hx e => nqq_uV_ls x hx e)
   replace nqq_uV_ls := nqq_step nqq_uV_ls (Fr.of_or q80) lt2
   clear lt2
   have lt2 := a73.lts
   replace a73 := a73.step o79 (fun x hx e => nqq_bs_ls x hx e)
   replace nqq_bs_ls := nqq_step nqq_bs_ls (Fr.of_or q80) lt2
   clear lt2
   have lt2 := a38.lts
   replace a38 := a38.step o79 (fun x hx e => nqq_ls_pg x e hx)
   replace nqq_ls_pg := fun x h1 h2 => nqq_step (fun x h1 h2 => nqq_ls_pg x h2 h1) (Fr.of_or q80) lt2 x h2 h1
   clear lt2
   have tq := oW.size
   replace oW := oW.tailr o79 q_oW_ls (fun _ e => by cases e)
   replace q_oW_ls := qtr (Fr.of_or q80) q_oW_ls tq
   clear tq
   have tq := o23.size
   replace o23 := o23.tailr o79 q_o23_ls (fun _ e => by cases e)
   replace q_o23_ls := qtr (Fr.of_or q80) q_o23_ls tq
   clear tq
   have tq := oD.size
   replace oD := oD.tailr o79 q_oD_ls (fun _ e => by cases e)
   replace q_oD_ls := qtr (Fr.of_or q80) q_oD_ls tq
   clear tq
   have tq := o28.size
   replace o28 := o28.tailr o79 q_o28_ls (fun k e => (.inl e))
   replace q_o28_ls := qtr (Fr.of_or q80) q_o28_ls tq
   clear tq
   have tq := oB.size
   replace oB := oB.tailr o79 q_oB_ls (fun k e => (.inl e))
   replace q_oB_ls := qtr (Fr.of_or q80) q_oB_ls tq
   clear tq
   have tq := o39.size
   replace o39 := o39.tailr o79 q_o39_ls (fun k e => (.inr (.inr (.inl e))))
   replace q_o39_ls := qtr (Fr.of_or q80) q_o39_ls tq
   clear tq
   refine wF ([(Value.agg #[(eN D), (eN B), (eN Q)]), ub, (ptr gb 0), undef, (Value.pointer none), (eN 0), (ptr cb 0), (eN d), u_bs, u_ls, (eN b), (ptr xb 0), (eN p), undef, (Value.agg #[(eN D), (eN B), (eN Q)]), vT, vF, (Value.agg #[(eN D), (eN B), (eN Q)]), (Value.agg #[(eN D), (eN B), (eN Q), (Value.slice none 0 0), (Value.slice none 0 0), (eN 0), (Value.slice none 0 0), vF, (eN 0), (eN 0)]), (ptr cb 0), (eN d), (ptr gb 0), (eN D), (Value.bool (decide (d < D))), (z 24), (z 25), (eN b), (ptr gb 1), (eN B), (Value.bool (decide (b < B))), (z 30), (z 31), (Value.agg #[(Value.slice none 0 0), (eN 0), (eN 0), vF]), (eN p), (ptr gb 2), (eN Q), (Value.bool (decide (p < Q)))] ++ (zs z 37 8 ++ [u_bs, (Value.agg #[u_pg, (eN 0), (eN 0), vF]), (sli kb 0 1 1), (v63 3), u_ls, (ptr gb 2), (eN Q), (sli zb 0 Q Q), (sli lb_ 0 1 1), u75] ++ (zs z 55 20 ++ (us 38)))) ?_
   refine wI (d_assign rfl) ?_
   refine wI (d_assign rfl) ?_
   refine wF ([(Value.agg #[(eN D), (eN B), (eN Q)]), ub, (ptr gb 0), undef, (Value.pointer none), (eN 0), (ptr cb 0), (eN d), (v63 3), u75, (eN b), (ptr xb 0), (eN p), undef, (Value.agg #[(eN D), (eN B), (eN Q)]), vT, vF, (Value.agg #[(eN D), (eN B), (eN Q)]), (Value.agg #[(eN D), (eN B), (eN Q), (Value.slice none 0 0), (Value.slice none 0 0), (eN 0), (Value.slice none 0 0), vF, (eN 0), (eN 0)]), (ptr cb 0), (eN d), (ptr gb 0), (eN D), (Value.bool (decide (d < D))), (z 24), (z 25), (eN b), (ptr gb 1), (eN B), (Value.bool (decide (b < B))), (z 30), (z 31), (Value.agg #[(Value.slice none 0 0), (eN 0), (eN 0), vF]), (eN p), (ptr gb 2), (eN Q), (Value.bool (decide (p < Q)))] ++ (zs z 37 8 ++ [u_bs, (Value.agg #[u_pg, (eN 0), (eN 0), vF]), (sli kb 0 1 1), (v63 3), u_ls, (ptr gb 2), (eN Q), (sli zb 0 Q Q), (sli lb_ 0 1 1), u75] ++ (zs z 55 20 ++ (us 38)))) ?_
   refine wD ?_
   refine inb_n (tN ?_)
   refine pL ?_
   refine wI (d_move rfl) ?_
   refine wI (n_add (a := b) (b := 1) rfl rfl oo) ?_
   refine wI (d_assign rfl) ?_
   refine wD (tN ?_)
   obtain ⟨bpg, cpg, rpg, epg, eup, hApg⟩ := a38.some_ (by rw [lp]; omega)
   have gpg := (q_oB_pg bpg epg).elim (fun e => by cases e) id
   have g0_bpg := Nat.le_trans hWB gpg
   have g0_zb := g_oW_zb
   rw [hpQ] at lp hH
   refine ⟨_, ⟨b + 1, (F2.addK (d * B + b) bpg cpg zb (fun p => pgs.getD p undef)), vb ++ [u_pg], lz ++ ([zb] : List Nat), bo72, (v63 3), bo77, u75⟩, rfl, kr, ⟨?_, ?_, ?_, ?_, ?_, ?_, ?_, ?_, ?_, ?_, ?_, ?_, ?_, ?_, ?_, ?_, ?_, ?_, ?_⟩, ?_⟩
   ·
    (try dsimp only)
    all_goals (omega)
   ·
    exact hE
   ·
    exact NewM.addK hI2 gpg g_oB_zb hWB hApg.lt a68.lt
   ·
    (try dsimp only)
    all_goals (rw [List.length_append, lvb]; rfl)
   ·
    exact vb_snoc hvb lvb (eup.trans (by rw [lp]))
   ·
    (try dsimp only)
    all_goals (rw [List.length_append, llz]; rfl)
   ·
    exact lz_snoc hlz llz
   ·
    exact newF_addK rfl hF2 (xx_skip (xx_skip (xx_skip (xx_skip (xx_orq (xx_orq (xx_orq (xx_orq (xx_or1 (xx_or1 xx_id)))))))))) hApg lp a68 (nx_orq (fun x hx e => nqq_ls_pg x hx (e ▸ epg)) (nx_orq (fun x hx e => nqq_bs_pg x hx (e ▸ epg)) (nx_orq (fun x hx e => nqq_uV_pg x hx (e ▸ epg)) (nx_orq (fun x hx e => nqq_uB_pg x hx (e ▸ epg)) (nx_or1 (fun e => nq_pg_cb _ epg e.symm) (nx_or1 (fun e => nq_pg_gb _ epg e.symm) (old_ne g0_bpg))))))) (nx_orq nq_ls_zb (nx_orq nq_bs_zb (nx_orq nq_uV_zb (nx_orq nq_uB_zb (nx_or1 n_cb_zb (nx_or1 n_gb_zb (old_ne g0_zb)))))))
   ·
    (try dsimp only)
    all_goals (exact newP_addK hG2 (by intro j _ h; simp only [Or1, Orq] at h ⊢; have h2 := nfB_addK (F := F2) (nd := d) (k := (d * B + b)) (n0 := W.heap.size) (j := j) (p := bpg) (c := cpg) (z := zb) (v := (fun p => pgs.getD p undef)); grind) hH (by intro j _ h; simp only [Or1, Orq, Old] at h ⊢; have h2 := nfB_addK (F := F2) (nd := d) (k := (d * B + b)) (n0 := W.heap.size) (j := j) (p := bpg) (c := cpg) (z := zb) (v := (fun p => pgs.getD p undef)); have h3 := nfB_lt (F := F2) (nd := d) (nk := (d * B + b)) (n0 := W.heap.size) (n1 := w29.heap.size) (j := j) hI2 hWB; grind))
   ·
    exact o28
   ·
    exact a13
   ·
    exact a19
   ·
    exact a21
   ·
    exact a22
   ·
    exact a73
   ·
    exact q_o28_bs
   ·
    exact a78
   ·
    exact q_o28_ls
   ·
    exact nqq_bs_ls
   ·
    (try dsimp only)
    all_goals (omega)
  refine wpIn_exit ?_
  refine then_x (then_x (inb_e ?_))
  refine tN ?_
  have hbB : b = B := by omega
  refine wp_eq (l' := ([(Value.agg #[(eN D), (eN B), (eN Q)]), ub, (ptr gb 0), undef, (Value.pointer none), (eN 0), (ptr cb 0), (eN d), u_bs, u_ls, (eN b), (z 11), (z 12), undef, (Value.agg #[(eN D), (eN B), (eN Q)]), vT, vF, (Value.agg #[(eN D), (eN B), (eN Q)]), (Value.agg #[(eN D), (eN B), (eN Q), (Value.slice none 0 0), (Value.slice none 0 0), (eN 0), (Value.slice none 0 0), vF, (eN 0), (eN 0)]), (ptr cb 0), (eN d), (ptr gb 0), (eN D), (Value.bool (decide (d < D))), (z 24), (z 25), (eN b), (ptr gb 1), (eN B), (Value.bool (decide (b < B)))] ++ (zs z 30 45 ++ (us 38)))) rfl ?_
  have hX0_ : ∀ k, (Orq bo_ls (Orq bo_bs (Orq bo_uV (Orq bo_uB (Or1 cb (Or1 gb (Old W.heap.size))))))) k → k < w29.heap.size := (lt_orq a27.lts (lt_orq a26.lts (lt_orq a22.lts (lt_orq a21.lts (lt_or1 a19.lt (lt_or1 a13.lt (fun k t => Nat.lt_of_lt_of_le t oW.size)))))))
  have hO0_ : ∀ k, (Orq bo_ls (Orq bo_bs (Orq bo_uV (Orq bo_uB (Or1 cb (Or1 gb No)))))) k → k < w29.heap.size := fun k h => hX0_ k ((orq_mono (orq_mono (orq_mono (orq_mono (or1_mono (or1_mono no_any)))))) k h)
  refine drawnF (O := (Orq bo_ls (Orq bo_bs (Orq bo_uV (Orq bo_uB (Or1 cb (Or1 gb No))))))) (n := 22) [0, 1] [15, 16, 17, 18, 19, 20, 21] (fun i_ => nth [(ptr cb 0), (ptr cb 0)] i_) 15 [0, 0, 0, 4, 12, 28, 0, 64, 252, 0, 512, 1536, 3584, 0, 8192, 32764, 65533, 131069, 262141, 524287, 1048575, 2097151] [(0, 55), (1, 56), (2, 57), (3, 58), (4, 59), (5, 60), (6, 61), (7, 62), (8, 63), (9, 64), (10, 65), (11, 66), (12, 67), (13, 68), (14, 69), (15, 70), (16, 71), (17, 72), (19, 73), (20, 74)] [(0, 55), (1, 56), (2, 57), (3, 58), (4, 59), (5, 60), (6, 61), (7, 62), (8, 63), (9, 64), (10, 65), (11, 66), (12, 67), (13, 68), (14, 69)] [0, 1, 2, 3, 4, 5, 6, 7, 9, 10, 11, 12, 13, 14] [8] (fun i_ => ([RF.is (Orq bo_ls (Orq bo_bs (Orq bo_uV (Orq bo_uB (Or1 cb (Or1 gb No)))))) (ptr cb 0), RF.is (Orq bo_ls (Orq bo_bs (Orq bo_uV (Orq bo_uB (Or1 cb (Or1 gb No)))))) (ptr cb 0), RF.is (Orq bo_ls (Orq bo_bs (Orq bo_uV (Orq bo_uB (Or1 cb (Or1 gb No)))))) (ptr cb 0), RF.is (Orq bo_ls (Orq bo_bs (Orq bo_uV (Orq bo_uB (Or1 cb (Or1 gb No)))))) (ptr cb 0), RF.is (Orq bo_ls (Orq bo_bs (Orq bo_uV (Orq bo_uB (Or1 cb (Or1 gb No)))))) (ptr cb 3), RF.is (Orq bo_ls (Orq bo_bs (Orq bo_uV (Orq bo_uB (Or1 cb (Or1 gb No)))))) u_uB, RF.is (Orq bo_ls (Orq bo_bs (Orq bo_uV (Orq bo_uB (Or1 cb (Or1 gb No)))))) u_bs, RF.mk_ (Orq bo_ls (Orq bo_bs (Orq bo_uV (Orq bo_uB (Or1 cb (Or1 gb No)))))) (fun b_ => (sli b_ 0 1 1)) 82 [u_bs] w29.heap.size hO0_, RF.gr (Orq bo_ls (Orq bo_bs (Orq bo_uV (Orq bo_uB (Or1 cb (Or1 gb No)))))) 82 1 bo_uB (vB ++ [u_bs]).length ((vB ++ [u_bs]).map eV) w29.heap.size, RF.is (Orq bo_ls (Orq bo_bs (Orq bo_uV (Orq bo_uB (Or1 cb (Or1 gb No)))))) (ptr cb 0), RF.is (Orq bo_ls (Orq bo_bs (Orq bo_uV (Orq bo_uB (Or1 cb (Or1 gb No)))))) (ptr cb 0), RF.is (Orq bo_ls (Orq bo_bs (Orq bo_uV (Orq bo_uB (Or1 cb (Or1 gb No)))))) (ptr cb 4), RF.is (Orq bo_ls (Orq bo_bs (Orq bo_uV (Orq bo_uB (Or1 cb (Or1 gb No)))))) u_uV, RF.is (Orq bo_ls (Orq bo_bs (Orq bo_uV (Orq bo_uB (Or1 cb (Or1 gb No)))))) u_ls, RF.mk_ (Orq bo_ls (Orq bo_bs (Orq bo_uV (Orq bo_uB (Or1 cb (Or1 gb No)))))) (fun b_ => (sli b_ 0 1 1)) 83 [u_ls] w29.heap.size hO0_] : List (RF (Orq bo_ls (Orq bo_bs (Orq bo_uV (Orq bo_uB (Or1 cb (Or1 gb No)))))))).getD i_ (RF.any (Orq bo_ls (Orq bo_bs (Orq bo_uV (Orq bo_uB (Or1 cb (Or1 gb No)))))))) (fun k_ w_ => match k_ with | 0 => Arr 23 gb [(eN D), (eN B), (eN Q)] w_ ∧ Arr 81 cb [(eN D), (eN B), (eN Q), u_uB, u_uV, (eN 0), (Value.slice none 0 0), vF, (eN 0), (eN 0)] w_ ∧ Ow 82 1 bo_uB u_uB (vB).length ((vB).map eV) w_ ∧ Ow 83 1 bo_uV u_uV (vV).length ((vV).map eV) w_ ∧ Ow 85 4 bo_bs u_bs (vb).length ((vb).flatMap eR) w_ ∧ Ow 67 1 bo_ls u_ls (lz).length ((lz).map (eK Q)) w_ | _ => Arr 23 gb [(eN D), (eN B), (eN Q)] w_ ∧ Arr 81 cb [(eN D), (eN B), (eN Q), u_uB, u_uV, (eN 0), (Value.slice none 0 0), vF, (eN 0), (eN 0)] w_ ∧ True ∧ Ow 83 1 bo_uV u_uV (vV).length ((vV).map eV) w_ ∧ Ow 85 4 bo_bs u_bs (vb).length ((vb).flatMap eR) w_ ∧ Ow 67 1 bo_ls u_ls (lz).length ((lz).map (eK Q)) w_) (fun v81 => ([(Value.agg #[(eN D), (eN B), (eN Q)]), ub, (ptr gb 0), undef, (Value.pointer none), (eN 0), (ptr cb 0), (eN d), u_bs, u_ls, (eN b), (z 11), (z 12), undef, (Value.agg #[(eN D), (eN B), (eN Q)]), vT, vF, (Value.agg #[(eN D), (eN B), (eN Q)]), (Value.agg #[(eN D), (eN B), (eN Q), (Value.slice none 0 0), (Value.slice none 0 0), (eN 0), (Value.slice none 0 0), vF, (eN 0), (eN 0)]), (ptr cb 0), (eN d), (ptr gb 0), (eN D), (Value.bool (decide (d < D))), (z 24), (z 25), (eN b), (ptr gb 1), (eN B), (Value.bool (decide (b < B)))] ++ (zs z 30 25 ++ [(v81 0), (v81 1), (v81 2), (v81 3), (v81 4), (v81 5), (v81 6), (v81 7), (v81 8), (v81 9), (v81 10), (v81 11), (v81 12), (v81 13), (v81 14), (v81 15), (v81 16), (v81 17), (v81 19), (v81 20)] ++ (us 38)))) (fun v81 => ([(Value.agg #[(eN D), (eN B), (eN Q)]), ub, (ptr gb 0), undef, (Value.pointer none), (eN 0), (ptr cb 0), (eN d), u_bs, u_ls, (eN b), (z 11), (z 12), undef, (Value.agg #[(eN D), (eN B), (eN Q)]), vT, vF, (Value.agg #[(eN D), (eN B), (eN Q)]), (Value.agg #[(eN D), (eN B), (eN Q), (Value.slice none 0 0), (Value.slice none 0 0), (eN 0), (Value.slice none 0 0), vF, (eN 0), (eN 0)]), (ptr cb 0), (eN d), (ptr gb 0), (eN D), (Value.bool (decide (d < D))), (z 24), (z 25), (eN b), (ptr gb 1), (eN B), (Value.bool (decide (b < B)))] ++ (zs z 30 25 ++ [(v81 0), (v81 1), (v81 2), (v81 3), (v81 4), (v81 5), (v81 6), (v81 7), (v81 8), (v81 9), (v81 10), (v81 11), (v81 12), (v81 13), (v81 14)] ++ (zs z 70 5 ++ (us 38))))) s_mx kr rfl (by decide) (by rfl) kr kr kr kr (fun l2_ w_ hl_ hn_ => fl_cons (fl_move (t := 6) hn_ kr (by rfl) (by rfl)) (fl_cons (fl_move (t := 6) hn_ kr (by rfl) (by rfl)) (fl_nil))) (fl_cons (by rfl) (fl_cons (by rfl) (fl_nil))) kr kr (by rfl) (fun v_ => by kernel_rfl) (fun v_ => by kernel_rfl) (fun k_ => match k_ with | 0 => fun w_ w2_ h ho => by obtain ⟨r_a13, r_a19, r_a21, r_a22, r_a26, r_a27⟩ := h; exact ⟨r_a13.step0 ho, r_a19.step0 ho, r_a21.step0 ho, r_a22.step0 ho, r_a26.step0 ho, r_a27.step0 ho⟩ | (_ + 1) => fun w_ w2_ h ho => by obtain ⟨r_a13, r_a19, r_a21, r_a22, r_a26, r_a27⟩ := h; exact ⟨r_a13.step0 ho, r_a19.step0 ho, trivial, r_a22.step0 ho, r_a26.step0 ho, r_a27.step0 ho⟩) ⟨a13, a19, a21, a22, a26, a27⟩ ?_ ?_ ?_
  ·
   refine ls_cons ?_ ?_
   ·
    intro v81 lo hi w_ k_ hO hd _ _ hk_ _ hR hold
    obtain ⟨r_a13, r_a19, r_a21, r_a22, r_a26, r_a27⟩ := (show Arr 23 gb [(eN D), (eN B), (eN Q)] w_ ∧ Arr 81 cb [(eN D), (eN B), (eN Q), u_uB, u_uV, (eN 0), (Value.slice none 0 0), vF, (eN 0), (eN 0)] w_ ∧ True ∧ Ow 83 1 bo_uV u_uV (vV).length ((vV).map eV) w_ ∧ Ow 85 4 bo_bs u_bs (vb).length ((vb).flatMap eR) w_ ∧ Ow 67 1 bo_ls u_ls (lz).length ((lz).map (eK Q)) w_ from by match k_, hR with | 0, h_ => exact (by obtain ⟨r_a13, r_a19, r_a21, r_a22, r_a26, r_a27⟩ := h_; exact ⟨r_a13, r_a19, trivial, r_a22, r_a26, r_a27⟩) | (_ + 1), h_ => exact h_)
    clear hd hold
    refine ⟨_, rfl, gd rfl ?_⟩
    exact Does.is (d_move rfl)
   refine ls_cons ?_ ?_
   ·
    intro v81 lo hi w_ k_ hO hd _ _ hk_ _ hR hold
    obtain ⟨r_a13, r_a19, r_a21, r_a22, r_a26, r_a27⟩ := (show Arr 23 gb [(eN D), (eN B), (eN Q)] w_ ∧ Arr 81 cb [(eN D), (eN B), (eN Q), u_uB, u_uV, (eN 0), (Value.slice none 0 0), vF, (eN 0), (eN 0)] w_ ∧ True ∧ Ow 83 1 bo_uV u_uV (vV).length ((vV).map eV) w_ ∧ Ow 85 4 bo_bs u_bs (vb).length ((vb).flatMap eR) w_ ∧ Ow 67 1 bo_ls u_ls (lz).length ((lz).map (eK Q)) w_ from by match k_, hR with | 0, h_ => exact (by obtain ⟨r_a13, r_a19, r_a21, r_a22, r_a26, r_a27⟩ := h_; exact ⟨r_a13, r_a19, trivial, r_a22, r_a26, r_a27⟩) | (_ + 1), h_ => exact h_)
    clear hd hold
    refine ⟨_, rfl, gd rfl ?_⟩
    exact Does.is (d_move rfl)
   refine ls_cons ?_ ?_
   ·
    intro v81 lo hi w_ k_ hO hd _ _ hk_ _ hR hold
    obtain rfl : k_ = 0 := Nat.le_zero.1 (hk_ 0 (by decide) kr)
    obtain ⟨r_a13, r_a19, r_a21, r_a22, r_a26, r_a27⟩ := hR
    clear hd hold
    refine ⟨_, rfl, gd rfl ?_⟩
    exact Does.is (d_move rfl)
   refine ls_cons ?_ ?_
   ·
    intro v81 lo hi w_ k_ hO hd _ _ hk_ _ hR hold
    obtain rfl : k_ = 0 := Nat.le_zero.1 (hk_ 0 (by decide) kr)
    obtain ⟨r_a13, r_a19, r_a21, r_a22, r_a26, r_a27⟩ := hR
    have e2 : v81 2 = (ptr cb 0) := hd 2 kr
    clear hd hold
    refine ⟨_, rfl, gd rfl ?_⟩
    exact Does.is (d_nilCheck (b := cb) (o := 0) e2)
   refine ls_cons ?_ ?_
   ·
    intro v81 lo hi w_ k_ hO hd _ _ hk_ _ hR hold
    obtain rfl : k_ = 0 := Nat.le_zero.1 (hk_ 0 (by decide) kr)
    obtain ⟨r_a13, r_a19, r_a21, r_a22, r_a26, r_a27⟩ := hR
    have e3 : v81 3 = (ptr cb 0) := hd 3 kr
    clear hd hold
    refine ⟨_, rfl, gd rfl ?_⟩
    exact Does.is (d_fieldAddr (j := 3) Try.underlying81 rfl s_ti78 (by decide) e3 rfl)
   refine ls_cons ?_ ?_
   ·
    intro v81 lo hi w_ k_ hO hd _ _ hk_ _ hR hold
    obtain rfl : k_ = 0 := Nat.le_zero.1 (hk_ 0 (by decide) kr)
    obtain ⟨r_a13, r_a19, r_a21, r_a22, r_a26, r_a27⟩ := hR
    have e4 : v81 4 = (ptr cb 3) := hd 4 kr
    clear hd hold
    refine ⟨_, rfl, gd rfl ?_⟩
    exact Does.is (d_load (v := u_uB) ⟨_, Try.underlying78, rfl⟩ e4 r_a19 rfl)
   refine ls_cons ?_ ?_
   ·
    intro v81 lo hi w_ k_ hO hd _ _ hk_ _ hR hold
    obtain rfl : k_ = 0 := Nat.le_zero.1 (hk_ 0 (by decide) kr)
    obtain ⟨r_a13, r_a19, r_a21, r_a22, r_a26, r_a27⟩ := hR
    clear hd hold
    refine ⟨_, rfl, gd rfl ?_⟩
    exact Does.is (d_move rfl)
   refine ls_cons ?_ ?_
   ·
    intro v81 lo hi w_ k_ hO hd _ _ hk_ _ hR hold
    obtain rfl : k_ = 0 := Nat.le_zero.1 (hk_ 0 (by decide) kr)
    obtain ⟨r_a13, r_a19, r_a21, r_a22, r_a26, r_a27⟩ := hR
    have e6 : v81 6 = u_bs := hd 6 kr
    clear hd hold
    refine ⟨_, rfl, gd rfl ?_⟩
    refine Does.mono (d_buildL (cs := [u_bs]) Try.underlying78 s_ti82 rfl (nb rfl) (parts_cons (vs := [u_bs]) (cells_of (v := u_bs) e6 (Ow.cells r_a26)) parts_nil) rfl) (fun u w' h => by obtain ⟨b_, rfl, hb_, hA_, hO_⟩ := h; exact ⟨⟨b_, rfl, hA_, Nat.le_trans hO.size hb_⟩, hO_⟩)
   refine ls_cons ?_ ?_
   ·
    intro v81 lo hi w_ k_ hO hd _ _ hk_ _ hR hold
    obtain ⟨r_a13, r_a19, r_a21, r_a22, r_a26, r_a27⟩ := (show Arr 23 gb [(eN D), (eN B), (eN Q)] w_ ∧ Arr 81 cb [(eN D), (eN B), (eN Q), u_uB, u_uV, (eN 0), (Value.slice none 0 0), vF, (eN 0), (eN 0)] w_ ∧ True ∧ Ow 83 1 bo_uV u_uV (vV).length ((vV).map eV) w_ ∧ Ow 85 4 bo_bs u_bs (vb).length ((vb).flatMap eR) w_ ∧ Ow 67 1 bo_ls u_ls (lz).length ((lz).map (eK Q)) w_ from by match k_, hR with | 0, h_ => exact (by obtain ⟨r_a13, r_a19, r_a21, r_a22, r_a26, r_a27⟩ := h_; exact ⟨r_a13, r_a19, trivial, r_a22, r_a26, r_a27⟩) | (_ + 1), h_ => exact h_)
    clear hd hold
    refine ⟨_, rfl, gd rfl ?_⟩
    exact Does.is (d_move rfl)
   refine ls_cons ?_ ?_
   ·
    intro v81 lo hi w_ k_ hO hd _ _ hk_ _ hR hold
    obtain ⟨r_a13, r_a19, r_a21, r_a22, r_a26, r_a27⟩ := (show Arr 23 gb [(eN D), (eN B), (eN Q)] w_ ∧ Arr 81 cb [(eN D), (eN B), (eN Q), u_uB, u_uV, (eN 0), (Value.slice none 0 0), vF, (eN 0), (eN 0)] w_ ∧ True ∧ Ow 83 1 bo_uV u_uV (vV).length ((vV).map eV) w_ ∧ Ow 85 4 bo_bs u_bs (vb).length ((vb).flatMap eR) w_ ∧ Ow 67 1 bo_ls u_ls (lz).length ((lz).map (eK Q)) w_ from by match k_, hR with | 0, h_ => exact (by obtain ⟨r_a13, r_a19, r_a21, r_a22, r_a26, r_a27⟩ := h_; exact ⟨r_a13, r_a19, trivial, r_a22, r_a26, r_a27⟩) | (_ + 1), h_ => exact h_)
    have e9 : v81 9 = (ptr cb 0) := hd 9 kr
    clear hd hold
    refine ⟨_, rfl, gd rfl ?_⟩
    exact Does.is (d_nilCheck (b := cb) (o := 0) e9)
   refine ls_cons ?_ ?_
   ·
    intro v81 lo hi w_ k_ hO hd _ _ hk_ _ hR hold
    obtain ⟨r_a13, r_a19, r_a21, r_a22, r_a26, r_a27⟩ := (show Arr 23 gb [(eN D), (eN B), (eN Q)] w_ ∧ Arr 81 cb [(eN D), (eN B), (eN Q), u_uB, u_uV, (eN 0), (Value.slice none 0 0), vF, (eN 0), (eN 0)] w_ ∧ True ∧ Ow 83 1 bo_uV u_uV (vV).length ((vV).map eV) w_ ∧ Ow 85 4 bo_bs u_bs (vb).length ((vb).flatMap eR) w_ ∧ Ow 67 1 bo_ls u_ls (lz).length ((lz).map (eK Q)) w_ from by match k_, hR with | 0, h_ => exact (by obtain ⟨r_a13, r_a19, r_a21, r_a22, r_a26, r_a27⟩ := h_; exact ⟨r_a13, r_a19, trivial, r_a22, r_a26, r_a27⟩) | (_ + 1), h_ => exact h_)
    have e10 : v81 10 = (ptr cb 0) := hd 10 kr
    clear hd hold
    refine ⟨_, rfl, gd rfl ?_⟩
    exact Does.is (d_fieldAddr (j := 4) Try.underlying81 rfl s_ti79 (by decide) e10 rfl)
   refine ls_cons ?_ ?_
   ·
    intro v81 lo hi w_ k_ hO hd _ _ hk_ _ hR hold
    obtain ⟨r_a13, r_a19, r_a21, r_a22, r_a26, r_a27⟩ := (show Arr 23 gb [(eN D), (eN B), (eN Q)] w_ ∧ Arr 81 cb [(eN D), (eN B), (eN Q), u_uB, u_uV, (eN 0), (Value.slice none 0 0), vF, (eN 0), (eN 0)] w_ ∧ True ∧ Ow 83 1 bo_uV u_uV (vV).length ((vV).map eV) w_ ∧ Ow 85 4 bo_bs u_bs (vb).length ((vb).flatMap eR) w_ ∧ Ow 67 1 bo_ls u_ls (lz).length ((lz).map (eK Q)) w_ from by match k_, hR with | 0, h_ => exact (by obtain ⟨r_a13, r_a19, r_a21, r_a22, r_a26, r_a27⟩ := h_; exact ⟨r_a13, r_a19, trivial, r_a22, r_a26, r_a27⟩) | (_ + 1), h_ => exact h_)
    have e11 : v81 11 = (ptr cb 4) := hd 11 kr
    clear hd hold
    refine ⟨_, rfl, gd rfl ?_⟩
    exact Does.is (d_load (v := u_uV) ⟨_, Try.underlying79, rfl⟩ e11 r_a19 rfl)
   refine ls_cons ?_ ?_
   ·
    intro v81 lo hi w_ k_ hO hd _ _ hk_ _ hR hold
    obtain ⟨r_a13, r_a19, r_a21, r_a22, r_a26, r_a27⟩ := (show Arr 23 gb [(eN D), (eN B), (eN Q)] w_ ∧ Arr 81 cb [(eN D), (eN B), (eN Q), u_uB, u_uV, (eN 0), (Value.slice none 0 0), vF, (eN 0), (eN 0)] w_ ∧ True ∧ Ow 83 1 bo_uV u_uV (vV).length ((vV).map eV) w_ ∧ Ow 85 4 bo_bs u_bs (vb).length ((vb).flatMap eR) w_ ∧ Ow 67 1 bo_ls u_ls (lz).length ((lz).map (eK Q)) w_ from by match k_, hR with | 0, h_ => exact (by obtain ⟨r_a13, r_a19, r_a21, r_a22, r_a26, r_a27⟩ := h_; exact ⟨r_a13, r_a19, trivial, r_a22, r_a26, r_a27⟩) | (_ + 1), h_ => exact h_)
    clear hd hold
    refine ⟨_, rfl, gd rfl ?_⟩
    exact Does.is (d_move rfl)
   refine ls_cons ?_ ?_
   ·
    intro v81 lo hi w_ k_ hO hd _ _ hk_ _ hR hold
    obtain ⟨r_a13, r_a19, r_a21, r_a22, r_a26, r_a27⟩ := (show Arr 23 gb [(eN D), (eN B), (eN Q)] w_ ∧ Arr 81 cb [(eN D), (eN B), (eN Q), u_uB, u_uV, (eN 0), (Value.slice none 0 0), vF, (eN 0), (eN 0)] w_ ∧ True ∧ Ow 83 1 bo_uV u_uV (vV).length ((vV).map eV) w_ ∧ Ow 85 4 bo_bs u_bs (vb).length ((vb).flatMap eR) w_ ∧ Ow 67 1 bo_ls u_ls (lz).length ((lz).map (eK Q)) w_ from by match k_, hR with | 0, h_ => exact (by obtain ⟨r_a13, r_a19, r_a21, r_a22, r_a26, r_a27⟩ := h_; exact ⟨r_a13, r_a19, trivial, r_a22, r_a26, r_a27⟩) | (_ + 1), h_ => exact h_)
    have e13 : v81 13 = u_ls := hd 13 kr
    clear hd hold
    refine ⟨_, rfl, gd rfl ?_⟩
    refine Does.mono (d_buildL (cs := [u_ls]) Try.underlying79 s_ti83 rfl (nb rfl) (parts_cons (vs := [u_ls]) (cells_of (v := u_ls) e13 (Ow.cells r_a27)) parts_nil) rfl) (fun u w' h => by obtain ⟨b_, rfl, hb_, hA_, hO_⟩ := h; exact ⟨⟨b_, rfl, hA_, Nat.le_trans hO.size hb_⟩, hO_⟩)
   exact ls_nil
  ·
   refine ms_one ?_
   ·
    refine ⟨by kernel_rfl, ?_⟩
    intro v81 lo hi w_ hO hd _ hR hold
    obtain ⟨r_a13, r_a19, r_a21, r_a22, r_a26, r_a27⟩ := hR
    have e5 : v81 5 = u_uB := hd 5 kr
    obtain ⟨mb7, me7, ma7, mf7⟩ : ∃ b_, v81 7 = (fun b_ => (sli b_ 0 1 1)) b_ ∧ Arr 82 b_ [u_bs] w_ ∧ w29.heap.size ≤ b_ := hd 7 kr
    clear hd hold
    refine ⟨_, rfl, gd rfl ?_⟩
    refine Does.mono (d_append Try.underlying78 Try.underlying78 s_ti82 rfl e5 me7 r_a21 (SrcV.of_arr (n := 1) (sz := 1) ma7 rfl (fun v_ hv_ => by rw [List.mem_singleton.1 (show v_ ∈ [u_bs] from hv_)]; exact (Ow.one r_a26))) (by first | omega | (rw [lU]; omega) | (simp; omega) | (rw [lU]; simp; omega)) (by first | omega | (rw [lU]; omega) | (simp; omega) | (rw [lU]; simp; omega)) rfl) (fun u w' h => by obtain ⟨bo_, h1_, h2_, h3_⟩ := h; exact ⟨⟨bo_, (by rw [List.length_append, List.map_append]; exact h1_ : Ow 82 1 bo_ u (vB ++ [u_bs]).length ((vB ++ [u_bs]).map eV) w'), qtr2 (Fr.of_or h3_) Fr.same hO.size⟩, ⟨r_a13.step h2_ (fun e => nq_uB_gb _ e rfl), r_a19.step h2_ (fun e => nq_uB_cb _ e rfl), trivial, r_a22.step h2_ (fun x hx e => nqq_uB_uV x e hx), r_a26.step h2_ (fun x hx e => nqq_uB_bs x e hx), r_a27.step h2_ (fun x hx e => nqq_uB_ls x e hx)⟩, h2_.mono (fun k _ (e : bo_uB = some k) => (.inr (.inr (.inr (.inl e)))))⟩)
  intro v81 lo_ hi_ w82 o83 hd hR
  have e0 : v81 0 = (ptr cb 0) := hd 0 (by decide)
  have e1 : v81 1 = (ptr cb 0) := hd 1 (by decide)
  have e2 : v81 2 = (ptr cb 0) := hd 2 (by decide)
  have e3 : v81 3 = (ptr cb 0) := hd 3 (by decide)
  have e4 : v81 4 = (ptr cb 3) := hd 4 (by decide)
  have e5 : v81 5 = u_uB := hd 5 (by decide)
  have e6 : v81 6 = u_bs := hd 6 (by decide)
  have e9 : v81 9 = (ptr cb 0) := hd 9 (by decide)
  have e10 : v81 10 = (ptr cb 0) := hd 10 (by decide)
  have e11 : v81 11 = (ptr cb 4) := hd 11 (by decide)
  have e12 : v81 12 = u_uV := hd 12 (by decide)
  have e13 : v81 13 = u_ls := hd 13 (by decide)
  obtain ⟨nb_, e7, a84, g85⟩ : ∃ b_, v81 7 = (fun b_ => (sli b_ 0 1 1)) b_ ∧ Arr 82 b_ [u_bs] w82 ∧ w29.heap.size ≤ b_ := hd 7 (by decide)
  dsimp only at e7
  obtain ⟨mb_, e14, a86, g87⟩ : ∃ b_, v81 14 = (fun b_ => (sli b_ 0 1 1)) b_ ∧ Arr 83 b_ [u_ls] w82 ∧ w29.heap.size ≤ b_ := hd 14 (by decide)
  dsimp only at e14
  have n_gb_mb_ : gb ≠ mb_ := a13.ne g87
  have n_cb_mb_ : cb ≠ mb_ := a19.ne g87
  have nq_uB_mb_ : ∀ x, bo_uB = some x → ¬ x = mb_ := fun x hx e => by have := a21.lts x hx; omega
  have nq_uV_mb_ : ∀ x, bo_uV = some x → ¬ x = mb_ := fun x hx e => by have := a22.lts x hx; omega
  have nq_bs_mb_ : ∀ x, bo_bs = some x → ¬ x = mb_ := fun x hx e => by have := a26.lts x hx; omega
  have nq_ls_mb_ : ∀ x, bo_ls = some x → ¬ x = mb_ := fun x hx e => by have := a27.lts x hx; omega
  have g_oW_mb_ : W.heap.size ≤ mb_ := Nat.le_trans oW.size g87
  have g_o23_mb_ : w17.heap.size ≤ mb_ := Nat.le_trans o23.size g87
  have g_oD_mb_ : w24.heap.size ≤ mb_ := Nat.le_trans oD.size g87
  have g_o28_mb_ : w24.heap.size ≤ mb_ := Nat.le_trans o28.size g87
  have g_oB_mb_ : w29.heap.size ≤ mb_ := Nat.le_trans oB.size g87
  obtain ⟨bo88, a89, q90⟩ : ∃ bo_, Ow 82 1 bo_ (v81 8) (vB ++ [u_bs]).length ((vB ++ [u_bs]).map eV) w82 ∧ Fr bo_ bo_uB w29.heap.size := hd 8 (by decide)
  replace nq_uB_gb := nqs nq_uB_gb q90 a13.lt
  replace nq_uB_cb := nqs nq_uB_cb q90 a19.lt
  replace nq_uB_mb_ := ow_ne a89 a86 (by decide)
  replace nqq_uB_uV := fun x h1 h2 => nqq_step (fun x h1 h2 => nqq_uB_uV x h2 h1) q90 a22.lts x h2 h1
  replace nqq_uB_bs := fun x h1 h2 => nqq_step (fun x h1 h2 => nqq_uB_bs x h2 h1) q90 a26.lts x h2 h1
  replace nqq_uB_ls := fun x h1 h2 => nqq_step (fun x h1 h2 => nqq_uB_ls x h2 h1) q90 a27.lts x h2 h1
  clear hd lo_ hi_
  refine wS.flat ([(Value.agg #[(eN D), (eN B), (eN Q)]), ub, (ptr gb 0), undef, (Value.pointer none), (eN 0), (ptr cb 0), (eN d), u_bs, u_ls, (eN b), (z 11), (z 12), undef, (Value.agg #[(eN D), (eN B), (eN Q)]), vT, vF, (Value.agg #[(eN D), (eN B), (eN Q)]), (Value.agg #[(eN D), (eN B), (eN Q), (Value.slice none 0 0), (Value.slice none 0 0), (eN 0), (Value.slice none 0 0), vF, (eN 0), (eN 0)]), (ptr cb 0), (eN d), (ptr gb 0), (eN D), (Value.bool (decide (d < D))), (z 24), (z 25), (eN b), (ptr gb 1), (eN B), (Value.bool (decide (b < B)))] ++ (zs z 30 25 ++ [(ptr cb 0), (ptr cb 0), (ptr cb 0), (ptr cb 0), (ptr cb 3), u_uB, u_bs, (sli nb_ 0 1 1), (v81 8), (ptr cb 0), (ptr cb 0), (ptr cb 4), u_uV, u_ls, (sli mb_ 0 1 1)] ++ (zs z 70 5 ++ (us 38)))) (by rw [e0, e1, e2, e3, e4, e5, e6, e9, e10, e11, e12, e13, e7, e14] <;> rfl) ?_
  clear e0 e1 e2 e3 e4 e5 e6 e9 e10 e11 e12 e13 e7 e14
  replace hF2 : Ps (Or1 mb_ (Orq bo_ls (Orq bo_bs (Orq bo_uV (Orq bo88 (Or1 cb (Or1 gb (Old W.heap.size)))))))) _ w82 := (((hF2.less (Y := Orq bo88 (Orq bo_ls (Orq bo_bs (Orq bo_uV (Orq bo_uB (Or1 cb (Or1 gb (Old W.heap.size)))))))) (xx_fr q90 (fun k e => (.inr (.inr (.inr (.inl e))))))).less (Y := (Or1 mb_ (Orq bo88 (Orq bo_ls (Orq bo_bs (Orq bo_uV (Orq bo_uB (Or1 cb (Or1 gb (Old W.heap.size)))))))))) (xx_new g87 xx_id)).step o83 (or1_skip (orq_skip (orq_mono (orq_mono (orq_mono (orq_mono (or1_mono (or1_mono no_any))))))))).less (xs_end (xs_mk' (xs_q (xs_q (xs_q (xs_row xs_id))))))
  replace hG2 : Ps (Or1 mb_ (Orq bo_ls (Orq bo_bs (Orq bo_uV (Orq bo88 (Or1 cb (Or1 gb (NF.B F2 d (d * B + b) W.heap.size)))))))) _ w82 := (((hG2.less (Y := Orq bo88 (Orq bo_ls (Orq bo_bs (Orq bo_uV (Orq bo_uB (Or1 cb (Or1 gb (NF.B F2 d (d * B + b) W.heap.size)))))))) (xx_fr q90 (fun k e => (.inr (.inr (.inr (.inl e))))))).less (Y := (Or1 mb_ (Orq bo88 (Orq bo_ls (Orq bo_bs (Orq bo_uV (Orq bo_uB (Or1 cb (Or1 gb (NF.B F2 d (d * B + b) W.heap.size)))))))))) (xx_new g87 xx_id)).step o83 (or1_skip (orq_skip (orq_mono (orq_mono (orq_mono (orq_mono (or1_mono (or1_mono no_any))))))))).less (xs_end (xs_mk' (xs_q (xs_q (xs_q (xs_row xs_id))))))
  obtain ⟨xr_a13, xr_a19, xr_a21, xr_a22, xr_a26, xr_a27⟩ := hR
  replace a13 : Arr 23 gb [(eN D), (eN B), (eN Q)] w82 := xr_a13
  replace a19 : Arr 81 cb [(eN D), (eN B), (eN Q), u_uB, u_uV, (eN 0), (Value.slice none 0 0), vF, (eN 0), (eN 0)] w82 := xr_a19
  replace a22 : Ow 83 1 bo_uV u_uV (vV).length ((vV).map eV) w82 := xr_a22
  replace a26 : Ow 85 4 bo_bs u_bs (vb).length ((vb).flatMap eR) w82 := xr_a26
  replace a27 : Ow 67 1 bo_ls u_ls (lz).length ((lz).map (eK Q)) w82 := xr_a27
  clear xr_a13 xr_a19 xr_a21 xr_a22 xr_a26 xr_a27
  have tq_ := oW.size
  replace oW := oW.tail o83 (tl_q q_oW_ls (fun _ e => by cases e) (tl_q q_oW_bs (fun _ e => by cases e) (tl_q q_oW_uV (fun _ e => by cases e) (tl_q q_oW_uB (fun _ e => by cases e) (tl_new g_oW_cb (tl_new g_oW_gb tl_no))))))
  replace q_oW_uB := qtr q90 q_oW_uB tq_
  clear tq_
  have tq_ := o23.size
  replace o23 := o23.tail o83 (tl_q q_o23_ls (fun _ e => by cases e) (tl_q q_o23_bs (fun _ e => by cases e) (tl_q q_o23_uV (fun k e => (.inl e)) (tl_q q_o23_uB (fun k e => (.inr (.inl e))) (tl_in (inq (inq in1)) (tl_in (inq (inq (in2 in1))) tl_no))))))
  replace q_o23_uB := qtr q90 q_o23_uB tq_
  clear tq_
  have tq_ := oD.size
  replace oD := oD.tail o83 (tl_q q_oD_ls (fun _ e => by cases e) (tl_q q_oD_bs (fun _ e => by cases e) (tl_q q_oD_uV (fun k e => (.inl e)) (tl_q q_oD_uB (fun k e => (.inr (.inl e))) (tl_in (inq (inq in1)) (tl_in (inq (inq (in2 in1))) tl_no))))))
  replace q_oD_uB := qtr q90 q_oD_uB tq_
  clear tq_
  have tq_ := o28.size
  replace o28 := o28.tail o83 (tl_q q_o28_ls (fun k e => (.inl e)) (tl_q q_o28_bs (fun k e => (.inr (.inl e))) (tl_q q_o28_uV (fun k e => (.inr (.inr (.inl e)))) (tl_q q_o28_uB (fun k e => (.inr (.inr (.inr (.inl e))))) (tl_in (inq (inq (inq (inq in1)))) (tl_in (inq (inq (inq (inq (in2 in1))))) tl_no))))))
  replace q_o28_uB := qtr q90 q_o28_uB tq_
  clear tq_
  have tq_ := oB.size
  replace oB := oB.tail o83 (tl_q q_oB_ls (fun k e => (.inl e)) (tl_q q_oB_bs (fun k e => (.inr (.inl e))) (tl_q q_oB_uV (fun k e => (.inr (.inr (.inl e)))) (tl_q q_oB_uB (fun k e => (.inr (.inr (.inr (.inl e))))) (tl_in (inq (inq (inq (inq in1)))) (tl_in (inq (inq (inq (inq (in2 in1))))) tl_no))))))
  replace q_oB_uB := qtr q90 q_oB_uB tq_
  clear tq_
  refine wS.op rfl rfl (d_append Try.underlying79 Try.underlying79 s_ti83 rfl rfl rfl a22 (SrcV.of_arr (n := 1) (sz := 1) a86 rfl (fun v_ hv_ => by rw [List.mem_singleton.1 (show v_ ∈ [u_ls] from hv_)]; exact (Ow.one a27))) (by first | omega | (rw [lV]; omega) | (simp; omega) | (rw [lV]; simp; omega)) (by first | omega | (rw [lV]; omega) | (simp; omega) | (rw [lV]; simp; omega)) rfl) ?_
  rintro u91 w92 ⟨bo93, a94, o95, q96⟩
  replace a94 : Ow 83 1 bo93 u91 (vV ++ [u_ls]).length ((vV ++ [u_ls]).map eV) w92 := by rw [List.length_append, List.map_append]; exact a94
  replace hF2 := hF2.gr o95 (fun k e => (.inr (.inr (.inr (.inl e))))) (xx_or1 (xx_orq (xx_orq (xx_re (Fr.of_or q96) (xx_orq (xx_or1 (xx_or1 xx_id)))))))
  replace hG2 := hG2.gr o95 (fun k e => (.inr (.inr (.inr (.inl e))))) (xx_or1 (xx_orq (xx_orq (xx_re (Fr.of_or q96) (xx_orq (xx_or1 (xx_or1 xx_id)))))))
  have nq2 := nqs nq_uV_gb (Fr.of_or q96) a13.lt
  replace a13 := a13.step o95 (fun e => nq_uV_gb _ e rfl)
  replace nq_uV_gb := nq2
  clear nq2
  have nq2 := nqs nq_uV_cb (Fr.of_or q96) a19.lt
  replace a19 := a19.step o95 (fun e => nq_uV_cb _ e rfl)
  replace nq_uV_cb := nq2
  clear nq2
  have nq2 := nqs nq_uV_mb_ (Fr.of_or q96) a86.lt
  replace a86 := a86.step o95 (fun e => nq_uV_mb_ _ e rfl)
  replace nq_uV_mb_ := nq2
  clear nq2
  have lt2 := a89.lts
  replace a89 := a89.step o95 (fun x hx e => nqq_uB_uV x hx e)
  replace nqq_uB_uV := nqq_step nqq_uB_uV (Fr.of_or q96) lt2
  clear lt2
  have lt2 := a26.lts
  replace a26 := a26.step o95 (fun x hx e => nqq_uV_bs x e hx)
  replace nqq_uV_bs := fun x h1 h2 => nqq_step (fun x h1 h2 => nqq_uV_bs x h2 h1) (Fr.of_or q96) lt2 x h2 h1
  clear lt2
  have lt2 := a27.lts
  replace a27 := a27.step o95 (fun x hx e => nqq_uV_ls x e hx)
  replace nqq_uV_ls := fun x h1 h2 => nqq_step (fun x h1 h2 => nqq_uV_ls x h2 h1) (Fr.of_or q96) lt2 x h2 h1
  clear lt2
  have tq := oW.size
  replace oW := oW.tailr o95 q_oW_uV (fun _ e => by cases e)
  replace q_oW_uV := qtr (Fr.of_or q96) q_oW_uV tq
  clear tq
  have tq := o23.size
  replace o23 := o23.tailr o95 q_o23_uV (fun k e => (.inl e))
  replace q_o23_uV := qtr (Fr.of_or q96) q_o23_uV tq
  clear tq
  have tq := oD.size
  replace oD := oD.tailr o95 q_oD_uV (fun k e => (.inl e))
  replace q_oD_uV := qtr (Fr.of_or q96) q_oD_uV tq
  clear tq
  have tq := o28.size
  replace o28 := o28.tailr o95 q_o28_uV (fun k e => (.inr (.inr (.inl e))))
  replace q_o28_uV := qtr (Fr.of_or q96) q_o28_uV tq
  clear tq
  have tq := oB.size
  replace oB := oB.tailr o95 q_oB_uV (fun k e => (.inr (.inr (.inl e))))
  replace q_oB_uV := qtr (Fr.of_or q96) q_oB_uV tq
  clear tq
  refine wS.is rfl rfl (d_nilCheck (b := cb) (o := 0) rfl) ?_
  refine wS.is rfl rfl (d_fieldAddr (j := 3) Try.underlying81 rfl s_ti78 (by decide) rfl rfl) ?_
  refine wS.op rfl rfl (d_store s_ti78 rfl rfl (Ow.one a89) a19 (nb rfl) rfl) ?_
  rintro _ w97 ⟨a98, o99⟩
  replace hF2 := hF2.stepb o99 (in2 (inq (inq (inq (inq in1)))))
  replace hG2 := hG2.stepb o99 (in2 (inq (inq (inq (inq in1)))))
  replace a13 := a13.step o99 (fun e => absurd e n_gb_cb)
  replace a86 := a86.step o99 (fun e => absurd e (Ne.symm n_cb_mb_))
  replace a89 := a89.step o99 (fun x hx e => nq_uB_cb x hx e)
  replace a94 := a94.step o99 (fun x hx e => nq_uV_cb x hx e)
  replace a26 := a26.step o99 (fun x hx e => nq_bs_cb x hx e)
  replace a27 := a27.step o99 (fun x hx e => nq_ls_cb x hx e)
  replace oW := oW.tailb o99 g_oW_cb
  replace o23 := o23.tail o99 (fun k _ e => by have : k = cb := e; rw [this]; exact (inq (inq in1)))
  replace oD := oD.tail o99 (fun k _ e => by have : k = cb := e; rw [this]; exact (inq (inq in1)))
  replace o28 := o28.tail o99 (fun k _ e => by have : k = cb := e; rw [this]; exact (inq (inq (inq (inq in1)))))
  replace oB := oB.tail o99 (fun k _ e => by have : k = cb := e; rw [this]; exact (inq (inq (inq (inq in1)))))
  refine wS.is rfl rfl (d_nilCheck (b := cb) (o := 0) rfl) ?_
  refine wS.flat ([(Value.agg #[(eN D), (eN B), (eN Q)]), ub, (ptr gb 0), undef, (Value.pointer none), (eN 0), (ptr cb 0), (eN d), u_bs, u_ls, (eN b), (z 11), (z 12), undef, (Value.agg #[(eN D), (eN B), (eN Q)]), vT, vF, (Value.agg #[(eN D), (eN B), (eN Q)]), (Value.agg #[(eN D), (eN B), (eN Q), (Value.slice none 0 0), (Value.slice none 0 0), (eN 0), (Value.slice none 0 0), vF, (eN 0), (eN 0)]), (ptr cb 0), (eN d), (ptr gb 0), (eN D), (Value.bool (decide (d < D))), (z 24), (z 25), (eN b), (ptr gb 1), (eN B), (Value.bool (decide (b < B)))] ++ (zs z 30 25 ++ [(ptr cb 0), (ptr cb 0), (ptr cb 0), (ptr cb 0), (ptr cb 3), u_uB, u_bs, (sli nb_ 0 1 1), (v81 8), (ptr cb 0), (ptr cb 0), (ptr cb 4), u_uV, u_ls, (sli mb_ 0 1 1), u91, (ptr cb 0), (ptr cb 3), (ptr cb 0), (z 74)] ++ (us 38))) kr ?_
  refine wS.is rfl rfl (d_fieldAddr (j := 4) Try.underlying81 rfl s_ti79 (by decide) rfl rfl) ?_
  refine wS.op rfl rfl (d_store s_ti79 rfl rfl (Ow.one a94) a98 (nb rfl) rfl) ?_
  rintro _ w100 ⟨a101, o102⟩
  replace hF2 := hF2.stepb o102 (in2 (inq (inq (inq (inq in1)))))
  replace hG2 := hG2.stepb o102 (in2 (inq (inq (inq (inq in1)))))
  replace a13 := a13.step o102 (fun e => absurd e n_gb_cb)
  replace a86 := a86.step o102 (fun e => absurd e (Ne.symm n_cb_mb_))
  replace a89 := a89.step o102 (fun x hx e => nq_uB_cb x hx e)
  replace a94 := a94.step o102 (fun x hx e => nq_uV_cb x hx e)
  replace a26 := a26.step o102 (fun x hx e => nq_bs_cb x hx e)
  replace a27 := a27.step o102 (fun x hx e => nq_ls_cb x hx e)
  replace oW := oW.tailb o102 g_oW_cb
  replace o23 := o23.tail o102 (fun k _ e => by have : k = cb := e; rw [this]; exact (inq (inq in1)))
  replace oD := oD.tail o102 (fun k _ e => by have : k = cb := e; rw [this]; exact (inq (inq in1)))
  replace o28 := o28.tail o102 (fun k _ e => by have : k = cb := e; rw [this]; exact (inq (inq (inq (inq in1)))))
  replace oB := oB.tail o102 (fun k _ e => by have : k = cb := e; rw [this]; exact (inq (inq (inq (inq in1)))))
  refine wS.flat ([(Value.agg #[(eN D), (eN B), (eN Q)]), ub, (ptr gb 0), undef, (Value.pointer none), (eN 0), (ptr cb 0), (eN d), u_bs, u_ls, (eN b), (z 11), (z 12), undef, (Value.agg #[(eN D), (eN B), (eN Q)]), vT, vF, (Value.agg #[(eN D), (eN B), (eN Q)]), (Value.agg #[(eN D), (eN B), (eN Q), (Value.slice none 0 0), (Value.slice none 0 0), (eN 0), (Value.slice none 0 0), vF, (eN 0), (eN 0)]), (ptr cb 0), (eN d), (ptr gb 0), (eN D), (Value.bool (decide (d < D))), (z 24), (z 25), (eN b), (ptr gb 1), (eN B), (Value.bool (decide (b < B)))] ++ (zs z 30 25 ++ [(ptr cb 0), (ptr cb 0), (ptr cb 0), (ptr cb 0), (ptr cb 3), u_uB, u_bs, (sli nb_ 0 1 1), (v81 8), (ptr cb 0), (ptr cb 0), (ptr cb 4), u_uV, u_ls, (sli mb_ 0 1 1), u91, (ptr cb 0), (ptr cb 3), (ptr cb 0), (ptr cb 4)] ++ (us 38))) kr ?_
  refine wS.done ?_
  refine inb_n (tN ?_)
  refine pL ?_
  refine wI (d_move rfl) ?_
  refine wI (n_add (a := d) (b := 1) rfl rfl oo) ?_
  refine wI (d_assign rfl) ?_
  refine wD (tN ?_)
  obtain ⟨bbs, cbs, rbs, ebs, eub, hAbs⟩ := a26.some_ (by rw [lvb]; omega)
  obtain ⟨bls, cls, rls, els, eul, hAls⟩ := a27.some_ (by rw [llz]; omega)
  have gbs := (q_oD_bs bbs ebs).elim (fun e => by cases e) id
  have gls := (q_oD_ls bls els).elim (fun e => by cases e) id
  have g0_bbs := Nat.le_trans hWD gbs
  have g0_bls := Nat.le_trans hWD gls
  have eK_ : d * B + B = (d + 1) * B := (Nat.succ_mul d B).symm
  rw [hbB, eK_] at hI2 hF2 hG2
  rw [hbB] at lvb llz hvb hlz
  have szD_ := oD.size
  have szB_ := oB.size
  refine ⟨_, ⟨d + 1, (F2.addD d bbs cbs bls cls), vB ++ [u_bs], vV ++ [u_ls], bo88, (v81 8), bo93, u91⟩, rfl, kr, ⟨?_, ?_, ?_, ?_, ?_, ?_, ?_, ?_, ?_, ?_, ?_, ?_, ?_, ?_, ?_, ?_⟩, ?_⟩
  ·
   (try dsimp only)
   all_goals (omega)
  ·
   exact NewM.addD2 hI2 hI hE gbs gls hWD oo oo hAbs.lt hAls.lt
  ·
   (try dsimp only)
   all_goals (rw [List.length_append, lU]; rfl)
  ·
   (try dsimp only)
   all_goals (rw [← hE.1, ← hE.2.1] at hvB; exact vd_snoc hvB lU (eub.trans (by rw [lvb])))
  ·
   (try dsimp only)
   all_goals (rw [List.length_append, lV]; rfl)
  ·
   (try dsimp only)
   all_goals (rw [← hE.2.2.1, ← hE.2.2.2] at hvV; exact vd_snoc hvV lV (eul.trans (by rw [llz])))
  ·
   exact newF_addD hF2 (xx_skip (xx_skip (xx_skip (xx_orq (xx_orq (xx_or1 (xx_or1 xx_id))))))) hAbs lvb hvb hAls llz hlz (nx_orq (fun x hx e => nqq_uV_bs x hx (e ▸ ebs)) (nx_orq (fun x hx e => nqq_uB_bs x hx (e ▸ ebs)) (nx_or1 (fun e => nq_bs_cb _ ebs e.symm) (nx_or1 (fun e => nq_bs_gb _ ebs e.symm) (old_ne g0_bbs))))) (nx_orq (fun x hx e => nqq_uV_ls x hx (e ▸ els)) (nx_orq (fun x hx e => nqq_uB_ls x hx (e ▸ els)) (nx_or1 (fun e => nq_ls_cb _ els e.symm) (nx_or1 (fun e => nq_ls_gb _ els e.symm) (old_ne g0_bls)))))
  ·
   (try dsimp only)
   all_goals (exact newP_addD hG2 (by intro j _ h; simp only [Or1, Orq] at h ⊢; have h2 := nfB_addD (F := F2) (d := d) (nk := (d + 1) * B) (n0 := W.heap.size) (j := j) (b := bbs) (c := cbs) (q := bls) (c2 := cls); grind))
  ·
   exact o23
  ·
   exact a13
  ·
   exact a101
  ·
   exact a89
  ·
   exact q_o23_uB
  ·
   exact a94
  ·
   exact q_o23_uV
  ·
   exact nqq_uB_uV
  ·
   (try dsimp only)
   all_goals (omega)
 refine wpIn_exit ?_
 refine then_x (then_x (inb_e ?_))
 refine tN (wQ (wQ ?_))
 have hdD : d = D := by omega
 rw [hdD] at hI hF hG hvB hvV lU lV
 obtain ⟨Lq, eL, hN, hfr⟩ := rd_new (tN := 81) (tU := 82) (tV := 83) hD hB hQ (by decide) a19 a21 lU hvB a22 lV hvV hF.now (hG.less (by intro k _ h; simp only [Or1, Orq, NF.B] at h ⊢; grind)) (hI.le oD.size) g_oW_cb (fun x hx => (q_oW_uB x hx).elim (fun e => by cases e) id) (fun x hx => (q_oW_uV x hx).elim (fun e => by cases e) id)
 have h2 : Ps (Ors Lq.S No) (Seq (kA 2 eQ) lb ub) w24 := h2W.re oW (fun _ t => t.elim) (xx_news hfr xx_id)
 have g_oW_Lq := hfr
 refine wp_eq (l' := ([(Value.agg #[(eN D), (eN B), (eN Q)]), ub, (ptr gb 0), undef, (Value.pointer none), (eN 0), (ptr cb 0), (eN d)] ++ (zs z 8 5 ++ [undef, (Value.agg #[(eN D), (eN B), (eN Q)]), vT, vF, (Value.agg #[(eN D), (eN B), (eN Q)]), (Value.agg #[(eN D), (eN B), (eN Q), (Value.slice none 0 0), (Value.slice none 0 0), (eN 0), (Value.slice none 0 0), vF, (eN 0), (eN 0)]), (ptr cb 0), (eN d), (ptr gb 0), (eN D), (Value.bool (decide (d < D)))] ++ (zs z 24 51 ++ (us 38))))) rfl ?_
 refine wp_eq (l' := ([(Value.agg #[(eN D), (eN B), (eN Q)]), ub, (ptr gb 0), undef, (Value.pointer none), (eN 0), (ptr Lq.bN 0), (eN d)] ++ (zs z 8 5 ++ [undef, (Value.agg #[(eN D), (eN B), (eN Q)]), vT, vF, (Value.agg #[(eN D), (eN B), (eN Q)]), (Value.agg #[(eN D), (eN B), (eN Q), (Value.slice none 0 0), (Value.slice none 0 0), (eN 0), (Value.slice none 0 0), vF, (eN 0), (eN 0)]), (ptr cb 0), (eN d), (ptr gb 0), (eN D), (Value.bool (decide (d < D)))] ++ (zs z 24 51 ++ (us 38))))) (show (([(Value.agg #[(eN D), (eN B), (eN Q)]), ub, (ptr gb 0), undef, (Value.pointer none), (eN 0), (ptr cb 0), (eN d)] ++ (zs z 8 5 ++ [undef, (Value.agg #[(eN D), (eN B), (eN Q)]), vT, vF, (Value.agg #[(eN D), (eN B), (eN Q)]), (Value.agg #[(eN D), (eN B), (eN Q), (Value.slice none 0 0), (Value.slice none 0 0), (eN 0), (Value.slice none 0 0), vF, (eN 0), (eN 0)]), (ptr cb 0), (eN d), (ptr gb 0), (eN D), (Value.bool (decide (d < D)))] ++ (zs z 24 51 ++ (us 38)))) : List Value) = ([(Value.agg #[(eN D), (eN B), (eN Q)]), ub, (ptr gb 0), undef, (Value.pointer none), (eN 0), (ptr Lq.bN 0), (eN d)] ++ (zs z 8 5 ++ [undef, (Value.agg #[(eN D), (eN B), (eN Q)]), vT, vF, (Value.agg #[(eN D), (eN B), (eN Q)]), (Value.agg #[(eN D), (eN B), (eN Q), (Value.slice none 0 0), (Value.slice none 0 0), (eN 0), (Value.slice none 0 0), vF, (eN 0), (eN 0)]), (ptr cb 0), (eN d), (ptr gb 0), (eN D), (Value.bool (decide (d < D)))] ++ (zs z 24 51 ++ (us 38)))) from reslot ([(Value.agg #[(eN D), (eN B), (eN Q)]), ub, (ptr gb 0), undef, (Value.pointer none), (eN 0), (ptr cb 0), (eN d)] ++ (zs z 8 5 ++ [undef, (Value.agg #[(eN D), (eN B), (eN Q)]), vT, vF, (Value.agg #[(eN D), (eN B), (eN Q)]), (Value.agg #[(eN D), (eN B), (eN Q), (Value.slice none 0 0), (Value.slice none 0 0), (eN 0), (Value.slice none 0 0), vF, (eN 0), (eN 0)]), (ptr cb 0), (eN d), (ptr gb 0), (eN D), (Value.bool (decide (d < D)))] ++ (zs z 24 51 ++ (us 38)))) 6 (congrArg (fun x_ => ptr x_ 0) eL)) ?_
 refine pL ?_
 refine wI (d_assign rfl) ?_
 refine wD (tN (wB ?_))
 refine loop2 (fun (s_ : (Nat) × (NS)) => match s_ with | ⟨i6, s6⟩ => fun (z : Nat → Value) => (([(Value.agg #[(eN D), (eN B), (eN Q)]), ub, (ptr gb 0), undef, (z 4), (z 5), (ptr Lq.bN 0), (eN d)] ++ (zs z 8 5 ++ [(eN i6), (Value.agg #[(eN D), (eN B), (eN Q)]), vT, vF, (Value.agg #[(eN D), (eN B), (eN Q)]), (Value.agg #[(eN D), (eN B), (eN Q), (Value.slice none 0 0), (Value.slice none 0 0), (eN 0), (Value.slice none 0 0), vF, (eN 0), (eN 0)]), (ptr cb 0), (eN d), (ptr gb 0), (eN D), (Value.bool (decide (d < D)))] ++ (zs z 24 88 ++ [undef]))) : List Value)) (fun (s_ : (Nat) × (NS)) => match s_ with | ⟨i6, s6⟩ => fun (w_ : World) => (i6 ≤ lb.length) ∧ (NewJ s6 D B Q (lb.take i6)) ∧ Only (Ors Lq.S No) w24 w_ ∧ Rd Lq s6 (Old W.heap.size) w_) (fun (s_ : (Nat) × (NS)) => match s_ with | ⟨i6, s6⟩ => lb.length - i6) ⟨0, (NS.new D B Q (fun _ _ => false))⟩ kr ?_ ?_
 ·
  refine ⟨?_, ?_, ?_, ?_⟩
  ·
   exact Nat.zero_le _
  ·
   exact newJ_nil D B Q
  ·
   exact Only.refl _ _
  ·
   exact hN
 rintro ⟨i6, s6⟩ z w104 ⟨hi6, hS, o103, hN⟩
 (try dsimp only)
 replace h2 := h2.step o103 (ors_mono no_any)
 replace oW := oW.tail o103 (tl_snew g_oW_Lq tl_no)
 refine wQ (wQ (pL ?_))
 refine wI (d_move rfl) ?_
 refine wI (d_move rfl) ?_
 refine wI (d_lenS rfl Try.underlying24 rfl h2) ?_
 refine wI (n_lss (a := i6) (b := lb.length) rfl rfl rfl) ?_
 refine wD (tN ?_)
 refine cond_if rfl (fun c105 => ?_) (fun c105 => ?_)
 ·
  refine wK (tN (wQ (wB (wQ (wQ ?_)))))
  refine wp_eq (l' := ([(Value.agg #[(eN D), (eN B), (eN Q)]), ub, (ptr gb 0), undef, (z 4), (z 5), (ptr Lq.bN 0), (eN d)] ++ (zs z 8 5 ++ [(eN i6), (Value.agg #[(eN D), (eN B), (eN Q)]), vT, vF, (Value.agg #[(eN D), (eN B), (eN Q)]), (Value.agg #[(eN D), (eN B), (eN Q), (Value.slice none 0 0), (Value.slice none 0 0), (eN 0), (Value.slice none 0 0), vF, (eN 0), (eN 0)]), (ptr cb 0), (eN d), (ptr gb 0), (eN D), (Value.bool (decide (d < D)))] ++ (zs z 24 51 ++ [(eN i6), ub, (eN lb.length), (Value.bool (decide (i6 < lb.length)))] ++ (zs z 79 33 ++ [undef]))))) rfl ?_
  refine drawn' (O := (Ors Lq.S No)) (n := 13) [0, 0, 0, 6, 14, 30, 0, 0, 192, 448, 960, 2047, 4095] [(0, 81), (1, 82), (2, 83), (3, 84), (4, 85), (5, 86), (6, 87), (7, 88), (8, 89), (9, 90), (10, 91), (11, 92), (12, 93)] [0, 1, 2, 3, 4, 5, 6, 7, 8, 9, 10, 11, 12] [] (fun i_ => ([RF.is (Ors Lq.S No) (ptr Lq.bN 0), RF.is (Ors Lq.S No) ub, RF.is (Ors Lq.S No) (eN i6), RF.ps (Ors Lq.S No) (Ors Lq.S No) (At (kA 2 eQ) (lb.getD i6 (0, 0))) (ors_mono no_any), RF.ps (Ors Lq.S No) (Ors Lq.S No) (At kI ((lb.getD i6 (0, 0)).1)) (ors_mono no_any), RF.is (Ors Lq.S No) (eI ((lb.getD i6 (0, 0)).1)), RF.is (Ors Lq.S No) ub, RF.is (Ors Lq.S No) (eN i6), RF.ps (Ors Lq.S No) (Ors Lq.S No) (At (kA 2 eQ) (lb.getD i6 (0, 0))) (ors_mono no_any), RF.ps (Ors Lq.S No) (Ors Lq.S No) (At kI ((lb.getD i6 (0, 0)).2)) (ors_mono no_any), RF.is (Ors Lq.S No) (eI ((lb.getD i6 (0, 0)).2)), RF.is (Ors Lq.S No) (Value.bool (s6.there ((lb.getD i6 (0, 0)).1) ((lb.getD i6 (0, 0)).2))), RF.is (Ors Lq.S No) (Value.bool (!(s6.there ((lb.getD i6 (0, 0)).1) ((lb.getD i6 (0, 0)).2))))] : List (RF (Ors Lq.S No))).getD i_ (RF.any (Ors Lq.S No))) (fun _ w_ => Rd Lq s6 (Old W.heap.size) w_) (fun v106 => ([(Value.agg #[(eN D), (eN B), (eN Q)]), ub, (ptr gb 0), undef, (z 4), (z 5), (ptr Lq.bN 0), (eN d)] ++ (zs z 8 5 ++ [(eN i6), (Value.agg #[(eN D), (eN B), (eN Q)]), vT, vF, (Value.agg #[(eN D), (eN B), (eN Q)]), (Value.agg #[(eN D), (eN B), (eN Q), (Value.slice none 0 0), (Value.slice none 0 0), (eN 0), (Value.slice none 0 0), vF, (eN 0), (eN 0)]), (ptr cb 0), (eN d), (ptr gb 0), (eN D), (Value.bool (decide (d < D)))] ++ (zs z 24 51 ++ [(eN i6), ub, (eN lb.length), (Value.bool (decide (i6 < lb.length))), (z 79), (z 80), (v106 0), (v106 1), (v106 2), (v106 3), (v106 4), (v106 5), (v106 6), (v106 7), (v106 8), (v106 9), (v106 10), (v106 11), (v106 12)] ++ (zs z 94 18 ++ [undef]))))) s_mx kr rfl kr (by rfl) (fun v_ => by kernel_rfl) (fun _ => fun w_ w2_ h ho => by have r_hN := h; exact r_hN.step0 ho) hN ?_ ?_ ?_
  ·
   refine ls_cons ?_ ?_
   ·
    intro v106 lo hi w_ k_ hO hd _ _ hk_ _ hR hold
    have r_hN := hR
    clear hd hold
    refine ⟨_, rfl, gd rfl ?_⟩
    exact Does.is (d_move rfl)
   refine ls_cons ?_ ?_
   ·
    intro v106 lo hi w_ k_ hO hd _ _ hk_ _ hR hold
    have r_hN := hR
    clear hd hold
    refine ⟨_, rfl, gd rfl ?_⟩
    exact Does.is (d_move rfl)
   refine ls_cons ?_ ?_
   ·
    intro v106 lo hi w_ k_ hO hd _ _ hk_ _ hR hold
    have r_hN := hR
    clear hd hold
    refine ⟨_, rfl, gd rfl ?_⟩
    exact Does.is (d_move rfl)
   refine ls_cons ?_ ?_
   ·
    intro v106 lo hi w_ k_ hO hd _ _ hk_ _ hR hold
    have r_hN := hR
    have e1 : v106 1 = ub := hd 1 kr
    have e2 : v106 2 = (eN i6) := hd 2 kr
    clear hd hold
    refine ⟨_, rfl, gd rfl ?_⟩
    refine Does.mono (d_indexS (q := (kA 2 eQ)) (xs := lb) (v := (lb.getD i6 (0, 0))) Try.underlying24 s_ti51 e1 (h2.step hO (ors_mono no_any)) (show _ = Value.int _ (i6 : Int) from e2) oo (g_at fo)) (fun u w' h => ⟨h.2 ▸ h.1, h.2 ▸ Only.refl _ _⟩)
   refine ls_cons ?_ ?_
   ·
    intro v106 lo hi w_ k_ hO hd _ _ hk_ _ hR hold
    have r_hN := hR
    have d3 : Ps (Ors Lq.S No) (At (kA 2 eQ) (lb.getD i6 (0, 0)) (v106 3)) w_ := hd 3 kr
    clear hd hold
    refine ⟨_, rfl, gd rfl ?_⟩
    refine Does.mono (d_indexA (v := (lb.getD i6 (0, 0))) (c := (lb.getD i6 (0, 0)).1) Try.underlying51 s_ti3 rfl d3 (show _ = Value.int _ ((0 : Nat) : Int) from rfl) (by decide) (by decide) rfl) (fun u w' h => ⟨h.2 ▸ h.1, h.2 ▸ Only.refl _ _⟩)
   refine ls_cons ?_ ?_
   ·
    intro v106 lo hi w_ k_ hO hd _ _ hk_ _ hR hold
    have r_hN := hR
    have d4 : Ps (Ors Lq.S No) (At kI ((lb.getD i6 (0, 0)).1) (v106 4)) w_ := hd 4 kr
    clear hd hold
    refine ⟨_, rfl, gd rfl ?_⟩
    exact Does.is (d_loadAt (enc := eI) (v := (lb.getD i6 (0, 0)).1) ⟨_, Try.underlying3, rfl⟩ rfl d4)
   refine ls_cons ?_ ?_
   ·
    intro v106 lo hi w_ k_ hO hd _ _ hk_ _ hR hold
    have r_hN := hR
    clear hd hold
    refine ⟨_, rfl, gd rfl ?_⟩
    exact Does.is (d_move rfl)
   refine ls_cons ?_ ?_
   ·
    intro v106 lo hi w_ k_ hO hd _ _ hk_ _ hR hold
    have r_hN := hR
    clear hd hold
    refine ⟨_, rfl, gd rfl ?_⟩
    exact Does.is (d_move rfl)
   refine ls_cons ?_ ?_
   ·
    intro v106 lo hi w_ k_ hO hd _ _ hk_ _ hR hold
    have r_hN := hR
    have e6 : v106 6 = ub := hd 6 kr
    have e7 : v106 7 = (eN i6) := hd 7 kr
    clear hd hold
    refine ⟨_, rfl, gd rfl ?_⟩
    refine Does.mono (d_indexS (q := (kA 2 eQ)) (xs := lb) (v := (lb.getD i6 (0, 0))) Try.underlying24 s_ti51 e6 (h2.step hO (ors_mono no_any)) (show _ = Value.int _ (i6 : Int) from e7) oo (g_at fo)) (fun u w' h => ⟨h.2 ▸ h.1, h.2 ▸ Only.refl _ _⟩)
   refine ls_cons ?_ ?_
   ·
    intro v106 lo hi w_ k_ hO hd _ _ hk_ _ hR hold
    have r_hN := hR
    have d8 : Ps (Ors Lq.S No) (At (kA 2 eQ) (lb.getD i6 (0, 0)) (v106 8)) w_ := hd 8 kr
    clear hd hold
    refine ⟨_, rfl, gd rfl ?_⟩
    refine Does.mono (d_indexA (v := (lb.getD i6 (0, 0))) (c := (lb.getD i6 (0, 0)).2) Try.underlying51 s_ti3 rfl d8 (show _ = Value.int _ ((1 : Nat) : Int) from rfl) (by decide) (by decide) rfl) (fun u w' h => ⟨h.2 ▸ h.1, h.2 ▸ Only.refl _ _⟩)
   refine ls_cons ?_ ?_
   ·
    intro v106 lo hi w_ k_ hO hd _ _ hk_ _ hR hold
    have r_hN := hR
    have d9 : Ps (Ors Lq.S No) (At kI ((lb.getD i6 (0, 0)).2) (v106 9)) w_ := hd 9 kr
    clear hd hold
    refine ⟨_, rfl, gd rfl ?_⟩
    exact Does.is (d_loadAt (enc := eI) (v := (lb.getD i6 (0, 0)).2) ⟨_, Try.underlying3, rfl⟩ rfl d9)
   refine ls_cons ?_ ?_
   ·
    intro v106 lo hi w_ k_ hO hd _ _ hk_ _ hR hold
    have r_hN := hR
    have e0 : v106 0 = (ptr Lq.bN 0) := hd 0 kr
    have e10 : v106 10 = (eI ((lb.getD i6 (0, 0)).2)) := hd 10 kr
    have e5 : v106 5 = (eI ((lb.getD i6 (0, 0)).1)) := hd 5 kr
    clear hd hold
    refine ⟨_, rfl, gd rfl ?_⟩
    exact d_call (xl := [.tmp 81, .tmp 86, .tmp 91]) (al := [(ptr Lq.bN 0), (eI ((lb.getD i6 (0, 0)).1)), (eI ((lb.getD i6 (0, 0)).2))]) Try.func43 kr rfl (show ([(v106 0), (v106 5), (v106 10)] : List Value) = [(ptr Lq.bN 0), (eI ((lb.getD i6 (0, 0)).1)), (eI ((lb.getD i6 (0, 0)).2))] from by rw [e0, e5, e10]) rfl (refThere_ok Lq s6 _ r_hN (r := (s6.there ((lb.getD i6 (0, 0)).1) ((lb.getD i6 (0, 0)).2))) ((lb.getD i6 (0, 0)).1) ((lb.getD i6 (0, 0)).2) rfl)
   refine ls_cons ?_ ?_
   ·
    intro v106 lo hi w_ k_ hO hd _ _ hk_ _ hR hold
    have r_hN := hR
    have e11 : v106 11 = (Value.bool (s6.there ((lb.getD i6 (0, 0)).1) ((lb.getD i6 (0, 0)).2))) := hd 11 kr
    clear hd hold
    refine ⟨_, rfl, gd rfl ?_⟩
    exact Does.is (d_not e11 rfl)
   exact ls_nil
  ·
   exact ms_nil
  intro v106 lo_ hi_ w107 o108 hd iv_ hR
  have e0 : v106 0 = (ptr Lq.bN 0) := hd 0 (by decide)
  have e1 : v106 1 = ub := hd 1 (by decide)
  have e2 : v106 2 = (eN i6) := hd 2 (by decide)
  have e5 : v106 5 = (eI ((lb.getD i6 (0, 0)).1)) := hd 5 (by decide)
  have e6 : v106 6 = ub := hd 6 (by decide)
  have e7 : v106 7 = (eN i6) := hd 7 (by decide)
  have e10 : v106 10 = (eI ((lb.getD i6 (0, 0)).2)) := hd 10 (by decide)
  have e11 : v106 11 = (Value.bool (s6.there ((lb.getD i6 (0, 0)).1) ((lb.getD i6 (0, 0)).2))) := hd 11 (by decide)
  have e12 : v106 12 = (Value.bool (!(s6.there ((lb.getD i6 (0, 0)).1) ((lb.getD i6 (0, 0)).2)))) := hd 12 (by decide)
  have f_v106_3 : Ps (Ors Lq.S No) (At (kA 2 eQ) (lb.getD i6 (0, 0)) (v106 3)) w107 := hd 3 (by decide)
  have f_v106_4 : Ps (Ors Lq.S No) (At kI ((lb.getD i6 (0, 0)).1) (v106 4)) w107 := hd 4 (by decide)
  have f_v106_8 : Ps (Ors Lq.S No) (At (kA 2 eQ) (lb.getD i6 (0, 0)) (v106 8)) w107 := hd 8 (by decide)
  have f_v106_9 : Ps (Ors Lq.S No) (At kI ((lb.getD i6 (0, 0)).2) (v106 9)) w107 := hd 9 (by decide)
  clear hd iv_ lo_ hi_
  refine fr_eq (l' := ([(Value.agg #[(eN D), (eN B), (eN Q)]), ub, (ptr gb 0), undef, (z 4), (z 5), (ptr Lq.bN 0), (eN d)] ++ (zs z 8 5 ++ [(eN i6), (Value.agg #[(eN D), (eN B), (eN Q)]), vT, vF, (Value.agg #[(eN D), (eN B), (eN Q)]), (Value.agg #[(eN D), (eN B), (eN Q), (Value.slice none 0 0), (Value.slice none 0 0), (eN 0), (Value.slice none 0 0), vF, (eN 0), (eN 0)]), (ptr cb 0), (eN d), (ptr gb 0), (eN D), (Value.bool (decide (d < D)))] ++ (zs z 24 51 ++ [(eN i6), ub, (eN lb.length), (Value.bool (decide (i6 < lb.length))), (z 79), (z 80), (ptr Lq.bN 0), ub, (eN i6), (v106 3), (v106 4), (eI ((lb.getD i6 (0, 0)).1)), ub, (eN i6), (v106 8), (v106 9), (eI ((lb.getD i6 (0, 0)).2)), (Value.bool (s6.there ((lb.getD i6 (0, 0)).1) ((lb.getD i6 (0, 0)).2))), (Value.bool (!(s6.there ((lb.getD i6 (0, 0)).1) ((lb.getD i6 (0, 0)).2))))] ++ (zs z 94 18 ++ [undef]))))) (by rw [e0, e1, e2, e5, e6, e7, e10, e11, e12] <;> rfl) ?_
  clear e0 e1 e2 e5 e6 e7 e10 e11 e12
  replace h2 := h2.step o108 (ors_mono no_any)
  replace hN := hR
  clear hR
  replace oW := oW.tail o108 (tl_snew g_oW_Lq tl_no)
  replace o103 := o103.tail o108 (tl_sin sub1 tl_no)
  refine tN ?_
  refine cond_b rfl (fun c93 => ?_) (fun c93 => ?_)
  ·
   refine wQ (pL ?_)
   refine wI (d_assign rfl) ?_
   refine wI (d_assign rfl) ?_
   refine wD (tN ?_)
   refine wpIn_ret ?_
   refine then_r (inb_r (then_r (then_r (inb_r (then_r ?_)))))
   refine leave0 (v := (Value.tuple #[(Value.pointer none), (eN 1)])) (res2 Try.results14 rfl rfl) ?_
   have hE_ : newE D B lb = 1 := newE_no (i := i6) oo (fun t => by rw [(inR_there hS (lb.getD i6 (0, 0))).2 t] at c93; cases c93)
   exact ⟨_, by rw [hE_], oW, fun e => by rw [hE_] at e; cases e⟩
  refine wK (tN ?_)
  have ht_ := (inR_there hS (lb.getD i6 (0, 0))).1 (by simpa using c93)
  obtain ⟨x1, ex1⟩ := Int.eq_ofNat_of_zero_le ht_.1.1
  obtain ⟨x2, ex2⟩ := Int.eq_ofNat_of_zero_le ht_.2.1
  have hx1 : x1 < D := by have := ht_.1.2; omega
  have hx2 : x2 < B := by have := ht_.2.2; omega
  have gD6 := hS.i.c.gD
  have gB6 := hS.i.c.gB
  refine drawnT (O := (Ors Lq.S No)) (n := 19) 16 [0, 1, 3, 7, 0, 0, 48, 112, 240, 511, 1023, 0, 0, 6144, 14336, 30720, 65535, 131071, 262143] [(0, 94), (1, 95), (2, 96), (3, 97), (4, 98), (5, 99), (6, 100), (7, 101), (8, 102), (9, 103), (10, 104), (11, 105), (12, 106), (13, 107), (14, 108), (15, 109), (16, 110), (17, 111)] [(0, 94), (1, 95), (2, 96), (3, 97), (4, 98), (5, 99), (6, 100), (7, 101), (8, 102), (9, 103), (10, 104), (11, 105), (12, 106), (13, 107), (14, 108), (15, 109)] [0, 1, 2, 3, 4, 5, 6, 7, 8, 9, 10, 11, 12, 13, 14, 15] [] (fun i_ => ([RF.is (Ors Lq.S No) (ptr Lq.bN 0), RF.is (Ors Lq.S No) (ptr Lq.bN 0), RF.is (Ors Lq.S No) (ptr Lq.bN 3), RF.is (Ors Lq.S No) (sli Lq.bU 0 s6.gD Lq.cU), RF.is (Ors Lq.S No) ub, RF.is (Ors Lq.S No) (eN i6), RF.ps (Ors Lq.S No) (Ors Lq.S No) (At (kA 2 eQ) (lb.getD i6 (0, 0))) (ors_mono no_any), RF.ps (Ors Lq.S No) (Ors Lq.S No) (At kI ((lb.getD i6 (0, 0)).1)) (ors_mono no_any), RF.is (Ors Lq.S No) (eN x1), RF.is (Ors Lq.S No) (ptr Lq.bU x1), RF.is (Ors Lq.S No) (sli (Lq.bd x1) 0 s6.gB (Lq.cd x1)), RF.is (Ors Lq.S No) ub, RF.is (Ors Lq.S No) (eN i6), RF.ps (Ors Lq.S No) (Ors Lq.S No) (At (kA 2 eQ) (lb.getD i6 (0, 0))) (ors_mono no_any), RF.ps (Ors Lq.S No) (Ors Lq.S No) (At kI ((lb.getD i6 (0, 0)).2)) (ors_mono no_any), RF.is (Ors Lq.S No) (eN x2)] : List (RF (Ors Lq.S No))).getD i_ (RF.any (Ors Lq.S No))) (fun _ w_ => Rd Lq s6 (Old W.heap.size) w_) (fun v109 => ([(Value.agg #[(eN D), (eN B), (eN Q)]), ub, (ptr gb 0), undef, (z 4), (z 5), (ptr Lq.bN 0), (eN d)] ++ (zs z 8 5 ++ [(eN i6), (Value.agg #[(eN D), (eN B), (eN Q)]), vT, vF, (Value.agg #[(eN D), (eN B), (eN Q)]), (Value.agg #[(eN D), (eN B), (eN Q), (Value.slice none 0 0), (Value.slice none 0 0), (eN 0), (Value.slice none 0 0), vF, (eN 0), (eN 0)]), (ptr cb 0), (eN d), (ptr gb 0), (eN D), (Value.bool (decide (d < D)))] ++ (zs z 24 51 ++ [(eN i6), ub, (eN lb.length), (Value.bool (decide (i6 < lb.length))), (z 79), (z 80), (ptr Lq.bN 0), ub, (eN i6), (v106 3), (v106 4), (eI ((lb.getD i6 (0, 0)).1)), ub, (eN i6), (v106 8), (v106 9), (eI ((lb.getD i6 (0, 0)).2)), (Value.bool (s6.there ((lb.getD i6 (0, 0)).1) ((lb.getD i6 (0, 0)).2))), (Value.bool (!(s6.there ((lb.getD i6 (0, 0)).1) ((lb.getD i6 (0, 0)).2)))), (v109 0), (v109 1), (v109 2), (v109 3), (v109 4), (v109 5), (v109 6), (v109 7), (v109 8), (v109 9), (v109 10), (v109 11), (v109 12), (v109 13), (v109 14), (v109 15), (v109 16), (v109 17), undef])))) (fun v109 => ([(Value.agg #[(eN D), (eN B), (eN Q)]), ub, (ptr gb 0), undef, (z 4), (z 5), (ptr Lq.bN 0), (eN d)] ++ (zs z 8 5 ++ [(eN i6), (Value.agg #[(eN D), (eN B), (eN Q)]), vT, vF, (Value.agg #[(eN D), (eN B), (eN Q)]), (Value.agg #[(eN D), (eN B), (eN Q), (Value.slice none 0 0), (Value.slice none 0 0), (eN 0), (Value.slice none 0 0), vF, (eN 0), (eN 0)]), (ptr cb 0), (eN d), (ptr gb 0), (eN D), (Value.bool (decide (d < D)))] ++ (zs z 24 51 ++ [(eN i6), ub, (eN lb.length), (Value.bool (decide (i6 < lb.length))), (z 79), (z 80), (ptr Lq.bN 0), ub, (eN i6), (v106 3), (v106 4), (eI ((lb.getD i6 (0, 0)).1)), ub, (eN i6), (v106 8), (v106 9), (eI ((lb.getD i6 (0, 0)).2)), (Value.bool (s6.there ((lb.getD i6 (0, 0)).1) ((lb.getD i6 (0, 0)).2))), (Value.bool (!(s6.there ((lb.getD i6 (0, 0)).1) ((lb.getD i6 (0, 0)).2)))), (v109 0), (v109 1), (v109 2), (v109 3), (v109 4), (v109 5), (v109 6), (v109 7), (v109 8), (v109 9), (v109 10), (v109 11), (v109 12), (v109 13), (v109 14), (v109 15), (z 110), (z 111), undef])))) s_mx kr rfl (by decide) (by rfl) kr kr kr (by rfl) (fun v_ => by kernel_rfl) (fun v_ => by kernel_rfl) (fun _ => fun w_ w2_ h ho => by have r_hN := h; exact r_hN.step0 ho) hN ?_ ?_ ?_
  ·
   refine ls_cons ?_ ?_
   ·
    intro v109 lo hi w_ k_ hO hd _ _ hk_ _ hR hold
    have r_hN := hR
    clear hd hold
    refine ⟨_, rfl, gd rfl ?_⟩
    exact Does.is (d_move rfl)
   refine ls_cons ?_ ?_
   ·
    intro v109 lo hi w_ k_ hO hd _ _ hk_ _ hR hold
    have r_hN := hR
    have e0 : v109 0 = (ptr Lq.bN 0) := hd 0 kr
    clear hd hold
    refine ⟨_, rfl, gd rfl ?_⟩
    exact Does.is (d_nilCheck (b := Lq.bN) (o := 0) e0)
   refine ls_cons ?_ ?_
   ·
    intro v109 lo hi w_ k_ hO hd _ _ hk_ _ hR hold
    have r_hN := hR
    have e1 : v109 1 = (ptr Lq.bN 0) := hd 1 kr
    clear hd hold
    refine ⟨_, rfl, gd rfl ?_⟩
    exact Does.is (d_fieldAddr (j := 3) Try.underlying81 rfl s_ti78 (by decide) e1 rfl)
   refine ls_cons ?_ ?_
   ·
    intro v109 lo hi w_ k_ hO hd _ _ hk_ _ hR hold
    have r_hN := hR
    have e2 : v109 2 = (ptr Lq.bN 3) := hd 2 kr
    clear hd hold
    refine ⟨_, rfl, gd rfl ?_⟩
    exact Does.is (rd_ld (v := (sli Lq.bU 0 s6.gD Lq.cU)) r_hN ⟨_, Try.underlying78, rfl⟩ e2 (fun _ => rfl))
   refine ls_cons ?_ ?_
   ·
    intro v109 lo hi w_ k_ hO hd _ _ hk_ _ hR hold
    have r_hN := hR
    clear hd hold
    refine ⟨_, rfl, gd rfl ?_⟩
    exact Does.is (d_move rfl)
   refine ls_cons ?_ ?_
   ·
    intro v109 lo hi w_ k_ hO hd _ _ hk_ _ hR hold
    have r_hN := hR
    clear hd hold
    refine ⟨_, rfl, gd rfl ?_⟩
    exact Does.is (d_move rfl)
   refine ls_cons ?_ ?_
   ·
    intro v109 lo hi w_ k_ hO hd _ _ hk_ _ hR hold
    have r_hN := hR
    have e4 : v109 4 = ub := hd 4 kr
    have e5 : v109 5 = (eN i6) := hd 5 kr
    clear hd hold
    refine ⟨_, rfl, gd rfl ?_⟩
    refine Does.mono (d_indexS (q := (kA 2 eQ)) (xs := lb) (v := (lb.getD i6 (0, 0))) Try.underlying24 s_ti51 e4 (h2.step hO (ors_mono no_any)) (show _ = Value.int _ (i6 : Int) from e5) oo (g_at fo)) (fun u w' h => ⟨h.2 ▸ h.1, h.2 ▸ Only.refl _ _⟩)
   refine ls_cons ?_ ?_
   ·
    intro v109 lo hi w_ k_ hO hd _ _ hk_ _ hR hold
    have r_hN := hR
    have d6 : Ps (Ors Lq.S No) (At (kA 2 eQ) (lb.getD i6 (0, 0)) (v109 6)) w_ := hd 6 kr
    clear hd hold
    refine ⟨_, rfl, gd rfl ?_⟩
    refine Does.mono (d_indexA (v := (lb.getD i6 (0, 0))) (c := (lb.getD i6 (0, 0)).1) Try.underlying51 s_ti3 rfl d6 (show _ = Value.int _ ((0 : Nat) : Int) from rfl) (by decide) (by decide) rfl) (fun u w' h => ⟨h.2 ▸ h.1, h.2 ▸ Only.refl _ _⟩)
   refine ls_cons ?_ ?_
   ·
    intro v109 lo hi w_ k_ hO hd _ _ hk_ _ hR hold
    have r_hN := hR
    have d7 : Ps (Ors Lq.S No) (At kI ((lb.getD i6 (0, 0)).1) (v109 7)) w_ := hd 7 kr
    clear hd hold
    refine ⟨_, rfl, gd rfl ?_⟩
    exact Does.is (dv_to (d_loadAt (enc := eI) (v := (lb.getD i6 (0, 0)).1) ⟨_, Try.underlying3, rfl⟩ rfl d7) (congrArg eI ex1))
   refine ls_cons ?_ ?_
   ·
    intro v109 lo hi w_ k_ hO hd _ _ hk_ _ hR hold
    have r_hN := hR
    have e3 : v109 3 = (sli Lq.bU 0 s6.gD Lq.cU) := hd 3 kr
    have e8 : v109 8 = (eN x1) := hd 8 kr
    clear hd hold
    refine ⟨_, rfl, gd rfl ?_⟩
    exact Does.is (d_index1 (n := s6.gD) (i := x1) Try.underlying78 s_ti82 e3 (show _ = Value.int _ (x1 : Int) from e8) (by rw [gD6]; exact hx1))
   refine ls_cons ?_ ?_
   ·
    intro v109 lo hi w_ k_ hO hd _ _ hk_ _ hR hold
    have r_hN := hR
    have e9 : v109 9 = (ptr Lq.bU x1) := hd 9 kr
    clear hd hold
    refine ⟨_, rfl, gd rfl ?_⟩
    exact Does.is (rd_ldU (i := x1) r_hN ⟨_, Try.underlying82, rfl⟩ e9 (by rw [gD6]; exact hx1))
   refine ls_cons ?_ ?_
   ·
    intro v109 lo hi w_ k_ hO hd _ _ hk_ _ hR hold
    have r_hN := hR
    clear hd hold
    refine ⟨_, rfl, gd rfl ?_⟩
    exact Does.is (d_move rfl)
   refine ls_cons ?_ ?_
   ·
    intro v109 lo hi w_ k_ hO hd _ _ hk_ _ hR hold
    have r_hN := hR
    clear hd hold
    refine ⟨_, rfl, gd rfl ?_⟩
    exact Does.is (d_move rfl)
   refine ls_cons ?_ ?_
   ·
    intro v109 lo hi w_ k_ hO hd _ _ hk_ _ hR hold
    have r_hN := hR
    have e11 : v109 11 = ub := hd 11 kr
    have e12 : v109 12 = (eN i6) := hd 12 kr
    clear hd hold
    refine ⟨_, rfl, gd rfl ?_⟩
    refine Does.mono (d_indexS (q := (kA 2 eQ)) (xs := lb) (v := (lb.getD i6 (0, 0))) Try.underlying24 s_ti51 e11 (h2.step hO (ors_mono no_any)) (show _ = Value.int _ (i6 : Int) from e12) oo (g_at fo)) (fun u w' h => ⟨h.2 ▸ h.1, h.2 ▸ Only.refl _ _⟩)
   refine ls_cons ?_ ?_
   ·
    intro v109 lo hi w_ k_ hO hd _ _ hk_ _ hR hold
    have r_hN := hR
    have d13 : Ps (Ors Lq.S No) (At (kA 2 eQ) (lb.getD i6 (0, 0)) (v109 13)) w_ := hd 13 kr
    clear hd hold
    refine ⟨_, rfl, gd rfl ?_⟩
    refine Does.mono (d_indexA (v := (lb.getD i6 (0, 0))) (c := (lb.getD i6 (0, 0)).2) Try.underlying51 s_ti3 rfl d13 (show _ = Value.int _ ((1 : Nat) : Int) from rfl) (by decide) (by decide) rfl) (fun u w' h => ⟨h.2 ▸ h.1, h.2 ▸ Only.refl _ _⟩)
   refine ls_cons ?_ ?_
   ·
    intro v109 lo hi w_ k_ hO hd _ _ hk_ _ hR hold
    have r_hN := hR
    have d14 : Ps (Ors Lq.S No) (At kI ((lb.getD i6 (0, 0)).2) (v109 14)) w_ := hd 14 kr
    clear hd hold
    refine ⟨_, rfl, gd rfl ?_⟩
    exact Does.is (dv_to (d_loadAt (enc := eI) (v := (lb.getD i6 (0, 0)).2) ⟨_, Try.underlying3, rfl⟩ rfl d14) (congrArg eI ex2))
   exact ls_nil
  ·
   exact ms_nil
  intro v109 lo_ hi_ w110 o111 hd iv_ hR
  have e0 : v109 0 = (ptr Lq.bN 0) := hd 0 (by decide)
  have e1 : v109 1 = (ptr Lq.bN 0) := hd 1 (by decide)
  have e2 : v109 2 = (ptr Lq.bN 3) := hd 2 (by decide)
  have e3 : v109 3 = (sli Lq.bU 0 s6.gD Lq.cU) := hd 3 (by decide)
  have e4 : v109 4 = ub := hd 4 (by decide)
  have e5 : v109 5 = (eN i6) := hd 5 (by decide)
  have e8 : v109 8 = (eN x1) := hd 8 (by decide)
  have e9 : v109 9 = (ptr Lq.bU x1) := hd 9 (by decide)
  have e10 : v109 10 = (sli (Lq.bd x1) 0 s6.gB (Lq.cd x1)) := hd 10 (by decide)
  have e11 : v109 11 = ub := hd 11 (by decide)
  have e12 : v109 12 = (eN i6) := hd 12 (by decide)
  have e15 : v109 15 = (eN x2) := hd 15 (by decide)
  have f_v109_6 : Ps (Ors Lq.S No) (At (kA 2 eQ) (lb.getD i6 (0, 0)) (v109 6)) w110 := hd 6 (by decide)
  have f_v109_7 : Ps (Ors Lq.S No) (At kI ((lb.getD i6 (0, 0)).1) (v109 7)) w110 := hd 7 (by decide)
  have f_v109_13 : Ps (Ors Lq.S No) (At (kA 2 eQ) (lb.getD i6 (0, 0)) (v109 13)) w110 := hd 13 (by decide)
  have f_v109_14 : Ps (Ors Lq.S No) (At kI ((lb.getD i6 (0, 0)).2) (v109 14)) w110 := hd 14 (by decide)
  clear hd iv_ lo_ hi_
  refine wpL.flat ([(Value.agg #[(eN D), (eN B), (eN Q)]), ub, (ptr gb 0), undef, (z 4), (z 5), (ptr Lq.bN 0), (eN d)] ++ (zs z 8 5 ++ [(eN i6), (Value.agg #[(eN D), (eN B), (eN Q)]), vT, vF, (Value.agg #[(eN D), (eN B), (eN Q)]), (Value.agg #[(eN D), (eN B), (eN Q), (Value.slice none 0 0), (Value.slice none 0 0), (eN 0), (Value.slice none 0 0), vF, (eN 0), (eN 0)]), (ptr cb 0), (eN d), (ptr gb 0), (eN D), (Value.bool (decide (d < D)))] ++ (zs z 24 51 ++ [(eN i6), ub, (eN lb.length), (Value.bool (decide (i6 < lb.length))), (z 79), (z 80), (ptr Lq.bN 0), ub, (eN i6), (v106 3), (v106 4), (eI ((lb.getD i6 (0, 0)).1)), ub, (eN i6), (v106 8), (v106 9), (eI ((lb.getD i6 (0, 0)).2)), (Value.bool (s6.there ((lb.getD i6 (0, 0)).1) ((lb.getD i6 (0, 0)).2))), (Value.bool (!(s6.there ((lb.getD i6 (0, 0)).1) ((lb.getD i6 (0, 0)).2)))), (ptr Lq.bN 0), (ptr Lq.bN 0), (ptr Lq.bN 3), (sli Lq.bU 0 s6.gD Lq.cU), ub, (eN i6), (v109 6), (v109 7), (eN x1), (ptr Lq.bU x1), (sli (Lq.bd x1) 0 s6.gB (Lq.cd x1)), ub, (eN i6), (v109 13), (v109 14), (eN x2), (z 110), (z 111), undef]))) (by rw [e0, e1, e2, e3, e4, e5, e8, e9, e10, e11, e12, e15] <;> rfl) ?_
  clear e0 e1 e2 e3 e4 e5 e8 e9 e10 e11 e12 e15
  replace h2 := h2.step o111 (ors_mono no_any)
  replace f_v106_3 := f_v106_3.step o111 (ors_mono no_any)
  replace f_v106_4 := f_v106_4.step o111 (ors_mono no_any)
  replace f_v106_8 := f_v106_8.step o111 (ors_mono no_any)
  replace f_v106_9 := f_v106_9.step o111 (ors_mono no_any)
  replace hN := hR
  clear hR
  replace oW := oW.tail o111 (tl_snew g_oW_Lq tl_no)
  replace o103 := o103.tail o111 (tl_sin sub1 tl_no)
  refine wI (d_index (b := (Lq.bd x1)) (o := 0) (n := s6.gB) (c := (Lq.cd x1)) (j := (x2 * 4)) Try.underlying82 s_ti85 rfl (show _ = Value.int _ (x2 : Int) from rfl) oo (by rw [gB6]; exact_mod_cast hx2) (by simp)) ?_
  refine wI (d_fieldAddr (j := x2 * 4 + 3) Try.underlying85 rfl s_ti4 (by decide) rfl rfl) ?_
  refine wO (rd_stS (i := x1) (j := x2) (f := 3) (x' := { s6.bl x1 x2 with bad := true }) hN s_ti4 rfl rfl rfl (by rw [gD6]; exact hx1) (by rw [gB6]; exact hx2) (by decide) (fun _ => rfl) (hN.ok.nx _ _)) ?_
  rintro _ w112 ⟨a113, o114⟩
  replace h2 := h2.step o114 sub1
  replace f_v106_3 := f_v106_3.step o114 sub1
  replace f_v106_4 := f_v106_4.step o114 sub1
  replace f_v106_8 := f_v106_8.step o114 sub1
  replace f_v106_9 := f_v106_9.step o114 sub1
  replace f_v109_6 := f_v109_6.step o114 sub1
  replace f_v109_7 := f_v109_7.step o114 sub1
  replace f_v109_13 := f_v109_13.step o114 sub1
  replace f_v109_14 := f_v109_14.step o114 sub1
  replace oW := oW.tail o114 (fun k hk e => by have := g_oW_Lq k e; omega)
  replace o103 := o103.tail o114 (fun k _ e => sub1 k e)
  replace hN := a113
  refine wF ([(Value.agg #[(eN D), (eN B), (eN Q)]), ub, (ptr gb 0), undef, (z 4), (z 5), (ptr Lq.bN 0), (eN d)] ++ (zs z 8 5 ++ [(eN i6), (Value.agg #[(eN D), (eN B), (eN Q)]), vT, vF, (Value.agg #[(eN D), (eN B), (eN Q)]), (Value.agg #[(eN D), (eN B), (eN Q), (Value.slice none 0 0), (Value.slice none 0 0), (eN 0), (Value.slice none 0 0), vF, (eN 0), (eN 0)]), (ptr cb 0), (eN d), (ptr gb 0), (eN D), (Value.bool (decide (d < D)))] ++ (zs z 24 51 ++ [(eN i6), ub, (eN lb.length), (Value.bool (decide (i6 < lb.length))), (z 79), (z 80), (ptr Lq.bN 0), ub, (eN i6), (v106 3), (v106 4), (eI ((lb.getD i6 (0, 0)).1)), ub, (eN i6), (v106 8), (v106 9), (eI ((lb.getD i6 (0, 0)).2)), (Value.bool (s6.there ((lb.getD i6 (0, 0)).1) ((lb.getD i6 (0, 0)).2))), (Value.bool (!(s6.there ((lb.getD i6 (0, 0)).1) ((lb.getD i6 (0, 0)).2)))), (ptr Lq.bN 0), (ptr Lq.bN 0), (ptr Lq.bN 3), (sli Lq.bU 0 s6.gD Lq.cU), ub, (eN i6), (v109 6), (v109 7), (eN x1), (ptr Lq.bU x1), (sli (Lq.bd x1) 0 s6.gB (Lq.cd x1)), ub, (eN i6), (v109 13), (v109 14), (eN x2), (ptr (Lq.bd x1) (x2 * 4)), (ptr (Lq.bd x1) (x2 * 4 + 3)), undef]))) ?_
  refine wD ?_
  refine inb_n (tN ?_)
  refine pL ?_
  refine wI (d_move rfl) ?_
  refine wI (n_add (a := i6) (b := 1) rfl rfl oo) ?_
  refine wI (d_assign rfl) ?_
  refine wD (tN ?_)
  refine ⟨_, ⟨i6 + 1, (s6.setB x1 x2 { s6.bl x1 x2 with bad := true })⟩, rfl, kr, ⟨?_, ?_, ?_, ?_⟩, ?_⟩
  ·
   (try dsimp only)
   all_goals (omega)
  ·
   exact newJ_step hS oo ex1 ex2 hx1 hx2
  ·
   exact o103
  ·
   exact hN
  ·
   (try dsimp only)
   all_goals (omega)
 refine wpIn_exit ?_
 refine then_x (then_x (inb_e ?_))
 refine tN (wQ (pL ?_))
 refine wI (d_move rfl) ?_
 refine wF ([(Value.agg #[(eN D), (eN B), (eN Q)]), ub, (ptr gb 0), undef, (z 4), (z 5), (ptr Lq.bN 0), (eN d)] ++ (zs z 8 5 ++ [(eN i6), (Value.agg #[(eN D), (eN B), (eN Q)]), vT, vF, (Value.agg #[(eN D), (eN B), (eN Q)]), (Value.agg #[(eN D), (eN B), (eN Q), (Value.slice none 0 0), (Value.slice none 0 0), (eN 0), (Value.slice none 0 0), vF, (eN 0), (eN 0)]), (ptr cb 0), (eN d), (ptr gb 0), (eN D), (Value.bool (decide (d < D)))] ++ (zs z 24 51 ++ [(eN i6), ub, (eN lb.length), (Value.bool (decide (i6 < lb.length)))] ++ (zs z 79 33 ++ [(ptr Lq.bN 0)])))) ?_
 refine wI (d_assign rfl) ?_
 refine wI (d_assign rfl) ?_
 refine wD (tN ?_)
 refine wpIn_ret ?_
 refine leave0 (v := (Value.tuple #[(ptr Lq.bN 0), (eN 0)])) (res2 Try.results14 rfl rfl) ?_
 have hi_ : i6 = lb.length := by omega
 rw [hi_, List.take_length] at hS
 have hE_ := newE_ok hS.r
 exact ⟨_, by rw [hE_], oW, fun _ => ⟨Lq, s6, rfl, ⟨hN, hfr⟩, hS⟩⟩
end Go.Proofs.YtpamdlnobekihaaF
