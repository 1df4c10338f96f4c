/- Part of the proof of the law NandPlays, for all its inputs. -/
import Derived.Test.YtpamdlnobekihaaKNandPlays4
set_option linter.unusedVariables false
set_option linter.unusedSimpArgs false
set_option maxRecDepth 20000
set_option maxHeartbeats 4000000
namespace Go.Proofs.YtpamdlnobekihaaF
open Go Shelf YtpamdlnobekihaaS Ram
theorem refIsBad_ok (L : RL) (s : NS) {X : Nat → Prop} (W : World) (hN : Rd L s X W) {r : Bool} (d b : Int) (hr : s.isBad d b = r) :
    CW Try.prog 61 #[(ptr L.bN 0), (eI d), (eI b)] W (Rt (RIs (.bool r) W)) := by
 have oW : Only No W W := Only.refl _ _
 refine enter (al := [(ptr L.bN 0), (eI d), (eI b)]) (k := 21) (l := ([(ptr L.bN 0), (eI d), (eI b)] ++ (us 21))) Try.func61 rfl Try.ntmps61 rfl rfl ?_
 refine wQ (pL ?_)
 refine wI (d_assign rfl) ?_
 refine wD (tN (wQ ?_))
 by_cases k0 : (s.there d b) = true
 ·
  obtain ⟨hd0, hd1, hb0, hb1⟩ := NS.there_of k0
  obtain ⟨dn, rfl⟩ := Int.eq_ofNat_of_zero_le hd0
  replace hd1 : dn < s.gD := Int.ofNat_lt.1 hd1
  refine wp_eq (l' := ([(ptr L.bN 0), (eN dn), (eI b), undef, undef, undef, vF] ++ (us 17))) rfl ?_
  obtain ⟨bn, rfl⟩ := Int.eq_ofNat_of_zero_le hb0
  replace hb1 : bn < s.gB := Int.ofNat_lt.1 hb1
  refine wp_eq (l' := ([(ptr L.bN 0), (eN dn), (eN bn), undef, undef, undef, vF] ++ (us 17))) rfl ?_
  refine pL ?_
  refine wI (d_move rfl) ?_
  refine wI (d_move rfl) ?_
  refine wI (d_move rfl) ?_
  refine wO (d_call (xl := [.tmp 7, .tmp 8, .tmp 9]) (al := [(ptr L.bN 0), (eN dn), (eN bn)]) Try.func43 kr rfl rfl rfl (refThere_ok L s _ hN (r := true) (dn : Int) (bn : Int) k0)) ?_
  rintro _ w11 ⟨rfl, o12⟩
  replace hN := hN.step0 o12
  replace oW := oW.tail0 o12
  refine wI (d_move rfl) ?_
  refine wG (d_move rfl) ?_
  refine wG (d_nilCheck (b := L.bN) (o := 0) rfl) ?_
  refine wF ([(ptr L.bN 0), (eN dn), (eN bn), undef, undef, undef, vF, (ptr L.bN 0), (eN dn), (eN bn), vT, vT, (ptr L.bN 0), (ptr L.bN 0)] ++ (us 10)) ?_
  refine wG (d_fieldAddr (j := 3) Try.underlying81 rfl s_ti78 (by decide) rfl rfl) ?_
  refine wG (rd_ld (v := (sli L.bU 0 s.gD L.cU)) hN ⟨_, Try.underlying78, rfl⟩ rfl (fun _ => rfl)) ?_
  refine wG (d_move rfl) ?_
  refine wG (d_index1 (n := s.gD) (i := dn) Try.underlying78 s_ti82 rfl (show _ = Value.int _ (dn : Int) from rfl) hd1) ?_
  refine wG (rd_ldU (i := dn) hN ⟨_, Try.underlying82, rfl⟩ rfl hd1) ?_
  refine wG (d_move rfl) ?_
  refine wG (d_index (b := (L.bd dn)) (o := 0) (n := s.gB) (c := (L.cd dn)) (j := (bn * 4)) Try.underlying82 s_ti85 rfl (show _ = Value.int _ (bn : Int) from rfl) oo (Int.ofNat_lt.2 hb1) (by simp)) ?_
  refine wF [(ptr L.bN 0), (eN dn), (eN bn), undef, undef, undef, vF, (ptr L.bN 0), (eN dn), (eN bn), vT, vT, (ptr L.bN 0), (ptr L.bN 0), (ptr L.bN 3), (sli L.bU 0 s.gD L.cU), (eN dn), (ptr L.bU dn), (sli (L.bd dn) 0 s.gB (L.cd dn)), (eN bn), (ptr (L.bd dn) (bn * 4)), undef, undef, undef] ?_
  refine wG (d_fieldAddr (j := bn * 4 + 3) Try.underlying85 rfl s_ti4 (by decide) rfl rfl) ?_
  refine wG (rd_ldS (i := dn) (j := bn) (f := 3) hN ⟨_, Try.underlying4, rfl⟩ rfl hd1 hb1 (by decide) rfl) ?_
  refine wI (d_pick (b := true) (v := (Value.bool ((s.bl dn bn).bad))) rfl rfl) ?_
  refine wI (d_assign rfl) ?_
  refine wD (tN ?_)
  refine forget (fun zf13 => (zs zf13 0 6 ++ [(Value.bool ((s.bl dn bn).bad))] ++ (zs zf13 7 17))) kr (fun zf13 => ?_)
  refine wpIn_ret ?_
  refine leave0 (v := (Value.bool ((s.bl dn bn).bad))) (res1 Try.results61 rfl) ?_
  exact ⟨congrArg Value.bool (by rw [← hr]; simp [NS.isBad, *]), oW⟩
 refine pL ?_
 refine wI (d_move rfl) ?_
 refine wI (d_move rfl) ?_
 refine wI (d_move rfl) ?_
 refine wO (d_call (xl := [.tmp 7, .tmp 8, .tmp 9]) (al := [(ptr L.bN 0), (eI d), (eI b)]) Try.func43 kr rfl rfl rfl (refThere_ok L s _ hN (r := false) d b (Bool.eq_false_iff.2 k0))) ?_
 rintro _ w14 ⟨rfl, o15⟩
 replace hN := hN.step0 o15
 replace oW := oW.tail0 o15
 refine wI (d_move rfl) ?_
 refine wX ?_
 refine wF ([(ptr L.bN 0), (eI d), (eI b), undef, undef, undef, vF, (ptr L.bN 0), (eI d), (eI b), vF, vF] ++ (us 12)) ?_
 refine wX ?_
 refine wX ?_
 refine wX ?_
 refine wX ?_
 refine wX ?_
 refine wX ?_
 refine wX ?_
 refine wF ([(ptr L.bN 0), (eI d), (eI b), undef, undef, undef, vF, (ptr L.bN 0), (eI d), (eI b), vF, vF] ++ (us 12)) ?_
 refine wX ?_
 refine wX ?_
 refine wX ?_
 refine wI (d_pick (b := false) (v := vF) rfl rfl) ?_
 refine wI (d_assign rfl) ?_
 refine wD (tN ?_)
 refine forget (fun zf16 => (zs zf16 0 6 ++ [vF] ++ (zs zf16 7 17))) kr (fun zf16 => ?_)
 refine wpIn_ret ?_
 refine leave0 (v := vF) (res1 Try.results61 rfl) ?_
 exact ⟨congrArg Value.bool (by rw [← hr]; simp [NS.isBad, *]), oW⟩
theorem refErases_ok (L : RL) (s : NS) {X : Nat → Prop} (W : World) (hN : Rd L s X W) (d b : Int) :
    CW Try.prog 60 #[(ptr L.bN 0), (eI d), (eI b)] W (Rt (RIs (eI (s.erases d b)) W)) := by
 have oW : Only No W W := Only.refl _ _
 refine enter (al := [(ptr L.bN 0), (eI d), (eI b)]) (k := 20) (l := ([(ptr L.bN 0), (eI d), (eI b)] ++ (us 20))) Try.func60 rfl Try.ntmps60 rfl rfl ?_
 refine wQ (pL ?_)
 refine wI (d_assign rfl) ?_
 refine wD (tN (wQ (wQ ?_)))
 by_cases k0 : (s.there d b) = true
 ·
  refine pL ?_
  refine wI (d_move rfl) ?_
  refine wI (d_move rfl) ?_
  refine wI (d_move rfl) ?_
  refine wO (d_call (xl := [.tmp 7, .tmp 8, .tmp 9]) (al := [(ptr L.bN 0), (eI d), (eI b)]) Try.func43 kr rfl rfl rfl (refThere_ok L s _ hN (r := true) d b k0)) ?_
  rintro _ w11 ⟨rfl, o12⟩
  replace hN := hN.step0 o12
  replace oW := oW.tail0 o12
  refine wI (d_not rfl rfl) ?_
  refine wD (tN ?_)
  refine cond_f rfl ?_
  refine wK (tN (wQ ?_))
  obtain ⟨hd0, hd1, hb0, hb1⟩ := NS.there_of k0
  obtain ⟨dn, rfl⟩ := Int.eq_ofNat_of_zero_le hd0
  replace hd1 : dn < s.gD := Int.ofNat_lt.1 hd1
  refine wp_eq (l' := ([(ptr L.bN 0), (eN dn), (eI b), undef, undef, undef, (eN 0), (ptr L.bN 0), (eN dn), (eI b), vT, vF] ++ (us 11))) rfl ?_
  obtain ⟨bn, rfl⟩ := Int.eq_ofNat_of_zero_le hb0
  replace hb1 : bn < s.gB := Int.ofNat_lt.1 hb1
  refine wp_eq (l' := ([(ptr L.bN 0), (eN dn), (eN bn), undef, undef, undef, (eN 0), (ptr L.bN 0), (eN dn), (eN bn), vT, vF] ++ (us 11))) rfl ?_
  refine pL ?_
  refine wI (d_move rfl) ?_
  refine wI (d_nilCheck (b := L.bN) (o := 0) rfl) ?_
  refine wI (d_fieldAddr (j := 3) Try.underlying81 rfl s_ti78 (by decide) rfl rfl) ?_
  refine wI (rd_ld (v := (sli L.bU 0 s.gD L.cU)) hN ⟨_, Try.underlying78, rfl⟩ rfl (fun _ => rfl)) ?_
  refine wI (d_move rfl) ?_
  refine wI (d_index1 (n := s.gD) (i := dn) Try.underlying78 s_ti82 rfl (show _ = Value.int _ (dn : Int) from rfl) hd1) ?_
  refine wI (rd_ldU (i := dn) hN ⟨_, Try.underlying82, rfl⟩ rfl hd1) ?_
  refine wI (d_move rfl) ?_
  refine wI (d_index (b := (L.bd dn)) (o := 0) (n := s.gB) (c := (L.cd dn)) (j := (bn * 4)) Try.underlying82 s_ti85 rfl (show _ = Value.int _ (bn : Int) from rfl) oo (Int.ofNat_lt.2 hb1) (by simp)) ?_
  refine wF [(ptr L.bN 0), (eN dn), (eN bn), undef, undef, undef, (eN 0), (ptr L.bN 0), (eN dn), (eN bn), vT, vF, (ptr L.bN 0), (ptr L.bN 0), (ptr L.bN 3), (sli L.bU 0 s.gD L.cU), (eN dn), (ptr L.bU dn), (sli (L.bd dn) 0 s.gB (L.cd dn)), (eN bn), (ptr (L.bd dn) (bn * 4)), undef, undef] ?_
  refine wI (d_fieldAddr (j := bn * 4 + 2) Try.underlying85 rfl s_ti3 (by decide) rfl rfl) ?_
  refine wI (rd_ldS (i := dn) (j := bn) (f := 2) hN ⟨_, Try.underlying3, rfl⟩ rfl hd1 hb1 (by decide) rfl) ?_
  refine wI (d_assign rfl) ?_
  refine wD (tN ?_)
  refine forget (fun zf13 => (zs zf13 0 6 ++ [(eI ((s.bl dn bn).er))] ++ (zs zf13 7 16))) kr (fun zf13 => ?_)
  refine wpIn_ret ?_
  refine leave0 (v := (eI ((s.bl dn bn).er))) (res1 Try.results60 rfl) ?_
  exact ⟨congrArg eI (by unfold NS.erases; rw [if_pos k0]; rfl), oW⟩
 refine pL ?_
 refine wI (d_move rfl) ?_
 refine wI (d_move rfl) ?_
 refine wI (d_move rfl) ?_
 refine wO (d_call (xl := [.tmp 7, .tmp 8, .tmp 9]) (al := [(ptr L.bN 0), (eI d), (eI b)]) Try.func43 kr rfl rfl rfl (refThere_ok L s _ hN (r := false) d b (Bool.eq_false_iff.2 k0))) ?_
 rintro _ w14 ⟨rfl, o15⟩
 replace hN := hN.step0 o15
 replace oW := oW.tail0 o15
 refine wI (d_not rfl rfl) ?_
 refine wD (tN ?_)
 refine cond_t rfl ?_
 refine wQ (pL ?_)
 refine wI (d_assign rfl) ?_
 refine wD (tN ?_)
 refine forget (fun zf16 => (zs zf16 0 6 ++ [(eN 0)] ++ (zs zf16 7 16))) kr (fun zf16 => ?_)
 refine wpIn_ret ?_
 refine then_r ?_
 refine leave0 (v := (eN 0)) (res1 Try.results60 rfl) ?_
 exact ⟨congrArg eI (by unfold NS.erases; rw [if_neg k0]; rfl), oW⟩
theorem refMay_ok (L : RL) (s : NS) {X : Nat → Prop} (W : World) (hN : Rd L s X W) {g : Bool} (d b p : Int) (fine : Bool) (hg : s.mayOk d b p fine = g) :
    CW Try.prog 64 #[(ptr L.bN 0), (eI d), (eI b), (eI p), (Value.bool fine)] W (Rt (fun u w => u = eN (s.askR g) ∧ Rd L (s.may g) X w ∧ Only L.S W w)) := by
 have oW : Only L.S W W := Only.refl _ _
 refine enter (al := [(ptr L.bN 0), (eI d), (eI b), (eI p), (Value.bool fine)]) (k := 52) (l := ([(ptr L.bN 0), (eI d), (eI b), (eI p), (Value.bool fine)] ++ (us 52))) Try.func64 rfl Try.ntmps64 rfl rfl ?_
 refine wQ (pL ?_)
 refine wI (d_assign rfl) ?_
 refine wD (tN (wQ (wQ (pL ?_))))
 refine wI (d_move rfl) ?_
 refine wI (d_nilCheck (b := L.bN) (o := 0) rfl) ?_
 refine wI (d_fieldAddr (j := 7) Try.underlying81 rfl s_ti4 (by decide) rfl rfl) ?_
 refine wI (rd_ld (v := (Value.bool s.dead)) hN ⟨_, Try.underlying4, rfl⟩ rfl (fun _ => rfl)) ?_
 refine wD (tN ?_)
 refine cond_b rfl (fun c0 => ?_) (fun c0 => ?_)
 ·
  refine wQ (pL ?_)
  refine wI (d_assign rfl) ?_
  refine wD (tN ?_)
  refine forget (fun zf11 => (zs zf11 0 10 ++ [(eN 8)] ++ (zs zf11 11 46))) kr (fun zf11 => ?_)
  refine wpIn_ret ?_
  refine then_r ?_
  refine leave0 (v := (eN 8)) (res1 Try.results64 rfl) ?_
  exact ⟨congrArg eN (by simp [NS.askR, c0]), rd_to hN (NS.may_dead c0).symm, oW⟩
 refine wK (tN (wQ (wQ ?_)))
 by_cases k0 : (s.there d b) = true
 ·
  obtain ⟨hd0, hd1, hb0, hb1⟩ := NS.there_of k0
  obtain ⟨dn, rfl⟩ := Int.eq_ofNat_of_zero_le hd0
  replace hd1 : dn < s.gD := Int.ofNat_lt.1 hd1
  refine wp_eq (l' := ([(ptr L.bN 0), (eN dn), (eI b), (eI p), (Value.bool fine)] ++ (us 5 ++ [(eN 0), (ptr L.bN 0), (ptr L.bN 0), (ptr L.bN 7), (Value.bool s.dead)] ++ (us 42)))) rfl ?_
  obtain ⟨bn, rfl⟩ := Int.eq_ofNat_of_zero_le hb0
  replace hb1 : bn < s.gB := Int.ofNat_lt.1 hb1
  refine wp_eq (l' := ([(ptr L.bN 0), (eN dn), (eN bn), (eI p), (Value.bool fine)] ++ (us 5 ++ [(eN 0), (ptr L.bN 0), (ptr L.bN 0), (ptr L.bN 7), (Value.bool s.dead)] ++ (us 42)))) rfl ?_
  by_cases k1 : (s.bl dn bn).bad = true
  ·
   refine pL ?_
   refine wI (d_move rfl) ?_
   refine wI (d_move rfl) ?_
   refine wI (d_move rfl) ?_
   refine wO (d_call (xl := [.tmp 15, .tmp 16, .tmp 17]) (al := [(ptr L.bN 0), (eN dn), (eN bn)]) Try.func43 kr rfl rfl rfl (refThere_ok L s _ hN (r := true) (dn : Int) (bn : Int) k0)) ?_
   rintro _ w12 ⟨rfl, o13⟩
   replace hN := hN.step0 o13
   replace oW := oW.tail0 o13
   refine wI (d_not rfl rfl) ?_
   refine wI (d_move rfl) ?_
   refine wG (d_move rfl) ?_
   refine wF ([(ptr L.bN 0), (eN dn), (eN bn), (eI p), (Value.bool fine)] ++ (us 5 ++ [(eN 0), (ptr L.bN 0), (ptr L.bN 0), (ptr L.bN 7), (Value.bool s.dead), (ptr L.bN 0), (eN dn), (eN bn), vT, vF, vF, (ptr L.bN 0)] ++ (us 35))) ?_
   refine wG (d_nilCheck (b := L.bN) (o := 0) rfl) ?_
   refine wG (d_fieldAddr (j := 3) Try.underlying81 rfl s_ti78 (by decide) rfl rfl) ?_
   refine wG (rd_ld (v := (sli L.bU 0 s.gD L.cU)) hN ⟨_, Try.underlying78, rfl⟩ rfl (fun _ => rfl)) ?_
   refine wG (d_move rfl) ?_
   refine wG (d_index1 (n := s.gD) (i := dn) Try.underlying78 s_ti82 rfl (show _ = Value.int _ (dn : Int) from rfl) hd1) ?_
   refine wG (rd_ldU (i := dn) hN ⟨_, Try.underlying82, rfl⟩ rfl hd1) ?_
   refine wG (d_move rfl) ?_
   refine wF ([(ptr L.bN 0), (eN dn), (eN bn), (eI p), (Value.bool fine)] ++ (us 5 ++ [(eN 0), (ptr L.bN 0), (ptr L.bN 0), (ptr L.bN 7), (Value.bool s.dead), (ptr L.bN 0), (eN dn), (eN bn), vT, vF, vF, (ptr L.bN 0), (ptr L.bN 0), (ptr L.bN 3), (sli L.bU 0 s.gD L.cU), (eN dn), (ptr L.bU dn), (sli (L.bd dn) 0 s.gB (L.cd dn)), (eN bn)] ++ (us 28))) ?_
   refine wG (d_index (b := (L.bd dn)) (o := 0) (n := s.gB) (c := (L.cd dn)) (j := (bn * 4)) Try.underlying82 s_ti85 rfl (show _ = Value.int _ (bn : Int) from rfl) oo (Int.ofNat_lt.2 hb1) (by simp)) ?_
   refine wG (d_fieldAddr (j := bn * 4 + 3) Try.underlying85 rfl s_ti4 (by decide) rfl rfl) ?_
   refine wG (dv_to (v := .bool (s.bl dn bn).bad) (rd_ldS (i := dn) (j := bn) (f := 3) hN ⟨_, Try.underlying4, rfl⟩ rfl hd1 hb1 (by decide) rfl) (congrArg Value.bool k1)) ?_
   refine wI (d_pick (b := false) (v := vT) rfl rfl) ?_
   refine wI (d_move rfl) ?_
   refine wX ?_
   refine wX ?_
   refine wI (d_pick (b := true) (v := vT) rfl rfl) ?_
   refine wF ([(ptr L.bN 0), (eN dn), (eN bn), (eI p), (Value.bool fine)] ++ (us 5 ++ [(eN 0), (ptr L.bN 0), (ptr L.bN 0), (ptr L.bN 7), (Value.bool s.dead), (ptr L.bN 0), (eN dn), (eN bn), vT, vF, vF, (ptr L.bN 0), (ptr L.bN 0), (ptr L.bN 3), (sli L.bU 0 s.gD L.cU), (eN dn), (ptr L.bU dn), (sli (L.bd dn) 0 s.gB (L.cd dn)), (eN bn), (ptr (L.bd dn) (bn * 4)), (ptr (L.bd dn) (bn * 4 + 3)), vT, vT, vT, undef, undef, vT] ++ (us 20))) ?_
   refine wI (d_move rfl) ?_
   refine wX ?_
   refine wX ?_
   refine wX ?_
   refine wX ?_
   refine wX ?_
   refine wX ?_
   refine wF ([(ptr L.bN 0), (eN dn), (eN bn), (eI p), (Value.bool fine)] ++ (us 5 ++ [(eN 0), (ptr L.bN 0), (ptr L.bN 0), (ptr L.bN 7), (Value.bool s.dead), (ptr L.bN 0), (eN dn), (eN bn), vT, vF, vF, (ptr L.bN 0), (ptr L.bN 0), (ptr L.bN 3), (sli L.bU 0 s.gD L.cU), (eN dn), (ptr L.bU dn), (sli (L.bd dn) 0 s.gB (L.cd dn)), (eN bn), (ptr (L.bd dn) (bn * 4)), (ptr (L.bd dn) (bn * 4 + 3)), vT, vT, vT, undef, undef, vT, vT] ++ (us 19))) ?_
   refine wX ?_
   refine wI (d_pick (b := true) (v := vT) rfl rfl) ?_
   refine wI (d_move rfl) ?_
   refine wX ?_
   refine wX ?_
   refine wI (d_pick (b := true) (v := vT) rfl rfl) ?_
   refine wD (tN ?_)
   refine forget (fun zf14 => ([(ptr L.bN 0)] ++ (zs zf14 1 48 ++ [vT] ++ (zs zf14 50 7)))) kr (fun zf14 => ?_)
   refine cond_t rfl ?_
   refine wQ (pL ?_)
   refine wI (d_move rfl) ?_
   refine wI (d_nilCheck (b := L.bN) (o := 0) rfl) ?_
   refine wI (d_fieldAddr (j := 9) Try.underlying81 rfl s_ti3 (by decide) rfl rfl) ?_
   refine wI (rd_ld (v := (eI s.wrong)) hN ⟨_, Try.underlying3, rfl⟩ rfl (fun _ => rfl)) ?_
   refine wI (d_add (k := .i64) (m := s.wrong) (n := 1) rfl rfl rfl) ?_
   refine wI (d_nilCheck (b := L.bN) (o := 0) rfl) ?_
   refine wI (d_fieldAddr (j := 9) Try.underlying81 rfl s_ti3 (by decide) rfl rfl) ?_
   refine wO (rd_st (s' := { s with wrong := IntKind.i64.wrap (s.wrong + 1) }) (i := 9) (v := (eI (IntKind.i64.wrap (s.wrong + 1)))) hN s_ti3 rfl rfl rfl (by decide) (fun _ => rfl) ⟨hN.ok.d, hN.ok.b, hN.ok.p, hN.ok.nx, hN.ok.st, hN.ok.dl, hN.ok.nl, hN.ok.ml⟩ ⟨rfl, rfl, rfl, rfl, rfl, rfl, rfl⟩) ?_
   rintro _ w15 ⟨a16, o17⟩
   replace oW := oW.tail o17 (fun k _ e => (fun k h => h) k e)
   replace hN := a16
   refine wD (tN ?_)
   refine forget (fun zf18 => (zs zf18 0 57)) kr (fun zf18 => ?_)
   refine wQ (pL ?_)
   refine wI (d_assign rfl) ?_
   refine wD (tN ?_)
   refine wpIn_ret ?_
   refine then_r ?_
   refine leave0 (v := (eN 1)) (res1 Try.results64 rfl) ?_
   have c0' : s.dead = false := by simpa using c0
   have hg_ : g = false := by rw [← hg]; simp [NS.mayOk, NS.isBad, *] <;> first | omega | (intros; omega) | (simp_all; done)
   exact ⟨congrArg eN (by rw [hg_]; simp [NS.askR, c0']), rd_to hN (by rw [hg_]; exact NS.may_false c0'), oW⟩
  by_cases k2 : p < 0
  ·
   refine pL ?_
   refine wI (d_move rfl) ?_
   refine wI (d_move rfl) ?_
   refine wI (d_move rfl) ?_
   refine wO (d_call (xl := [.tmp 15, .tmp 16, .tmp 17]) (al := [(ptr L.bN 0), (eN dn), (eN bn)]) Try.func43 kr rfl rfl rfl (refThere_ok L s _ hN (r := true) (dn : Int) (bn : Int) k0)) ?_
   rintro _ w19 ⟨rfl, o20⟩
   replace hN := hN.step0 o20
   replace oW := oW.tail0 o20
   refine wI (d_not rfl rfl) ?_
   refine wI (d_move rfl) ?_
   refine wG (d_move rfl) ?_
   refine wF ([(ptr L.bN 0), (eN dn), (eN bn), (eI p), (Value.bool fine)] ++ (us 5 ++ [(eN 0), (ptr L.bN 0), (ptr L.bN 0), (ptr L.bN 7), (Value.bool s.dead), (ptr L.bN 0), (eN dn), (eN bn), vT, vF, vF, (ptr L.bN 0)] ++ (us 35))) ?_
   refine wG (d_nilCheck (b := L.bN) (o := 0) rfl) ?_
   refine wG (d_fieldAddr (j := 3) Try.underlying81 rfl s_ti78 (by decide) rfl rfl) ?_
   refine wG (rd_ld (v := (sli L.bU 0 s.gD L.cU)) hN ⟨_, Try.underlying78, rfl⟩ rfl (fun _ => rfl)) ?_
   refine wG (d_move rfl) ?_
   refine wG (d_index1 (n := s.gD) (i := dn) Try.underlying78 s_ti82 rfl (show _ = Value.int _ (dn : Int) from rfl) hd1) ?_
   refine wG (rd_ldU (i := dn) hN ⟨_, Try.underlying82, rfl⟩ rfl hd1) ?_
   refine wG (d_move rfl) ?_
   refine wF ([(ptr L.bN 0), (eN dn), (eN bn), (eI p), (Value.bool fine)] ++ (us 5 ++ [(eN 0), (ptr L.bN 0), (ptr L.bN 0), (ptr L.bN 7), (Value.bool s.dead), (ptr L.bN 0), (eN dn), (eN bn), vT, vF, vF, (ptr L.bN 0), (ptr L.bN 0), (ptr L.bN 3), (sli L.bU 0 s.gD L.cU), (eN dn), (ptr L.bU dn), (sli (L.bd dn) 0 s.gB (L.cd dn)), (eN bn)] ++ (us 28))) ?_
   refine wG (d_index (b := (L.bd dn)) (o := 0) (n := s.gB) (c := (L.cd dn)) (j := (bn * 4)) Try.underlying82 s_ti85 rfl (show _ = Value.int _ (bn : Int) from rfl) oo (Int.ofNat_lt.2 hb1) (by simp)) ?_
   refine wG (d_fieldAddr (j := bn * 4 + 3) Try.underlying85 rfl s_ti4 (by decide) rfl rfl) ?_
   refine wG (dv_to (v := .bool (s.bl dn bn).bad) (rd_ldS (i := dn) (j := bn) (f := 3) hN ⟨_, Try.underlying4, rfl⟩ rfl hd1 hb1 (by decide) rfl) (congrArg Value.bool (Bool.eq_false_iff.2 k1))) ?_
   refine wI (d_pick (b := false) (v := vF) rfl rfl) ?_
   refine wI (d_move rfl) ?_
   refine wG (d_move rfl) ?_
   refine wG (d_lss (k := .i64) (m := p) (n := 0) rfl rfl (decide_eq_true k2)) ?_
   refine wF ([(ptr L.bN 0), (eN dn), (eN bn), (eI p), (Value.bool fine)] ++ (us 5 ++ [(eN 0), (ptr L.bN 0), (ptr L.bN 0), (ptr L.bN 7), (Value.bool s.dead), (ptr L.bN 0), (eN dn), (eN bn), vT, vF, vF, (ptr L.bN 0), (ptr L.bN 0), (ptr L.bN 3), (sli L.bU 0 s.gD L.cU), (eN dn), (ptr L.bU dn), (sli (L.bd dn) 0 s.gB (L.cd dn)), (eN bn), (ptr (L.bd dn) (bn * 4)), (ptr (L.bd dn) (bn * 4 + 3)), vF, vF, vF, (eI p), vT] ++ (us 21))) ?_
   refine wI (d_pick (b := false) (v := vT) rfl rfl) ?_
   refine wI (d_move rfl) ?_
   refine wX ?_
   refine wX ?_
   refine wX ?_
   refine wX ?_
   refine wX ?_
   refine wF ([(ptr L.bN 0), (eN dn), (eN bn), (eI p), (Value.bool fine)] ++ (us 5 ++ [(eN 0), (ptr L.bN 0), (ptr L.bN 0), (ptr L.bN 7), (Value.bool s.dead), (ptr L.bN 0), (eN dn), (eN bn), vT, vF, vF, (ptr L.bN 0), (ptr L.bN 0), (ptr L.bN 3), (sli L.bU 0 s.gD L.cU), (eN dn), (ptr L.bU dn), (sli (L.bd dn) 0 s.gB (L.cd dn)), (eN bn), (ptr (L.bd dn) (bn * 4)), (ptr (L.bd dn) (bn * 4 + 3)), vF, vF, vF, (eI p), vT, vT, vT] ++ (us 19))) ?_
   refine wX ?_
   refine wX ?_
   refine wI (d_pick (b := true) (v := vT) rfl rfl) ?_
   refine wI (d_move rfl) ?_
   refine wX ?_
   refine wX ?_
   refine wI (d_pick (b := true) (v := vT) rfl rfl) ?_
   refine wF ([(ptr L.bN 0), (eN dn), (eN bn), (eI p), (Value.bool fine)] ++ (us 5 ++ [(eN 0), (ptr L.bN 0), (ptr L.bN 0), (ptr L.bN 7), (Value.bool s.dead), (ptr L.bN 0), (eN dn), (eN bn), vT, vF, vF, (ptr L.bN 0), (ptr L.bN 0), (ptr L.bN 3), (sli L.bU 0 s.gD L.cU), (eN dn), (ptr L.bU dn), (sli (L.bd dn) 0 s.gB (L.cd dn)), (eN bn), (ptr (L.bd dn) (bn * 4)), (ptr (L.bd dn) (bn * 4 + 3)), vF, vF, vF, (eI p), vT, vT, vT] ++ (us 7 ++ [vT, vT, undef, undef, vT] ++ (us 7)))) ?_
   refine wD (tN ?_)
   refine forget (fun zf21 => ([(ptr L.bN 0)] ++ (zs zf21 1 48 ++ [vT] ++ (zs zf21 50 7)))) kr (fun zf21 => ?_)
   refine cond_t rfl ?_
   refine wQ (pL ?_)
   refine wI (d_move rfl) ?_
   refine wI (d_nilCheck (b := L.bN) (o := 0) rfl) ?_
   refine wI (d_fieldAddr (j := 9) Try.underlying81 rfl s_ti3 (by decide) rfl rfl) ?_
   refine wI (rd_ld (v := (eI s.wrong)) hN ⟨_, Try.underlying3, rfl⟩ rfl (fun _ => rfl)) ?_
   refine wI (d_add (k := .i64) (m := s.wrong) (n := 1) rfl rfl rfl) ?_
   refine wI (d_nilCheck (b := L.bN) (o := 0) rfl) ?_
   refine wI (d_fieldAddr (j := 9) Try.underlying81 rfl s_ti3 (by decide) rfl rfl) ?_
   refine wO (rd_st (s' := { s with wrong := IntKind.i64.wrap (s.wrong + 1) }) (i := 9) (v := (eI (IntKind.i64.wrap (s.wrong + 1)))) hN s_ti3 rfl rfl rfl (by decide) (fun _ => rfl) ⟨hN.ok.d, hN.ok.b, hN.ok.p, hN.ok.nx, hN.ok.st, hN.ok.dl, hN.ok.nl, hN.ok.ml⟩ ⟨rfl, rfl, rfl, rfl, rfl, rfl, rfl⟩) ?_
   rintro _ w22 ⟨a23, o24⟩
   replace oW := oW.tail o24 (fun k _ e => (fun k h => h) k e)
   replace hN := a23
   refine wD (tN ?_)
   refine forget (fun zf25 => (zs zf25 0 57)) kr (fun zf25 => ?_)
   refine wQ (pL ?_)
   refine wI (d_assign rfl) ?_
   refine wD (tN ?_)
   refine wpIn_ret ?_
   refine then_r ?_
   refine leave0 (v := (eN 1)) (res1 Try.results64 rfl) ?_
   have c0' : s.dead = false := by simpa using c0
   have hg_ : g = false := by rw [← hg]; simp [NS.mayOk, NS.isBad, *] <;> first | omega | (intros; omega) | (simp_all; done)
   exact ⟨congrArg eN (by rw [hg_]; simp [NS.askR, c0']), rd_to hN (by rw [hg_]; exact NS.may_false c0'), oW⟩
  by_cases k3 : (s.gP : Int) ≤ p
  ·
   refine pL ?_
   refine wI (d_move rfl) ?_
   refine wI (d_move rfl) ?_
   refine wI (d_move rfl) ?_
   refine wO (d_call (xl := [.tmp 15, .tmp 16, .tmp 17]) (al := [(ptr L.bN 0), (eN dn), (eN bn)]) Try.func43 kr rfl rfl rfl (refThere_ok L s _ hN (r := true) (dn : Int) (bn : Int) k0)) ?_
   rintro _ w26 ⟨rfl, o27⟩
   replace hN := hN.step0 o27
   replace oW := oW.tail0 o27
   refine wI (d_not rfl rfl) ?_
   refine wI (d_move rfl) ?_
   refine wG (d_move rfl) ?_
   refine wF ([(ptr L.bN 0), (eN dn), (eN bn), (eI p), (Value.bool fine)] ++ (us 5 ++ [(eN 0), (ptr L.bN 0), (ptr L.bN 0), (ptr L.bN 7), (Value.bool s.dead), (ptr L.bN 0), (eN dn), (eN bn), vT, vF, vF, (ptr L.bN 0)] ++ (us 35))) ?_
   refine wG (d_nilCheck (b := L.bN) (o := 0) rfl) ?_
   refine wG (d_fieldAddr (j := 3) Try.underlying81 rfl s_ti78 (by decide) rfl rfl) ?_
   refine wG (rd_ld (v := (sli L.bU 0 s.gD L.cU)) hN ⟨_, Try.underlying78, rfl⟩ rfl (fun _ => rfl)) ?_
   refine wG (d_move rfl) ?_
   refine wG (d_index1 (n := s.gD) (i := dn) Try.underlying78 s_ti82 rfl (show _ = Value.int _ (dn : Int) from rfl) hd1) ?_
   refine wG (rd_ldU (i := dn) hN ⟨_, Try.underlying82, rfl⟩ rfl hd1) ?_
   refine wG (d_move rfl) ?_
   refine wF ([(ptr L.bN 0), (eN dn), (eN bn), (eI p), (Value.bool fine)] ++ (us 5 ++ [(eN 0), (ptr L.bN 0), (ptr L.bN 0), (ptr L.bN 7), (Value.bool s.dead), (ptr L.bN 0), (eN dn), (eN bn), vT, vF, vF, (ptr L.bN 0), (ptr L.bN 0), (ptr L.bN 3), (sli L.bU 0 s.gD L.cU), (eN dn), (ptr L.bU dn), (sli (L.bd dn) 0 s.gB (L.cd dn)), (eN bn)] ++ (us 28))) ?_
   refine wG (d_index (b := (L.bd dn)) (o := 0) (n := s.gB) (c := (L.cd dn)) (j := (bn * 4)) Try.underlying82 s_ti85 rfl (show _ = Value.int _ (bn : Int) from rfl) oo (Int.ofNat_lt.2 hb1) (by simp)) ?_
   refine wG (d_fieldAddr (j := bn * 4 + 3) Try.underlying85 rfl s_ti4 (by decide) rfl rfl) ?_
   refine wG (dv_to (v := .bool (s.bl dn bn).bad) (rd_ldS (i := dn) (j := bn) (f := 3) hN ⟨_, Try.underlying4, rfl⟩ rfl hd1 hb1 (by decide) rfl) (congrArg Value.bool (Bool.eq_false_iff.2 k1))) ?_
   refine wI (d_pick (b := false) (v := vF) rfl rfl) ?_
   refine wI (d_move rfl) ?_
   refine wG (d_move rfl) ?_
   refine wG (d_lss (k := .i64) (m := p) (n := 0) rfl rfl (decide_eq_false k2)) ?_
   refine wF ([(ptr L.bN 0), (eN dn), (eN bn), (eI p), (Value.bool fine)] ++ (us 5 ++ [(eN 0), (ptr L.bN 0), (ptr L.bN 0), (ptr L.bN 7), (Value.bool s.dead), (ptr L.bN 0), (eN dn), (eN bn), vT, vF, vF, (ptr L.bN 0), (ptr L.bN 0), (ptr L.bN 3), (sli L.bU 0 s.gD L.cU), (eN dn), (ptr L.bU dn), (sli (L.bd dn) 0 s.gB (L.cd dn)), (eN bn), (ptr (L.bd dn) (bn * 4)), (ptr (L.bd dn) (bn * 4 + 3)), vF, vF, vF, (eI p), vF] ++ (us 21))) ?_
   refine wI (d_pick (b := false) (v := vF) rfl rfl) ?_
   refine wI (d_move rfl) ?_
   refine wG (d_move rfl) ?_
   refine wG (d_move rfl) ?_
   refine wG (d_nilCheck (b := L.bN) (o := 0) rfl) ?_
   refine wG (d_fieldAddr (j := 0) Try.underlying81 rfl s_ti23 (by decide) rfl rfl) ?_
   refine wG (d_fieldAddr (j := 2) Try.underlying23 rfl s_ti3 (by decide) rfl rfl) ?_
   refine wF ([(ptr L.bN 0), (eN dn), (eN bn), (eI p), (Value.bool fine)] ++ (us 5 ++ [(eN 0), (ptr L.bN 0), (ptr L.bN 0), (ptr L.bN 7), (Value.bool s.dead), (ptr L.bN 0), (eN dn), (eN bn), vT, vF, vF, (ptr L.bN 0), (ptr L.bN 0), (ptr L.bN 3), (sli L.bU 0 s.gD L.cU), (eN dn), (ptr L.bU dn), (sli (L.bd dn) 0 s.gB (L.cd dn)), (eN bn), (ptr (L.bd dn) (bn * 4)), (ptr (L.bd dn) (bn * 4 + 3)), vF, vF, vF, (eI p), vF, vF, vF, (eI p), (ptr L.bN 0), (ptr L.bN 0), (ptr L.bN 0), (ptr L.bN 2)] ++ (us 14))) ?_
   refine wG (rd_ld (v := (eN s.gP)) hN ⟨_, Try.underlying3, rfl⟩ rfl (fun _ => rfl)) ?_
   refine wG (d_geq (k := .i64) (m := p) (n := (s.gP : Int)) rfl rfl (decide_eq_true k3)) ?_
   refine wI (d_pick (b := false) (v := vT) rfl rfl) ?_
   refine wI (d_move rfl) ?_
   refine wX ?_
   refine wX ?_
   refine wI (d_pick (b := true) (v := vT) rfl rfl) ?_
   refine wF ([(ptr L.bN 0), (eN dn), (eN bn), (eI p), (Value.bool fine)] ++ (us 5 ++ [(eN 0), (ptr L.bN 0), (ptr L.bN 0), (ptr L.bN 7), (Value.bool s.dead), (ptr L.bN 0), (eN dn), (eN bn), vT, vF, vF, (ptr L.bN 0), (ptr L.bN 0), (ptr L.bN 3), (sli L.bU 0 s.gD L.cU), (eN dn), (ptr L.bU dn), (sli (L.bd dn) 0 s.gB (L.cd dn)), (eN bn), (ptr (L.bd dn) (bn * 4)), (ptr (L.bd dn) (bn * 4 + 3)), vF, vF, vF, (eI p), vF, vF, vF, (eI p), (ptr L.bN 0), (ptr L.bN 0), (ptr L.bN 0), (ptr L.bN 2), (eN s.gP), vT, vT, vT, undef, undef, vT] ++ (us 7))) ?_
   refine wD (tN ?_)
   refine forget (fun zf28 => ([(ptr L.bN 0)] ++ (zs zf28 1 48 ++ [vT] ++ (zs zf28 50 7)))) kr (fun zf28 => ?_)
   refine cond_t rfl ?_
   refine wQ (pL ?_)
   refine wI (d_move rfl) ?_
   refine wI (d_nilCheck (b := L.bN) (o := 0) rfl) ?_
   refine wI (d_fieldAddr (j := 9) Try.underlying81 rfl s_ti3 (by decide) rfl rfl) ?_
   refine wI (rd_ld (v := (eI s.wrong)) hN ⟨_, Try.underlying3, rfl⟩ rfl (fun _ => rfl)) ?_
   refine wI (d_add (k := .i64) (m := s.wrong) (n := 1) rfl rfl rfl) ?_
   refine wI (d_nilCheck (b := L.bN) (o := 0) rfl) ?_
   refine wI (d_fieldAddr (j := 9) Try.underlying81 rfl s_ti3 (by decide) rfl rfl) ?_
   refine wO (rd_st (s' := { s with wrong := IntKind.i64.wrap (s.wrong + 1) }) (i := 9) (v := (eI (IntKind.i64.wrap (s.wrong + 1)))) hN s_ti3 rfl rfl rfl (by decide) (fun _ => rfl) ⟨hN.ok.d, hN.ok.b, hN.ok.p, hN.ok.nx, hN.ok.st, hN.ok.dl, hN.ok.nl, hN.ok.ml⟩ ⟨rfl, rfl, rfl, rfl, rfl, rfl, rfl⟩) ?_
   rintro _ w29 ⟨a30, o31⟩
   replace oW := oW.tail o31 (fun k _ e => (fun k h => h) k e)
   replace hN := a30
   refine wD (tN ?_)
   refine forget (fun zf32 => (zs zf32 0 57)) kr (fun zf32 => ?_)
   refine wQ (pL ?_)
   refine wI (d_assign rfl) ?_
   refine wD (tN ?_)
   refine wpIn_ret ?_
   refine then_r ?_
   refine leave0 (v := (eN 1)) (res1 Try.results64 rfl) ?_
   have c0' : s.dead = false := by simpa using c0
   have hg_ : g = false := by rw [← hg]; simp [NS.mayOk, NS.isBad, *] <;> first | omega | (intros; omega) | (simp_all; done)
   exact ⟨congrArg eN (by rw [hg_]; simp [NS.askR, c0']), rd_to hN (by rw [hg_]; exact NS.may_false c0'), oW⟩
  refine pL ?_
  refine wI (d_move rfl) ?_
  refine wI (d_move rfl) ?_
  refine wI (d_move rfl) ?_
  refine wO (d_call (xl := [.tmp 15, .tmp 16, .tmp 17]) (al := [(ptr L.bN 0), (eN dn), (eN bn)]) Try.func43 kr rfl rfl rfl (refThere_ok L s _ hN (r := true) (dn : Int) (bn : Int) k0)) ?_
  rintro _ w33 ⟨rfl, o34⟩
  replace hN := hN.step0 o34
  replace oW := oW.tail0 o34
  refine wI (d_not rfl rfl) ?_
  refine wI (d_move rfl) ?_
  refine wG (d_move rfl) ?_
  refine wF ([(ptr L.bN 0), (eN dn), (eN bn), (eI p), (Value.bool fine)] ++ (us 5 ++ [(eN 0), (ptr L.bN 0), (ptr L.bN 0), (ptr L.bN 7), (Value.bool s.dead), (ptr L.bN 0), (eN dn), (eN bn), vT, vF, vF, (ptr L.bN 0)] ++ (us 35))) ?_
  refine wG (d_nilCheck (b := L.bN) (o := 0) rfl) ?_
  refine wG (d_fieldAddr (j := 3) Try.underlying81 rfl s_ti78 (by decide) rfl rfl) ?_
  refine wG (rd_ld (v := (sli L.bU 0 s.gD L.cU)) hN ⟨_, Try.underlying78, rfl⟩ rfl (fun _ => rfl)) ?_
  refine wG (d_move rfl) ?_
  refine wG (d_index1 (n := s.gD) (i := dn) Try.underlying78 s_ti82 rfl (show _ = Value.int _ (dn : Int) from rfl) hd1) ?_
  refine wG (rd_ldU (i := dn) hN ⟨_, Try.underlying82, rfl⟩ rfl hd1) ?_
  refine wG (d_move rfl) ?_
  refine wF ([(ptr L.bN 0), (eN dn), (eN bn), (eI p), (Value.bool fine)] ++ (us 5 ++ [(eN 0), (ptr L.bN 0), (ptr L.bN 0), (ptr L.bN 7), (Value.bool s.dead), (ptr L.bN 0), (eN dn), (eN bn), vT, vF, vF, (ptr L.bN 0), (ptr L.bN 0), (ptr L.bN 3), (sli L.bU 0 s.gD L.cU), (eN dn), (ptr L.bU dn), (sli (L.bd dn) 0 s.gB (L.cd dn)), (eN bn)] ++ (us 28))) ?_
  refine wG (d_index (b := (L.bd dn)) (o := 0) (n := s.gB) (c := (L.cd dn)) (j := (bn * 4)) Try.underlying82 s_ti85 rfl (show _ = Value.int _ (bn : Int) from rfl) oo (Int.ofNat_lt.2 hb1) (by simp)) ?_
  refine wG (d_fieldAddr (j := bn * 4 + 3) Try.underlying85 rfl s_ti4 (by decide) rfl rfl) ?_
  refine wG (dv_to (v := .bool (s.bl dn bn).bad) (rd_ldS (i := dn) (j := bn) (f := 3) hN ⟨_, Try.underlying4, rfl⟩ rfl hd1 hb1 (by decide) rfl) (congrArg Value.bool (Bool.eq_false_iff.2 k1))) ?_
  refine wI (d_pick (b := false) (v := vF) rfl rfl) ?_
  refine wI (d_move rfl) ?_
  refine wG (d_move rfl) ?_
  refine wG (d_lss (k := .i64) (m := p) (n := 0) rfl rfl (decide_eq_false k2)) ?_
  refine wF ([(ptr L.bN 0), (eN dn), (eN bn), (eI p), (Value.bool fine)] ++ (us 5 ++ [(eN 0), (ptr L.bN 0), (ptr L.bN 0), (ptr L.bN 7), (Value.bool s.dead), (ptr L.bN 0), (eN dn), (eN bn), vT, vF, vF, (ptr L.bN 0), (ptr L.bN 0), (ptr L.bN 3), (sli L.bU 0 s.gD L.cU), (eN dn), (ptr L.bU dn), (sli (L.bd dn) 0 s.gB (L.cd dn)), (eN bn), (ptr (L.bd dn) (bn * 4)), (ptr (L.bd dn) (bn * 4 + 3)), vF, vF, vF, (eI p), vF] ++ (us 21))) ?_
  refine wI (d_pick (b := false) (v := vF) rfl rfl) ?_
  refine wI (d_move rfl) ?_
  refine wG (d_move rfl) ?_
  refine wG (d_move rfl) ?_
  refine wG (d_nilCheck (b := L.bN) (o := 0) rfl) ?_
  refine wG (d_fieldAddr (j := 0) Try.underlying81 rfl s_ti23 (by decide) rfl rfl) ?_
  refine wG (d_fieldAddr (j := 2) Try.underlying23 rfl s_ti3 (by decide) rfl rfl) ?_
  refine wF ([(ptr L.bN 0), (eN dn), (eN bn), (eI p), (Value.bool fine)] ++ (us 5 ++ [(eN 0), (ptr L.bN 0), (ptr L.bN 0), (ptr L.bN 7), (Value.bool s.dead), (ptr L.bN 0), (eN dn), (eN bn), vT, vF, vF, (ptr L.bN 0), (ptr L.bN 0), (ptr L.bN 3), (sli L.bU 0 s.gD L.cU), (eN dn), (ptr L.bU dn), (sli (L.bd dn) 0 s.gB (L.cd dn)), (eN bn), (ptr (L.bd dn) (bn * 4)), (ptr (L.bd dn) (bn * 4 + 3)), vF, vF, vF, (eI p), vF, vF, vF, (eI p), (ptr L.bN 0), (ptr L.bN 0), (ptr L.bN 0), (ptr L.bN 2)] ++ (us 14))) ?_
  refine wG (rd_ld (v := (eN s.gP)) hN ⟨_, Try.underlying3, rfl⟩ rfl (fun _ => rfl)) ?_
  refine wG (d_geq (k := .i64) (m := p) (n := (s.gP : Int)) rfl rfl (decide_eq_false k3)) ?_
  refine wI (d_pick (b := false) (v := vF) rfl rfl) ?_
  refine wI (d_move rfl) ?_
  refine wG (d_move rfl) ?_
  refine wG (d_not rfl rfl) ?_
  refine wI (d_pick (b := false) (v := (Value.bool (!fine))) rfl rfl) ?_
  refine wF ([(ptr L.bN 0), (eN dn), (eN bn), (eI p), (Value.bool fine)] ++ (us 5 ++ [(eN 0), (ptr L.bN 0), (ptr L.bN 0), (ptr L.bN 7), (Value.bool s.dead), (ptr L.bN 0), (eN dn), (eN bn), vT, vF, vF, (ptr L.bN 0), (ptr L.bN 0), (ptr L.bN 3), (sli L.bU 0 s.gD L.cU), (eN dn), (ptr L.bU dn), (sli (L.bd dn) 0 s.gB (L.cd dn)), (eN bn), (ptr (L.bd dn) (bn * 4)), (ptr (L.bd dn) (bn * 4 + 3)), vF, vF, vF, (eI p), vF, vF, vF, (eI p), (ptr L.bN 0), (ptr L.bN 0), (ptr L.bN 0), (ptr L.bN 2), (eN s.gP), vF, vF, vF, (Value.bool fine), (Value.bool (!fine)), (Value.bool (!fine))] ++ (us 7))) ?_
  refine wD (tN ?_)
  refine forget (fun zf35 => ([(ptr L.bN 0)] ++ (zs zf35 1 48 ++ [(Value.bool (!fine))] ++ (zs zf35 50 7)))) kr (fun zf35 => ?_)
  refine cond_b rfl (fun c1 => ?_) (fun c1 => ?_)
  ·
   refine wQ (pL ?_)
   refine wI (d_move rfl) ?_
   refine wI (d_nilCheck (b := L.bN) (o := 0) rfl) ?_
   refine wI (d_fieldAddr (j := 9) Try.underlying81 rfl s_ti3 (by decide) rfl rfl) ?_
   refine wI (rd_ld (v := (eI s.wrong)) hN ⟨_, Try.underlying3, rfl⟩ rfl (fun _ => rfl)) ?_
   refine wI (d_add (k := .i64) (m := s.wrong) (n := 1) rfl rfl rfl) ?_
   refine wI (d_nilCheck (b := L.bN) (o := 0) rfl) ?_
   refine wI (d_fieldAddr (j := 9) Try.underlying81 rfl s_ti3 (by decide) rfl rfl) ?_
   refine wO (rd_st (s' := { s with wrong := IntKind.i64.wrap (s.wrong + 1) }) (i := 9) (v := (eI (IntKind.i64.wrap (s.wrong + 1)))) hN s_ti3 rfl rfl rfl (by decide) (fun _ => rfl) ⟨hN.ok.d, hN.ok.b, hN.ok.p, hN.ok.nx, hN.ok.st, hN.ok.dl, hN.ok.nl, hN.ok.ml⟩ ⟨rfl, rfl, rfl, rfl, rfl, rfl, rfl⟩) ?_
   rintro _ w36 ⟨a37, o38⟩
   replace oW := oW.tail o38 (fun k _ e => (fun k h => h) k e)
   replace hN := a37
   refine wD (tN ?_)
   refine forget (fun zf39 => (zs zf39 0 57)) kr (fun zf39 => ?_)
   refine wQ (pL ?_)
   refine wI (d_assign rfl) ?_
   refine wD (tN ?_)
   refine wpIn_ret ?_
   refine then_r ?_
   refine leave0 (v := (eN 1)) (res1 Try.results64 rfl) ?_
   have c0' : s.dead = false := by simpa using c0
   have c2_ : fine = false := by simpa using c1
   have hg_ : g = false := by rw [← hg]; simp [NS.mayOk, NS.isBad, *] <;> first | omega | (intros; omega) | (simp_all; done)
   exact ⟨congrArg eN (by rw [hg_]; simp [NS.askR, c0']), rd_to hN (by rw [hg_]; exact NS.may_false c0'), oW⟩
  refine wK (tN (wQ (pL ?_)))
  refine wI (d_assign rfl) ?_
  refine wD (tN ?_)
  refine wpIn_ret ?_
  refine leave0 (v := (eN 0)) (res1 Try.results64 rfl) ?_
  have c0' : s.dead = false := by simpa using c0
  have c2_ : fine = true := by simpa using c1
  have hg_ : g = true := by rw [← hg]; simp [NS.mayOk, NS.isBad, *] <;> first | omega | (intros; omega) | (simp_all; done)
  exact ⟨congrArg eN (by rw [hg_]; simp [NS.askR, c0']), rd_to hN (by rw [hg_]; exact NS.may_true.symm), oW⟩
 refine pL ?_
 refine wI (d_move rfl) ?_
 refine wI (d_move rfl) ?_
 refine wF ([(ptr L.bN 0), (eI d), (eI b), (eI p), (Value.bool fine)] ++ (us 5 ++ [(eN 0), (ptr L.bN 0), (ptr L.bN 0), (ptr L.bN 7), (Value.bool s.dead), (ptr L.bN 0), (eI d)] ++ (us 40))) ?_
 refine wI (d_move rfl) ?_
 refine wO (d_call (xl := [.tmp 15, .tmp 16, .tmp 17]) (al := [(ptr L.bN 0), (eI d), (eI b)]) Try.func43 kr rfl rfl rfl (refThere_ok L s _ hN (r := false) d b (Bool.eq_false_iff.2 k0))) ?_
 rintro _ w40 ⟨rfl, o41⟩
 replace hN := hN.step0 o41
 replace oW := oW.tail0 o41
 refine wI (d_not rfl rfl) ?_
 refine wI (d_move rfl) ?_
 refine wX ?_
 refine wX ?_
 refine wX ?_
 refine wF ([(ptr L.bN 0), (eI d), (eI b), (eI p), (Value.bool fine)] ++ (us 5 ++ [(eN 0), (ptr L.bN 0), (ptr L.bN 0), (ptr L.bN 7), (Value.bool s.dead), (ptr L.bN 0), (eI d), (eI b), vF, vT, vT] ++ (us 36))) ?_
 refine wX ?_
 refine wX ?_
 refine wX ?_
 refine wX ?_
 refine wX ?_
 refine wX ?_
 refine wX ?_
 refine wF ([(ptr L.bN 0), (eI d), (eI b), (eI p), (Value.bool fine)] ++ (us 5 ++ [(eN 0), (ptr L.bN 0), (ptr L.bN 0), (ptr L.bN 7), (Value.bool s.dead), (ptr L.bN 0), (eI d), (eI b), vF, vT, vT] ++ (us 36))) ?_
 refine wX ?_
 refine wI (d_pick (b := true) (v := vT) rfl rfl) ?_
 refine wI (d_move rfl) ?_
 refine wX ?_
 refine wX ?_
 refine wI (d_pick (b := true) (v := vT) rfl rfl) ?_
 refine wI (d_move rfl) ?_
 refine wF ([(ptr L.bN 0), (eI d), (eI b), (eI p), (Value.bool fine)] ++ (us 5 ++ [(eN 0), (ptr L.bN 0), (ptr L.bN 0), (ptr L.bN 7), (Value.bool s.dead), (ptr L.bN 0), (eI d), (eI b), vF, vT, vT] ++ (us 11 ++ [vT, vT, undef, undef, vT, vT] ++ (us 19)))) ?_
 refine wX ?_
 refine wX ?_
 refine wX ?_
 refine wX ?_
 refine wX ?_
 refine wX ?_
 refine wX ?_
 refine wI (d_pick (b := true) (v := vT) rfl rfl) ?_
 refine wF ([(ptr L.bN 0), (eI d), (eI b), (eI p), (Value.bool fine)] ++ (us 5 ++ [(eN 0), (ptr L.bN 0), (ptr L.bN 0), (ptr L.bN 7), (Value.bool s.dead), (ptr L.bN 0), (eI d), (eI b), vF, vT, vT] ++ (us 11 ++ [vT, vT, undef, undef, vT, vT] ++ (us 7 ++ [vT] ++ (us 11))))) ?_
 refine wI (d_move rfl) ?_
 refine wX ?_
 refine wX ?_
 refine wI (d_pick (b := true) (v := vT) rfl rfl) ?_
 refine wD (tN ?_)
 refine forget (fun zf42 => ([(ptr L.bN 0)] ++ (zs zf42 1 48 ++ [vT] ++ (zs zf42 50 7)))) kr (fun zf42 => ?_)
 refine cond_t rfl ?_
 refine wQ (pL ?_)
 refine wI (d_move rfl) ?_
 refine wI (d_nilCheck (b := L.bN) (o := 0) rfl) ?_
 refine wI (d_fieldAddr (j := 9) Try.underlying81 rfl s_ti3 (by decide) rfl rfl) ?_
 refine wI (rd_ld (v := (eI s.wrong)) hN ⟨_, Try.underlying3, rfl⟩ rfl (fun _ => rfl)) ?_
 refine wI (d_add (k := .i64) (m := s.wrong) (n := 1) rfl rfl rfl) ?_
 refine wI (d_nilCheck (b := L.bN) (o := 0) rfl) ?_
 refine wI (d_fieldAddr (j := 9) Try.underlying81 rfl s_ti3 (by decide) rfl rfl) ?_
 refine wO (rd_st (s' := { s with wrong := IntKind.i64.wrap (s.wrong + 1) }) (i := 9) (v := (eI (IntKind.i64.wrap (s.wrong + 1)))) hN s_ti3 rfl rfl rfl (by decide) (fun _ => rfl) ⟨hN.ok.d, hN.ok.b, hN.ok.p, hN.ok.nx, hN.ok.st, hN.ok.dl, hN.ok.nl, hN.ok.ml⟩ ⟨rfl, rfl, rfl, rfl, rfl, rfl, rfl⟩) ?_
 rintro _ w43 ⟨a44, o45⟩
 replace oW := oW.tail o45 (fun k _ e => (fun k h => h) k e)
 replace hN := a44
 refine wD (tN ?_)
 refine forget (fun zf46 => (zs zf46 0 57)) kr (fun zf46 => ?_)
 refine wQ (pL ?_)
 refine wI (d_assign rfl) ?_
 refine wD (tN ?_)
 refine wpIn_ret ?_
 refine then_r ?_
 refine leave0 (v := (eN 1)) (res1 Try.results64 rfl) ?_
 have c0' : s.dead = false := by simpa using c0
 have hg_ : g = false := by rw [← hg]; simp [NS.mayOk, NS.isBad, *] <;> first | omega | (intros; omega) | (simp_all; done)
 exact ⟨congrArg eN (by rw [hg_]; simp [NS.askR, c0']), rd_to hN (by rw [hg_]; exact NS.may_false c0'), oW⟩
theorem refStops_ok (L : RL) (s : NS) {X : Nat → Prop} (W : World) (hN : Rd L s X W) (hd : s.dead = false) :
    CW Try.prog 65 #[(ptr L.bN 0)] W (Rt (fun u w => u = .bool s.goesR ∧ Rd L s.stops X w ∧ Only L.S W w)) := by
 have oW : Only L.S W W := Only.refl _ _
 refine enter (al := [(ptr L.bN 0)]) (k := 33) (l := ([(ptr L.bN 0)] ++ (us 33))) Try.func65 rfl Try.ntmps65 rfl rfl ?_
 refine wQ (pL ?_)
 refine wI (d_assign rfl) ?_
 refine wD (tN (wQ (pL ?_)))
 refine wI (d_move rfl) ?_
 refine wI (d_nilCheck (b := L.bN) (o := 0) rfl) ?_
 refine wI (d_fieldAddr (j := 8) Try.underlying81 rfl s_ti3 (by decide) rfl rfl) ?_
 refine wI (rd_ld (v := (eI s.ops)) hN ⟨_, Try.underlying3, rfl⟩ rfl (fun _ => rfl)) ?_
 refine wI (d_add (k := .i64) (m := s.ops) (n := 1) rfl rfl rfl) ?_
 refine wI (d_nilCheck (b := L.bN) (o := 0) rfl) ?_
 refine wI (d_fieldAddr (j := 8) Try.underlying81 rfl s_ti3 (by decide) rfl rfl) ?_
 refine wO (rd_st (s' := { s with ops := IntKind.i64.wrap (s.ops + 1) }) (i := 8) (v := (eI (IntKind.i64.wrap (s.ops + 1)))) hN s_ti3 rfl rfl rfl (by decide) (fun _ => rfl) ⟨hN.ok.d, hN.ok.b, hN.ok.p, hN.ok.nx, hN.ok.st, hN.ok.dl, hN.ok.nl, hN.ok.ml⟩ ⟨rfl, rfl, rfl, rfl, rfl, rfl, rfl⟩) ?_
 rintro _ w11 ⟨a12, o13⟩
 replace oW := oW.tail o13 (fun k _ e => (fun k h => h) k e)
 replace hN := a12
 refine wF ([(ptr L.bN 0), undef, vF, (ptr L.bN 0), (ptr L.bN 0), (ptr L.bN 8), (eI s.ops), (eI (IntKind.i64.wrap (s.ops + 1))), (ptr L.bN 0), (ptr L.bN 8)] ++ (us 24)) ?_
 refine wD (tN ?_)
 refine forget (fun zf14 => ([(ptr L.bN 0)] ++ (zs zf14 1 33))) kr (fun zf14 => ?_)
 refine wQ (wQ (pL ?_))
 refine wI (d_move rfl) ?_
 refine wI (d_nilCheck (b := L.bN) (o := 0) rfl) ?_
 refine wI (d_fieldAddr (j := 5) Try.underlying81 rfl s_ti3 (by decide) rfl rfl) ?_
 refine wI (rd_ld (v := (eN (({ s with ops := IntKind.i64.wrap (s.ops + 1) }).stop))) hN ⟨_, Try.underlying3, rfl⟩ rfl (fun _ => rfl)) ?_
 refine wI (n_gtr (a := (({ s with ops := IntKind.i64.wrap (s.ops + 1) }).stop)) (b := 0) rfl rfl rfl) ?_
 refine wD (tN ?_)
 refine cond_if rfl (fun c0 => ?_) (fun c0 => ?_)
 ·
  refine wQ ?_
  have st_ := hN.ok.st
  refine pL ?_
  refine wI (d_move rfl) ?_
  refine wI (d_nilCheck (b := L.bN) (o := 0) rfl) ?_
  refine wI (d_fieldAddr (j := 5) Try.underlying81 rfl s_ti3 (by decide) rfl rfl) ?_
  refine wI (rd_ld (v := (eN (({ s with ops := IntKind.i64.wrap (s.ops + 1) }).stop))) hN ⟨_, Try.underlying3, rfl⟩ rfl (fun _ => rfl)) ?_
  refine wF ([(ptr L.bN 0)] ++ (zs zf14 1 9 ++ [(ptr L.bN 0), (ptr L.bN 0), (ptr L.bN 5), (eN (({ s with ops := IntKind.i64.wrap (s.ops + 1) }).stop)), (Value.bool (decide (0 < (({ s with ops := IntKind.i64.wrap (s.ops + 1) }).stop)))), (ptr L.bN 0), (ptr L.bN 0), (ptr L.bN 5), (eN (({ s with ops := IntKind.i64.wrap (s.ops + 1) }).stop))] ++ (zs zf14 19 15))) ?_
  refine wI (n_sub (a := (({ s with ops := IntKind.i64.wrap (s.ops + 1) }).stop)) (b := 1) rfl rfl oo oo) ?_
  refine wI (d_nilCheck (b := L.bN) (o := 0) rfl) ?_
  refine wI (d_fieldAddr (j := 5) Try.underlying81 rfl s_ti3 (by decide) rfl rfl) ?_
  refine wO (rd_st (s' := { { s with ops := IntKind.i64.wrap (s.ops + 1) } with stop := (({ s with ops := IntKind.i64.wrap (s.ops + 1) }).stop) - 1 }) (i := 5) (v := (eN ((({ s with ops := IntKind.i64.wrap (s.ops + 1) }).stop) - 1))) hN s_ti3 rfl rfl rfl (by decide) (fun _ => rfl) ⟨hN.ok.d, hN.ok.b, hN.ok.p, hN.ok.nx, (by have := hN.ok.st; show (({ s with ops := IntKind.i64.wrap (s.ops + 1) }).stop) - 1 < 2 ^ 62; omega), hN.ok.dl, hN.ok.nl, hN.ok.ml⟩ ⟨rfl, rfl, rfl, rfl, rfl, rfl, rfl⟩) ?_
  rintro _ w15 ⟨a16, o17⟩
  replace oW := oW.tail o17 (fun k _ e => (fun k h => h) k e)
  replace hN := a16
  refine wD (tN ?_)
  refine forget (fun zf18 => ([(ptr L.bN 0)] ++ (zs zf18 1 33))) kr (fun zf18 => ?_)
  refine pL ?_
  refine wI (d_move rfl) ?_
  refine wI (d_move rfl) ?_
  refine wI (d_nilCheck (b := L.bN) (o := 0) rfl) ?_
  refine wI (d_fieldAddr (j := 5) Try.underlying81 rfl s_ti3 (by decide) rfl rfl) ?_
  refine wI (rd_ld (v := (eN (({ { s with ops := IntKind.i64.wrap (s.ops + 1) } with stop := (({ s with ops := IntKind.i64.wrap (s.ops + 1) }).stop) - 1 }).stop))) hN ⟨_, Try.underlying3, rfl⟩ rfl (fun _ => rfl)) ?_
  refine wI (n_eql (a := (({ { s with ops := IntKind.i64.wrap (s.ops + 1) } with stop := (({ s with ops := IntKind.i64.wrap (s.ops + 1) }).stop) - 1 }).stop)) (b := 0) rfl rfl rfl) ?_
  refine wI (d_nilCheck (b := L.bN) (o := 0) rfl) ?_
  refine wI (d_fieldAddr (j := 7) Try.underlying81 rfl s_ti4 (by decide) rfl rfl) ?_
  refine wO (rd_st (s' := { { { s with ops := IntKind.i64.wrap (s.ops + 1) } with stop := (({ s with ops := IntKind.i64.wrap (s.ops + 1) }).stop) - 1 } with dead := decide ((({ { s with ops := IntKind.i64.wrap (s.ops + 1) } with stop := (({ s with ops := IntKind.i64.wrap (s.ops + 1) }).stop) - 1 }).stop) = 0) }) (i := 7) (v := (Value.bool (decide ((({ { s with ops := IntKind.i64.wrap (s.ops + 1) } with stop := (({ s with ops := IntKind.i64.wrap (s.ops + 1) }).stop) - 1 }).stop) = 0)))) hN s_ti4 rfl rfl rfl (by decide) (fun _ => rfl) ⟨hN.ok.d, hN.ok.b, hN.ok.p, hN.ok.nx, hN.ok.st, hN.ok.dl, hN.ok.nl, hN.ok.ml⟩ ⟨rfl, rfl, rfl, rfl, rfl, rfl, rfl⟩) ?_
  rintro _ w19 ⟨a20, o21⟩
  replace oW := oW.tail o21 (fun k _ e => (fun k h => h) k e)
  replace hN := a20
  refine wF ([(ptr L.bN 0)] ++ (zs zf18 1 21 ++ [(ptr L.bN 0), (ptr L.bN 0), (ptr L.bN 0), (ptr L.bN 5), (eN (({ { s with ops := IntKind.i64.wrap (s.ops + 1) } with stop := (({ s with ops := IntKind.i64.wrap (s.ops + 1) }).stop) - 1 }).stop)), (Value.bool (decide ((({ { s with ops := IntKind.i64.wrap (s.ops + 1) } with stop := (({ s with ops := IntKind.i64.wrap (s.ops + 1) }).stop) - 1 }).stop) = 0))), (ptr L.bN 0), (ptr L.bN 7), (zf18 30), (zf18 31), (zf18 32), (zf18 33)])) ?_
  refine wD (tN ?_)
  refine forget (fun zf22 => ([(ptr L.bN 0)] ++ (zs zf22 1 33))) kr (fun zf22 => ?_)
  refine wQ (pL ?_)
  refine wI (d_move rfl) ?_
  refine wI (d_nilCheck (b := L.bN) (o := 0) rfl) ?_
  refine wI (d_fieldAddr (j := 7) Try.underlying81 rfl s_ti4 (by decide) rfl rfl) ?_
  refine wI (rd_ld (v := (Value.bool (({ { { s with ops := IntKind.i64.wrap (s.ops + 1) } with stop := (({ s with ops := IntKind.i64.wrap (s.ops + 1) }).stop) - 1 } with dead := decide ((({ { s with ops := IntKind.i64.wrap (s.ops + 1) } with stop := (({ s with ops := IntKind.i64.wrap (s.ops + 1) }).stop) - 1 }).stop) = 0) }).dead))) hN ⟨_, Try.underlying4, rfl⟩ rfl (fun _ => rfl)) ?_
  refine wI (d_assign rfl) ?_
  refine wD (tN ?_)
  refine wpIn_ret ?_
  refine leave0 (v := (Value.bool (({ { { s with ops := IntKind.i64.wrap (s.ops + 1) } with stop := (({ s with ops := IntKind.i64.wrap (s.ops + 1) }).stop) - 1 } with dead := decide ((({ { s with ops := IntKind.i64.wrap (s.ops + 1) } with stop := (({ s with ops := IntKind.i64.wrap (s.ops + 1) }).stop) - 1 }).stop) = 0) }).dead))) (res1 Try.results65 rfl) ?_
  have c9_ : 0 < s.stop := c0
  exact ⟨congrArg Value.bool (by unfold NS.goesR; rw [if_neg (show ¬ s.stop < 1 by omega)]), rd_to hN (by unfold NS.stops; rw [NS.goes_yes oo]), oW⟩
 refine wK (tN (wQ (pL ?_)))
 refine wI (d_move rfl) ?_
 refine wI (d_nilCheck (b := L.bN) (o := 0) rfl) ?_
 refine wI (d_fieldAddr (j := 7) Try.underlying81 rfl s_ti4 (by decide) rfl rfl) ?_
 refine wI (rd_ld (v := (Value.bool (({ s with ops := IntKind.i64.wrap (s.ops + 1) }).dead))) hN ⟨_, Try.underlying4, rfl⟩ rfl (fun _ => rfl)) ?_
 refine wF ([(ptr L.bN 0)] ++ (zs zf14 1 9 ++ [(ptr L.bN 0), (ptr L.bN 0), (ptr L.bN 5), (eN (({ s with ops := IntKind.i64.wrap (s.ops + 1) }).stop)), (Value.bool (decide (0 < (({ s with ops := IntKind.i64.wrap (s.ops + 1) }).stop))))] ++ (zs zf14 15 15 ++ [(ptr L.bN 0), (ptr L.bN 0), (ptr L.bN 7), (Value.bool (({ s with ops := IntKind.i64.wrap (s.ops + 1) }).dead))]))) ?_
 refine wI (d_assign rfl) ?_
 refine wD (tN ?_)
 refine forget (fun zf23 => ([(zf23 0), (zf23 1), (Value.bool (({ s with ops := IntKind.i64.wrap (s.ops + 1) }).dead))] ++ (zs zf23 3 31))) kr (fun zf23 => ?_)
 refine wpIn_ret ?_
 refine leave0 (v := (Value.bool (({ s with ops := IntKind.i64.wrap (s.ops + 1) }).dead))) (res1 Try.results65 rfl) ?_
 have c9_ : ¬ 0 < s.stop := c0
 exact ⟨congrArg Value.bool (by unfold NS.goesR; rw [if_pos (show s.stop < 1 by omega)]; exact hd), rd_to hN (by unfold NS.stops; rw [NS.goes_no oo]), oW⟩
theorem refRead_ok (L : RL) (s : NS) {X : Nat → Prop} (W : World) (hN : Rd L s X W) (d b p : Int) (hX : ∀ k, X k → k < W.heap.size) (hrg : s.Rg) :
    CW Try.prog 56 #[(ptr L.bN 0), (eI d), (eI b), (eI p)] W (Rt (fun u w => ∃ v, u = .tuple #[v, eN (s.askR (s.readOk d b p))] ∧ Ps (Old W.heap.size) (Seq kB (s.readL d b p) v) w ∧ Rd L (s.ask (s.readOk d b p)) X w ∧ Only L.S W w)) := by
 have oW : Only L.S W W := Only.refl _ _
 refine enter (al := [(ptr L.bN 0), (eI d), (eI b), (eI p)]) (k := 50) (l := ([(ptr L.bN 0), (eI d), (eI b), (eI p)] ++ (us 50))) Try.func56 rfl Try.ntmps56 rfl rfl ?_
 refine wQ (pL ?_)
 refine wI (d_assign rfl) ?_
 refine wI (d_assign rfl) ?_
 refine wD (tN (wQ (pL ?_)))
 refine wI (d_move rfl) ?_
 refine wI (d_move rfl) ?_
 refine wI (d_move rfl) ?_
 refine wI (d_move rfl) ?_
 refine wO (d_call (xl := [.tmp 11, .tmp 12, .tmp 13, .tmp 14, .const (.bool true)]) (al := [(ptr L.bN 0), (eI d), (eI b), (eI p), vT]) Try.func64 kr rfl rfl rfl (refMay_ok L s _ hN (g := (s.readOk d b p)) d b p true (NS.mayOk_read _ _ _ _))) ?_
 rintro _ w11 ⟨rfl, a13, o12⟩
 replace oW := oW.tail o12 (fun k _ e => (fun k h => h) k e)
 replace hN := a13
 refine wI (d_assign rfl) ?_
 refine wD (tN (wQ (wQ (pL ?_))))
 refine wI (d_move rfl) ?_
 refine wF ([(ptr L.bN 0), (eI d), (eI b), (eI p), undef, undef, undef, undef, vN, (eN 0), (eN (s.askR (s.readOk d b p))), (ptr L.bN 0), (eI d), (eI b), (eI p), (eN (s.askR (s.readOk d b p))), (eN (s.askR (s.readOk d b p)))] ++ (us 37)) ?_
 refine wI (n_neq (a := (s.askR (s.readOk d b p))) (b := 0) rfl rfl rfl) ?_
 refine wD (tN ?_)
 refine forget (fun zf14 => ([(ptr L.bN 0), (eI d), (eI b), (eI p)] ++ (zs zf14 4 6 ++ [(eN (s.askR (s.readOk d b p)))] ++ (zs zf14 11 6 ++ [(Value.bool (!decide ((s.askR (s.readOk d b p)) = 0)))] ++ (zs zf14 18 8 ++ (us 28)))))) kr (fun zf14 => ?_)
 refine cond_un rfl (fun c0 => ?_) (fun c0 => ?_)
 ·
  refine wQ (pL ?_)
  refine wI (d_move rfl) ?_
  refine wI (d_assign rfl) ?_
  refine wI (d_assign rfl) ?_
  refine wD (tN ?_)
  refine wpIn_ret ?_
  refine then_r ?_
  refine leave0 (v := (Value.tuple #[vN, (eN (s.askR (s.readOk d b p)))])) (res2 Try.results56 rfl rfl) ?_
  exact ⟨_, rfl, by unfold NS.readL; rw [if_neg c0]; exact seq_nil, rd_to hN (NS.may_no c0), oW⟩
 refine wK (tN (wQ ?_))
 obtain ⟨⟨hd0, hd1, hb0, hb1⟩, ⟨hp0, hp1⟩, _⟩ := NS.mayOk_of (by rw [NS.mayOk_read]; exact (NS.askR_yes c0).2)
 obtain ⟨dn, rfl⟩ := Int.eq_ofNat_of_zero_le hd0
 replace hd1 : dn < s.gD := Int.ofNat_lt.1 hd1
 refine wp_eq (l' := ([(ptr L.bN 0), (eN dn), (eI b), (eI p)] ++ (zs zf14 4 6 ++ [(eN (s.askR (s.readOk (dn : Int) b p)))] ++ (zs zf14 11 6 ++ [(Value.bool (!decide ((s.askR (s.readOk (dn : Int) b p)) = 0)))] ++ (zs zf14 18 8 ++ (us 28)))))) rfl ?_
 obtain ⟨bn, rfl⟩ := Int.eq_ofNat_of_zero_le hb0
 replace hb1 : bn < s.gB := Int.ofNat_lt.1 hb1
 refine wp_eq (l' := ([(ptr L.bN 0), (eN dn), (eN bn), (eI p)] ++ (zs zf14 4 6 ++ [(eN (s.askR (s.readOk ↑dn ↑bn p)))] ++ (zs zf14 11 6 ++ [(Value.bool (!decide ((s.askR (s.readOk ↑dn ↑bn p)) = 0)))] ++ (zs zf14 18 8 ++ (us 28)))))) rfl ?_
 obtain ⟨pn, rfl⟩ := Int.eq_ofNat_of_zero_le hp0
 replace hp1 : pn < s.gP := Int.ofNat_lt.1 hp1
 refine wp_eq (l' := ([(ptr L.bN 0), (eN dn), (eN bn), (eN pn)] ++ (zs zf14 4 6 ++ [(eN (s.askR (s.readOk ↑dn ↑bn ↑pn)))] ++ (zs zf14 11 6 ++ [(Value.bool (!decide ((s.askR (s.readOk ↑dn ↑bn ↑pn)) = 0)))] ++ (zs zf14 18 8 ++ (us 28)))))) rfl ?_
 replace hN := rd_to hN (NS.may_yes c0)
 refine pL ?_
 refine wI (d_move rfl) ?_
 refine wI (d_nilCheck (b := L.bN) (o := 0) rfl) ?_
 refine wI (d_fieldAddr (j := 8) Try.underlying81 rfl s_ti3 (by decide) rfl rfl) ?_
 refine wI (rd_ld (v := (eI s.ops)) hN ⟨_, Try.underlying3, rfl⟩ rfl (fun _ => rfl)) ?_
 refine wI (d_add (k := .i64) (m := s.ops) (n := 1) rfl rfl rfl) ?_
 refine wI (d_nilCheck (b := L.bN) (o := 0) rfl) ?_
 refine wI (d_fieldAddr (j := 8) Try.underlying81 rfl s_ti3 (by decide) rfl rfl) ?_
 refine wO (rd_st (s' := { s with ops := IntKind.i64.wrap (s.ops + 1) }) (i := 8) (v := (eI (IntKind.i64.wrap (s.ops + 1)))) hN s_ti3 rfl rfl rfl (by decide) (fun _ => rfl) ⟨hN.ok.d, hN.ok.b, hN.ok.p, hN.ok.nx, hN.ok.st, hN.ok.dl, hN.ok.nl, hN.ok.ml⟩ ⟨rfl, rfl, rfl, rfl, rfl, rfl, rfl⟩) ?_
 rintro _ w15 ⟨a16, o17⟩
 replace oW := oW.tail o17 (fun k _ e => (fun k h => h) k e)
 replace hN := a16
 refine wD (tN ?_)
 refine forget (fun zf18 => ([(ptr L.bN 0), (eN dn), (eN bn), (eN pn)] ++ (zs zf18 4 22 ++ (us 28)))) kr (fun zf18 => ?_)
 refine wQ ?_
 replace hN := rd_to hN (NS.read_state c0)
 have l1_ : ((s.ask (s.readOk ↑dn ↑bn ↑pn)).dl ((s.ask (s.readOk ↑dn ↑bn ↑pn)).ix dn bn pn)).length = 60 := hN.ok.dl _
 have l2_ : ((s.ask (s.readOk ↑dn ↑bn ↑pn)).nl ((s.ask (s.readOk ↑dn ↑bn ↑pn)).ix dn bn pn)).length ≤ 1048576 := hN.ok.nl _
 have hrg_ : ∀ x ∈ (s.ask (s.readOk ↑dn ↑bn ↑pn)).nl ((s.ask (s.readOk ↑dn ↑bn ↑pn)).ix dn bn pn), -9223372036854775808 ≤ x ∧ x < 9223372036854775808 := hrg _
 refine drawn' (O := (Ors L.S No)) (n := 30) [0, 1, 3, 7, 0, 31, 63, 0, 255, 511, 1023, 0, 4095, 8191, 0, 16384, 49152, 114688, 0, 507904, 1032192, 0, 4177920, 8372224, 0, 33538048, 67092480, 134217727, 268435455, 536870911] [(0, 26), (1, 27), (2, 28), (3, 29), (4, 30), (5, 31), (6, 32), (7, 33), (8, 34), (9, 35), (10, 36), (11, 37), (12, 38), (13, 39), (14, 40), (15, 41), (16, 42), (17, 43), (18, 44), (19, 45), (20, 46), (21, 47), (22, 48), (23, 49), (24, 50), (25, 51), (26, 52), (27, 53), (28, 8), (29, 9)] [0, 1, 2, 3, 4, 5, 6, 7, 8, 9, 10, 11, 12, 13, 14, 15, 16, 17, 18, 19, 20, 21, 22, 23, 24, 25, 26, 27, 28, 29] [] (fun i_ => ([RF.is (Ors L.S No) (ptr L.bN 0), RF.is (Ors L.S No) (ptr L.bN 0), RF.is (Ors L.S No) (ptr L.bN 3), RF.is (Ors L.S No) (sli L.bU 0 ((s.ask (s.readOk ↑dn ↑bn ↑pn)).gD) L.cU), RF.is (Ors L.S No) (eN dn), RF.is (Ors L.S No) (ptr L.bU dn), RF.is (Ors L.S No) (sli (L.bd dn) 0 ((s.ask (s.readOk ↑dn ↑bn ↑pn)).gB) (L.cd dn)), RF.is (Ors L.S No) (eN bn), RF.is (Ors L.S No) (ptr (L.bd dn) (bn * 4)), RF.is (Ors L.S No) (ptr (L.bd dn) (bn * 4)), RF.is (Ors L.S No) (sli (L.bp (dn * (s.ask (s.readOk ↑dn ↑bn ↑pn)).gB + bn)) 0 ((s.ask (s.readOk ↑dn ↑bn ↑pn)).gP) (L.cp (dn * (s.ask (s.readOk ↑dn ↑bn ↑pn)).gB + bn))), RF.is (Ors L.S No) (eN pn), RF.is (Ors L.S No) (ptr (L.bp (dn * (s.ask (s.readOk ↑dn ↑bn ↑pn)).gB + bn)) pn), RF.ps (Ors L.S No) (Ors L.S X) (Seq kB ((s.ask (s.readOk ↑dn ↑bn ↑pn)).dl ((s.ask (s.readOk ↑dn ↑bn ↑pn)).ix dn bn pn))) (ors_mono no_any), RF.is (Ors L.S No) (ptr L.bN 0), RF.is (Ors L.S No) (ptr L.bN 0), RF.is (Ors L.S No) (ptr L.bN 4), RF.is (Ors L.S No) (sli L.bV 0 ((s.ask (s.readOk ↑dn ↑bn ↑pn)).gD) L.cV), RF.is (Ors L.S No) (eN dn), RF.is (Ors L.S No) (ptr L.bV dn), RF.is (Ors L.S No) (sli (L.bw dn) 0 ((s.ask (s.readOk ↑dn ↑bn ↑pn)).gB) (L.cw dn)), RF.is (Ors L.S No) (eN bn), RF.is (Ors L.S No) (ptr (L.bw dn) bn), RF.is (Ors L.S No) (sli (L.bz (dn * (s.ask (s.readOk ↑dn ↑bn ↑pn)).gB + bn)) 0 ((s.ask (s.readOk ↑dn ↑bn ↑pn)).gP) ((s.ask (s.readOk ↑dn ↑bn ↑pn)).gP)), RF.is (Ors L.S No) (eN pn), RF.is (Ors L.S No) (ptr (L.bz (dn * (s.ask (s.readOk ↑dn ↑bn ↑pn)).gB + bn)) pn), RF.ps (Ors L.S No) (Ors L.S X) (Seq kI ((s.ask (s.readOk ↑dn ↑bn ↑pn)).nl ((s.ask (s.readOk ↑dn ↑bn ↑pn)).ix dn bn pn))) (ors_mono no_any), RF.ps (Ors L.S No) (Ors L.S (Old W.heap.size)) (Seq kB (flipI ((s.ask (s.readOk ↑dn ↑bn ↑pn)).dl ((s.ask (s.readOk ↑dn ↑bn ↑pn)).ix dn bn pn)) ((s.ask (s.readOk ↑dn ↑bn ↑pn)).nl ((s.ask (s.readOk ↑dn ↑bn ↑pn)).ix dn bn pn)))) (ors_mono no_any), RF.ps (Ors L.S No) (Ors L.S (Old W.heap.size)) (Seq kB (flipI ((s.ask (s.readOk ↑dn ↑bn ↑pn)).dl ((s.ask (s.readOk ↑dn ↑bn ↑pn)).ix dn bn pn)) ((s.ask (s.readOk ↑dn ↑bn ↑pn)).nl ((s.ask (s.readOk ↑dn ↑bn ↑pn)).ix dn bn pn)))) (ors_mono no_any), RF.is (Ors L.S No) (eN 0)] : List (RF (Ors L.S No))).getD i_ (RF.any (Ors L.S No))) (fun _ w_ => Rd L (s.ask (s.readOk ↑dn ↑bn ↑pn)) X w_) (fun v19 => ([(ptr L.bN 0), (eN dn), (eN bn), (eN pn), (zf18 4), (zf18 5), (zf18 6), (zf18 7), (v19 28), (v19 29)] ++ (zs zf18 10 16 ++ [(v19 0), (v19 1), (v19 2), (v19 3), (v19 4), (v19 5), (v19 6), (v19 7), (v19 8), (v19 9), (v19 10), (v19 11), (v19 12), (v19 13), (v19 14), (v19 15), (v19 16), (v19 17), (v19 18), (v19 19), (v19 20), (v19 21), (v19 22), (v19 23), (v19 24), (v19 25), (v19 26), (v19 27)]))) s_mx kr rfl kr (by rfl) (fun v_ => by kernel_rfl) (fun _ => fun w_ w2_ h ho => by have r_hN := h; exact r_hN.step0 ho) hN ?_ ?_ ?_
 ·
  refine ls_cons ?_ ?_
  ·
   intro v19 lo hi w_ k_ hO hd _ _ hk_ _ hR hold
   have r_hN := hR
   clear hd hold
   refine ⟨_, rfl, gd rfl ?_⟩
   exact Does.is (d_move rfl)
  refine ls_cons ?_ ?_
  ·
   intro v19 lo hi w_ k_ hO hd _ _ hk_ _ hR hold
   have r_hN := hR
   have e0 : v19 0 = (ptr L.bN 0) := hd 0 kr
   clear hd hold
   refine ⟨_, rfl, gd rfl ?_⟩
   exact Does.is (d_nilCheck (b := L.bN) (o := 0) e0)
  refine ls_cons ?_ ?_
  ·
   intro v19 lo hi w_ k_ hO hd _ _ hk_ _ hR hold
   have r_hN := hR
   have e1 : v19 1 = (ptr L.bN 0) := hd 1 kr
   clear hd hold
   refine ⟨_, rfl, gd rfl ?_⟩
   exact Does.is (d_fieldAddr (j := 3) Try.underlying81 rfl s_ti78 (by decide) e1 rfl)
  refine ls_cons ?_ ?_
  ·
   intro v19 lo hi w_ k_ hO hd _ _ hk_ _ hR hold
   have r_hN := hR
   have e2 : v19 2 = (ptr L.bN 3) := hd 2 kr
   clear hd hold
   refine ⟨_, rfl, gd rfl ?_⟩
   exact Does.is (rd_ld (v := (sli L.bU 0 ((s.ask (s.readOk ↑dn ↑bn ↑pn)).gD) L.cU)) r_hN ⟨_, Try.underlying78, rfl⟩ e2 (fun _ => rfl))
  refine ls_cons ?_ ?_
  ·
   intro v19 lo hi w_ k_ hO hd _ _ hk_ _ hR hold
   have r_hN := hR
   clear hd hold
   refine ⟨_, rfl, gd rfl ?_⟩
   exact Does.is (d_move rfl)
  refine ls_cons ?_ ?_
  ·
   intro v19 lo hi w_ k_ hO hd _ _ hk_ _ hR hold
   have r_hN := hR
   have e3 : v19 3 = (sli L.bU 0 ((s.ask (s.readOk ↑dn ↑bn ↑pn)).gD) L.cU) := hd 3 kr
   have e4 : v19 4 = (eN dn) := hd 4 kr
   clear hd hold
   refine ⟨_, rfl, gd rfl ?_⟩
   exact Does.is (d_index1 (n := ((s.ask (s.readOk ↑dn ↑bn ↑pn)).gD)) (i := dn) Try.underlying78 s_ti82 e3 (show _ = Value.int _ (dn : Int) from e4) hd1)
  refine ls_cons ?_ ?_
  ·
   intro v19 lo hi w_ k_ hO hd _ _ hk_ _ hR hold
   have r_hN := hR
   have e5 : v19 5 = (ptr L.bU dn) := hd 5 kr
   clear hd hold
   refine ⟨_, rfl, gd rfl ?_⟩
   exact Does.is (rd_ldU (i := dn) r_hN ⟨_, Try.underlying82, rfl⟩ e5 hd1)
  refine ls_cons ?_ ?_
  ·
   intro v19 lo hi w_ k_ hO hd _ _ hk_ _ hR hold
   have r_hN := hR
   clear hd hold
   refine ⟨_, rfl, gd rfl ?_⟩
   exact Does.is (d_move rfl)
  refine ls_cons ?_ ?_
  ·
   intro v19 lo hi w_ k_ hO hd _ _ hk_ _ hR hold
   have r_hN := hR
   have e6 : v19 6 = (sli (L.bd dn) 0 ((s.ask (s.readOk ↑dn ↑bn ↑pn)).gB) (L.cd dn)) := hd 6 kr
   have e7 : v19 7 = (eN bn) := hd 7 kr
   clear hd hold
   refine ⟨_, rfl, gd rfl ?_⟩
   exact Does.is (d_index (b := (L.bd dn)) (o := 0) (n := ((s.ask (s.readOk ↑dn ↑bn ↑pn)).gB)) (c := (L.cd dn)) (j := (bn * 4)) Try.underlying82 s_ti85 e6 (show _ = Value.int _ (bn : Int) from e7) oo (Int.ofNat_lt.2 hb1) (by simp))
  refine ls_cons ?_ ?_
  ·
   intro v19 lo hi w_ k_ hO hd _ _ hk_ _ hR hold
   have r_hN := hR
   have e8 : v19 8 = (ptr (L.bd dn) (bn * 4)) := hd 8 kr
   clear hd hold
   refine ⟨_, rfl, gd rfl ?_⟩
   exact Does.is (d_fieldAddr (j := bn * 4) Try.underlying85 rfl s_ti63 (by decide) e8 rfl)
  refine ls_cons ?_ ?_
  ·
   intro v19 lo hi w_ k_ hO hd _ _ hk_ _ hR hold
   have r_hN := hR
   have e9 : v19 9 = (ptr (L.bd dn) (bn * 4)) := hd 9 kr
   clear hd hold
   refine ⟨_, rfl, gd rfl ?_⟩
   exact Does.is (rd_ldS (i := dn) (j := bn) (f := 0) r_hN ⟨_, Try.underlying63, rfl⟩ e9 hd1 hb1 (by decide) rfl)
  refine ls_cons ?_ ?_
  ·
   intro v19 lo hi w_ k_ hO hd _ _ hk_ _ hR hold
   have r_hN := hR
   clear hd hold
   refine ⟨_, rfl, gd rfl ?_⟩
   exact Does.is (d_move rfl)
  refine ls_cons ?_ ?_
  ·
   intro v19 lo hi w_ k_ hO hd _ _ hk_ _ hR hold
   have r_hN := hR
   have e10 : v19 10 = (sli (L.bp (dn * (s.ask (s.readOk ↑dn ↑bn ↑pn)).gB + bn)) 0 ((s.ask (s.readOk ↑dn ↑bn ↑pn)).gP) (L.cp (dn * (s.ask (s.readOk ↑dn ↑bn ↑pn)).gB + bn))) := hd 10 kr
   have e11 : v19 11 = (eN pn) := hd 11 kr
   clear hd hold
   refine ⟨_, rfl, gd rfl ?_⟩
   exact Does.is (d_index1 (n := ((s.ask (s.readOk ↑dn ↑bn ↑pn)).gP)) (i := pn) Try.underlying63 s_ti36 e10 (show _ = Value.int _ (pn : Int) from e11) hp1)
  refine ls_cons ?_ ?_
  ·
   intro v19 lo hi w_ k_ hO hd _ _ hk_ _ hR hold
   have r_hN := hR
   have e12 : v19 12 = (ptr (L.bp (dn * (s.ask (s.readOk ↑dn ↑bn ↑pn)).gB + bn)) pn) := hd 12 kr
   clear hd hold
   refine ⟨_, rfl, gd rfl ?_⟩
   refine Does.mono (rd_ldD (i := dn) (j := bn) (f := pn) (Y := (Ors L.S X)) r_hN xo_s ⟨_, Try.underlying36, rfl⟩ e12 hd1 hb1 (by first | exact hd1 | exact hb1 | exact hp1 | exact Int.ofNat_lt.2 hd1 | exact Int.ofNat_lt.2 hb1 | exact Int.ofNat_lt.2 hp1 | omega)) (fun u w' h => ⟨h.2 ▸ h.1, h.2 ▸ Only.refl _ _⟩)
  refine ls_cons ?_ ?_
  ·
   intro v19 lo hi w_ k_ hO hd _ _ hk_ _ hR hold
   have r_hN := hR
   clear hd hold
   refine ⟨_, rfl, gd rfl ?_⟩
   exact Does.is (d_move rfl)
  refine ls_cons ?_ ?_
  ·
   intro v19 lo hi w_ k_ hO hd _ _ hk_ _ hR hold
   have r_hN := hR
   have e14 : v19 14 = (ptr L.bN 0) := hd 14 kr
   clear hd hold
   refine ⟨_, rfl, gd rfl ?_⟩
   exact Does.is (d_nilCheck (b := L.bN) (o := 0) e14)
  refine ls_cons ?_ ?_
  ·
   intro v19 lo hi w_ k_ hO hd _ _ hk_ _ hR hold
   have r_hN := hR
   have e15 : v19 15 = (ptr L.bN 0) := hd 15 kr
   clear hd hold
   refine ⟨_, rfl, gd rfl ?_⟩
   exact Does.is (d_fieldAddr (j := 4) Try.underlying81 rfl s_ti79 (by decide) e15 rfl)
  refine ls_cons ?_ ?_
  ·
   intro v19 lo hi w_ k_ hO hd _ _ hk_ _ hR hold
   have r_hN := hR
   have e16 : v19 16 = (ptr L.bN 4) := hd 16 kr
   clear hd hold
   refine ⟨_, rfl, gd rfl ?_⟩
   exact Does.is (rd_ld (v := (sli L.bV 0 ((s.ask (s.readOk ↑dn ↑bn ↑pn)).gD) L.cV)) r_hN ⟨_, Try.underlying79, rfl⟩ e16 (fun _ => rfl))
  refine ls_cons ?_ ?_
  ·
   intro v19 lo hi w_ k_ hO hd _ _ hk_ _ hR hold
   have r_hN := hR
   clear hd hold
   refine ⟨_, rfl, gd rfl ?_⟩
   exact Does.is (d_move rfl)
  refine ls_cons ?_ ?_
  ·
   intro v19 lo hi w_ k_ hO hd _ _ hk_ _ hR hold
   have r_hN := hR
   have e17 : v19 17 = (sli L.bV 0 ((s.ask (s.readOk ↑dn ↑bn ↑pn)).gD) L.cV) := hd 17 kr
   have e18 : v19 18 = (eN dn) := hd 18 kr
   clear hd hold
   refine ⟨_, rfl, gd rfl ?_⟩
   exact Does.is (d_index1 (n := ((s.ask (s.readOk ↑dn ↑bn ↑pn)).gD)) (i := dn) Try.underlying79 s_ti83 e17 (show _ = Value.int _ (dn : Int) from e18) hd1)
  refine ls_cons ?_ ?_
  ·
   intro v19 lo hi w_ k_ hO hd _ _ hk_ _ hR hold
   have r_hN := hR
   have e19 : v19 19 = (ptr L.bV dn) := hd 19 kr
   clear hd hold
   refine ⟨_, rfl, gd rfl ?_⟩
   exact Does.is (rd_ldV (i := dn) r_hN ⟨_, Try.underlying83, rfl⟩ e19 hd1)
  refine ls_cons ?_ ?_
  ·
   intro v19 lo hi w_ k_ hO hd _ _ hk_ _ hR hold
   have r_hN := hR
   clear hd hold
   refine ⟨_, rfl, gd rfl ?_⟩
   exact Does.is (d_move rfl)
  refine ls_cons ?_ ?_
  ·
   intro v19 lo hi w_ k_ hO hd _ _ hk_ _ hR hold
   have r_hN := hR
   have e20 : v19 20 = (sli (L.bw dn) 0 ((s.ask (s.readOk ↑dn ↑bn ↑pn)).gB) (L.cw dn)) := hd 20 kr
   have e21 : v19 21 = (eN bn) := hd 21 kr
   clear hd hold
   refine ⟨_, rfl, gd rfl ?_⟩
   exact Does.is (d_index1 (n := ((s.ask (s.readOk ↑dn ↑bn ↑pn)).gB)) (i := bn) Try.underlying83 s_ti67 e20 (show _ = Value.int _ (bn : Int) from e21) hb1)
  refine ls_cons ?_ ?_
  ·
   intro v19 lo hi w_ k_ hO hd _ _ hk_ _ hR hold
   have r_hN := hR
   have e22 : v19 22 = (ptr (L.bw dn) bn) := hd 22 kr
   clear hd hold
   refine ⟨_, rfl, gd rfl ?_⟩
   exact Does.is (rd_ldW (i := dn) (j := bn) r_hN ⟨_, Try.underlying67, rfl⟩ e22 hd1 hb1)
  refine ls_cons ?_ ?_
  ·
   intro v19 lo hi w_ k_ hO hd _ _ hk_ _ hR hold
   have r_hN := hR
   clear hd hold
   refine ⟨_, rfl, gd rfl ?_⟩
   exact Does.is (d_move rfl)
  refine ls_cons ?_ ?_
  ·
   intro v19 lo hi w_ k_ hO hd _ _ hk_ _ hR hold
   have r_hN := hR
   have e23 : v19 23 = (sli (L.bz (dn * (s.ask (s.readOk ↑dn ↑bn ↑pn)).gB + bn)) 0 ((s.ask (s.readOk ↑dn ↑bn ↑pn)).gP) ((s.ask (s.readOk ↑dn ↑bn ↑pn)).gP)) := hd 23 kr
   have e24 : v19 24 = (eN pn) := hd 24 kr
   clear hd hold
   refine ⟨_, rfl, gd rfl ?_⟩
   exact Does.is (d_index1 (n := ((s.ask (s.readOk ↑dn ↑bn ↑pn)).gP)) (i := pn) Try.underlying67 s_ti37 e23 (show _ = Value.int _ (pn : Int) from e24) hp1)
  refine ls_cons ?_ ?_
  ·
   intro v19 lo hi w_ k_ hO hd _ _ hk_ _ hR hold
   have r_hN := hR
   have e25 : v19 25 = (ptr (L.bz (dn * (s.ask (s.readOk ↑dn ↑bn ↑pn)).gB + bn)) pn) := hd 25 kr
   clear hd hold
   refine ⟨_, rfl, gd rfl ?_⟩
   refine Does.mono (rd_ldZ (i := dn) (j := bn) (f := pn) (Y := (Ors L.S X)) r_hN xo_s ⟨_, Try.underlying37, rfl⟩ e25 hd1 hb1 (by first | exact hd1 | exact hb1 | exact hp1 | exact Int.ofNat_lt.2 hd1 | exact Int.ofNat_lt.2 hb1 | exact Int.ofNat_lt.2 hp1 | omega)) (fun u w' h => ⟨h.2 ▸ h.1, h.2 ▸ Only.refl _ _⟩)
  refine ls_cons ?_ ?_
  ·
   intro v19 lo hi w_ k_ hO hd _ _ hk_ _ hR hold
   have r_hN := hR
   have d13 : Ps (Ors L.S X) (Seq kB ((s.ask (s.readOk ↑dn ↑bn ↑pn)).dl ((s.ask (s.readOk ↑dn ↑bn ↑pn)).ix dn bn pn)) (v19 13)) w_ := hd 13 kr
   have d26 : Ps (Ors L.S X) (Seq kI ((s.ask (s.readOk ↑dn ↑bn ↑pn)).nl ((s.ask (s.readOk ↑dn ↑bn ↑pn)).ix dn bn pn)) (v19 26)) w_ := hd 26 kr
   clear hd hold
   refine ⟨_, rfl, gd rfl ?_⟩
   refine Does.mono (R := ROw 5 eB (flipI ((s.ask (s.readOk ↑dn ↑bn ↑pn)).dl ((s.ask (s.readOk ↑dn ↑bn ↑pn)).ix dn bn pn)) ((s.ask (s.readOk ↑dn ↑bn ↑pn)).nl ((s.ask (s.readOk ↑dn ↑bn ↑pn)).ix dn bn pn))) w_) ?_ (fun u w' h => ⟨(h.ps).1.less (ors_old r_hN.lt (old_old (Nat.le_trans oW.size hO.size))), (h.ps).2⟩)
   exact d_call (xl := [.tmp 39, .tmp 52]) (al := [(v19 13), (v19 26)]) Try.func22 kr rfl rfl rfl (ref6FlipI_ok ((s.ask (s.readOk ↑dn ↑bn ↑pn)).dl ((s.ask (s.readOk ↑dn ↑bn ↑pn)).ix dn bn pn)) ((s.ask (s.readOk ↑dn ↑bn ↑pn)).nl ((s.ask (s.readOk ↑dn ↑bn ↑pn)).ix dn bn pn)) (v19 13) (v19 26) _ (Ps.no d13) (Ps.no d26) fo fo hrg_)
  refine ls_cons ?_ ?_
  ·
   intro v19 lo hi w_ k_ hO hd _ _ hk_ _ hR hold
   have r_hN := hR
   have d27 : Ps (Ors L.S (Old W.heap.size)) (Seq kB (flipI ((s.ask (s.readOk ↑dn ↑bn ↑pn)).dl ((s.ask (s.readOk ↑dn ↑bn ↑pn)).ix dn bn pn)) ((s.ask (s.readOk ↑dn ↑bn ↑pn)).nl ((s.ask (s.readOk ↑dn ↑bn ↑pn)).ix dn bn pn))) (v19 27)) w_ := hd 27 kr
   clear hd hold
   refine ⟨_, rfl, gd rfl ?_⟩
   refine Does.mono (d_assign rfl) (fun u w' h => by obtain ⟨rfl, rfl⟩ := h; exact ⟨d27, Only.refl _ _⟩)
  refine ls_cons ?_ ?_
  ·
   intro v19 lo hi w_ k_ hO hd _ _ hk_ _ hR hold
   have r_hN := hR
   clear hd hold
   refine ⟨_, rfl, gd rfl ?_⟩
   exact Does.is (d_assign rfl)
  exact ls_nil
 ·
  exact ms_nil
 intro v19 lo_ hi_ w20 o21 hd iv_ hR
 have e0 : v19 0 = (ptr L.bN 0) := hd 0 (by decide)
 have e1 : v19 1 = (ptr L.bN 0) := hd 1 (by decide)
 have e2 : v19 2 = (ptr L.bN 3) := hd 2 (by decide)
 have e3 : v19 3 = (sli L.bU 0 ((s.ask (s.readOk ↑dn ↑bn ↑pn)).gD) L.cU) := hd 3 (by decide)
 have e4 : v19 4 = (eN dn) := hd 4 (by decide)
 have e5 : v19 5 = (ptr L.bU dn) := hd 5 (by decide)
 have e6 : v19 6 = (sli (L.bd dn) 0 ((s.ask (s.readOk ↑dn ↑bn ↑pn)).gB) (L.cd dn)) := hd 6 (by decide)
 have e7 : v19 7 = (eN bn) := hd 7 (by decide)
 have e8 : v19 8 = (ptr (L.bd dn) (bn * 4)) := hd 8 (by decide)
 have e9 : v19 9 = (ptr (L.bd dn) (bn * 4)) := hd 9 (by decide)
 have e10 : v19 10 = (sli (L.bp (dn * (s.ask (s.readOk ↑dn ↑bn ↑pn)).gB + bn)) 0 ((s.ask (s.readOk ↑dn ↑bn ↑pn)).gP) (L.cp (dn * (s.ask (s.readOk ↑dn ↑bn ↑pn)).gB + bn))) := hd 10 (by decide)
 have e11 : v19 11 = (eN pn) := hd 11 (by decide)
 have e12 : v19 12 = (ptr (L.bp (dn * (s.ask (s.readOk ↑dn ↑bn ↑pn)).gB + bn)) pn) := hd 12 (by decide)
 have e14 : v19 14 = (ptr L.bN 0) := hd 14 (by decide)
 have e15 : v19 15 = (ptr L.bN 0) := hd 15 (by decide)
 have e16 : v19 16 = (ptr L.bN 4) := hd 16 (by decide)
 have e17 : v19 17 = (sli L.bV 0 ((s.ask (s.readOk ↑dn ↑bn ↑pn)).gD) L.cV) := hd 17 (by decide)
 have e18 : v19 18 = (eN dn) := hd 18 (by decide)
 have e19 : v19 19 = (ptr L.bV dn) := hd 19 (by decide)
 have e20 : v19 20 = (sli (L.bw dn) 0 ((s.ask (s.readOk ↑dn ↑bn ↑pn)).gB) (L.cw dn)) := hd 20 (by decide)
 have e21 : v19 21 = (eN bn) := hd 21 (by decide)
 have e22 : v19 22 = (ptr (L.bw dn) bn) := hd 22 (by decide)
 have e23 : v19 23 = (sli (L.bz (dn * (s.ask (s.readOk ↑dn ↑bn ↑pn)).gB + bn)) 0 ((s.ask (s.readOk ↑dn ↑bn ↑pn)).gP) ((s.ask (s.readOk ↑dn ↑bn ↑pn)).gP)) := hd 23 (by decide)
 have e24 : v19 24 = (eN pn) := hd 24 (by decide)
 have e25 : v19 25 = (ptr (L.bz (dn * (s.ask (s.readOk ↑dn ↑bn ↑pn)).gB + bn)) pn) := hd 25 (by decide)
 have e29 : v19 29 = (eN 0) := hd 29 (by decide)
 have f_v19_13 : Ps (Ors L.S X) (Seq kB ((s.ask (s.readOk ↑dn ↑bn ↑pn)).dl ((s.ask (s.readOk ↑dn ↑bn ↑pn)).ix dn bn pn)) (v19 13)) w20 := hd 13 (by decide)
 have f_v19_26 : Ps (Ors L.S X) (Seq kI ((s.ask (s.readOk ↑dn ↑bn ↑pn)).nl ((s.ask (s.readOk ↑dn ↑bn ↑pn)).ix dn bn pn)) (v19 26)) w20 := hd 26 (by decide)
 have f_v19_27 : Ps (Ors L.S (Old W.heap.size)) (Seq kB (flipI ((s.ask (s.readOk ↑dn ↑bn ↑pn)).dl ((s.ask (s.readOk ↑dn ↑bn ↑pn)).ix dn bn pn)) ((s.ask (s.readOk ↑dn ↑bn ↑pn)).nl ((s.ask (s.readOk ↑dn ↑bn ↑pn)).ix dn bn pn))) (v19 27)) w20 := hd 27 (by decide)
 have f_v19_28 : Ps (Ors L.S (Old W.heap.size)) (Seq kB (flipI ((s.ask (s.readOk ↑dn ↑bn ↑pn)).dl ((s.ask (s.readOk ↑dn ↑bn ↑pn)).ix dn bn pn)) ((s.ask (s.readOk ↑dn ↑bn ↑pn)).nl ((s.ask (s.readOk ↑dn ↑bn ↑pn)).ix dn bn pn))) (v19 28)) w20 := hd 28 (by decide)
 clear hd iv_ lo_ hi_
 refine fr_eq (l' := ([(ptr L.bN 0), (eN dn), (eN bn), (eN pn), (zf18 4), (zf18 5), (zf18 6), (zf18 7), (v19 28), (eN 0)] ++ (zs zf18 10 16 ++ [(ptr L.bN 0), (ptr L.bN 0), (ptr L.bN 3), (sli L.bU 0 ((s.ask (s.readOk ↑dn ↑bn ↑pn)).gD) L.cU), (eN dn), (ptr L.bU dn), (sli (L.bd dn) 0 ((s.ask (s.readOk ↑dn ↑bn ↑pn)).gB) (L.cd dn)), (eN bn), (ptr (L.bd dn) (bn * 4)), (ptr (L.bd dn) (bn * 4)), (sli (L.bp (dn * (s.ask (s.readOk ↑dn ↑bn ↑pn)).gB + bn)) 0 ((s.ask (s.readOk ↑dn ↑bn ↑pn)).gP) (L.cp (dn * (s.ask (s.readOk ↑dn ↑bn ↑pn)).gB + bn))), (eN pn), (ptr (L.bp (dn * (s.ask (s.readOk ↑dn ↑bn ↑pn)).gB + bn)) pn), (v19 13), (ptr L.bN 0), (ptr L.bN 0), (ptr L.bN 4), (sli L.bV 0 ((s.ask (s.readOk ↑dn ↑bn ↑pn)).gD) L.cV), (eN dn), (ptr L.bV dn), (sli (L.bw dn) 0 ((s.ask (s.readOk ↑dn ↑bn ↑pn)).gB) (L.cw dn)), (eN bn), (ptr (L.bw dn) bn), (sli (L.bz (dn * (s.ask (s.readOk ↑dn ↑bn ↑pn)).gB + bn)) 0 ((s.ask (s.readOk ↑dn ↑bn ↑pn)).gP) ((s.ask (s.readOk ↑dn ↑bn ↑pn)).gP)), (eN pn), (ptr (L.bz (dn * (s.ask (s.readOk ↑dn ↑bn ↑pn)).gB + bn)) pn), (v19 26), (v19 27)]))) (by rw [e0, e1, e2, e3, e4, e5, e6, e7, e8, e9, e10, e11, e12, e14, e15, e16, e17, e18, e19, e20, e21, e22, e23, e24, e25, e29] <;> rfl) ?_
 clear e0 e1 e2 e3 e4 e5 e6 e7 e8 e9 e10 e11 e12 e14 e15 e16 e17 e18 e19 e20 e21 e22 e23 e24 e25 e29
 replace hN := hR
 clear hR
 replace oW := oW.tail o21 (tl_sin (fun k h => h) tl_no)
 refine tN ?_
 refine forget (fun zf22 => (zs zf22 0 8 ++ [(v19 28), (eN 0)] ++ (zs zf22 10 44))) kr (fun zf22 => ?_)
 refine wpIn_ret ?_
 refine leave0 (v := (Value.tuple #[(v19 28), (eN 0)])) (res2 Try.results56 rfl rfl) ?_
 exact ⟨_, congrArg (fun x_ => Value.tuple #[_, eN x_]) c0.symm, by unfold NS.readL; rw [if_pos c0]; exact (f_v19_28.less (xx_skip xx_id)), hN, oW⟩
theorem refProg_ok (L : RL) (s : NS) {X : Nat → Prop} (W : World) (hN : Rd L s X W) (d b p : Int) (l : List UInt8) (ul : Value) (hX : ∀ k, X k → k < W.heap.size) (hl : Ps (Ors L.S No) (Seq kB l ul) W) (gl : l.length ≤ 1048576) :
    CW Try.prog 54 #[(ptr L.bN 0), (eI d), (eI b), (eI p), ul] W (Rt (fun u w => u = eN (s.progR d b p l) ∧ Rd L (s.prog d b p l) X w ∧ Only L.S W w)) := by
 have oW : Only L.S W W := Only.refl _ _
 refine enter (al := [(ptr L.bN 0), (eI d), (eI b), (eI p), ul]) (k := 82) (l := ([(ptr L.bN 0), (eI d), (eI b), (eI p), ul] ++ (us 82))) Try.func54 rfl Try.ntmps54 rfl rfl ?_
 refine wQ (pL ?_)
 refine wI (d_assign rfl) ?_
 refine wD (tN (wQ ?_))
 by_cases k0 : (s.there d b) = true
 ·
  obtain ⟨hd0, hd1, hb0, hb1⟩ := NS.there_of k0
  obtain ⟨dn, rfl⟩ := Int.eq_ofNat_of_zero_le hd0
  replace hd1 : dn < s.gD := Int.ofNat_lt.1 hd1
  refine wp_eq (l' := ([(ptr L.bN 0), (eN dn), (eI b), (eI p), ul] ++ (us 5 ++ [(eN 0)] ++ (us 76)))) rfl ?_
  obtain ⟨bn, rfl⟩ := Int.eq_ofNat_of_zero_le hb0
  replace hb1 : bn < s.gB := Int.ofNat_lt.1 hb1
  refine wp_eq (l' := ([(ptr L.bN 0), (eN dn), (eN bn), (eI p), ul] ++ (us 5 ++ [(eN 0)] ++ (us 76)))) rfl ?_
  by_cases k1 : (((s.bl dn bn).nx : Nat) : Int) = p
  ·
   by_cases k2 : l.length = 60
   ·
    refine pL ?_
    refine wI (d_move rfl) ?_
    refine wI (d_move rfl) ?_
    refine wI (d_move rfl) ?_
    refine wO (d_call (xl := [.tmp 14, .tmp 15, .tmp 16]) (al := [(ptr L.bN 0), (eN dn), (eN bn)]) Try.func43 kr rfl rfl rfl (refThere_ok L s _ hN (r := true) (dn : Int) (bn : Int) k0)) ?_
    rintro _ w11 ⟨rfl, o12⟩
    replace hl := hl.step0 o12
    replace hN := hN.step0 o12
    replace oW := oW.tail0 o12
    refine wI (d_move rfl) ?_
    refine wG (d_move rfl) ?_
    refine wG (d_nilCheck (b := L.bN) (o := 0) rfl) ?_
    refine wF ([(ptr L.bN 0), (eN dn), (eN bn), (eI p), ul] ++ (us 5 ++ [(eN 0), undef, undef, undef, (ptr L.bN 0), (eN dn), (eN bn), vT, vT, (ptr L.bN 0), (ptr L.bN 0)] ++ (us 66))) ?_
    refine wG (d_fieldAddr (j := 3) Try.underlying81 rfl s_ti78 (by decide) rfl rfl) ?_
    refine wG (rd_ld (v := (sli L.bU 0 s.gD L.cU)) hN ⟨_, Try.underlying78, rfl⟩ rfl (fun _ => rfl)) ?_
    refine wG (d_move rfl) ?_
    refine wG (d_index1 (n := s.gD) (i := dn) Try.underlying78 s_ti82 rfl (show _ = Value.int _ (dn : Int) from rfl) hd1) ?_
    refine wG (rd_ldU (i := dn) hN ⟨_, Try.underlying82, rfl⟩ rfl hd1) ?_
    refine wG (d_move rfl) ?_
    refine wG (d_index (b := (L.bd dn)) (o := 0) (n := s.gB) (c := (L.cd dn)) (j := (bn * 4)) Try.underlying82 s_ti85 rfl (show _ = Value.int _ (bn : Int) from rfl) oo (Int.ofNat_lt.2 hb1) (by simp)) ?_
    refine wF ([(ptr L.bN 0), (eN dn), (eN bn), (eI p), ul] ++ (us 5 ++ [(eN 0), undef, undef, undef, (ptr L.bN 0), (eN dn), (eN bn), vT, vT, (ptr L.bN 0), (ptr L.bN 0), (ptr L.bN 3), (sli L.bU 0 s.gD L.cU), (eN dn), (ptr L.bU dn), (sli (L.bd dn) 0 s.gB (L.cd dn)), (eN bn), (ptr (L.bd dn) (bn * 4))] ++ (us 59))) ?_
    refine wG (d_fieldAddr (j := bn * 4 + 1) Try.underlying85 rfl s_ti3 (by decide) rfl rfl) ?_
    refine wG (rd_ldS (i := dn) (j := bn) (f := 1) hN ⟨_, Try.underlying3, rfl⟩ rfl hd1 hb1 (by decide) rfl) ?_
    refine wG (d_move rfl) ?_
    refine wG (d_eql (k := .i64) (m := (((s.bl dn bn).nx : Nat) : Int)) (n := p) rfl rfl (decide_eq_true k1)) ?_
    refine wI (d_pick (b := true) (v := vT) rfl rfl) ?_
    refine wI (d_move rfl) ?_
    refine wG (d_move rfl) ?_
    refine wF ([(ptr L.bN 0), (eN dn), (eN bn), (eI p), ul] ++ (us 5 ++ [(eN 0), undef, undef, undef, (ptr L.bN 0), (eN dn), (eN bn), vT, vT, (ptr L.bN 0), (ptr L.bN 0), (ptr L.bN 3), (sli L.bU 0 s.gD L.cU), (eN dn), (ptr L.bU dn), (sli (L.bd dn) 0 s.gB (L.cd dn)), (eN bn), (ptr (L.bd dn) (bn * 4)), (ptr (L.bd dn) (bn * 4 + 1)), (eN ((s.bl dn bn).nx)), (eI p), vT, vT, vT, ul] ++ (us 52))) ?_
    refine wG (d_lenS rfl Try.underlying36 rfl hl) ?_
    refine wG (n_eql (a := l.length) (b := 60) rfl rfl (decide_eq_true k2)) ?_
    refine wI (d_pick (b := true) (v := vT) rfl rfl) ?_
    refine wI (d_assign rfl) ?_
    refine wD (tN ?_)
    refine forget (fun zf13 => ([(ptr L.bN 0), (eN dn), (eN bn), (eI p), ul] ++ (zs zf13 5 6 ++ [vT] ++ (zs zf13 12 53 ++ (us 22))))) kr (fun zf13 => ?_)
    refine wQ (pL ?_)
    refine wI (d_move rfl) ?_
    refine wI (d_move rfl) ?_
    refine wI (d_move rfl) ?_
    refine wI (d_move rfl) ?_
    refine wI (d_move rfl) ?_
    refine wO (d_call (xl := [.tmp 38, .tmp 39, .tmp 40, .tmp 41, .tmp 42]) (al := [(ptr L.bN 0), (eN dn), (eN bn), (eI p), vT]) Try.func64 kr rfl rfl rfl (refMay_ok L s _ hN (g := (s.progOk ↑dn ↑bn p l)) (dn : Int) (bn : Int) p true (by rw [← NS.mayOk_prog]; congr 1; simp [*]))) ?_
    rintro _ w14 ⟨rfl, a16, o15⟩
    replace hl := hl.step o15 sub1
    replace oW := oW.tail o15 (fun k _ e => (fun k h => h) k e)
    replace hN := a16
    refine wI (d_assign rfl) ?_
    refine wD (tN (wQ (wQ (pL ?_))))
    refine wI (d_move rfl) ?_
    refine wI (n_neq (a := (s.askR (s.progOk ↑dn ↑bn p l))) (b := 0) rfl rfl rfl) ?_
    refine wF ([(ptr L.bN 0), (eN dn), (eN bn), (eI p), ul] ++ (zs zf13 5 6 ++ [vT, (eN (s.askR (s.progOk ↑dn ↑bn p l)))] ++ (zs zf13 13 25 ++ [(ptr L.bN 0), (eN dn), (eN bn), (eI p), vT, (eN (s.askR (s.progOk ↑dn ↑bn p l))), (eN (s.askR (s.progOk ↑dn ↑bn p l))), (Value.bool (!decide ((s.askR (s.progOk ↑dn ↑bn p l)) = 0)))] ++ (zs zf13 46 19 ++ (us 22))))) ?_
    refine wD (tN ?_)
    refine forget (fun zf17 => ([(ptr L.bN 0), (eN dn), (eN bn), (eI p), ul] ++ (zs zf17 5 7 ++ [(eN (s.askR (s.progOk ↑dn ↑bn p l)))] ++ (zs zf17 13 32 ++ [(Value.bool (!decide ((s.askR (s.progOk ↑dn ↑bn p l)) = 0)))] ++ (zs zf17 46 19 ++ (us 22)))))) kr (fun zf17 => ?_)
    refine cond_un rfl (fun c0 => ?_) (fun c0 => ?_)
    ·
     refine wQ (pL ?_)
     refine wI (d_move rfl) ?_
     refine wI (d_assign rfl) ?_
     refine wD (tN ?_)
     refine forget (fun zf18 => (zs zf18 0 10 ++ [(eN (s.askR (s.progOk ↑dn ↑bn p l)))] ++ (zs zf18 11 76))) kr (fun zf18 => ?_)
     refine wpIn_ret ?_
     refine then_r ?_
     refine leave0 (v := (eN (s.askR (s.progOk ↑dn ↑bn p l)))) (res1 Try.results54 rfl) ?_
     obtain ⟨e1_, e2_⟩ := NS.prog_no c0; exact ⟨congrArg eN e2_.symm, e1_ ▸ rd_to hN (NS.may_no c0), oW⟩
    refine wK (tN (wQ ?_))
    obtain ⟨⟨hd0_, hd1_, hb0_, hb1_⟩, ⟨hp0, hp1⟩, _⟩ := NS.mayOk_of (by rw [NS.mayOk_prog]; exact (NS.askR_yes c0).2)
    obtain ⟨pn, rfl⟩ := Int.eq_ofNat_of_zero_le hp0
    replace hp1 : pn < s.gP := Int.ofNat_lt.1 hp1
    refine wp_eq (l' := ([(ptr L.bN 0), (eN dn), (eN bn), (eN pn), ul] ++ (zs zf17 5 7 ++ [(eN (s.askR (s.progOk ↑dn ↑bn ↑pn l)))] ++ (zs zf17 13 32 ++ [(Value.bool (!decide ((s.askR (s.progOk ↑dn ↑bn ↑pn l)) = 0)))] ++ (zs zf17 46 19 ++ (us 22)))))) rfl ?_
    replace hN := rd_to hN (NS.may_yes c0)
    obtain ⟨hnx_, hl6_⟩ := NS.progOk_nx c0
    have okp_ : 4 ≤ s.gP ∧ s.gP ≤ 8 := hN.ok.p
    have hdd_ := (NS.askR_yes c0).1
    refine pL ?_
    refine wI (d_move rfl) ?_
    refine wI (d_nilCheck (b := L.bN) (o := 0) rfl) ?_
    refine wI (d_fieldAddr (j := 3) Try.underlying81 rfl s_ti78 (by decide) rfl rfl) ?_
    refine wI (rd_ld (v := (sli L.bU 0 s.gD L.cU)) hN ⟨_, Try.underlying78, rfl⟩ rfl (fun _ => rfl)) ?_
    refine wI (d_move rfl) ?_
    refine wI (d_index1 (n := s.gD) (i := dn) Try.underlying78 s_ti82 rfl (show _ = Value.int _ (dn : Int) from rfl) hd1) ?_
    refine wI (rd_ldU (i := dn) hN ⟨_, Try.underlying82, rfl⟩ rfl hd1) ?_
    refine wI (d_move rfl) ?_
    refine wI (d_index (b := (L.bd dn)) (o := 0) (n := s.gB) (c := (L.cd dn)) (j := (bn * 4)) Try.underlying82 s_ti85 rfl (show _ = Value.int _ (bn : Int) from rfl) oo (Int.ofNat_lt.2 hb1) (by simp)) ?_
    refine wF ([(ptr L.bN 0), (eN dn), (eN bn), (eN pn), ul] ++ (zs zf17 5 7 ++ [(eN (s.askR (s.progOk ↑dn ↑bn ↑pn l)))] ++ (zs zf17 13 32 ++ [(Value.bool (!decide ((s.askR (s.progOk ↑dn ↑bn ↑pn l)) = 0))), (zf17 46), (ptr L.bN 0), (ptr L.bN 0), (ptr L.bN 3), (sli L.bU 0 s.gD L.cU), (eN dn), (ptr L.bU dn), (sli (L.bd dn) 0 s.gB (L.cd dn)), (eN bn), (ptr (L.bd dn) (bn * 4))] ++ (zs zf17 56 9 ++ (us 22))))) ?_
    refine wI (d_assign rfl) ?_
    refine wD (tN ?_)
    refine forget (fun zf19 => ([(ptr L.bN 0), (zf19 1), (zf19 2), (eN pn), ul] ++ (zs zf19 5 8 ++ [(ptr (L.bd dn) (bn * 4))] ++ (zs zf19 14 51 ++ (us 22))))) kr (fun zf19 => ?_)
    refine wQ (pL ?_)
    refine wI (d_move rfl) ?_
    refine wI (d_nilCheck (b := (L.bd dn)) (o := (bn * 4)) rfl) ?_
    refine wI (d_fieldAddr (j := bn * 4 + 1) Try.underlying85 rfl s_ti3 (by decide) rfl rfl) ?_
    refine wI (rd_ldS (i := dn) (j := bn) (f := 1) hN ⟨_, Try.underlying3, rfl⟩ rfl hd1 hb1 (by decide) rfl) ?_
    refine wI (n_add (a := ((s.bl dn bn).nx)) (b := 1) rfl rfl (by show (s.bl dn bn).nx + 1 < _; omega)) ?_
    refine wI (d_nilCheck (b := (L.bd dn)) (o := (bn * 4)) rfl) ?_
    refine wI (d_fieldAddr (j := bn * 4 + 1) Try.underlying85 rfl s_ti3 (by decide) rfl rfl) ?_
    refine wO (rd_stS (i := dn) (j := bn) (f := 1) (x' := { s.bl dn bn with nx := (s.bl dn bn).nx + 1 }) hN s_ti3 rfl rfl rfl hd1 hb1 (by decide) (fun _ => rfl) (by show (s.bl dn bn).nx + 1 ≤ 8; omega)) ?_
    rintro _ w20 ⟨a21, o22⟩
    replace hl := hl.step o22 sub1
    replace oW := oW.tail o22 (fun k _ e => (fun k h => h) k e)
    replace hN := a21
    refine wD (tN (wQ (wQ (pL ?_))))
    refine wI (d_move rfl) ?_
    refine wF ([(ptr L.bN 0), (zf19 1), (zf19 2), (eN pn), ul] ++ (zs zf19 5 8 ++ [(ptr (L.bd dn) (bn * 4))] ++ (zs zf19 14 42 ++ [(ptr (L.bd dn) (bn * 4)), (ptr (L.bd dn) (bn * 4)), (ptr (L.bd dn) (bn * 4 + 1)), (eN ((s.bl dn bn).nx)), (eN ((s.bl dn bn).nx + 1)), (ptr (L.bd dn) (bn * 4)), (ptr (L.bd dn) (bn * 4 + 1)), (ptr L.bN 0), (zf19 64)] ++ (us 22)))) ?_
    refine wO (d_call (xl := [.tmp 63]) (al := [(ptr L.bN 0)]) Try.func65 kr rfl rfl rfl (refStops_ok L (s.setB dn bn { s.bl dn bn with nx := (s.bl dn bn).nx + 1 }) _ hN hdd_)) ?_
    rintro _ w23 ⟨rfl, a25, o24⟩
    replace hl := hl.step o24 sub1
    replace oW := oW.tail o24 (fun k _ e => (fun k h => h) k e)
    replace hN := a25
    refine wD (tN ?_)
    refine forget (fun zf26 => ([(ptr L.bN 0), (zf26 1), (zf26 2), (eN pn), ul] ++ (zs zf26 5 8 ++ [(ptr (L.bd dn) (bn * 4))] ++ (zs zf26 14 50 ++ [(Value.bool ((s.setB dn bn { s.bl dn bn with nx := (s.bl dn bn).nx + 1 }).goesR))] ++ (us 22))))) kr (fun zf26 => ?_)
    refine cond_b rfl (fun c1 => ?_) (fun c1 => ?_)
    ·
     refine wQ ?_
     replace hN := rd_to hN (show _ = s.progA ↑dn ↑bn ↑pn l from NS.stops_prog c0 _ _)
     have l3_ : (s.progA ↑dn ↑bn ↑pn l).mask.length ≤ 1048576 := hN.ok.ml
     refine drawnT (O := (Ors L.S No)) (n := 14) 12 [0, 1, 3, 7, 0, 0, 0, 0, 128, 384, 896, 2016, 4095, 8191] [(0, 65), (1, 66), (2, 67), (3, 68), (4, 69), (5, 70), (6, 71), (7, 72), (8, 73), (9, 74), (10, 75), (11, 76), (12, 77)] [(0, 65), (1, 66), (2, 67), (3, 68), (4, 69), (5, 70), (6, 71), (7, 72), (8, 73), (9, 74), (10, 75), (11, 76)] [0, 1, 2, 3, 4, 5, 6, 7, 8, 9, 10, 11] [] (fun i_ => ([RF.is (Ors L.S No) (ptr (L.bd dn) (bn * 4)), RF.is (Ors L.S No) (ptr (L.bd dn) (bn * 4)), RF.is (Ors L.S No) (ptr (L.bd dn) (bn * 4)), RF.is (Ors L.S No) (sli (L.bp (dn * (s.progA ↑dn ↑bn ↑pn l).gB + bn)) 0 ((s.progA ↑dn ↑bn ↑pn l).gP) (L.cp (dn * (s.progA ↑dn ↑bn ↑pn l).gB + bn))), RF.is (Ors L.S No) (eN pn), RF.ps (Ors L.S No) (Ors L.S (Old W.heap.size)) (Seq kB onesW) (ors_mono no_any), RF.is (Ors L.S No) ul, RF.is (Ors L.S No) (ptr L.bN 0), RF.is (Ors L.S No) (ptr L.bN 0), RF.is (Ors L.S No) (ptr L.bN 6), RF.ps (Ors L.S No) (Ors L.S X) (Seq kB ((s.progA ↑dn ↑bn ↑pn l).mask)) (ors_mono no_any), RF.ps (Ors L.S No) (Ors L.S (Old W.heap.size)) (Seq kB (mixR onesW l ((s.progA ↑dn ↑bn ↑pn l).mask))) (ors_mono no_any)] : List (RF (Ors L.S No))).getD i_ (RF.any (Ors L.S No))) (fun _ w_ => Rd L (s.progA ↑dn ↑bn ↑pn l) X w_) (fun v27 => ([(ptr L.bN 0), (zf26 1), (zf26 2), (eN pn), ul] ++ (zs zf26 5 8 ++ [(ptr (L.bd dn) (bn * 4))] ++ (zs zf26 14 50 ++ [(Value.bool ((s.setB dn bn { s.bl dn bn with nx := (s.bl dn bn).nx + 1 }).goesR)), (v27 0), (v27 1), (v27 2), (v27 3), (v27 4), (v27 5), (v27 6), (v27 7), (v27 8), (v27 9), (v27 10), (v27 11), (v27 12)] ++ (us 9))))) (fun v27 => ([(ptr L.bN 0), (zf26 1), (zf26 2), (eN pn), ul] ++ (zs zf26 5 8 ++ [(ptr (L.bd dn) (bn * 4))] ++ (zs zf26 14 50 ++ [(Value.bool ((s.setB dn bn { s.bl dn bn with nx := (s.bl dn bn).nx + 1 }).goesR)), (v27 0), (v27 1), (v27 2), (v27 3), (v27 4), (v27 5), (v27 6), (v27 7), (v27 8), (v27 9), (v27 10), (v27 11)] ++ (us 10))))) s_mx kr rfl (by decide) (by rfl) kr kr kr (by rfl) (fun v_ => by kernel_rfl) (fun v_ => by kernel_rfl) (fun _ => fun w_ w2_ h ho => by have r_hN := h; exact r_hN.step0 ho) hN ?_ ?_ ?_
     ·
      refine ls_cons ?_ ?_
      ·
       intro v27 lo hi w_ k_ hO hd _ _ hk_ _ hR hold
       have r_hN := hR
       clear hd hold
       refine ⟨_, rfl, gd rfl ?_⟩
       exact Does.is (d_move rfl)
      refine ls_cons ?_ ?_
      ·
       intro v27 lo hi w_ k_ hO hd _ _ hk_ _ hR hold
       have r_hN := hR
       have e0 : v27 0 = (ptr (L.bd dn) (bn * 4)) := hd 0 kr
       clear hd hold
       refine ⟨_, rfl, gd rfl ?_⟩
       exact Does.is (d_nilCheck (b := (L.bd dn)) (o := (bn * 4)) e0)
      refine ls_cons ?_ ?_
      ·
       intro v27 lo hi w_ k_ hO hd _ _ hk_ _ hR hold
       have r_hN := hR
       have e1 : v27 1 = (ptr (L.bd dn) (bn * 4)) := hd 1 kr
       clear hd hold
       refine ⟨_, rfl, gd rfl ?_⟩
       exact Does.is (d_fieldAddr (j := bn * 4) Try.underlying85 rfl s_ti63 (by decide) e1 rfl)
      refine ls_cons ?_ ?_
      ·
       intro v27 lo hi w_ k_ hO hd _ _ hk_ _ hR hold
       have r_hN := hR
       have e2 : v27 2 = (ptr (L.bd dn) (bn * 4)) := hd 2 kr
       clear hd hold
       refine ⟨_, rfl, gd rfl ?_⟩
       exact Does.is (rd_ldS (i := dn) (j := bn) (f := 0) r_hN ⟨_, Try.underlying63, rfl⟩ e2 hd1 hb1 (by decide) rfl)
      refine ls_cons ?_ ?_
      ·
       intro v27 lo hi w_ k_ hO hd _ _ hk_ _ hR hold
       have r_hN := hR
       clear hd hold
       refine ⟨_, rfl, gd rfl ?_⟩
       exact Does.is (d_move rfl)
      refine ls_cons ?_ ?_
      ·
       intro v27 lo hi w_ k_ hO hd _ _ hk_ _ hR hold
       have r_hN := hR
       clear hd hold
       refine ⟨_, rfl, gd rfl ?_⟩
       refine Does.mono (R := ROw 5 eB onesW w_) ?_ (fun u w' h => ⟨(h.ps).1.less (ors_old r_hN.lt (old_old (Nat.le_trans oW.size hO.size))), (h.ps).2⟩)
       exact d_call (xl := []) (al := []) Try.func42 kr rfl rfl rfl (ref7Ones_ok _)
      refine ls_cons ?_ ?_
      ·
       intro v27 lo hi w_ k_ hO hd _ _ hk_ _ hR hold
       have r_hN := hR
       clear hd hold
       refine ⟨_, rfl, gd rfl ?_⟩
       exact Does.is (d_move rfl)
      refine ls_cons ?_ ?_
      ·
       intro v27 lo hi w_ k_ hO hd _ _ hk_ _ hR hold
       have r_hN := hR
       clear hd hold
       refine ⟨_, rfl, gd rfl ?_⟩
       exact Does.is (d_move rfl)
      refine ls_cons ?_ ?_
      ·
       intro v27 lo hi w_ k_ hO hd _ _ hk_ _ hR hold
       have r_hN := hR
       have e7 : v27 7 = (ptr L.bN 0) := hd 7 kr
       clear hd hold
       refine ⟨_, rfl, gd rfl ?_⟩
       exact Does.is (d_nilCheck (b := L.bN) (o := 0) e7)
      refine ls_cons ?_ ?_
      ·
       intro v27 lo hi w_ k_ hO hd _ _ hk_ _ hR hold
       have r_hN := hR
       have e8 : v27 8 = (ptr L.bN 0) := hd 8 kr
       clear hd hold
       refine ⟨_, rfl, gd rfl ?_⟩
       exact Does.is (d_fieldAddr (j := 6) Try.underlying81 rfl s_ti36 (by decide) e8 rfl)
      refine ls_cons ?_ ?_
      ·
       intro v27 lo hi w_ k_ hO hd _ _ hk_ _ hR hold
       have r_hN := hR
       have e9 : v27 9 = (ptr L.bN 6) := hd 9 kr
       clear hd hold
       refine ⟨_, rfl, gd rfl ?_⟩
       refine Does.mono (rd_ldm (Y := (Ors L.S X)) r_hN xo_s ⟨_, Try.underlying36, rfl⟩ e9) (fun u w' h => ⟨h.2 ▸ h.1, h.2 ▸ Only.refl _ _⟩)
      refine ls_cons ?_ ?_
      ·
       intro v27 lo hi w_ k_ hO hd _ _ hk_ _ hR hold
       have r_hN := hR
       have d10 : Ps (Ors L.S X) (Seq kB ((s.progA ↑dn ↑bn ↑pn l).mask) (v27 10)) w_ := hd 10 kr
       have d5 : Ps (Ors L.S (Old W.heap.size)) (Seq kB onesW (v27 5)) w_ := hd 5 kr
       have e6 : v27 6 = ul := hd 6 kr
       clear hd hold
       refine ⟨_, rfl, gd rfl ?_⟩
       refine Does.mono (R := ROw 5 eB (mixR onesW l ((s.progA ↑dn ↑bn ↑pn l).mask)) w_) ?_ (fun u w' h => ⟨(h.ps).1.less (ors_old r_hN.lt (old_old (Nat.le_trans oW.size hO.size))), (h.ps).2⟩)
       exact d_call (xl := [.tmp 70, .tmp 71, .tmp 75]) (al := [(v27 5), ul, (v27 10)]) Try.func29 kr rfl (show ([(v27 5), (v27 6), (v27 10)] : List Value) = [(v27 5), ul, (v27 10)] from by rw [e6]) rfl (ref6Mix_ok onesW l ((s.progA ↑dn ↑bn ↑pn l).mask) (v27 5) ul (v27 10) _ (Ps.no d5) (Ps.no (hl.step hO (ors_mono no_any))) (Ps.no d10) (by have := onesW_len; first | omega | (simp; done) | (simp; omega)) fo fo)
      exact ls_nil
     ·
      exact ms_nil
     intro v27 lo_ hi_ w28 o29 hd iv_ hR
     have e0 : v27 0 = (ptr (L.bd dn) (bn * 4)) := hd 0 (by decide)
     have e1 : v27 1 = (ptr (L.bd dn) (bn * 4)) := hd 1 (by decide)
     have e2 : v27 2 = (ptr (L.bd dn) (bn * 4)) := hd 2 (by decide)
     have e3 : v27 3 = (sli (L.bp (dn * (s.progA ↑dn ↑bn ↑pn l).gB + bn)) 0 ((s.progA ↑dn ↑bn ↑pn l).gP) (L.cp (dn * (s.progA ↑dn ↑bn ↑pn l).gB + bn))) := hd 3 (by decide)
     have e4 : v27 4 = (eN pn) := hd 4 (by decide)
     have e6 : v27 6 = ul := hd 6 (by decide)
     have e7 : v27 7 = (ptr L.bN 0) := hd 7 (by decide)
     have e8 : v27 8 = (ptr L.bN 0) := hd 8 (by decide)
     have e9 : v27 9 = (ptr L.bN 6) := hd 9 (by decide)
     have f_v27_5 : Ps (Ors L.S (Old W.heap.size)) (Seq kB onesW (v27 5)) w28 := hd 5 (by decide)
     have f_v27_10 : Ps (Ors L.S X) (Seq kB ((s.progA ↑dn ↑bn ↑pn l).mask) (v27 10)) w28 := hd 10 (by decide)
     have f_v27_11 : Ps (Ors L.S (Old W.heap.size)) (Seq kB (mixR onesW l ((s.progA ↑dn ↑bn ↑pn l).mask)) (v27 11)) w28 := hd 11 (by decide)
     clear hd iv_ lo_ hi_
     refine wpL.flat ([(ptr L.bN 0), (zf26 1), (zf26 2), (eN pn), ul] ++ (zs zf26 5 8 ++ [(ptr (L.bd dn) (bn * 4))] ++ (zs zf26 14 50 ++ [(Value.bool ((s.setB dn bn { s.bl dn bn with nx := (s.bl dn bn).nx + 1 }).goesR)), (ptr (L.bd dn) (bn * 4)), (ptr (L.bd dn) (bn * 4)), (ptr (L.bd dn) (bn * 4)), (sli (L.bp (dn * (s.progA ↑dn ↑bn ↑pn l).gB + bn)) 0 ((s.progA ↑dn ↑bn ↑pn l).gP) (L.cp (dn * (s.progA ↑dn ↑bn ↑pn l).gB + bn))), (eN pn), (v27 5), ul, (ptr L.bN 0), (ptr L.bN 0), (ptr L.bN 6), (v27 10), (v27 11)] ++ (us 10)))) (by rw [e0, e1, e2, e3, e4, e6, e7, e8, e9] <;> rfl) ?_
     clear e0 e1 e2 e3 e4 e6 e7 e8 e9
     replace hl := hl.step o29 (ors_mono no_any)
     replace hN := hR
     clear hR
     replace oW := oW.tail o29 (tl_sin (fun k h => h) tl_no)
     refine wI (d_index1 (n := ((s.progA ↑dn ↑bn ↑pn l).gP)) (i := pn) Try.underlying63 s_ti36 rfl (show _ = Value.int _ (pn : Int) from rfl) hp1) ?_
     refine wO (rd_stD (i := dn) (j := bn) (f := pn) (Y := (Ors L.S X)) (l := (mixR onesW l ((s.progA ↑dn ↑bn ↑pn l).mask))) hN ox_s s_ti36 rfl rfl (f_v27_11.less (Y := (Ors L.S X)) (xx_ors (lt_old hX))) hd1 hb1 hp1 (mixR60 onesW_len hl6_)) ?_
     rintro _ w30 ⟨a31, o32⟩
     replace hl := hl.step o32 sub1
     replace f_v27_5 := f_v27_5.step o32 sub1
     replace f_v27_10 := f_v27_10.step o32 sub1
     replace f_v27_11 := f_v27_11.step o32 sub1
     replace oW := oW.tail o32 (fun k _ e => (fun k h => h) k e)
     replace hN := a31
     refine wF ([(ptr L.bN 0), (zf26 1), (zf26 2), (eN pn), ul] ++ (zs zf26 5 8 ++ [(ptr (L.bd dn) (bn * 4))] ++ (zs zf26 14 50 ++ [(Value.bool ((s.setB dn bn { s.bl dn bn with nx := (s.bl dn bn).nx + 1 }).goesR)), (ptr (L.bd dn) (bn * 4)), (ptr (L.bd dn) (bn * 4)), (ptr (L.bd dn) (bn * 4)), (sli (L.bp (dn * (s.progA ↑dn ↑bn ↑pn l).gB + bn)) 0 ((s.progA ↑dn ↑bn ↑pn l).gP) (L.cp (dn * (s.progA ↑dn ↑bn ↑pn l).gB + bn))), (eN pn), (v27 5), ul, (ptr L.bN 0), (ptr L.bN 0), (ptr L.bN 6), (v27 10), (v27 11), (ptr (L.bp (dn * (s.progA ↑dn ↑bn ↑pn l).gB + bn)) pn)] ++ (us 9)))) ?_
     refine wD (tN ?_)
     refine forget (fun zf33 => (zs zf33 0 87)) kr (fun zf33 => ?_)
     refine wQ (pL ?_)
     refine wI (d_assign rfl) ?_
     refine wD (tN ?_)
     refine wpIn_ret ?_
     refine then_r ?_
     refine leave0 (v := (eN 8)) (res1 Try.results54 rfl) ?_
     obtain ⟨e1_, e2_⟩ := NS.prog_torn c0 c1; exact ⟨congrArg eN e2_.symm, by rw [e1_]; exact hN, oW⟩
    refine wK (tN (wQ ?_))
    replace hN := rd_to hN (show _ = s.progA ↑dn ↑bn ↑pn l from NS.stops_prog c0 _ _)
    have l3_ : (s.progA ↑dn ↑bn ↑pn l).mask.length ≤ 1048576 := hN.ok.ml
    have hX0_ : ∀ k, (Ors L.S (Old W.heap.size)) k → k < w23.heap.size := (lt_ors hN.lt (fun k t => Nat.lt_of_lt_of_le t oW.size))
    have hO0_ : ∀ k, (Ors L.S No) k → k < w23.heap.size := fun k h => hX0_ k ((ors_mono no_any) k h)
    refine drawnT (O := (Ors L.S No)) (n := 10) 8 [0, 1, 3, 7, 0, 0, 0, 96, 255, 511] [(0, 78), (1, 79), (2, 80), (3, 81), (4, 82), (5, 83), (6, 84), (7, 85), (8, 86)] [(0, 78), (1, 79), (2, 80), (3, 81), (4, 82), (5, 83), (6, 84), (7, 85)] [0, 1, 2, 3, 4, 5, 6, 7] [] (fun i_ => ([RF.is (Ors L.S No) (ptr (L.bd dn) (bn * 4)), RF.is (Ors L.S No) (ptr (L.bd dn) (bn * 4)), RF.is (Ors L.S No) (ptr (L.bd dn) (bn * 4)), RF.is (Ors L.S No) (sli (L.bp (dn * (s.progA ↑dn ↑bn ↑pn l).gB + bn)) 0 ((s.progA ↑dn ↑bn ↑pn l).gP) (L.cp (dn * (s.progA ↑dn ↑bn ↑pn l).gB + bn))), RF.is (Ors L.S No) (eN pn), RF.ar (Ors L.S No) 5 0 (([] : List UInt8).map eB) w23.heap.size hO0_, RF.is (Ors L.S No) ul, RF.ps (Ors L.S No) (Ors L.S (Old W.heap.size)) (Seq kB l) (ors_mono no_any)] : List (RF (Ors L.S No))).getD i_ (RF.any (Ors L.S No))) (fun _ w_ => Rd L (s.progA ↑dn ↑bn ↑pn l) X w_) (fun v34 => ([(ptr L.bN 0), (zf26 1), (zf26 2), (eN pn), ul] ++ (zs zf26 5 8 ++ [(ptr (L.bd dn) (bn * 4))] ++ (zs zf26 14 50 ++ [(Value.bool ((s.setB dn bn { s.bl dn bn with nx := (s.bl dn bn).nx + 1 }).goesR))] ++ (us 13 ++ [(v34 0), (v34 1), (v34 2), (v34 3), (v34 4), (v34 5), (v34 6), (v34 7), (v34 8)]))))) (fun v34 => ([(ptr L.bN 0), (zf26 1), (zf26 2), (eN pn), ul] ++ (zs zf26 5 8 ++ [(ptr (L.bd dn) (bn * 4))] ++ (zs zf26 14 50 ++ [(Value.bool ((s.setB dn bn { s.bl dn bn with nx := (s.bl dn bn).nx + 1 }).goesR))] ++ (us 13 ++ [(v34 0), (v34 1), (v34 2), (v34 3), (v34 4), (v34 5), (v34 6), (v34 7), undef]))))) s_mx kr rfl (by decide) (by rfl) kr kr kr (by rfl) (fun v_ => by kernel_rfl) (fun v_ => by kernel_rfl) (fun _ => fun w_ w2_ h ho => by have r_hN := h; exact r_hN.step0 ho) hN ?_ ?_ ?_
    ·
     refine ls_cons ?_ ?_
     ·
      intro v34 lo hi w_ k_ hO hd _ _ hk_ _ hR hold
      have r_hN := hR
      clear hd hold
      refine ⟨_, rfl, gd rfl ?_⟩
      exact Does.is (d_move rfl)
     refine ls_cons ?_ ?_
     ·
      intro v34 lo hi w_ k_ hO hd _ _ hk_ _ hR hold
      have r_hN := hR
      have e0 : v34 0 = (ptr (L.bd dn) (bn * 4)) := hd 0 kr
      clear hd hold
      refine ⟨_, rfl, gd rfl ?_⟩
      exact Does.is (d_nilCheck (b := (L.bd dn)) (o := (bn * 4)) e0)
     refine ls_cons ?_ ?_
     ·
      intro v34 lo hi w_ k_ hO hd _ _ hk_ _ hR hold
      have r_hN := hR
      have e1 : v34 1 = (ptr (L.bd dn) (bn * 4)) := hd 1 kr
      clear hd hold
      refine ⟨_, rfl, gd rfl ?_⟩
      exact Does.is (d_fieldAddr (j := bn * 4) Try.underlying85 rfl s_ti63 (by decide) e1 rfl)
     refine ls_cons ?_ ?_
     ·
      intro v34 lo hi w_ k_ hO hd _ _ hk_ _ hR hold
      have r_hN := hR
      have e2 : v34 2 = (ptr (L.bd dn) (bn * 4)) := hd 2 kr
      clear hd hold
      refine ⟨_, rfl, gd rfl ?_⟩
      exact Does.is (rd_ldS (i := dn) (j := bn) (f := 0) r_hN ⟨_, Try.underlying63, rfl⟩ e2 hd1 hb1 (by decide) rfl)
     refine ls_cons ?_ ?_
     ·
      intro v34 lo hi w_ k_ hO hd _ _ hk_ _ hR hold
      have r_hN := hR
      clear hd hold
      refine ⟨_, rfl, gd rfl ?_⟩
      exact Does.is (d_move rfl)
     refine ls_cons ?_ ?_
     ·
      intro v34 lo hi w_ k_ hO hd _ _ hk_ _ hR hold
      have r_hN := hR
      clear hd hold
      refine ⟨_, rfl, gd rfl ?_⟩
      refine Does.mono (d_buildL (cs := []) Try.underlying36 s_ti5 rfl (nb rfl) parts_nil rfl) (fun u w' h => by obtain ⟨b_, rfl, hb_, hA_, hO_⟩ := h; exact ⟨⟨b_, rfl, hA_, Nat.le_trans hO.size hb_⟩, hO_⟩)
     refine ls_cons ?_ ?_
     ·
      intro v34 lo hi w_ k_ hO hd _ _ hk_ _ hR hold
      have r_hN := hR
      clear hd hold
      refine ⟨_, rfl, gd rfl ?_⟩
      exact Does.is (d_move rfl)
     refine ls_cons ?_ ?_
     ·
      intro v34 lo hi w_ k_ hO hd _ _ hk_ _ hR hold
      have r_hN := hR
      obtain ⟨mb5, me5, ma5, mf5⟩ : ∃ b, v34 5 = sli b 0 0 0 ∧ Arr 5 b (([] : List UInt8).map eB) w_ ∧ w23.heap.size ≤ b := hd 5 kr
      have e6 : v34 6 = ul := hd 6 kr
      clear hd hold
      refine ⟨_, rfl, gd rfl ?_⟩
      refine Does.mono (R := AppFull 5 eB mb5 (l) w_) ?_ (fun u w' h => by obtain ⟨bo_, h1_, h2_, h3_⟩ := h; exact ⟨h1_.seq (not_of_lt hX0_ (fresh_of h2_ mf5 hO.size)), h3_⟩)
      exact d_append_full (xs := ([] : List UInt8)) (ys := l) Try.underlying36 Try.underlying36 s_ti5 rfl me5 e6 ma5 (by simp) (SrcV.of_seq (hl.step hO (ors_mono no_any)) (fun _ => rfl)) (by first | omega | (simp; omega)) (by first | omega | (simp; omega)) rfl
     exact ls_nil
    ·
     exact ms_nil
    intro v34 lo_ hi_ w35 o36 hd iv_ hR
    have e0 : v34 0 = (ptr (L.bd dn) (bn * 4)) := hd 0 (by decide)
    have e1 : v34 1 = (ptr (L.bd dn) (bn * 4)) := hd 1 (by decide)
    have e2 : v34 2 = (ptr (L.bd dn) (bn * 4)) := hd 2 (by decide)
    have e3 : v34 3 = (sli (L.bp (dn * (s.progA ↑dn ↑bn ↑pn l).gB + bn)) 0 ((s.progA ↑dn ↑bn ↑pn l).gP) (L.cp (dn * (s.progA ↑dn ↑bn ↑pn l).gB + bn))) := hd 3 (by decide)
    have e4 : v34 4 = (eN pn) := hd 4 (by decide)
    have e6 : v34 6 = ul := hd 6 (by decide)
    have f_v34_7 : Ps (Ors L.S (Old W.heap.size)) (Seq kB l (v34 7)) w35 := hd 7 (by decide)
    clear hd iv_ lo_ hi_
    refine wpL.flat ([(ptr L.bN 0), (zf26 1), (zf26 2), (eN pn), ul] ++ (zs zf26 5 8 ++ [(ptr (L.bd dn) (bn * 4))] ++ (zs zf26 14 50 ++ [(Value.bool ((s.setB dn bn { s.bl dn bn with nx := (s.bl dn bn).nx + 1 }).goesR))] ++ (us 13 ++ [(ptr (L.bd dn) (bn * 4)), (ptr (L.bd dn) (bn * 4)), (ptr (L.bd dn) (bn * 4)), (sli (L.bp (dn * (s.progA ↑dn ↑bn ↑pn l).gB + bn)) 0 ((s.progA ↑dn ↑bn ↑pn l).gP) (L.cp (dn * (s.progA ↑dn ↑bn ↑pn l).gB + bn))), (eN pn), (v34 5), ul, (v34 7), undef])))) (by rw [e0, e1, e2, e3, e4, e6] <;> rfl) ?_
    clear e0 e1 e2 e3 e4 e6
    replace hl := hl.step o36 (ors_mono no_any)
    replace hN := hR
    clear hR
    replace oW := oW.tail o36 (tl_sin (fun k h => h) tl_no)
    refine wI (d_index1 (n := ((s.progA ↑dn ↑bn ↑pn l).gP)) (i := pn) Try.underlying63 s_ti36 rfl (show _ = Value.int _ (pn : Int) from rfl) hp1) ?_
    refine wF ([(ptr L.bN 0), (zf26 1), (zf26 2), (eN pn), ul] ++ (zs zf26 5 8 ++ [(ptr (L.bd dn) (bn * 4))] ++ (zs zf26 14 50 ++ [(Value.bool ((s.setB dn bn { s.bl dn bn with nx := (s.bl dn bn).nx + 1 }).goesR))] ++ (us 13 ++ [(ptr (L.bd dn) (bn * 4)), (ptr (L.bd dn) (bn * 4)), (ptr (L.bd dn) (bn * 4)), (sli (L.bp (dn * (s.progA ↑dn ↑bn ↑pn l).gB + bn)) 0 ((s.progA ↑dn ↑bn ↑pn l).gP) (L.cp (dn * (s.progA ↑dn ↑bn ↑pn l).gB + bn))), (eN pn), (v34 5), ul, (v34 7), (ptr (L.bp (dn * (s.progA ↑dn ↑bn ↑pn l).gB + bn)) pn)])))) ?_
    refine wO (rd_stD (i := dn) (j := bn) (f := pn) (Y := (Ors L.S X)) (l := l) hN ox_s s_ti36 rfl rfl (f_v34_7.less (Y := (Ors L.S X)) (xx_ors (lt_old hX))) hd1 hb1 hp1 hl6_) ?_
    rintro _ w37 ⟨a38, o39⟩
    replace hl := hl.step o39 sub1
    replace f_v34_7 := f_v34_7.step o39 sub1
    replace oW := oW.tail o39 (fun k _ e => (fun k h => h) k e)
    replace hN := a38
    refine wF ([(ptr L.bN 0), (zf26 1), (zf26 2), (eN pn), ul] ++ (zs zf26 5 8 ++ [(ptr (L.bd dn) (bn * 4))] ++ (zs zf26 14 50 ++ [(Value.bool ((s.setB dn bn { s.bl dn bn with nx := (s.bl dn bn).nx + 1 }).goesR))] ++ (us 13 ++ [(ptr (L.bd dn) (bn * 4)), (ptr (L.bd dn) (bn * 4)), (ptr (L.bd dn) (bn * 4)), (sli (L.bp (dn * (s.progA ↑dn ↑bn ↑pn l).gB + bn)) 0 ((s.progA ↑dn ↑bn ↑pn l).gP) (L.cp (dn * (s.progA ↑dn ↑bn ↑pn l).gB + bn))), (eN pn), (v34 5), ul, (v34 7), (ptr (L.bp (dn * (s.progA ↑dn ↑bn ↑pn l).gB + bn)) pn)])))) ?_
    refine wD (tN ?_)
    refine forget (fun zf40 => (zs zf40 0 87)) kr (fun zf40 => ?_)
    refine wQ (pL ?_)
    refine wI (d_assign rfl) ?_
    refine wD (tN ?_)
    refine wpIn_ret ?_
    refine leave0 (v := (eN 0)) (res1 Try.results54 rfl) ?_
    obtain ⟨e1_, e2_⟩ := NS.prog_yes c0 c1; exact ⟨congrArg eN e2_.symm, by rw [e1_]; exact hN, oW⟩
   refine pL ?_
   refine wI (d_move rfl) ?_
   refine wI (d_move rfl) ?_
   refine wI (d_move rfl) ?_
   refine wO (d_call (xl := [.tmp 14, .tmp 15, .tmp 16]) (al := [(ptr L.bN 0), (eN dn), (eN bn)]) Try.func43 kr rfl rfl rfl (refThere_ok L s _ hN (r := true) (dn : Int) (bn : Int) k0)) ?_
   rintro _ w41 ⟨rfl, o42⟩
   replace hl := hl.step0 o42
   replace hN := hN.step0 o42
   replace oW := oW.tail0 o42
   refine wI (d_move rfl) ?_
   refine wG (d_move rfl) ?_
   refine wG (d_nilCheck (b := L.bN) (o := 0) rfl) ?_
   refine wF ([(ptr L.bN 0), (eN dn), (eN bn), (eI p), ul] ++ (us 5 ++ [(eN 0), undef, undef, undef, (ptr L.bN 0), (eN dn), (eN bn), vT, vT, (ptr L.bN 0), (ptr L.bN 0)] ++ (us 66))) ?_
   refine wG (d_fieldAddr (j := 3) Try.underlying81 rfl s_ti78 (by decide) rfl rfl) ?_
   refine wG (rd_ld (v := (sli L.bU 0 s.gD L.cU)) hN ⟨_, Try.underlying78, rfl⟩ rfl (fun _ => rfl)) ?_
   refine wG (d_move rfl) ?_
   refine wG (d_index1 (n := s.gD) (i := dn) Try.underlying78 s_ti82 rfl (show _ = Value.int _ (dn : Int) from rfl) hd1) ?_
   refine wG (rd_ldU (i := dn) hN ⟨_, Try.underlying82, rfl⟩ rfl hd1) ?_
   refine wG (d_move rfl) ?_
   refine wG (d_index (b := (L.bd dn)) (o := 0) (n := s.gB) (c := (L.cd dn)) (j := (bn * 4)) Try.underlying82 s_ti85 rfl (show _ = Value.int _ (bn : Int) from rfl) oo (Int.ofNat_lt.2 hb1) (by simp)) ?_
   refine wF ([(ptr L.bN 0), (eN dn), (eN bn), (eI p), ul] ++ (us 5 ++ [(eN 0), undef, undef, undef, (ptr L.bN 0), (eN dn), (eN bn), vT, vT, (ptr L.bN 0), (ptr L.bN 0), (ptr L.bN 3), (sli L.bU 0 s.gD L.cU), (eN dn), (ptr L.bU dn), (sli (L.bd dn) 0 s.gB (L.cd dn)), (eN bn), (ptr (L.bd dn) (bn * 4))] ++ (us 59))) ?_
   refine wG (d_fieldAddr (j := bn * 4 + 1) Try.underlying85 rfl s_ti3 (by decide) rfl rfl) ?_
   refine wG (rd_ldS (i := dn) (j := bn) (f := 1) hN ⟨_, Try.underlying3, rfl⟩ rfl hd1 hb1 (by decide) rfl) ?_
   refine wG (d_move rfl) ?_
   refine wG (d_eql (k := .i64) (m := (((s.bl dn bn).nx : Nat) : Int)) (n := p) rfl rfl (decide_eq_true k1)) ?_
   refine wI (d_pick (b := true) (v := vT) rfl rfl) ?_
   refine wI (d_move rfl) ?_
   refine wG (d_move rfl) ?_
   refine wF ([(ptr L.bN 0), (eN dn), (eN bn), (eI p), ul] ++ (us 5 ++ [(eN 0), undef, undef, undef, (ptr L.bN 0), (eN dn), (eN bn), vT, vT, (ptr L.bN 0), (ptr L.bN 0), (ptr L.bN 3), (sli L.bU 0 s.gD L.cU), (eN dn), (ptr L.bU dn), (sli (L.bd dn) 0 s.gB (L.cd dn)), (eN bn), (ptr (L.bd dn) (bn * 4)), (ptr (L.bd dn) (bn * 4 + 1)), (eN ((s.bl dn bn).nx)), (eI p), vT, vT, vT, ul] ++ (us 52))) ?_
   refine wG (d_lenS rfl Try.underlying36 rfl hl) ?_
   refine wG (n_eql (a := l.length) (b := 60) rfl rfl (decide_eq_false k2)) ?_
   refine wI (d_pick (b := true) (v := vF) rfl rfl) ?_
   refine wI (d_assign rfl) ?_
   refine wD (tN ?_)
   refine forget (fun zf43 => ([(ptr L.bN 0), (eN dn), (eN bn), (eI p), ul] ++ (zs zf43 5 6 ++ [vF] ++ (zs zf43 12 53 ++ (us 22))))) kr (fun zf43 => ?_)
   refine wQ (pL ?_)
   refine wI (d_move rfl) ?_
   refine wI (d_move rfl) ?_
   refine wI (d_move rfl) ?_
   refine wI (d_move rfl) ?_
   refine wI (d_move rfl) ?_
   refine wO (d_call (xl := [.tmp 38, .tmp 39, .tmp 40, .tmp 41, .tmp 42]) (al := [(ptr L.bN 0), (eN dn), (eN bn), (eI p), vF]) Try.func64 kr rfl rfl rfl (refMay_ok L s _ hN (g := (s.progOk ↑dn ↑bn p l)) (dn : Int) (bn : Int) p false (by rw [← NS.mayOk_prog]; congr 1; simp [*]))) ?_
   rintro _ w44 ⟨rfl, a46, o45⟩
   replace hl := hl.step o45 sub1
   replace oW := oW.tail o45 (fun k _ e => (fun k h => h) k e)
   replace hN := a46
   refine wI (d_assign rfl) ?_
   refine wD (tN (wQ (wQ (pL ?_))))
   refine wI (d_move rfl) ?_
   refine wI (n_neq (a := (s.askR (s.progOk ↑dn ↑bn p l))) (b := 0) rfl rfl rfl) ?_
   refine wF ([(ptr L.bN 0), (eN dn), (eN bn), (eI p), ul] ++ (zs zf43 5 6 ++ [vF, (eN (s.askR (s.progOk ↑dn ↑bn p l)))] ++ (zs zf43 13 25 ++ [(ptr L.bN 0), (eN dn), (eN bn), (eI p), vF, (eN (s.askR (s.progOk ↑dn ↑bn p l))), (eN (s.askR (s.progOk ↑dn ↑bn p l))), (Value.bool (!decide ((s.askR (s.progOk ↑dn ↑bn p l)) = 0)))] ++ (zs zf43 46 19 ++ (us 22))))) ?_
   refine wD (tN ?_)
   refine forget (fun zf47 => ([(ptr L.bN 0), (eN dn), (eN bn), (eI p), ul] ++ (zs zf47 5 7 ++ [(eN (s.askR (s.progOk ↑dn ↑bn p l)))] ++ (zs zf47 13 32 ++ [(Value.bool (!decide ((s.askR (s.progOk ↑dn ↑bn p l)) = 0)))] ++ (zs zf47 46 19 ++ (us 22)))))) kr (fun zf47 => ?_)
   refine cond_un rfl (fun c0 => ?_) (fun c0 => ?_)
   ·
    refine wQ (pL ?_)
    refine wI (d_move rfl) ?_
    refine wI (d_assign rfl) ?_
    refine wD (tN ?_)
    refine forget (fun zf48 => (zs zf48 0 10 ++ [(eN (s.askR (s.progOk ↑dn ↑bn p l)))] ++ (zs zf48 11 76))) kr (fun zf48 => ?_)
    refine wpIn_ret ?_
    refine then_r ?_
    refine leave0 (v := (eN (s.askR (s.progOk ↑dn ↑bn p l)))) (res1 Try.results54 rfl) ?_
    obtain ⟨e1_, e2_⟩ := NS.prog_no c0; exact ⟨congrArg eN e2_.symm, e1_ ▸ rd_to hN (NS.may_no c0), oW⟩
   exact absurd c0 (NS.askR_no (by rw [← NS.mayOk_prog]; simp [NS.mayOk, *]))
  refine pL ?_
  refine wI (d_move rfl) ?_
  refine wI (d_move rfl) ?_
  refine wI (d_move rfl) ?_
  refine wO (d_call (xl := [.tmp 14, .tmp 15, .tmp 16]) (al := [(ptr L.bN 0), (eN dn), (eN bn)]) Try.func43 kr rfl rfl rfl (refThere_ok L s _ hN (r := true) (dn : Int) (bn : Int) k0)) ?_
  rintro _ w49 ⟨rfl, o50⟩
  replace hl := hl.step0 o50
  replace hN := hN.step0 o50
  replace oW := oW.tail0 o50
  refine wI (d_move rfl) ?_
  refine wG (d_move rfl) ?_
  refine wG (d_nilCheck (b := L.bN) (o := 0) rfl) ?_
  refine wF ([(ptr L.bN 0), (eN dn), (eN bn), (eI p), ul] ++ (us 5 ++ [(eN 0), undef, undef, undef, (ptr L.bN 0), (eN dn), (eN bn), vT, vT, (ptr L.bN 0), (ptr L.bN 0)] ++ (us 66))) ?_
  refine wG (d_fieldAddr (j := 3) Try.underlying81 rfl s_ti78 (by decide) rfl rfl) ?_
  refine wG (rd_ld (v := (sli L.bU 0 s.gD L.cU)) hN ⟨_, Try.underlying78, rfl⟩ rfl (fun _ => rfl)) ?_
  refine wG (d_move rfl) ?_
  refine wG (d_index1 (n := s.gD) (i := dn) Try.underlying78 s_ti82 rfl (show _ = Value.int _ (dn : Int) from rfl) hd1) ?_
  refine wG (rd_ldU (i := dn) hN ⟨_, Try.underlying82, rfl⟩ rfl hd1) ?_
  refine wG (d_move rfl) ?_
  refine wG (d_index (b := (L.bd dn)) (o := 0) (n := s.gB) (c := (L.cd dn)) (j := (bn * 4)) Try.underlying82 s_ti85 rfl (show _ = Value.int _ (bn : Int) from rfl) oo (Int.ofNat_lt.2 hb1) (by simp)) ?_
  refine wF ([(ptr L.bN 0), (eN dn), (eN bn), (eI p), ul] ++ (us 5 ++ [(eN 0), undef, undef, undef, (ptr L.bN 0), (eN dn), (eN bn), vT, vT, (ptr L.bN 0), (ptr L.bN 0), (ptr L.bN 3), (sli L.bU 0 s.gD L.cU), (eN dn), (ptr L.bU dn), (sli (L.bd dn) 0 s.gB (L.cd dn)), (eN bn), (ptr (L.bd dn) (bn * 4))] ++ (us 59))) ?_
  refine wG (d_fieldAddr (j := bn * 4 + 1) Try.underlying85 rfl s_ti3 (by decide) rfl rfl) ?_
  refine wG (rd_ldS (i := dn) (j := bn) (f := 1) hN ⟨_, Try.underlying3, rfl⟩ rfl hd1 hb1 (by decide) rfl) ?_
  refine wG (d_move rfl) ?_
  refine wG (d_eql (k := .i64) (m := (((s.bl dn bn).nx : Nat) : Int)) (n := p) rfl rfl (decide_eq_false k1)) ?_
  refine wI (d_pick (b := true) (v := vF) rfl rfl) ?_
  refine wI (d_move rfl) ?_
  refine wX ?_
  refine wF ([(ptr L.bN 0), (eN dn), (eN bn), (eI p), ul] ++ (us 5 ++ [(eN 0), undef, undef, undef, (ptr L.bN 0), (eN dn), (eN bn), vT, vT, (ptr L.bN 0), (ptr L.bN 0), (ptr L.bN 3), (sli L.bU 0 s.gD L.cU), (eN dn), (ptr L.bU dn), (sli (L.bd dn) 0 s.gB (L.cd dn)), (eN bn), (ptr (L.bd dn) (bn * 4)), (ptr (L.bd dn) (bn * 4 + 1)), (eN ((s.bl dn bn).nx)), (eI p), vF, vF, vF] ++ (us 53))) ?_
  refine wX ?_
  refine wX ?_
  refine wI (d_pick (b := false) (v := vF) rfl rfl) ?_
  refine wI (d_assign rfl) ?_
  refine wD (tN ?_)
  refine forget (fun zf51 => ([(ptr L.bN 0), (eN dn), (eN bn), (eI p), ul] ++ (zs zf51 5 6 ++ [vF] ++ (zs zf51 12 53 ++ (us 22))))) kr (fun zf51 => ?_)
  refine wQ (pL ?_)
  refine wI (d_move rfl) ?_
  refine wI (d_move rfl) ?_
  refine wI (d_move rfl) ?_
  refine wI (d_move rfl) ?_
  refine wI (d_move rfl) ?_
  refine wO (d_call (xl := [.tmp 38, .tmp 39, .tmp 40, .tmp 41, .tmp 42]) (al := [(ptr L.bN 0), (eN dn), (eN bn), (eI p), vF]) Try.func64 kr rfl rfl rfl (refMay_ok L s _ hN (g := (s.progOk ↑dn ↑bn p l)) (dn : Int) (bn : Int) p false (by rw [← NS.mayOk_prog]; congr 1; simp [*]))) ?_
  rintro _ w52 ⟨rfl, a54, o53⟩
  replace hl := hl.step o53 sub1
  replace oW := oW.tail o53 (fun k _ e => (fun k h => h) k e)
  replace hN := a54
  refine wI (d_assign rfl) ?_
  refine wD (tN (wQ (wQ (pL ?_))))
  refine wI (d_move rfl) ?_
  refine wI (n_neq (a := (s.askR (s.progOk ↑dn ↑bn p l))) (b := 0) rfl rfl rfl) ?_
  refine wF ([(ptr L.bN 0), (eN dn), (eN bn), (eI p), ul] ++ (zs zf51 5 6 ++ [vF, (eN (s.askR (s.progOk ↑dn ↑bn p l)))] ++ (zs zf51 13 25 ++ [(ptr L.bN 0), (eN dn), (eN bn), (eI p), vF, (eN (s.askR (s.progOk ↑dn ↑bn p l))), (eN (s.askR (s.progOk ↑dn ↑bn p l))), (Value.bool (!decide ((s.askR (s.progOk ↑dn ↑bn p l)) = 0)))] ++ (zs zf51 46 19 ++ (us 22))))) ?_
  refine wD (tN ?_)
  refine forget (fun zf55 => ([(ptr L.bN 0), (eN dn), (eN bn), (eI p), ul] ++ (zs zf55 5 7 ++ [(eN (s.askR (s.progOk ↑dn ↑bn p l)))] ++ (zs zf55 13 32 ++ [(Value.bool (!decide ((s.askR (s.progOk ↑dn ↑bn p l)) = 0)))] ++ (zs zf55 46 19 ++ (us 22)))))) kr (fun zf55 => ?_)
  refine cond_un rfl (fun c0 => ?_) (fun c0 => ?_)
  ·
   refine wQ (pL ?_)
   refine wI (d_move rfl) ?_
   refine wI (d_assign rfl) ?_
   refine wD (tN ?_)
   refine forget (fun zf56 => (zs zf56 0 10 ++ [(eN (s.askR (s.progOk ↑dn ↑bn p l)))] ++ (zs zf56 11 76))) kr (fun zf56 => ?_)
   refine wpIn_ret ?_
   refine then_r ?_
   refine leave0 (v := (eN (s.askR (s.progOk ↑dn ↑bn p l)))) (res1 Try.results54 rfl) ?_
   obtain ⟨e1_, e2_⟩ := NS.prog_no c0; exact ⟨congrArg eN e2_.symm, e1_ ▸ rd_to hN (NS.may_no c0), oW⟩
  exact absurd c0 (NS.askR_no (by rw [← NS.mayOk_prog]; simp [NS.mayOk, *]))
 refine pL ?_
 refine wI (d_move rfl) ?_
 refine wI (d_move rfl) ?_
 refine wI (d_move rfl) ?_
 refine wO (d_call (xl := [.tmp 14, .tmp 15, .tmp 16]) (al := [(ptr L.bN 0), (eI d), (eI b)]) Try.func43 kr rfl rfl rfl (refThere_ok L s _ hN (r := false) d b (Bool.eq_false_iff.2 k0))) ?_
 rintro _ w57 ⟨rfl, o58⟩
 replace hl := hl.step0 o58
 replace hN := hN.step0 o58
 replace oW := oW.tail0 o58
 refine wI (d_move rfl) ?_
 refine wX ?_
 refine wF ([(ptr L.bN 0), (eI d), (eI b), (eI p), ul] ++ (us 5 ++ [(eN 0), undef, undef, undef, (ptr L.bN 0), (eI d), (eI b), vF, vF] ++ (us 68))) ?_
 refine wX ?_
 refine wX ?_
 refine wX ?_
 refine wX ?_
 refine wX ?_
 refine wX ?_
 refine wX ?_
 refine wF ([(ptr L.bN 0), (eI d), (eI b), (eI p), ul] ++ (us 5 ++ [(eN 0), undef, undef, undef, (ptr L.bN 0), (eI d), (eI b), vF, vF] ++ (us 68))) ?_
 refine wX ?_
 refine wX ?_
 refine wX ?_
 refine wX ?_
 refine wX ?_
 refine wI (d_pick (b := false) (v := vF) rfl rfl) ?_
 refine wI (d_move rfl) ?_
 refine wF ([(ptr L.bN 0), (eI d), (eI b), (eI p), ul] ++ (us 5 ++ [(eN 0), undef, undef, undef, (ptr L.bN 0), (eI d), (eI b), vF, vF] ++ (us 13 ++ [vF, vF] ++ (us 53)))) ?_
 refine wX ?_
 refine wX ?_
 refine wX ?_
 refine wI (d_pick (b := false) (v := vF) rfl rfl) ?_
 refine wI (d_assign rfl) ?_
 refine wD (tN ?_)
 refine forget (fun zf59 => ([(ptr L.bN 0), (eI d), (eI b), (eI p), ul] ++ (zs zf59 5 6 ++ [vF] ++ (zs zf59 12 53 ++ (us 22))))) kr (fun zf59 => ?_)
 refine wQ (pL ?_)
 refine wI (d_move rfl) ?_
 refine wI (d_move rfl) ?_
 refine wI (d_move rfl) ?_
 refine wI (d_move rfl) ?_
 refine wI (d_move rfl) ?_
 refine wO (d_call (xl := [.tmp 38, .tmp 39, .tmp 40, .tmp 41, .tmp 42]) (al := [(ptr L.bN 0), (eI d), (eI b), (eI p), vF]) Try.func64 kr rfl rfl rfl (refMay_ok L s _ hN (g := (s.progOk d b p l)) d b p false (by rw [← NS.mayOk_prog]; congr 1; simp [*]))) ?_
 rintro _ w60 ⟨rfl, a62, o61⟩
 replace hl := hl.step o61 sub1
 replace oW := oW.tail o61 (fun k _ e => (fun k h => h) k e)
 replace hN := a62
 refine wI (d_assign rfl) ?_
 refine wD (tN (wQ (wQ (pL ?_))))
 refine wI (d_move rfl) ?_
 refine wI (n_neq (a := (s.askR (s.progOk d b p l))) (b := 0) rfl rfl rfl) ?_
 refine wF ([(ptr L.bN 0), (eI d), (eI b), (eI p), ul] ++ (zs zf59 5 6 ++ [vF, (eN (s.askR (s.progOk d b p l)))] ++ (zs zf59 13 25 ++ [(ptr L.bN 0), (eI d), (eI b), (eI p), vF, (eN (s.askR (s.progOk d b p l))), (eN (s.askR (s.progOk d b p l))), (Value.bool (!decide ((s.askR (s.progOk d b p l)) = 0)))] ++ (zs zf59 46 19 ++ (us 22))))) ?_
 refine wD (tN ?_)
 refine forget (fun zf63 => ([(ptr L.bN 0), (eI d), (eI b), (eI p), ul] ++ (zs zf63 5 7 ++ [(eN (s.askR (s.progOk d b p l)))] ++ (zs zf63 13 32 ++ [(Value.bool (!decide ((s.askR (s.progOk d b p l)) = 0)))] ++ (zs zf63 46 19 ++ (us 22)))))) kr (fun zf63 => ?_)
 refine cond_un rfl (fun c0 => ?_) (fun c0 => ?_)
 ·
  refine wQ (pL ?_)
  refine wI (d_move rfl) ?_
  refine wI (d_assign rfl) ?_
  refine wD (tN ?_)
  refine forget (fun zf64 => (zs zf64 0 10 ++ [(eN (s.askR (s.progOk d b p l)))] ++ (zs zf64 11 76))) kr (fun zf64 => ?_)
  refine wpIn_ret ?_
  refine then_r ?_
  refine leave0 (v := (eN (s.askR (s.progOk d b p l)))) (res1 Try.results54 rfl) ?_
  obtain ⟨e1_, e2_⟩ := NS.prog_no c0; exact ⟨congrArg eN e2_.symm, e1_ ▸ rd_to hN (NS.may_no c0), oW⟩
 exact absurd c0 (NS.askR_no (by rw [← NS.mayOk_prog]; simp [NS.mayOk, *]))
theorem refErase_ok (L : RL) (s : NS) {X : Nat → Prop} (W : World) (hN : Rd L s X W) (d b : Int) (hX : ∀ k, X k → k < W.heap.size) :
    CW Try.prog 55 #[(ptr L.bN 0), (eI d), (eI b)] W (Rt (fun u w => u = eN (s.eraseR d b) ∧ Rd L (s.erase d b) X w ∧ Only L.S W w)) := by
 have oW : Only L.S W W := Only.refl _ _
 refine enter (al := [(ptr L.bN 0), (eI d), (eI b)]) (k := 73) (l := ([(ptr L.bN 0), (eI d), (eI b)] ++ (us 73))) Try.func55 rfl Try.ntmps55 rfl rfl ?_
 refine wQ (pL ?_)
 refine wI (d_assign rfl) ?_
 refine wD (tN (wQ (pL ?_)))
 refine wI (d_move rfl) ?_
 refine wI (d_move rfl) ?_
 refine wI (d_move rfl) ?_
 refine wO (d_call (xl := [.tmp 11, .tmp 12, .tmp 13, .const (.int .i64 0), .const (.bool true)]) (al := [(ptr L.bN 0), (eI d), (eI b), (eN 0), vT]) Try.func64 kr rfl rfl rfl (refMay_ok L s _ hN (g := (s.eraseOk d b)) d b 0 true (NS.mayOk_erase _ _ _ (by have h_ : 4 ≤ s.gP ∧ s.gP ≤ 8 := hN.ok.p; omega)))) ?_
 rintro _ w11 ⟨rfl, a13, o12⟩
 replace oW := oW.tail o12 (fun k _ e => (fun k h => h) k e)
 replace hN := a13
 refine wI (d_assign rfl) ?_
 refine wD (tN (wQ (wQ (pL ?_))))
 refine wI (d_move rfl) ?_
 refine wI (n_neq (a := (s.askR (s.eraseOk d b))) (b := 0) rfl rfl rfl) ?_
 refine wD (tN ?_)
 refine cond_un rfl (fun c0 => ?_) (fun c0 => ?_)
 ·
  refine wQ (pL ?_)
  refine wI (d_move rfl) ?_
  refine wF ([(ptr L.bN 0), (eI d), (eI b), undef, undef, undef, (eN 0), (eN (s.askR (s.eraseOk d b))), undef, undef, undef, (ptr L.bN 0), (eI d), (eI b), (eN (s.askR (s.eraseOk d b))), (eN (s.askR (s.eraseOk d b))), (Value.bool (!decide ((s.askR (s.eraseOk d b)) = 0))), (eN (s.askR (s.eraseOk d b)))] ++ (us 58)) ?_
  refine wI (d_assign rfl) ?_
  refine wD (tN ?_)
  refine wpIn_ret ?_
  refine then_r ?_
  refine leave0 (v := (eN (s.askR (s.eraseOk d b)))) (res1 Try.results55 rfl) ?_
  obtain ⟨e1_, e2_⟩ := NS.erase_no c0; exact ⟨congrArg eN e2_.symm, e1_ ▸ rd_to hN (NS.may_no c0), oW⟩
 refine wK (tN (wQ ?_))
 obtain ⟨⟨hd0, hd1, hb0, hb1⟩, ⟨hp0, hp1⟩, _⟩ := NS.mayOk_of (by rw [NS.mayOk_erase s d b (by have h_ : 4 ≤ s.gP ∧ s.gP ≤ 8 := hN.ok.p; omega)]; exact (NS.askR_yes c0).2)
 obtain ⟨dn, rfl⟩ := Int.eq_ofNat_of_zero_le hd0
 replace hd1 : dn < s.gD := Int.ofNat_lt.1 hd1
 refine wp_eq (l' := ([(ptr L.bN 0), (eN dn), (eI b), undef, undef, undef, (eN 0), (eN (s.askR (s.eraseOk (dn : Int) b))), undef, undef, undef, (ptr L.bN 0), (eN dn), (eI b), (eN (s.askR (s.eraseOk (dn : Int) b))), (eN (s.askR (s.eraseOk (dn : Int) b))), (Value.bool (!decide ((s.askR (s.eraseOk (dn : Int) b)) = 0)))] ++ (us 59))) rfl ?_
 obtain ⟨bn, rfl⟩ := Int.eq_ofNat_of_zero_le hb0
 replace hb1 : bn < s.gB := Int.ofNat_lt.1 hb1
 refine wp_eq (l' := ([(ptr L.bN 0), (eN dn), (eN bn), undef, undef, undef, (eN 0), (eN (s.askR (s.eraseOk ↑dn ↑bn))), undef, undef, undef, (ptr L.bN 0), (eN dn), (eN bn), (eN (s.askR (s.eraseOk ↑dn ↑bn))), (eN (s.askR (s.eraseOk ↑dn ↑bn))), (Value.bool (!decide ((s.askR (s.eraseOk ↑dn ↑bn)) = 0)))] ++ (us 59))) rfl ?_
 replace hN := rd_to hN (NS.may_yes c0)
 have hdd_ := (NS.askR_yes c0).1
 refine pL ?_
 refine wI (d_move rfl) ?_
 refine wI (d_nilCheck (b := L.bN) (o := 0) rfl) ?_
 refine wI (d_fieldAddr (j := 3) Try.underlying81 rfl s_ti78 (by decide) rfl rfl) ?_
 refine wI (rd_ld (v := (sli L.bU 0 s.gD L.cU)) hN ⟨_, Try.underlying78, rfl⟩ rfl (fun _ => rfl)) ?_
 refine wI (d_move rfl) ?_
 refine wI (d_index1 (n := s.gD) (i := dn) Try.underlying78 s_ti82 rfl (show _ = Value.int _ (dn : Int) from rfl) hd1) ?_
 refine wI (rd_ldU (i := dn) hN ⟨_, Try.underlying82, rfl⟩ rfl hd1) ?_
 refine wI (d_move rfl) ?_
 refine wI (d_index (b := (L.bd dn)) (o := 0) (n := s.gB) (c := (L.cd dn)) (j := (bn * 4)) Try.underlying82 s_ti85 rfl (show _ = Value.int _ (bn : Int) from rfl) oo (Int.ofNat_lt.2 hb1) (by simp)) ?_
 refine wF ([(ptr L.bN 0), (eN dn), (eN bn), undef, undef, undef, (eN 0), (eN (s.askR (s.eraseOk ↑dn ↑bn))), undef, undef, undef, (ptr L.bN 0), (eN dn), (eN bn), (eN (s.askR (s.eraseOk ↑dn ↑bn))), (eN (s.askR (s.eraseOk ↑dn ↑bn))), (Value.bool (!decide ((s.askR (s.eraseOk ↑dn ↑bn)) = 0))), undef, (ptr L.bN 0), (ptr L.bN 0), (ptr L.bN 3), (sli L.bU 0 s.gD L.cU), (eN dn), (ptr L.bU dn), (sli (L.bd dn) 0 s.gB (L.cd dn)), (eN bn), (ptr (L.bd dn) (bn * 4))] ++ (us 49)) ?_
 refine wI (d_assign rfl) ?_
 refine wD (tN (wQ (pL ?_)))
 refine wI (d_move rfl) ?_
 refine wI (d_nilCheck (b := (L.bd dn)) (o := (bn * 4)) rfl) ?_
 refine wI (d_fieldAddr (j := bn * 4 + 2) Try.underlying85 rfl s_ti3 (by decide) rfl rfl) ?_
 refine wI (rd_ldS (i := dn) (j := bn) (f := 2) hN ⟨_, Try.underlying3, rfl⟩ rfl hd1 hb1 (by decide) rfl) ?_
 refine wI (d_add (k := .i64) (m := (s.bl dn bn).er) (n := 1) rfl rfl rfl) ?_
 refine wI (d_nilCheck (b := (L.bd dn)) (o := (bn * 4)) rfl) ?_
 refine wI (d_fieldAddr (j := bn * 4 + 2) Try.underlying85 rfl s_ti3 (by decide) rfl rfl) ?_
 refine wO (rd_stS (i := dn) (j := bn) (f := 2) (x' := { s.bl dn bn with er := IntKind.i64.wrap ((s.bl dn bn).er + 1) }) hN s_ti3 rfl rfl rfl hd1 hb1 (by decide) (fun _ => rfl) (hN.ok.nx _ _)) ?_
 rintro _ w14 ⟨a15, o16⟩
 replace oW := oW.tail o16 (fun k _ e => (fun k h => h) k e)
 replace hN := a15
 refine wF ([(ptr L.bN 0), (eN dn), (eN bn), undef, undef, undef, (eN 0), (eN (s.askR (s.eraseOk ↑dn ↑bn))), (ptr (L.bd dn) (bn * 4)), undef, undef, (ptr L.bN 0), (eN dn), (eN bn), (eN (s.askR (s.eraseOk ↑dn ↑bn))), (eN (s.askR (s.eraseOk ↑dn ↑bn))), (Value.bool (!decide ((s.askR (s.eraseOk ↑dn ↑bn)) = 0))), undef, (ptr L.bN 0), (ptr L.bN 0), (ptr L.bN 3), (sli L.bU 0 s.gD L.cU), (eN dn), (ptr L.bU dn), (sli (L.bd dn) 0 s.gB (L.cd dn)), (eN bn), (ptr (L.bd dn) (bn * 4)), (ptr (L.bd dn) (bn * 4)), (ptr (L.bd dn) (bn * 4)), (ptr (L.bd dn) (bn * 4 + 2)), (eI ((s.bl dn bn).er)), (eI (IntKind.i64.wrap ((s.bl dn bn).er + 1))), (ptr (L.bd dn) (bn * 4)), (ptr (L.bd dn) (bn * 4 + 2))] ++ (us 42)) ?_
 refine wD (tN (wQ (pL ?_)))
 refine wI (d_move rfl) ?_
 refine wO (d_call (xl := [.tmp 34]) (al := [(ptr L.bN 0)]) Try.func65 kr rfl rfl rfl (refStops_ok L (s.setB dn bn { s.bl dn bn with er := IntKind.i64.wrap ((s.bl dn bn).er + 1) }) _ hN hdd_)) ?_
 rintro _ w17 ⟨rfl, a19, o18⟩
 replace oW := oW.tail o18 (fun k _ e => (fun k h => h) k e)
 replace hN := a19
 refine wI (d_assign rfl) ?_
 refine wD (tN (wQ (wQ ?_)))
 replace hN := rd_to hN (show _ = s.eraseA ↑dn ↑bn from NS.stops_erase c0 _ _)
 obtain ⟨T_, hT_⟩ : ∃ T_, s.goesR = T_ := ⟨_, rfl⟩
 refine pL ?_
 refine wI (d_assign rfl) ?_
 refine wD (tN (wB ?_))
 refine loop2 (fun (p : (Nat)) => fun (z : Nat → Value) => (([(ptr L.bN 0), (eN dn), (eN bn), undef, undef, undef, (eN 0), (eN (s.askR (s.eraseOk ↑dn ↑bn))), (ptr (L.bd dn) (bn * 4)), (Value.bool ((s.setB dn bn { s.bl dn bn with er := IntKind.i64.wrap ((s.bl dn bn).er + 1) }).goesR)), (eN p), (ptr L.bN 0), (eN dn), (eN bn), (eN (s.askR (s.eraseOk ↑dn ↑bn))), (eN (s.askR (s.eraseOk ↑dn ↑bn))), (Value.bool (!decide ((s.askR (s.eraseOk ↑dn ↑bn)) = 0))), undef, (ptr L.bN 0), (ptr L.bN 0), (ptr L.bN 3), (sli L.bU 0 s.gD L.cU), (eN dn), (ptr L.bU dn), (sli (L.bd dn) 0 s.gB (L.cd dn)), (eN bn), (ptr (L.bd dn) (bn * 4)), (ptr (L.bd dn) (bn * 4)), (ptr (L.bd dn) (bn * 4)), (ptr (L.bd dn) (bn * 4 + 2)), (eI ((s.bl dn bn).er)), (eI (IntKind.i64.wrap ((s.bl dn bn).er + 1))), (ptr (L.bd dn) (bn * 4)), (ptr (L.bd dn) (bn * 4 + 2)), (ptr L.bN 0), (Value.bool ((s.setB dn bn { s.bl dn bn with er := IntKind.i64.wrap ((s.bl dn bn).er + 1) }).goesR))] ++ (zs z 36 36 ++ [undef, undef, undef, undef])) : List Value)) (fun (p : (Nat)) => fun (w_ : World) => (p ≤ s.gP) ∧ Only (Ors L.S No) w17 w_ ∧ Rd L ((s.eraseA ↑dn ↑bn).eraseTo s.goesR dn bn p) X w_) (fun (p : (Nat)) => s.gP - p) 0 kr ?_ ?_
 ·
  refine ⟨?_, ?_, ?_⟩
  ·
   exact Nat.zero_le _
  ·
   exact Only.refl _ _
  ·
   exact (rd_to hN (NS.eraseTo_zero _ _ _ _).symm)
 rintro p z w21 ⟨hp, o20, hN⟩
 (try dsimp only)
 replace oW := oW.tail o20 (tl_sin (fun k h => h) tl_no)
 refine wQ (wQ ?_)
 have hgp_ : ((s.eraseA ↑dn ↑bn).eraseTo s.goesR dn bn p).gP = s.gP := rfl
 have okp_ : 4 ≤ s.gP ∧ s.gP ≤ 8 := hN.ok.p
 refine pL ?_
 refine wI (d_move rfl) ?_
 refine wI (d_move rfl) ?_
 refine wI (d_nilCheck (b := L.bN) (o := 0) rfl) ?_
 refine wI (d_fieldAddr (j := 0) Try.underlying81 rfl s_ti23 (by decide) rfl rfl) ?_
 refine wI (d_fieldAddr (j := 2) Try.underlying23 rfl s_ti3 (by decide) rfl rfl) ?_
 refine wI (rd_ld (v := (eN (((s.eraseA ↑dn ↑bn).eraseTo s.goesR dn bn p).gP))) hN ⟨_, Try.underlying3, rfl⟩ rfl (fun _ => rfl)) ?_
 refine wI (n_lss (a := p) (b := (((s.eraseA ↑dn ↑bn).eraseTo s.goesR dn bn p).gP)) rfl rfl rfl) ?_
 refine wD (tN ?_)
 refine cond_if rfl (fun c22 => ?_) (fun c22 => ?_)
 ·
  refine wK (tN (wQ (wB (wQ ?_))))
  have hp1 : p < s.gP := by omega
  have l1_ : (((s.eraseA ↑dn ↑bn).eraseTo s.goesR dn bn p).dl (((s.eraseA ↑dn ↑bn).eraseTo s.goesR dn bn p).ix dn bn p)).length = 60 := hN.ok.dl _
  have l3_ : ((s.eraseA ↑dn ↑bn).eraseTo s.goesR dn bn p).mask.length ≤ 1048576 := hN.ok.ml
  refine pL ?_
  refine wI (d_move rfl) ?_
  refine wD (tN ?_)
  refine cond_b rfl (fun c1 => ?_) (fun c1 => ?_)
  ·
   refine wp_eq (l' := ([(ptr L.bN 0), (eN dn), (eN bn), undef, undef, undef, (eN 0), (eN (s.askR (s.eraseOk ↑dn ↑bn))), (ptr (L.bd dn) (bn * 4)), (Value.bool ((s.setB dn bn { s.bl dn bn with er := IntKind.i64.wrap ((s.bl dn bn).er + 1) }).goesR)), (eN p), (ptr L.bN 0), (eN dn), (eN bn), (eN (s.askR (s.eraseOk ↑dn ↑bn))), (eN (s.askR (s.eraseOk ↑dn ↑bn))), (Value.bool (!decide ((s.askR (s.eraseOk ↑dn ↑bn)) = 0))), undef, (ptr L.bN 0), (ptr L.bN 0), (ptr L.bN 3), (sli L.bU 0 s.gD L.cU), (eN dn), (ptr L.bU dn), (sli (L.bd dn) 0 s.gB (L.cd dn)), (eN bn), (ptr (L.bd dn) (bn * 4)), (ptr (L.bd dn) (bn * 4)), (ptr (L.bd dn) (bn * 4)), (ptr (L.bd dn) (bn * 4 + 2)), (eI ((s.bl dn bn).er)), (eI (IntKind.i64.wrap ((s.bl dn bn).er + 1))), (ptr (L.bd dn) (bn * 4)), (ptr (L.bd dn) (bn * 4 + 2)), (ptr L.bN 0), (Value.bool ((s.setB dn bn { s.bl dn bn with er := IntKind.i64.wrap ((s.bl dn bn).er + 1) }).goesR)), (eN p), (ptr L.bN 0), (ptr L.bN 0), (ptr L.bN 0), (ptr L.bN 2), (eN (((s.eraseA ↑dn ↑bn).eraseTo s.goesR dn bn p).gP)), (Value.bool (decide (p < (((s.eraseA ↑dn ↑bn).eraseTo s.goesR dn bn p).gP)))), (z 43), (z 44), (Value.bool ((s.setB dn bn { s.bl dn bn with er := IntKind.i64.wrap ((s.bl dn bn).er + 1) }).goesR))] ++ (zs z 46 26 ++ [undef, undef, undef, undef]))) rfl ?_
   refine drawnT (O := (Ors L.S No)) (n := 20) 18 [0, 1, 3, 7, 0, 0, 32, 96, 224, 0, 992, 2016, 0, 0, 8192, 24576, 57344, 131040, 262143, 524287] [(0, 46), (1, 47), (2, 48), (3, 49), (4, 50), (5, 51), (6, 52), (7, 53), (8, 54), (9, 55), (10, 56), (11, 57), (12, 58), (13, 59), (14, 60), (15, 61), (16, 62), (17, 63), (18, 64)] [(0, 46), (1, 47), (2, 48), (3, 49), (4, 50), (5, 51), (6, 52), (7, 53), (8, 54), (9, 55), (10, 56), (11, 57), (12, 58), (13, 59), (14, 60), (15, 61), (16, 62), (17, 63)] [0, 1, 2, 3, 4, 5, 6, 7, 8, 9, 10, 11, 12, 13, 14, 15, 16, 17] [] (fun i_ => ([RF.is (Ors L.S No) (ptr (L.bd dn) (bn * 4)), RF.is (Ors L.S No) (ptr (L.bd dn) (bn * 4)), RF.is (Ors L.S No) (ptr (L.bd dn) (bn * 4)), RF.is (Ors L.S No) (sli (L.bp (dn * ((s.eraseA ↑dn ↑bn).eraseTo s.goesR dn bn p).gB + bn)) 0 (((s.eraseA ↑dn ↑bn).eraseTo s.goesR dn bn p).gP) (L.cp (dn * ((s.eraseA ↑dn ↑bn).eraseTo s.goesR dn bn p).gB + bn))), RF.is (Ors L.S No) (eN p), RF.is (Ors L.S No) (ptr (L.bd dn) (bn * 4)), RF.is (Ors L.S No) (ptr (L.bd dn) (bn * 4)), RF.is (Ors L.S No) (ptr (L.bd dn) (bn * 4)), RF.is (Ors L.S No) (sli (L.bp (dn * ((s.eraseA ↑dn ↑bn).eraseTo s.goesR dn bn p).gB + bn)) 0 (((s.eraseA ↑dn ↑bn).eraseTo s.goesR dn bn p).gP) (L.cp (dn * ((s.eraseA ↑dn ↑bn).eraseTo s.goesR dn bn p).gB + bn))), RF.is (Ors L.S No) (eN p), RF.is (Ors L.S No) (ptr (L.bp (dn * ((s.eraseA ↑dn ↑bn).eraseTo s.goesR dn bn p).gB + bn)) p), RF.ps (Ors L.S No) (Ors L.S X) (Seq kB (((s.eraseA ↑dn ↑bn).eraseTo s.goesR dn bn p).dl (((s.eraseA ↑dn ↑bn).eraseTo s.goesR dn bn p).ix dn bn p))) (ors_mono no_any), RF.ps (Ors L.S No) (Ors L.S (Old W.heap.size)) (Seq kB onesW) (ors_mono no_any), RF.is (Ors L.S No) (ptr L.bN 0), RF.is (Ors L.S No) (ptr L.bN 0), RF.is (Ors L.S No) (ptr L.bN 6), RF.ps (Ors L.S No) (Ors L.S X) (Seq kB (((s.eraseA ↑dn ↑bn).eraseTo s.goesR dn bn p).mask)) (ors_mono no_any), RF.ps (Ors L.S No) (Ors L.S (Old W.heap.size)) (Seq kB (mixR (((s.eraseA ↑dn ↑bn).eraseTo s.goesR dn bn p).dl (((s.eraseA ↑dn ↑bn).eraseTo s.goesR dn bn p).ix dn bn p)) onesW (((s.eraseA ↑dn ↑bn).eraseTo s.goesR dn bn p).mask))) (ors_mono no_any)] : List (RF (Ors L.S No))).getD i_ (RF.any (Ors L.S No))) (fun _ w_ => Rd L ((s.eraseA ↑dn ↑bn).eraseTo s.goesR dn bn p) X w_) (fun v23 => ([(ptr L.bN 0), (eN dn), (eN bn), undef, undef, undef, (eN 0), (eN (s.askR (s.eraseOk ↑dn ↑bn))), (ptr (L.bd dn) (bn * 4)), (Value.bool ((s.setB dn bn { s.bl dn bn with er := IntKind.i64.wrap ((s.bl dn bn).er + 1) }).goesR)), (eN p), (ptr L.bN 0), (eN dn), (eN bn), (eN (s.askR (s.eraseOk ↑dn ↑bn))), (eN (s.askR (s.eraseOk ↑dn ↑bn))), (Value.bool (!decide ((s.askR (s.eraseOk ↑dn ↑bn)) = 0))), undef, (ptr L.bN 0), (ptr L.bN 0), (ptr L.bN 3), (sli L.bU 0 s.gD L.cU), (eN dn), (ptr L.bU dn), (sli (L.bd dn) 0 s.gB (L.cd dn)), (eN bn), (ptr (L.bd dn) (bn * 4)), (ptr (L.bd dn) (bn * 4)), (ptr (L.bd dn) (bn * 4)), (ptr (L.bd dn) (bn * 4 + 2)), (eI ((s.bl dn bn).er)), (eI (IntKind.i64.wrap ((s.bl dn bn).er + 1))), (ptr (L.bd dn) (bn * 4)), (ptr (L.bd dn) (bn * 4 + 2)), (ptr L.bN 0), (Value.bool ((s.setB dn bn { s.bl dn bn with er := IntKind.i64.wrap ((s.bl dn bn).er + 1) }).goesR)), (eN p), (ptr L.bN 0), (ptr L.bN 0), (ptr L.bN 0), (ptr L.bN 2), (eN (((s.eraseA ↑dn ↑bn).eraseTo s.goesR dn bn p).gP)), (Value.bool (decide (p < (((s.eraseA ↑dn ↑bn).eraseTo s.goesR dn bn p).gP)))), (z 43), (z 44), (Value.bool ((s.setB dn bn { s.bl dn bn with er := IntKind.i64.wrap ((s.bl dn bn).er + 1) }).goesR)), (v23 0), (v23 1), (v23 2), (v23 3), (v23 4), (v23 5), (v23 6), (v23 7), (v23 8), (v23 9), (v23 10), (v23 11), (v23 12), (v23 13), (v23 14), (v23 15), (v23 16), (v23 17), (v23 18)] ++ (zs z 65 7 ++ [undef, undef, undef, undef]))) (fun v23 => ([(ptr L.bN 0), (eN dn), (eN bn), undef, undef, undef, (eN 0), (eN (s.askR (s.eraseOk ↑dn ↑bn))), (ptr (L.bd dn) (bn * 4)), (Value.bool ((s.setB dn bn { s.bl dn bn with er := IntKind.i64.wrap ((s.bl dn bn).er + 1) }).goesR)), (eN p), (ptr L.bN 0), (eN dn), (eN bn), (eN (s.askR (s.eraseOk ↑dn ↑bn))), (eN (s.askR (s.eraseOk ↑dn ↑bn))), (Value.bool (!decide ((s.askR (s.eraseOk ↑dn ↑bn)) = 0))), undef, (ptr L.bN 0), (ptr L.bN 0), (ptr L.bN 3), (sli L.bU 0 s.gD L.cU), (eN dn), (ptr L.bU dn), (sli (L.bd dn) 0 s.gB (L.cd dn)), (eN bn), (ptr (L.bd dn) (bn * 4)), (ptr (L.bd dn) (bn * 4)), (ptr (L.bd dn) (bn * 4)), (ptr (L.bd dn) (bn * 4 + 2)), (eI ((s.bl dn bn).er)), (eI (IntKind.i64.wrap ((s.bl dn bn).er + 1))), (ptr (L.bd dn) (bn * 4)), (ptr (L.bd dn) (bn * 4 + 2)), (ptr L.bN 0), (Value.bool ((s.setB dn bn { s.bl dn bn with er := IntKind.i64.wrap ((s.bl dn bn).er + 1) }).goesR)), (eN p), (ptr L.bN 0), (ptr L.bN 0), (ptr L.bN 0), (ptr L.bN 2), (eN (((s.eraseA ↑dn ↑bn).eraseTo s.goesR dn bn p).gP)), (Value.bool (decide (p < (((s.eraseA ↑dn ↑bn).eraseTo s.goesR dn bn p).gP)))), (z 43), (z 44), (Value.bool ((s.setB dn bn { s.bl dn bn with er := IntKind.i64.wrap ((s.bl dn bn).er + 1) }).goesR)), (v23 0), (v23 1), (v23 2), (v23 3), (v23 4), (v23 5), (v23 6), (v23 7), (v23 8), (v23 9), (v23 10), (v23 11), (v23 12), (v23 13), (v23 14), (v23 15), (v23 16), (v23 17)] ++ (zs z 64 8 ++ [undef, undef, undef, undef]))) s_mx kr rfl (by decide) (by rfl) kr kr kr (by rfl) (fun v_ => by kernel_rfl) (fun v_ => by kernel_rfl) (fun _ => fun w_ w2_ h ho => by have r_hN := h; exact r_hN.step0 ho) hN ?_ ?_ ?_
   ·
    refine ls_cons ?_ ?_
    ·
     intro v23 lo hi w_ k_ hO hd _ _ hk_ _ hR hold
     have r_hN := hR
     clear hd hold
     refine ⟨_, rfl, gd rfl ?_⟩
     exact Does.is (d_move rfl)
    refine ls_cons ?_ ?_
    ·
     intro v23 lo hi w_ k_ hO hd _ _ hk_ _ hR hold
     have r_hN := hR
     have e0 : v23 0 = (ptr (L.bd dn) (bn * 4)) := hd 0 kr
     clear hd hold
     refine ⟨_, rfl, gd rfl ?_⟩
     exact Does.is (d_nilCheck (b := (L.bd dn)) (o := (bn * 4)) e0)
    refine ls_cons ?_ ?_
    ·
     intro v23 lo hi w_ k_ hO hd _ _ hk_ _ hR hold
     have r_hN := hR
     have e1 : v23 1 = (ptr (L.bd dn) (bn * 4)) := hd 1 kr
     clear hd hold
     refine ⟨_, rfl, gd rfl ?_⟩
     exact Does.is (d_fieldAddr (j := bn * 4) Try.underlying85 rfl s_ti63 (by decide) e1 rfl)
    refine ls_cons ?_ ?_
    ·
     intro v23 lo hi w_ k_ hO hd _ _ hk_ _ hR hold
     have r_hN := hR
     have e2 : v23 2 = (ptr (L.bd dn) (bn * 4)) := hd 2 kr
     clear hd hold
     refine ⟨_, rfl, gd rfl ?_⟩
     exact Does.is (rd_ldS (i := dn) (j := bn) (f := 0) r_hN ⟨_, Try.underlying63, rfl⟩ e2 hd1 hb1 (by decide) rfl)
    refine ls_cons ?_ ?_
    ·
     intro v23 lo hi w_ k_ hO hd _ _ hk_ _ hR hold
     have r_hN := hR
     clear hd hold
     refine ⟨_, rfl, gd rfl ?_⟩
     exact Does.is (d_move rfl)
    refine ls_cons ?_ ?_
    ·
     intro v23 lo hi w_ k_ hO hd _ _ hk_ _ hR hold
     have r_hN := hR
     clear hd hold
     refine ⟨_, rfl, gd rfl ?_⟩
     exact Does.is (d_move rfl)
    refine ls_cons ?_ ?_
    ·
     intro v23 lo hi w_ k_ hO hd _ _ hk_ _ hR hold
     have r_hN := hR
     have e5 : v23 5 = (ptr (L.bd dn) (bn * 4)) := hd 5 kr
     clear hd hold
     refine ⟨_, rfl, gd rfl ?_⟩
     exact Does.is (d_nilCheck (b := (L.bd dn)) (o := (bn * 4)) e5)
    refine ls_cons ?_ ?_
    ·
     intro v23 lo hi w_ k_ hO hd _ _ hk_ _ hR hold
     have r_hN := hR
     have e6 : v23 6 = (ptr (L.bd dn) (bn * 4)) := hd 6 kr
     clear hd hold
     refine ⟨_, rfl, gd rfl ?_⟩
     exact Does.is (d_fieldAddr (j := bn * 4) Try.underlying85 rfl s_ti63 (by decide) e6 rfl)
    refine ls_cons ?_ ?_
    ·
     intro v23 lo hi w_ k_ hO hd _ _ hk_ _ hR hold
     have r_hN := hR
     have e7 : v23 7 = (ptr (L.bd dn) (bn * 4)) := hd 7 kr
     clear hd hold
     refine ⟨_, rfl, gd rfl ?_⟩
     exact Does.is (rd_ldS (i := dn) (j := bn) (f := 0) r_hN ⟨_, Try.underlying63, rfl⟩ e7 hd1 hb1 (by decide) rfl)
    refine ls_cons ?_ ?_
    ·
     intro v23 lo hi w_ k_ hO hd _ _ hk_ _ hR hold
     have r_hN := hR
     clear hd hold
     refine ⟨_, rfl, gd rfl ?_⟩
     exact Does.is (d_move rfl)
    refine ls_cons ?_ ?_
    ·
     intro v23 lo hi w_ k_ hO hd _ _ hk_ _ hR hold
     have r_hN := hR
     have e8 : v23 8 = (sli (L.bp (dn * ((s.eraseA ↑dn ↑bn).eraseTo s.goesR dn bn p).gB + bn)) 0 (((s.eraseA ↑dn ↑bn).eraseTo s.goesR dn bn p).gP) (L.cp (dn * ((s.eraseA ↑dn ↑bn).eraseTo s.goesR dn bn p).gB + bn))) := hd 8 kr
     have e9 : v23 9 = (eN p) := hd 9 kr
     clear hd hold
     refine ⟨_, rfl, gd rfl ?_⟩
     exact Does.is (d_index1 (n := (((s.eraseA ↑dn ↑bn).eraseTo s.goesR dn bn p).gP)) (i := p) Try.underlying63 s_ti36 e8 (show _ = Value.int _ (p : Int) from e9) hp1)
    refine ls_cons ?_ ?_
    ·
     intro v23 lo hi w_ k_ hO hd _ _ hk_ _ hR hold
     have r_hN := hR
     have e10 : v23 10 = (ptr (L.bp (dn * ((s.eraseA ↑dn ↑bn).eraseTo s.goesR dn bn p).gB + bn)) p) := hd 10 kr
     clear hd hold
     refine ⟨_, rfl, gd rfl ?_⟩
     refine Does.mono (rd_ldD (i := dn) (j := bn) (f := p) (Y := (Ors L.S X)) r_hN xo_s ⟨_, Try.underlying36, rfl⟩ e10 hd1 hb1 (by first | exact hd1 | exact hb1 | exact hp1 | exact Int.ofNat_lt.2 hd1 | exact Int.ofNat_lt.2 hb1 | exact Int.ofNat_lt.2 hp1 | omega)) (fun u w' h => ⟨h.2 ▸ h.1, h.2 ▸ Only.refl _ _⟩)
    refine ls_cons ?_ ?_
    ·
     intro v23 lo hi w_ k_ hO hd _ _ hk_ _ hR hold
     have r_hN := hR
     clear hd hold
     refine ⟨_, rfl, gd rfl ?_⟩
     refine Does.mono (R := ROw 5 eB onesW w_) ?_ (fun u w' h => ⟨(h.ps).1.less (ors_old r_hN.lt (old_old (Nat.le_trans oW.size hO.size))), (h.ps).2⟩)
     exact d_call (xl := []) (al := []) Try.func42 kr rfl rfl rfl (ref7Ones_ok _)
    refine ls_cons ?_ ?_
    ·
     intro v23 lo hi w_ k_ hO hd _ _ hk_ _ hR hold
     have r_hN := hR
     clear hd hold
     refine ⟨_, rfl, gd rfl ?_⟩
     exact Does.is (d_move rfl)
    refine ls_cons ?_ ?_
    ·
     intro v23 lo hi w_ k_ hO hd _ _ hk_ _ hR hold
     have r_hN := hR
     have e13 : v23 13 = (ptr L.bN 0) := hd 13 kr
     clear hd hold
     refine ⟨_, rfl, gd rfl ?_⟩
     exact Does.is (d_nilCheck (b := L.bN) (o := 0) e13)
    refine ls_cons ?_ ?_
    ·
     intro v23 lo hi w_ k_ hO hd _ _ hk_ _ hR hold
     have r_hN := hR
     have e14 : v23 14 = (ptr L.bN 0) := hd 14 kr
     clear hd hold
     refine ⟨_, rfl, gd rfl ?_⟩
     exact Does.is (d_fieldAddr (j := 6) Try.underlying81 rfl s_ti36 (by decide) e14 rfl)
    refine ls_cons ?_ ?_
    ·
     intro v23 lo hi w_ k_ hO hd _ _ hk_ _ hR hold
     have r_hN := hR
     have e15 : v23 15 = (ptr L.bN 6) := hd 15 kr
     clear hd hold
     refine ⟨_, rfl, gd rfl ?_⟩
     refine Does.mono (rd_ldm (Y := (Ors L.S X)) r_hN xo_s ⟨_, Try.underlying36, rfl⟩ e15) (fun u w' h => ⟨h.2 ▸ h.1, h.2 ▸ Only.refl _ _⟩)
    refine ls_cons ?_ ?_
    ·
     intro v23 lo hi w_ k_ hO hd _ _ hk_ _ hR hold
     have r_hN := hR
     have d11 : Ps (Ors L.S X) (Seq kB (((s.eraseA ↑dn ↑bn).eraseTo s.goesR dn bn p).dl (((s.eraseA ↑dn ↑bn).eraseTo s.goesR dn bn p).ix dn bn p)) (v23 11)) w_ := hd 11 kr
     have d12 : Ps (Ors L.S (Old W.heap.size)) (Seq kB onesW (v23 12)) w_ := hd 12 kr
     have d16 : Ps (Ors L.S X) (Seq kB (((s.eraseA ↑dn ↑bn).eraseTo s.goesR dn bn p).mask) (v23 16)) w_ := hd 16 kr
     clear hd hold
     refine ⟨_, rfl, gd rfl ?_⟩
     refine Does.mono (R := ROw 5 eB (mixR (((s.eraseA ↑dn ↑bn).eraseTo s.goesR dn bn p).dl (((s.eraseA ↑dn ↑bn).eraseTo s.goesR dn bn p).ix dn bn p)) onesW (((s.eraseA ↑dn ↑bn).eraseTo s.goesR dn bn p).mask)) w_) ?_ (fun u w' h => ⟨(h.ps).1.less (ors_old r_hN.lt (old_old (Nat.le_trans oW.size hO.size))), (h.ps).2⟩)
     exact d_call (xl := [.tmp 57, .tmp 58, .tmp 62]) (al := [(v23 11), (v23 12), (v23 16)]) Try.func29 kr rfl rfl rfl (ref6Mix_ok (((s.eraseA ↑dn ↑bn).eraseTo s.goesR dn bn p).dl (((s.eraseA ↑dn ↑bn).eraseTo s.goesR dn bn p).ix dn bn p)) onesW (((s.eraseA ↑dn ↑bn).eraseTo s.goesR dn bn p).mask) (v23 11) (v23 12) (v23 16) _ (Ps.no d11) (Ps.no d12) (Ps.no d16) fo (by have := onesW_len; first | omega | (simp; done) | (simp; omega)) fo)
    exact ls_nil
   ·
    exact ms_nil
   intro v23 lo_ hi_ w24 o25 hd iv_ hR
   have e0 : v23 0 = (ptr (L.bd dn) (bn * 4)) := hd 0 (by decide)
   have e1 : v23 1 = (ptr (L.bd dn) (bn * 4)) := hd 1 (by decide)
   have e2 : v23 2 = (ptr (L.bd dn) (bn * 4)) := hd 2 (by decide)
   have e3 : v23 3 = (sli (L.bp (dn * ((s.eraseA ↑dn ↑bn).eraseTo s.goesR dn bn p).gB + bn)) 0 (((s.eraseA ↑dn ↑bn).eraseTo s.goesR dn bn p).gP) (L.cp (dn * ((s.eraseA ↑dn ↑bn).eraseTo s.goesR dn bn p).gB + bn))) := hd 3 (by decide)
   have e4 : v23 4 = (eN p) := hd 4 (by decide)
   have e5 : v23 5 = (ptr (L.bd dn) (bn * 4)) := hd 5 (by decide)
   have e6 : v23 6 = (ptr (L.bd dn) (bn * 4)) := hd 6 (by decide)
   have e7 : v23 7 = (ptr (L.bd dn) (bn * 4)) := hd 7 (by decide)
   have e8 : v23 8 = (sli (L.bp (dn * ((s.eraseA ↑dn ↑bn).eraseTo s.goesR dn bn p).gB + bn)) 0 (((s.eraseA ↑dn ↑bn).eraseTo s.goesR dn bn p).gP) (L.cp (dn * ((s.eraseA ↑dn ↑bn).eraseTo s.goesR dn bn p).gB + bn))) := hd 8 (by decide)
   have e9 : v23 9 = (eN p) := hd 9 (by decide)
   have e10 : v23 10 = (ptr (L.bp (dn * ((s.eraseA ↑dn ↑bn).eraseTo s.goesR dn bn p).gB + bn)) p) := hd 10 (by decide)
   have e13 : v23 13 = (ptr L.bN 0) := hd 13 (by decide)
   have e14 : v23 14 = (ptr L.bN 0) := hd 14 (by decide)
   have e15 : v23 15 = (ptr L.bN 6) := hd 15 (by decide)
   have f_v23_11 : Ps (Ors L.S X) (Seq kB (((s.eraseA ↑dn ↑bn).eraseTo s.goesR dn bn p).dl (((s.eraseA ↑dn ↑bn).eraseTo s.goesR dn bn p).ix dn bn p)) (v23 11)) w24 := hd 11 (by decide)
   have f_v23_12 : Ps (Ors L.S (Old W.heap.size)) (Seq kB onesW (v23 12)) w24 := hd 12 (by decide)
   have f_v23_16 : Ps (Ors L.S X) (Seq kB (((s.eraseA ↑dn ↑bn).eraseTo s.goesR dn bn p).mask) (v23 16)) w24 := hd 16 (by decide)
   have f_v23_17 : Ps (Ors L.S (Old W.heap.size)) (Seq kB (mixR (((s.eraseA ↑dn ↑bn).eraseTo s.goesR dn bn p).dl (((s.eraseA ↑dn ↑bn).eraseTo s.goesR dn bn p).ix dn bn p)) onesW (((s.eraseA ↑dn ↑bn).eraseTo s.goesR dn bn p).mask)) (v23 17)) w24 := hd 17 (by decide)
   clear hd iv_ lo_ hi_
   refine wpL.flat ([(ptr L.bN 0), (eN dn), (eN bn), undef, undef, undef, (eN 0), (eN (s.askR (s.eraseOk ↑dn ↑bn))), (ptr (L.bd dn) (bn * 4)), (Value.bool ((s.setB dn bn { s.bl dn bn with er := IntKind.i64.wrap ((s.bl dn bn).er + 1) }).goesR)), (eN p), (ptr L.bN 0), (eN dn), (eN bn), (eN (s.askR (s.eraseOk ↑dn ↑bn))), (eN (s.askR (s.eraseOk ↑dn ↑bn))), (Value.bool (!decide ((s.askR (s.eraseOk ↑dn ↑bn)) = 0))), undef, (ptr L.bN 0), (ptr L.bN 0), (ptr L.bN 3), (sli L.bU 0 s.gD L.cU), (eN dn), (ptr L.bU dn), (sli (L.bd dn) 0 s.gB (L.cd dn)), (eN bn), (ptr (L.bd dn) (bn * 4)), (ptr (L.bd dn) (bn * 4)), (ptr (L.bd dn) (bn * 4)), (ptr (L.bd dn) (bn * 4 + 2)), (eI ((s.bl dn bn).er)), (eI (IntKind.i64.wrap ((s.bl dn bn).er + 1))), (ptr (L.bd dn) (bn * 4)), (ptr (L.bd dn) (bn * 4 + 2)), (ptr L.bN 0), (Value.bool ((s.setB dn bn { s.bl dn bn with er := IntKind.i64.wrap ((s.bl dn bn).er + 1) }).goesR)), (eN p), (ptr L.bN 0), (ptr L.bN 0), (ptr L.bN 0), (ptr L.bN 2), (eN (((s.eraseA ↑dn ↑bn).eraseTo s.goesR dn bn p).gP)), (Value.bool (decide (p < (((s.eraseA ↑dn ↑bn).eraseTo s.goesR dn bn p).gP)))), (z 43), (z 44), (Value.bool ((s.setB dn bn { s.bl dn bn with er := IntKind.i64.wrap ((s.bl dn bn).er + 1) }).goesR)), (ptr (L.bd dn) (bn * 4)), (ptr (L.bd dn) (bn * 4)), (ptr (L.bd dn) (bn * 4)), (sli (L.bp (dn * ((s.eraseA ↑dn ↑bn).eraseTo s.goesR dn bn p).gB + bn)) 0 (((s.eraseA ↑dn ↑bn).eraseTo s.goesR dn bn p).gP) (L.cp (dn * ((s.eraseA ↑dn ↑bn).eraseTo s.goesR dn bn p).gB + bn))), (eN p), (ptr (L.bd dn) (bn * 4)), (ptr (L.bd dn) (bn * 4)), (ptr (L.bd dn) (bn * 4)), (sli (L.bp (dn * ((s.eraseA ↑dn ↑bn).eraseTo s.goesR dn bn p).gB + bn)) 0 (((s.eraseA ↑dn ↑bn).eraseTo s.goesR dn bn p).gP) (L.cp (dn * ((s.eraseA ↑dn ↑bn).eraseTo s.goesR dn bn p).gB + bn))), (eN p), (ptr (L.bp (dn * ((s.eraseA ↑dn ↑bn).eraseTo s.goesR dn bn p).gB + bn)) p), (v23 11), (v23 12), (ptr L.bN 0), (ptr L.bN 0), (ptr L.bN 6), (v23 16), (v23 17)] ++ (zs z 64 8 ++ [undef, undef, undef, undef])) (by rw [e0, e1, e2, e3, e4, e5, e6, e7, e8, e9, e10, e13, e14, e15] <;> rfl) ?_
   clear e0 e1 e2 e3 e4 e5 e6 e7 e8 e9 e10 e13 e14 e15
   replace hN := hR
   clear hR
   replace oW := oW.tail o25 (tl_sin (fun k h => h) tl_no)
   replace o20 := o20.tail o25 (tl_sin sub1 tl_no)
   refine wI (d_index1 (n := (((s.eraseA ↑dn ↑bn).eraseTo s.goesR dn bn p).gP)) (i := p) Try.underlying63 s_ti36 rfl (show _ = Value.int _ (p : Int) from rfl) hp1) ?_
   refine wO (rd_stD (i := dn) (j := bn) (f := p) (Y := (Ors L.S X)) (l := (mixR (((s.eraseA ↑dn ↑bn).eraseTo s.goesR dn bn p).dl (((s.eraseA ↑dn ↑bn).eraseTo s.goesR dn bn p).ix dn bn p)) onesW (((s.eraseA ↑dn ↑bn).eraseTo s.goesR dn bn p).mask))) hN ox_s s_ti36 rfl rfl (f_v23_17.less (Y := (Ors L.S X)) (xx_ors (lt_old hX))) hd1 hb1 hp1 (mixR60 l1_ onesW_len)) ?_
   rintro _ w26 ⟨a27, o28⟩
   replace f_v23_11 := f_v23_11.step o28 sub1
   replace f_v23_12 := f_v23_12.step o28 sub1
   replace f_v23_16 := f_v23_16.step o28 sub1
   replace f_v23_17 := f_v23_17.step o28 sub1
   replace oW := oW.tail o28 (fun k _ e => (fun k h => h) k e)
   replace o20 := o20.tail o28 (fun k _ e => sub1 k e)
   replace hN := a27
   refine wF ([(ptr L.bN 0), (eN dn), (eN bn), undef, undef, undef, (eN 0), (eN (s.askR (s.eraseOk ↑dn ↑bn))), (ptr (L.bd dn) (bn * 4)), (Value.bool ((s.setB dn bn { s.bl dn bn with er := IntKind.i64.wrap ((s.bl dn bn).er + 1) }).goesR)), (eN p), (ptr L.bN 0), (eN dn), (eN bn), (eN (s.askR (s.eraseOk ↑dn ↑bn))), (eN (s.askR (s.eraseOk ↑dn ↑bn))), (Value.bool (!decide ((s.askR (s.eraseOk ↑dn ↑bn)) = 0))), undef, (ptr L.bN 0), (ptr L.bN 0), (ptr L.bN 3), (sli L.bU 0 s.gD L.cU), (eN dn), (ptr L.bU dn), (sli (L.bd dn) 0 s.gB (L.cd dn)), (eN bn), (ptr (L.bd dn) (bn * 4)), (ptr (L.bd dn) (bn * 4)), (ptr (L.bd dn) (bn * 4)), (ptr (L.bd dn) (bn * 4 + 2)), (eI ((s.bl dn bn).er)), (eI (IntKind.i64.wrap ((s.bl dn bn).er + 1))), (ptr (L.bd dn) (bn * 4)), (ptr (L.bd dn) (bn * 4 + 2)), (ptr L.bN 0), (Value.bool ((s.setB dn bn { s.bl dn bn with er := IntKind.i64.wrap ((s.bl dn bn).er + 1) }).goesR)), (eN p), (ptr L.bN 0), (ptr L.bN 0), (ptr L.bN 0), (ptr L.bN 2), (eN (((s.eraseA ↑dn ↑bn).eraseTo s.goesR dn bn p).gP)), (Value.bool (decide (p < (((s.eraseA ↑dn ↑bn).eraseTo s.goesR dn bn p).gP)))), (z 43), (z 44), (Value.bool ((s.setB dn bn { s.bl dn bn with er := IntKind.i64.wrap ((s.bl dn bn).er + 1) }).goesR)), (ptr (L.bd dn) (bn * 4)), (ptr (L.bd dn) (bn * 4)), (ptr (L.bd dn) (bn * 4)), (sli (L.bp (dn * ((s.eraseA ↑dn ↑bn).eraseTo s.goesR dn bn p).gB + bn)) 0 (((s.eraseA ↑dn ↑bn).eraseTo s.goesR dn bn p).gP) (L.cp (dn * ((s.eraseA ↑dn ↑bn).eraseTo s.goesR dn bn p).gB + bn))), (eN p), (ptr (L.bd dn) (bn * 4)), (ptr (L.bd dn) (bn * 4)), (ptr (L.bd dn) (bn * 4)), (sli (L.bp (dn * ((s.eraseA ↑dn ↑bn).eraseTo s.goesR dn bn p).gB + bn)) 0 (((s.eraseA ↑dn ↑bn).eraseTo s.goesR dn bn p).gP) (L.cp (dn * ((s.eraseA ↑dn ↑bn).eraseTo s.goesR dn bn p).gB + bn))), (eN p), (ptr (L.bp (dn * ((s.eraseA ↑dn ↑bn).eraseTo s.goesR dn bn p).gB + bn)) p), (v23 11), (v23 12), (ptr L.bN 0), (ptr L.bN 0), (ptr L.bN 6), (v23 16), (v23 17), (ptr (L.bp (dn * ((s.eraseA ↑dn ↑bn).eraseTo s.goesR dn bn p).gB + bn)) p)] ++ (zs z 65 7 ++ [undef, undef, undef, undef])) ?_
   refine wD ?_
   refine inb_n (tN ?_)
   refine pL ?_
   refine wI (d_move rfl) ?_
   refine wI (n_add (a := p) (b := 1) rfl rfl oo) ?_
   refine wI (d_assign rfl) ?_
   refine wD (tN ?_)
   refine ⟨_, (p + 1), rfl, kr, ⟨?_, ?_, ?_⟩, ?_⟩
   ·
    (try dsimp only)
    all_goals (omega)
   ·
    exact o20
   ·
    exact (rd_to hN (NS.eraseTo_next _ _ _ _ _ ((if_pos c1).trans (congrArg (fun x_ => mixR x_ onesW _) (NS.eraseTo_dl _ _ _ _ _).symm))))
   ·
    (try dsimp only)
    all_goals (omega)
  refine wp_eq (l' := ([(ptr L.bN 0), (eN dn), (eN bn), undef, undef, undef, (eN 0), (eN (s.askR (s.eraseOk ↑dn ↑bn))), (ptr (L.bd dn) (bn * 4)), (Value.bool ((s.setB dn bn { s.bl dn bn with er := IntKind.i64.wrap ((s.bl dn bn).er + 1) }).goesR)), (eN p), (ptr L.bN 0), (eN dn), (eN bn), (eN (s.askR (s.eraseOk ↑dn ↑bn))), (eN (s.askR (s.eraseOk ↑dn ↑bn))), (Value.bool (!decide ((s.askR (s.eraseOk ↑dn ↑bn)) = 0))), undef, (ptr L.bN 0), (ptr L.bN 0), (ptr L.bN 3), (sli L.bU 0 s.gD L.cU), (eN dn), (ptr L.bU dn), (sli (L.bd dn) 0 s.gB (L.cd dn)), (eN bn), (ptr (L.bd dn) (bn * 4)), (ptr (L.bd dn) (bn * 4)), (ptr (L.bd dn) (bn * 4)), (ptr (L.bd dn) (bn * 4 + 2)), (eI ((s.bl dn bn).er)), (eI (IntKind.i64.wrap ((s.bl dn bn).er + 1))), (ptr (L.bd dn) (bn * 4)), (ptr (L.bd dn) (bn * 4 + 2)), (ptr L.bN 0), (Value.bool ((s.setB dn bn { s.bl dn bn with er := IntKind.i64.wrap ((s.bl dn bn).er + 1) }).goesR)), (eN p), (ptr L.bN 0), (ptr L.bN 0), (ptr L.bN 0), (ptr L.bN 2), (eN (((s.eraseA ↑dn ↑bn).eraseTo s.goesR dn bn p).gP)), (Value.bool (decide (p < (((s.eraseA ↑dn ↑bn).eraseTo s.goesR dn bn p).gP)))), (z 43), (z 44), (Value.bool ((s.setB dn bn { s.bl dn bn with er := IntKind.i64.wrap ((s.bl dn bn).er + 1) }).goesR))] ++ (zs z 46 26 ++ [undef, undef, undef, undef]))) rfl ?_
  refine drawnT (O := (Ors L.S No)) (n := 8) 6 [0, 1, 3, 7, 0, 0, 63, 127] [(0, 65), (1, 66), (2, 67), (3, 68), (4, 69), (5, 70), (6, 71)] [(0, 65), (1, 66), (2, 67), (3, 68), (4, 69), (5, 70)] [0, 1, 2, 3, 4, 5] [] (fun i_ => ([RF.is (Ors L.S No) (ptr (L.bd dn) (bn * 4)), RF.is (Ors L.S No) (ptr (L.bd dn) (bn * 4)), RF.is (Ors L.S No) (ptr (L.bd dn) (bn * 4)), RF.is (Ors L.S No) (sli (L.bp (dn * ((s.eraseA ↑dn ↑bn).eraseTo s.goesR dn bn p).gB + bn)) 0 (((s.eraseA ↑dn ↑bn).eraseTo s.goesR dn bn p).gP) (L.cp (dn * ((s.eraseA ↑dn ↑bn).eraseTo s.goesR dn bn p).gB + bn))), RF.is (Ors L.S No) (eN p), RF.ps (Ors L.S No) (Ors L.S (Old W.heap.size)) (Seq kB onesW) (ors_mono no_any)] : List (RF (Ors L.S No))).getD i_ (RF.any (Ors L.S No))) (fun _ w_ => Rd L ((s.eraseA ↑dn ↑bn).eraseTo s.goesR dn bn p) X w_) (fun v29 => ([(ptr L.bN 0), (eN dn), (eN bn), undef, undef, undef, (eN 0), (eN (s.askR (s.eraseOk ↑dn ↑bn))), (ptr (L.bd dn) (bn * 4)), (Value.bool ((s.setB dn bn { s.bl dn bn with er := IntKind.i64.wrap ((s.bl dn bn).er + 1) }).goesR)), (eN p), (ptr L.bN 0), (eN dn), (eN bn), (eN (s.askR (s.eraseOk ↑dn ↑bn))), (eN (s.askR (s.eraseOk ↑dn ↑bn))), (Value.bool (!decide ((s.askR (s.eraseOk ↑dn ↑bn)) = 0))), undef, (ptr L.bN 0), (ptr L.bN 0), (ptr L.bN 3), (sli L.bU 0 s.gD L.cU), (eN dn), (ptr L.bU dn), (sli (L.bd dn) 0 s.gB (L.cd dn)), (eN bn), (ptr (L.bd dn) (bn * 4)), (ptr (L.bd dn) (bn * 4)), (ptr (L.bd dn) (bn * 4)), (ptr (L.bd dn) (bn * 4 + 2)), (eI ((s.bl dn bn).er)), (eI (IntKind.i64.wrap ((s.bl dn bn).er + 1))), (ptr (L.bd dn) (bn * 4)), (ptr (L.bd dn) (bn * 4 + 2)), (ptr L.bN 0), (Value.bool ((s.setB dn bn { s.bl dn bn with er := IntKind.i64.wrap ((s.bl dn bn).er + 1) }).goesR)), (eN p), (ptr L.bN 0), (ptr L.bN 0), (ptr L.bN 0), (ptr L.bN 2), (eN (((s.eraseA ↑dn ↑bn).eraseTo s.goesR dn bn p).gP)), (Value.bool (decide (p < (((s.eraseA ↑dn ↑bn).eraseTo s.goesR dn bn p).gP)))), (z 43), (z 44), (Value.bool ((s.setB dn bn { s.bl dn bn with er := IntKind.i64.wrap ((s.bl dn bn).er + 1) }).goesR))] ++ (zs z 46 19 ++ [(v29 0), (v29 1), (v29 2), (v29 3), (v29 4), (v29 5), (v29 6), undef, undef, undef, undef]))) (fun v29 => ([(ptr L.bN 0), (eN dn), (eN bn), undef, undef, undef, (eN 0), (eN (s.askR (s.eraseOk ↑dn ↑bn))), (ptr (L.bd dn) (bn * 4)), (Value.bool ((s.setB dn bn { s.bl dn bn with er := IntKind.i64.wrap ((s.bl dn bn).er + 1) }).goesR)), (eN p), (ptr L.bN 0), (eN dn), (eN bn), (eN (s.askR (s.eraseOk ↑dn ↑bn))), (eN (s.askR (s.eraseOk ↑dn ↑bn))), (Value.bool (!decide ((s.askR (s.eraseOk ↑dn ↑bn)) = 0))), undef, (ptr L.bN 0), (ptr L.bN 0), (ptr L.bN 3), (sli L.bU 0 s.gD L.cU), (eN dn), (ptr L.bU dn), (sli (L.bd dn) 0 s.gB (L.cd dn)), (eN bn), (ptr (L.bd dn) (bn * 4)), (ptr (L.bd dn) (bn * 4)), (ptr (L.bd dn) (bn * 4)), (ptr (L.bd dn) (bn * 4 + 2)), (eI ((s.bl dn bn).er)), (eI (IntKind.i64.wrap ((s.bl dn bn).er + 1))), (ptr (L.bd dn) (bn * 4)), (ptr (L.bd dn) (bn * 4 + 2)), (ptr L.bN 0), (Value.bool ((s.setB dn bn { s.bl dn bn with er := IntKind.i64.wrap ((s.bl dn bn).er + 1) }).goesR)), (eN p), (ptr L.bN 0), (ptr L.bN 0), (ptr L.bN 0), (ptr L.bN 2), (eN (((s.eraseA ↑dn ↑bn).eraseTo s.goesR dn bn p).gP)), (Value.bool (decide (p < (((s.eraseA ↑dn ↑bn).eraseTo s.goesR dn bn p).gP)))), (z 43), (z 44), (Value.bool ((s.setB dn bn { s.bl dn bn with er := IntKind.i64.wrap ((s.bl dn bn).er + 1) }).goesR))] ++ (zs z 46 19 ++ [(v29 0), (v29 1), (v29 2), (v29 3), (v29 4), (v29 5), (z 71), undef, undef, undef, undef]))) s_mx kr rfl (by decide) (by rfl) kr kr kr (by rfl) (fun v_ => by kernel_rfl) (fun v_ => by kernel_rfl) (fun _ => fun w_ w2_ h ho => by have r_hN := h; exact r_hN.step0 ho) hN ?_ ?_ ?_
  ·
   refine ls_cons ?_ ?_
   ·
    intro v29 lo hi w_ k_ hO hd _ _ hk_ _ hR hold
    have r_hN := hR
    clear hd hold
    refine ⟨_, rfl, gd rfl ?_⟩
    exact Does.is (d_move rfl)
   refine ls_cons ?_ ?_
   ·
    intro v29 lo hi w_ k_ hO hd _ _ hk_ _ hR hold
    have r_hN := hR
    have e0 : v29 0 = (ptr (L.bd dn) (bn * 4)) := hd 0 kr
    clear hd hold
    refine ⟨_, rfl, gd rfl ?_⟩
    exact Does.is (d_nilCheck (b := (L.bd dn)) (o := (bn * 4)) e0)
   refine ls_cons ?_ ?_
   ·
    intro v29 lo hi w_ k_ hO hd _ _ hk_ _ hR hold
    have r_hN := hR
    have e1 : v29 1 = (ptr (L.bd dn) (bn * 4)) := hd 1 kr
    clear hd hold
    refine ⟨_, rfl, gd rfl ?_⟩
    exact Does.is (d_fieldAddr (j := bn * 4) Try.underlying85 rfl s_ti63 (by decide) e1 rfl)
   refine ls_cons ?_ ?_
   ·
    intro v29 lo hi w_ k_ hO hd _ _ hk_ _ hR hold
    have r_hN := hR
    have e2 : v29 2 = (ptr (L.bd dn) (bn * 4)) := hd 2 kr
    clear hd hold
    refine ⟨_, rfl, gd rfl ?_⟩
    exact Does.is (rd_ldS (i := dn) (j := bn) (f := 0) r_hN ⟨_, Try.underlying63, rfl⟩ e2 hd1 hb1 (by decide) rfl)
   refine ls_cons ?_ ?_
   ·
    intro v29 lo hi w_ k_ hO hd _ _ hk_ _ hR hold
    have r_hN := hR
    clear hd hold
    refine ⟨_, rfl, gd rfl ?_⟩
    exact Does.is (d_move rfl)
   refine ls_cons ?_ ?_
   ·
    intro v29 lo hi w_ k_ hO hd _ _ hk_ _ hR hold
    have r_hN := hR
    clear hd hold
    refine ⟨_, rfl, gd rfl ?_⟩
    refine Does.mono (R := ROw 5 eB onesW w_) ?_ (fun u w' h => ⟨(h.ps).1.less (ors_old r_hN.lt (old_old (Nat.le_trans oW.size hO.size))), (h.ps).2⟩)
    exact d_call (xl := []) (al := []) Try.func42 kr rfl rfl rfl (ref7Ones_ok _)
   exact ls_nil
  ·
   exact ms_nil
  intro v29 lo_ hi_ w30 o31 hd iv_ hR
  have e0 : v29 0 = (ptr (L.bd dn) (bn * 4)) := hd 0 (by decide)
  have e1 : v29 1 = (ptr (L.bd dn) (bn * 4)) := hd 1 (by decide)
  have e2 : v29 2 = (ptr (L.bd dn) (bn * 4)) := hd 2 (by decide)
  have e3 : v29 3 = (sli (L.bp (dn * ((s.eraseA ↑dn ↑bn).eraseTo s.goesR dn bn p).gB + bn)) 0 (((s.eraseA ↑dn ↑bn).eraseTo s.goesR dn bn p).gP) (L.cp (dn * ((s.eraseA ↑dn ↑bn).eraseTo s.goesR dn bn p).gB + bn))) := hd 3 (by decide)
  have e4 : v29 4 = (eN p) := hd 4 (by decide)
  have f_v29_5 : Ps (Ors L.S (Old W.heap.size)) (Seq kB onesW (v29 5)) w30 := hd 5 (by decide)
  clear hd iv_ lo_ hi_
  refine wpL.flat ([(ptr L.bN 0), (eN dn), (eN bn), undef, undef, undef, (eN 0), (eN (s.askR (s.eraseOk ↑dn ↑bn))), (ptr (L.bd dn) (bn * 4)), (Value.bool ((s.setB dn bn { s.bl dn bn with er := IntKind.i64.wrap ((s.bl dn bn).er + 1) }).goesR)), (eN p), (ptr L.bN 0), (eN dn), (eN bn), (eN (s.askR (s.eraseOk ↑dn ↑bn))), (eN (s.askR (s.eraseOk ↑dn ↑bn))), (Value.bool (!decide ((s.askR (s.eraseOk ↑dn ↑bn)) = 0))), undef, (ptr L.bN 0), (ptr L.bN 0), (ptr L.bN 3), (sli L.bU 0 s.gD L.cU), (eN dn), (ptr L.bU dn), (sli (L.bd dn) 0 s.gB (L.cd dn)), (eN bn), (ptr (L.bd dn) (bn * 4)), (ptr (L.bd dn) (bn * 4)), (ptr (L.bd dn) (bn * 4)), (ptr (L.bd dn) (bn * 4 + 2)), (eI ((s.bl dn bn).er)), (eI (IntKind.i64.wrap ((s.bl dn bn).er + 1))), (ptr (L.bd dn) (bn * 4)), (ptr (L.bd dn) (bn * 4 + 2)), (ptr L.bN 0), (Value.bool ((s.setB dn bn { s.bl dn bn with er := IntKind.i64.wrap ((s.bl dn bn).er + 1) }).goesR)), (eN p), (ptr L.bN 0), (ptr L.bN 0), (ptr L.bN 0), (ptr L.bN 2), (eN (((s.eraseA ↑dn ↑bn).eraseTo s.goesR dn bn p).gP)), (Value.bool (decide (p < (((s.eraseA ↑dn ↑bn).eraseTo s.goesR dn bn p).gP)))), (z 43), (z 44), (Value.bool ((s.setB dn bn { s.bl dn bn with er := IntKind.i64.wrap ((s.bl dn bn).er + 1) }).goesR))] ++ (zs z 46 19 ++ [(ptr (L.bd dn) (bn * 4)), (ptr (L.bd dn) (bn * 4)), (ptr (L.bd dn) (bn * 4)), (sli (L.bp (dn * ((s.eraseA ↑dn ↑bn).eraseTo s.goesR dn bn p).gB + bn)) 0 (((s.eraseA ↑dn ↑bn).eraseTo s.goesR dn bn p).gP) (L.cp (dn * ((s.eraseA ↑dn ↑bn).eraseTo s.goesR dn bn p).gB + bn))), (eN p), (v29 5), (z 71), undef, undef, undef, undef])) (by rw [e0, e1, e2, e3, e4] <;> rfl) ?_
  clear e0 e1 e2 e3 e4
  replace hN := hR
  clear hR
  replace oW := oW.tail o31 (tl_sin (fun k h => h) tl_no)
  replace o20 := o20.tail o31 (tl_sin sub1 tl_no)
  refine wI (d_index1 (n := (((s.eraseA ↑dn ↑bn).eraseTo s.goesR dn bn p).gP)) (i := p) Try.underlying63 s_ti36 rfl (show _ = Value.int _ (p : Int) from rfl) hp1) ?_
  refine wO (rd_stD (i := dn) (j := bn) (f := p) (Y := (Ors L.S X)) (l := onesW) hN ox_s s_ti36 rfl rfl (f_v29_5.less (Y := (Ors L.S X)) (xx_ors (lt_old hX))) hd1 hb1 hp1 onesW_len) ?_
  rintro _ w32 ⟨a33, o34⟩
  replace f_v29_5 := f_v29_5.step o34 sub1
  replace oW := oW.tail o34 (fun k _ e => (fun k h => h) k e)
  replace o20 := o20.tail o34 (fun k _ e => sub1 k e)
  replace hN := a33
  refine wF ([(ptr L.bN 0), (eN dn), (eN bn), undef, undef, undef, (eN 0), (eN (s.askR (s.eraseOk ↑dn ↑bn))), (ptr (L.bd dn) (bn * 4)), (Value.bool ((s.setB dn bn { s.bl dn bn with er := IntKind.i64.wrap ((s.bl dn bn).er + 1) }).goesR)), (eN p), (ptr L.bN 0), (eN dn), (eN bn), (eN (s.askR (s.eraseOk ↑dn ↑bn))), (eN (s.askR (s.eraseOk ↑dn ↑bn))), (Value.bool (!decide ((s.askR (s.eraseOk ↑dn ↑bn)) = 0))), undef, (ptr L.bN 0), (ptr L.bN 0), (ptr L.bN 3), (sli L.bU 0 s.gD L.cU), (eN dn), (ptr L.bU dn), (sli (L.bd dn) 0 s.gB (L.cd dn)), (eN bn), (ptr (L.bd dn) (bn * 4)), (ptr (L.bd dn) (bn * 4)), (ptr (L.bd dn) (bn * 4)), (ptr (L.bd dn) (bn * 4 + 2)), (eI ((s.bl dn bn).er)), (eI (IntKind.i64.wrap ((s.bl dn bn).er + 1))), (ptr (L.bd dn) (bn * 4)), (ptr (L.bd dn) (bn * 4 + 2)), (ptr L.bN 0), (Value.bool ((s.setB dn bn { s.bl dn bn with er := IntKind.i64.wrap ((s.bl dn bn).er + 1) }).goesR)), (eN p), (ptr L.bN 0), (ptr L.bN 0), (ptr L.bN 0), (ptr L.bN 2), (eN (((s.eraseA ↑dn ↑bn).eraseTo s.goesR dn bn p).gP)), (Value.bool (decide (p < (((s.eraseA ↑dn ↑bn).eraseTo s.goesR dn bn p).gP)))), (z 43), (z 44), (Value.bool ((s.setB dn bn { s.bl dn bn with er := IntKind.i64.wrap ((s.bl dn bn).er + 1) }).goesR))] ++ (zs z 46 19 ++ [(ptr (L.bd dn) (bn * 4)), (ptr (L.bd dn) (bn * 4)), (ptr (L.bd dn) (bn * 4)), (sli (L.bp (dn * ((s.eraseA ↑dn ↑bn).eraseTo s.goesR dn bn p).gB + bn)) 0 (((s.eraseA ↑dn ↑bn).eraseTo s.goesR dn bn p).gP) (L.cp (dn * ((s.eraseA ↑dn ↑bn).eraseTo s.goesR dn bn p).gB + bn))), (eN p), (v29 5), (ptr (L.bp (dn * ((s.eraseA ↑dn ↑bn).eraseTo s.goesR dn bn p).gB + bn)) p), undef, undef, undef, undef])) ?_
  refine wD ?_
  refine inb_n (tN ?_)
  refine pL ?_
  refine wI (d_move rfl) ?_
  refine wI (n_add (a := p) (b := 1) rfl rfl oo) ?_
  refine wI (d_assign rfl) ?_
  refine wD (tN ?_)
  refine ⟨_, (p + 1), rfl, kr, ⟨?_, ?_, ?_⟩, ?_⟩
  ·
   (try dsimp only)
   all_goals (omega)
  ·
   exact o20
  ·
   (try dsimp only)
   all_goals (exact (rd_to hN (NS.eraseTo_next _ _ _ _ _ (if_neg (fun e_ => by have c1_ : s.goesR = false := c1; rw [c1_] at e_; cases e_)))))
  ·
   (try dsimp only)
   all_goals (omega)
 refine wpIn_exit ?_
 refine then_x (then_x (inb_e ?_))
 refine tN (wQ (wQ ?_))
 have hpe_ : p = s.gP := by omega
 rw [hpe_] at hN
 refine pL ?_
 refine wI (d_move rfl) ?_
 refine wD (tN ?_)
 refine cond_b rfl (fun c1 => ?_) (fun c1 => ?_)
 ·
  refine wQ (pL ?_)
  refine wI (d_assign rfl) ?_
  refine wF ([(ptr L.bN 0), (eN dn), (eN bn), undef, undef, undef, (eN 8), (eN (s.askR (s.eraseOk ↑dn ↑bn))), (ptr (L.bd dn) (bn * 4)), (Value.bool ((s.setB dn bn { s.bl dn bn with er := IntKind.i64.wrap ((s.bl dn bn).er + 1) }).goesR)), (eN p), (ptr L.bN 0), (eN dn), (eN bn), (eN (s.askR (s.eraseOk ↑dn ↑bn))), (eN (s.askR (s.eraseOk ↑dn ↑bn))), (Value.bool (!decide ((s.askR (s.eraseOk ↑dn ↑bn)) = 0))), undef, (ptr L.bN 0), (ptr L.bN 0), (ptr L.bN 3), (sli L.bU 0 s.gD L.cU), (eN dn), (ptr L.bU dn), (sli (L.bd dn) 0 s.gB (L.cd dn)), (eN bn), (ptr (L.bd dn) (bn * 4)), (ptr (L.bd dn) (bn * 4)), (ptr (L.bd dn) (bn * 4)), (ptr (L.bd dn) (bn * 4 + 2)), (eI ((s.bl dn bn).er)), (eI (IntKind.i64.wrap ((s.bl dn bn).er + 1))), (ptr (L.bd dn) (bn * 4)), (ptr (L.bd dn) (bn * 4 + 2)), (ptr L.bN 0), (Value.bool ((s.setB dn bn { s.bl dn bn with er := IntKind.i64.wrap ((s.bl dn bn).er + 1) }).goesR)), (eN p), (ptr L.bN 0), (ptr L.bN 0), (ptr L.bN 0), (ptr L.bN 2), (eN (((s.eraseA ↑dn ↑bn).eraseTo s.goesR dn bn p).gP)), (Value.bool (decide (p < (((s.eraseA ↑dn ↑bn).eraseTo s.goesR dn bn p).gP))))] ++ (zs z 43 29 ++ [(Value.bool ((s.setB dn bn { s.bl dn bn with er := IntKind.i64.wrap ((s.bl dn bn).er + 1) }).goesR)), undef, undef, undef])) ?_
  refine wD (tN ?_)
  refine wpIn_ret ?_
  refine then_r ?_
  refine leave0 (v := (eN 8)) (res1 Try.results55 rfl) ?_
  obtain ⟨e1_, e2_⟩ := NS.erase_torn c0 c1; exact ⟨congrArg eN e2_.symm, by rw [e1_]; exact hN, oW⟩
 refine wK (tN (wQ (pL ?_)))
 refine wI (d_move rfl) ?_
 refine wF ([(ptr L.bN 0), (eN dn), (eN bn), undef, undef, undef, (eN 0), (eN (s.askR (s.eraseOk ↑dn ↑bn))), (ptr (L.bd dn) (bn * 4)), (Value.bool ((s.setB dn bn { s.bl dn bn with er := IntKind.i64.wrap ((s.bl dn bn).er + 1) }).goesR)), (eN p), (ptr L.bN 0), (eN dn), (eN bn), (eN (s.askR (s.eraseOk ↑dn ↑bn))), (eN (s.askR (s.eraseOk ↑dn ↑bn))), (Value.bool (!decide ((s.askR (s.eraseOk ↑dn ↑bn)) = 0))), undef, (ptr L.bN 0), (ptr L.bN 0), (ptr L.bN 3), (sli L.bU 0 s.gD L.cU), (eN dn), (ptr L.bU dn), (sli (L.bd dn) 0 s.gB (L.cd dn)), (eN bn), (ptr (L.bd dn) (bn * 4)), (ptr (L.bd dn) (bn * 4)), (ptr (L.bd dn) (bn * 4)), (ptr (L.bd dn) (bn * 4 + 2)), (eI ((s.bl dn bn).er)), (eI (IntKind.i64.wrap ((s.bl dn bn).er + 1))), (ptr (L.bd dn) (bn * 4)), (ptr (L.bd dn) (bn * 4 + 2)), (ptr L.bN 0), (Value.bool ((s.setB dn bn { s.bl dn bn with er := IntKind.i64.wrap ((s.bl dn bn).er + 1) }).goesR)), (eN p), (ptr L.bN 0), (ptr L.bN 0), (ptr L.bN 0), (ptr L.bN 2), (eN (((s.eraseA ↑dn ↑bn).eraseTo s.goesR dn bn p).gP)), (Value.bool (decide (p < (((s.eraseA ↑dn ↑bn).eraseTo s.goesR dn bn p).gP))))] ++ (zs z 43 29 ++ [(Value.bool ((s.setB dn bn { s.bl dn bn with er := IntKind.i64.wrap ((s.bl dn bn).er + 1) }).goesR)), (ptr (L.bd dn) (bn * 4)), undef, undef])) ?_
 refine wI (d_nilCheck (b := (L.bd dn)) (o := (bn * 4)) rfl) ?_
 refine wI (d_fieldAddr (j := bn * 4 + 1) Try.underlying85 rfl s_ti3 (by decide) rfl rfl) ?_
 refine wO (rd_stS (i := dn) (j := bn) (f := 1) (x' := { ((s.eraseA ↑dn ↑bn).eraseTo s.goesR dn bn s.gP).bl dn bn with nx := 0 }) hN s_ti3 rfl rfl rfl hd1 hb1 (by decide) (fun _ => rfl) (Nat.zero_le _)) ?_
 rintro _ w35 ⟨a36, o37⟩
 replace oW := oW.tail o37 (fun k _ e => (fun k h => h) k e)
 replace o20 := o20.tail o37 (fun k _ e => sub1 k e)
 replace hN := a36
 refine wD (tN (wQ (pL ?_)))
 refine wI (d_assign rfl) ?_
 refine wD (tN ?_)
 refine wpIn_ret ?_
 refine leave0 (v := (eN 0)) (res1 Try.results55 rfl) ?_
 obtain ⟨e1_, e2_⟩ := NS.erase_yes c0 c1; exact ⟨congrArg eN e2_.symm, by rw [e1_]; exact hN, oW⟩
theorem refNoise_ok (L : RL) (s : NS) {X : Nat → Prop} (W : World) (hN : Rd L s X W) (d b p : Int) (l : List Int) (ul : Value) (hX : ∀ k, X k → k < W.heap.size) (hl : Ps (Ors L.S No) (Seq kI l ul) W) (gl : l.length ≤ 1048576) :
    CW Try.prog 57 #[(ptr L.bN 0), (eI d), (eI b), (eI p), ul] W (Rt (fun u w => u = eN (s.noiseR d b p) ∧ Rd L (s.noise d b p l) X w ∧ Only L.S W w)) := by
 have oW : Only L.S W W := Only.refl _ _
 refine enter (al := [(ptr L.bN 0), (eI d), (eI b), (eI p), ul]) (k := 39) (l := ([(ptr L.bN 0), (eI d), (eI b), (eI p), ul] ++ (us 39))) Try.func57 rfl Try.ntmps57 rfl rfl ?_
 refine wQ (pL ?_)
 refine wI (d_assign rfl) ?_
 refine wD (tN (wQ (wQ ?_)))
 by_cases k0 : (s.there d b) = true
 ·
  by_cases k2 : p < 0
  ·
   refine pL ?_
   refine wI (d_move rfl) ?_
   refine wI (d_move rfl) ?_
   refine wI (d_move rfl) ?_
   refine wO (d_call (xl := [.tmp 11, .tmp 12, .tmp 13]) (al := [(ptr L.bN 0), (eI d), (eI b)]) Try.func43 kr rfl rfl rfl (refThere_ok L s _ hN (r := true) d b k0)) ?_
   rintro _ w11 ⟨rfl, o12⟩
   replace hl := hl.step0 o12
   replace hN := hN.step0 o12
   replace oW := oW.tail0 o12
   refine wI (d_not rfl rfl) ?_
   refine wI (d_move rfl) ?_
   refine wF ([(ptr L.bN 0), (eI d), (eI b), (eI p), ul] ++ (us 5 ++ [(eN 0), (ptr L.bN 0), (eI d), (eI b), vT, vF, vF] ++ (us 27))) ?_
   refine wG (d_move rfl) ?_
   refine wG (d_lss (k := .i64) (m := p) (n := 0) rfl rfl (decide_eq_true k2)) ?_
   refine wI (d_pick (b := false) (v := vT) rfl rfl) ?_
   refine wI (d_move rfl) ?_
   refine wX ?_
   refine wX ?_
   refine wX ?_
   refine wF ([(ptr L.bN 0), (eI d), (eI b), (eI p), ul] ++ (us 5 ++ [(eN 0), (ptr L.bN 0), (eI d), (eI b), vT, vF, vF, (eI p), vT, vT, vT] ++ (us 23))) ?_
   refine wX ?_
   refine wX ?_
   refine wX ?_
   refine wX ?_
   refine wI (d_pick (b := true) (v := vT) rfl rfl) ?_
   refine wD (tN ?_)
   refine forget (fun zf13 => ([(ptr L.bN 0), (eI d), (eI b), (eI p), ul] ++ (zs zf13 5 23 ++ [vT] ++ (us 15)))) kr (fun zf13 => ?_)
   refine cond_t rfl ?_
   refine wQ (pL ?_)
   refine wI (d_assign rfl) ?_
   refine wD (tN ?_)
   refine wpIn_ret ?_
   refine then_r ?_
   refine leave0 (v := (eN 1)) (res1 Try.results57 rfl) ?_
   have k9_ : ¬ (s.pageIn d b p) = true := by simp [NS.pageIn, k0] <;> omega
   exact ⟨congrArg eN (by unfold NS.noiseR; rw [if_neg k9_]), by unfold NS.noise; rw [if_neg k9_]; exact hN, oW⟩
  by_cases k3 : (s.gP : Int) ≤ p
  ·
   refine pL ?_
   refine wI (d_move rfl) ?_
   refine wI (d_move rfl) ?_
   refine wI (d_move rfl) ?_
   refine wO (d_call (xl := [.tmp 11, .tmp 12, .tmp 13]) (al := [(ptr L.bN 0), (eI d), (eI b)]) Try.func43 kr rfl rfl rfl (refThere_ok L s _ hN (r := true) d b k0)) ?_
   rintro _ w14 ⟨rfl, o15⟩
   replace hl := hl.step0 o15
   replace hN := hN.step0 o15
   replace oW := oW.tail0 o15
   refine wI (d_not rfl rfl) ?_
   refine wI (d_move rfl) ?_
   refine wF ([(ptr L.bN 0), (eI d), (eI b), (eI p), ul] ++ (us 5 ++ [(eN 0), (ptr L.bN 0), (eI d), (eI b), vT, vF, vF] ++ (us 27))) ?_
   refine wG (d_move rfl) ?_
   refine wG (d_lss (k := .i64) (m := p) (n := 0) rfl rfl (decide_eq_false k2)) ?_
   refine wI (d_pick (b := false) (v := vF) rfl rfl) ?_
   refine wI (d_move rfl) ?_
   refine wG (d_move rfl) ?_
   refine wG (d_move rfl) ?_
   refine wG (d_nilCheck (b := L.bN) (o := 0) rfl) ?_
   refine wF ([(ptr L.bN 0), (eI d), (eI b), (eI p), ul] ++ (us 5 ++ [(eN 0), (ptr L.bN 0), (eI d), (eI b), vT, vF, vF, (eI p), vF, vF, vF, (eI p), (ptr L.bN 0), (ptr L.bN 0)] ++ (us 20))) ?_
   refine wG (d_fieldAddr (j := 0) Try.underlying81 rfl s_ti23 (by decide) rfl rfl) ?_
   refine wG (d_fieldAddr (j := 2) Try.underlying23 rfl s_ti3 (by decide) rfl rfl) ?_
   refine wG (rd_ld (v := (eN s.gP)) hN ⟨_, Try.underlying3, rfl⟩ rfl (fun _ => rfl)) ?_
   refine wG (d_geq (k := .i64) (m := p) (n := (s.gP : Int)) rfl rfl (decide_eq_true k3)) ?_
   refine wI (d_pick (b := false) (v := vT) rfl rfl) ?_
   refine wD (tN ?_)
   refine forget (fun zf16 => ([(ptr L.bN 0), (eI d), (eI b), (eI p), ul] ++ (zs zf16 5 23 ++ [vT] ++ (us 15)))) kr (fun zf16 => ?_)
   refine cond_t rfl ?_
   refine wQ (pL ?_)
   refine wI (d_assign rfl) ?_
   refine wD (tN ?_)
   refine wpIn_ret ?_
   refine then_r ?_
   refine leave0 (v := (eN 1)) (res1 Try.results57 rfl) ?_
   have k9_ : ¬ (s.pageIn d b p) = true := by simp [NS.pageIn, k0] <;> omega
   exact ⟨congrArg eN (by unfold NS.noiseR; rw [if_neg k9_]), by unfold NS.noise; rw [if_neg k9_]; exact hN, oW⟩
  refine pL ?_
  refine wI (d_move rfl) ?_
  refine wI (d_move rfl) ?_
  refine wI (d_move rfl) ?_
  refine wO (d_call (xl := [.tmp 11, .tmp 12, .tmp 13]) (al := [(ptr L.bN 0), (eI d), (eI b)]) Try.func43 kr rfl rfl rfl (refThere_ok L s _ hN (r := true) d b k0)) ?_
  rintro _ w17 ⟨rfl, o18⟩
  replace hl := hl.step0 o18
  replace hN := hN.step0 o18
  replace oW := oW.tail0 o18
  refine wI (d_not rfl rfl) ?_
  refine wI (d_move rfl) ?_
  refine wF ([(ptr L.bN 0), (eI d), (eI b), (eI p), ul] ++ (us 5 ++ [(eN 0), (ptr L.bN 0), (eI d), (eI b), vT, vF, vF] ++ (us 27))) ?_
  refine wG (d_move rfl) ?_
  refine wG (d_lss (k := .i64) (m := p) (n := 0) rfl rfl (decide_eq_false k2)) ?_
  refine wI (d_pick (b := false) (v := vF) rfl rfl) ?_
  refine wI (d_move rfl) ?_
  refine wG (d_move rfl) ?_
  refine wG (d_move rfl) ?_
  refine wG (d_nilCheck (b := L.bN) (o := 0) rfl) ?_
  refine wF ([(ptr L.bN 0), (eI d), (eI b), (eI p), ul] ++ (us 5 ++ [(eN 0), (ptr L.bN 0), (eI d), (eI b), vT, vF, vF, (eI p), vF, vF, vF, (eI p), (ptr L.bN 0), (ptr L.bN 0)] ++ (us 20))) ?_
  refine wG (d_fieldAddr (j := 0) Try.underlying81 rfl s_ti23 (by decide) rfl rfl) ?_
  refine wG (d_fieldAddr (j := 2) Try.underlying23 rfl s_ti3 (by decide) rfl rfl) ?_
  refine wG (rd_ld (v := (eN s.gP)) hN ⟨_, Try.underlying3, rfl⟩ rfl (fun _ => rfl)) ?_
  refine wG (d_geq (k := .i64) (m := p) (n := (s.gP : Int)) rfl rfl (decide_eq_false k3)) ?_
  refine wI (d_pick (b := false) (v := vF) rfl rfl) ?_
  refine wD (tN ?_)
  refine forget (fun zf19 => ([(ptr L.bN 0), (eI d), (eI b), (eI p), ul] ++ (zs zf19 5 23 ++ [vF] ++ (us 15)))) kr (fun zf19 => ?_)
  refine cond_f rfl ?_
  refine wK (tN (wQ ?_))
  have k9_ : (s.pageIn d b p) = true := by simp [NS.pageIn, k0]; omega
  have hp0 : 0 ≤ p := by omega
  have hp1 : p < (s.gP : Int) := by omega
  obtain ⟨pn, rfl⟩ := Int.eq_ofNat_of_zero_le hp0
  replace hp1 : pn < s.gP := Int.ofNat_lt.1 hp1
  refine wp_eq (l' := ([(ptr L.bN 0), (eI d), (eI b), (eN pn), ul] ++ (zs zf19 5 23 ++ [vF] ++ (us 15)))) rfl ?_
  obtain ⟨hd0, hd1, hb0, hb1⟩ := NS.there_of k0
  obtain ⟨dn, rfl⟩ := Int.eq_ofNat_of_zero_le hd0
  replace hd1 : dn < s.gD := Int.ofNat_lt.1 hd1
  refine wp_eq (l' := ([(ptr L.bN 0), (eN dn), (eI b), (eN pn), ul] ++ (zs zf19 5 23 ++ [vF] ++ (us 15)))) rfl ?_
  obtain ⟨bn, rfl⟩ := Int.eq_ofNat_of_zero_le hb0
  replace hb1 : bn < s.gB := Int.ofNat_lt.1 hb1
  refine wp_eq (l' := ([(ptr L.bN 0), (eN dn), (eN bn), (eN pn), ul] ++ (zs zf19 5 23 ++ [vF] ++ (us 15)))) rfl ?_
  have hX0_ : ∀ k, (Ors L.S (Old W.heap.size)) k → k < w17.heap.size := (lt_ors hN.lt (fun k t => Nat.lt_of_lt_of_le t oW.size))
  have hO0_ : ∀ k, (Ors L.S No) k → k < w17.heap.size := fun k h => hX0_ k ((ors_mono no_any) k h)
  refine drawnT (O := (Ors L.S No)) (n := 16) 14 [0, 1, 3, 7, 0, 31, 63, 0, 255, 511, 0, 0, 0, 6144, 16383, 32767] [(0, 29), (1, 30), (2, 31), (3, 32), (4, 33), (5, 34), (6, 35), (7, 36), (8, 37), (9, 38), (10, 39), (11, 40), (12, 41), (13, 42), (14, 43)] [(0, 29), (1, 30), (2, 31), (3, 32), (4, 33), (5, 34), (6, 35), (7, 36), (8, 37), (9, 38), (10, 39), (11, 40), (12, 41), (13, 42)] [0, 1, 2, 3, 4, 5, 6, 7, 8, 9, 10, 11, 12, 13] [] (fun i_ => ([RF.is (Ors L.S No) (ptr L.bN 0), RF.is (Ors L.S No) (ptr L.bN 0), RF.is (Ors L.S No) (ptr L.bN 4), RF.is (Ors L.S No) (sli L.bV 0 s.gD L.cV), RF.is (Ors L.S No) (eN dn), RF.is (Ors L.S No) (ptr L.bV dn), RF.is (Ors L.S No) (sli (L.bw dn) 0 s.gB (L.cw dn)), RF.is (Ors L.S No) (eN bn), RF.is (Ors L.S No) (ptr (L.bw dn) bn), RF.is (Ors L.S No) (sli (L.bz (dn * s.gB + bn)) 0 s.gP s.gP), RF.is (Ors L.S No) (eN pn), RF.ar (Ors L.S No) 3 0 (([] : List Int).map eI) w17.heap.size hO0_, RF.is (Ors L.S No) ul, RF.ps (Ors L.S No) (Ors L.S (Old W.heap.size)) (Seq kI l) (ors_mono no_any)] : List (RF (Ors L.S No))).getD i_ (RF.any (Ors L.S No))) (fun _ w_ => Rd L s X w_) (fun v20 => ([(ptr L.bN 0), (eN dn), (eN bn), (eN pn), ul] ++ (zs zf19 5 23 ++ [vF, (v20 0), (v20 1), (v20 2), (v20 3), (v20 4), (v20 5), (v20 6), (v20 7), (v20 8), (v20 9), (v20 10), (v20 11), (v20 12), (v20 13), (v20 14)]))) (fun v20 => ([(ptr L.bN 0), (eN dn), (eN bn), (eN pn), ul] ++ (zs zf19 5 23 ++ [vF, (v20 0), (v20 1), (v20 2), (v20 3), (v20 4), (v20 5), (v20 6), (v20 7), (v20 8), (v20 9), (v20 10), (v20 11), (v20 12), (v20 13), undef]))) s_mx kr rfl (by decide) (by rfl) kr kr kr (by rfl) (fun v_ => by kernel_rfl) (fun v_ => by kernel_rfl) (fun _ => fun w_ w2_ h ho => by have r_hN := h; exact r_hN.step0 ho) hN ?_ ?_ ?_
  ·
   refine ls_cons ?_ ?_
   ·
    intro v20 lo hi w_ k_ hO hd _ _ hk_ _ hR hold
    have r_hN := hR
    clear hd hold
    refine ⟨_, rfl, gd rfl ?_⟩
    exact Does.is (d_move rfl)
   refine ls_cons ?_ ?_
   ·
    intro v20 lo hi w_ k_ hO hd _ _ hk_ _ hR hold
    have r_hN := hR
    have e0 : v20 0 = (ptr L.bN 0) := hd 0 kr
    clear hd hold
    refine ⟨_, rfl, gd rfl ?_⟩
    exact Does.is (d_nilCheck (b := L.bN) (o := 0) e0)
   refine ls_cons ?_ ?_
   ·
    intro v20 lo hi w_ k_ hO hd _ _ hk_ _ hR hold
    have r_hN := hR
    have e1 : v20 1 = (ptr L.bN 0) := hd 1 kr
    clear hd hold
    refine ⟨_, rfl, gd rfl ?_⟩
    exact Does.is (d_fieldAddr (j := 4) Try.underlying81 rfl s_ti79 (by decide) e1 rfl)
   refine ls_cons ?_ ?_
   ·
    intro v20 lo hi w_ k_ hO hd _ _ hk_ _ hR hold
    have r_hN := hR
    have e2 : v20 2 = (ptr L.bN 4) := hd 2 kr
    clear hd hold
    refine ⟨_, rfl, gd rfl ?_⟩
    exact Does.is (rd_ld (v := (sli L.bV 0 s.gD L.cV)) r_hN ⟨_, Try.underlying79, rfl⟩ e2 (fun _ => rfl))
   refine ls_cons ?_ ?_
   ·
    intro v20 lo hi w_ k_ hO hd _ _ hk_ _ hR hold
    have r_hN := hR
    clear hd hold
    refine ⟨_, rfl, gd rfl ?_⟩
    exact Does.is (d_move rfl)
   refine ls_cons ?_ ?_
   ·
    intro v20 lo hi w_ k_ hO hd _ _ hk_ _ hR hold
    have r_hN := hR
    have e3 : v20 3 = (sli L.bV 0 s.gD L.cV) := hd 3 kr
    have e4 : v20 4 = (eN dn) := hd 4 kr
    clear hd hold
    refine ⟨_, rfl, gd rfl ?_⟩
    exact Does.is (d_index1 (n := s.gD) (i := dn) Try.underlying79 s_ti83 e3 (show _ = Value.int _ (dn : Int) from e4) hd1)
   refine ls_cons ?_ ?_
   ·
    intro v20 lo hi w_ k_ hO hd _ _ hk_ _ hR hold
    have r_hN := hR
    have e5 : v20 5 = (ptr L.bV dn) := hd 5 kr
    clear hd hold
    refine ⟨_, rfl, gd rfl ?_⟩
    exact Does.is (rd_ldV (i := dn) r_hN ⟨_, Try.underlying83, rfl⟩ e5 hd1)
   refine ls_cons ?_ ?_
   ·
    intro v20 lo hi w_ k_ hO hd _ _ hk_ _ hR hold
    have r_hN := hR
    clear hd hold
    refine ⟨_, rfl, gd rfl ?_⟩
    exact Does.is (d_move rfl)
   refine ls_cons ?_ ?_
   ·
    intro v20 lo hi w_ k_ hO hd _ _ hk_ _ hR hold
    have r_hN := hR
    have e6 : v20 6 = (sli (L.bw dn) 0 s.gB (L.cw dn)) := hd 6 kr
    have e7 : v20 7 = (eN bn) := hd 7 kr
    clear hd hold
    refine ⟨_, rfl, gd rfl ?_⟩
    exact Does.is (d_index1 (n := s.gB) (i := bn) Try.underlying83 s_ti67 e6 (show _ = Value.int _ (bn : Int) from e7) hb1)
   refine ls_cons ?_ ?_
   ·
    intro v20 lo hi w_ k_ hO hd _ _ hk_ _ hR hold
    have r_hN := hR
    have e8 : v20 8 = (ptr (L.bw dn) bn) := hd 8 kr
    clear hd hold
    refine ⟨_, rfl, gd rfl ?_⟩
    exact Does.is (rd_ldW (i := dn) (j := bn) r_hN ⟨_, Try.underlying67, rfl⟩ e8 hd1 hb1)
   refine ls_cons ?_ ?_
   ·
    intro v20 lo hi w_ k_ hO hd _ _ hk_ _ hR hold
    have r_hN := hR
    clear hd hold
    refine ⟨_, rfl, gd rfl ?_⟩
    exact Does.is (d_move rfl)
   refine ls_cons ?_ ?_
   ·
    intro v20 lo hi w_ k_ hO hd _ _ hk_ _ hR hold
    have r_hN := hR
    clear hd hold
    refine ⟨_, rfl, gd rfl ?_⟩
    refine Does.mono (d_buildL (cs := []) Try.underlying37 s_ti3 rfl (nb rfl) parts_nil rfl) (fun u w' h => by obtain ⟨b_, rfl, hb_, hA_, hO_⟩ := h; exact ⟨⟨b_, rfl, hA_, Nat.le_trans hO.size hb_⟩, hO_⟩)
   refine ls_cons ?_ ?_
   ·
    intro v20 lo hi w_ k_ hO hd _ _ hk_ _ hR hold
    have r_hN := hR
    clear hd hold
    refine ⟨_, rfl, gd rfl ?_⟩
    exact Does.is (d_move rfl)
   refine ls_cons ?_ ?_
   ·
    intro v20 lo hi w_ k_ hO hd _ _ hk_ _ hR hold
    have r_hN := hR
    obtain ⟨mb11, me11, ma11, mf11⟩ : ∃ b, v20 11 = sli b 0 0 0 ∧ Arr 3 b (([] : List Int).map eI) w_ ∧ w17.heap.size ≤ b := hd 11 kr
    have e12 : v20 12 = ul := hd 12 kr
    clear hd hold
    refine ⟨_, rfl, gd rfl ?_⟩
    refine Does.mono (R := AppFull 3 eI mb11 (l) w_) ?_ (fun u w' h => by obtain ⟨bo_, h1_, h2_, h3_⟩ := h; exact ⟨h1_.seq (not_of_lt hX0_ (fresh_of h2_ mf11 hO.size)), h3_⟩)
    exact d_append_full (xs := ([] : List Int)) (ys := l) Try.underlying37 Try.underlying37 s_ti3 rfl me11 e12 ma11 (by simp) (SrcV.of_seq (hl.step hO (ors_mono no_any)) (fun _ => rfl)) (by first | omega | (simp; omega)) (by first | omega | (simp; omega)) rfl
   exact ls_nil
  ·
   exact ms_nil
  intro v20 lo_ hi_ w21 o22 hd iv_ hR
  have e0 : v20 0 = (ptr L.bN 0) := hd 0 (by decide)
  have e1 : v20 1 = (ptr L.bN 0) := hd 1 (by decide)
  have e2 : v20 2 = (ptr L.bN 4) := hd 2 (by decide)
  have e3 : v20 3 = (sli L.bV 0 s.gD L.cV) := hd 3 (by decide)
  have e4 : v20 4 = (eN dn) := hd 4 (by decide)
  have e5 : v20 5 = (ptr L.bV dn) := hd 5 (by decide)
  have e6 : v20 6 = (sli (L.bw dn) 0 s.gB (L.cw dn)) := hd 6 (by decide)
  have e7 : v20 7 = (eN bn) := hd 7 (by decide)
  have e8 : v20 8 = (ptr (L.bw dn) bn) := hd 8 (by decide)
  have e9 : v20 9 = (sli (L.bz (dn * s.gB + bn)) 0 s.gP s.gP) := hd 9 (by decide)
  have e10 : v20 10 = (eN pn) := hd 10 (by decide)
  have e12 : v20 12 = ul := hd 12 (by decide)
  have f_v20_13 : Ps (Ors L.S (Old W.heap.size)) (Seq kI l (v20 13)) w21 := hd 13 (by decide)
  clear hd iv_ lo_ hi_
  refine wpL.flat ([(ptr L.bN 0), (eN dn), (eN bn), (eN pn), ul] ++ (zs zf19 5 23 ++ [vF, (ptr L.bN 0), (ptr L.bN 0), (ptr L.bN 4), (sli L.bV 0 s.gD L.cV), (eN dn), (ptr L.bV dn), (sli (L.bw dn) 0 s.gB (L.cw dn)), (eN bn), (ptr (L.bw dn) bn), (sli (L.bz (dn * s.gB + bn)) 0 s.gP s.gP), (eN pn), (v20 11), ul, (v20 13), undef])) (by rw [e0, e1, e2, e3, e4, e5, e6, e7, e8, e9, e10, e12] <;> rfl) ?_
  clear e0 e1 e2 e3 e4 e5 e6 e7 e8 e9 e10 e12
  replace hl := hl.step o22 (ors_mono no_any)
  replace hN := hR
  clear hR
  replace oW := oW.tail o22 (tl_sin (fun k h => h) tl_no)
  refine wI (d_index1 (n := s.gP) (i := pn) Try.underlying67 s_ti37 rfl (show _ = Value.int _ (pn : Int) from rfl) hp1) ?_
  refine wO (rd_stZ (i := dn) (j := bn) (f := pn) (Y := (Ors L.S X)) (l := l) hN ox_s s_ti37 rfl rfl (f_v20_13.less (Y := (Ors L.S X)) (xx_ors (lt_old hX))) hd1 hb1 hp1 gl) ?_
  rintro _ w23 ⟨a24, o25⟩
  replace hl := hl.step o25 sub1
  replace f_v20_13 := f_v20_13.step o25 sub1
  replace oW := oW.tail o25 (fun k _ e => (fun k h => h) k e)
  replace hN := a24
  refine wF ([(ptr L.bN 0), (eN dn), (eN bn), (eN pn), ul] ++ (zs zf19 5 23 ++ [vF, (ptr L.bN 0), (ptr L.bN 0), (ptr L.bN 4), (sli L.bV 0 s.gD L.cV), (eN dn), (ptr L.bV dn), (sli (L.bw dn) 0 s.gB (L.cw dn)), (eN bn), (ptr (L.bw dn) bn), (sli (L.bz (dn * s.gB + bn)) 0 s.gP s.gP), (eN pn), (v20 11), ul, (v20 13), (ptr (L.bz (dn * s.gB + bn)) pn)])) ?_
  refine wD (tN ?_)
  refine forget (fun zf26 => (zs zf26 0 44)) kr (fun zf26 => ?_)
  refine wQ (pL ?_)
  refine wI (d_assign rfl) ?_
  refine wD (tN ?_)
  refine wpIn_ret ?_
  refine leave0 (v := (eN 0)) (res1 Try.results57 rfl) ?_
  exact ⟨congrArg eN (by unfold NS.noiseR; rw [if_pos k9_]), by unfold NS.noise; rw [if_pos k9_]; exact hN, oW⟩
 refine pL ?_
 refine wI (d_move rfl) ?_
 refine wI (d_move rfl) ?_
 refine wI (d_move rfl) ?_
 refine wO (d_call (xl := [.tmp 11, .tmp 12, .tmp 13]) (al := [(ptr L.bN 0), (eI d), (eI b)]) Try.func43 kr rfl rfl rfl (refThere_ok L s _ hN (r := false) d b (Bool.eq_false_iff.2 k0))) ?_
 rintro _ w27 ⟨rfl, o28⟩
 replace hl := hl.step0 o28
 replace hN := hN.step0 o28
 replace oW := oW.tail0 o28
 refine wI (d_not rfl rfl) ?_
 refine wI (d_move rfl) ?_
 refine wF ([(ptr L.bN 0), (eI d), (eI b), (eI p), ul] ++ (us 5 ++ [(eN 0), (ptr L.bN 0), (eI d), (eI b), vF, vT, vT] ++ (us 27))) ?_
 refine wX ?_
 refine wX ?_
 refine wI (d_pick (b := true) (v := vT) rfl rfl) ?_
 refine wI (d_move rfl) ?_
 refine wX ?_
 refine wX ?_
 refine wX ?_
 refine wF ([(ptr L.bN 0), (eI d), (eI b), (eI p), ul] ++ (us 5 ++ [(eN 0), (ptr L.bN 0), (eI d), (eI b), vF, vT, vT, undef, undef, vT, vT] ++ (us 23))) ?_
 refine wX ?_
 refine wX ?_
 refine wX ?_
 refine wX ?_
 refine wI (d_pick (b := true) (v := vT) rfl rfl) ?_
 refine wD (tN ?_)
 refine forget (fun zf29 => ([(ptr L.bN 0), (eI d), (eI b), (eI p), ul] ++ (zs zf29 5 23 ++ [vT] ++ (us 15)))) kr (fun zf29 => ?_)
 refine cond_t rfl ?_
 refine wQ (pL ?_)
 refine wI (d_assign rfl) ?_
 refine wD (tN ?_)
 refine wpIn_ret ?_
 refine then_r ?_
 refine leave0 (v := (eN 1)) (res1 Try.results57 rfl) ?_
 have k9_ : ¬ (s.pageIn d b p) = true := by simp [NS.pageIn, k0] <;> omega
 exact ⟨congrArg eN (by unfold NS.noiseR; rw [if_neg k9_]), by unfold NS.noise; rw [if_neg k9_]; exact hN, oW⟩
theorem refStop_ok (L : RL) (s : NS) {X : Nat → Prop} (W : World) (hN : Rd L s X W) (k : Nat) (l : List UInt8) (ul : Value) (hX : ∀ k, X k → k < W.heap.size) (hl : Ps (Ors L.S No) (Seq kB l ul) W) (gl : l.length ≤ 1048576) (gk : k < 2 ^ 62) :
    CW Try.prog 58 #[(ptr L.bN 0), (eN k), ul] W (Rt (fun u w => Rd L (s.stopAt k l) X w ∧ Only L.S W w)) := by
 have oW : Only L.S W W := Only.refl _ _
 refine enter (al := [(ptr L.bN 0), (eN k), ul]) (k := 14) (l := ([(ptr L.bN 0), (eN k), ul] ++ (us 14))) Try.func58 rfl Try.ntmps58 rfl rfl ?_
 refine pL ?_
 refine wI (d_move rfl) ?_
 refine wI (d_move rfl) ?_
 refine wI (d_move rfl) ?_
 refine wI (n_max rfl rfl) ?_
 refine wO (d_buildL (cs := []) Try.underlying36 s_ti5 rfl (nb rfl) parts_nil rfl) ?_
 rintro _ w11 ⟨eb, rfl, g12, a13, o14⟩
 replace a13 : Arr 5 eb (([] : List UInt8).map eB) w11 := a13
 have l_eb : ([] : List UInt8).length = 0 := rfl
 have g_oW_eb : W.heap.size ≤ eb := Nat.le_trans oW.size g12
 replace hl := hl.new o14 g12
 replace hN := hN.new o14 g12
 replace oW := oW.tail0 o14
 refine wI (d_move rfl) ?_
 have a16 := Ow.of_map2 a13 l_eb
 have q_oW_row15 : Fr (some eb) none W.heap.size := Fr.new g_oW_eb
 replace hl := hl.less (Y := (Orq (some eb) (Ors L.S No))) (xx_br (xx_ors xx_id))
 replace hN := hN.less (Y := (Orq (some eb) X)) (xx_br xx_id)
 refine wO (d_append Try.underlying36 Try.underlying36 s_ti5 rfl rfl rfl a16 (SrcV.of_seq hl (fun _ => rfl)) (by first | omega | (simp; omega)) (by first | omega | (simp; omega)) rfl) ?_
 rintro u17 w18 ⟨bo19, a20, o21, q22⟩
 replace a20 : Ow 5 1 bo19 u17 (([] : List UInt8) ++ l).length ((([] : List UInt8) ++ l).map eB) w18 := by rw [List.length_append, List.map_append]; exact a20
 replace hl := hl.gr o21 (fun k e => (.inl e)) (xx_re (Fr.of_or q22) (xx_ors xx_id))
 replace hN := hN.gr o21 (fun k e => (.inl e)) (xx_re (Fr.of_or q22) xx_id)
 have tq := oW.size
 replace oW := oW.tailr o21 q_oW_row15 (fun _ e => by cases e)
 replace q_oW_row15 := qtr (Fr.of_or q22) q_oW_row15 tq
 clear tq
 refine wI (d_nilCheck (b := L.bN) (o := 0) rfl) ?_
 refine wI (d_fieldAddr (j := 5) Try.underlying81 rfl s_ti3 (by decide) rfl rfl) ?_
 refine wF [(ptr L.bN 0), (eN k), ul, undef, undef, undef, (ptr L.bN 0), (ptr L.bN 0), (eN k), (eN (max k 0)), (sli eb 0 0 0), ul, u17, (ptr L.bN 0), (ptr L.bN 5), undef, undef] ?_
 refine wO (rd_st (s' := { s with stop := max k 0 }) (i := 5) (v := (eN (max k 0))) hN s_ti3 rfl rfl rfl (by decide) (fun _ => rfl) ⟨hN.ok.d, hN.ok.b, hN.ok.p, hN.ok.nx, (by have := hN.ok.st; show max k 0 < 2 ^ 62; omega), hN.ok.dl, hN.ok.nl, hN.ok.ml⟩ ⟨rfl, rfl, rfl, rfl, rfl, rfl, rfl⟩) ?_
 rintro _ w23 ⟨a24, o25⟩
 replace a20 := a20.step o25 (fun x hx => hN.dis x ((fun k e => (.inl e)) x hx))
 replace hl := hl.step o25 (subq sub1)
 replace oW := oW.tail o25 (fun k _ e => (fun k h => h) k e)
 replace hN := a24
 refine wI (d_nilCheck (b := L.bN) (o := 0) rfl) ?_
 refine wI (d_fieldAddr (j := 6) Try.underlying81 rfl s_ti36 (by decide) rfl rfl) ?_
 have f26 : Ps (Ors L.S (Old W.heap.size)) (Seq kB (([] : List UInt8) ++ l) u17) w23 := Ow.seq a20 (fun b_ hb_ => (not_ors (hN.dis b_ ((fun k e => (.inl e)) b_ hb_)) (old_q q_oW_row15 b_ hb_)))
 replace hl := Ps.less (Y := (Ors L.S No)) hl (xx_skip (xx_ors xx_id))
 replace hN := Rd.less (Y := X) hN (xx_skip xx_id)
 refine wO (rd_stm (Y := (Ors L.S X)) (l := (([] : List UInt8) ++ l)) hN ox_s s_ti36 rfl rfl (f26.less (Y := (Ors L.S X)) (xx_ors (lt_old hX))) gl) ?_
 rintro _ w27 ⟨a28, o29⟩
 replace hl := hl.step o29 sub1
 replace f26 := f26.step o29 sub1
 replace oW := oW.tail o29 (fun k _ e => (fun k h => h) k e)
 replace hN := a28
 refine wD ?_
 refine to_ret ?_
 refine leave0 (v := (Value.tuple #[])) (res0 Try.results58) ?_
 exact ⟨hN, oW⟩
theorem refPower_ok (L : RL) (s : NS) {X : Nat → Prop} (W : World) (hN : Rd L s X W) :
    CW Try.prog 34 #[(ptr L.bN 0)] W (Rt (fun u w => Rd L s.powerX X w ∧ Only L.S W w)) := by
 have oW : Only L.S W W := Only.refl _ _
 refine enter (al := [(ptr L.bN 0)]) (k := 7) (l := ([(ptr L.bN 0)] ++ (us 7))) Try.func34 rfl Try.ntmps34 rfl rfl ?_
 refine pL ?_
 refine wI (d_move rfl) ?_
 refine wI (d_move rfl) ?_
 refine wI (d_nilCheck (b := L.bN) (o := 0) rfl) ?_
 refine wI (d_fieldAddr (j := 5) Try.underlying81 rfl s_ti3 (by decide) rfl rfl) ?_
 refine wO (rd_st (s' := { s with stop := 0 }) (i := 5) (v := (eN 0)) hN s_ti3 rfl rfl rfl (by decide) (fun _ => rfl) ⟨hN.ok.d, hN.ok.b, hN.ok.p, hN.ok.nx, by show 0 < 2 ^ 62; decide, hN.ok.dl, hN.ok.nl, hN.ok.ml⟩ ⟨rfl, rfl, rfl, rfl, rfl, rfl, rfl⟩) ?_
 rintro _ w11 ⟨a12, o13⟩
 replace oW := oW.tail o13 (fun k _ e => (fun k h => h) k e)
 replace hN := a12
 refine wI (d_nilCheck (b := L.bN) (o := 0) rfl) ?_
 refine wI (d_fieldAddr (j := 7) Try.underlying81 rfl s_ti4 (by decide) rfl rfl) ?_
 refine wO (rd_st (s' := { { s with stop := 0 } with dead := false }) (i := 7) (v := vF) hN s_ti4 rfl rfl rfl (by decide) (fun _ => rfl) ⟨hN.ok.d, hN.ok.b, hN.ok.p, hN.ok.nx, hN.ok.st, hN.ok.dl, hN.ok.nl, hN.ok.ml⟩ ⟨rfl, rfl, rfl, rfl, rfl, rfl, rfl⟩) ?_
 rintro _ w14 ⟨a15, o16⟩
 replace oW := oW.tail o16 (fun k _ e => (fun k h => h) k e)
 replace hN := a15
 refine wD ?_
 refine to_ret ?_
 refine leave0 (v := (Value.tuple #[])) (res0 Try.results34) ?_
 exact ⟨hN, oW⟩
end Go.Proofs.YtpamdlnobekihaaF
namespace Go.Proofs.YtpamdlnobekihaaF
open Go Shelf YtpamdlnobekihaaS Ram
def Sm (s t : NS) : Prop := ∃ m, t = { s with mask := m } ∧ (0 < s.stop → m = s.mask)
section
variable {s t : NS} {d b p : Int} {l : List UInt8} {ll : List Int} {k : Nat}
theorem sm_refl (s : NS) : Sm s s := ⟨s.mask, rfl, fun _ => rfl⟩
theorem Sm.gD (h : Sm s t) : t.gD = s.gD := by obtain ⟨m, rfl, _⟩ := h; rfl
theorem Sm.gB (h : Sm s t) : t.gB = s.gB := by obtain ⟨m, rfl, _⟩ := h; rfl
theorem Sm.gP (h : Sm s t) : t.gP = s.gP := by obtain ⟨m, rfl, _⟩ := h; rfl
theorem Sm.nl (h : Sm s t) : t.nl = s.nl := by obtain ⟨m, rfl, _⟩ := h; rfl
theorem Sm.dead (h : Sm s t) : t.dead = s.dead := by obtain ⟨m, rfl, _⟩ := h; rfl
theorem Sm.wrong (h : Sm s t) : t.wrong = s.wrong := by obtain ⟨m, rfl, _⟩ := h; rfl
theorem Sm.ops (h : Sm s t) : t.ops = s.ops := by obtain ⟨m, rfl, _⟩ := h; rfl
theorem Sm.erases (h : Sm s t) (d b : Int) : t.erases d b = s.erases d b := by obtain ⟨m, rfl, _⟩ := h; rfl
theorem Sm.isBad (h : Sm s t) (d b : Int) : t.isBad d b = s.isBad d b := by obtain ⟨m, rfl, _⟩ := h; rfl
theorem Sm.rg (h : Sm s t) (hr : s.Rg) : t.Rg := by intro k x hx; rw [h.nl] at hx; exact hr k x hx
theorem Sm.readR (h : Sm s t) (d b p : Int) : t.askR (t.readOk d b p) = s.askR (s.readOk d b p) := by obtain ⟨m, rfl, _⟩ := h; rfl
theorem Sm.readL (h : Sm s t) (d b p : Int) : t.readL d b p = s.readL d b p := by obtain ⟨m, rfl, _⟩ := h; rfl
theorem Sm.read (h : Sm s t) (d b p : Int) : Sm (s.ask (s.readOk d b p)) (t.ask (t.readOk d b p)) := by
 obtain ⟨m, rfl, hm⟩ := h
 exact ⟨m, rfl, hm⟩
theorem goesR_no (h : ¬ 0 < s.stop) : s.goesR = false := by unfold NS.goesR; rw [if_pos (by omega)]
theorem Sm.prog (h : Sm s t) (d b p : Int) (l : List UInt8) : Sm (s.prog d b p l) (t.prog d b p l) ∧ t.progR d b p l = s.progR d b p l := by
 obtain ⟨m, rfl, hm⟩ := h
 by_cases hs : 0 < s.stop
 ·rw [hm hs]; exact ⟨sm_refl _, rfl⟩
 ·have hg := goesR_no hs
  have hg2 : ({ s with mask := m } : NS).goesR = false := hg
  by_cases hk : s.askR (s.progOk d b p l) = 0
  ·have hk2 : ({ s with mask := m } : NS).askR (({ s with mask := m } : NS).progOk d b p l) = 0 := hk
   obtain ⟨e1, e2⟩ := NS.prog_yes hk hg
   obtain ⟨e3, e4⟩ := NS.prog_yes hk2 hg2
   rw [e1, e2, e3, e4]
   refine ⟨⟨m, rfl, fun h => absurd h ?_⟩, rfl⟩
   show ¬ 0 < (if s.stop < 1 then s.stop else s.stop - 1)
   rw [if_pos (by omega)]; exact hs
  ·have hk2 : ¬ ({ s with mask := m } : NS).askR (({ s with mask := m } : NS).progOk d b p l) = 0 := hk
   obtain ⟨e1, e2⟩ := NS.prog_no hk
   obtain ⟨e3, e4⟩ := NS.prog_no hk2
   rw [e1, e2, e3, e4]
   exact ⟨⟨m, rfl, fun h => absurd h hs⟩, rfl⟩
theorem Sm.erase (h : Sm s t) (d b : Int) : Sm (s.erase d b) (t.erase d b) ∧ t.eraseR d b = s.eraseR d b := by
 obtain ⟨m, rfl, hm⟩ := h
 by_cases hs : 0 < s.stop
 ·rw [hm hs]; exact ⟨sm_refl _, rfl⟩
 ·have hg := goesR_no hs
  have hg2 : ({ s with mask := m } : NS).goesR = false := hg
  by_cases hk : s.askR (s.eraseOk d b) = 0
  ·have hk2 : ({ s with mask := m } : NS).askR (({ s with mask := m } : NS).eraseOk d b) = 0 := hk
   obtain ⟨e1, e2⟩ := NS.erase_yes hk hg
   obtain ⟨e3, e4⟩ := NS.erase_yes hk2 hg2
   rw [e1, e2, e3, e4, hg, hg2]
   refine ⟨⟨m, rfl, fun h => absurd h ?_⟩, rfl⟩
   show ¬ 0 < (if s.stop < 1 then s.stop else s.stop - 1)
   rw [if_pos (by omega)]; exact hs
  ·have hk2 : ¬ ({ s with mask := m } : NS).askR (({ s with mask := m } : NS).eraseOk d b) = 0 := hk
   obtain ⟨e1, e2⟩ := NS.erase_no hk
   obtain ⟨e3, e4⟩ := NS.erase_no hk2
   rw [e1, e2, e3, e4]
   exact ⟨⟨m, rfl, fun h => absurd h hs⟩, rfl⟩
theorem Sm.noise (h : Sm s t) (d b p : Int) (l : List Int) : Sm (s.noise d b p l) (t.noise d b p l) ∧ t.noiseR d b p = s.noiseR d b p := by
 obtain ⟨m, rfl, hm⟩ := h
 refine ⟨?_, rfl⟩
 unfold NS.noise
 have e : ({ s with mask := m } : NS).pageIn d b p = s.pageIn d b p := rfl
 rw [e]
 split
 ·exact ⟨m, rfl, hm⟩
 ·exact ⟨m, rfl, hm⟩
theorem Sm.stopAt (h : Sm s t) (k : Nat) (l : List UInt8) : Sm (s.stopAt k l) (t.stopAt k l) := by
 obtain ⟨m, rfl, hm⟩ := h
 exact ⟨l, rfl, fun _ => rfl⟩
theorem Sm.power (h : Sm s t) : Sm s.power t.powerX := by
 obtain ⟨m, rfl, hm⟩ := h
 exact ⟨m, rfl, fun h => absurd h (by show ¬ 0 < 0; decide)⟩
theorem rg_ask (h : s.Rg) (f : Bool) : (s.ask f).Rg := h
theorem prog_nl (s : NS) (d b p : Int) (l : List UInt8) : (s.prog d b p l).nl = s.nl := by
 unfold NS.prog
 split
 ·rfl
 ·rfl
theorem rg_prog (h : s.Rg) (d b p : Int) (l : List UInt8) : (s.prog d b p l).Rg := by intro k x hx; rw [prog_nl] at hx; exact h k x hx
theorem erase_nl (s : NS) (d b : Int) : (s.erase d b).nl = s.nl := by
 unfold NS.erase
 split
 ·split <;> rfl
 ·rfl
theorem rg_erase (h : s.Rg) (d b : Int) : (s.erase d b).Rg := by intro k x hx; rw [erase_nl] at hx; exact h k x hx
theorem rg_noise (h : s.Rg) (d b p : Int) (hl : ∀ x ∈ ll, -9223372036854775808 ≤ x ∧ x < 9223372036854775808) : (s.noise d b p ll).Rg := by
 unfold NS.noise
 split
 ·intro k x hx
  have hx : x ∈ (if k = s.ix d.toNat b.toNat p.toNat then ll else s.nl k) := hx
  split at hx
  ·exact hl x hx
  ·exact h k x hx
 ·exact h
theorem rg_stop (h : s.Rg) (k : Nat) (l : List UInt8) : (s.stopAt k l).Rg := h
theorem rg_power (h : s.Rg) : s.power.Rg := h
end
end Go.Proofs.YtpamdlnobekihaaF
namespace Go.Proofs.YtpamdlnobekihaaF
open Go
def isBadL (bad : List (Int × Int)) (d b : Nat) : Bool := decide (((d : Int), (b : Int)) ∈ bad)
def goodL (bad : List (Int × Int)) (d b : Nat) : List Nat := (List.range b).filter fun k => !isBadL bad d k
def nMin (bad : List (Int × Int)) (B : Nat) : Nat → Nat
 | 0 => B
 | d + 1 => min (nMin bad B d) (goodL bad d B).length
def supR (bad : List (Int × Int)) (B D i : Nat) : List Nat := (List.range D).map fun d => (goodL bad d B).getD i 0
def supL (bad : List (Int × Int)) (B D : Nat) : List (List Nat) := (List.range (nMin bad B D)).map (supR bad B D)
def supTo (bad : List (Int × Int)) (B i d : Nat) : List Nat := (List.range d).map fun d => (goodL bad d B).getD i 0
def fitsI (x y z : Int) : Bool := decide (6 ≤ x ∧ x ≤ 8 ∧ 8 ≤ y ∧ y ≤ 12 ∧ 4 ≤ z ∧ z ≤ 8)
def gsec (x y z s : Int) : Int := if fitsI x y z = true ∧ 7 ≤ s ∧ s ≤ y then (s - 4) * (z - 2) * (x - 2) / 4 else 0
def gslot (x y z : Int) : Int := if fitsI x y z = true then x - 2 else 0
def spoilTo (B : Nat) (ls : List Int) : Nat → List (Int × Int)
 | 0 => []
 | i + 1 => if (ls.getD i 0 % ((2 * B : Nat) : Int)).toNat < B then spoilTo B ls i ++ [((i : Int), (((ls.getD i 0 % ((2 * B : Nat) : Int)).toNat : Nat) : Int))] else spoilTo B ls i
def spoilL (D B : Nat) (ls : List Int) : List (Int × Int) := spoilTo B ls (min ls.length D)
section
variable {B D i : Nat} {ls : List Int}
theorem spoil_yes (h : (ls.getD i 0 % ((2 * B : Nat) : Int)).toNat < B) : spoilTo B ls i ++ [((i : Int), (((ls.getD i 0 % ((2 * B : Nat) : Int)).toNat : Nat) : Int))] = spoilTo B ls (i + 1) := (if_pos h).symm
theorem spoil_skip (h : ¬ (ls.getD i 0 % ((2 * B : Nat) : Int)).toNat < B) : spoilTo B ls (i + 1) = spoilTo B ls i := if_neg h
theorem spoil_len (B : Nat) (ls : List Int) : ∀ i, (spoilTo B ls i).length ≤ i
 | 0 => Nat.le_refl _
 | i + 1 => by
  have := spoil_len B ls i
  unfold spoilTo
  split
  ·rw [List.length_append, List.length_singleton]; omega
  ·omega
theorem spoilL_len (D B : Nat) (ls : List Int) : (spoilL D B ls).length ≤ D := Nat.le_trans (spoil_len _ _ _) (Nat.min_le_right _ _)
end
def clearL (bad : List (Int × Int)) (d b i : Nat) : Bool := !decide (((d : Int), (b : Int)) ∈ bad.take i)
end Go.Proofs.YtpamdlnobekihaaF
namespace Go.Proofs.YtpamdlnobekihaaF
open Go Shelf YtpamdlnobekihaaS Ram
structure AX where
 k : Int
 die : Int
 block : Int
 page : Int
 n : Int
 b : List UInt8
 l : List Int
 vb : Value
 vl : Value
def AX0 : AX := ⟨0, 0, 0, 0, 0, [], [], undef, undef⟩
def eAct (x : AX) : List Value := [eI x.k, eI x.die, eI x.block, eI x.page, eI x.n, x.vb, x.vl]
def kAct : Kd AX := ⟨7, fun w p x => (∀ j v, (eAct x)[j]? = some v → w.cell? (p.add j) = some v) ∧ Seq kB x.b x.vb w ∧ Seq kI x.l x.vl w⟩
section
variable {P : Program} {d : Option Tmp} {tt : TypeId} {s : String} {af : Array Edge} {g : Option (Nat × Bool)} {ρ : Operand → Value} {w : World} {t : TypeId} {x : Operand} {bytes f : Nat} {z u : Value} {v : AX} {X : Nat → Prop} {fs : Array Field} {fd : Field}
theorem act_b (h : Ps X (At kAct v u) w) : Ps X (Seq kB v.b v.vb) w := h.imp fun w h => by obtain ⟨p, _, _, h2, _⟩ := h; exact h2
theorem act_l (h : Ps X (At kAct v u) w) : Ps X (Seq kI v.l v.vl) w := h.imp fun w h => by obtain ⟨p, _, _, _, h3⟩ := h; exact h3
theorem d_fieldAct (j : Nat) (y : Value) (ht : P.underlying t = some (.struct fs)) (hf : fs[f]? = some fd) (hz : TI P fd.type 1 bytes z) (ho : fd.offset = j) (hx : ρ x = u) (hA : Ps X (At kAct v u) w) (hy : (eAct v)[j]? = some y) : Does P ⟨d, .fieldAddr t x f, tt, s, af, g⟩ ρ w fun u' w' => Ps X (At (kS eV) y u') w ∧ w = w' := by
 obtain ⟨p, hu, hc, _⟩ := hA.now
 subst hu; subst ho
 refine Does.of_value (v := .pointer (some (p.add fd.offset))) (w' := w) (by simp) ?_ ⟨?_, rfl⟩
 ·simp [execOp, Instr.fieldAt, Instr.sureAddr, fieldPlace, run_underlying ht, hf, hx, hz.size, go_sem]
 ·exact fun w' hw => by
   obtain ⟨p', hp, hc', _⟩ := hA w' hw
   have : p = p' := by injection hp with hp; exact Option.some.inj hp
   subst this
   exact ⟨_, rfl, hc' _ _ hy⟩
theorem d_loadAct {n : Nat} (ht : Ag P t) (hz : TI P t n bytes z) (hx : ρ x = u) (hA : Ps X (At kAct v u) w) (hn : n = 7) : DV P ⟨d, .load t x, tt, s, af, g⟩ ρ w (.agg #[eI v.k, eI v.die, eI v.block, eI v.page, eI v.n, v.vb, v.vl]) := by
 obtain ⟨p, hu, hc, _⟩ := hA.now
 have hl : (eAct v).length = n := hn.symm ▸ rfl
 clear hn
 subst hu
 refine Does.of_value (v := .agg (eAct v).toArray) (w' := w) (by simp) ?_ ⟨rfl, rfl⟩
 have h1 : (loadCells p (eAct v).length).run P w = .ok (eAct v).toArray w := run_loadCells_list (P := P) w _ (eAct v) (fun j y hj => hc j y hj)
 rw [hl] at h1
 have h2 : (loadCellsFrom p 0 n #[]).run P w = .ok (eAct v).toArray w := h1
 simp [execOp, Instr.loadAt, Instr.sureAddr, hx, loadVar, run_isAgg_agg ht, hz.size, go_sem, h2]
end
section
variable {P : Program} {d : Option Tmp} {tt : TypeId} {s : String} {af : Array Edge} {g : Option (Nat × Bool)} {ρ : Operand → Value} {w : World} {t t2 ti : TypeId} {x y : Operand} {a b c : Int} {f0 f1 f2 : Field}
theorem d_neqG3 (ht : P.underlying t = some (.struct #[f0, f1, f2])) (hi : P.underlying ti = some (.int .i64)) (hp : P.stoodInHeld t = false) (hg : P.eqGuardType P.depth t = false) (e0 : f0.name ≠ "_" ∧ f0.type = ti ∧ f0.offset = 0) (e1 : f1.name ≠ "_" ∧ f1.type = ti ∧ f1.offset = 1) (e2 : f2.name ≠ "_" ∧ f2.type = ti ∧ f2.offset = 2)
  (hx : ρ x = .agg #[.int .i64 a, .int .i64 b, .int .i64 c]) (hy : ρ y = .agg #[.int .i64 a, .int .i64 b, .int .i64 c]) : DV P ⟨d, .binOp .neq t x y t2, tt, s, af, g⟩ ρ w (.bool false) := by
 have hf : P.fieldsOf t = #[f0, f1, f2] := by unfold Program.fieldsOf; rw [ht]
 have h1 : (Op.equalIn 10000 t (.agg #[.int .i64 a, .int .i64 b, .int .i64 c]) (.agg #[.int .i64 a, .int .i64 b, .int .i64 c])).run P w = .ok true w := by
  rw [Go.run_equalIn_struct w 9999 t _ _ (by rw [hf]; exact ht) hp, hf]
  have st : ∀ (f : Field) (fs : List Field) (n : Nat) (v : Int), f.name ≠ "_" ∧ f.type = ti ∧ f.offset = n → (#[.int .i64 a, .int .i64 b, .int .i64 c] : Array Value)[n]? = some (.int .i64 v) →
    (Op.eqFields 9999 #[.int .i64 a, .int .i64 b, .int .i64 c] #[.int .i64 a, .int .i64 b, .int .i64 c] (f :: fs)).run P w = (Op.eqFields 9999 #[.int .i64 a, .int .i64 b, .int .i64 c] #[.int .i64 a, .int .i64 b, .int .i64 c] fs).run P w := by
   intro f fs n v he hv
   obtain ⟨h0, h1, h2⟩ := he
   rw [Op.eqFields, if_pos h0]
   simp only [Sem.run_bind, h1, h2, run_part hi hv, Result.andThen_ok, run_equalIn_int 9998 hi]
   simp
  show (Op.eqFields 9999 _ _ [f0, f1, f2]).run P w = _
  rw [st f0 _ 0 a e0 rfl, st f1 _ 1 b e1 rfl, st f2 _ 2 c e2 rfl]
  rfl
 refine Does.of_value (v := .bool false) (w' := w) (by simp) ?_ ⟨rfl, rfl⟩
 have h2 : (binOp .neq t (.agg #[.int .i64 a, .int .i64 b, .int .i64 c]) (.agg #[.int .i64 a, .int .i64 b, .int .i64 c])).run P w = .ok (.bool false) w := by rw [Go.run_neq_struct, h1]; rfl
 have h3 := fun x y => Go.run_eqGuard_agg (P := P) w .neq t x y #[.int .i64 a, .int .i64 b, .int .i64 c] #[.int .i64 a, .int .i64 b, .int .i64 c] hg
 simp [execOp, hx, hy, Sem.run_bind, Result.andThen, h2, h3]
end
theorem cutC {α : Type} {r : Option Nat} {P : Program} {C : Code} {Q : Exit → Act → World → Prop} {l : List Value} {ds : List Deferred} {w : World} (shape : α → (Nat → Value) → List Value) (p : α → Prop)
  (h1 : ∀ Q' : Exit → Act → World → Prop, (∀ x z w', p x → Only No w w' → Q' .normal (fr (shape x z) ds) w') → C.wpIn (Wf r) 0 P Q' (fr l ds) w) (h2 : ∀ x z w', p x → Only No w w' → Q .normal (fr (shape x z) ds) w') : C.wpIn (Wf r) 0 P Q (fr l ds) w := h1 Q h2
theorem spoilTo_in {B : Nat} {ls : List Int} : ∀ {i : Nat}, ∀ x ∈ spoilTo B ls i, (0 ≤ x.1 ∧ x.1 < (i : Int)) ∧ 0 ≤ x.2 ∧ x.2 < (B : Int)
 | 0, x, h => by cases h
 | i + 1, x, h => by
  unfold spoilTo at h
  split at h
  ·rename_i hB
   rcases List.mem_append.1 h with h | h
   ·have := spoilTo_in x h; omega
   ·rw [List.mem_singleton.1 h]
    refine ⟨⟨by show (0 : Int) ≤ (i : Int); omega, by show (i : Int) < _; omega⟩, by show (0 : Int) ≤ (_ : Int); omega, by show (_ : Int) < (B : Int); omega⟩
  ·have := spoilTo_in x h; omega
theorem spoil_in {D B : Nat} {ls : List Int} : ∀ x ∈ spoilL D B ls, inR D B x := fun x hx => by
 obtain ⟨h1, h2⟩ := spoilTo_in x hx
 exact ⟨by omega, h2⟩
theorem newE_spoil (D B : Nat) (ls : List Int) : newE D B (spoilL D B ls) = 0 := newE_ok spoil_in
theorem badS_rg (D B Q : Nat) (l : List (Int × Int)) : (badS (NS.new D B Q fun _ _ => false) l).Rg := by
 intro k x hx
 rw [badS_nl] at hx
 cases hx
end Go.Proofs.YtpamdlnobekihaaF
