/- Part of the proof of the law NandMakes, for all its inputs. -/
import Derived.Test.YtpamdlnobekihaaKNandMakes5
set_option linter.unusedVariables false
set_option linter.unusedSimpArgs false
set_option maxRecDepth 20000
set_option maxHeartbeats 4000000
namespace Go.Proofs.YtpamdlnobekihaaF
open Go Shelf YtpamdlnobekihaaS Ram
theorem nandMakes_false (a b c : Int) (lb : List (Int × Int)) (wh : Int) (u1 : Value) (W : World) (h1 : Ps No (Seq (kA 2 eQ) lb u1) W) :
    CW Try.prog 3 #[(Value.agg #[(eI a), (eI b), (eI c)]), u1, (eI wh), vF] W (Rt (RIs (.bool true) W)) := by
 have oW : Only No W W := Only.refl _ _
 refine enter (al := [(Value.agg #[(eI a), (eI b), (eI c)]), u1, (eI wh), vF]) (k := 110) (l := ([(Value.agg #[(eI a), (eI b), (eI c)]), u1, (eI wh), vF] ++ (us 110))) Try.func3 rfl Try.ntmps3 rfl rfl ?_
 refine wQ (pL ?_)
 refine wO (d_box rfl rfl) ?_
 rintro _ w11 ⟨gb, rfl, g12, a13, o14⟩
 have g_oW_gb : W.heap.size ≤ gb := Nat.le_trans oW.size g12
 replace h1 := h1.new o14 g12
 replace oW := oW.tail0 o14
 refine wI (d_assign rfl) ?_
 refine wD (tN (wQ (wQ (pL ?_))))
 refine wO (d_call (xl := []) (al := []) Try.func11 kr rfl rfl rfl (law7Known_ok _)) ?_
 rintro _ w15 ⟨rfl, o16⟩
 replace h1 := h1.step0 o16
 replace a13 := a13.step0 o16
 replace oW := oW.tail0 o16
 refine wI (d_not rfl rfl) ?_
 refine wD (tN ?_)
 refine cond_f rfl ?_
 refine wK (tN (wQ (wQ (pL ?_))))
 refine wI (d_move rfl) ?_
 refine wF ([(Value.agg #[(eI a), (eI b), (eI c)]), u1, (eI wh), vF, (ptr gb 0), undef, undef, undef, vF] ++ (us 12 ++ [vT, vF, u1] ++ (us 90))) ?_
 refine wI (d_lenS rfl Try.underlying24 rfl h1) ?_
 refine wI (n_gtr (a := lb.length) (b := 30) rfl rfl rfl) ?_
 refine wD (tN ?_)
 refine cond_if rfl (fun c25 => ?_) (fun c25 => ?_)
 ·
  refine wQ (pL ?_)
  refine wI (d_assign rfl) ?_
  refine wD (tN ?_)
  refine forget (fun zf17 => (zs zf17 0 8 ++ [vT] ++ (zs zf17 9 105))) kr (fun zf17 => ?_)
  refine wpIn_ret ?_
  refine then_r ?_
  refine leave0 (v := vT) (res1 Try.results3 rfl) ?_
  exact ⟨rfl, oW⟩
 refine wK (tN (wQ (pL ?_)))
 refine wI (d_assign rfl) ?_
 refine wD (tN (wQ (wQ (pL ?_))))
 refine wI (d_move rfl) ?_
 refine wD (tN ?_)
 refine cond_f rfl ?_
 refine wK (tN ?_)
 refine forget (fun zf18 => ([(zf18 0), u1, (eI wh), vF, (ptr gb 0), (zf18 5), (zf18 6), (zf18 7), (zf18 8), (eN 0)] ++ (zs zf18 10 104))) kr (fun zf18 => ?_)
 refine wQ (pL ?_)
 refine wI (d_buildS (pl := [(0, 1), (1, 1), (2, 1)]) (zs := [(eN 0), (eN 0), (eN 0)]) (cs := [(eN 7), (eN 9), (eN 5)]) Try.underlying23 s_ti23 ⟨_, _, _, _, rfl, s_ti3, ⟨_, _, _, _, rfl, s_ti3, ⟨_, _, _, _, rfl, s_ti3, rfl⟩⟩⟩ rfl (parts_cons (vs := [(eN 7)]) (cells_of (v := (eN 7)) rfl rfl) (parts_cons (vs := [(eN 9)]) (cells_of (v := (eN 9)) rfl rfl) (parts_cons (vs := [(eN 5)]) (cells_of (v := (eN 5)) rfl rfl) parts_nil))) rfl) ?_
 refine wO (d_alloc s_ti23 rfl) ?_
 rintro _ w19 ⟨hb, rfl, g20, a21, o22⟩
 have n_gb_hb : gb ≠ hb := a13.ne g20
 have g_oW_hb : W.heap.size ≤ hb := Nat.le_trans oW.size g20
 replace h1 := h1.new o22 g20
 replace a13 := a13.step0 o22
 replace oW := oW.tail0 o22
 refine wO (d_storeAg (cs' := [(eN 7), (eN 9), (eN 5)]) s_ti23 rfl rfl rfl (oc_cons rfl (oc_cons rfl (oc_cons rfl oc_nil))) a21 (by decide) rfl) ?_
 rintro _ w23 ⟨a24, o25⟩
 replace h1 := h1.stepb o25 in1
 replace a13 := a13.step o25 (fun e => absurd e n_gb_hb)
 replace oW := oW.tailb o25 g_oW_hb
 refine wD (tN (wQ (wQ (pL ?_))))
 refine wI (d_move rfl) ?_
 refine wO (d_call (xl := [.tmp 28, .const (.int .i64 6)]) (al := [(eI wh), (eN 6)]) Try.func12 kr rfl rfl rfl (law7Within_ok wh 6 _ oo oo)) ?_
 rintro _ w26 ⟨rfl, o27⟩
 replace h1 := h1.step0 o27
 replace a13 := a13.step0 o27
 replace a24 := a24.step0 o27
 replace oW := oW.tail0 o27
 refine wF ([(zf18 0), u1, (eI wh), vF, (ptr gb 0), (zf18 5), (zf18 6), (zf18 7), (zf18 8), (eN 0), (ptr hb 0)] ++ (zs zf18 11 16 ++ [(Value.agg #[(eN 7), (eN 9), (eN 5)]), (eI wh), (eN ((wh % ((6 : Nat) : Int)).toNat))] ++ (zs zf18 30 84))) ?_
 refine wD (tN (wB (wQ (pL ?_))))
 refine wI (n_eql (a := ((wh % ((6 : Nat) : Int)).toNat)) (b := 0) rfl rfl rfl) ?_
 refine wI (d_assign rfl) ?_
 refine wD (tN ?_)
 refine cond_if rfl (fun q0 => ?_) (fun q0 => ?_)
 ·
  refine pL ?_
  refine wI (d_move rfl) ?_
  refine wI (n_add (a := 8) (b := 0) rfl rfl oo) ?_
  refine wI (d_fieldAddr (j := 0) Try.underlying23 rfl s_ti3 (by decide) rfl rfl) ?_
  refine wF ([(zf18 0), u1, (eI wh), vF, (ptr gb 0), (zf18 5), (zf18 6), (zf18 7), (zf18 8), (eN 0), (ptr hb 0)] ++ (zs zf18 11 16 ++ [(Value.agg #[(eN 7), (eN 9), (eN 5)]), (eI wh), (eN ((wh % ((6 : Nat) : Int)).toNat)), (Value.bool (decide (((wh % ((6 : Nat) : Int)).toNat) = 0))), (Value.bool (decide (((wh % ((6 : Nat) : Int)).toNat) = 0))), (eN 0), (eN 8), (ptr hb 0)] ++ (zs zf18 35 79))) ?_
  refine wO (d_store s_ti3 rfl rfl rfl a24 (nb rfl) rfl) ?_
  rintro _ w28 ⟨a29, o30⟩
  replace h1 := h1.stepb o30 in1
  replace a13 := a13.step o30 (fun e => absurd e n_gb_hb)
  replace oW := oW.tailb o30 g_oW_hb
  refine wD ?_
  refine inb_n (tN ?_)
  refine forget (fun zf31 => ([(zf31 0), u1, (zf31 2), vF, (ptr gb 0)] ++ (zs zf31 5 5 ++ [(ptr hb 0)] ++ (zs zf31 11 103)))) kr (fun zf31 => ?_)
  refine wQ (pL ?_)
  refine wI (d_loadAg (vs := [(eI a), (eI b), (eI c)]) ⟨_, Try.underlying23, rfl⟩ s_ti23 rfl a13 rfl rfl) ?_
  refine wI (d_move rfl) ?_
  refine wO (d_call (xl := [.tmp 61, .tmp 62]) (al := [(Value.agg #[(eI a), (eI b), (eI c)]), u1]) Try.func13 kr rfl rfl rfl (nandNewA_ok a b c lb u1 _ (Ps.no h1) (by first | omega | simp))) ?_
  rintro _ w32 ⟨u34, rfl, o33⟩
  replace h1 := h1.step0 o33
  replace a13 := a13.step0 o33
  replace a29 := a29.step0 o33
  replace oW := oW.tail0 o33
  refine wI (d_move rfl) ?_
  refine wI (d_extract (v := u34) rfl rfl) ?_
  refine wF ([(zf31 0), u1, (zf31 2), vF, (ptr gb 0)] ++ (zs zf31 5 5 ++ [(ptr hb 0)] ++ (zs zf31 11 49 ++ [(Value.tuple #[u34, (eN (newA a b c lb))]), (Value.agg #[(eI a), (eI b), (eI c)]), u1, (Value.tuple #[u34, (eN (newA a b c lb))]), u34] ++ (zs zf31 65 49)))) ?_
  refine wI (d_extract (v := (eN (newA a b c lb))) rfl rfl) ?_
  refine wI (d_assign rfl) ?_
  refine wI (d_assign rfl) ?_
  refine wD (tN (wQ (pL ?_)))
  refine wI (d_loadAg (vs := [(eI a), (eI b), (eI c)]) ⟨_, Try.underlying23, rfl⟩ s_ti23 rfl a13 rfl rfl) ?_
  refine wI (d_move rfl) ?_
  refine wF ([(zf31 0), u1, (zf31 2), vF, (ptr gb 0)] ++ (zs zf31 5 5 ++ [(ptr hb 0), u34, (eN (newA a b c lb))] ++ (zs zf31 13 47 ++ [(Value.tuple #[u34, (eN (newA a b c lb))]), (Value.agg #[(eI a), (eI b), (eI c)]), u1, (Value.tuple #[u34, (eN (newA a b c lb))]), u34, (eN (newA a b c lb)), (zf31 66), (Value.agg #[(eI a), (eI b), (eI c)]), u1] ++ (zs zf31 69 45)))) ?_
  refine wO (d_call (xl := [.tmp 67, .tmp 68]) (al := [(Value.agg #[(eI a), (eI b), (eI c)]), u1]) Try.func14 kr rfl rfl rfl (ref7NewA_ok a b c lb u1 _ (Ps.no h1) (by first | omega | simp))) ?_
  rintro _ w35 ⟨u37, rfl, o36⟩
  replace h1 := h1.step0 o36
  replace a13 := a13.step0 o36
  replace a29 := a29.step0 o36
  replace oW := oW.tail0 o36
  refine wI (d_move rfl) ?_
  refine wI (d_extract (v := u37) rfl rfl) ?_
  refine wI (d_extract (v := (eN (newA a b c lb))) rfl rfl) ?_
  refine wI (d_assign rfl) ?_
  refine wF ([(zf31 0), u1, (zf31 2), vF, (ptr gb 0)] ++ (zs zf31 5 5 ++ [(ptr hb 0), u34, (eN (newA a b c lb)), u37] ++ (zs zf31 14 46 ++ [(Value.tuple #[u34, (eN (newA a b c lb))]), (Value.agg #[(eI a), (eI b), (eI c)]), u1, (Value.tuple #[u34, (eN (newA a b c lb))]), u34, (eN (newA a b c lb)), (Value.tuple #[u37, (eN (newA a b c lb))]), (Value.agg #[(eI a), (eI b), (eI c)]), u1, (Value.tuple #[u37, (eN (newA a b c lb))]), u37, (eN (newA a b c lb))] ++ (zs zf31 72 42)))) ?_
  refine wI (d_assign rfl) ?_
  refine wD (tN ?_)
  refine forget (fun zf38 => ([(zf38 0), u1, (zf38 2), vF, (ptr gb 0)] ++ (zs zf38 5 5 ++ [(ptr hb 0), (zf38 11), (eN (newA a b c lb)), (zf38 13), (eN (newA a b c lb))] ++ (zs zf38 15 99)))) kr (fun zf38 => ?_)
  refine wQ (pL ?_)
  refine wI (d_loadAg (vs := [(eN 8), (eN 9), (eN 5)]) ⟨_, Try.underlying23, rfl⟩ s_ti23 rfl a29 rfl rfl) ?_
  refine wO (d_call (xl := [.tmp 73, .const (.slice none 0 0)]) (al := [(Value.agg #[(eN 8), (eN 9), (eN 5)]), (Value.slice none 0 0)]) Try.func13 kr rfl rfl rfl (nandNewA_ok 8 9 5 ([] : List (Int × Int)) (Value.slice none 0 0) _ seq_nilA (by first | omega | simp))) ?_
  rintro _ w39 ⟨u41, rfl, o40⟩
  replace h1 := h1.step0 o40
  replace a13 := a13.step0 o40
  replace a29 := a29.step0 o40
  replace oW := oW.tail0 o40
  refine wI (d_move rfl) ?_
  refine wI (d_extract (v := u41) rfl rfl) ?_
  refine wI (d_extract (v := (eN (newA 8 9 5 ([] : List (Int × Int))))) rfl rfl) ?_
  refine wF ([(zf38 0), u1, (zf38 2), vF, (ptr gb 0)] ++ (zs zf38 5 5 ++ [(ptr hb 0), (zf38 11), (eN (newA a b c lb)), (zf38 13), (eN (newA a b c lb))] ++ (zs zf38 15 57 ++ [(Value.tuple #[u41, (eN (newA 8 9 5 ([] : List (Int × Int))))]), (Value.agg #[(eN 8), (eN 9), (eN 5)]), (Value.tuple #[u41, (eN (newA 8 9 5 ([] : List (Int × Int))))]), u41, (eN (newA 8 9 5 ([] : List (Int × Int))))] ++ (zs zf38 77 37)))) ?_
  refine wI (d_assign rfl) ?_
  refine wI (d_assign rfl) ?_
  refine wD (tN (wQ (pL ?_)))
  refine wI (d_loadAg (vs := [(eI a), (eI b), (eI c)]) ⟨_, Try.underlying23, rfl⟩ s_ti23 rfl a13 rfl rfl) ?_
  refine wO (d_call (xl := [.tmp 78]) (al := [(Value.agg #[(eI a), (eI b), (eI c)])]) Try.func15 kr rfl rfl rfl (law7Make_ok a b c _)) ?_
  rintro _ w42 ⟨rfl, o43⟩
  replace h1 := h1.step0 o43
  replace a13 := a13.step0 o43
  replace a29 := a29.step0 o43
  replace oW := oW.tail0 o43
  refine wI (d_move rfl) ?_
  refine wF ([(zf38 0), u1, (zf38 2), vF, (ptr gb 0)] ++ (zs zf38 5 5 ++ [(ptr hb 0), (zf38 11), (eN (newA a b c lb)), (zf38 13), (eN (newA a b c lb)), u41, (eN (newA 8 9 5 ([] : List (Int × Int))))] ++ (zs zf38 17 55 ++ [(Value.tuple #[u41, (eN (newA 8 9 5 ([] : List (Int × Int))))]), (Value.agg #[(eN 8), (eN 9), (eN 5)]), (Value.tuple #[u41, (eN (newA 8 9 5 ([] : List (Int × Int))))]), u41, (eN (newA 8 9 5 ([] : List (Int × Int)))), (zf38 77), (Value.agg #[(eI a), (eI b), (eI c)]), (Value.agg #[(eN (6 + (a % ((3 : Nat) : Int)).toNat)), (eN (8 + (b % ((5 : Nat) : Int)).toNat)), (eN (4 + (c % ((5 : Nat) : Int)).toNat))]), u1] ++ (zs zf38 81 33)))) ?_
  refine wO (d_call (xl := [.tmp 79, .tmp 80]) (al := [(Value.agg #[(eN (6 + (a % ((3 : Nat) : Int)).toNat)), (eN (8 + (b % ((5 : Nat) : Int)).toNat)), (eN (4 + (c % ((5 : Nat) : Int)).toNat))]), u1]) Try.func13 kr rfl rfl rfl (nandNewA_ok ((6 + (a % ((3 : Nat) : Int)).toNat : Nat) : Int) ((8 + (b % ((5 : Nat) : Int)).toNat : Nat) : Int) ((4 + (c % ((5 : Nat) : Int)).toNat : Nat) : Int) lb u1 _ (Ps.no h1) (by first | omega | simp))) ?_
  rintro _ w44 ⟨u46, rfl, o45⟩
  replace h1 := h1.step0 o45
  replace a13 := a13.step0 o45
  replace a29 := a29.step0 o45
  replace oW := oW.tail0 o45
  refine wI (d_move rfl) ?_
  refine wI (d_extract (v := u46) rfl rfl) ?_
  refine wI (d_extract (v := (eN (newA ((6 + (a % ((3 : Nat) : Int)).toNat : Nat) : Int) ((8 + (b % ((5 : Nat) : Int)).toNat : Nat) : Int) ((4 + (c % ((5 : Nat) : Int)).toNat : Nat) : Int) lb))) rfl rfl) ?_
  refine wI (d_assign rfl) ?_
  refine wF ([(zf38 0), u1, (zf38 2), vF, (ptr gb 0)] ++ (zs zf38 5 5 ++ [(ptr hb 0), (zf38 11), (eN (newA a b c lb)), (zf38 13), (eN (newA a b c lb)), u41, (eN (newA 8 9 5 ([] : List (Int × Int)))), u46] ++ (zs zf38 18 54 ++ [(Value.tuple #[u41, (eN (newA 8 9 5 ([] : List (Int × Int))))]), (Value.agg #[(eN 8), (eN 9), (eN 5)]), (Value.tuple #[u41, (eN (newA 8 9 5 ([] : List (Int × Int))))]), u41, (eN (newA 8 9 5 ([] : List (Int × Int)))), (Value.tuple #[u46, (eN (newA ((6 + (a % ((3 : Nat) : Int)).toNat : Nat) : Int) ((8 + (b % ((5 : Nat) : Int)).toNat : Nat) : Int) ((4 + (c % ((5 : Nat) : Int)).toNat : Nat) : Int) lb))]), (Value.agg #[(eI a), (eI b), (eI c)]), (Value.agg #[(eN (6 + (a % ((3 : Nat) : Int)).toNat)), (eN (8 + (b % ((5 : Nat) : Int)).toNat)), (eN (4 + (c % ((5 : Nat) : Int)).toNat))]), u1, (Value.tuple #[u46, (eN (newA ((6 + (a % ((3 : Nat) : Int)).toNat : Nat) : Int) ((8 + (b % ((5 : Nat) : Int)).toNat : Nat) : Int) ((4 + (c % ((5 : Nat) : Int)).toNat : Nat) : Int) lb))]), u46, (eN (newA ((6 + (a % ((3 : Nat) : Int)).toNat : Nat) : Int) ((8 + (b % ((5 : Nat) : Int)).toNat : Nat) : Int) ((4 + (c % ((5 : Nat) : Int)).toNat : Nat) : Int) lb))] ++ (zs zf38 84 30)))) ?_
  refine wI (d_assign rfl) ?_
  refine wD (tN ?_)
  refine forget (fun zf47 => ([(zf47 0), u1, (zf47 2), vF, (ptr gb 0)] ++ (zs zf47 5 7 ++ [(eN (newA a b c lb)), (zf47 13), (eN (newA a b c lb)), (zf47 15), (eN (newA 8 9 5 ([] : List (Int × Int)))), (zf47 17), (eN (newA ((6 + (a % ((3 : Nat) : Int)).toNat : Nat) : Int) ((8 + (b % ((5 : Nat) : Int)).toNat : Nat) : Int) ((4 + (c % ((5 : Nat) : Int)).toNat : Nat) : Int) lb))] ++ (zs zf47 19 95)))) kr (fun zf47 => ?_)
  refine wQ (pL ?_)
  refine wI (d_loadAg (vs := [(eI a), (eI b), (eI c)]) ⟨_, Try.underlying23, rfl⟩ s_ti23 rfl a13 rfl rfl) ?_
  refine wO (d_call (xl := [.tmp 85]) (al := [(Value.agg #[(eI a), (eI b), (eI c)])]) Try.func15 kr rfl rfl rfl (law7Make_ok a b c _)) ?_
  rintro _ w48 ⟨rfl, o49⟩
  replace h1 := h1.step0 o49
  replace a13 := a13.step0 o49
  replace a29 := a29.step0 o49
  replace oW := oW.tail0 o49
  refine wI (d_move rfl) ?_
  refine wO (d_call (xl := [.tmp 86, .tmp 87]) (al := [(Value.agg #[(eN (6 + (a % ((3 : Nat) : Int)).toNat)), (eN (8 + (b % ((5 : Nat) : Int)).toNat)), (eN (4 + (c % ((5 : Nat) : Int)).toNat))]), u1]) Try.func14 kr rfl rfl rfl (ref7NewA_ok ((6 + (a % ((3 : Nat) : Int)).toNat : Nat) : Int) ((8 + (b % ((5 : Nat) : Int)).toNat : Nat) : Int) ((4 + (c % ((5 : Nat) : Int)).toNat : Nat) : Int) lb u1 _ (Ps.no h1) (by first | omega | simp))) ?_
  rintro _ w50 ⟨u52, rfl, o51⟩
  replace h1 := h1.step0 o51
  replace a13 := a13.step0 o51
  replace a29 := a29.step0 o51
  replace oW := oW.tail0 o51
  refine wI (d_move rfl) ?_
  refine wF ([(zf47 0), u1, (zf47 2), vF, (ptr gb 0)] ++ (zs zf47 5 7 ++ [(eN (newA a b c lb)), (zf47 13), (eN (newA a b c lb)), (zf47 15), (eN (newA 8 9 5 ([] : List (Int × Int)))), (zf47 17), (eN (newA ((6 + (a % ((3 : Nat) : Int)).toNat : Nat) : Int) ((8 + (b % ((5 : Nat) : Int)).toNat : Nat) : Int) ((4 + (c % ((5 : Nat) : Int)).toNat : Nat) : Int) lb))] ++ (zs zf47 19 65 ++ [(Value.tuple #[u52, (eN (newA ((6 + (a % ((3 : Nat) : Int)).toNat : Nat) : Int) ((8 + (b % ((5 : Nat) : Int)).toNat : Nat) : Int) ((4 + (c % ((5 : Nat) : Int)).toNat : Nat) : Int) lb))]), (Value.agg #[(eI a), (eI b), (eI c)]), (Value.agg #[(eN (6 + (a % ((3 : Nat) : Int)).toNat)), (eN (8 + (b % ((5 : Nat) : Int)).toNat)), (eN (4 + (c % ((5 : Nat) : Int)).toNat))]), u1, (Value.tuple #[u52, (eN (newA ((6 + (a % ((3 : Nat) : Int)).toNat : Nat) : Int) ((8 + (b % ((5 : Nat) : Int)).toNat : Nat) : Int) ((4 + (c % ((5 : Nat) : Int)).toNat : Nat) : Int) lb))])] ++ (zs zf47 89 25)))) ?_
  refine wI (d_extract (v := u52) rfl rfl) ?_
  refine wI (d_extract (v := (eN (newA ((6 + (a % ((3 : Nat) : Int)).toNat : Nat) : Int) ((8 + (b % ((5 : Nat) : Int)).toNat : Nat) : Int) ((4 + (c % ((5 : Nat) : Int)).toNat : Nat) : Int) lb))) rfl rfl) ?_
  refine wI (d_assign rfl) ?_
  refine wI (d_assign rfl) ?_
  refine wD (tN ?_)
  refine forget (fun zf53 => ([(zf53 0), (zf53 1), (zf53 2), vF] ++ (zs zf53 4 8 ++ [(eN (newA a b c lb)), (zf53 13), (eN (newA a b c lb)), (zf53 15), (eN (newA 8 9 5 ([] : List (Int × Int)))), (zf53 17), (eN (newA ((6 + (a % ((3 : Nat) : Int)).toNat : Nat) : Int) ((8 + (b % ((5 : Nat) : Int)).toNat : Nat) : Int) ((4 + (c % ((5 : Nat) : Int)).toNat : Nat) : Int) lb)), (zf53 19), (eN (newA ((6 + (a % ((3 : Nat) : Int)).toNat : Nat) : Int) ((8 + (b % ((5 : Nat) : Int)).toNat : Nat) : Int) ((4 + (c % ((5 : Nat) : Int)).toNat : Nat) : Int) lb))] ++ (zs zf53 21 93)))) kr (fun zf53 => ?_)
  refine wQ (pL ?_)
  refine wI (d_move rfl) ?_
  refine wI (d_move rfl) ?_
  refine wI (n_eql (a := (newA a b c lb)) (b := (newA a b c lb)) rfl rfl (decide_eq_true rfl)) ?_
  refine wI (d_move rfl) ?_
  refine wG (d_move rfl) ?_
  refine wF ([(zf53 0), (zf53 1), (zf53 2), vF] ++ (zs zf53 4 8 ++ [(eN (newA a b c lb)), (zf53 13), (eN (newA a b c lb)), (zf53 15), (eN (newA 8 9 5 ([] : List (Int × Int)))), (zf53 17), (eN (newA ((6 + (a % ((3 : Nat) : Int)).toNat : Nat) : Int) ((8 + (b % ((5 : Nat) : Int)).toNat : Nat) : Int) ((4 + (c % ((5 : Nat) : Int)).toNat : Nat) : Int) lb)), (zf53 19), (eN (newA ((6 + (a % ((3 : Nat) : Int)).toNat : Nat) : Int) ((8 + (b % ((5 : Nat) : Int)).toNat : Nat) : Int) ((4 + (c % ((5 : Nat) : Int)).toNat : Nat) : Int) lb))] ++ (zs zf53 21 70 ++ [(eN (newA a b c lb)), (eN (newA a b c lb)), vT, vT, (eN (newA ((6 + (a % ((3 : Nat) : Int)).toNat : Nat) : Int) ((8 + (b % ((5 : Nat) : Int)).toNat : Nat) : Int) ((4 + (c % ((5 : Nat) : Int)).toNat : Nat) : Int) lb))] ++ (zs zf53 96 18)))) ?_
  refine wG (d_move rfl) ?_
  refine wG (n_eql (a := (newA ((6 + (a % ((3 : Nat) : Int)).toNat : Nat) : Int) ((8 + (b % ((5 : Nat) : Int)).toNat : Nat) : Int) ((4 + (c % ((5 : Nat) : Int)).toNat : Nat) : Int) lb)) (b := (newA ((6 + (a % ((3 : Nat) : Int)).toNat : Nat) : Int) ((8 + (b % ((5 : Nat) : Int)).toNat : Nat) : Int) ((4 + (c % ((5 : Nat) : Int)).toNat : Nat) : Int) lb)) rfl rfl (decide_eq_true rfl)) ?_
  refine wI (d_pick (b := true) (v := vT) rfl rfl) ?_
  refine wI (d_move rfl) ?_
  refine wG (d_move rfl) ?_
  refine wF ([(zf53 0), (zf53 1), (zf53 2), vF] ++ (zs zf53 4 8 ++ [(eN (newA a b c lb)), (zf53 13), (eN (newA a b c lb)), (zf53 15), (eN (newA 8 9 5 ([] : List (Int × Int)))), (zf53 17), (eN (newA ((6 + (a % ((3 : Nat) : Int)).toNat : Nat) : Int) ((8 + (b % ((5 : Nat) : Int)).toNat : Nat) : Int) ((4 + (c % ((5 : Nat) : Int)).toNat : Nat) : Int) lb)), (zf53 19), (eN (newA ((6 + (a % ((3 : Nat) : Int)).toNat : Nat) : Int) ((8 + (b % ((5 : Nat) : Int)).toNat : Nat) : Int) ((4 + (c % ((5 : Nat) : Int)).toNat : Nat) : Int) lb))] ++ (zs zf53 21 70 ++ [(eN (newA a b c lb)), (eN (newA a b c lb)), vT, vT, (eN (newA ((6 + (a % ((3 : Nat) : Int)).toNat : Nat) : Int) ((8 + (b % ((5 : Nat) : Int)).toNat : Nat) : Int) ((4 + (c % ((5 : Nat) : Int)).toNat : Nat) : Int) lb)), (eN (newA ((6 + (a % ((3 : Nat) : Int)).toNat : Nat) : Int) ((8 + (b % ((5 : Nat) : Int)).toNat : Nat) : Int) ((4 + (c % ((5 : Nat) : Int)).toNat : Nat) : Int) lb)), vT, vT, vT, (eN (newA 8 9 5 ([] : List (Int × Int))))] ++ (zs zf53 101 13)))) ?_
  refine wG (n_eql (a := (newA 8 9 5 ([] : List (Int × Int)))) (b := 0) rfl rfl (decide_eq_true (newA_nil (by unfold fitsA; omega)))) ?_
  refine wG (d_move rfl) ?_
  refine wG (d_not rfl rfl) ?_
  refine wG (d_beql Try.underlying4 rfl rfl rfl) ?_
  refine wI (d_pick (b := true) (v := vT) rfl rfl) ?_
  refine wF ([(zf53 0), (zf53 1), (zf53 2), vF] ++ (zs zf53 4 8 ++ [(eN (newA a b c lb)), (zf53 13), (eN (newA a b c lb)), (zf53 15), (eN (newA 8 9 5 ([] : List (Int × Int)))), (zf53 17), (eN (newA ((6 + (a % ((3 : Nat) : Int)).toNat : Nat) : Int) ((8 + (b % ((5 : Nat) : Int)).toNat : Nat) : Int) ((4 + (c % ((5 : Nat) : Int)).toNat : Nat) : Int) lb)), (zf53 19), (eN (newA ((6 + (a % ((3 : Nat) : Int)).toNat : Nat) : Int) ((8 + (b % ((5 : Nat) : Int)).toNat : Nat) : Int) ((4 + (c % ((5 : Nat) : Int)).toNat : Nat) : Int) lb))] ++ (zs zf53 21 70 ++ [(eN (newA a b c lb)), (eN (newA a b c lb)), vT, vT, (eN (newA ((6 + (a % ((3 : Nat) : Int)).toNat : Nat) : Int) ((8 + (b % ((5 : Nat) : Int)).toNat : Nat) : Int) ((4 + (c % ((5 : Nat) : Int)).toNat : Nat) : Int) lb)), (eN (newA ((6 + (a % ((3 : Nat) : Int)).toNat : Nat) : Int) ((8 + (b % ((5 : Nat) : Int)).toNat : Nat) : Int) ((4 + (c % ((5 : Nat) : Int)).toNat : Nat) : Int) lb)), vT, vT, vT, (eN (newA 8 9 5 ([] : List (Int × Int)))), vT, vF, vT, vT, vT] ++ (zs zf53 106 8)))) ?_
  refine wI (d_move rfl) ?_
  refine wG (d_move rfl) ?_
  refine wG (d_not rfl rfl) ?_
  refine wG (d_move rfl) ?_
  refine wX ?_
  refine wF ([(zf53 0), (zf53 1), (zf53 2), vF] ++ (zs zf53 4 8 ++ [(eN (newA a b c lb)), (zf53 13), (eN (newA a b c lb)), (zf53 15), (eN (newA 8 9 5 ([] : List (Int × Int)))), (zf53 17), (eN (newA ((6 + (a % ((3 : Nat) : Int)).toNat : Nat) : Int) ((8 + (b % ((5 : Nat) : Int)).toNat : Nat) : Int) ((4 + (c % ((5 : Nat) : Int)).toNat : Nat) : Int) lb)), (zf53 19), (eN (newA ((6 + (a % ((3 : Nat) : Int)).toNat : Nat) : Int) ((8 + (b % ((5 : Nat) : Int)).toNat : Nat) : Int) ((4 + (c % ((5 : Nat) : Int)).toNat : Nat) : Int) lb))] ++ (zs zf53 21 70 ++ [(eN (newA a b c lb)), (eN (newA a b c lb)), vT, vT, (eN (newA ((6 + (a % ((3 : Nat) : Int)).toNat : Nat) : Int) ((8 + (b % ((5 : Nat) : Int)).toNat : Nat) : Int) ((4 + (c % ((5 : Nat) : Int)).toNat : Nat) : Int) lb)), (eN (newA ((6 + (a % ((3 : Nat) : Int)).toNat : Nat) : Int) ((8 + (b % ((5 : Nat) : Int)).toNat : Nat) : Int) ((4 + (c % ((5 : Nat) : Int)).toNat : Nat) : Int) lb)), vT, vT, vT, (eN (newA 8 9 5 ([] : List (Int × Int)))), vT, vF, vT, vT, vT, vT, vF, vT, vT, undef, (zf53 111), (zf53 112), (zf53 113)]))) ?_
  refine wX ?_
  refine wG (d_pick (b := true) (v := vT) rfl rfl) ?_
  refine wI (d_pick (b := true) (v := vT) rfl rfl) ?_
  refine wI (d_assign rfl) ?_
  refine wD (tN ?_)
  refine forget (fun zf54 => (zs zf54 0 8 ++ [vT] ++ (zs zf54 9 105))) kr (fun zf54 => ?_)
  refine wpIn_ret ?_
  refine leave0 (v := vT) (res1 Try.results3 rfl) ?_
  exact ⟨rfl, oW⟩
 refine wQ (pL ?_)
 refine wI (n_eql (a := ((wh % ((6 : Nat) : Int)).toNat)) (b := 1) rfl rfl rfl) ?_
 refine wI (d_assign rfl) ?_
 refine wD (tN ?_)
 refine cond_if rfl (fun q1 => ?_) (fun q1 => ?_)
 ·
  refine pL ?_
  refine wI (d_move rfl) ?_
  refine wF ([(zf18 0), u1, (eI wh), vF, (ptr gb 0), (zf18 5), (zf18 6), (zf18 7), (zf18 8), (eN 0), (ptr hb 0)] ++ (zs zf18 11 16 ++ [(Value.agg #[(eN 7), (eN 9), (eN 5)]), (eI wh), (eN ((wh % ((6 : Nat) : Int)).toNat)), (Value.bool (decide (((wh % ((6 : Nat) : Int)).toNat) = 0))), (Value.bool (decide (((wh % ((6 : Nat) : Int)).toNat) = 0))), (zf18 32), (zf18 33), (zf18 34), (Value.bool (decide (((wh % ((6 : Nat) : Int)).toNat) = 1))), (Value.bool (decide (((wh % ((6 : Nat) : Int)).toNat) = 1))), (eN 0)] ++ (zs zf18 38 76))) ?_
  refine wI (n_sub (a := 6) (b := 0) rfl rfl oo oo) ?_
  refine wI (d_fieldAddr (j := 0) Try.underlying23 rfl s_ti3 (by decide) rfl rfl) ?_
  refine wO (d_store s_ti3 rfl rfl rfl a24 (nb rfl) rfl) ?_
  rintro _ w55 ⟨a56, o57⟩
  replace h1 := h1.stepb o57 in1
  replace a13 := a13.step o57 (fun e => absurd e n_gb_hb)
  replace oW := oW.tailb o57 g_oW_hb
  refine wD ?_
  refine inb_n (tN ?_)
  refine forget (fun zf58 => ([(zf58 0), u1, (zf58 2), vF, (ptr gb 0)] ++ (zs zf58 5 5 ++ [(ptr hb 0)] ++ (zs zf58 11 103)))) kr (fun zf58 => ?_)
  refine wQ (pL ?_)
  refine wI (d_loadAg (vs := [(eI a), (eI b), (eI c)]) ⟨_, Try.underlying23, rfl⟩ s_ti23 rfl a13 rfl rfl) ?_
  refine wI (d_move rfl) ?_
  refine wO (d_call (xl := [.tmp 61, .tmp 62]) (al := [(Value.agg #[(eI a), (eI b), (eI c)]), u1]) Try.func13 kr rfl rfl rfl (nandNewA_ok a b c lb u1 _ (Ps.no h1) (by first | omega | simp))) ?_
  rintro _ w59 ⟨u61, rfl, o60⟩
  replace h1 := h1.step0 o60
  replace a13 := a13.step0 o60
  replace a56 := a56.step0 o60
  replace oW := oW.tail0 o60
  refine wI (d_move rfl) ?_
  refine wI (d_extract (v := u61) rfl rfl) ?_
  refine wF ([(zf58 0), u1, (zf58 2), vF, (ptr gb 0)] ++ (zs zf58 5 5 ++ [(ptr hb 0)] ++ (zs zf58 11 49 ++ [(Value.tuple #[u61, (eN (newA a b c lb))]), (Value.agg #[(eI a), (eI b), (eI c)]), u1, (Value.tuple #[u61, (eN (newA a b c lb))]), u61] ++ (zs zf58 65 49)))) ?_
  refine wI (d_extract (v := (eN (newA a b c lb))) rfl rfl) ?_
  refine wI (d_assign rfl) ?_
  refine wI (d_assign rfl) ?_
  refine wD (tN (wQ (pL ?_)))
  refine wI (d_loadAg (vs := [(eI a), (eI b), (eI c)]) ⟨_, Try.underlying23, rfl⟩ s_ti23 rfl a13 rfl rfl) ?_
  refine wI (d_move rfl) ?_
  refine wF ([(zf58 0), u1, (zf58 2), vF, (ptr gb 0)] ++ (zs zf58 5 5 ++ [(ptr hb 0), u61, (eN (newA a b c lb))] ++ (zs zf58 13 47 ++ [(Value.tuple #[u61, (eN (newA a b c lb))]), (Value.agg #[(eI a), (eI b), (eI c)]), u1, (Value.tuple #[u61, (eN (newA a b c lb))]), u61, (eN (newA a b c lb)), (zf58 66), (Value.agg #[(eI a), (eI b), (eI c)]), u1] ++ (zs zf58 69 45)))) ?_
  refine wO (d_call (xl := [.tmp 67, .tmp 68]) (al := [(Value.agg #[(eI a), (eI b), (eI c)]), u1]) Try.func14 kr rfl rfl rfl (ref7NewA_ok a b c lb u1 _ (Ps.no h1) (by first | omega | simp))) ?_
  rintro _ w62 ⟨u64, rfl, o63⟩
  replace h1 := h1.step0 o63
  replace a13 := a13.step0 o63
  replace a56 := a56.step0 o63
  replace oW := oW.tail0 o63
  refine wI (d_move rfl) ?_
  refine wI (d_extract (v := u64) rfl rfl) ?_
  refine wI (d_extract (v := (eN (newA a b c lb))) rfl rfl) ?_
  refine wI (d_assign rfl) ?_
  refine wF ([(zf58 0), u1, (zf58 2), vF, (ptr gb 0)] ++ (zs zf58 5 5 ++ [(ptr hb 0), u61, (eN (newA a b c lb)), u64] ++ (zs zf58 14 46 ++ [(Value.tuple #[u61, (eN (newA a b c lb))]), (Value.agg #[(eI a), (eI b), (eI c)]), u1, (Value.tuple #[u61, (eN (newA a b c lb))]), u61, (eN (newA a b c lb)), (Value.tuple #[u64, (eN (newA a b c lb))]), (Value.agg #[(eI a), (eI b), (eI c)]), u1, (Value.tuple #[u64, (eN (newA a b c lb))]), u64, (eN (newA a b c lb))] ++ (zs zf58 72 42)))) ?_
  refine wI (d_assign rfl) ?_
  refine wD (tN ?_)
  refine forget (fun zf65 => ([(zf65 0), u1, (zf65 2), vF, (ptr gb 0)] ++ (zs zf65 5 5 ++ [(ptr hb 0), (zf65 11), (eN (newA a b c lb)), (zf65 13), (eN (newA a b c lb))] ++ (zs zf65 15 99)))) kr (fun zf65 => ?_)
  refine wQ (pL ?_)
  refine wI (d_loadAg (vs := [(eN 6), (eN 9), (eN 5)]) ⟨_, Try.underlying23, rfl⟩ s_ti23 rfl a56 rfl rfl) ?_
  refine wO (d_call (xl := [.tmp 73, .const (.slice none 0 0)]) (al := [(Value.agg #[(eN 6), (eN 9), (eN 5)]), (Value.slice none 0 0)]) Try.func13 kr rfl rfl rfl (nandNewA_ok 6 9 5 ([] : List (Int × Int)) (Value.slice none 0 0) _ seq_nilA (by first | omega | simp))) ?_
  rintro _ w66 ⟨u68, rfl, o67⟩
  replace h1 := h1.step0 o67
  replace a13 := a13.step0 o67
  replace a56 := a56.step0 o67
  replace oW := oW.tail0 o67
  refine wI (d_move rfl) ?_
  refine wI (d_extract (v := u68) rfl rfl) ?_
  refine wI (d_extract (v := (eN (newA 6 9 5 ([] : List (Int × Int))))) rfl rfl) ?_
  refine wF ([(zf65 0), u1, (zf65 2), vF, (ptr gb 0)] ++ (zs zf65 5 5 ++ [(ptr hb 0), (zf65 11), (eN (newA a b c lb)), (zf65 13), (eN (newA a b c lb))] ++ (zs zf65 15 57 ++ [(Value.tuple #[u68, (eN (newA 6 9 5 ([] : List (Int × Int))))]), (Value.agg #[(eN 6), (eN 9), (eN 5)]), (Value.tuple #[u68, (eN (newA 6 9 5 ([] : List (Int × Int))))]), u68, (eN (newA 6 9 5 ([] : List (Int × Int))))] ++ (zs zf65 77 37)))) ?_
  refine wI (d_assign rfl) ?_
  refine wI (d_assign rfl) ?_
  refine wD (tN (wQ (pL ?_)))
  refine wI (d_loadAg (vs := [(eI a), (eI b), (eI c)]) ⟨_, Try.underlying23, rfl⟩ s_ti23 rfl a13 rfl rfl) ?_
  refine wO (d_call (xl := [.tmp 78]) (al := [(Value.agg #[(eI a), (eI b), (eI c)])]) Try.func15 kr rfl rfl rfl (law7Make_ok a b c _)) ?_
  rintro _ w69 ⟨rfl, o70⟩
  replace h1 := h1.step0 o70
  replace a13 := a13.step0 o70
  replace a56 := a56.step0 o70
  replace oW := oW.tail0 o70
  refine wI (d_move rfl) ?_
  refine wF ([(zf65 0), u1, (zf65 2), vF, (ptr gb 0)] ++ (zs zf65 5 5 ++ [(ptr hb 0), (zf65 11), (eN (newA a b c lb)), (zf65 13), (eN (newA a b c lb)), u68, (eN (newA 6 9 5 ([] : List (Int × Int))))] ++ (zs zf65 17 55 ++ [(Value.tuple #[u68, (eN (newA 6 9 5 ([] : List (Int × Int))))]), (Value.agg #[(eN 6), (eN 9), (eN 5)]), (Value.tuple #[u68, (eN (newA 6 9 5 ([] : List (Int × Int))))]), u68, (eN (newA 6 9 5 ([] : List (Int × Int)))), (zf65 77), (Value.agg #[(eI a), (eI b), (eI c)]), (Value.agg #[(eN (6 + (a % ((3 : Nat) : Int)).toNat)), (eN (8 + (b % ((5 : Nat) : Int)).toNat)), (eN (4 + (c % ((5 : Nat) : Int)).toNat))]), u1] ++ (zs zf65 81 33)))) ?_
  refine wO (d_call (xl := [.tmp 79, .tmp 80]) (al := [(Value.agg #[(eN (6 + (a % ((3 : Nat) : Int)).toNat)), (eN (8 + (b % ((5 : Nat) : Int)).toNat)), (eN (4 + (c % ((5 : Nat) : Int)).toNat))]), u1]) Try.func13 kr rfl rfl rfl (nandNewA_ok ((6 + (a % ((3 : Nat) : Int)).toNat : Nat) : Int) ((8 + (b % ((5 : Nat) : Int)).toNat : Nat) : Int) ((4 + (c % ((5 : Nat) : Int)).toNat : Nat) : Int) lb u1 _ (Ps.no h1) (by first | omega | simp))) ?_
  rintro _ w71 ⟨u73, rfl, o72⟩
  replace h1 := h1.step0 o72
  replace a13 := a13.step0 o72
  replace a56 := a56.step0 o72
  replace oW := oW.tail0 o72
  refine wI (d_move rfl) ?_
  refine wI (d_extract (v := u73) rfl rfl) ?_
  refine wI (d_extract (v := (eN (newA ((6 + (a % ((3 : Nat) : Int)).toNat : Nat) : Int) ((8 + (b % ((5 : Nat) : Int)).toNat : Nat) : Int) ((4 + (c % ((5 : Nat) : Int)).toNat : Nat) : Int) lb))) rfl rfl) ?_
  refine wI (d_assign rfl) ?_
  refine wF ([(zf65 0), u1, (zf65 2), vF, (ptr gb 0)] ++ (zs zf65 5 5 ++ [(ptr hb 0), (zf65 11), (eN (newA a b c lb)), (zf65 13), (eN (newA a b c lb)), u68, (eN (newA 6 9 5 ([] : List (Int × Int)))), u73] ++ (zs zf65 18 54 ++ [(Value.tuple #[u68, (eN (newA 6 9 5 ([] : List (Int × Int))))]), (Value.agg #[(eN 6), (eN 9), (eN 5)]), (Value.tuple #[u68, (eN (newA 6 9 5 ([] : List (Int × Int))))]), u68, (eN (newA 6 9 5 ([] : List (Int × Int)))), (Value.tuple #[u73, (eN (newA ((6 + (a % ((3 : Nat) : Int)).toNat : Nat) : Int) ((8 + (b % ((5 : Nat) : Int)).toNat : Nat) : Int) ((4 + (c % ((5 : Nat) : Int)).toNat : Nat) : Int) lb))]), (Value.agg #[(eI a), (eI b), (eI c)]), (Value.agg #[(eN (6 + (a % ((3 : Nat) : Int)).toNat)), (eN (8 + (b % ((5 : Nat) : Int)).toNat)), (eN (4 + (c % ((5 : Nat) : Int)).toNat))]), u1, (Value.tuple #[u73, (eN (newA ((6 + (a % ((3 : Nat) : Int)).toNat : Nat) : Int) ((8 + (b % ((5 : Nat) : Int)).toNat : Nat) : Int) ((4 + (c % ((5 : Nat) : Int)).toNat : Nat) : Int) lb))]), u73, (eN (newA ((6 + (a % ((3 : Nat) : Int)).toNat : Nat) : Int) ((8 + (b % ((5 : Nat) : Int)).toNat : Nat) : Int) ((4 + (c % ((5 : Nat) : Int)).toNat : Nat) : Int) lb))] ++ (zs zf65 84 30)))) ?_
  refine wI (d_assign rfl) ?_
  refine wD (tN ?_)
  refine forget (fun zf74 => ([(zf74 0), u1, (zf74 2), vF, (ptr gb 0)] ++ (zs zf74 5 7 ++ [(eN (newA a b c lb)), (zf74 13), (eN (newA a b c lb)), (zf74 15), (eN (newA 6 9 5 ([] : List (Int × Int)))), (zf74 17), (eN (newA ((6 + (a % ((3 : Nat) : Int)).toNat : Nat) : Int) ((8 + (b % ((5 : Nat) : Int)).toNat : Nat) : Int) ((4 + (c % ((5 : Nat) : Int)).toNat : Nat) : Int) lb))] ++ (zs zf74 19 95)))) kr (fun zf74 => ?_)
  refine wQ (pL ?_)
  refine wI (d_loadAg (vs := [(eI a), (eI b), (eI c)]) ⟨_, Try.underlying23, rfl⟩ s_ti23 rfl a13 rfl rfl) ?_
  refine wO (d_call (xl := [.tmp 85]) (al := [(Value.agg #[(eI a), (eI b), (eI c)])]) Try.func15 kr rfl rfl rfl (law7Make_ok a b c _)) ?_
  rintro _ w75 ⟨rfl, o76⟩
  replace h1 := h1.step0 o76
  replace a13 := a13.step0 o76
  replace a56 := a56.step0 o76
  replace oW := oW.tail0 o76
  refine wI (d_move rfl) ?_
  refine wO (d_call (xl := [.tmp 86, .tmp 87]) (al := [(Value.agg #[(eN (6 + (a % ((3 : Nat) : Int)).toNat)), (eN (8 + (b % ((5 : Nat) : Int)).toNat)), (eN (4 + (c % ((5 : Nat) : Int)).toNat))]), u1]) Try.func14 kr rfl rfl rfl (ref7NewA_ok ((6 + (a % ((3 : Nat) : Int)).toNat : Nat) : Int) ((8 + (b % ((5 : Nat) : Int)).toNat : Nat) : Int) ((4 + (c % ((5 : Nat) : Int)).toNat : Nat) : Int) lb u1 _ (Ps.no h1) (by first | omega | simp))) ?_
  rintro _ w77 ⟨u79, rfl, o78⟩
  replace h1 := h1.step0 o78
  replace a13 := a13.step0 o78
  replace a56 := a56.step0 o78
  replace oW := oW.tail0 o78
  refine wI (d_move rfl) ?_
  refine wF ([(zf74 0), u1, (zf74 2), vF, (ptr gb 0)] ++ (zs zf74 5 7 ++ [(eN (newA a b c lb)), (zf74 13), (eN (newA a b c lb)), (zf74 15), (eN (newA 6 9 5 ([] : List (Int × Int)))), (zf74 17), (eN (newA ((6 + (a % ((3 : Nat) : Int)).toNat : Nat) : Int) ((8 + (b % ((5 : Nat) : Int)).toNat : Nat) : Int) ((4 + (c % ((5 : Nat) : Int)).toNat : Nat) : Int) lb))] ++ (zs zf74 19 65 ++ [(Value.tuple #[u79, (eN (newA ((6 + (a % ((3 : Nat) : Int)).toNat : Nat) : Int) ((8 + (b % ((5 : Nat) : Int)).toNat : Nat) : Int) ((4 + (c % ((5 : Nat) : Int)).toNat : Nat) : Int) lb))]), (Value.agg #[(eI a), (eI b), (eI c)]), (Value.agg #[(eN (6 + (a % ((3 : Nat) : Int)).toNat)), (eN (8 + (b % ((5 : Nat) : Int)).toNat)), (eN (4 + (c % ((5 : Nat) : Int)).toNat))]), u1, (Value.tuple #[u79, (eN (newA ((6 + (a % ((3 : Nat) : Int)).toNat : Nat) : Int) ((8 + (b % ((5 : Nat) : Int)).toNat : Nat) : Int) ((4 + (c % ((5 : Nat) : Int)).toNat : Nat) : Int) lb))])] ++ (zs zf74 89 25)))) ?_
  refine wI (d_extract (v := u79) rfl rfl) ?_
  refine wI (d_extract (v := (eN (newA ((6 + (a % ((3 : Nat) : Int)).toNat : Nat) : Int) ((8 + (b % ((5 : Nat) : Int)).toNat : Nat) : Int) ((4 + (c % ((5 : Nat) : Int)).toNat : Nat) : Int) lb))) rfl rfl) ?_
  refine wI (d_assign rfl) ?_
  refine wI (d_assign rfl) ?_
  refine wD (tN ?_)
  refine forget (fun zf80 => ([(zf80 0), (zf80 1), (zf80 2), vF] ++ (zs zf80 4 8 ++ [(eN (newA a b c lb)), (zf80 13), (eN (newA a b c lb)), (zf80 15), (eN (newA 6 9 5 ([] : List (Int × Int)))), (zf80 17), (eN (newA ((6 + (a % ((3 : Nat) : Int)).toNat : Nat) : Int) ((8 + (b % ((5 : Nat) : Int)).toNat : Nat) : Int) ((4 + (c % ((5 : Nat) : Int)).toNat : Nat) : Int) lb)), (zf80 19), (eN (newA ((6 + (a % ((3 : Nat) : Int)).toNat : Nat) : Int) ((8 + (b % ((5 : Nat) : Int)).toNat : Nat) : Int) ((4 + (c % ((5 : Nat) : Int)).toNat : Nat) : Int) lb))] ++ (zs zf80 21 93)))) kr (fun zf80 => ?_)
  refine wQ (pL ?_)
  refine wI (d_move rfl) ?_
  refine wI (d_move rfl) ?_
  refine wI (n_eql (a := (newA a b c lb)) (b := (newA a b c lb)) rfl rfl (decide_eq_true rfl)) ?_
  refine wI (d_move rfl) ?_
  refine wG (d_move rfl) ?_
  refine wF ([(zf80 0), (zf80 1), (zf80 2), vF] ++ (zs zf80 4 8 ++ [(eN (newA a b c lb)), (zf80 13), (eN (newA a b c lb)), (zf80 15), (eN (newA 6 9 5 ([] : List (Int × Int)))), (zf80 17), (eN (newA ((6 + (a % ((3 : Nat) : Int)).toNat : Nat) : Int) ((8 + (b % ((5 : Nat) : Int)).toNat : Nat) : Int) ((4 + (c % ((5 : Nat) : Int)).toNat : Nat) : Int) lb)), (zf80 19), (eN (newA ((6 + (a % ((3 : Nat) : Int)).toNat : Nat) : Int) ((8 + (b % ((5 : Nat) : Int)).toNat : Nat) : Int) ((4 + (c % ((5 : Nat) : Int)).toNat : Nat) : Int) lb))] ++ (zs zf80 21 70 ++ [(eN (newA a b c lb)), (eN (newA a b c lb)), vT, vT, (eN (newA ((6 + (a % ((3 : Nat) : Int)).toNat : Nat) : Int) ((8 + (b % ((5 : Nat) : Int)).toNat : Nat) : Int) ((4 + (c % ((5 : Nat) : Int)).toNat : Nat) : Int) lb))] ++ (zs zf80 96 18)))) ?_
  refine wG (d_move rfl) ?_
  refine wG (n_eql (a := (newA ((6 + (a % ((3 : Nat) : Int)).toNat : Nat) : Int) ((8 + (b % ((5 : Nat) : Int)).toNat : Nat) : Int) ((4 + (c % ((5 : Nat) : Int)).toNat : Nat) : Int) lb)) (b := (newA ((6 + (a % ((3 : Nat) : Int)).toNat : Nat) : Int) ((8 + (b % ((5 : Nat) : Int)).toNat : Nat) : Int) ((4 + (c % ((5 : Nat) : Int)).toNat : Nat) : Int) lb)) rfl rfl (decide_eq_true rfl)) ?_
  refine wI (d_pick (b := true) (v := vT) rfl rfl) ?_
  refine wI (d_move rfl) ?_
  refine wG (d_move rfl) ?_
  refine wF ([(zf80 0), (zf80 1), (zf80 2), vF] ++ (zs zf80 4 8 ++ [(eN (newA a b c lb)), (zf80 13), (eN (newA a b c lb)), (zf80 15), (eN (newA 6 9 5 ([] : List (Int × Int)))), (zf80 17), (eN (newA ((6 + (a % ((3 : Nat) : Int)).toNat : Nat) : Int) ((8 + (b % ((5 : Nat) : Int)).toNat : Nat) : Int) ((4 + (c % ((5 : Nat) : Int)).toNat : Nat) : Int) lb)), (zf80 19), (eN (newA ((6 + (a % ((3 : Nat) : Int)).toNat : Nat) : Int) ((8 + (b % ((5 : Nat) : Int)).toNat : Nat) : Int) ((4 + (c % ((5 : Nat) : Int)).toNat : Nat) : Int) lb))] ++ (zs zf80 21 70 ++ [(eN (newA a b c lb)), (eN (newA a b c lb)), vT, vT, (eN (newA ((6 + (a % ((3 : Nat) : Int)).toNat : Nat) : Int) ((8 + (b % ((5 : Nat) : Int)).toNat : Nat) : Int) ((4 + (c % ((5 : Nat) : Int)).toNat : Nat) : Int) lb)), (eN (newA ((6 + (a % ((3 : Nat) : Int)).toNat : Nat) : Int) ((8 + (b % ((5 : Nat) : Int)).toNat : Nat) : Int) ((4 + (c % ((5 : Nat) : Int)).toNat : Nat) : Int) lb)), vT, vT, vT, (eN (newA 6 9 5 ([] : List (Int × Int))))] ++ (zs zf80 101 13)))) ?_
  refine wG (n_eql (a := (newA 6 9 5 ([] : List (Int × Int)))) (b := 0) rfl rfl (decide_eq_true (newA_nil (by unfold fitsA; omega)))) ?_
  refine wG (d_move rfl) ?_
  refine wG (d_not rfl rfl) ?_
  refine wG (d_beql Try.underlying4 rfl rfl rfl) ?_
  refine wI (d_pick (b := true) (v := vT) rfl rfl) ?_
  refine wF ([(zf80 0), (zf80 1), (zf80 2), vF] ++ (zs zf80 4 8 ++ [(eN (newA a b c lb)), (zf80 13), (eN (newA a b c lb)), (zf80 15), (eN (newA 6 9 5 ([] : List (Int × Int)))), (zf80 17), (eN (newA ((6 + (a % ((3 : Nat) : Int)).toNat : Nat) : Int) ((8 + (b % ((5 : Nat) : Int)).toNat : Nat) : Int) ((4 + (c % ((5 : Nat) : Int)).toNat : Nat) : Int) lb)), (zf80 19), (eN (newA ((6 + (a % ((3 : Nat) : Int)).toNat : Nat) : Int) ((8 + (b % ((5 : Nat) : Int)).toNat : Nat) : Int) ((4 + (c % ((5 : Nat) : Int)).toNat : Nat) : Int) lb))] ++ (zs zf80 21 70 ++ [(eN (newA a b c lb)), (eN (newA a b c lb)), vT, vT, (eN (newA ((6 + (a % ((3 : Nat) : Int)).toNat : Nat) : Int) ((8 + (b % ((5 : Nat) : Int)).toNat : Nat) : Int) ((4 + (c % ((5 : Nat) : Int)).toNat : Nat) : Int) lb)), (eN (newA ((6 + (a % ((3 : Nat) : Int)).toNat : Nat) : Int) ((8 + (b % ((5 : Nat) : Int)).toNat : Nat) : Int) ((4 + (c % ((5 : Nat) : Int)).toNat : Nat) : Int) lb)), vT, vT, vT, (eN (newA 6 9 5 ([] : List (Int × Int)))), vT, vF, vT, vT, vT] ++ (zs zf80 106 8)))) ?_
  refine wI (d_move rfl) ?_
  refine wG (d_move rfl) ?_
  refine wG (d_not rfl rfl) ?_
  refine wG (d_move rfl) ?_
  refine wX ?_
  refine wF ([(zf80 0), (zf80 1), (zf80 2), vF] ++ (zs zf80 4 8 ++ [(eN (newA a b c lb)), (zf80 13), (eN (newA a b c lb)), (zf80 15), (eN (newA 6 9 5 ([] : List (Int × Int)))), (zf80 17), (eN (newA ((6 + (a % ((3 : Nat) : Int)).toNat : Nat) : Int) ((8 + (b % ((5 : Nat) : Int)).toNat : Nat) : Int) ((4 + (c % ((5 : Nat) : Int)).toNat : Nat) : Int) lb)), (zf80 19), (eN (newA ((6 + (a % ((3 : Nat) : Int)).toNat : Nat) : Int) ((8 + (b % ((5 : Nat) : Int)).toNat : Nat) : Int) ((4 + (c % ((5 : Nat) : Int)).toNat : Nat) : Int) lb))] ++ (zs zf80 21 70 ++ [(eN (newA a b c lb)), (eN (newA a b c lb)), vT, vT, (eN (newA ((6 + (a % ((3 : Nat) : Int)).toNat : Nat) : Int) ((8 + (b % ((5 : Nat) : Int)).toNat : Nat) : Int) ((4 + (c % ((5 : Nat) : Int)).toNat : Nat) : Int) lb)), (eN (newA ((6 + (a % ((3 : Nat) : Int)).toNat : Nat) : Int) ((8 + (b % ((5 : Nat) : Int)).toNat : Nat) : Int) ((4 + (c % ((5 : Nat) : Int)).toNat : Nat) : Int) lb)), vT, vT, vT, (eN (newA 6 9 5 ([] : List (Int × Int)))), vT, vF, vT, vT, vT, vT, vF, vT, vT, undef, (zf80 111), (zf80 112), (zf80 113)]))) ?_
  refine wX ?_
  refine wG (d_pick (b := true) (v := vT) rfl rfl) ?_
  refine wI (d_pick (b := true) (v := vT) rfl rfl) ?_
  refine wI (d_assign rfl) ?_
  refine wD (tN ?_)
  refine forget (fun zf81 => (zs zf81 0 8 ++ [vT] ++ (zs zf81 9 105))) kr (fun zf81 => ?_)
  refine wpIn_ret ?_
  refine leave0 (v := vT) (res1 Try.results3 rfl) ?_
  exact ⟨rfl, oW⟩
 refine wQ (pL ?_)
 refine wI (n_eql (a := ((wh % ((6 : Nat) : Int)).toNat)) (b := 2) rfl rfl rfl) ?_
 refine wF ([(zf18 0), u1, (eI wh), vF, (ptr gb 0), (zf18 5), (zf18 6), (zf18 7), (zf18 8), (eN 0), (ptr hb 0)] ++ (zs zf18 11 16 ++ [(Value.agg #[(eN 7), (eN 9), (eN 5)]), (eI wh), (eN ((wh % ((6 : Nat) : Int)).toNat)), (Value.bool (decide (((wh % ((6 : Nat) : Int)).toNat) = 0))), (Value.bool (decide (((wh % ((6 : Nat) : Int)).toNat) = 0))), (zf18 32), (zf18 33), (zf18 34), (Value.bool (decide (((wh % ((6 : Nat) : Int)).toNat) = 1))), (Value.bool (decide (((wh % ((6 : Nat) : Int)).toNat) = 1))), (zf18 37), (zf18 38), (zf18 39), (zf18 40), (Value.bool (decide (((wh % ((6 : Nat) : Int)).toNat) = 2)))] ++ (zs zf18 42 72))) ?_
 refine wI (d_assign rfl) ?_
 refine wD (tN ?_)
 refine forget (fun zf82 => ([(zf82 0), u1, (zf82 2), vF, (ptr gb 0), (zf82 5), (zf82 6), (zf82 7), (zf82 8), (eN 0), (ptr hb 0)] ++ (zs zf82 11 18 ++ [(eN ((wh % ((6 : Nat) : Int)).toNat))] ++ (zs zf82 30 10 ++ [(Value.bool (decide (((wh % ((6 : Nat) : Int)).toNat) = 2)))] ++ (zs zf82 41 73))))) kr (fun zf82 => ?_)
 refine cond_if rfl (fun q2 => ?_) (fun q2 => ?_)
 ·
  refine pL ?_
  refine wI (d_move rfl) ?_
  refine wI (n_add (a := 12) (b := 0) rfl rfl oo) ?_
  refine wI (d_fieldAddr (j := 1) Try.underlying23 rfl s_ti3 (by decide) rfl rfl) ?_
  refine wO (d_store s_ti3 rfl rfl rfl a24 (nb rfl) rfl) ?_
  rintro _ w83 ⟨a84, o85⟩
  replace h1 := h1.stepb o85 in1
  replace a13 := a13.step o85 (fun e => absurd e n_gb_hb)
  replace oW := oW.tailb o85 g_oW_hb
  refine wD ?_
  refine inb_n (tN ?_)
  refine wQ (pL ?_)
  refine wI (d_loadAg (vs := [(eI a), (eI b), (eI c)]) ⟨_, Try.underlying23, rfl⟩ s_ti23 rfl a13 rfl rfl) ?_
  refine wF ([(zf82 0), u1, (zf82 2), vF, (ptr gb 0), (zf82 5), (zf82 6), (zf82 7), (zf82 8), (eN 0), (ptr hb 0)] ++ (zs zf82 11 18 ++ [(eN ((wh % ((6 : Nat) : Int)).toNat))] ++ (zs zf82 30 10 ++ [(Value.bool (decide (((wh % ((6 : Nat) : Int)).toNat) = 2))), (zf82 41), (eN 0), (eN 12), (ptr hb 1)] ++ (zs zf82 45 16 ++ [(Value.agg #[(eI a), (eI b), (eI c)])] ++ (zs zf82 62 52))))) ?_
  refine wI (d_move rfl) ?_
  refine wO (d_call (xl := [.tmp 61, .tmp 62]) (al := [(Value.agg #[(eI a), (eI b), (eI c)]), u1]) Try.func13 kr rfl rfl rfl (nandNewA_ok a b c lb u1 _ (Ps.no h1) (by first | omega | simp))) ?_
  rintro _ w86 ⟨u88, rfl, o87⟩
  replace h1 := h1.step0 o87
  replace a13 := a13.step0 o87
  replace a84 := a84.step0 o87
  replace oW := oW.tail0 o87
  refine wI (d_move rfl) ?_
  refine wI (d_extract (v := u88) rfl rfl) ?_
  refine wI (d_extract (v := (eN (newA a b c lb))) rfl rfl) ?_
  refine wF ([(zf82 0), u1, (zf82 2), vF, (ptr gb 0), (zf82 5), (zf82 6), (zf82 7), (zf82 8), (eN 0), (ptr hb 0)] ++ (zs zf82 11 18 ++ [(eN ((wh % ((6 : Nat) : Int)).toNat))] ++ (zs zf82 30 10 ++ [(Value.bool (decide (((wh % ((6 : Nat) : Int)).toNat) = 2))), (zf82 41), (eN 0), (eN 12), (ptr hb 1)] ++ (zs zf82 45 15 ++ [(Value.tuple #[u88, (eN (newA a b c lb))]), (Value.agg #[(eI a), (eI b), (eI c)]), u1, (Value.tuple #[u88, (eN (newA a b c lb))]), u88, (eN (newA a b c lb))] ++ (zs zf82 66 48))))) ?_
  refine wI (d_assign rfl) ?_
  refine wI (d_assign rfl) ?_
  refine wD (tN ?_)
  refine forget (fun zf89 => ([(zf89 0), u1, (zf89 2), vF, (ptr gb 0)] ++ (zs zf89 5 5 ++ [(ptr hb 0), (zf89 11), (eN (newA a b c lb))] ++ (zs zf89 13 101)))) kr (fun zf89 => ?_)
  refine wQ (pL ?_)
  refine wI (d_loadAg (vs := [(eI a), (eI b), (eI c)]) ⟨_, Try.underlying23, rfl⟩ s_ti23 rfl a13 rfl rfl) ?_
  refine wI (d_move rfl) ?_
  refine wO (d_call (xl := [.tmp 67, .tmp 68]) (al := [(Value.agg #[(eI a), (eI b), (eI c)]), u1]) Try.func14 kr rfl rfl rfl (ref7NewA_ok a b c lb u1 _ (Ps.no h1) (by first | omega | simp))) ?_
  rintro _ w90 ⟨u92, rfl, o91⟩
  replace h1 := h1.step0 o91
  replace a13 := a13.step0 o91
  replace a84 := a84.step0 o91
  replace oW := oW.tail0 o91
  refine wI (d_move rfl) ?_
  refine wI (d_extract (v := u92) rfl rfl) ?_
  refine wF ([(zf89 0), u1, (zf89 2), vF, (ptr gb 0)] ++ (zs zf89 5 5 ++ [(ptr hb 0), (zf89 11), (eN (newA a b c lb))] ++ (zs zf89 13 53 ++ [(Value.tuple #[u92, (eN (newA a b c lb))]), (Value.agg #[(eI a), (eI b), (eI c)]), u1, (Value.tuple #[u92, (eN (newA a b c lb))]), u92] ++ (zs zf89 71 43)))) ?_
  refine wI (d_extract (v := (eN (newA a b c lb))) rfl rfl) ?_
  refine wI (d_assign rfl) ?_
  refine wI (d_assign rfl) ?_
  refine wD (tN (wQ (pL ?_)))
  refine wI (d_loadAg (vs := [(eN 7), (eN 12), (eN 5)]) ⟨_, Try.underlying23, rfl⟩ s_ti23 rfl a84 rfl rfl) ?_
  refine wO (d_call (xl := [.tmp 73, .const (.slice none 0 0)]) (al := [(Value.agg #[(eN 7), (eN 12), (eN 5)]), (Value.slice none 0 0)]) Try.func13 kr rfl rfl rfl (nandNewA_ok 7 12 5 ([] : List (Int × Int)) (Value.slice none 0 0) _ seq_nilA (by first | omega | simp))) ?_
  rintro _ w93 ⟨u95, rfl, o94⟩
  replace h1 := h1.step0 o94
  replace a13 := a13.step0 o94
  replace a84 := a84.step0 o94
  replace oW := oW.tail0 o94
  refine wF ([(zf89 0), u1, (zf89 2), vF, (ptr gb 0)] ++ (zs zf89 5 5 ++ [(ptr hb 0), (zf89 11), (eN (newA a b c lb)), u92, (eN (newA a b c lb))] ++ (zs zf89 15 51 ++ [(Value.tuple #[u92, (eN (newA a b c lb))]), (Value.agg #[(eI a), (eI b), (eI c)]), u1, (Value.tuple #[u92, (eN (newA a b c lb))]), u92, (eN (newA a b c lb)), (zf89 72), (Value.agg #[(eN 7), (eN 12), (eN 5)]), (Value.tuple #[u95, (eN (newA 7 12 5 ([] : List (Int × Int))))])] ++ (zs zf89 75 39)))) ?_
  refine wI (d_move rfl) ?_
  refine wI (d_extract (v := u95) rfl rfl) ?_
  refine wI (d_extract (v := (eN (newA 7 12 5 ([] : List (Int × Int))))) rfl rfl) ?_
  refine wI (d_assign rfl) ?_
  refine wI (d_assign rfl) ?_
  refine wF ([(zf89 0), u1, (zf89 2), vF, (ptr gb 0)] ++ (zs zf89 5 5 ++ [(ptr hb 0), (zf89 11), (eN (newA a b c lb)), u92, (eN (newA a b c lb)), u95, (eN (newA 7 12 5 ([] : List (Int × Int))))] ++ (zs zf89 17 49 ++ [(Value.tuple #[u92, (eN (newA a b c lb))]), (Value.agg #[(eI a), (eI b), (eI c)]), u1, (Value.tuple #[u92, (eN (newA a b c lb))]), u92, (eN (newA a b c lb)), (Value.tuple #[u95, (eN (newA 7 12 5 ([] : List (Int × Int))))]), (Value.agg #[(eN 7), (eN 12), (eN 5)]), (Value.tuple #[u95, (eN (newA 7 12 5 ([] : List (Int × Int))))]), u95, (eN (newA 7 12 5 ([] : List (Int × Int))))] ++ (zs zf89 77 37)))) ?_
  refine wD (tN ?_)
  refine forget (fun zf96 => ([(zf96 0), u1, (zf96 2), vF, (ptr gb 0)] ++ (zs zf96 5 7 ++ [(eN (newA a b c lb)), (zf96 13), (eN (newA a b c lb)), (zf96 15), (eN (newA 7 12 5 ([] : List (Int × Int))))] ++ (zs zf96 17 97)))) kr (fun zf96 => ?_)
  refine wQ (pL ?_)
  refine wI (d_loadAg (vs := [(eI a), (eI b), (eI c)]) ⟨_, Try.underlying23, rfl⟩ s_ti23 rfl a13 rfl rfl) ?_
  refine wO (d_call (xl := [.tmp 78]) (al := [(Value.agg #[(eI a), (eI b), (eI c)])]) Try.func15 kr rfl rfl rfl (law7Make_ok a b c _)) ?_
  rintro _ w97 ⟨rfl, o98⟩
  replace h1 := h1.step0 o98
  replace a13 := a13.step0 o98
  replace a84 := a84.step0 o98
  replace oW := oW.tail0 o98
  refine wI (d_move rfl) ?_
  refine wO (d_call (xl := [.tmp 79, .tmp 80]) (al := [(Value.agg #[(eN (6 + (a % ((3 : Nat) : Int)).toNat)), (eN (8 + (b % ((5 : Nat) : Int)).toNat)), (eN (4 + (c % ((5 : Nat) : Int)).toNat))]), u1]) Try.func13 kr rfl rfl rfl (nandNewA_ok ((6 + (a % ((3 : Nat) : Int)).toNat : Nat) : Int) ((8 + (b % ((5 : Nat) : Int)).toNat : Nat) : Int) ((4 + (c % ((5 : Nat) : Int)).toNat : Nat) : Int) lb u1 _ (Ps.no h1) (by first | omega | simp))) ?_
  rintro _ w99 ⟨u101, rfl, o100⟩
  replace h1 := h1.step0 o100
  replace a13 := a13.step0 o100
  replace a84 := a84.step0 o100
  replace oW := oW.tail0 o100
  refine wI (d_move rfl) ?_
  refine wF ([(zf96 0), u1, (zf96 2), vF, (ptr gb 0)] ++ (zs zf96 5 7 ++ [(eN (newA a b c lb)), (zf96 13), (eN (newA a b c lb)), (zf96 15), (eN (newA 7 12 5 ([] : List (Int × Int))))] ++ (zs zf96 17 60 ++ [(Value.tuple #[u101, (eN (newA ((6 + (a % ((3 : Nat) : Int)).toNat : Nat) : Int) ((8 + (b % ((5 : Nat) : Int)).toNat : Nat) : Int) ((4 + (c % ((5 : Nat) : Int)).toNat : Nat) : Int) lb))]), (Value.agg #[(eI a), (eI b), (eI c)]), (Value.agg #[(eN (6 + (a % ((3 : Nat) : Int)).toNat)), (eN (8 + (b % ((5 : Nat) : Int)).toNat)), (eN (4 + (c % ((5 : Nat) : Int)).toNat))]), u1, (Value.tuple #[u101, (eN (newA ((6 + (a % ((3 : Nat) : Int)).toNat : Nat) : Int) ((8 + (b % ((5 : Nat) : Int)).toNat : Nat) : Int) ((4 + (c % ((5 : Nat) : Int)).toNat : Nat) : Int) lb))])] ++ (zs zf96 82 32)))) ?_
  refine wI (d_extract (v := u101) rfl rfl) ?_
  refine wI (d_extract (v := (eN (newA ((6 + (a % ((3 : Nat) : Int)).toNat : Nat) : Int) ((8 + (b % ((5 : Nat) : Int)).toNat : Nat) : Int) ((4 + (c % ((5 : Nat) : Int)).toNat : Nat) : Int) lb))) rfl rfl) ?_
  refine wI (d_assign rfl) ?_
  refine wI (d_assign rfl) ?_
  refine wD (tN ?_)
  refine forget (fun zf102 => ([(zf102 0), u1, (zf102 2), vF, (ptr gb 0)] ++ (zs zf102 5 7 ++ [(eN (newA a b c lb)), (zf102 13), (eN (newA a b c lb)), (zf102 15), (eN (newA 7 12 5 ([] : List (Int × Int)))), (zf102 17), (eN (newA ((6 + (a % ((3 : Nat) : Int)).toNat : Nat) : Int) ((8 + (b % ((5 : Nat) : Int)).toNat : Nat) : Int) ((4 + (c % ((5 : Nat) : Int)).toNat : Nat) : Int) lb))] ++ (zs zf102 19 95)))) kr (fun zf102 => ?_)
  refine wQ (pL ?_)
  refine wI (d_loadAg (vs := [(eI a), (eI b), (eI c)]) ⟨_, Try.underlying23, rfl⟩ s_ti23 rfl a13 rfl rfl) ?_
  refine wO (d_call (xl := [.tmp 85]) (al := [(Value.agg #[(eI a), (eI b), (eI c)])]) Try.func15 kr rfl rfl rfl (law7Make_ok a b c _)) ?_
  rintro _ w103 ⟨rfl, o104⟩
  replace h1 := h1.step0 o104
  replace a13 := a13.step0 o104
  replace a84 := a84.step0 o104
  replace oW := oW.tail0 o104
  refine wI (d_move rfl) ?_
  refine wO (d_call (xl := [.tmp 86, .tmp 87]) (al := [(Value.agg #[(eN (6 + (a % ((3 : Nat) : Int)).toNat)), (eN (8 + (b % ((5 : Nat) : Int)).toNat)), (eN (4 + (c % ((5 : Nat) : Int)).toNat))]), u1]) Try.func14 kr rfl rfl rfl (ref7NewA_ok ((6 + (a % ((3 : Nat) : Int)).toNat : Nat) : Int) ((8 + (b % ((5 : Nat) : Int)).toNat : Nat) : Int) ((4 + (c % ((5 : Nat) : Int)).toNat : Nat) : Int) lb u1 _ (Ps.no h1) (by first | omega | simp))) ?_
  rintro _ w105 ⟨u107, rfl, o106⟩
  replace h1 := h1.step0 o106
  replace a13 := a13.step0 o106
  replace a84 := a84.step0 o106
  replace oW := oW.tail0 o106
  refine wI (d_move rfl) ?_
  refine wF ([(zf102 0), u1, (zf102 2), vF, (ptr gb 0)] ++ (zs zf102 5 7 ++ [(eN (newA a b c lb)), (zf102 13), (eN (newA a b c lb)), (zf102 15), (eN (newA 7 12 5 ([] : List (Int × Int)))), (zf102 17), (eN (newA ((6 + (a % ((3 : Nat) : Int)).toNat : Nat) : Int) ((8 + (b % ((5 : Nat) : Int)).toNat : Nat) : Int) ((4 + (c % ((5 : Nat) : Int)).toNat : Nat) : Int) lb))] ++ (zs zf102 19 65 ++ [(Value.tuple #[u107, (eN (newA ((6 + (a % ((3 : Nat) : Int)).toNat : Nat) : Int) ((8 + (b % ((5 : Nat) : Int)).toNat : Nat) : Int) ((4 + (c % ((5 : Nat) : Int)).toNat : Nat) : Int) lb))]), (Value.agg #[(eI a), (eI b), (eI c)]), (Value.agg #[(eN (6 + (a % ((3 : Nat) : Int)).toNat)), (eN (8 + (b % ((5 : Nat) : Int)).toNat)), (eN (4 + (c % ((5 : Nat) : Int)).toNat))]), u1, (Value.tuple #[u107, (eN (newA ((6 + (a % ((3 : Nat) : Int)).toNat : Nat) : Int) ((8 + (b % ((5 : Nat) : Int)).toNat : Nat) : Int) ((4 + (c % ((5 : Nat) : Int)).toNat : Nat) : Int) lb))])] ++ (zs zf102 89 25)))) ?_
  refine wI (d_extract (v := u107) rfl rfl) ?_
  refine wI (d_extract (v := (eN (newA ((6 + (a % ((3 : Nat) : Int)).toNat : Nat) : Int) ((8 + (b % ((5 : Nat) : Int)).toNat : Nat) : Int) ((4 + (c % ((5 : Nat) : Int)).toNat : Nat) : Int) lb))) rfl rfl) ?_
  refine wI (d_assign rfl) ?_
  refine wI (d_assign rfl) ?_
  refine wD (tN ?_)
  refine forget (fun zf108 => ([(zf108 0), (zf108 1), (zf108 2), vF] ++ (zs zf108 4 8 ++ [(eN (newA a b c lb)), (zf108 13), (eN (newA a b c lb)), (zf108 15), (eN (newA 7 12 5 ([] : List (Int × Int)))), (zf108 17), (eN (newA ((6 + (a % ((3 : Nat) : Int)).toNat : Nat) : Int) ((8 + (b % ((5 : Nat) : Int)).toNat : Nat) : Int) ((4 + (c % ((5 : Nat) : Int)).toNat : Nat) : Int) lb)), (zf108 19), (eN (newA ((6 + (a % ((3 : Nat) : Int)).toNat : Nat) : Int) ((8 + (b % ((5 : Nat) : Int)).toNat : Nat) : Int) ((4 + (c % ((5 : Nat) : Int)).toNat : Nat) : Int) lb))] ++ (zs zf108 21 93)))) kr (fun zf108 => ?_)
  refine wQ (pL ?_)
  refine wI (d_move rfl) ?_
  refine wI (d_move rfl) ?_
  refine wI (n_eql (a := (newA a b c lb)) (b := (newA a b c lb)) rfl rfl (decide_eq_true rfl)) ?_
  refine wI (d_move rfl) ?_
  refine wG (d_move rfl) ?_
  refine wF ([(zf108 0), (zf108 1), (zf108 2), vF] ++ (zs zf108 4 8 ++ [(eN (newA a b c lb)), (zf108 13), (eN (newA a b c lb)), (zf108 15), (eN (newA 7 12 5 ([] : List (Int × Int)))), (zf108 17), (eN (newA ((6 + (a % ((3 : Nat) : Int)).toNat : Nat) : Int) ((8 + (b % ((5 : Nat) : Int)).toNat : Nat) : Int) ((4 + (c % ((5 : Nat) : Int)).toNat : Nat) : Int) lb)), (zf108 19), (eN (newA ((6 + (a % ((3 : Nat) : Int)).toNat : Nat) : Int) ((8 + (b % ((5 : Nat) : Int)).toNat : Nat) : Int) ((4 + (c % ((5 : Nat) : Int)).toNat : Nat) : Int) lb))] ++ (zs zf108 21 70 ++ [(eN (newA a b c lb)), (eN (newA a b c lb)), vT, vT, (eN (newA ((6 + (a % ((3 : Nat) : Int)).toNat : Nat) : Int) ((8 + (b % ((5 : Nat) : Int)).toNat : Nat) : Int) ((4 + (c % ((5 : Nat) : Int)).toNat : Nat) : Int) lb))] ++ (zs zf108 96 18)))) ?_
  refine wG (d_move rfl) ?_
  refine wG (n_eql (a := (newA ((6 + (a % ((3 : Nat) : Int)).toNat : Nat) : Int) ((8 + (b % ((5 : Nat) : Int)).toNat : Nat) : Int) ((4 + (c % ((5 : Nat) : Int)).toNat : Nat) : Int) lb)) (b := (newA ((6 + (a % ((3 : Nat) : Int)).toNat : Nat) : Int) ((8 + (b % ((5 : Nat) : Int)).toNat : Nat) : Int) ((4 + (c % ((5 : Nat) : Int)).toNat : Nat) : Int) lb)) rfl rfl (decide_eq_true rfl)) ?_
  refine wI (d_pick (b := true) (v := vT) rfl rfl) ?_
  refine wI (d_move rfl) ?_
  refine wG (d_move rfl) ?_
  refine wF ([(zf108 0), (zf108 1), (zf108 2), vF] ++ (zs zf108 4 8 ++ [(eN (newA a b c lb)), (zf108 13), (eN (newA a b c lb)), (zf108 15), (eN (newA 7 12 5 ([] : List (Int × Int)))), (zf108 17), (eN (newA ((6 + (a % ((3 : Nat) : Int)).toNat : Nat) : Int) ((8 + (b % ((5 : Nat) : Int)).toNat : Nat) : Int) ((4 + (c % ((5 : Nat) : Int)).toNat : Nat) : Int) lb)), (zf108 19), (eN (newA ((6 + (a % ((3 : Nat) : Int)).toNat : Nat) : Int) ((8 + (b % ((5 : Nat) : Int)).toNat : Nat) : Int) ((4 + (c % ((5 : Nat) : Int)).toNat : Nat) : Int) lb))] ++ (zs zf108 21 70 ++ [(eN (newA a b c lb)), (eN (newA a b c lb)), vT, vT, (eN (newA ((6 + (a % ((3 : Nat) : Int)).toNat : Nat) : Int) ((8 + (b % ((5 : Nat) : Int)).toNat : Nat) : Int) ((4 + (c % ((5 : Nat) : Int)).toNat : Nat) : Int) lb)), (eN (newA ((6 + (a % ((3 : Nat) : Int)).toNat : Nat) : Int) ((8 + (b % ((5 : Nat) : Int)).toNat : Nat) : Int) ((4 + (c % ((5 : Nat) : Int)).toNat : Nat) : Int) lb)), vT, vT, vT, (eN (newA 7 12 5 ([] : List (Int × Int))))] ++ (zs zf108 101 13)))) ?_
  refine wG (n_eql (a := (newA 7 12 5 ([] : List (Int × Int)))) (b := 0) rfl rfl (decide_eq_true (newA_nil (by unfold fitsA; omega)))) ?_
  refine wG (d_move rfl) ?_
  refine wG (d_not rfl rfl) ?_
  refine wG (d_beql Try.underlying4 rfl rfl rfl) ?_
  refine wI (d_pick (b := true) (v := vT) rfl rfl) ?_
  refine wF ([(zf108 0), (zf108 1), (zf108 2), vF] ++ (zs zf108 4 8 ++ [(eN (newA a b c lb)), (zf108 13), (eN (newA a b c lb)), (zf108 15), (eN (newA 7 12 5 ([] : List (Int × Int)))), (zf108 17), (eN (newA ((6 + (a % ((3 : Nat) : Int)).toNat : Nat) : Int) ((8 + (b % ((5 : Nat) : Int)).toNat : Nat) : Int) ((4 + (c % ((5 : Nat) : Int)).toNat : Nat) : Int) lb)), (zf108 19), (eN (newA ((6 + (a % ((3 : Nat) : Int)).toNat : Nat) : Int) ((8 + (b % ((5 : Nat) : Int)).toNat : Nat) : Int) ((4 + (c % ((5 : Nat) : Int)).toNat : Nat) : Int) lb))] ++ (zs zf108 21 70 ++ [(eN (newA a b c lb)), (eN (newA a b c lb)), vT, vT, (eN (newA ((6 + (a % ((3 : Nat) : Int)).toNat : Nat) : Int) ((8 + (b % ((5 : Nat) : Int)).toNat : Nat) : Int) ((4 + (c % ((5 : Nat) : Int)).toNat : Nat) : Int) lb)), (eN (newA ((6 + (a % ((3 : Nat) : Int)).toNat : Nat) : Int) ((8 + (b % ((5 : Nat) : Int)).toNat : Nat) : Int) ((4 + (c % ((5 : Nat) : Int)).toNat : Nat) : Int) lb)), vT, vT, vT, (eN (newA 7 12 5 ([] : List (Int × Int)))), vT, vF, vT, vT, vT] ++ (zs zf108 106 8)))) ?_
  refine wI (d_move rfl) ?_
  refine wG (d_move rfl) ?_
  refine wG (d_not rfl rfl) ?_
  refine wG (d_move rfl) ?_
  refine wX ?_
  refine wF ([(zf108 0), (zf108 1), (zf108 2), vF] ++ (zs zf108 4 8 ++ [(eN (newA a b c lb)), (zf108 13), (eN (newA a b c lb)), (zf108 15), (eN (newA 7 12 5 ([] : List (Int × Int)))), (zf108 17), (eN (newA ((6 + (a % ((3 : Nat) : Int)).toNat : Nat) : Int) ((8 + (b % ((5 : Nat) : Int)).toNat : Nat) : Int) ((4 + (c % ((5 : Nat) : Int)).toNat : Nat) : Int) lb)), (zf108 19), (eN (newA ((6 + (a % ((3 : Nat) : Int)).toNat : Nat) : Int) ((8 + (b % ((5 : Nat) : Int)).toNat : Nat) : Int) ((4 + (c % ((5 : Nat) : Int)).toNat : Nat) : Int) lb))] ++ (zs zf108 21 70 ++ [(eN (newA a b c lb)), (eN (newA a b c lb)), vT, vT, (eN (newA ((6 + (a % ((3 : Nat) : Int)).toNat : Nat) : Int) ((8 + (b % ((5 : Nat) : Int)).toNat : Nat) : Int) ((4 + (c % ((5 : Nat) : Int)).toNat : Nat) : Int) lb)), (eN (newA ((6 + (a % ((3 : Nat) : Int)).toNat : Nat) : Int) ((8 + (b % ((5 : Nat) : Int)).toNat : Nat) : Int) ((4 + (c % ((5 : Nat) : Int)).toNat : Nat) : Int) lb)), vT, vT, vT, (eN (newA 7 12 5 ([] : List (Int × Int)))), vT, vF, vT, vT, vT, vT, vF, vT, vT, undef, (zf108 111), (zf108 112), (zf108 113)]))) ?_
  refine wX ?_
  refine wG (d_pick (b := true) (v := vT) rfl rfl) ?_
  refine wI (d_pick (b := true) (v := vT) rfl rfl) ?_
  refine wI (d_assign rfl) ?_
  refine wD (tN ?_)
  refine forget (fun zf109 => (zs zf109 0 8 ++ [vT] ++ (zs zf109 9 105))) kr (fun zf109 => ?_)
  refine wpIn_ret ?_
  refine leave0 (v := vT) (res1 Try.results3 rfl) ?_
  exact ⟨rfl, oW⟩
 refine wQ (pL ?_)
 refine wI (n_eql (a := ((wh % ((6 : Nat) : Int)).toNat)) (b := 3) rfl rfl rfl) ?_
 refine wI (d_assign rfl) ?_
 refine wD (tN ?_)
 refine cond_if rfl (fun q3 => ?_) (fun q3 => ?_)
 ·
  refine pL ?_
  refine wI (d_move rfl) ?_
  refine wI (n_sub (a := 8) (b := 0) rfl rfl oo oo) ?_
  refine wI (d_fieldAddr (j := 1) Try.underlying23 rfl s_ti3 (by decide) rfl rfl) ?_
  refine wF ([(zf82 0), u1, (zf82 2), vF, (ptr gb 0), (zf82 5), (zf82 6), (zf82 7), (zf82 8), (eN 0), (ptr hb 0)] ++ (zs zf82 11 18 ++ [(eN ((wh % ((6 : Nat) : Int)).toNat))] ++ (zs zf82 30 10 ++ [(Value.bool (decide (((wh % ((6 : Nat) : Int)).toNat) = 2))), (zf82 41), (zf82 42), (zf82 43), (zf82 44), (Value.bool (decide (((wh % ((6 : Nat) : Int)).toNat) = 3))), (Value.bool (decide (((wh % ((6 : Nat) : Int)).toNat) = 3))), (eN 0), (eN 8), (ptr hb 1)] ++ (zs zf82 50 64)))) ?_
  refine wO (d_store s_ti3 rfl rfl rfl a24 (nb rfl) rfl) ?_
  rintro _ w110 ⟨a111, o112⟩
  replace h1 := h1.stepb o112 in1
  replace a13 := a13.step o112 (fun e => absurd e n_gb_hb)
  replace oW := oW.tailb o112 g_oW_hb
  refine wD ?_
  refine inb_n (tN ?_)
  refine forget (fun zf113 => ([(zf113 0), u1, (zf113 2), vF, (ptr gb 0)] ++ (zs zf113 5 5 ++ [(ptr hb 0)] ++ (zs zf113 11 103)))) kr (fun zf113 => ?_)
  refine wQ (pL ?_)
  refine wI (d_loadAg (vs := [(eI a), (eI b), (eI c)]) ⟨_, Try.underlying23, rfl⟩ s_ti23 rfl a13 rfl rfl) ?_
  refine wI (d_move rfl) ?_
  refine wO (d_call (xl := [.tmp 61, .tmp 62]) (al := [(Value.agg #[(eI a), (eI b), (eI c)]), u1]) Try.func13 kr rfl rfl rfl (nandNewA_ok a b c lb u1 _ (Ps.no h1) (by first | omega | simp))) ?_
  rintro _ w114 ⟨u116, rfl, o115⟩
  replace h1 := h1.step0 o115
  replace a13 := a13.step0 o115
  replace a111 := a111.step0 o115
  replace oW := oW.tail0 o115
  refine wI (d_move rfl) ?_
  refine wI (d_extract (v := u116) rfl rfl) ?_
  refine wF ([(zf113 0), u1, (zf113 2), vF, (ptr gb 0)] ++ (zs zf113 5 5 ++ [(ptr hb 0)] ++ (zs zf113 11 49 ++ [(Value.tuple #[u116, (eN (newA a b c lb))]), (Value.agg #[(eI a), (eI b), (eI c)]), u1, (Value.tuple #[u116, (eN (newA a b c lb))]), u116] ++ (zs zf113 65 49)))) ?_
  refine wI (d_extract (v := (eN (newA a b c lb))) rfl rfl) ?_
  refine wI (d_assign rfl) ?_
  refine wI (d_assign rfl) ?_
  refine wD (tN (wQ (pL ?_)))
  refine wI (d_loadAg (vs := [(eI a), (eI b), (eI c)]) ⟨_, Try.underlying23, rfl⟩ s_ti23 rfl a13 rfl rfl) ?_
  refine wI (d_move rfl) ?_
  refine wF ([(zf113 0), u1, (zf113 2), vF, (ptr gb 0)] ++ (zs zf113 5 5 ++ [(ptr hb 0), u116, (eN (newA a b c lb))] ++ (zs zf113 13 47 ++ [(Value.tuple #[u116, (eN (newA a b c lb))]), (Value.agg #[(eI a), (eI b), (eI c)]), u1, (Value.tuple #[u116, (eN (newA a b c lb))]), u116, (eN (newA a b c lb)), (zf113 66), (Value.agg #[(eI a), (eI b), (eI c)]), u1] ++ (zs zf113 69 45)))) ?_
  refine wO (d_call (xl := [.tmp 67, .tmp 68]) (al := [(Value.agg #[(eI a), (eI b), (eI c)]), u1]) Try.func14 kr rfl rfl rfl (ref7NewA_ok a b c lb u1 _ (Ps.no h1) (by first | omega | simp))) ?_
  rintro _ w117 ⟨u119, rfl, o118⟩
  replace h1 := h1.step0 o118
  replace a13 := a13.step0 o118
  replace a111 := a111.step0 o118
  replace oW := oW.tail0 o118
  refine wI (d_move rfl) ?_
  refine wI (d_extract (v := u119) rfl rfl) ?_
  refine wI (d_extract (v := (eN (newA a b c lb))) rfl rfl) ?_
  refine wI (d_assign rfl) ?_
  refine wF ([(zf113 0), u1, (zf113 2), vF, (ptr gb 0)] ++ (zs zf113 5 5 ++ [(ptr hb 0), u116, (eN (newA a b c lb)), u119] ++ (zs zf113 14 46 ++ [(Value.tuple #[u116, (eN (newA a b c lb))]), (Value.agg #[(eI a), (eI b), (eI c)]), u1, (Value.tuple #[u116, (eN (newA a b c lb))]), u116, (eN (newA a b c lb)), (Value.tuple #[u119, (eN (newA a b c lb))]), (Value.agg #[(eI a), (eI b), (eI c)]), u1, (Value.tuple #[u119, (eN (newA a b c lb))]), u119, (eN (newA a b c lb))] ++ (zs zf113 72 42)))) ?_
  refine wI (d_assign rfl) ?_
  refine wD (tN ?_)
  refine forget (fun zf120 => ([(zf120 0), u1, (zf120 2), vF, (ptr gb 0)] ++ (zs zf120 5 5 ++ [(ptr hb 0), (zf120 11), (eN (newA a b c lb)), (zf120 13), (eN (newA a b c lb))] ++ (zs zf120 15 99)))) kr (fun zf120 => ?_)
  refine wQ (pL ?_)
  refine wI (d_loadAg (vs := [(eN 7), (eN 8), (eN 5)]) ⟨_, Try.underlying23, rfl⟩ s_ti23 rfl a111 rfl rfl) ?_
  refine wO (d_call (xl := [.tmp 73, .const (.slice none 0 0)]) (al := [(Value.agg #[(eN 7), (eN 8), (eN 5)]), (Value.slice none 0 0)]) Try.func13 kr rfl rfl rfl (nandNewA_ok 7 8 5 ([] : List (Int × Int)) (Value.slice none 0 0) _ seq_nilA (by first | omega | simp))) ?_
  rintro _ w121 ⟨u123, rfl, o122⟩
  replace h1 := h1.step0 o122
  replace a13 := a13.step0 o122
  replace a111 := a111.step0 o122
  replace oW := oW.tail0 o122
  refine wI (d_move rfl) ?_
  refine wI (d_extract (v := u123) rfl rfl) ?_
  refine wI (d_extract (v := (eN (newA 7 8 5 ([] : List (Int × Int))))) rfl rfl) ?_
  refine wF ([(zf120 0), u1, (zf120 2), vF, (ptr gb 0)] ++ (zs zf120 5 5 ++ [(ptr hb 0), (zf120 11), (eN (newA a b c lb)), (zf120 13), (eN (newA a b c lb))] ++ (zs zf120 15 57 ++ [(Value.tuple #[u123, (eN (newA 7 8 5 ([] : List (Int × Int))))]), (Value.agg #[(eN 7), (eN 8), (eN 5)]), (Value.tuple #[u123, (eN (newA 7 8 5 ([] : List (Int × Int))))]), u123, (eN (newA 7 8 5 ([] : List (Int × Int))))] ++ (zs zf120 77 37)))) ?_
  refine wI (d_assign rfl) ?_
  refine wI (d_assign rfl) ?_
  refine wD (tN (wQ (pL ?_)))
  refine wI (d_loadAg (vs := [(eI a), (eI b), (eI c)]) ⟨_, Try.underlying23, rfl⟩ s_ti23 rfl a13 rfl rfl) ?_
  refine wO (d_call (xl := [.tmp 78]) (al := [(Value.agg #[(eI a), (eI b), (eI c)])]) Try.func15 kr rfl rfl rfl (law7Make_ok a b c _)) ?_
  rintro _ w124 ⟨rfl, o125⟩
  replace h1 := h1.step0 o125
  replace a13 := a13.step0 o125
  replace a111 := a111.step0 o125
  replace oW := oW.tail0 o125
  refine wI (d_move rfl) ?_
  refine wF ([(zf120 0), u1, (zf120 2), vF, (ptr gb 0)] ++ (zs zf120 5 5 ++ [(ptr hb 0), (zf120 11), (eN (newA a b c lb)), (zf120 13), (eN (newA a b c lb)), u123, (eN (newA 7 8 5 ([] : List (Int × Int))))] ++ (zs zf120 17 55 ++ [(Value.tuple #[u123, (eN (newA 7 8 5 ([] : List (Int × Int))))]), (Value.agg #[(eN 7), (eN 8), (eN 5)]), (Value.tuple #[u123, (eN (newA 7 8 5 ([] : List (Int × Int))))]), u123, (eN (newA 7 8 5 ([] : List (Int × Int)))), (zf120 77), (Value.agg #[(eI a), (eI b), (eI c)]), (Value.agg #[(eN (6 + (a % ((3 : Nat) : Int)).toNat)), (eN (8 + (b % ((5 : Nat) : Int)).toNat)), (eN (4 + (c % ((5 : Nat) : Int)).toNat))]), u1] ++ (zs zf120 81 33)))) ?_
  refine wO (d_call (xl := [.tmp 79, .tmp 80]) (al := [(Value.agg #[(eN (6 + (a % ((3 : Nat) : Int)).toNat)), (eN (8 + (b % ((5 : Nat) : Int)).toNat)), (eN (4 + (c % ((5 : Nat) : Int)).toNat))]), u1]) Try.func13 kr rfl rfl rfl (nandNewA_ok ((6 + (a % ((3 : Nat) : Int)).toNat : Nat) : Int) ((8 + (b % ((5 : Nat) : Int)).toNat : Nat) : Int) ((4 + (c % ((5 : Nat) : Int)).toNat : Nat) : Int) lb u1 _ (Ps.no h1) (by first | omega | simp))) ?_
  rintro _ w126 ⟨u128, rfl, o127⟩
  replace h1 := h1.step0 o127
  replace a13 := a13.step0 o127
  replace a111 := a111.step0 o127
  replace oW := oW.tail0 o127
  refine wI (d_move rfl) ?_
  refine wI (d_extract (v := u128) rfl rfl) ?_
  refine wI (d_extract (v := (eN (newA ((6 + (a % ((3 : Nat) : Int)).toNat : Nat) : Int) ((8 + (b % ((5 : Nat) : Int)).toNat : Nat) : Int) ((4 + (c % ((5 : Nat) : Int)).toNat : Nat) : Int) lb))) rfl rfl) ?_
  refine wI (d_assign rfl) ?_
  refine wF ([(zf120 0), u1, (zf120 2), vF, (ptr gb 0)] ++ (zs zf120 5 5 ++ [(ptr hb 0), (zf120 11), (eN (newA a b c lb)), (zf120 13), (eN (newA a b c lb)), u123, (eN (newA 7 8 5 ([] : List (Int × Int)))), u128] ++ (zs zf120 18 54 ++ [(Value.tuple #[u123, (eN (newA 7 8 5 ([] : List (Int × Int))))]), (Value.agg #[(eN 7), (eN 8), (eN 5)]), (Value.tuple #[u123, (eN (newA 7 8 5 ([] : List (Int × Int))))]), u123, (eN (newA 7 8 5 ([] : List (Int × Int)))), (Value.tuple #[u128, (eN (newA ((6 + (a % ((3 : Nat) : Int)).toNat : Nat) : Int) ((8 + (b % ((5 : Nat) : Int)).toNat : Nat) : Int) ((4 + (c % ((5 : Nat) : Int)).toNat : Nat) : Int) lb))]), (Value.agg #[(eI a), (eI b), (eI c)]), (Value.agg #[(eN (6 + (a % ((3 : Nat) : Int)).toNat)), (eN (8 + (b % ((5 : Nat) : Int)).toNat)), (eN (4 + (c % ((5 : Nat) : Int)).toNat))]), u1, (Value.tuple #[u128, (eN (newA ((6 + (a % ((3 : Nat) : Int)).toNat : Nat) : Int) ((8 + (b % ((5 : Nat) : Int)).toNat : Nat) : Int) ((4 + (c % ((5 : Nat) : Int)).toNat : Nat) : Int) lb))]), u128, (eN (newA ((6 + (a % ((3 : Nat) : Int)).toNat : Nat) : Int) ((8 + (b % ((5 : Nat) : Int)).toNat : Nat) : Int) ((4 + (c % ((5 : Nat) : Int)).toNat : Nat) : Int) lb))] ++ (zs zf120 84 30)))) ?_
  refine wI (d_assign rfl) ?_
  refine wD (tN ?_)
  refine forget (fun zf129 => ([(zf129 0), u1, (zf129 2), vF, (ptr gb 0)] ++ (zs zf129 5 7 ++ [(eN (newA a b c lb)), (zf129 13), (eN (newA a b c lb)), (zf129 15), (eN (newA 7 8 5 ([] : List (Int × Int)))), (zf129 17), (eN (newA ((6 + (a % ((3 : Nat) : Int)).toNat : Nat) : Int) ((8 + (b % ((5 : Nat) : Int)).toNat : Nat) : Int) ((4 + (c % ((5 : Nat) : Int)).toNat : Nat) : Int) lb))] ++ (zs zf129 19 95)))) kr (fun zf129 => ?_)
  refine wQ (pL ?_)
  refine wI (d_loadAg (vs := [(eI a), (eI b), (eI c)]) ⟨_, Try.underlying23, rfl⟩ s_ti23 rfl a13 rfl rfl) ?_
  refine wO (d_call (xl := [.tmp 85]) (al := [(Value.agg #[(eI a), (eI b), (eI c)])]) Try.func15 kr rfl rfl rfl (law7Make_ok a b c _)) ?_
  rintro _ w130 ⟨rfl, o131⟩
  replace h1 := h1.step0 o131
  replace a13 := a13.step0 o131
  replace a111 := a111.step0 o131
  replace oW := oW.tail0 o131
  refine wI (d_move rfl) ?_
  refine wO (d_call (xl := [.tmp 86, .tmp 87]) (al := [(Value.agg #[(eN (6 + (a % ((3 : Nat) : Int)).toNat)), (eN (8 + (b % ((5 : Nat) : Int)).toNat)), (eN (4 + (c % ((5 : Nat) : Int)).toNat))]), u1]) Try.func14 kr rfl rfl rfl (ref7NewA_ok ((6 + (a % ((3 : Nat) : Int)).toNat : Nat) : Int) ((8 + (b % ((5 : Nat) : Int)).toNat : Nat) : Int) ((4 + (c % ((5 : Nat) : Int)).toNat : Nat) : Int) lb u1 _ (Ps.no h1) (by first | omega | simp))) ?_
  rintro _ w132 ⟨u134, rfl, o133⟩
  replace h1 := h1.step0 o133
  replace a13 := a13.step0 o133
  replace a111 := a111.step0 o133
  replace oW := oW.tail0 o133
  refine wI (d_move rfl) ?_
  refine wF ([(zf129 0), u1, (zf129 2), vF, (ptr gb 0)] ++ (zs zf129 5 7 ++ [(eN (newA a b c lb)), (zf129 13), (eN (newA a b c lb)), (zf129 15), (eN (newA 7 8 5 ([] : List (Int × Int)))), (zf129 17), (eN (newA ((6 + (a % ((3 : Nat) : Int)).toNat : Nat) : Int) ((8 + (b % ((5 : Nat) : Int)).toNat : Nat) : Int) ((4 + (c % ((5 : Nat) : Int)).toNat : Nat) : Int) lb))] ++ (zs zf129 19 65 ++ [(Value.tuple #[u134, (eN (newA ((6 + (a % ((3 : Nat) : Int)).toNat : Nat) : Int) ((8 + (b % ((5 : Nat) : Int)).toNat : Nat) : Int) ((4 + (c % ((5 : Nat) : Int)).toNat : Nat) : Int) lb))]), (Value.agg #[(eI a), (eI b), (eI c)]), (Value.agg #[(eN (6 + (a % ((3 : Nat) : Int)).toNat)), (eN (8 + (b % ((5 : Nat) : Int)).toNat)), (eN (4 + (c % ((5 : Nat) : Int)).toNat))]), u1, (Value.tuple #[u134, (eN (newA ((6 + (a % ((3 : Nat) : Int)).toNat : Nat) : Int) ((8 + (b % ((5 : Nat) : Int)).toNat : Nat) : Int) ((4 + (c % ((5 : Nat) : Int)).toNat : Nat) : Int) lb))])] ++ (zs zf129 89 25)))) ?_
  refine wI (d_extract (v := u134) rfl rfl) ?_
  refine wI (d_extract (v := (eN (newA ((6 + (a % ((3 : Nat) : Int)).toNat : Nat) : Int) ((8 + (b % ((5 : Nat) : Int)).toNat : Nat) : Int) ((4 + (c % ((5 : Nat) : Int)).toNat : Nat) : Int) lb))) rfl rfl) ?_
  refine wI (d_assign rfl) ?_
  refine wI (d_assign rfl) ?_
  refine wD (tN ?_)
  refine forget (fun zf135 => ([(zf135 0), (zf135 1), (zf135 2), vF] ++ (zs zf135 4 8 ++ [(eN (newA a b c lb)), (zf135 13), (eN (newA a b c lb)), (zf135 15), (eN (newA 7 8 5 ([] : List (Int × Int)))), (zf135 17), (eN (newA ((6 + (a % ((3 : Nat) : Int)).toNat : Nat) : Int) ((8 + (b % ((5 : Nat) : Int)).toNat : Nat) : Int) ((4 + (c % ((5 : Nat) : Int)).toNat : Nat) : Int) lb)), (zf135 19), (eN (newA ((6 + (a % ((3 : Nat) : Int)).toNat : Nat) : Int) ((8 + (b % ((5 : Nat) : Int)).toNat : Nat) : Int) ((4 + (c % ((5 : Nat) : Int)).toNat : Nat) : Int) lb))] ++ (zs zf135 21 93)))) kr (fun zf135 => ?_)
  refine wQ (pL ?_)
  refine wI (d_move rfl) ?_
  refine wI (d_move rfl) ?_
  refine wI (n_eql (a := (newA a b c lb)) (b := (newA a b c lb)) rfl rfl (decide_eq_true rfl)) ?_
  refine wI (d_move rfl) ?_
  refine wG (d_move rfl) ?_
  refine wF ([(zf135 0), (zf135 1), (zf135 2), vF] ++ (zs zf135 4 8 ++ [(eN (newA a b c lb)), (zf135 13), (eN (newA a b c lb)), (zf135 15), (eN (newA 7 8 5 ([] : List (Int × Int)))), (zf135 17), (eN (newA ((6 + (a % ((3 : Nat) : Int)).toNat : Nat) : Int) ((8 + (b % ((5 : Nat) : Int)).toNat : Nat) : Int) ((4 + (c % ((5 : Nat) : Int)).toNat : Nat) : Int) lb)), (zf135 19), (eN (newA ((6 + (a % ((3 : Nat) : Int)).toNat : Nat) : Int) ((8 + (b % ((5 : Nat) : Int)).toNat : Nat) : Int) ((4 + (c % ((5 : Nat) : Int)).toNat : Nat) : Int) lb))] ++ (zs zf135 21 70 ++ [(eN (newA a b c lb)), (eN (newA a b c lb)), vT, vT, (eN (newA ((6 + (a % ((3 : Nat) : Int)).toNat : Nat) : Int) ((8 + (b % ((5 : Nat) : Int)).toNat : Nat) : Int) ((4 + (c % ((5 : Nat) : Int)).toNat : Nat) : Int) lb))] ++ (zs zf135 96 18)))) ?_
  refine wG (d_move rfl) ?_
  refine wG (n_eql (a := (newA ((6 + (a % ((3 : Nat) : Int)).toNat : Nat) : Int) ((8 + (b % ((5 : Nat) : Int)).toNat : Nat) : Int) ((4 + (c % ((5 : Nat) : Int)).toNat : Nat) : Int) lb)) (b := (newA ((6 + (a % ((3 : Nat) : Int)).toNat : Nat) : Int) ((8 + (b % ((5 : Nat) : Int)).toNat : Nat) : Int) ((4 + (c % ((5 : Nat) : Int)).toNat : Nat) : Int) lb)) rfl rfl (decide_eq_true rfl)) ?_
  refine wI (d_pick (b := true) (v := vT) rfl rfl) ?_
  refine wI (d_move rfl) ?_
  refine wG (d_move rfl) ?_
  refine wF ([(zf135 0), (zf135 1), (zf135 2), vF] ++ (zs zf135 4 8 ++ [(eN (newA a b c lb)), (zf135 13), (eN (newA a b c lb)), (zf135 15), (eN (newA 7 8 5 ([] : List (Int × Int)))), (zf135 17), (eN (newA ((6 + (a % ((3 : Nat) : Int)).toNat : Nat) : Int) ((8 + (b % ((5 : Nat) : Int)).toNat : Nat) : Int) ((4 + (c % ((5 : Nat) : Int)).toNat : Nat) : Int) lb)), (zf135 19), (eN (newA ((6 + (a % ((3 : Nat) : Int)).toNat : Nat) : Int) ((8 + (b % ((5 : Nat) : Int)).toNat : Nat) : Int) ((4 + (c % ((5 : Nat) : Int)).toNat : Nat) : Int) lb))] ++ (zs zf135 21 70 ++ [(eN (newA a b c lb)), (eN (newA a b c lb)), vT, vT, (eN (newA ((6 + (a % ((3 : Nat) : Int)).toNat : Nat) : Int) ((8 + (b % ((5 : Nat) : Int)).toNat : Nat) : Int) ((4 + (c % ((5 : Nat) : Int)).toNat : Nat) : Int) lb)), (eN (newA ((6 + (a % ((3 : Nat) : Int)).toNat : Nat) : Int) ((8 + (b % ((5 : Nat) : Int)).toNat : Nat) : Int) ((4 + (c % ((5 : Nat) : Int)).toNat : Nat) : Int) lb)), vT, vT, vT, (eN (newA 7 8 5 ([] : List (Int × Int))))] ++ (zs zf135 101 13)))) ?_
  refine wG (n_eql (a := (newA 7 8 5 ([] : List (Int × Int)))) (b := 0) rfl rfl (decide_eq_true (newA_nil (by unfold fitsA; omega)))) ?_
  refine wG (d_move rfl) ?_
  refine wG (d_not rfl rfl) ?_
  refine wG (d_beql Try.underlying4 rfl rfl rfl) ?_
  refine wI (d_pick (b := true) (v := vT) rfl rfl) ?_
  refine wF ([(zf135 0), (zf135 1), (zf135 2), vF] ++ (zs zf135 4 8 ++ [(eN (newA a b c lb)), (zf135 13), (eN (newA a b c lb)), (zf135 15), (eN (newA 7 8 5 ([] : List (Int × Int)))), (zf135 17), (eN (newA ((6 + (a % ((3 : Nat) : Int)).toNat : Nat) : Int) ((8 + (b % ((5 : Nat) : Int)).toNat : Nat) : Int) ((4 + (c % ((5 : Nat) : Int)).toNat : Nat) : Int) lb)), (zf135 19), (eN (newA ((6 + (a % ((3 : Nat) : Int)).toNat : Nat) : Int) ((8 + (b % ((5 : Nat) : Int)).toNat : Nat) : Int) ((4 + (c % ((5 : Nat) : Int)).toNat : Nat) : Int) lb))] ++ (zs zf135 21 70 ++ [(eN (newA a b c lb)), (eN (newA a b c lb)), vT, vT, (eN (newA ((6 + (a % ((3 : Nat) : Int)).toNat : Nat) : Int) ((8 + (b % ((5 : Nat) : Int)).toNat : Nat) : Int) ((4 + (c % ((5 : Nat) : Int)).toNat : Nat) : Int) lb)), (eN (newA ((6 + (a % ((3 : Nat) : Int)).toNat : Nat) : Int) ((8 + (b % ((5 : Nat) : Int)).toNat : Nat) : Int) ((4 + (c % ((5 : Nat) : Int)).toNat : Nat) : Int) lb)), vT, vT, vT, (eN (newA 7 8 5 ([] : List (Int × Int)))), vT, vF, vT, vT, vT] ++ (zs zf135 106 8)))) ?_
  refine wI (d_move rfl) ?_
  refine wG (d_move rfl) ?_
  refine wG (d_not rfl rfl) ?_
  refine wG (d_move rfl) ?_
  refine wX ?_
  refine wF ([(zf135 0), (zf135 1), (zf135 2), vF] ++ (zs zf135 4 8 ++ [(eN (newA a b c lb)), (zf135 13), (eN (newA a b c lb)), (zf135 15), (eN (newA 7 8 5 ([] : List (Int × Int)))), (zf135 17), (eN (newA ((6 + (a % ((3 : Nat) : Int)).toNat : Nat) : Int) ((8 + (b % ((5 : Nat) : Int)).toNat : Nat) : Int) ((4 + (c % ((5 : Nat) : Int)).toNat : Nat) : Int) lb)), (zf135 19), (eN (newA ((6 + (a % ((3 : Nat) : Int)).toNat : Nat) : Int) ((8 + (b % ((5 : Nat) : Int)).toNat : Nat) : Int) ((4 + (c % ((5 : Nat) : Int)).toNat : Nat) : Int) lb))] ++ (zs zf135 21 70 ++ [(eN (newA a b c lb)), (eN (newA a b c lb)), vT, vT, (eN (newA ((6 + (a % ((3 : Nat) : Int)).toNat : Nat) : Int) ((8 + (b % ((5 : Nat) : Int)).toNat : Nat) : Int) ((4 + (c % ((5 : Nat) : Int)).toNat : Nat) : Int) lb)), (eN (newA ((6 + (a % ((3 : Nat) : Int)).toNat : Nat) : Int) ((8 + (b % ((5 : Nat) : Int)).toNat : Nat) : Int) ((4 + (c % ((5 : Nat) : Int)).toNat : Nat) : Int) lb)), vT, vT, vT, (eN (newA 7 8 5 ([] : List (Int × Int)))), vT, vF, vT, vT, vT, vT, vF, vT, vT, undef, (zf135 111), (zf135 112), (zf135 113)]))) ?_
  refine wX ?_
  refine wG (d_pick (b := true) (v := vT) rfl rfl) ?_
  refine wI (d_pick (b := true) (v := vT) rfl rfl) ?_
  refine wI (d_assign rfl) ?_
  refine wD (tN ?_)
  refine forget (fun zf136 => (zs zf136 0 8 ++ [vT] ++ (zs zf136 9 105))) kr (fun zf136 => ?_)
  refine wpIn_ret ?_
  refine leave0 (v := vT) (res1 Try.results3 rfl) ?_
  exact ⟨rfl, oW⟩
 refine wQ (pL ?_)
 refine wI (n_eql (a := ((wh % ((6 : Nat) : Int)).toNat)) (b := 4) rfl rfl rfl) ?_
 refine wI (d_assign rfl) ?_
 refine wD (tN ?_)
 refine cond_if rfl (fun q4 => ?_) (fun q4 => ?_)
 ·
  refine pL ?_
  refine wI (d_move rfl) ?_
  refine wF ([(zf82 0), u1, (zf82 2), vF, (ptr gb 0), (zf82 5), (zf82 6), (zf82 7), (zf82 8), (eN 0), (ptr hb 0)] ++ (zs zf82 11 18 ++ [(eN ((wh % ((6 : Nat) : Int)).toNat))] ++ (zs zf82 30 10 ++ [(Value.bool (decide (((wh % ((6 : Nat) : Int)).toNat) = 2))), (zf82 41), (zf82 42), (zf82 43), (zf82 44), (Value.bool (decide (((wh % ((6 : Nat) : Int)).toNat) = 3))), (Value.bool (decide (((wh % ((6 : Nat) : Int)).toNat) = 3))), (zf82 47), (zf82 48), (zf82 49), (Value.bool (decide (((wh % ((6 : Nat) : Int)).toNat) = 4))), (Value.bool (decide (((wh % ((6 : Nat) : Int)).toNat) = 4))), (eN 0)] ++ (zs zf82 53 61)))) ?_
  refine wI (n_add (a := 8) (b := 0) rfl rfl oo) ?_
  refine wI (d_fieldAddr (j := 2) Try.underlying23 rfl s_ti3 (by decide) rfl rfl) ?_
  refine wO (d_store s_ti3 rfl rfl rfl a24 (nb rfl) rfl) ?_
  rintro _ w137 ⟨a138, o139⟩
  replace h1 := h1.stepb o139 in1
  replace a13 := a13.step o139 (fun e => absurd e n_gb_hb)
  replace oW := oW.tailb o139 g_oW_hb
  refine wD ?_
  refine inb_n (tN ?_)
  refine forget (fun zf140 => ([(zf140 0), u1, (zf140 2), vF, (ptr gb 0)] ++ (zs zf140 5 5 ++ [(ptr hb 0)] ++ (zs zf140 11 103)))) kr (fun zf140 => ?_)
  refine wQ (pL ?_)
  refine wI (d_loadAg (vs := [(eI a), (eI b), (eI c)]) ⟨_, Try.underlying23, rfl⟩ s_ti23 rfl a13 rfl rfl) ?_
  refine wI (d_move rfl) ?_
  refine wO (d_call (xl := [.tmp 61, .tmp 62]) (al := [(Value.agg #[(eI a), (eI b), (eI c)]), u1]) Try.func13 kr rfl rfl rfl (nandNewA_ok a b c lb u1 _ (Ps.no h1) (by first | omega | simp))) ?_
  rintro _ w141 ⟨u143, rfl, o142⟩
  replace h1 := h1.step0 o142
  replace a13 := a13.step0 o142
  replace a138 := a138.step0 o142
  replace oW := oW.tail0 o142
  refine wI (d_move rfl) ?_
  refine wI (d_extract (v := u143) rfl rfl) ?_
  refine wF ([(zf140 0), u1, (zf140 2), vF, (ptr gb 0)] ++ (zs zf140 5 5 ++ [(ptr hb 0)] ++ (zs zf140 11 49 ++ [(Value.tuple #[u143, (eN (newA a b c lb))]), (Value.agg #[(eI a), (eI b), (eI c)]), u1, (Value.tuple #[u143, (eN (newA a b c lb))]), u143] ++ (zs zf140 65 49)))) ?_
  refine wI (d_extract (v := (eN (newA a b c lb))) rfl rfl) ?_
  refine wI (d_assign rfl) ?_
  refine wI (d_assign rfl) ?_
  refine wD (tN (wQ (pL ?_)))
  refine wI (d_loadAg (vs := [(eI a), (eI b), (eI c)]) ⟨_, Try.underlying23, rfl⟩ s_ti23 rfl a13 rfl rfl) ?_
  refine wI (d_move rfl) ?_
  refine wF ([(zf140 0), u1, (zf140 2), vF, (ptr gb 0)] ++ (zs zf140 5 5 ++ [(ptr hb 0), u143, (eN (newA a b c lb))] ++ (zs zf140 13 47 ++ [(Value.tuple #[u143, (eN (newA a b c lb))]), (Value.agg #[(eI a), (eI b), (eI c)]), u1, (Value.tuple #[u143, (eN (newA a b c lb))]), u143, (eN (newA a b c lb)), (zf140 66), (Value.agg #[(eI a), (eI b), (eI c)]), u1] ++ (zs zf140 69 45)))) ?_
  refine wO (d_call (xl := [.tmp 67, .tmp 68]) (al := [(Value.agg #[(eI a), (eI b), (eI c)]), u1]) Try.func14 kr rfl rfl rfl (ref7NewA_ok a b c lb u1 _ (Ps.no h1) (by first | omega | simp))) ?_
  rintro _ w144 ⟨u146, rfl, o145⟩
  replace h1 := h1.step0 o145
  replace a13 := a13.step0 o145
  replace a138 := a138.step0 o145
  replace oW := oW.tail0 o145
  refine wI (d_move rfl) ?_
  refine wI (d_extract (v := u146) rfl rfl) ?_
  refine wI (d_extract (v := (eN (newA a b c lb))) rfl rfl) ?_
  refine wI (d_assign rfl) ?_
  refine wF ([(zf140 0), u1, (zf140 2), vF, (ptr gb 0)] ++ (zs zf140 5 5 ++ [(ptr hb 0), u143, (eN (newA a b c lb)), u146] ++ (zs zf140 14 46 ++ [(Value.tuple #[u143, (eN (newA a b c lb))]), (Value.agg #[(eI a), (eI b), (eI c)]), u1, (Value.tuple #[u143, (eN (newA a b c lb))]), u143, (eN (newA a b c lb)), (Value.tuple #[u146, (eN (newA a b c lb))]), (Value.agg #[(eI a), (eI b), (eI c)]), u1, (Value.tuple #[u146, (eN (newA a b c lb))]), u146, (eN (newA a b c lb))] ++ (zs zf140 72 42)))) ?_
  refine wI (d_assign rfl) ?_
  refine wD (tN ?_)
  refine forget (fun zf147 => ([(zf147 0), u1, (zf147 2), vF, (ptr gb 0)] ++ (zs zf147 5 5 ++ [(ptr hb 0), (zf147 11), (eN (newA a b c lb)), (zf147 13), (eN (newA a b c lb))] ++ (zs zf147 15 99)))) kr (fun zf147 => ?_)
  refine wQ (pL ?_)
  refine wI (d_loadAg (vs := [(eN 7), (eN 9), (eN 8)]) ⟨_, Try.underlying23, rfl⟩ s_ti23 rfl a138 rfl rfl) ?_
  refine wO (d_call (xl := [.tmp 73, .const (.slice none 0 0)]) (al := [(Value.agg #[(eN 7), (eN 9), (eN 8)]), (Value.slice none 0 0)]) Try.func13 kr rfl rfl rfl (nandNewA_ok 7 9 8 ([] : List (Int × Int)) (Value.slice none 0 0) _ seq_nilA (by first | omega | simp))) ?_
  rintro _ w148 ⟨u150, rfl, o149⟩
  replace h1 := h1.step0 o149
  replace a13 := a13.step0 o149
  replace a138 := a138.step0 o149
  replace oW := oW.tail0 o149
  refine wI (d_move rfl) ?_
  refine wI (d_extract (v := u150) rfl rfl) ?_
  refine wI (d_extract (v := (eN (newA 7 9 8 ([] : List (Int × Int))))) rfl rfl) ?_
  refine wF ([(zf147 0), u1, (zf147 2), vF, (ptr gb 0)] ++ (zs zf147 5 5 ++ [(ptr hb 0), (zf147 11), (eN (newA a b c lb)), (zf147 13), (eN (newA a b c lb))] ++ (zs zf147 15 57 ++ [(Value.tuple #[u150, (eN (newA 7 9 8 ([] : List (Int × Int))))]), (Value.agg #[(eN 7), (eN 9), (eN 8)]), (Value.tuple #[u150, (eN (newA 7 9 8 ([] : List (Int × Int))))]), u150, (eN (newA 7 9 8 ([] : List (Int × Int))))] ++ (zs zf147 77 37)))) ?_
  refine wI (d_assign rfl) ?_
  refine wI (d_assign rfl) ?_
  refine wD (tN (wQ (pL ?_)))
  refine wI (d_loadAg (vs := [(eI a), (eI b), (eI c)]) ⟨_, Try.underlying23, rfl⟩ s_ti23 rfl a13 rfl rfl) ?_
  refine wO (d_call (xl := [.tmp 78]) (al := [(Value.agg #[(eI a), (eI b), (eI c)])]) Try.func15 kr rfl rfl rfl (law7Make_ok a b c _)) ?_
  rintro _ w151 ⟨rfl, o152⟩
  replace h1 := h1.step0 o152
  replace a13 := a13.step0 o152
  replace a138 := a138.step0 o152
  replace oW := oW.tail0 o152
  refine wI (d_move rfl) ?_
  refine wF ([(zf147 0), u1, (zf147 2), vF, (ptr gb 0)] ++ (zs zf147 5 5 ++ [(ptr hb 0), (zf147 11), (eN (newA a b c lb)), (zf147 13), (eN (newA a b c lb)), u150, (eN (newA 7 9 8 ([] : List (Int × Int))))] ++ (zs zf147 17 55 ++ [(Value.tuple #[u150, (eN (newA 7 9 8 ([] : List (Int × Int))))]), (Value.agg #[(eN 7), (eN 9), (eN 8)]), (Value.tuple #[u150, (eN (newA 7 9 8 ([] : List (Int × Int))))]), u150, (eN (newA 7 9 8 ([] : List (Int × Int)))), (zf147 77), (Value.agg #[(eI a), (eI b), (eI c)]), (Value.agg #[(eN (6 + (a % ((3 : Nat) : Int)).toNat)), (eN (8 + (b % ((5 : Nat) : Int)).toNat)), (eN (4 + (c % ((5 : Nat) : Int)).toNat))]), u1] ++ (zs zf147 81 33)))) ?_
  refine wO (d_call (xl := [.tmp 79, .tmp 80]) (al := [(Value.agg #[(eN (6 + (a % ((3 : Nat) : Int)).toNat)), (eN (8 + (b % ((5 : Nat) : Int)).toNat)), (eN (4 + (c % ((5 : Nat) : Int)).toNat))]), u1]) Try.func13 kr rfl rfl rfl (nandNewA_ok ((6 + (a % ((3 : Nat) : Int)).toNat : Nat) : Int) ((8 + (b % ((5 : Nat) : Int)).toNat : Nat) : Int) ((4 + (c % ((5 : Nat) : Int)).toNat : Nat) : Int) lb u1 _ (Ps.no h1) (by first | omega | simp))) ?_
  rintro _ w153 ⟨u155, rfl, o154⟩
  replace h1 := h1.step0 o154
  replace a13 := a13.step0 o154
  replace a138 := a138.step0 o154
  replace oW := oW.tail0 o154
  refine wI (d_move rfl) ?_
  refine wI (d_extract (v := u155) rfl rfl) ?_
  refine wI (d_extract (v := (eN (newA ((6 + (a % ((3 : Nat) : Int)).toNat : Nat) : Int) ((8 + (b % ((5 : Nat) : Int)).toNat : Nat) : Int) ((4 + (c % ((5 : Nat) : Int)).toNat : Nat) : Int) lb))) rfl rfl) ?_
  refine wI (d_assign rfl) ?_
  refine wF ([(zf147 0), u1, (zf147 2), vF, (ptr gb 0)] ++ (zs zf147 5 5 ++ [(ptr hb 0), (zf147 11), (eN (newA a b c lb)), (zf147 13), (eN (newA a b c lb)), u150, (eN (newA 7 9 8 ([] : List (Int × Int)))), u155] ++ (zs zf147 18 54 ++ [(Value.tuple #[u150, (eN (newA 7 9 8 ([] : List (Int × Int))))]), (Value.agg #[(eN 7), (eN 9), (eN 8)]), (Value.tuple #[u150, (eN (newA 7 9 8 ([] : List (Int × Int))))]), u150, (eN (newA 7 9 8 ([] : List (Int × Int)))), (Value.tuple #[u155, (eN (newA ((6 + (a % ((3 : Nat) : Int)).toNat : Nat) : Int) ((8 + (b % ((5 : Nat) : Int)).toNat : Nat) : Int) ((4 + (c % ((5 : Nat) : Int)).toNat : Nat) : Int) lb))]), (Value.agg #[(eI a), (eI b), (eI c)]), (Value.agg #[(eN (6 + (a % ((3 : Nat) : Int)).toNat)), (eN (8 + (b % ((5 : Nat) : Int)).toNat)), (eN (4 + (c % ((5 : Nat) : Int)).toNat))]), u1, (Value.tuple #[u155, (eN (newA ((6 + (a % ((3 : Nat) : Int)).toNat : Nat) : Int) ((8 + (b % ((5 : Nat) : Int)).toNat : Nat) : Int) ((4 + (c % ((5 : Nat) : Int)).toNat : Nat) : Int) lb))]), u155, (eN (newA ((6 + (a % ((3 : Nat) : Int)).toNat : Nat) : Int) ((8 + (b % ((5 : Nat) : Int)).toNat : Nat) : Int) ((4 + (c % ((5 : Nat) : Int)).toNat : Nat) : Int) lb))] ++ (zs zf147 84 30)))) ?_
  refine wI (d_assign rfl) ?_
  refine wD (tN ?_)
  refine forget (fun zf156 => ([(zf156 0), u1, (zf156 2), vF, (ptr gb 0)] ++ (zs zf156 5 7 ++ [(eN (newA a b c lb)), (zf156 13), (eN (newA a b c lb)), (zf156 15), (eN (newA 7 9 8 ([] : List (Int × Int)))), (zf156 17), (eN (newA ((6 + (a % ((3 : Nat) : Int)).toNat : Nat) : Int) ((8 + (b % ((5 : Nat) : Int)).toNat : Nat) : Int) ((4 + (c % ((5 : Nat) : Int)).toNat : Nat) : Int) lb))] ++ (zs zf156 19 95)))) kr (fun zf156 => ?_)
  refine wQ (pL ?_)
  refine wI (d_loadAg (vs := [(eI a), (eI b), (eI c)]) ⟨_, Try.underlying23, rfl⟩ s_ti23 rfl a13 rfl rfl) ?_
  refine wO (d_call (xl := [.tmp 85]) (al := [(Value.agg #[(eI a), (eI b), (eI c)])]) Try.func15 kr rfl rfl rfl (law7Make_ok a b c _)) ?_
  rintro _ w157 ⟨rfl, o158⟩
  replace h1 := h1.step0 o158
  replace a13 := a13.step0 o158
  replace a138 := a138.step0 o158
  replace oW := oW.tail0 o158
  refine wI (d_move rfl) ?_
  refine wO (d_call (xl := [.tmp 86, .tmp 87]) (al := [(Value.agg #[(eN (6 + (a % ((3 : Nat) : Int)).toNat)), (eN (8 + (b % ((5 : Nat) : Int)).toNat)), (eN (4 + (c % ((5 : Nat) : Int)).toNat))]), u1]) Try.func14 kr rfl rfl rfl (ref7NewA_ok ((6 + (a % ((3 : Nat) : Int)).toNat : Nat) : Int) ((8 + (b % ((5 : Nat) : Int)).toNat : Nat) : Int) ((4 + (c % ((5 : Nat) : Int)).toNat : Nat) : Int) lb u1 _ (Ps.no h1) (by first | omega | simp))) ?_
  rintro _ w159 ⟨u161, rfl, o160⟩
  replace h1 := h1.step0 o160
  replace a13 := a13.step0 o160
  replace a138 := a138.step0 o160
  replace oW := oW.tail0 o160
  refine wI (d_move rfl) ?_
  refine wF ([(zf156 0), u1, (zf156 2), vF, (ptr gb 0)] ++ (zs zf156 5 7 ++ [(eN (newA a b c lb)), (zf156 13), (eN (newA a b c lb)), (zf156 15), (eN (newA 7 9 8 ([] : List (Int × Int)))), (zf156 17), (eN (newA ((6 + (a % ((3 : Nat) : Int)).toNat : Nat) : Int) ((8 + (b % ((5 : Nat) : Int)).toNat : Nat) : Int) ((4 + (c % ((5 : Nat) : Int)).toNat : Nat) : Int) lb))] ++ (zs zf156 19 65 ++ [(Value.tuple #[u161, (eN (newA ((6 + (a % ((3 : Nat) : Int)).toNat : Nat) : Int) ((8 + (b % ((5 : Nat) : Int)).toNat : Nat) : Int) ((4 + (c % ((5 : Nat) : Int)).toNat : Nat) : Int) lb))]), (Value.agg #[(eI a), (eI b), (eI c)]), (Value.agg #[(eN (6 + (a % ((3 : Nat) : Int)).toNat)), (eN (8 + (b % ((5 : Nat) : Int)).toNat)), (eN (4 + (c % ((5 : Nat) : Int)).toNat))]), u1, (Value.tuple #[u161, (eN (newA ((6 + (a % ((3 : Nat) : Int)).toNat : Nat) : Int) ((8 + (b % ((5 : Nat) : Int)).toNat : Nat) : Int) ((4 + (c % ((5 : Nat) : Int)).toNat : Nat) : Int) lb))])] ++ (zs zf156 89 25)))) ?_
  refine wI (d_extract (v := u161) rfl rfl) ?_
  refine wI (d_extract (v := (eN (newA ((6 + (a % ((3 : Nat) : Int)).toNat : Nat) : Int) ((8 + (b % ((5 : Nat) : Int)).toNat : Nat) : Int) ((4 + (c % ((5 : Nat) : Int)).toNat : Nat) : Int) lb))) rfl rfl) ?_
  refine wI (d_assign rfl) ?_
  refine wI (d_assign rfl) ?_
  refine wD (tN ?_)
  refine forget (fun zf162 => ([(zf162 0), (zf162 1), (zf162 2), vF] ++ (zs zf162 4 8 ++ [(eN (newA a b c lb)), (zf162 13), (eN (newA a b c lb)), (zf162 15), (eN (newA 7 9 8 ([] : List (Int × Int)))), (zf162 17), (eN (newA ((6 + (a % ((3 : Nat) : Int)).toNat : Nat) : Int) ((8 + (b % ((5 : Nat) : Int)).toNat : Nat) : Int) ((4 + (c % ((5 : Nat) : Int)).toNat : Nat) : Int) lb)), (zf162 19), (eN (newA ((6 + (a % ((3 : Nat) : Int)).toNat : Nat) : Int) ((8 + (b % ((5 : Nat) : Int)).toNat : Nat) : Int) ((4 + (c % ((5 : Nat) : Int)).toNat : Nat) : Int) lb))] ++ (zs zf162 21 93)))) kr (fun zf162 => ?_)
  refine wQ (pL ?_)
  refine wI (d_move rfl) ?_
  refine wI (d_move rfl) ?_
  refine wI (n_eql (a := (newA a b c lb)) (b := (newA a b c lb)) rfl rfl (decide_eq_true rfl)) ?_
  refine wI (d_move rfl) ?_
  refine wG (d_move rfl) ?_
  refine wF ([(zf162 0), (zf162 1), (zf162 2), vF] ++ (zs zf162 4 8 ++ [(eN (newA a b c lb)), (zf162 13), (eN (newA a b c lb)), (zf162 15), (eN (newA 7 9 8 ([] : List (Int × Int)))), (zf162 17), (eN (newA ((6 + (a % ((3 : Nat) : Int)).toNat : Nat) : Int) ((8 + (b % ((5 : Nat) : Int)).toNat : Nat) : Int) ((4 + (c % ((5 : Nat) : Int)).toNat : Nat) : Int) lb)), (zf162 19), (eN (newA ((6 + (a % ((3 : Nat) : Int)).toNat : Nat) : Int) ((8 + (b % ((5 : Nat) : Int)).toNat : Nat) : Int) ((4 + (c % ((5 : Nat) : Int)).toNat : Nat) : Int) lb))] ++ (zs zf162 21 70 ++ [(eN (newA a b c lb)), (eN (newA a b c lb)), vT, vT, (eN (newA ((6 + (a % ((3 : Nat) : Int)).toNat : Nat) : Int) ((8 + (b % ((5 : Nat) : Int)).toNat : Nat) : Int) ((4 + (c % ((5 : Nat) : Int)).toNat : Nat) : Int) lb))] ++ (zs zf162 96 18)))) ?_
  refine wG (d_move rfl) ?_
  refine wG (n_eql (a := (newA ((6 + (a % ((3 : Nat) : Int)).toNat : Nat) : Int) ((8 + (b % ((5 : Nat) : Int)).toNat : Nat) : Int) ((4 + (c % ((5 : Nat) : Int)).toNat : Nat) : Int) lb)) (b := (newA ((6 + (a % ((3 : Nat) : Int)).toNat : Nat) : Int) ((8 + (b % ((5 : Nat) : Int)).toNat : Nat) : Int) ((4 + (c % ((5 : Nat) : Int)).toNat : Nat) : Int) lb)) rfl rfl (decide_eq_true rfl)) ?_
  refine wI (d_pick (b := true) (v := vT) rfl rfl) ?_
  refine wI (d_move rfl) ?_
  refine wG (d_move rfl) ?_
  refine wF ([(zf162 0), (zf162 1), (zf162 2), vF] ++ (zs zf162 4 8 ++ [(eN (newA a b c lb)), (zf162 13), (eN (newA a b c lb)), (zf162 15), (eN (newA 7 9 8 ([] : List (Int × Int)))), (zf162 17), (eN (newA ((6 + (a % ((3 : Nat) : Int)).toNat : Nat) : Int) ((8 + (b % ((5 : Nat) : Int)).toNat : Nat) : Int) ((4 + (c % ((5 : Nat) : Int)).toNat : Nat) : Int) lb)), (zf162 19), (eN (newA ((6 + (a % ((3 : Nat) : Int)).toNat : Nat) : Int) ((8 + (b % ((5 : Nat) : Int)).toNat : Nat) : Int) ((4 + (c % ((5 : Nat) : Int)).toNat : Nat) : Int) lb))] ++ (zs zf162 21 70 ++ [(eN (newA a b c lb)), (eN (newA a b c lb)), vT, vT, (eN (newA ((6 + (a % ((3 : Nat) : Int)).toNat : Nat) : Int) ((8 + (b % ((5 : Nat) : Int)).toNat : Nat) : Int) ((4 + (c % ((5 : Nat) : Int)).toNat : Nat) : Int) lb)), (eN (newA ((6 + (a % ((3 : Nat) : Int)).toNat : Nat) : Int) ((8 + (b % ((5 : Nat) : Int)).toNat : Nat) : Int) ((4 + (c % ((5 : Nat) : Int)).toNat : Nat) : Int) lb)), vT, vT, vT, (eN (newA 7 9 8 ([] : List (Int × Int))))] ++ (zs zf162 101 13)))) ?_
  refine wG (n_eql (a := (newA 7 9 8 ([] : List (Int × Int)))) (b := 0) rfl rfl (decide_eq_true (newA_nil (by unfold fitsA; omega)))) ?_
  refine wG (d_move rfl) ?_
  refine wG (d_not rfl rfl) ?_
  refine wG (d_beql Try.underlying4 rfl rfl rfl) ?_
  refine wI (d_pick (b := true) (v := vT) rfl rfl) ?_
  refine wF ([(zf162 0), (zf162 1), (zf162 2), vF] ++ (zs zf162 4 8 ++ [(eN (newA a b c lb)), (zf162 13), (eN (newA a b c lb)), (zf162 15), (eN (newA 7 9 8 ([] : List (Int × Int)))), (zf162 17), (eN (newA ((6 + (a % ((3 : Nat) : Int)).toNat : Nat) : Int) ((8 + (b % ((5 : Nat) : Int)).toNat : Nat) : Int) ((4 + (c % ((5 : Nat) : Int)).toNat : Nat) : Int) lb)), (zf162 19), (eN (newA ((6 + (a % ((3 : Nat) : Int)).toNat : Nat) : Int) ((8 + (b % ((5 : Nat) : Int)).toNat : Nat) : Int) ((4 + (c % ((5 : Nat) : Int)).toNat : Nat) : Int) lb))] ++ (zs zf162 21 70 ++ [(eN (newA a b c lb)), (eN (newA a b c lb)), vT, vT, (eN (newA ((6 + (a % ((3 : Nat) : Int)).toNat : Nat) : Int) ((8 + (b % ((5 : Nat) : Int)).toNat : Nat) : Int) ((4 + (c % ((5 : Nat) : Int)).toNat : Nat) : Int) lb)), (eN (newA ((6 + (a % ((3 : Nat) : Int)).toNat : Nat) : Int) ((8 + (b % ((5 : Nat) : Int)).toNat : Nat) : Int) ((4 + (c % ((5 : Nat) : Int)).toNat : Nat) : Int) lb)), vT, vT, vT, (eN (newA 7 9 8 ([] : List (Int × Int)))), vT, vF, vT, vT, vT] ++ (zs zf162 106 8)))) ?_
  refine wI (d_move rfl) ?_
  refine wG (d_move rfl) ?_
  refine wG (d_not rfl rfl) ?_
  refine wG (d_move rfl) ?_
  refine wX ?_
  refine wF ([(zf162 0), (zf162 1), (zf162 2), vF] ++ (zs zf162 4 8 ++ [(eN (newA a b c lb)), (zf162 13), (eN (newA a b c lb)), (zf162 15), (eN (newA 7 9 8 ([] : List (Int × Int)))), (zf162 17), (eN (newA ((6 + (a % ((3 : Nat) : Int)).toNat : Nat) : Int) ((8 + (b % ((5 : Nat) : Int)).toNat : Nat) : Int) ((4 + (c % ((5 : Nat) : Int)).toNat : Nat) : Int) lb)), (zf162 19), (eN (newA ((6 + (a % ((3 : Nat) : Int)).toNat : Nat) : Int) ((8 + (b % ((5 : Nat) : Int)).toNat : Nat) : Int) ((4 + (c % ((5 : Nat) : Int)).toNat : Nat) : Int) lb))] ++ (zs zf162 21 70 ++ [(eN (newA a b c lb)), (eN (newA a b c lb)), vT, vT, (eN (newA ((6 + (a % ((3 : Nat) : Int)).toNat : Nat) : Int) ((8 + (b % ((5 : Nat) : Int)).toNat : Nat) : Int) ((4 + (c % ((5 : Nat) : Int)).toNat : Nat) : Int) lb)), (eN (newA ((6 + (a % ((3 : Nat) : Int)).toNat : Nat) : Int) ((8 + (b % ((5 : Nat) : Int)).toNat : Nat) : Int) ((4 + (c % ((5 : Nat) : Int)).toNat : Nat) : Int) lb)), vT, vT, vT, (eN (newA 7 9 8 ([] : List (Int × Int)))), vT, vF, vT, vT, vT, vT, vF, vT, vT, undef, (zf162 111), (zf162 112), (zf162 113)]))) ?_
  refine wX ?_
  refine wG (d_pick (b := true) (v := vT) rfl rfl) ?_
  refine wI (d_pick (b := true) (v := vT) rfl rfl) ?_
  refine wI (d_assign rfl) ?_
  refine wD (tN ?_)
  refine forget (fun zf163 => (zs zf163 0 8 ++ [vT] ++ (zs zf163 9 105))) kr (fun zf163 => ?_)
  refine wpIn_ret ?_
  refine leave0 (v := vT) (res1 Try.results3 rfl) ?_
  exact ⟨rfl, oW⟩
 refine wQ (pL ?_)
 refine wI (n_eql (a := ((wh % ((6 : Nat) : Int)).toNat)) (b := 5) rfl rfl rfl) ?_
 refine wF ([(zf82 0), u1, (zf82 2), vF, (ptr gb 0), (zf82 5), (zf82 6), (zf82 7), (zf82 8), (eN 0), (ptr hb 0)] ++ (zs zf82 11 18 ++ [(eN ((wh % ((6 : Nat) : Int)).toNat))] ++ (zs zf82 30 10 ++ [(Value.bool (decide (((wh % ((6 : Nat) : Int)).toNat) = 2))), (zf82 41), (zf82 42), (zf82 43), (zf82 44), (Value.bool (decide (((wh % ((6 : Nat) : Int)).toNat) = 3))), (Value.bool (decide (((wh % ((6 : Nat) : Int)).toNat) = 3))), (zf82 47), (zf82 48), (zf82 49), (Value.bool (decide (((wh % ((6 : Nat) : Int)).toNat) = 4))), (Value.bool (decide (((wh % ((6 : Nat) : Int)).toNat) = 4))), (zf82 52), (zf82 53), (zf82 54), (zf82 55), (Value.bool (decide (((wh % ((6 : Nat) : Int)).toNat) = 5)))] ++ (zs zf82 57 57)))) ?_
 refine wI (d_assign rfl) ?_
 refine wD (tN ?_)
 refine cond_if rfl (fun q5 => ?_) (fun q5 => ?_)
 ·
  refine pL ?_
  refine wI (d_move rfl) ?_
  refine wI (n_sub (a := 4) (b := 0) rfl rfl oo oo) ?_
  refine wI (d_fieldAddr (j := 2) Try.underlying23 rfl s_ti3 (by decide) rfl rfl) ?_
  refine wO (d_store s_ti3 rfl rfl rfl a24 (nb rfl) rfl) ?_
  rintro _ w164 ⟨a165, o166⟩
  replace h1 := h1.stepb o166 in1
  replace a13 := a13.step o166 (fun e => absurd e n_gb_hb)
  replace oW := oW.tailb o166 g_oW_hb
  refine wF ([(zf82 0), u1, (zf82 2), vF, (ptr gb 0), (zf82 5), (zf82 6), (zf82 7), (zf82 8), (eN 0), (ptr hb 0)] ++ (zs zf82 11 18 ++ [(eN ((wh % ((6 : Nat) : Int)).toNat))] ++ (zs zf82 30 10 ++ [(Value.bool (decide (((wh % ((6 : Nat) : Int)).toNat) = 2))), (zf82 41), (zf82 42), (zf82 43), (zf82 44), (Value.bool (decide (((wh % ((6 : Nat) : Int)).toNat) = 3))), (Value.bool (decide (((wh % ((6 : Nat) : Int)).toNat) = 3))), (zf82 47), (zf82 48), (zf82 49), (Value.bool (decide (((wh % ((6 : Nat) : Int)).toNat) = 4))), (Value.bool (decide (((wh % ((6 : Nat) : Int)).toNat) = 4))), (zf82 52), (zf82 53), (zf82 54), (Value.bool (decide (((wh % ((6 : Nat) : Int)).toNat) = 5))), (Value.bool (decide (((wh % ((6 : Nat) : Int)).toNat) = 5))), (eN 0), (eN 4), (ptr hb 2)] ++ (zs zf82 60 54)))) ?_
  refine wD ?_
  refine inb_n (tN ?_)
  refine forget (fun zf167 => ([(zf167 0), u1, (zf167 2), vF, (ptr gb 0)] ++ (zs zf167 5 5 ++ [(ptr hb 0)] ++ (zs zf167 11 103)))) kr (fun zf167 => ?_)
  refine wQ (pL ?_)
  refine wI (d_loadAg (vs := [(eI a), (eI b), (eI c)]) ⟨_, Try.underlying23, rfl⟩ s_ti23 rfl a13 rfl rfl) ?_
  refine wI (d_move rfl) ?_
  refine wO (d_call (xl := [.tmp 61, .tmp 62]) (al := [(Value.agg #[(eI a), (eI b), (eI c)]), u1]) Try.func13 kr rfl rfl rfl (nandNewA_ok a b c lb u1 _ (Ps.no h1) (by first | omega | simp))) ?_
  rintro _ w168 ⟨u170, rfl, o169⟩
  replace h1 := h1.step0 o169
  replace a13 := a13.step0 o169
  replace a165 := a165.step0 o169
  replace oW := oW.tail0 o169
  refine wI (d_move rfl) ?_
  refine wI (d_extract (v := u170) rfl rfl) ?_
  refine wF ([(zf167 0), u1, (zf167 2), vF, (ptr gb 0)] ++ (zs zf167 5 5 ++ [(ptr hb 0)] ++ (zs zf167 11 49 ++ [(Value.tuple #[u170, (eN (newA a b c lb))]), (Value.agg #[(eI a), (eI b), (eI c)]), u1, (Value.tuple #[u170, (eN (newA a b c lb))]), u170] ++ (zs zf167 65 49)))) ?_
  refine wI (d_extract (v := (eN (newA a b c lb))) rfl rfl) ?_
  refine wI (d_assign rfl) ?_
  refine wI (d_assign rfl) ?_
  refine wD (tN (wQ (pL ?_)))
  refine wI (d_loadAg (vs := [(eI a), (eI b), (eI c)]) ⟨_, Try.underlying23, rfl⟩ s_ti23 rfl a13 rfl rfl) ?_
  refine wI (d_move rfl) ?_
  refine wF ([(zf167 0), u1, (zf167 2), vF, (ptr gb 0)] ++ (zs zf167 5 5 ++ [(ptr hb 0), u170, (eN (newA a b c lb))] ++ (zs zf167 13 47 ++ [(Value.tuple #[u170, (eN (newA a b c lb))]), (Value.agg #[(eI a), (eI b), (eI c)]), u1, (Value.tuple #[u170, (eN (newA a b c lb))]), u170, (eN (newA a b c lb)), (zf167 66), (Value.agg #[(eI a), (eI b), (eI c)]), u1] ++ (zs zf167 69 45)))) ?_
  refine wO (d_call (xl := [.tmp 67, .tmp 68]) (al := [(Value.agg #[(eI a), (eI b), (eI c)]), u1]) Try.func14 kr rfl rfl rfl (ref7NewA_ok a b c lb u1 _ (Ps.no h1) (by first | omega | simp))) ?_
  rintro _ w171 ⟨u173, rfl, o172⟩
  replace h1 := h1.step0 o172
  replace a13 := a13.step0 o172
  replace a165 := a165.step0 o172
  replace oW := oW.tail0 o172
  refine wI (d_move rfl) ?_
  refine wI (d_extract (v := u173) rfl rfl) ?_
  refine wI (d_extract (v := (eN (newA a b c lb))) rfl rfl) ?_
  refine wI (d_assign rfl) ?_
  refine wF ([(zf167 0), u1, (zf167 2), vF, (ptr gb 0)] ++ (zs zf167 5 5 ++ [(ptr hb 0), u170, (eN (newA a b c lb)), u173] ++ (zs zf167 14 46 ++ [(Value.tuple #[u170, (eN (newA a b c lb))]), (Value.agg #[(eI a), (eI b), (eI c)]), u1, (Value.tuple #[u170, (eN (newA a b c lb))]), u170, (eN (newA a b c lb)), (Value.tuple #[u173, (eN (newA a b c lb))]), (Value.agg #[(eI a), (eI b), (eI c)]), u1, (Value.tuple #[u173, (eN (newA a b c lb))]), u173, (eN (newA a b c lb))] ++ (zs zf167 72 42)))) ?_
  refine wI (d_assign rfl) ?_
  refine wD (tN ?_)
  refine forget (fun zf174 => ([(zf174 0), u1, (zf174 2), vF, (ptr gb 0)] ++ (zs zf174 5 5 ++ [(ptr hb 0), (zf174 11), (eN (newA a b c lb)), (zf174 13), (eN (newA a b c lb))] ++ (zs zf174 15 99)))) kr (fun zf174 => ?_)
  refine wQ (pL ?_)
  refine wI (d_loadAg (vs := [(eN 7), (eN 9), (eN 4)]) ⟨_, Try.underlying23, rfl⟩ s_ti23 rfl a165 rfl rfl) ?_
  refine wO (d_call (xl := [.tmp 73, .const (.slice none 0 0)]) (al := [(Value.agg #[(eN 7), (eN 9), (eN 4)]), (Value.slice none 0 0)]) Try.func13 kr rfl rfl rfl (nandNewA_ok 7 9 4 ([] : List (Int × Int)) (Value.slice none 0 0) _ seq_nilA (by first | omega | simp))) ?_
  rintro _ w175 ⟨u177, rfl, o176⟩
  replace h1 := h1.step0 o176
  replace a13 := a13.step0 o176
  replace a165 := a165.step0 o176
  replace oW := oW.tail0 o176
  refine wI (d_move rfl) ?_
  refine wI (d_extract (v := u177) rfl rfl) ?_
  refine wI (d_extract (v := (eN (newA 7 9 4 ([] : List (Int × Int))))) rfl rfl) ?_
  refine wF ([(zf174 0), u1, (zf174 2), vF, (ptr gb 0)] ++ (zs zf174 5 5 ++ [(ptr hb 0), (zf174 11), (eN (newA a b c lb)), (zf174 13), (eN (newA a b c lb))] ++ (zs zf174 15 57 ++ [(Value.tuple #[u177, (eN (newA 7 9 4 ([] : List (Int × Int))))]), (Value.agg #[(eN 7), (eN 9), (eN 4)]), (Value.tuple #[u177, (eN (newA 7 9 4 ([] : List (Int × Int))))]), u177, (eN (newA 7 9 4 ([] : List (Int × Int))))] ++ (zs zf174 77 37)))) ?_
  refine wI (d_assign rfl) ?_
  refine wI (d_assign rfl) ?_
  refine wD (tN (wQ (pL ?_)))
  refine wI (d_loadAg (vs := [(eI a), (eI b), (eI c)]) ⟨_, Try.underlying23, rfl⟩ s_ti23 rfl a13 rfl rfl) ?_
  refine wO (d_call (xl := [.tmp 78]) (al := [(Value.agg #[(eI a), (eI b), (eI c)])]) Try.func15 kr rfl rfl rfl (law7Make_ok a b c _)) ?_
  rintro _ w178 ⟨rfl, o179⟩
  replace h1 := h1.step0 o179
  replace a13 := a13.step0 o179
  replace a165 := a165.step0 o179
  replace oW := oW.tail0 o179
  refine wI (d_move rfl) ?_
  refine wF ([(zf174 0), u1, (zf174 2), vF, (ptr gb 0)] ++ (zs zf174 5 5 ++ [(ptr hb 0), (zf174 11), (eN (newA a b c lb)), (zf174 13), (eN (newA a b c lb)), u177, (eN (newA 7 9 4 ([] : List (Int × Int))))] ++ (zs zf174 17 55 ++ [(Value.tuple #[u177, (eN (newA 7 9 4 ([] : List (Int × Int))))]), (Value.agg #[(eN 7), (eN 9), (eN 4)]), (Value.tuple #[u177, (eN (newA 7 9 4 ([] : List (Int × Int))))]), u177, (eN (newA 7 9 4 ([] : List (Int × Int)))), (zf174 77), (Value.agg #[(eI a), (eI b), (eI c)]), (Value.agg #[(eN (6 + (a % ((3 : Nat) : Int)).toNat)), (eN (8 + (b % ((5 : Nat) : Int)).toNat)), (eN (4 + (c % ((5 : Nat) : Int)).toNat))]), u1] ++ (zs zf174 81 33)))) ?_
  refine wO (d_call (xl := [.tmp 79, .tmp 80]) (al := [(Value.agg #[(eN (6 + (a % ((3 : Nat) : Int)).toNat)), (eN (8 + (b % ((5 : Nat) : Int)).toNat)), (eN (4 + (c % ((5 : Nat) : Int)).toNat))]), u1]) Try.func13 kr rfl rfl rfl (nandNewA_ok ((6 + (a % ((3 : Nat) : Int)).toNat : Nat) : Int) ((8 + (b % ((5 : Nat) : Int)).toNat : Nat) : Int) ((4 + (c % ((5 : Nat) : Int)).toNat : Nat) : Int) lb u1 _ (Ps.no h1) (by first | omega | simp))) ?_
  rintro _ w180 ⟨u182, rfl, o181⟩
  replace h1 := h1.step0 o181
  replace a13 := a13.step0 o181
  replace a165 := a165.step0 o181
  replace oW := oW.tail0 o181
  refine wI (d_move rfl) ?_
  refine wI (d_extract (v := u182) rfl rfl) ?_
  refine wI (d_extract (v := (eN (newA ((6 + (a % ((3 : Nat) : Int)).toNat : Nat) : Int) ((8 + (b % ((5 : Nat) : Int)).toNat : Nat) : Int) ((4 + (c % ((5 : Nat) : Int)).toNat : Nat) : Int) lb))) rfl rfl) ?_
  refine wI (d_assign rfl) ?_
  refine wF ([(zf174 0), u1, (zf174 2), vF, (ptr gb 0)] ++ (zs zf174 5 5 ++ [(ptr hb 0), (zf174 11), (eN (newA a b c lb)), (zf174 13), (eN (newA a b c lb)), u177, (eN (newA 7 9 4 ([] : List (Int × Int)))), u182] ++ (zs zf174 18 54 ++ [(Value.tuple #[u177, (eN (newA 7 9 4 ([] : List (Int × Int))))]), (Value.agg #[(eN 7), (eN 9), (eN 4)]), (Value.tuple #[u177, (eN (newA 7 9 4 ([] : List (Int × Int))))]), u177, (eN (newA 7 9 4 ([] : List (Int × Int)))), (Value.tuple #[u182, (eN (newA ((6 + (a % ((3 : Nat) : Int)).toNat : Nat) : Int) ((8 + (b % ((5 : Nat) : Int)).toNat : Nat) : Int) ((4 + (c % ((5 : Nat) : Int)).toNat : Nat) : Int) lb))]), (Value.agg #[(eI a), (eI b), (eI c)]), (Value.agg #[(eN (6 + (a % ((3 : Nat) : Int)).toNat)), (eN (8 + (b % ((5 : Nat) : Int)).toNat)), (eN (4 + (c % ((5 : Nat) : Int)).toNat))]), u1, (Value.tuple #[u182, (eN (newA ((6 + (a % ((3 : Nat) : Int)).toNat : Nat) : Int) ((8 + (b % ((5 : Nat) : Int)).toNat : Nat) : Int) ((4 + (c % ((5 : Nat) : Int)).toNat : Nat) : Int) lb))]), u182, (eN (newA ((6 + (a % ((3 : Nat) : Int)).toNat : Nat) : Int) ((8 + (b % ((5 : Nat) : Int)).toNat : Nat) : Int) ((4 + (c % ((5 : Nat) : Int)).toNat : Nat) : Int) lb))] ++ (zs zf174 84 30)))) ?_
  refine wI (d_assign rfl) ?_
  refine wD (tN ?_)
  refine forget (fun zf183 => ([(zf183 0), u1, (zf183 2), vF, (ptr gb 0)] ++ (zs zf183 5 7 ++ [(eN (newA a b c lb)), (zf183 13), (eN (newA a b c lb)), (zf183 15), (eN (newA 7 9 4 ([] : List (Int × Int)))), (zf183 17), (eN (newA ((6 + (a % ((3 : Nat) : Int)).toNat : Nat) : Int) ((8 + (b % ((5 : Nat) : Int)).toNat : Nat) : Int) ((4 + (c % ((5 : Nat) : Int)).toNat : Nat) : Int) lb))] ++ (zs zf183 19 95)))) kr (fun zf183 => ?_)
  refine wQ (pL ?_)
  refine wI (d_loadAg (vs := [(eI a), (eI b), (eI c)]) ⟨_, Try.underlying23, rfl⟩ s_ti23 rfl a13 rfl rfl) ?_
  refine wO (d_call (xl := [.tmp 85]) (al := [(Value.agg #[(eI a), (eI b), (eI c)])]) Try.func15 kr rfl rfl rfl (law7Make_ok a b c _)) ?_
  rintro _ w184 ⟨rfl, o185⟩
  replace h1 := h1.step0 o185
  replace a13 := a13.step0 o185
  replace a165 := a165.step0 o185
  replace oW := oW.tail0 o185
  refine wI (d_move rfl) ?_
  refine wO (d_call (xl := [.tmp 86, .tmp 87]) (al := [(Value.agg #[(eN (6 + (a % ((3 : Nat) : Int)).toNat)), (eN (8 + (b % ((5 : Nat) : Int)).toNat)), (eN (4 + (c % ((5 : Nat) : Int)).toNat))]), u1]) Try.func14 kr rfl rfl rfl (ref7NewA_ok ((6 + (a % ((3 : Nat) : Int)).toNat : Nat) : Int) ((8 + (b % ((5 : Nat) : Int)).toNat : Nat) : Int) ((4 + (c % ((5 : Nat) : Int)).toNat : Nat) : Int) lb u1 _ (Ps.no h1) (by first | omega | simp))) ?_
  rintro _ w186 ⟨u188, rfl, o187⟩
  replace h1 := h1.step0 o187
  replace a13 := a13.step0 o187
  replace a165 := a165.step0 o187
  replace oW := oW.tail0 o187
  refine wI (d_move rfl) ?_
  refine wF ([(zf183 0), u1, (zf183 2), vF, (ptr gb 0)] ++ (zs zf183 5 7 ++ [(eN (newA a b c lb)), (zf183 13), (eN (newA a b c lb)), (zf183 15), (eN (newA 7 9 4 ([] : List (Int × Int)))), (zf183 17), (eN (newA ((6 + (a % ((3 : Nat) : Int)).toNat : Nat) : Int) ((8 + (b % ((5 : Nat) : Int)).toNat : Nat) : Int) ((4 + (c % ((5 : Nat) : Int)).toNat : Nat) : Int) lb))] ++ (zs zf183 19 65 ++ [(Value.tuple #[u188, (eN (newA ((6 + (a % ((3 : Nat) : Int)).toNat : Nat) : Int) ((8 + (b % ((5 : Nat) : Int)).toNat : Nat) : Int) ((4 + (c % ((5 : Nat) : Int)).toNat : Nat) : Int) lb))]), (Value.agg #[(eI a), (eI b), (eI c)]), (Value.agg #[(eN (6 + (a % ((3 : Nat) : Int)).toNat)), (eN (8 + (b % ((5 : Nat) : Int)).toNat)), (eN (4 + (c % ((5 : Nat) : Int)).toNat))]), u1, (Value.tuple #[u188, (eN (newA ((6 + (a % ((3 : Nat) : Int)).toNat : Nat) : Int) ((8 + (b % ((5 : Nat) : Int)).toNat : Nat) : Int) ((4 + (c % ((5 : Nat) : Int)).toNat : Nat) : Int) lb))])] ++ (zs zf183 89 25)))) ?_
  refine wI (d_extract (v := u188) rfl rfl) ?_
  refine wI (d_extract (v := (eN (newA ((6 + (a % ((3 : Nat) : Int)).toNat : Nat) : Int) ((8 + (b % ((5 : Nat) : Int)).toNat : Nat) : Int) ((4 + (c % ((5 : Nat) : Int)).toNat : Nat) : Int) lb))) rfl rfl) ?_
  refine wI (d_assign rfl) ?_
  refine wI (d_assign rfl) ?_
  refine wD (tN ?_)
  refine forget (fun zf189 => ([(zf189 0), (zf189 1), (zf189 2), vF] ++ (zs zf189 4 8 ++ [(eN (newA a b c lb)), (zf189 13), (eN (newA a b c lb)), (zf189 15), (eN (newA 7 9 4 ([] : List (Int × Int)))), (zf189 17), (eN (newA ((6 + (a % ((3 : Nat) : Int)).toNat : Nat) : Int) ((8 + (b % ((5 : Nat) : Int)).toNat : Nat) : Int) ((4 + (c % ((5 : Nat) : Int)).toNat : Nat) : Int) lb)), (zf189 19), (eN (newA ((6 + (a % ((3 : Nat) : Int)).toNat : Nat) : Int) ((8 + (b % ((5 : Nat) : Int)).toNat : Nat) : Int) ((4 + (c % ((5 : Nat) : Int)).toNat : Nat) : Int) lb))] ++ (zs zf189 21 93)))) kr (fun zf189 => ?_)
  refine wQ (pL ?_)
  refine wI (d_move rfl) ?_
  refine wI (d_move rfl) ?_
  refine wI (n_eql (a := (newA a b c lb)) (b := (newA a b c lb)) rfl rfl (decide_eq_true rfl)) ?_
  refine wI (d_move rfl) ?_
  refine wG (d_move rfl) ?_
  refine wF ([(zf189 0), (zf189 1), (zf189 2), vF] ++ (zs zf189 4 8 ++ [(eN (newA a b c lb)), (zf189 13), (eN (newA a b c lb)), (zf189 15), (eN (newA 7 9 4 ([] : List (Int × Int)))), (zf189 17), (eN (newA ((6 + (a % ((3 : Nat) : Int)).toNat : Nat) : Int) ((8 + (b % ((5 : Nat) : Int)).toNat : Nat) : Int) ((4 + (c % ((5 : Nat) : Int)).toNat : Nat) : Int) lb)), (zf189 19), (eN (newA ((6 + (a % ((3 : Nat) : Int)).toNat : Nat) : Int) ((8 + (b % ((5 : Nat) : Int)).toNat : Nat) : Int) ((4 + (c % ((5 : Nat) : Int)).toNat : Nat) : Int) lb))] ++ (zs zf189 21 70 ++ [(eN (newA a b c lb)), (eN (newA a b c lb)), vT, vT, (eN (newA ((6 + (a % ((3 : Nat) : Int)).toNat : Nat) : Int) ((8 + (b % ((5 : Nat) : Int)).toNat : Nat) : Int) ((4 + (c % ((5 : Nat) : Int)).toNat : Nat) : Int) lb))] ++ (zs zf189 96 18)))) ?_
  refine wG (d_move rfl) ?_
  refine wG (n_eql (a := (newA ((6 + (a % ((3 : Nat) : Int)).toNat : Nat) : Int) ((8 + (b % ((5 : Nat) : Int)).toNat : Nat) : Int) ((4 + (c % ((5 : Nat) : Int)).toNat : Nat) : Int) lb)) (b := (newA ((6 + (a % ((3 : Nat) : Int)).toNat : Nat) : Int) ((8 + (b % ((5 : Nat) : Int)).toNat : Nat) : Int) ((4 + (c % ((5 : Nat) : Int)).toNat : Nat) : Int) lb)) rfl rfl (decide_eq_true rfl)) ?_
  refine wI (d_pick (b := true) (v := vT) rfl rfl) ?_
  refine wI (d_move rfl) ?_
  refine wG (d_move rfl) ?_
  refine wF ([(zf189 0), (zf189 1), (zf189 2), vF] ++ (zs zf189 4 8 ++ [(eN (newA a b c lb)), (zf189 13), (eN (newA a b c lb)), (zf189 15), (eN (newA 7 9 4 ([] : List (Int × Int)))), (zf189 17), (eN (newA ((6 + (a % ((3 : Nat) : Int)).toNat : Nat) : Int) ((8 + (b % ((5 : Nat) : Int)).toNat : Nat) : Int) ((4 + (c % ((5 : Nat) : Int)).toNat : Nat) : Int) lb)), (zf189 19), (eN (newA ((6 + (a % ((3 : Nat) : Int)).toNat : Nat) : Int) ((8 + (b % ((5 : Nat) : Int)).toNat : Nat) : Int) ((4 + (c % ((5 : Nat) : Int)).toNat : Nat) : Int) lb))] ++ (zs zf189 21 70 ++ [(eN (newA a b c lb)), (eN (newA a b c lb)), vT, vT, (eN (newA ((6 + (a % ((3 : Nat) : Int)).toNat : Nat) : Int) ((8 + (b % ((5 : Nat) : Int)).toNat : Nat) : Int) ((4 + (c % ((5 : Nat) : Int)).toNat : Nat) : Int) lb)), (eN (newA ((6 + (a % ((3 : Nat) : Int)).toNat : Nat) : Int) ((8 + (b % ((5 : Nat) : Int)).toNat : Nat) : Int) ((4 + (c % ((5 : Nat) : Int)).toNat : Nat) : Int) lb)), vT, vT, vT, (eN (newA 7 9 4 ([] : List (Int × Int))))] ++ (zs zf189 101 13)))) ?_
  refine wG (n_eql (a := (newA 7 9 4 ([] : List (Int × Int)))) (b := 0) rfl rfl (decide_eq_true (newA_nil (by unfold fitsA; omega)))) ?_
  refine wG (d_move rfl) ?_
  refine wG (d_not rfl rfl) ?_
  refine wG (d_beql Try.underlying4 rfl rfl rfl) ?_
  refine wI (d_pick (b := true) (v := vT) rfl rfl) ?_
  refine wF ([(zf189 0), (zf189 1), (zf189 2), vF] ++ (zs zf189 4 8 ++ [(eN (newA a b c lb)), (zf189 13), (eN (newA a b c lb)), (zf189 15), (eN (newA 7 9 4 ([] : List (Int × Int)))), (zf189 17), (eN (newA ((6 + (a % ((3 : Nat) : Int)).toNat : Nat) : Int) ((8 + (b % ((5 : Nat) : Int)).toNat : Nat) : Int) ((4 + (c % ((5 : Nat) : Int)).toNat : Nat) : Int) lb)), (zf189 19), (eN (newA ((6 + (a % ((3 : Nat) : Int)).toNat : Nat) : Int) ((8 + (b % ((5 : Nat) : Int)).toNat : Nat) : Int) ((4 + (c % ((5 : Nat) : Int)).toNat : Nat) : Int) lb))] ++ (zs zf189 21 70 ++ [(eN (newA a b c lb)), (eN (newA a b c lb)), vT, vT, (eN (newA ((6 + (a % ((3 : Nat) : Int)).toNat : Nat) : Int) ((8 + (b % ((5 : Nat) : Int)).toNat : Nat) : Int) ((4 + (c % ((5 : Nat) : Int)).toNat : Nat) : Int) lb)), (eN (newA ((6 + (a % ((3 : Nat) : Int)).toNat : Nat) : Int) ((8 + (b % ((5 : Nat) : Int)).toNat : Nat) : Int) ((4 + (c % ((5 : Nat) : Int)).toNat : Nat) : Int) lb)), vT, vT, vT, (eN (newA 7 9 4 ([] : List (Int × Int)))), vT, vF, vT, vT, vT] ++ (zs zf189 106 8)))) ?_
  refine wI (d_move rfl) ?_
  refine wG (d_move rfl) ?_
  refine wG (d_not rfl rfl) ?_
  refine wG (d_move rfl) ?_
  refine wX ?_
  refine wF ([(zf189 0), (zf189 1), (zf189 2), vF] ++ (zs zf189 4 8 ++ [(eN (newA a b c lb)), (zf189 13), (eN (newA a b c lb)), (zf189 15), (eN (newA 7 9 4 ([] : List (Int × Int)))), (zf189 17), (eN (newA ((6 + (a % ((3 : Nat) : Int)).toNat : Nat) : Int) ((8 + (b % ((5 : Nat) : Int)).toNat : Nat) : Int) ((4 + (c % ((5 : Nat) : Int)).toNat : Nat) : Int) lb)), (zf189 19), (eN (newA ((6 + (a % ((3 : Nat) : Int)).toNat : Nat) : Int) ((8 + (b % ((5 : Nat) : Int)).toNat : Nat) : Int) ((4 + (c % ((5 : Nat) : Int)).toNat : Nat) : Int) lb))] ++ (zs zf189 21 70 ++ [(eN (newA a b c lb)), (eN (newA a b c lb)), vT, vT, (eN (newA ((6 + (a % ((3 : Nat) : Int)).toNat : Nat) : Int) ((8 + (b % ((5 : Nat) : Int)).toNat : Nat) : Int) ((4 + (c % ((5 : Nat) : Int)).toNat : Nat) : Int) lb)), (eN (newA ((6 + (a % ((3 : Nat) : Int)).toNat : Nat) : Int) ((8 + (b % ((5 : Nat) : Int)).toNat : Nat) : Int) ((4 + (c % ((5 : Nat) : Int)).toNat : Nat) : Int) lb)), vT, vT, vT, (eN (newA 7 9 4 ([] : List (Int × Int)))), vT, vF, vT, vT, vT, vT, vF, vT, vT, undef, (zf189 111), (zf189 112), (zf189 113)]))) ?_
  refine wX ?_
  refine wG (d_pick (b := true) (v := vT) rfl rfl) ?_
  refine wI (d_pick (b := true) (v := vT) rfl rfl) ?_
  refine wI (d_assign rfl) ?_
  refine wD (tN ?_)
  refine forget (fun zf190 => (zs zf190 0 8 ++ [vT] ++ (zs zf190 9 105))) kr (fun zf190 => ?_)
  refine wpIn_ret ?_
  refine leave0 (v := vT) (res1 Try.results3 rfl) ?_
  exact ⟨rfl, oW⟩
 exact absurd (Int.emod_lt_of_pos wh (show (0 : Int) < ((6 : Nat) : Int) by decide)) (by have := Int.emod_nonneg wh (show ((6 : Nat) : Int) ≠ 0 by decide); omega)
theorem nandMakes_law (a b c : Int) (lb : List (Int × Int)) (wh : Int) (bh : Bool) (u1 : Value) (W : World) (h1 : Ps No (Seq (kA 2 eQ) lb u1) W) : CW Try.prog 3 #[(.agg #[(eI a), (eI b), (eI c)]), u1, (eI wh), (.bool bh)] W (Rt (RIs (.bool true) W)) := by
  cases bh
  · exact nandMakes_false a b c lb wh u1 W h1
  · exact nandMakes_true a b c lb wh u1 W h1
end Go.Proofs.YtpamdlnobekihaaF
namespace Go.Proofs.YtpamdlnobekihaaF
open Go
section
open Go.ChangeShapes Go.WideShapes Go.ChangeAt
variable {H : Type} {enc : TypeId × Value → H} {P : Program} {w : World} {base : Nat} {spare : Nat → Bool} {held : Bool} {t ti : TypeId} {f0 f1 f2 : Field}
theorem open_g3 {r : Reach} {b0 : Nat} {v : Value} {d : DataW H} {ps : List MemPlace} (ht : P.underlying t = some (.struct #[f0, f1, f2])) (hi : P.underlying ti = some (.int .i64)) (e0 : f0.type = ti ∧ f0.offset = 0) (e1 : f1.type = ti ∧ f1.offset = 1) (e2 : f2.type = ti ∧ f2.offset = 2) (hc : P.cellsOf ti = 1) (hc3 : P.cellsOf t = 3)
  (hval : Value.okWide P w r b0 t v) (hd : DataW.Trod enc P w base spare held t v d ps) :
  ∃ a b c, v = .agg #[.int .i64 a, .int .i64 b, .int .i64 c] ∧ d = .agg [.lit (.int .i64 a), .lit (.int .i64 b), .lit (.int .i64 c)] ∧ ps = [] ∧ (Lit.int .i64 a).wf = true ∧ (Lit.int .i64 b).wf = true ∧ (Lit.int .i64 c).wf = true := by
 obtain ⟨cs, rfl, hs⟩ := okWide_struct ht hval
 obtain ⟨fuel, hf⟩ := hd
 obtain ⟨xs, n, _, hx, hl, hlen, hp⟩ := DataW.trod_struct ht hf
 match xs, hlen with
 | [y0, y1, y2], _ =>
  have p0 := hp 0 f0 rfl
  have p1 := hp 1 f1 rfl
  have p2 := hp 2 f2 rfl
  rw [e0.1, e0.2, hc] at p0
  rw [e1.1, e1.2, hc] at p1
  rw [e2.1, e2.2, hc] at p2
  have hcl : (Value.agg cs).cells.toList = cs.toList := rfl
  rw [hcl] at p0 p1 p2 hl
  rw [hc3] at hl
  obtain ⟨a, h0, g0, w0⟩ := DataW.trod_int hi (by simpa using p0)
  obtain ⟨b, h1, g1, w1⟩ := DataW.trod_int hi (by simpa using p1)
  obtain ⟨c, h2, g2, w2⟩ := DataW.trod_int hi (by simpa using p2)
  have hcs : cs.toList = [.int .i64 a, .int .i64 b, .int .i64 c] := by
   match h : cs.toList, hl with
   | [x, y, z], _ =>
    rw [h] at h0 h1 h2
    simp at h0 h1 h2
    rw [h0, h1, h2]
  have hcs' : cs = #[.int .i64 a, .int .i64 b, .int .i64 c] := by apply Array.ext'; simpa using hcs
  refine ⟨a, b, c, by rw [hcs'], ?_, ?_, w0, w1, w2⟩
  ·have := congrArg Prod.fst hx
   simp at this
   rw [this, g0, g1, g2]
  ·have := congrArg Prod.snd hx
   simp at this
   rw [this, g0, g1, g2]
   rfl
theorem shut_g3 {a b c : Int} (ht : P.underlying t = some (.struct #[f0, f1, f2])) (hi : P.underlying ti = some (.int .i64)) (e0 : f0.type = ti ∧ f0.offset = 0) (e1 : f1.type = ti ∧ f1.offset = 1) (e2 : f2.type = ti ∧ f2.offset = 2) (hc : P.cellsOf ti = 1) (hc3 : P.cellsOf t = 3)
  (w0 : (Lit.int .i64 a).wf = true) (w1 : (Lit.int .i64 b).wf = true) (w2 : (Lit.int .i64 c).wf = true) : DataW.Trod enc P w base spare held t (.agg #[.int .i64 a, .int .i64 b, .int .i64 c]) (.agg [.lit (.int .i64 a), .lit (.int .i64 b), .lit (.int .i64 c)]) [] := by
 refine ⟨2, ?_⟩
 have := trod_struct_mk (enc := enc) (w := w) (base := base) (spare := spare) (held := held) (n := 1) (t := t) (cs := [.int .i64 a, .int .i64 b, .int .i64 c]) (xs := [(.lit (.int .i64 a), []), (.lit (.int .i64 b), []), (.lit (.int .i64 c), [])]) ht (by rw [hc3]; rfl) (by
  simp only [List.mapM_cons, List.mapM_nil, e0.1, e0.2, e1.1, e1.2, e2.1, e2.2, hc]
  have t0 := trod_int_mk (enc := enc) (w := w) (base := base) (spare := spare) (held := held) (n := a) 0 hi w0
  have t1 := trod_int_mk (enc := enc) (w := w) (base := base) (spare := spare) (held := held) (n := b) 0 hi w1
  have t2 := trod_int_mk (enc := enc) (w := w) (base := base) (spare := spare) (held := held) (n := c) 0 hi w2
  simp at t0 t1 t2 ⊢
  simp [t0, t1, t2])
 show DataW.trod enc P w base spare held 2 t [.int .i64 a, .int .i64 b, .int .i64 c] = some _
 simpa using this
end
end Go.Proofs.YtpamdlnobekihaaF
namespace Go.Proofs.YtpamdlnobekihaaF
open Go Shelf YtpamdlnobekihaaS Go.RowKit
def numC : Option Value → Int
 | some (.int _ n) => n
 | _ => 0
section
variable {H : Type} {enc : TypeId × Value → H} {P : Program} {W : World} {base : Nat} {spare : Nat → Bool} {held : Bool} {t e ti : TypeId}
theorem trod_two {fuel : Nat} {cs : List Value} {x : DataW H × List MemPlace} (he : P.underlying e = some (.array 2 ti)) (hi : P.underlying ti = some (.int .i64)) (hc : P.cellsOf ti = 1) (hl : cs.length = 2) (h : DataW.trod enc P W base spare held fuel e cs = some x) : ∃ m n : Int, cs = [.int .i64 m, .int .i64 n] := by
 match cs, hl with
 | [c0, c1], _ =>
  cases fuel with
  | zero => simp [DataW.trod] at h
  | succ n =>
   unfold DataW.trod at h
   rw [he] at h
   have r2 : List.range 2 = [0, 1] := rfl
   simp [r2, hc] at h
   obtain ⟨_, h⟩ := h
   cases h0 : DataW.trod enc P W base spare held n ti [c0] with
   | none => simp [h0] at h
   | some y0 =>
    cases h1 : DataW.trod enc P W base spare held n ti [c1] with
    | none => simp [h0, h1] at h
    | some y1 =>
     obtain ⟨m0, e0, _⟩ := DataW.trod_int hi h0
     obtain ⟨m1, e1, _⟩ := DataW.trod_int hi h1
     injection e0 with e0
     injection e1 with e1
     exact ⟨m0, m1, by rw [e0, e1]⟩
theorem open_pairs {a : Option Addr} {len cap : Nat} {d : DataW H} {ps : List MemPlace} (ht : P.underlying t = some (.slice e)) (he : P.underlying e = some (.array 2 ti)) (hi : P.underlying ti = some (.int .i64)) (hc : P.cellsOf ti = 1) (hc2 : P.cellsOf e = 2)
  (hd : DataW.Trod enc P W base spare held t (.slice a len cap) d ps) : ∃ xs : List (Int × Int), xs.length = len ∧ Ps No (Seq (kA 2 eQ) xs (.slice a len cap)) W := by
 obtain ⟨fuel, hf⟩ := hd
 rcases DataW.trod_slice ht hf with ⟨h0, _⟩ | ⟨x, l, c, elems, rest, n, _, hcs, _, hb, hl, hm, hlen, hel, _, _⟩
 ·simp [Value.cells] at h0
  obtain ⟨rfl, rfl, rfl⟩ := h0
  exact ⟨[], rfl, Ps.mk0 fun w => ⟨none, 0, rfl, Nat.le_refl _, fun i x h => by simp at h⟩⟩
 ·simp [Value.cells] at hcs
  obtain ⟨rfl, rfl, rfl⟩ := hcs
  have each : ∀ i, i < len → ∀ j v, (eQ (numC (W.cell? ((x.add (i * 2)).add 0)), numC (W.cell? ((x.add (i * 2)).add 1))))[j]? = some v → W.cell? ((x.add (i * 2)).add j) = some v := by
   intro i hi'
   have h1 := hel i hi'
   rw [List.getElem?_eq_getElem (by omega), hc2, Option.bind_eq_some_iff] at h1
   obtain ⟨cs, h2, h3⟩ := h1
   obtain ⟨_, h4, h5⟩ := World.cells?_some h2
   obtain ⟨m0, m1, rfl⟩ := trod_two he hi hc h4 h3
   have p0 := h5 0 (by omega)
   have p1 := h5 1 (by omega)
   have p0 : W.cell? ((x.add (i * 2)).add 0) = some (.int .i64 m0) := p0
   have p1 : W.cell? ((x.add (i * 2)).add 1) = some (.int .i64 m1) := p1
   intro j v hv
   rw [p0, p1] at hv
   match j, hv with
   | 0, hv => rw [p0]; exact hv
   | 1, hv => rw [p1]; exact hv
   | j + 2, hv => simp [eQ] at hv
  refine ⟨(List.range len).map fun i => (numC (W.cell? ((x.add (i * 2)).add 0)), numC (W.cell? ((x.add (i * 2)).add 1))), by simp, fun W' hW => ⟨_, cap, by simp, by simpa using hl, fun i v hv => ⟨x, rfl, rfl, fun j y hy => ?_⟩⟩⟩
  rw [List.getElem?_map] at hv
  by_cases hi' : i < len
  ·rw [List.getElem?_range hi'] at hv
   injection hv with hv
   subst hv
   have h1 := each i hi' j y hy
   have hlt : ((x.add (i * 2)).add j).block < W.heap.size := cells_of_cell h1 |>.elim fun _ hx => (Array.getElem?_eq_some_iff.1 hx.1).1
   show W'.cell? ((x.add (i * 2)).add j) = some y
   rw [World.cell?_of_block (w := W) (hW _ hlt id)]
   exact h1
  ·rw [List.getElem?_eq_none (by simpa using hi')] at hv
   cases hv
end
end Go.Proofs.YtpamdlnobekihaaF
