/- Part of the proof of the law RowioBack, for all its inputs. -/
import Derived.Test.YtgalehapmdabeaaKRowioBack2
set_option linter.unusedVariables false
set_option linter.unusedSimpArgs false
set_option maxRecDepth 20000
set_option maxHeartbeats 4000000
namespace Go.Proofs.YtgalehapmdabeaaF
open Go Shelf YtgalehapmdabeaaS Ram
theorem bchGen_ok (W : World) :
    CW Try.prog 65 #[] W (Rt (ROw 5 eB genP W)) := by
 have oW : Only No W W := Only.refl _ _
 refine enter (al := []) (k := 17) (l := (us 17)) Try.func65 rfl Try.ntmps65 rfl rfl ?_
 refine wQ (pL ?_)
 refine wI (d_assign rfl) ?_
 refine wD (tN (wQ ?_))
 refine wp_eq (l' := ([(Value.slice none 0 0)] ++ (us 16))) rfl ?_
 refine pL ?_
 refine wO (d_buildL (cs := [(eB 1)]) Try.underlying22 s_ti5 rfl (nb rfl) (parts_cons (vs := [(eB 1)]) (cells_of (v := (eB 1)) rfl rfl) parts_nil) rfl) ?_
 rintro _ w11 ⟨o, rfl, g12, a13, o14⟩
 replace a13 : Arr 5 o (([1] : List UInt8).map eB) w11 := a13
 have l_o : ([1] : List UInt8).length = 1 := rfl
 have g_oW_o : W.heap.size ≤ o := Nat.le_trans oW.size g12
 replace oW := oW.tail0 o14
 refine wI (d_assign rfl) ?_
 refine wF ([(Value.slice none 0 0), (sli o 0 1 1), undef, undef, (sli o 0 1 1)] ++ (us 12)) ?_
 refine wD ?_
 have a15 := Ow.of_map2 a13 l_o
 have q_oW_r : Fr (some o) none W.heap.size := Fr.new g_oW_o
 refine tN (wQ (wQ (pL ?_)))
 refine wO (d_buildL (cs := [(eN 1), (eN 3), (eN 5), (eN 7)]) Try.underlying23 s_ti3 rfl (nb rfl) (parts_cons (vs := [(eN 1)]) (cells_of (v := (eN 1)) rfl rfl) (parts_cons (vs := [(eN 3)]) (cells_of (v := (eN 3)) rfl rfl) (parts_cons (vs := [(eN 5)]) (cells_of (v := (eN 5)) rfl rfl) (parts_cons (vs := [(eN 7)]) (cells_of (v := (eN 7)) rfl rfl) parts_nil)))) rfl) ?_
 rintro _ w16 ⟨ns, rfl, g17, a18, o19⟩
 replace a18 : Arr 3 ns (([1, 3, 5, 7] : List Nat).map eN) w16 := a18
 have l_ns : ([1, 3, 5, 7] : List Nat).length = 4 := rfl
 have nq_r_ns : ∀ x, (some o) = some x → ¬ x = ns := fun x hx e => by have := a15.lts x hx; omega
 have g_oW_ns : W.heap.size ≤ ns := Nat.le_trans oW.size g17
 replace a15 := a15.step0 o19
 replace oW := oW.tail0 o19
 refine wI (d_len rfl Try.underlying23 rfl) ?_
 refine wI (d_move rfl) ?_
 refine wD (tN (wB ?_))
 have h_lt_ns := a18.lt
 have h_lts_r := a15.lts
 refine loop2 (fun (s_ : (Nat) × (Option Nat) × (Value)) => match s_ with | ⟨i, bo_r, u_r⟩ => fun (z : Nat → Value) => (([(Value.slice none 0 0), u_r, undef, (z 3), (sli o 0 1 1), (sli ns 0 4 4), (eN 4), (eN i)] ++ (zs z 8 8 ++ [undef])) : List Value)) (fun (s_ : (Nat) × (Option Nat) × (Value)) => match s_ with | ⟨i, bo_r, u_r⟩ => fun (w_ : World) => (i ≤ 4) ∧ Only (Or1 ns (Orq (some o) No)) w16 w_ ∧ Arr 3 ns (([1, 3, 5, 7] : List Nat).map eN) w_ ∧ Ow 5 1 bo_r u_r (genI i).length ((genI i).map eB) w_ ∧ Fr bo_r (some o) w16.heap.size) (fun (s_ : (Nat) × (Option Nat) × (Value)) => match s_ with | ⟨i, bo_r, u_r⟩ => 4 - i) ⟨0, (some o), (sli o 0 1 1)⟩ kr ?_ ?_
 ·
  refine ⟨?_, ?_, ?_, ?_, ?_⟩
  ·
   (try dsimp only)
   all_goals (omega)
  ·
   exact Only.refl _ _
  ·
   exact a18
  ·
   exact a15
  ·
   exact Fr.same
 rintro ⟨i, bo_r, u_r⟩ z w21 ⟨hi, o20, a18, a15, qq_r⟩
 (try dsimp only)
 have tq_oW := oW.size
 replace oW := oW.tail o20 (tl_new g_oW_ns (tl_q q_oW_r (fun _ e => by cases e) tl_no))
 replace q_oW_r := qtr qq_r q_oW_r tq_oW
 replace nq_r_ns := nqs nq_r_ns qq_r h_lt_ns
 have q_o20_r := qq_r
 refine wQ (pL ?_)
 refine wI (n_lss (a := i) (b := 4) rfl rfl rfl) ?_
 refine wD (tN (wQ ?_))
 refine cond_if rfl (fun c0 => ?_) (fun c0 => ?_)
 ·
  refine wK (tN (wQ (wB (wQ (pL ?_)))))
  refine wI (d_index1 (n := 4) (i := i) Try.underlying23 s_ti3 rfl (show _ = Value.int _ (i : Int) from rfl) oo) ?_
  refine wI (d_load ⟨_, Try.underlying3, rfl⟩ rfl a18 (m_at (d := 0) (by rw [l_ns]; omega))) ?_
  refine wI (d_assign rfl) ?_
  refine wD (tN (pL ?_))
  refine wI (d_move rfl) ?_
  refine wF [(Value.slice none 0 0), u_r, undef, (eN (([1, 3, 5, 7] : List Nat).getD i 0)), (sli o 0 1 1), (sli ns 0 4 4), (eN 4), (eN i), (Value.bool (decide (i < 4))), (ptr ns i), (eN (([1, 3, 5, 7] : List Nat).getD i 0)), u_r, (z 12), (z 13), (z 14), (z 15), undef] ?_
  refine wI (d_move rfl) ?_
  refine wO (d_call (xl := [.tmp 12]) (al := [(eN (([1, 3, 5, 7] : List Nat).getD i 0))]) Try.func93 kr rfl rfl rfl (minimal_ok (((([1, 3, 5, 7] : List Nat).getD i 0) : Nat) : Int) _)) ?_
  rintro u24 w22 f25
  obtain ⟨f25, o23⟩ := f25
  replace f25 := f25.less (Y := (Or1 ns (Orq bo_r (Old W.heap.size)))) (or1_old a18.lt (orq_old a15.lts (old_old oW.size)))
  replace a18 := a18.step0 o23
  replace a15 := a15.step0 o23
  replace oW := oW.tail0 o23
  replace o20 := o20.tail0 o23
  refine wO (d_call (xl := [.tmp 11, .tmp 13]) (al := [u_r, u24]) Try.func92 kr rfl rfl rfl (mul_ok (genI i) (minP (((([1, 3, 5, 7] : List Nat).getD i 0) : Nat) : Int)) u_r u24 _ (Ps.no (a15.seq (X := No) (fun _ _ h => h))) (Ps.no f25) (by have := genI_len i; first | omega | (simp; done) | (simp; omega)) (by have := minP_le (((([1, 3, 5, 7] : List Nat).getD i 0) : Nat) : Int); first | omega | (simp; done) | (simp; omega)))) ?_
  rintro u28 w26 f29
  obtain ⟨bo30, f29, g31, o27⟩ := f29
  have nq_r2_ns := nq_new g31 a18.lt
  have nqq_r_r2 := nqq_new g31 a15.lts
  have q_oW_r2 := qnew g31 oW.size
  have q_o20_r2 := qnew g31 o20.size
  replace f25 := f25.newq o27 g31
  replace a18 := a18.step0 o27
  replace a15 := a15.step0 o27
  replace oW := oW.tail0 o27
  replace o20 := o20.tail0 o27
  refine wI (d_assign rfl) ?_
  refine wD ?_
  refine inb_n (tN ?_)
  refine pL ?_
  refine wI (n_add (a := i) (b := 1) rfl rfl oo) ?_
  refine wF [(Value.slice none 0 0), u28, undef, (eN (([1, 3, 5, 7] : List Nat).getD i 0)), (sli o 0 1 1), (sli ns 0 4 4), (eN 4), (eN i), (Value.bool (decide (i < 4))), (ptr ns i), (eN (([1, 3, 5, 7] : List Nat).getD i 0)), u_r, (eN (([1, 3, 5, 7] : List Nat).getD i 0)), u24, u28, (eN (i + 1)), undef] ?_
  refine wI (d_move rfl) ?_
  refine wD (tN ?_)
  refine ⟨_, ⟨i + 1, bo30, u28⟩, rfl, kr, ⟨?_, ?_, ?_, ?_, ?_⟩, ?_⟩
  ·
   (try dsimp only)
   all_goals (omega)
  ·
   exact o20
  ·
   exact a18
  ·
   (try dsimp only)
   all_goals (rw [gen_odd c0] at f29; exact f29)
  ·
   exact fun c hc => (q_o20_r2 c hc).elim (fun h => by cases h) .inr
  ·
   (try dsimp only)
   all_goals (omega)
 refine wpIn_exit ?_
 refine then_x (then_x (inb_e ?_))
 refine tN (wQ (pL ?_))
 refine wI (d_move rfl) ?_
 refine wI (d_assign rfl) ?_
 refine wD (tN ?_)
 refine wpIn_ret ?_
 refine leave0 (v := u_r) (res1 Try.results65 rfl) ?_
 exact ROw.mk_ a15 (by rw [show i = 4 by omega]; exact genI_four) q_oW_r oW
theorem bchPlaces_ok (la : List UInt8) (u1 : Value) (W : World) (h1 : Ps No (Seq kB la u1) W) :
    CW Try.prog 91 #[u1] W (Rt (fun u w => ∃ b, u = .func (.func 110) #[] #[ptr b 0] ∧ W.heap.size ≤ b ∧ Arr 22 b [u1] w ∧ Only No W w)) := by
 have oW : Only No W W := Only.refl _ _
 refine enter (al := [u1]) (k := 3) (l := [u1, undef, undef, undef]) Try.func91 rfl Try.ntmps91 rfl rfl ?_
 refine wQ (pL ?_)
 refine wO (d_box rfl (Seq.cells h1)) ?_
 rintro _ w11 ⟨b, rfl, g12, a13, o14⟩
 have g_oW_b : W.heap.size ≤ b := Nat.le_trans oW.size g12
 replace h1 := h1.new o14 g12
 replace oW := oW.tail0 o14
 refine wI (d_assign rfl) ?_
 refine wD (tN (wQ (pL ?_)))
 refine wI (d_funcL (yl := [.tmp 1]) (ys := [(ptr b 0)]) rfl) ?_
 refine wI (d_assign rfl) ?_
 refine wD (tN ?_)
 refine wpIn_ret ?_
 refine leave0 (v := (Value.func (.func 110) #[] #[(ptr b 0)])) (res1 Try.results91 rfl) ?_
 exact ⟨b, rfl, g_oW_b, a13, oW⟩
theorem bchPlaces1_ok {O X : Nat → Prop} {w0 : World} (lw : List UInt8) (uw : Value) (b l : Nat) (J Jx : List Nat → World → Prop) (W : World) (hb : Arr 22 b [uw] W) (kb : Kp O w0.heap.size b) (hw : Ps (OrN X w0.heap.size) (Seq kB lw uw) W) (hX : ∀ k, O k → X k) (hg : lw.length ≤ 1048576) (hy : ∀ pre x, pre ++ [x] <+: onesP lw → ∀ W1, J pre W1 → YieldAt Fence.wide 0 Try.prog l #[eN x] W1 fun e W' => ∃ u, e = .returned u ∧ YR J Jx (Kp O w0.heap.size) (pre ++ [x]) W1 u W') (hJ : J [] W) :
    CW Try.prog 110 #[(Value.func (.yield l) #[] #[]), (ptr b 0)] W (Rt (fun _ W' => J (onesP lw) W' ∨ ∃ pre, pre <+: onesP lw ∧ Jx pre W')) := by
 refine enter (al := [(Value.func (.yield l) #[] #[]), (ptr b 0)]) (k := 30) (l := ([(Value.func (.yield l) #[] #[]), (ptr b 0)] ++ (us 30))) Try.func110 rfl Try.ntmps110 rfl rfl ?_
 refine wQ (pL ?_)
 refine wI (d_load (v := uw) ⟨_, Try.underlying22, rfl⟩ rfl hb rfl) ?_
 refine wI (d_lenS rfl Try.underlying22 rfl hw) ?_
 refine wI (d_move rfl) ?_
 refine wD (tN (wB ?_))
 refine loop2 (fun (i : (Nat)) => fun (z : Nat → Value) => (([(Value.func (.yield l) #[] #[]), (ptr b 0), undef, (z 3), (z 4), (z 5), uw, (eN lw.length), (eN i)] ++ (zs z 9 23)) : List Value)) (fun (i : (Nat)) => fun (w_ : World) => (i ≤ lw.length) ∧ (J (onesTo lw (8 * i)) w_) ∧ Arr 22 b [uw] w_ ∧ Ps (OrN X w0.heap.size) (Seq kB lw uw) w_) (fun (i : (Nat)) => lw.length - i) 0 kr ?_ ?_
 ·
  refine ⟨?_, ?_, ?_, ?_⟩
  ·
   exact Nat.zero_le _
  ·
   exact hJ
  ·
   exact hb
  ·
   exact hw
 rintro i z w12 ⟨hi, hJ, hb, hw⟩
 (try dsimp only)
 refine wQ (pL ?_)
 refine wI (n_lss (a := i) (b := lw.length) rfl rfl rfl) ?_
 refine wD (tN (wQ ?_))
 refine cond_if rfl (fun c1_ => ?_) (fun c1_ => ?_)
 ·
  refine wK (tN (wQ (wB (wQ (pL ?_)))))
  refine wI (d_move rfl) ?_
  refine wI (d_ix (i := i) (xs := lw) Try.underlying22 s_ti5 rfl hw (show _ = Value.int _ (i : Int) from rfl) fo) ?_
  refine wI (d_ldx (i := i) (xs := lw) (enc := eB) (v := (lw.getD i 0)) ⟨_, Try.underlying5, rfl⟩ rfl hw (g_at fo)) ?_
  refine wI (d_assign rfl) ?_
  refine wF ([(Value.func (.yield l) #[] #[]), (ptr b 0), undef, (eN i), (z 4), (z 5), uw, (eN lw.length), (eN i), (Value.bool (decide (i < lw.length))), (eN i), (ixp uw i), (eB (lw.getD i 0))] ++ (zs z 13 19)) ?_
  refine wI (d_assign rfl) ?_
  refine wD (tN (wQ (pL ?_)))
  refine wI (d_move rfl) ?_
  refine wD (tN (wB ?_))
  refine loop2 (fun (k : (Nat)) => fun (z : Nat → Value) => (([(Value.func (.yield l) #[] #[]), (ptr b 0), undef, (eN i), (eB (lw.getD i 0)), (z 5), uw, (eN lw.length), (eN i), (Value.bool (decide (i < lw.length))), (eN i), (ixp uw i), (eB (lw.getD i 0)), (eN k)] ++ (zs z 14 18)) : List Value)) (fun (k : (Nat)) => fun (w_ : World) => (k ≤ 8) ∧ (J (onesTo lw (8 * i + k)) w_) ∧ Arr 22 b [uw] w_ ∧ Ps (OrN X w0.heap.size) (Seq kB lw uw) w_) (fun (k : (Nat)) => 8 - k) 0 kr ?_ ?_
  ·
   refine ⟨?_, ?_, ?_, ?_⟩
   ·
    exact Nat.zero_le _
   ·
    exact hJ
   ·
    exact hb
   ·
    exact hw
  rintro k z w14 ⟨hk, hJ2, hb, hw⟩
  (try dsimp only)
  refine wQ (pL ?_)
  refine wI (n_lss (a := k) (b := 8) rfl rfl rfl) ?_
  refine wD (tN (wQ ?_))
  refine cond_if rfl (fun c2_ => ?_) (fun c2_ => ?_)
  ·
   refine wK (tN (wQ (wB (wQ (pL ?_)))))
   refine wI (d_move rfl) ?_
   refine wI (d_assign rfl) ?_
   refine wD (tN (wQ ?_))
   by_cases kb_ : (((shrB (lw.getD i 0) k) &&& 1) : UInt8) = (1 : UInt8)
   ·
    refine wp_eq (l' := ([(Value.func (.yield l) #[] #[]), (ptr b 0), undef, (eN i), (eB (lw.getD i 0)), (eN k), uw, (eN lw.length), (eN i), (Value.bool (decide (i < lw.length))), (eN i), (ixp uw i), (eB (lw.getD i 0)), (eN k), (Value.bool (decide (k < 8))), (eN k)] ++ (zs z 16 16))) rfl ?_
    refine pL ?_
    refine wI (d_move rfl) ?_
    refine wI (d_move rfl) ?_
    refine wI (b_shr (a := k) rfl rfl oo) ?_
    refine wI (b_and (c := (shrB (lw.getD i 0) k)) (e := 1) rfl rfl) ?_
    refine wI (b_eql (c := ((shrB (lw.getD i 0) k) &&& 1)) (e := 1) rfl rfl (decide_eq_true kb_)) ?_
    refine wF ([(Value.func (.yield l) #[] #[]), (ptr b 0), undef, (eN i), (eB (lw.getD i 0)), (eN k), uw, (eN lw.length), (eN i), (Value.bool (decide (i < lw.length))), (eN i), (ixp uw i), (eB (lw.getD i 0)), (eN k), (Value.bool (decide (k < 8))), (eN k), (eB (lw.getD i 0)), (eN k), (eB (shrB (lw.getD i 0) k)), (eB ((shrB (lw.getD i 0) k) &&& 1)), vT] ++ (zs z 21 11)) ?_
    refine wI (d_move rfl) ?_
    refine wG (d_move rfl) ?_
    refine wG (d_move rfl) ?_
    refine wG (n_mul (a := 8) (b := i) rfl rfl oo) ?_
    refine wG (d_move rfl) ?_
    refine wF ([(Value.func (.yield l) #[] #[]), (ptr b 0), undef, (eN i), (eB (lw.getD i 0)), (eN k), uw, (eN lw.length), (eN i), (Value.bool (decide (i < lw.length))), (eN i), (ixp uw i), (eB (lw.getD i 0)), (eN k), (Value.bool (decide (k < 8))), (eN k), (eB (lw.getD i 0)), (eN k), (eB (shrB (lw.getD i 0) k)), (eB ((shrB (lw.getD i 0) k) &&& 1)), vT, vT, (Value.func (.yield l) #[] #[]), (eN i), (eN (8 * i)), (eN k)] ++ (zs z 26 6)) ?_
    refine wG (n_add (a := (8 * i)) (b := k) rfl rfl oo) ?_
    refine wpL.on rfl rfl rfl (nb rfl) rfl (d_yield (xl := [.tmp 26]) (al := [(eN (8 * i + k))]) rfl rfl (hy _ _ (by rw [ones_yes c2_ kb_]; exact onesTo_pre _ oo) _ hJ2)) ?_
    rintro _ w15 ⟨t, rfl, hT, hF⟩
    refine wG (d_not rfl rfl) ?_
    refine wI (d_pick (b := true) (v := (Value.bool (!t))) rfl rfl) ?_
    refine wF [(Value.func (.yield l) #[] #[]), (ptr b 0), undef, (eN i), (eB (lw.getD i 0)), (eN k), uw, (eN lw.length), (eN i), (Value.bool (decide (i < lw.length))), (eN i), (ixp uw i), (eB (lw.getD i 0)), (eN k), (Value.bool (decide (k < 8))), (eN k), (eB (lw.getD i 0)), (eN k), (eB (shrB (lw.getD i 0) k)), (eB ((shrB (lw.getD i 0) k) &&& 1)), vT, vT, (Value.func (.yield l) #[] #[]), (eN i), (eN (8 * i)), (eN k), (eN (8 * i + k)), (Value.bool t), (Value.bool (!t)), (Value.bool (!t)), (z 30), (z 31)] ?_
    refine wD (tN ?_)
    refine forget (fun zf16 => ([(Value.func (.yield l) #[] #[]), (ptr b 0), undef, (eN i), (eB (lw.getD i 0)), (zf16 5), uw, (eN lw.length), (eN i), (Value.bool (decide (i < lw.length))), (eN i), (ixp uw i), (eB (lw.getD i 0)), (eN k)] ++ (zs zf16 14 15 ++ [(Value.bool (!t)), (zf16 30), (z 31)]))) kr (fun zf16 => ?_)
    refine cond_b rfl (fun c0_ => ?_) (fun c0_ => ?_)
    ·
     refine wpIn_ret ?_
     refine inb_r (then_r (then_r (inb_r (inb_r (then_r (then_r (inb_r ?_)))))))
     refine leave0 (v := (Value.tuple #[])) (res0 Try.results110) ?_
     exact .inr ⟨_, by rw [ones_yes c2_ kb_]; exact onesTo_pre _ oo, hF (by simpa using c0_)⟩
    obtain ⟨hJ3, oY⟩ := hT (by simpa using c0_)
    rw [ones_yes c2_ kb_] at hJ3
    replace hb := hb.step oY (fun h => h kb)
    replace hw := hw.yield hX oY
    refine wK ?_
    refine inb_n (tN ?_)
    refine pL ?_
    refine wI (n_add (a := k) (b := 1) rfl rfl oo) ?_
    refine wI (d_move rfl) ?_
    refine wD (tN ?_)
    refine ⟨_, (k + 1), rfl, kr, ⟨?_, ?_, ?_, ?_⟩, ?_⟩
    ·
     (try dsimp only)
     all_goals (omega)
    ·
     exact hJ3
    ·
     exact hb
    ·
     exact hw
    ·
     (try dsimp only)
     all_goals (omega)
   refine wp_eq (l' := ([(Value.func (.yield l) #[] #[]), (ptr b 0), undef, (eN i), (eB (lw.getD i 0)), (eN k), uw, (eN lw.length), (eN i), (Value.bool (decide (i < lw.length))), (eN i), (ixp uw i), (eB (lw.getD i 0)), (eN k), (Value.bool (decide (k < 8))), (eN k)] ++ (zs z 16 16))) rfl ?_
   refine pL ?_
   refine wI (d_move rfl) ?_
   refine wI (d_move rfl) ?_
   refine wI (b_shr (a := k) rfl rfl oo) ?_
   refine wI (b_and (c := (shrB (lw.getD i 0) k)) (e := 1) rfl rfl) ?_
   refine wI (b_eql (c := ((shrB (lw.getD i 0) k) &&& 1)) (e := 1) rfl rfl (decide_eq_false kb_)) ?_
   refine wF ([(Value.func (.yield l) #[] #[]), (ptr b 0), undef, (eN i), (eB (lw.getD i 0)), (eN k), uw, (eN lw.length), (eN i), (Value.bool (decide (i < lw.length))), (eN i), (ixp uw i), (eB (lw.getD i 0)), (eN k), (Value.bool (decide (k < 8))), (eN k), (eB (lw.getD i 0)), (eN k), (eB (shrB (lw.getD i 0) k)), (eB ((shrB (lw.getD i 0) k) &&& 1)), vF] ++ (zs z 21 11)) ?_
   refine wI (d_move rfl) ?_
   refine wX ?_
   refine wX ?_
   refine wX ?_
   refine wF ([(Value.func (.yield l) #[] #[]), (ptr b 0), undef, (eN i), (eB (lw.getD i 0)), (eN k), uw, (eN lw.length), (eN i), (Value.bool (decide (i < lw.length))), (eN i), (ixp uw i), (eB (lw.getD i 0)), (eN k), (Value.bool (decide (k < 8))), (eN k), (eB (lw.getD i 0)), (eN k), (eB (shrB (lw.getD i 0) k)), (eB ((shrB (lw.getD i 0) k) &&& 1)), vF, vF, undef, undef, undef] ++ (zs z 25 7)) ?_
   refine wX ?_
   refine wX ?_
   refine wX ?_
   refine wX ?_
   refine wI (d_pick (b := false) (v := vF) rfl rfl) ?_
   refine wF ([(Value.func (.yield l) #[] #[]), (ptr b 0), undef, (eN i), (eB (lw.getD i 0)), (eN k), uw, (eN lw.length), (eN i), (Value.bool (decide (i < lw.length))), (eN i), (ixp uw i), (eB (lw.getD i 0)), (eN k), (Value.bool (decide (k < 8))), (eN k), (eB (lw.getD i 0)), (eN k), (eB (shrB (lw.getD i 0) k)), (eB ((shrB (lw.getD i 0) k) &&& 1)), vF, vF] ++ (us 7 ++ [vF, (z 30), (z 31)])) ?_
   refine wD ?_
   have hJ3 := hJ2
   rw [← ones_no c2_ kb_] at hJ3
   refine tN ?_
   refine forget (fun zf17 => ([(Value.func (.yield l) #[] #[]), (ptr b 0), undef, (eN i), (eB (lw.getD i 0)), (zf17 5), uw, (eN lw.length), (eN i), (Value.bool (decide (i < lw.length))), (eN i), (ixp uw i), (eB (lw.getD i 0)), (eN k)] ++ (zs zf17 14 15 ++ [vF, (zf17 30), (z 31)]))) kr (fun zf17 => ?_)
   refine cond_f rfl ?_
   refine wK ?_
   refine inb_n (tN ?_)
   refine pL ?_
   refine wI (n_add (a := k) (b := 1) rfl rfl oo) ?_
   refine wI (d_move rfl) ?_
   refine wD (tN ?_)
   refine ⟨_, (k + 1), rfl, kr, ⟨?_, ?_, ?_, ?_⟩, ?_⟩
   ·
    (try dsimp only)
    all_goals (omega)
   ·
    exact hJ3
   ·
    exact hb
   ·
    exact hw
   ·
    (try dsimp only)
    all_goals (omega)
  refine wpIn_exit ?_
  refine then_x (then_x (inb_e ?_))
  refine inb_n (tN ?_)
  refine pL ?_
  refine wI (n_add (a := i) (b := 1) rfl rfl oo) ?_
  refine wI (d_move rfl) ?_
  refine wD (tN ?_)
  refine ⟨_, (i + 1), rfl, kr, ⟨?_, ?_, ?_, ?_⟩, ?_⟩
  ·
   (try dsimp only)
   all_goals (omega)
  ·
   (try dsimp only)
   all_goals (rw [show k = 8 by omega] at hJ2; exact hJ2)
  ·
   exact hb
  ·
   exact hw
  ·
   (try dsimp only)
   all_goals (omega)
 refine wpIn_exit ?_
 refine then_x (then_x (inb_e ?_))
 refine to_ret ?_
 refine leave0 (v := (Value.tuple #[])) (res0 Try.results110) ?_
 exact .inl (by rw [show i = lw.length by omega] at hJ; exact hJ)
theorem iter_bchPlaces {O X : Nat → Prop} {w0 : World} (lw : List UInt8) (uw : Value) (b : Nat) (hg : lw.length ≤ 1048576) (hb : Arr 22 b [uw] w0) (nb : ¬ O b) (hw : Ps X (Seq kB lw uw) w0) (hX : ∀ k, O k → X k) : Iter Try.prog 110 [ptr b 0].toArray (fun x => [eN x].toArray) No (Kp O w0.heap.size) (onesP lw) w0 :=
  iter_of (encs := fun x => [eN x]) fun l J Jx W hO SJ SJx hy hJ => bchPlaces1_ok lw uw b l J Jx W (hb.step hO (fun h => h ⟨hb.lt, nb⟩)) ⟨hb.lt, nb⟩ (hw.kp hX hO) hX hg hy hJ
theorem bchPoly_ok (la : List UInt8) (u1 : Value) (W : World) (h1 : Ps No (Seq kB la u1) W) (g1 : la.length ≤ 1048576) :
    CW Try.prog 64 #[u1] W (Rt (ROw 5 eB (polyW la) W)) := by
 have oW : Only No W W := Only.refl _ _
 refine enter (al := [u1]) (k := 15) (l := ([u1] ++ (us 15))) Try.func64 rfl Try.ntmps64 rfl rfl ?_
 refine wQ (pL ?_)
 refine wI (d_assign rfl) ?_
 refine wD (tN (wQ (pL ?_)))
 refine wI (d_move rfl) ?_
 refine wI (d_lenS rfl Try.underlying22 rfl h1) ?_
 refine wI (n_mul (a := 8) (b := la.length) rfl rfl oo) ?_
 refine wO (d_make1 (n := 8 * la.length) Try.underlying22 s_ti5 rfl rfl oo oo rfl) ?_
 rintro _ w11 ⟨o, rfl, g12, a13, o14⟩
 replace a13 : Arr 5 o ((List.replicate (8 * la.length) 0).map eB) w11 := by rw [List.map_replicate]; exact a13
 have l_o : (List.replicate (8 * la.length) 0 : List UInt8).length = 8 * la.length := by simp
 have g_oW_o : W.heap.size ≤ o := Nat.le_trans oW.size g12
 replace h1 := h1.new o14 g12
 replace oW := oW.tail0 o14
 refine wF ([u1, undef, (Value.slice none 0 0), undef, undef, u1, (eN la.length), (eN (8 * la.length)), (sli o 0 (8 * la.length) (8 * la.length))] ++ (us 7)) ?_
 refine wO (d_alloc s_ti22 rfl) ?_
 rintro _ w15 ⟨c, rfl, g16, a17, o18⟩
 have n_o_c : o ≠ c := a13.ne g16
 have g_oW_c : W.heap.size ≤ c := Nat.le_trans oW.size g16
 replace h1 := h1.new o18 g16
 replace a13 := a13.step0 o18
 replace oW := oW.tail0 o18
 refine wO (d_store s_ti22 rfl rfl rfl a17 (nb rfl) rfl) ?_
 rintro _ w19 ⟨a20, o21⟩
 replace h1 := h1.stepb o21 in1
 replace a13 := a13.step o21 (fun e => absurd e n_o_c)
 replace oW := oW.tailb o21 g_oW_c
 refine wD (tN (wQ (wQ (pL ?_))))
 refine wI (d_move rfl) ?_
 refine wO (d_call (xl := [.tmp 9]) (al := [u1]) Try.func91 kr rfl rfl rfl (bchPlaces_ok la u1 _ (Ps.no h1))) ?_
 rintro _ w22 ⟨b24, rfl, g25, a26, o23⟩
 have n_o_b24 : o ≠ b24 := a13.ne g25
 have n_c_b24 : c ≠ b24 := a20.ne g25
 have g_oW_b24 : W.heap.size ≤ b24 := Nat.le_trans oW.size g25
 replace h1 := h1.new o23 g25
 replace a13 := a13.step0 o23
 replace a20 := a20.step0 o23
 replace oW := oW.tail0 o23
 refine wD (tN (wB ?_))
 refine wp_eq (l' := ([u1, undef, (Value.slice none 0 0), (ptr c 0), undef, u1, (eN la.length), (eN (8 * la.length)), (sli o 0 (8 * la.length) (8 * la.length)), u1, (Value.func (.func 110) #[] #[(ptr b24 0)])] ++ (us 5))) rfl ?_
 have h_lt_o := a13.lt
 have h_lt_c := a20.lt
 have h_lt_b24 := a26.lt
 have tq_oW := oW.size
 have nO_b24 : ¬ (Or1 c (Or1 o No)) b24 := (not_or1 (Ne.symm n_c_b24) (not_or1 (Ne.symm n_o_b24) not_no))
 obtain ⟨D_, hD_⟩ : ∃ D_, w22.heap.size = D_ := ⟨_, rfl⟩
 obtain ⟨L_, hL_⟩ : ∃ L_, w22.heap.size + 1 = L_ := ⟨_, rfl⟩
 refine range_ (encs := (fun x => [eN x])) (Pv := No) (O := (Or1 c (Or1 o No))) (xs := (onesP la)) (D := D_) (L := L_) (rs := []) hD_ hL_ rfl Try.func110 kr rfl (iter_bchPlaces la u1 b24 fo a26 nO_b24 h1 (or1_skip (or1_mono (or1_mono no_any)))) (fun k t => t.elim) (fun _ => rfl) (lt_or1 h_lt_c (lt_or1 h_lt_o lt_no)) (fun (pre : List Nat) (w_ : World) => Only (Or1 c (Or1 o No)) w22 w_ ∧ (polyTo la pre).length = 8 * la.length ∧ Arr 5 o ((polyTo la pre).map eB) w_ ∧ Arr 22 c [(sli o 0 (8 * la.length) (8 * la.length))] w_ ∧ Arr 22 b24 [u1] w_) (fun _ _ _ => False) ?_ ?_ ?_ ?_ ?_ ?_
 ·
  rintro pre w_ w2_ ⟨o27, l_o, a13, a20, a26⟩ ho_
  exact ⟨o27.tail ho_ (stab_tl hD_ hL_ (fun k t => t.elim)), l_o, a13.step ho_ (stab_b hD_ hL_ h_lt_o (fun t => t.elim)), a20.step ho_ (stab_b hD_ hL_ h_lt_c (fun t => t.elim)), a26.step ho_ (stab_b hD_ hL_ h_lt_b24 (fun t => t.elim))⟩
 ·
  intro _ _ _ _ h _; exact h.elim
 ·
  refine ⟨?_, ?_, ?_, ?_, ?_⟩
  ·
   exact Only.refl _ _
  ·
   exact polyTo_length la []
  ·
   (try dsimp only)
   all_goals (rw [← polyTo_nil]; exact a13)
  ·
   exact a20
  ·
   exact a26
 ·
  intro pre x w1_ hpx_ hI_ hL1_
  obtain ⟨o27, l_o, a13, a20, a26⟩ := hI_
  replace h1 := Ps.re (X' := (Or1 L_ (Or1 D_ (Or1 b24 (Or1 c (Or1 o No)))))) h1 o27 (or1_skip (or1_mono (or1_mono no_any))) (xx_new oo (xx_new (Nat.le_of_eq hD_) (xx_or1 (xx_or1 (xx_or1 xx_id)))))
  replace oW := oW.tail o27 (tl_new g_oW_c (tl_new g_oW_o tl_no))
  have n_o_D_ : o ≠ D_ := by omega
  have n_c_D_ : c ≠ D_ := by omega
  have n_b24_D_ : b24 ≠ D_ := by omega
  have g_oW_D_ : W.heap.size ≤ D_ := by omega
  have g_o27_D_ : w22.heap.size ≤ D_ := by omega
  have n_o_L_ : o ≠ L_ := by omega
  have n_c_L_ : c ≠ L_ := by omega
  have n_b24_L_ : b24 ≠ L_ := by omega
  have g_oW_L_ : W.heap.size ≤ L_ := by omega
  have g_o27_L_ : w22.heap.size ≤ L_ := by omega
  have n_D__L_ : D_ ≠ L_ := by omega
  have aL_ : Dead L_ w1_ := hL1_
  have aD_ : Dead D_ w1_ := by unfold Dead; omega
  refine wp_eq (l' := [u1, undef, (Value.slice none 0 0), (ptr c 0), undef, u1, (eN la.length), (eN (8 * la.length)), (sli o 0 (8 * la.length) (8 * la.length)), u1, (Value.func (.func 110) #[] #[(ptr b24 0)]), (eN x), undef, undef, undef, undef]) kr ?_
  refine pL ?_
  refine wI (d_assign rfl) ?_
  refine wD (tN ?_)
  refine ⟨Only.refl _ _, fun w2_ oL_ _ => ?_⟩
  replace h1 := h1.stepb oL_ in1
  replace a13 := a13.step oL_ (fun e => absurd e n_o_L_)
  replace a20 := a20.step oL_ (fun e => absurd e n_c_L_)
  replace a26 := a26.step oL_ (fun e => absurd e n_b24_L_)
  replace aD_ := aD_.step oL_ (fun e => absurd e n_D__L_)
  replace oW := oW.tailb oL_ g_oW_L_
  replace o27 := o27.tailb oL_ g_o27_L_
  replace aL_ : Dead L_ w2_ := Nat.lt_of_lt_of_le aL_ oL_.size
  have oR_ : Only (fun k => (Or1 c (Or1 o No)) k ∨ L_ < k) w2_ w2_ := Only.refl _ _
  have hx_ := onesP_lt hpx_
  refine wB ?_
  refine wp_eq (l' := [u1, undef, (Value.slice none 0 0), (ptr c 0), (eN x), u1, (eN la.length), (eN (8 * la.length)), (sli o 0 (8 * la.length) (8 * la.length)), u1, (Value.func (.func 110) #[] #[(ptr b24 0)]), (eN x), undef, undef, undef, undef]) rfl ?_
  refine pL ?_
  refine wI (d_load (v := (sli o 0 (8 * la.length) (8 * la.length))) ⟨_, Try.underlying22, rfl⟩ rfl a20 rfl) ?_
  refine wI (d_move rfl) ?_
  refine wI (d_index1 (n := (8 * la.length)) (i := x) Try.underlying22 s_ti5 rfl (show _ = Value.int _ (x : Int) from rfl) oo) ?_
  refine wO (d_store (b := o) (i := x) (v := (eB 1)) s_ti5 rfl rfl rfl a13 (by rw [List.length_map, l_o]; omega) (m_put (polyTo la pre) x 1 eB)) ?_
  rintro _ w28 ⟨a29, o30⟩
  replace h1 := h1.stepb o30 (in2 (in2 (in2 (in2 in1))))
  replace a20 := a20.step o30 (fun e => absurd e (Ne.symm n_o_c))
  replace a26 := a26.step o30 (fun e => absurd e (Ne.symm n_o_b24))
  replace aD_ := aD_.step o30 (fun e => absurd e (Ne.symm n_o_D_))
  replace aL_ := aL_.step o30 (fun e => absurd e (Ne.symm n_o_L_))
  replace oW := oW.tailb o30 g_oW_o
  replace o27 := o27.tail o30 (fun k _ e => by have : k = o := e; rw [this]; exact (in2 in1))
  replace oR_ := oR_.tail o30 (fun k _ e => by have : k = o := e; rw [this]; exact (Or.inl (in2 in1)))
  replace l_o : ((polyTo la pre).set x 1 : List UInt8).length = 8 * la.length := (List.length_set ..).trans l_o
  refine wF [u1, undef, (Value.slice none 0 0), (ptr c 0), (eN x), u1, (eN la.length), (eN (8 * la.length)), (sli o 0 (8 * la.length) (8 * la.length)), u1, (Value.func (.func 110) #[] #[(ptr b24 0)]), (eN x), (sli o 0 (8 * la.length) (8 * la.length)), (eN x), (ptr o x), undef] ?_
  refine wD ?_
  refine inb_n ?_
  refine ⟨oR_, ?_, ?_, ?_, ?_, ?_⟩
  ·
   exact o27
  ·
   exact polyTo_length la _
  ·
   (try dsimp only)
   all_goals (rw [← polyTo_snoc]; exact a29)
  ·
   exact a20
  ·
   exact a26
 ·
  intro w1_ hI_ aD_
  obtain ⟨o27, l_o, a13, a20, a26⟩ := hI_
  replace h1 := Ps.re (X' := (Or1 D_ (Or1 b24 (Or1 c (Or1 o No))))) h1 o27 (or1_skip (or1_mono (or1_mono no_any))) (xx_new (Nat.le_of_eq hD_) (xx_or1 (xx_or1 (xx_or1 xx_id))))
  replace oW := oW.tail o27 (tl_new g_oW_c (tl_new g_oW_o tl_no))
  have n_o_D_ : o ≠ D_ := by omega
  have n_c_D_ : c ≠ D_ := by omega
  have n_b24_D_ : b24 ≠ D_ := by omega
  have g_oW_D_ : W.heap.size ≤ D_ := by omega
  have g_o27_D_ : w22.heap.size ≤ D_ := by omega
  refine inb_n (tN ?_)
  refine wQ (pL ?_)
  refine wI (d_load (v := (sli o 0 (8 * la.length) (8 * la.length))) ⟨_, Try.underlying22, rfl⟩ rfl a20 rfl) ?_
  refine wI (d_assign rfl) ?_
  refine wD (tN ?_)
  refine wpIn_ret ?_
  refine leave (marks_ok aD_) (fun w31 o32 => ⟨res1 Try.results64 rfl, ?_⟩)
  replace o32 := only_mem o32
  replace h1 := h1.stepb o32 in1
  replace a13 := a13.step o32 (fun e => absurd e n_o_D_)
  replace a20 := a20.step o32 (fun e => absurd e n_c_D_)
  replace a26 := a26.step o32 (fun e => absurd e n_b24_D_)
  replace oW := oW.tailb o32 g_oW_D_
  replace o27 := o27.tailb o32 g_o27_D_
  exact ROw.arr a13 l_o (polyTo_done la) g_oW_o oW
 ·
  intro _ _ _ _ h _; exact h.elim
theorem bchBytes_ok (la : List UInt8) (u1 : Value) (W : World) (h1 : Ps No (Seq kB la u1) W) (g1 : la.length ≤ 1048576) :
    CW Try.prog 66 #[(Value.agg #[u1])] W (Rt (ROw 5 eB (packW la) W)) := by
 have oW : Only No W W := Only.refl _ _
 refine enter (al := [(Value.agg #[u1])]) (k := 33) (l := ([(Value.agg #[u1])] ++ (us 33))) Try.func66 rfl Try.ntmps66 rfl rfl ?_
 refine wQ (pL ?_)
 refine wO (d_box rfl rfl) ?_
 rintro _ w12 ⟨b11, rfl, g13, a14, o15⟩
 have g_oW_b11 : W.heap.size ≤ b11 := Nat.le_trans oW.size g13
 replace h1 := h1.new o15 g13
 replace oW := oW.tail0 o15
 refine wI (d_assign rfl) ?_
 refine wD (tN (wQ (pL ?_)))
 refine wI (d_fieldAddr (j := 0) Try.underlying101 rfl s_ti22 (by decide) rfl rfl) ?_
 refine wI (d_load (v := u1) ⟨_, Try.underlying22, rfl⟩ rfl a14 rfl) ?_
 refine wI (d_lenS rfl Try.underlying22 rfl h1) ?_
 refine wF ([(Value.agg #[u1]), (ptr b11 0), (Value.slice none 0 0), undef, undef, undef, (ptr b11 0), u1, (eN la.length)] ++ (us 25)) ?_
 refine wI (n_add (a := la.length) (b := 7) rfl rfl oo) ?_
 refine wI (n_quo (a := (la.length + 7)) (b := 8) rfl rfl oo oo) ?_
 refine wO (d_make1 (n := (la.length + 7) / 8) Try.underlying22 s_ti5 rfl rfl oo oo rfl) ?_
 rintro _ w16 ⟨o, rfl, g17, a18, o19⟩
 replace a18 : Arr 5 o ((List.replicate ((la.length + 7) / 8) 0).map eB) w16 := by rw [List.map_replicate]; exact a18
 have l_o : (List.replicate ((la.length + 7) / 8) 0 : List UInt8).length = (la.length + 7) / 8 := by simp
 have n_b11_o : b11 ≠ o := a14.ne g17
 have g_oW_o : W.heap.size ≤ o := Nat.le_trans oW.size g17
 replace h1 := h1.new o19 g17
 replace a14 := a14.step0 o19
 replace oW := oW.tail0 o19
 refine wI (d_assign rfl) ?_
 refine wD (tN ?_)
 refine forget (fun zf20 => ([(zf20 0), (ptr b11 0), (zf20 2), (sli o 0 ((la.length + 7) / 8) ((la.length + 7) / 8))] ++ (zs zf20 4 11 ++ [undef, (zf20 16), (zf20 17), (zf20 18), (zf20 19)] ++ (us 12 ++ [(zf20 32), (zf20 33)])))) kr (fun zf20 => ?_)
 refine wQ (wQ (pL ?_))
 refine wI (d_fieldAddr (j := 0) Try.underlying101 rfl s_ti22 (by decide) rfl rfl) ?_
 refine wI (d_load (v := u1) ⟨_, Try.underlying22, rfl⟩ rfl a14 rfl) ?_
 refine wI (d_lenS rfl Try.underlying22 rfl h1) ?_
 refine wI (d_move rfl) ?_
 refine wD (tN (wB ?_))
 refine loop2 (fun (i : (Nat)) => fun (z : Nat → Value) => (([(zf20 0), (ptr b11 0), (zf20 2), (sli o 0 ((la.length + 7) / 8) ((la.length + 7) / 8)), (z 4), (z 5)] ++ (zs zf20 6 6 ++ [(ptr b11 0), u1, (eN la.length), (eN i)] ++ (zs z 16 17 ++ [(zf20 33)]))) : List Value)) (fun (i : (Nat)) => fun (w_ : World) => (i ≤ la.length) ∧ Only (Or1 o (Or1 b11 No)) w16 w_ ∧ Arr 101 b11 [u1] w_ ∧ (packTo la i).length = (la.length + 7) / 8 ∧ Arr 5 o ((packTo la i).map eB) w_) (fun (i : (Nat)) => la.length - i) 0 kr ?_ ?_
 ·
  refine ⟨?_, ?_, ?_, ?_, ?_⟩
  ·
   exact Nat.zero_le _
  ·
   exact Only.refl _ _
  ·
   exact a14
  ·
   exact packTo_length la 0
  ·
   (try dsimp only)
   all_goals (rw [← packTo_zero]; exact a18)
 rintro i z w22 ⟨hi, o21, a14, l_o, a18⟩
 (try dsimp only)
 replace h1 := h1.step o21 (or1_mono (or1_mono no_any))
 replace oW := oW.tail o21 (tl_new g_oW_o (tl_new g_oW_b11 tl_no))
 refine wQ (pL ?_)
 refine wI (n_lss (a := i) (b := la.length) rfl rfl rfl) ?_
 refine wD (tN (wQ ?_))
 refine cond_if rfl (fun c0 => ?_) (fun c0 => ?_)
 ·
  refine wK (tN (wQ (wB (wQ (pL ?_)))))
  refine wI (d_move rfl) ?_
  refine wI (d_ix (i := i) (xs := la) Try.underlying22 s_ti5 rfl h1 (show _ = Value.int _ (i : Int) from rfl) fo) ?_
  refine wI (d_ldx (i := i) (xs := la) (enc := eB) (v := (la.getD i 0)) ⟨_, Try.underlying5, rfl⟩ rfl h1 (g_at fo)) ?_
  refine wI (d_assign rfl) ?_
  refine wF ([(zf20 0), (ptr b11 0), (zf20 2), (sli o 0 ((la.length + 7) / 8) ((la.length + 7) / 8)), (eN i), (z 5)] ++ (zs zf20 6 6 ++ [(ptr b11 0), u1, (eN la.length), (eN i), (Value.bool (decide (i < la.length))), (eN i), (ixp u1 i), (eB (la.getD i 0))] ++ (zs z 20 13 ++ [(zf20 33)]))) ?_
  refine wI (d_assign rfl) ?_
  refine wD (tN ?_)
  refine drawn_last (O := (Is1 o)) (m := 12) (R := fun w_ => Arr 5 o (((packTo la i).set (i / 8) (((packTo la i).getD (i / 8) 0) ||| (shlB ((la.getD i 0) &&& 1) (i % 8)))).map eB) w_) [0, 0, 2, 7, 15, 0, 32, 0, 128, 480, 1023, 2047, 4095] [(0, 20), (1, 21), (2, 22), (3, 23), (4, 24), (5, 25), (6, 26), (7, 27), (8, 28), (9, 29), (10, 30), (11, 31)] [(sli o 0 ((la.length + 7) / 8) ((la.length + 7) / 8)), (eN i), (eN (i / 8)), (ptr o (i / 8)), (eB ((packTo la i).getD (i / 8) 0)), (eB (la.getD i 0)), (eB ((la.getD i 0) &&& 1)), (eN i), (eN (i % 8)), (eB (shlB ((la.getD i 0) &&& 1) (i % 8))), (eB (((packTo la i).getD (i / 8) 0) ||| (shlB ((la.getD i 0) &&& 1) (i % 8)))), (ptr o (i / 8))] ([(zf20 0), (ptr b11 0), (zf20 2), (sli o 0 ((la.length + 7) / 8) ((la.length + 7) / 8)), (eN i), (eB (la.getD i 0))] ++ (zs zf20 6 6 ++ [(ptr b11 0), u1, (eN la.length), (eN i), (Value.bool (decide (i < la.length))), (eN i), (ixp u1 i), (eB (la.getD i 0)), (sli o 0 ((la.length + 7) / 8) ((la.length + 7) / 8)), (eN i), (eN (i / 8)), (ptr o (i / 8)), (eB ((packTo la i).getD (i / 8) 0)), (eB (la.getD i 0)), (eB ((la.getD i 0) &&& 1)), (eN i), (eN (i % 8)), (eB (shlB ((la.getD i 0) &&& 1) (i % 8))), (eB (((packTo la i).getD (i / 8) 0) ||| (shlB ((la.getD i 0) &&& 1) (i % 8)))), (ptr o (i / 8)), (z 32), (zf20 33)])) s_mx kr kr rfl rfl (by decide) kr kr ?_ (fun _ _ h_ ho_ => h_.step0 ho_) ⟨_, rfl, rfl, fun w_ hO_ => gd rfl ((d_store (b := o) (i := (i / 8)) (v := (eB (((packTo la i).getD (i / 8) 0) ||| (shlB ((la.getD i 0) &&& 1) (i % 8))))) s_ti5 rfl rfl rfl (a18.step0 hO_) (by rw [List.length_map, l_o]; omega) (m_put (packTo la i) (i / 8) (((packTo la i).getD (i / 8) 0) ||| (shlB ((la.getD i 0) &&& 1) (i % 8))) eB)).mono fun u_ w2_ h_ => ⟨h_.2, h_.1⟩)⟩ ?_
  ·
   intro w_ hO_
   refine AllG.cons (gi rfl (d_move rfl)) ?_
   refine AllG.cons (gi rfl (d_move rfl)) ?_
   refine AllG.cons (gi rfl (n_quo (a := i) (b := 8) rfl rfl oo oo)) ?_
   refine AllG.cons (gi rfl (d_index1 (n := ((la.length + 7) / 8)) (i := (i / 8)) Try.underlying22 s_ti5 rfl (show _ = Value.int _ ((i / 8 : Nat) : Int) from rfl) oo)) ?_
   refine AllG.cons (gi rfl (d_load ⟨_, Try.underlying5, rfl⟩ rfl (a18.step0 hO_) (m_at (d := 0) (by rw [l_o]; omega)))) ?_
   refine AllG.cons (gi rfl (d_move rfl)) ?_
   refine AllG.cons (gi rfl (b_and (c := (la.getD i 0)) (e := 1) rfl rfl)) ?_
   refine AllG.cons (gi rfl (d_move rfl)) ?_
   refine AllG.cons (gi rfl (n_rem (a := i) (b := 8) rfl rfl oo)) ?_
   refine AllG.cons (gi rfl (b_shl (a := (i % 8)) rfl rfl oo)) ?_
   refine AllG.cons (gi rfl (b_or (c := ((packTo la i).getD (i / 8) 0)) (e := (shlB ((la.getD i 0) &&& 1) (i % 8))) rfl rfl)) ?_
   refine AllG.cons (gi rfl (d_index1 (n := ((la.length + 7) / 8)) (i := (i / 8)) Try.underlying22 s_ti5 rfl (show _ = Value.int _ ((i / 8 : Nat) : Int) from rfl) oo)) ?_
   exact AllG.nil
  intro w23 o24 a25
  replace h1 := h1.stepb o24 in1
  replace a14 := a14.step o24 (fun e => absurd e n_b11_o)
  replace oW := oW.tailb o24 g_oW_o
  replace o21 := o21.tail o24 (fun k _ e => by have : k = o := e; rw [this]; exact in1)
  replace l_o : ((packTo la i).set (i / 8) (((packTo la i).getD (i / 8) 0) ||| (shlB ((la.getD i 0) &&& 1) (i % 8))) : List UInt8).length = (la.length + 7) / 8 := (List.length_set ..).trans l_o
  refine inb_n (tN ?_)
  refine pL ?_
  refine wI (n_add (a := i) (b := 1) rfl rfl oo) ?_
  refine wI (d_move rfl) ?_
  refine wD (tN ?_)
  refine ⟨_, (i + 1), rfl, kr, ⟨?_, ?_, ?_, ?_, ?_⟩, ?_⟩
  ·
   (try dsimp only)
   all_goals (omega)
  ·
   exact o21
  ·
   exact a14
  ·
   exact packTo_length la _
  ·
   (try dsimp only)
   all_goals (rw [← packTo_step c0]; exact a25)
  ·
   (try dsimp only)
   all_goals (omega)
 refine wpIn_exit ?_
 refine then_x (then_x (inb_e ?_))
 refine tN (wQ (pL ?_))
 refine wI (d_move rfl) ?_
 refine wI (d_assign rfl) ?_
 refine wD (tN ?_)
 refine wpIn_ret ?_
 refine leave0 (v := (sli o 0 ((la.length + 7) / 8) ((la.length + 7) / 8))) (res1 Try.results66 rfl) ?_
 exact ROw.arr a18 l_o (by rw [show i = la.length by omega]; rfl) g_oW_o oW
theorem bchEncode_ok (la : List UInt8) (u1 : Value) (W : World) (h1 : Ps No (Seq kB la u1) W) (g1 : la.length ≤ 1048576) :
    CW Try.prog 40 #[u1] W (Rt (ROw 5 eB (encR la) W)) := by
 have oW : Only No W W := Only.refl _ _
 refine enter (al := [u1]) (k := 28) (l := ([u1] ++ (us 28))) Try.func40 rfl Try.ntmps40 rfl rfl ?_
 refine wQ (pL ?_)
 refine wI (d_assign rfl) ?_
 refine wD (tN (wQ (wQ (pL ?_))))
 refine wI (d_move rfl) ?_
 refine wI (d_lenS rfl Try.underlying22 rfl h1) ?_
 refine wI (n_neq (a := la.length) (b := 24) rfl rfl rfl) ?_
 refine wD (tN ?_)
 refine cond_un rfl (fun c0 => ?_) (fun c0 => ?_)
 ·
  refine wQ (pL ?_)
  refine wI (d_assign rfl) ?_
  refine wF ([u1, undef, (Value.slice none 0 0), undef, undef, undef, undef, u1, (eN la.length), (Value.bool (!decide (la.length = 24)))] ++ (us 19)) ?_
  refine wD (tN ?_)
  refine wpIn_ret ?_
  refine then_r ?_
  refine leave0 (v := (Value.slice none 0 0)) (res1 Try.results40 rfl) ?_
  exact ROw.nil ((encR_no c0).symm) oW
 refine wK (tN (wQ (pL ?_)))
 refine wO (d_make1 (n := 28) Try.underlying22 s_ti5 rfl rfl oo oo rfl) ?_
 rintro _ w11 ⟨o, rfl, g12, a13, o14⟩
 replace a13 : Arr 5 o ((List.replicate 28 0).map eB) w11 := by rw [List.map_replicate]; exact a13
 have l_o : (List.replicate 28 0 : List UInt8).length = 28 := by simp
 have g_oW_o : W.heap.size ≤ o := Nat.le_trans oW.size g12
 replace h1 := h1.new o14 g12
 replace oW := oW.tail0 o14
 refine wF ([u1, undef, (Value.slice none 0 0), undef, undef, undef, undef, u1, (eN la.length), (Value.bool (!decide (la.length = 24))), (sli o 0 28 28)] ++ (us 18)) ?_
 refine wI (d_assign rfl) ?_
 refine wD (tN (wQ (pL ?_)))
 refine wI (d_move rfl) ?_
 refine wI (d_slice (b := o) (o := 0) (n := 28) (c := 28) (l := 4) (h := 28) Try.underlying22 s_ti5 rfl (Bd.some (l := 4) (k := .i64) rfl) Bd.none oo oo (by first | (simp; done) | (rw [if_neg oo]; done) | (rw [if_neg oo]; simp))) ?_
 refine wI (d_move rfl) ?_
 refine wO (d_copy (b := o) (o := 4) (n := 24) (c := 24) (zs := (pad4 la)) (j := 24) rfl Try.underlying22 s_ti5 rfl rfl a13 h1 (fun _ => rfl) (by rw [l_o]; omega) oo (copy_pad c0)) ?_
 rintro _ w15 ⟨rfl, a16, o17⟩
 replace h1 := h1.stepb o17 in1
 replace oW := oW.tailb o17 g_oW_o
 replace l_o : (pad4 la : List UInt8).length = 28 := pad4_length c0
 refine wF ([u1, undef, (Value.slice none 0 0), (sli o 0 28 28), undef, undef, undef, u1, (eN la.length), (Value.bool (!decide (la.length = 24))), (sli o 0 28 28), (sli o 0 28 28), (sli o 4 24 24), u1, (eN 24)] ++ (us 14)) ?_
 refine wD (tN ?_)
 refine forget (fun zf18 => ([(zf18 0), (zf18 1), (zf18 2), (sli o 0 28 28)] ++ (zs zf18 4 25))) kr (fun zf18 => ?_)
 refine wQ (pL ?_)
 refine wI (d_move rfl) ?_
 refine wO (d_call (xl := [.tmp 16]) (al := [(sli o 0 28 28)]) Try.func64 kr rfl rfl rfl (bchPoly_ok (pad4 la) (sli o 0 28 28) _ (Ps.no (arr_seq a16 l_o (Nat.le_refl _))) (by have := pad4_len la; first | omega | (simp; done) | (simp; omega)))) ?_
 rintro u21 w19 f22
 replace f22 := f22.ps
 obtain ⟨f22, o20⟩ := f22
 replace f22 := f22.less (Y := (Or1 o (Old W.heap.size))) (or1_old a16.lt (old_old oW.size))
 replace h1 := h1.step0 o20
 replace a16 := a16.step0 o20
 replace oW := oW.tail0 o20
 refine wO (d_call (xl := []) (al := []) Try.func65 kr rfl rfl rfl (bchGen_ok _)) ?_
 rintro u25 w23 f26
 replace f26 := f26.ps
 obtain ⟨f26, o24⟩ := f26
 replace f26 := f26.less (Y := (Or1 o (Old W.heap.size))) (or1_old a16.lt (old_old oW.size))
 replace h1 := h1.step0 o24
 replace f22 := f22.step0 o24
 replace a16 := a16.step0 o24
 replace oW := oW.tail0 o24
 refine wO (d_call (xl := [.tmp 17, .tmp 18]) (al := [u21, u25]) Try.func63 kr rfl rfl rfl (div_ok (polyW (pad4 la)) genP u21 u25 _ (Ps.no f22) (Ps.no f26) (by have := polyW_len (pad4 la); have := pad4_len la; first | omega | (simp; done) | (simp; omega)) (by have := genP_facts.1; first | omega | (simp; done) | (simp; omega)))) ?_
 rintro _ w27 ⟨u29, u31, rfl, f30, f32, o28⟩
 replace f30 := f30.less (Y := (Or1 o (Old W.heap.size))) (or1_old a16.lt (old_old oW.size))
 replace f32 := f32.less (Y := (Or1 o (Old W.heap.size))) (or1_old a16.lt (old_old oW.size))
 replace h1 := h1.step0 o28
 replace f22 := f22.step0 o28
 replace f26 := f26.step0 o28
 replace a16 := a16.step0 o28
 replace oW := oW.tail0 o28
 refine wI (d_move rfl) ?_
 refine wF ([(zf18 0), (zf18 1), (zf18 2), (sli o 0 28 28)] ++ (zs zf18 4 11 ++ [(Value.tuple #[u29, u31, (Value.bool (isP genP))]), (sli o 0 28 28), u21, u25, (Value.tuple #[u29, u31, (Value.bool (isP genP))])] ++ (zs zf18 20 9))) ?_
 refine wI (d_extract (v := u29) rfl rfl) ?_
 refine wI (d_extract (v := u31) rfl rfl) ?_
 refine wI (d_extract (v := (Value.bool (isP genP))) rfl rfl) ?_
 refine wI (d_assign rfl) ?_
 refine wI (d_assign rfl) ?_
 refine wF ([(zf18 0), (zf18 1), (zf18 2), (sli o 0 28 28), u29, u31] ++ (zs zf18 6 9 ++ [(Value.tuple #[u29, u31, (Value.bool (isP genP))]), (sli o 0 28 28), u21, u25, (Value.tuple #[u29, u31, (Value.bool (isP genP))]), u29, u31, (Value.bool (isP genP))] ++ (zs zf18 23 6))) ?_
 refine wI (d_assign rfl) ?_
 refine wD (tN ?_)
 refine forget (fun zf35 => ([(zf35 0), (zf35 1), (zf35 2), (sli o 0 28 28), (zf35 4), u31] ++ (zs zf35 6 23))) kr (fun zf35 => ?_)
 refine wQ (pL ?_)
 refine wI (d_move rfl) ?_
 refine wI (d_move rfl) ?_
 refine wI (d_buildS (pl := [(0, 1)]) (zs := [(Value.slice none 0 0)]) (cs := [u31]) Try.underlying101 s_ti101 ⟨_, _, _, _, rfl, s_ti22, rfl⟩ rfl (parts_cons (vs := [u31]) (cells_of (v := u31) rfl (Seq.cells f32)) parts_nil) rfl) ?_
 refine wO (d_call (xl := [.tmp 25]) (al := [(Value.agg #[u31])]) Try.func66 kr rfl rfl rfl (bchBytes_ok (remP (polyW (pad4 la)) genP) u31 _ (Ps.no f32) (by have := remP_len (polyW (pad4 la)) genP; have := polyW_len (pad4 la); have := pad4_len la; have := genP_facts.1; first | omega | (simp; done) | (simp; omega)))) ?_
 rintro u38 w36 f39
 replace f39 := f39.ps
 obtain ⟨f39, o37⟩ := f39
 replace f39 := f39.less (Y := (Or1 o (Old W.heap.size))) (or1_old a16.lt (old_old oW.size))
 replace h1 := h1.step0 o37
 replace f22 := f22.step0 o37
 replace f26 := f26.step0 o37
 replace f30 := f30.step0 o37
 replace f32 := f32.step0 o37
 replace a16 := a16.step0 o37
 replace oW := oW.tail0 o37
 refine wO (d_copy (b := o) (o := 0) (n := 28) (c := 28) (zs := (encW la)) (j := ((packW (remP (polyW (pad4 la)) genP)).length)) rfl Try.underlying22 s_ti5 rfl rfl a16 f39 (fun _ => rfl) (by rw [l_o]; omega) (by have := packW_len (remP (polyW (pad4 la)) genP); have : (remP (polyW (pad4 la)) genP).length ≤ 32 := rest_len la; omega) (copy_enc c0)) ?_
 rintro _ w40 ⟨rfl, a41, o42⟩
 replace h1 := h1.stepb o42 in1
 replace f22 := f22.stepb o42 in1
 replace f26 := f26.stepb o42 in1
 replace f30 := f30.stepb o42 in1
 replace f32 := f32.stepb o42 in1
 replace f39 := f39.stepb o42 in1
 replace oW := oW.tailb o42 g_oW_o
 replace l_o : (encW la : List UInt8).length = 28 := encW_length la
 refine wF ([(zf35 0), (zf35 1), (zf35 2), (sli o 0 28 28), (zf35 4), u31] ++ (zs zf35 6 17 ++ [(sli o 0 28 28), u31, (Value.agg #[u31]), u38, (eN ((packW (remP (polyW (pad4 la)) genP)).length)), (zf35 28)])) ?_
 refine wD (tN (wQ (pL ?_)))
 refine wI (d_move rfl) ?_
 refine wI (d_assign rfl) ?_
 refine wD (tN ?_)
 refine forget (fun zf43 => ([(zf43 0), (zf43 1), (sli o 0 28 28)] ++ (zs zf43 3 26))) kr (fun zf43 => ?_)
 refine wpIn_ret ?_
 refine leave0 (v := (sli o 0 28 28)) (res1 Try.results40 rfl) ?_
 exact ROw.arr a41 l_o ((encR_yes c0).symm) g_oW_o oW
theorem bchSums_ok (la : List UInt8) (u1 : Value) (W : World) (h1 : Ps No (Seq kB la u1) W) (g1 : la.length ≤ 1048576) :
    CW Try.prog 71 #[u1] W (Rt (ROw 5 eB (sumsL la) W)) := by
 have oW : Only No W W := Only.refl _ _
 refine enter (al := [u1]) (k := 48) (l := ([u1] ++ (us 48))) Try.func71 rfl Try.ntmps71 rfl rfl ?_
 refine wQ (pL ?_)
 refine wI (d_assign rfl) ?_
 refine wD (tN (wQ (pL ?_)))
 refine wO (d_make1 (n := 255) Try.underlying22 s_ti5 rfl rfl oo oo rfl) ?_
 rintro _ w11 ⟨pw, rfl, g12, a13, o14⟩
 replace a13 : Arr 5 pw ((List.replicate 255 0).map eB) w11 := by rw [List.map_replicate]; exact a13
 have l_pw : (List.replicate 255 0 : List UInt8).length = 255 := by simp
 have g_oW_pw : W.heap.size ≤ pw := Nat.le_trans oW.size g12
 replace h1 := h1.new o14 g12
 replace oW := oW.tail0 o14
 refine wO (d_alloc s_ti22 rfl) ?_
 rintro _ w15 ⟨pc, rfl, g16, a17, o18⟩
 have n_pw_pc : pw ≠ pc := a13.ne g16
 have g_oW_pc : W.heap.size ≤ pc := Nat.le_trans oW.size g16
 replace h1 := h1.new o18 g16
 replace a13 := a13.step0 o18
 replace oW := oW.tail0 o18
 refine wO (d_store s_ti22 rfl rfl rfl a17 (nb rfl) rfl) ?_
 rintro _ w19 ⟨a20, o21⟩
 replace h1 := h1.stepb o21 in1
 replace a13 := a13.step o21 (fun e => absurd e n_pw_pc)
 replace oW := oW.tailb o21 g_oW_pc
 refine wD (tN (wQ (pL ?_)))
 refine wI (d_load (v := (sli pw 0 255 255)) ⟨_, Try.underlying22, rfl⟩ rfl a20 rfl) ?_
 refine wF ([u1, undef, (Value.slice none 0 0), (ptr pc 0), undef, undef, undef, undef, (sli pw 0 255 255), (sli pw 0 255 255)] ++ (us 39)) ?_
 refine wI (d_index1 (n := 255) (i := 0) Try.underlying22 s_ti5 rfl (show _ = Value.int _ ((0 : Nat) : Int) from rfl) oo) ?_
 refine wO (d_store (b := pw) (i := 0) (v := (eB 1)) s_ti5 rfl rfl rfl a13 (by rw [List.length_map, l_pw]; omega) (m_put (List.replicate 255 0) 0 1 eB)) ?_
 rintro _ w22 ⟨a23, o24⟩
 replace h1 := h1.stepb o24 (in2 in1)
 replace a20 := a20.step o24 (fun e => absurd e (Ne.symm n_pw_pc))
 replace oW := oW.tailb o24 g_oW_pw
 replace l_pw : ((List.replicate 255 0).set 0 1 : List UInt8).length = 255 := (List.length_set ..).trans l_pw
 refine wD (tN (wQ (wQ (pL ?_))))
 refine wI (d_move rfl) ?_
 refine wD (tN (wB ?_))
 refine loop2 (fun (n : (Nat)) => fun (z : Nat → Value) => (([u1, undef, (Value.slice none 0 0), (ptr pc 0), (z 4), undef, undef, undef, (sli pw 0 255 255), (sli pw 0 255 255), (ptr pw 0), (eN n)] ++ (zs z 12 12 ++ (us 25))) : List Value)) (fun (n : (Nat)) => fun (w_ : World) => (n ≤ 254) ∧ Only (Or1 pc (Or1 pw No)) w22 w_ ∧ (powTo n).length = 255 ∧ Arr 5 pw ((powTo n).map eB) w_ ∧ Arr 22 pc [(sli pw 0 255 255)] w_) (fun (n : (Nat)) => 254 - n) 0 kr ?_ ?_
 ·
  refine ⟨?_, ?_, ?_, ?_, ?_⟩
  ·
   exact Nat.zero_le _
  ·
   exact Only.refl _ _
  ·
   exact powTo_length 0
  ·
   (try dsimp only)
   all_goals (rw [← powTo_zero]; exact a23)
  ·
   exact a20
 rintro n z w26 ⟨hn, o25, l_pw, a23, a20⟩
 (try dsimp only)
 replace h1 := h1.step o25 (or1_mono (or1_mono no_any))
 replace oW := oW.tail o25 (tl_new g_oW_pc (tl_new g_oW_pw tl_no))
 refine wQ (pL ?_)
 refine wI (n_lss (a := n) (b := 254) rfl rfl rfl) ?_
 refine wD (tN (wQ ?_))
 refine cond_if rfl (fun c0 => ?_) (fun c0 => ?_)
 ·
  refine wK (tN (wQ (wB (wQ (pL ?_)))))
  refine wI (d_move rfl) ?_
  refine wI (d_assign rfl) ?_
  refine wD (tN ?_)
  refine drawn_last (O := (Is1 pw)) (m := 9) (R := fun w_ => Arr 5 pw (((powTo n).set (n + 1) (gm ((powTo n).getD n 0) 2)).map eB) w_) [0, 0, 2, 0, 0, 24, 56, 120, 255, 511] [(0, 14), (1, 15), (2, 16), (3, 17), (4, 18), (5, 19), (6, 20), (7, 21), (8, 22)] [(sli pw 0 255 255), (eN n), (eN (n + 1)), (sli pw 0 255 255), (eN n), (ptr pw n), (eB ((powTo n).getD n 0)), (eB (gm ((powTo n).getD n 0) 2)), (ptr pw (n + 1))] ([u1, undef, (Value.slice none 0 0), (ptr pc 0), (eN n), undef, undef, undef, (sli pw 0 255 255), (sli pw 0 255 255), (ptr pw 0), (eN n), (Value.bool (decide (n < 254))), (eN n), (sli pw 0 255 255), (eN n), (eN (n + 1)), (sli pw 0 255 255), (eN n), (ptr pw n), (eB ((powTo n).getD n 0)), (eB (gm ((powTo n).getD n 0) 2)), (ptr pw (n + 1)), (z 23)] ++ (us 25)) s_mx kr kr rfl rfl (by decide) kr kr ?_ (fun _ _ h_ ho_ => h_.step0 ho_) ⟨_, rfl, rfl, fun w_ hO_ => gd rfl ((d_store (b := pw) (i := (n + 1)) (v := (eB (gm ((powTo n).getD n 0) 2))) s_ti5 rfl rfl rfl (a23.step0 hO_) (by rw [List.length_map, l_pw]; omega) (m_put (powTo n) (n + 1) (gm ((powTo n).getD n 0) 2) eB)).mono fun u_ w2_ h_ => ⟨h_.2, h_.1⟩)⟩ ?_
  ·
   intro w_ hO_
   refine AllG.cons (gi rfl (d_load (v := (sli pw 0 255 255)) ⟨_, Try.underlying22, rfl⟩ rfl (a20.step0 hO_) rfl)) ?_
   refine AllG.cons (gi rfl (d_move rfl)) ?_
   refine AllG.cons (gi rfl (n_add (a := n) (b := 1) rfl rfl oo)) ?_
   refine AllG.cons (gi rfl (d_load (v := (sli pw 0 255 255)) ⟨_, Try.underlying22, rfl⟩ rfl (a20.step0 hO_) rfl)) ?_
   refine AllG.cons (gi rfl (d_move rfl)) ?_
   refine AllG.cons (gi rfl (d_index1 (n := 255) (i := n) Try.underlying22 s_ti5 rfl (show _ = Value.int _ (n : Int) from rfl) oo)) ?_
   refine AllG.cons (gi rfl (d_load ⟨_, Try.underlying5, rfl⟩ rfl (a23.step0 hO_) (m_at (d := 0) (by rw [l_pw]; omega)))) ?_
   refine AllG.cons (gc rfl (d_call (xl := [.tmp 20, .const (.int .u8 2)]) (al := [(eB ((powTo n).getD n 0)), (eB 2)]) Try.func90 kr rfl rfl rfl (gfMul_ok ((powTo n).getD n 0) 2 _))) ?_
   refine AllG.cons (gi rfl (d_index1 (n := 255) (i := (n + 1)) Try.underlying22 s_ti5 rfl (show _ = Value.int _ ((n + 1 : Nat) : Int) from rfl) oo)) ?_
   exact AllG.nil
  intro w27 o28 a29
  replace h1 := h1.stepb o28 (in2 in1)
  replace a20 := a20.step o28 (fun e => absurd e (Ne.symm n_pw_pc))
  replace oW := oW.tailb o28 g_oW_pw
  replace o25 := o25.tail o28 (fun k _ e => by have : k = pw := e; rw [this]; exact (in2 in1))
  replace l_pw : ((powTo n).set (n + 1) (gm ((powTo n).getD n 0) 2) : List UInt8).length = 255 := (List.length_set ..).trans l_pw
  refine inb_n (tN ?_)
  refine pL ?_
  refine wI (n_add (a := n) (b := 1) rfl rfl oo) ?_
  refine wI (d_move rfl) ?_
  refine wD (tN ?_)
  refine ⟨_, (n + 1), rfl, kr, ⟨?_, ?_, ?_, ?_, ?_⟩, ?_⟩
  ·
   (try dsimp only)
   all_goals (omega)
  ·
   exact o25
  ·
   exact powTo_length _
  ·
   (try dsimp only)
   all_goals (rw [← powTo_step c0]; exact a29)
  ·
   exact a20
  ·
   (try dsimp only)
   all_goals (omega)
 refine wpIn_exit ?_
 refine then_x (then_x (inb_e ?_))
 refine tN (wQ ?_)
 refine wp_eq (l' := ([u1, undef, (Value.slice none 0 0), (ptr pc 0), (z 4), undef, undef, undef, (sli pw 0 255 255), (sli pw 0 255 255), (ptr pw 0), (eN n), (Value.bool (decide (n < 254)))] ++ (zs z 13 11 ++ (us 25)))) rfl ?_
 refine pL ?_
 refine wO (d_make1 (n := 8) Try.underlying22 s_ti5 rfl rfl oo oo rfl) ?_
 rintro _ w30 ⟨o, rfl, g31, a32, o33⟩
 replace a32 : Arr 5 o ((List.replicate 8 0).map eB) w30 := by rw [List.map_replicate]; exact a32
 have l_o : (List.replicate 8 0 : List UInt8).length = 8 := by simp
 have n_pw_o : pw ≠ o := a23.ne g31
 have n_pc_o : pc ≠ o := a20.ne g31
 have g_oW_o : W.heap.size ≤ o := Nat.le_trans oW.size g31
 have g_o25_o : w22.heap.size ≤ o := Nat.le_trans o25.size g31
 replace h1 := h1.new o33 g31
 replace a23 := a23.step0 o33
 replace a20 := a20.step0 o33
 replace oW := oW.tail0 o33
 replace o25 := o25.tail0 o33
 refine wO (d_alloc s_ti22 rfl) ?_
 rintro _ w34 ⟨oc, rfl, g35, a36, o37⟩
 have n_pw_oc : pw ≠ oc := a23.ne g35
 have n_pc_oc : pc ≠ oc := a20.ne g35
 have n_o_oc : o ≠ oc := a32.ne g35
 have g_oW_oc : W.heap.size ≤ oc := Nat.le_trans oW.size g35
 have g_o25_oc : w22.heap.size ≤ oc := Nat.le_trans o25.size g35
 replace h1 := h1.new o37 g35
 replace a23 := a23.step0 o37
 replace a20 := a20.step0 o37
 replace a32 := a32.step0 o37
 replace oW := oW.tail0 o37
 replace o25 := o25.tail0 o37
 refine wO (d_store s_ti22 rfl rfl rfl a36 (nb rfl) rfl) ?_
 rintro _ w38 ⟨a39, o40⟩
 replace h1 := h1.stepb o40 in1
 replace a23 := a23.step o40 (fun e => absurd e n_pw_oc)
 replace a20 := a20.step o40 (fun e => absurd e n_pc_oc)
 replace a32 := a32.step o40 (fun e => absurd e n_o_oc)
 replace oW := oW.tailb o40 g_oW_oc
 replace o25 := o25.tailb o40 g_o25_oc
 refine wF ([u1, undef, (Value.slice none 0 0), (ptr pc 0), (z 4), (ptr oc 0), undef, undef, (sli pw 0 255 255), (sli pw 0 255 255), (ptr pw 0), (eN n), (Value.bool (decide (n < 254)))] ++ (zs z 13 11 ++ [(sli o 0 8 8)] ++ (us 24))) ?_
 refine wD ?_
 have hn_ : n = 254 := by omega
 refine tN (wQ (wQ (pL ?_)))
 refine wI (d_move rfl) ?_
 refine wO (d_call (xl := [.tmp 25]) (al := [u1]) Try.func91 kr rfl rfl rfl (bchPlaces_ok la u1 _ (Ps.no h1))) ?_
 rintro _ w41 ⟨b43, rfl, g44, a45, o42⟩
 have n_pw_b43 : pw ≠ b43 := a23.ne g44
 have n_pc_b43 : pc ≠ b43 := a20.ne g44
 have n_o_b43 : o ≠ b43 := a32.ne g44
 have n_oc_b43 : oc ≠ b43 := a39.ne g44
 have g_oW_b43 : W.heap.size ≤ b43 := Nat.le_trans oW.size g44
 have g_o25_b43 : w22.heap.size ≤ b43 := Nat.le_trans o25.size g44
 replace h1 := h1.new o42 g44
 replace a23 := a23.step0 o42
 replace a20 := a20.step0 o42
 replace a32 := a32.step0 o42
 replace a39 := a39.step0 o42
 replace oW := oW.tail0 o42
 replace o25 := o25.tail0 o42
 refine wD (tN ?_)
 refine forget (fun zf46 => ([(zf46 0), (zf46 1), (zf46 2), (ptr pc 0), (zf46 4), (ptr oc 0)] ++ (zs zf46 6 5 ++ [(eN n)] ++ (zs zf46 12 14 ++ [(Value.func (.func 110) #[] #[(ptr b43 0)]), undef, (zf46 28), (zf46 29), undef, (zf46 31), (zf46 32)] ++ (us 14 ++ [(zf46 47), (zf46 48)]))))) kr (fun zf46 => ?_)
 refine wB ?_
 have h_lt_pw := a23.lt
 have h_lt_pc := a20.lt
 have h_lt_o := a32.lt
 have h_lt_oc := a39.lt
 have h_lt_b43 := a45.lt
 have tq_oW := oW.size
 have tq_o25 := o25.size
 have nO_b43 : ¬ (Or1 oc (Or1 o (Or1 pc (Or1 pw No)))) b43 := (not_or1 (Ne.symm n_oc_b43) (not_or1 (Ne.symm n_o_b43) (not_or1 (Ne.symm n_pc_b43) (not_or1 (Ne.symm n_pw_b43) not_no))))
 obtain ⟨D_, hD_⟩ : ∃ D_, w41.heap.size = D_ := ⟨_, rfl⟩
 obtain ⟨L_, hL_⟩ : ∃ L_, w41.heap.size + 1 = L_ := ⟨_, rfl⟩
 refine range_ (encs := (fun x => [eN x])) (Pv := No) (O := (Or1 oc (Or1 o (Or1 pc (Or1 pw No))))) (xs := (onesP la)) (D := D_) (L := L_) (rs := []) hD_ hL_ rfl Try.func110 kr rfl (iter_bchPlaces la u1 b43 fo a45 nO_b43 h1 (or1_skip (or1_mono (or1_mono (or1_mono (or1_mono no_any)))))) (fun k t => t.elim) (fun _ => rfl) (lt_or1 h_lt_oc (lt_or1 h_lt_o (lt_or1 h_lt_pc (lt_or1 h_lt_pw lt_no)))) (fun (pre : List Nat) (w_ : World) => Only (Or1 oc (Or1 o (Or1 pc (Or1 pw No)))) w41 w_ ∧ Arr 5 pw ((powTo n).map eB) w_ ∧ Arr 22 pc [(sli pw 0 255 255)] w_ ∧ (sumTo pre).length = 8 ∧ Arr 5 o ((sumTo pre).map eB) w_ ∧ Arr 22 oc [(sli o 0 8 8)] w_ ∧ Arr 22 b43 [u1] w_) (fun _ _ _ => False) ?_ ?_ ?_ ?_ ?_ ?_
 ·
  rintro pre w_ w2_ ⟨o47, a23, a20, l_o, a32, a39, a45⟩ ho_
  exact ⟨o47.tail ho_ (stab_tl hD_ hL_ (fun k t => t.elim)), a23.step ho_ (stab_b hD_ hL_ h_lt_pw (fun t => t.elim)), a20.step ho_ (stab_b hD_ hL_ h_lt_pc (fun t => t.elim)), l_o, a32.step ho_ (stab_b hD_ hL_ h_lt_o (fun t => t.elim)), a39.step ho_ (stab_b hD_ hL_ h_lt_oc (fun t => t.elim)), a45.step ho_ (stab_b hD_ hL_ h_lt_b43 (fun t => t.elim))⟩
 ·
  intro _ _ _ _ h _; exact h.elim
 ·
  refine ⟨?_, ?_, ?_, ?_, ?_, ?_, ?_⟩
  ·
   exact Only.refl _ _
  ·
   exact a23
  ·
   exact a20
  ·
   exact sumTo_length []
  ·
   (try dsimp only)
   all_goals (rw [← sumTo_nil]; exact a32)
  ·
   exact a39
  ·
   exact a45
 ·
  intro pre x w1_ hpx_ hI_ hL1_
  obtain ⟨o47, a23, a20, l_o, a32, a39, a45⟩ := hI_
  replace h1 := Ps.re (X' := (Or1 L_ (Or1 D_ (Or1 b43 (Or1 oc (Or1 o (Or1 pc (Or1 pw No)))))))) h1 o47 (or1_skip (or1_mono (or1_mono (or1_mono (or1_mono no_any))))) (xx_new oo (xx_new (Nat.le_of_eq hD_) (xx_or1 (xx_or1 (xx_or1 (xx_or1 (xx_or1 xx_id)))))))
  replace oW := oW.tail o47 (tl_new g_oW_oc (tl_new g_oW_o (tl_new g_oW_pc (tl_new g_oW_pw tl_no))))
  replace o25 := o25.tail o47 (tl_new g_o25_oc (tl_new g_o25_o (tl_in in1 (tl_in (in2 in1) tl_no))))
  have n_pw_D_ : pw ≠ D_ := by omega
  have n_pc_D_ : pc ≠ D_ := by omega
  have n_o_D_ : o ≠ D_ := by omega
  have n_oc_D_ : oc ≠ D_ := by omega
  have n_b43_D_ : b43 ≠ D_ := by omega
  have g_oW_D_ : W.heap.size ≤ D_ := by omega
  have g_o25_D_ : w22.heap.size ≤ D_ := by omega
  have g_o47_D_ : w41.heap.size ≤ D_ := by omega
  have n_pw_L_ : pw ≠ L_ := by omega
  have n_pc_L_ : pc ≠ L_ := by omega
  have n_o_L_ : o ≠ L_ := by omega
  have n_oc_L_ : oc ≠ L_ := by omega
  have n_b43_L_ : b43 ≠ L_ := by omega
  have g_oW_L_ : W.heap.size ≤ L_ := by omega
  have g_o25_L_ : w22.heap.size ≤ L_ := by omega
  have g_o47_L_ : w41.heap.size ≤ L_ := by omega
  have n_D__L_ : D_ ≠ L_ := by omega
  have aL_ : Dead L_ w1_ := hL1_
  have aD_ : Dead D_ w1_ := by unfold Dead; omega
  refine wp_eq (l' := ([(zf46 0), (zf46 1), (zf46 2), (ptr pc 0), (zf46 4), (ptr oc 0)] ++ (zs zf46 6 5 ++ [(eN n)] ++ (zs zf46 12 14 ++ [(Value.func (.func 110) #[] #[(ptr b43 0)]), (eN x), (zf46 28), (zf46 29), undef, (zf46 31), (zf46 32)] ++ (us 14 ++ [(zf46 47), (zf46 48)]))))) kr ?_
  refine pL ?_
  refine wI (d_assign rfl) ?_
  refine wD (tN ?_)
  refine ⟨Only.refl _ _, fun w2_ oL_ _ => ?_⟩
  replace h1 := h1.stepb oL_ in1
  replace a23 := a23.step oL_ (fun e => absurd e n_pw_L_)
  replace a20 := a20.step oL_ (fun e => absurd e n_pc_L_)
  replace a32 := a32.step oL_ (fun e => absurd e n_o_L_)
  replace a39 := a39.step oL_ (fun e => absurd e n_oc_L_)
  replace a45 := a45.step oL_ (fun e => absurd e n_b43_L_)
  replace aD_ := aD_.step oL_ (fun e => absurd e n_D__L_)
  replace oW := oW.tailb oL_ g_oW_L_
  replace o25 := o25.tailb oL_ g_o25_L_
  replace o47 := o47.tailb oL_ g_o47_L_
  replace aL_ : Dead L_ w2_ := Nat.lt_of_lt_of_le aL_ oL_.size
  have oR_ : Only (fun k => (Or1 oc (Or1 o (Or1 pc (Or1 pw No)))) k ∨ L_ < k) w2_ w2_ := Only.refl _ _
  have hx_ := onesP_lt hpx_
  refine wB (wQ ?_)
  refine wp_eq (l' := ([(zf46 0), (zf46 1), (zf46 2), (ptr pc 0), (zf46 4), (ptr oc 0), (eN x), (zf46 7), (zf46 8), (zf46 9), (zf46 10), (eN n)] ++ (zs zf46 12 14 ++ [(Value.func (.func 110) #[] #[(ptr b43 0)]), (eN x), (zf46 28), (zf46 29), undef, (zf46 31), (zf46 32)] ++ (us 14 ++ [(zf46 47), (zf46 48)])))) rfl ?_
  refine pL ?_
  refine wI (d_load (v := (sli o 0 8 8)) ⟨_, Try.underlying22, rfl⟩ rfl a39 rfl) ?_
  refine wI (d_len rfl Try.underlying22 rfl) ?_
  refine wI (d_move rfl) ?_
  refine wF ([(zf46 0), (zf46 1), (zf46 2), (ptr pc 0), (zf46 4), (ptr oc 0), (eN x), (zf46 7), (zf46 8), (zf46 9), (zf46 10), (eN n)] ++ (zs zf46 12 14 ++ [(Value.func (.func 110) #[] #[(ptr b43 0)]), (eN x), (sli o 0 8 8), (eN 8), (eN 0), (zf46 31), (zf46 32)] ++ (us 14 ++ [(zf46 47), (zf46 48)]))) ?_
  refine wD (tN (wB ?_))
  refine loop2 (fun (i : (Nat)) => fun (z : Nat → Value) => (([(zf46 0), (zf46 1), (zf46 2), (ptr pc 0), (zf46 4), (ptr oc 0), (eN x), (z 7), (zf46 8), (zf46 9), (zf46 10), (eN n)] ++ (zs zf46 12 14 ++ [(Value.func (.func 110) #[] #[(ptr b43 0)]), (eN x), (sli o 0 8 8), (eN 8), (eN i)] ++ (zs z 31 17 ++ [(zf46 48)]))) : List Value)) (fun (i : (Nat)) => fun (w_ : World) => (i ≤ 8) ∧ Only (Or1 oc (Or1 o (Or1 pc (Or1 pw No)))) w2_ w_ ∧ Arr 5 pw ((powTo n).map eB) w_ ∧ Arr 22 pc [(sli pw 0 255 255)] w_ ∧ (sumMid pre x i).length = 8 ∧ Arr 5 o ((sumMid pre x i).map eB) w_ ∧ Arr 22 oc [(sli o 0 8 8)] w_ ∧ Arr 22 b43 [u1] w_ ∧ Dead D_ w_ ∧ Dead L_ w_) (fun (i : (Nat)) => 8 - i) 0 rfl ?_ ?_
  ·
   refine ⟨?_, ?_, ?_, ?_, ?_, ?_, ?_, ?_, ?_, ?_⟩
   ·
    exact Nat.zero_le _
   ·
    exact Only.refl _ _
   ·
    exact a23
   ·
    exact a20
   ·
    exact sumMid_length pre x 0
   ·
    (try dsimp only)
    all_goals (rw [← sumMid_zero]; exact a32)
   ·
    exact a39
   ·
    exact a45
   ·
    exact aD_
   ·
    exact aL_
  rintro i z w49 ⟨hi, o48, a23, a20, l_o, a32, a39, a45, aD_, aL_⟩
  (try dsimp only)
  replace h1 := h1.step o48 (or1_skip (or1_skip (or1_skip (or1_mono (or1_mono (or1_mono (or1_mono no_any)))))))
  replace oW := oW.tail o48 (tl_new g_oW_oc (tl_new g_oW_o (tl_new g_oW_pc (tl_new g_oW_pw tl_no))))
  replace o25 := o25.tail o48 (tl_new g_o25_oc (tl_new g_o25_o (tl_in in1 (tl_in (in2 in1) tl_no))))
  replace o47 := o47.tail o48 (tl_in in1 (tl_in (in2 in1) (tl_in (in2 (in2 in1)) (tl_in (in2 (in2 (in2 in1))) tl_no))))
  replace oR_ := oR_.tail o48 (tl_in (Or.inl in1) (tl_in (Or.inl (in2 in1)) (tl_in (Or.inl (in2 (in2 in1))) (tl_in (Or.inl (in2 (in2 (in2 in1)))) tl_no))))
  refine wQ (pL ?_)
  refine wI (n_lss (a := i) (b := 8) rfl rfl rfl) ?_
  refine wF ([(zf46 0), (zf46 1), (zf46 2), (ptr pc 0), (zf46 4), (ptr oc 0), (eN x), (z 7), (zf46 8), (zf46 9), (zf46 10), (eN n)] ++ (zs zf46 12 14 ++ [(Value.func (.func 110) #[] #[(ptr b43 0)]), (eN x), (sli o 0 8 8), (eN 8), (eN i), (Value.bool (decide (i < 8)))] ++ (zs z 32 16 ++ [(zf46 48)]))) ?_
  refine wD (tN (wQ ?_))
  refine cond_if rfl (fun c1 => ?_) (fun c1 => ?_)
  ·
   refine wK (tN (wQ (wB (wQ (pL ?_)))))
   refine wI (d_move rfl) ?_
   refine wI (d_assign rfl) ?_
   refine wF ([(zf46 0), (zf46 1), (zf46 2), (ptr pc 0), (zf46 4), (ptr oc 0), (eN x), (eN i), (zf46 8), (zf46 9), (zf46 10), (eN n)] ++ (zs zf46 12 14 ++ [(Value.func (.func 110) #[] #[(ptr b43 0)]), (eN x), (sli o 0 8 8), (eN 8), (eN i), (Value.bool (decide (i < 8))), (eN i)] ++ (zs z 33 15 ++ [(zf46 48)]))) ?_
   refine wD (tN ?_)
   refine drawn_last (O := (Is1 o)) (m := 14) (R := fun w_ => Arr 5 o (((sumMid pre x i).set i (((sumMid pre x i).getD i 0) ^^^ ((powTo n).getD (((i + 1) * x) % 255) 0))).map eB) w_) [0, 0, 3, 7, 0, 0, 32, 0, 224, 480, 1008, 2032, 4095, 8191, 16383] [(0, 33), (1, 34), (2, 35), (3, 36), (4, 37), (5, 38), (6, 39), (7, 40), (8, 41), (9, 42), (10, 43), (11, 44), (12, 45), (13, 46)] [(sli o 0 8 8), (eN i), (ptr o i), (eB ((sumMid pre x i).getD i 0)), (sli pw 0 255 255), (eN i), (eN (i + 1)), (eN x), (eN ((i + 1) * x)), (eN (((i + 1) * x) % 255)), (ptr pw (((i + 1) * x) % 255)), (eB ((powTo n).getD (((i + 1) * x) % 255) 0)), (eB (((sumMid pre x i).getD i 0) ^^^ ((powTo n).getD (((i + 1) * x) % 255) 0))), (ptr o i)] ([(zf46 0), (zf46 1), (zf46 2), (ptr pc 0), (zf46 4), (ptr oc 0), (eN x), (eN i), (zf46 8), (zf46 9), (zf46 10), (eN n)] ++ (zs zf46 12 14 ++ [(Value.func (.func 110) #[] #[(ptr b43 0)]), (eN x), (sli o 0 8 8), (eN 8), (eN i), (Value.bool (decide (i < 8))), (eN i), (sli o 0 8 8), (eN i), (ptr o i), (eB ((sumMid pre x i).getD i 0)), (sli pw 0 255 255), (eN i), (eN (i + 1)), (eN x), (eN ((i + 1) * x)), (eN (((i + 1) * x) % 255)), (ptr pw (((i + 1) * x) % 255)), (eB ((powTo n).getD (((i + 1) * x) % 255) 0)), (eB (((sumMid pre x i).getD i 0) ^^^ ((powTo n).getD (((i + 1) * x) % 255) 0))), (ptr o i), (z 47), (zf46 48)])) s_mx kr kr rfl rfl (by decide) kr kr ?_ (fun _ _ h_ ho_ => h_.step0 ho_) ⟨_, rfl, rfl, fun w_ hO_ => gd rfl ((d_store (b := o) (i := i) (v := (eB (((sumMid pre x i).getD i 0) ^^^ ((powTo n).getD (((i + 1) * x) % 255) 0)))) s_ti5 rfl rfl rfl (a32.step0 hO_) (by rw [List.length_map, l_o]; omega) (m_put (sumMid pre x i) i (((sumMid pre x i).getD i 0) ^^^ ((powTo n).getD (((i + 1) * x) % 255) 0)) eB)).mono fun u_ w2_ h_ => ⟨h_.2, h_.1⟩)⟩ ?_
   ·
    intro w_ hO_
    refine AllG.cons (gi rfl (d_load (v := (sli o 0 8 8)) ⟨_, Try.underlying22, rfl⟩ rfl (a39.step0 hO_) rfl)) ?_
    refine AllG.cons (gi rfl (d_move rfl)) ?_
    refine AllG.cons (gi rfl (d_index1 (n := 8) (i := i) Try.underlying22 s_ti5 rfl (show _ = Value.int _ (i : Int) from rfl) oo)) ?_
    refine AllG.cons (gi rfl (d_load ⟨_, Try.underlying5, rfl⟩ rfl (a32.step0 hO_) (m_at (d := 0) (by rw [l_o]; omega)))) ?_
    refine AllG.cons (gi rfl (d_load (v := (sli pw 0 255 255)) ⟨_, Try.underlying22, rfl⟩ rfl (a20.step0 hO_) rfl)) ?_
    refine AllG.cons (gi rfl (d_move rfl)) ?_
    refine AllG.cons (gi rfl (n_add (a := i) (b := 1) rfl rfl oo)) ?_
    refine AllG.cons (gi rfl (d_move rfl)) ?_
    refine AllG.cons (gi rfl (n_mul (a := (i + 1)) (b := x) rfl rfl (by have h__ : (i + 1) * x ≤ 8 * x := Nat.mul_le_mul_right _ oo; omega))) ?_
    refine AllG.cons (gi rfl (n_rem (a := ((i + 1) * x)) (b := 255) rfl rfl (by decide))) ?_
    refine AllG.cons (gi rfl (d_index1 (n := 255) (i := (((i + 1) * x) % 255)) Try.underlying22 s_ti5 rfl (show _ = Value.int _ ((((i + 1) * x) % 255 : Nat) : Int) from rfl) (Nat.mod_lt _ (by decide)))) ?_
    refine AllG.cons (gi rfl (d_load ⟨_, Try.underlying5, rfl⟩ rfl (a23.step0 hO_) (m_at (d := 0) (by rw [l_pw]; exact Nat.mod_lt _ (by decide))))) ?_
    refine AllG.cons (gi rfl (b_xor (c := ((sumMid pre x i).getD i 0)) (e := ((powTo n).getD (((i + 1) * x) % 255) 0)) rfl rfl)) ?_
    refine AllG.cons (gi rfl (d_index1 (n := 8) (i := i) Try.underlying22 s_ti5 rfl (show _ = Value.int _ (i : Int) from rfl) oo)) ?_
    exact AllG.nil
   intro w50 o51 a52
   replace h1 := h1.stepb o51 (in2 (in2 (in2 (in2 in1))))
   replace a23 := a23.step o51 (fun e => absurd e n_pw_o)
   replace a20 := a20.step o51 (fun e => absurd e n_pc_o)
   replace a39 := a39.step o51 (fun e => absurd e (Ne.symm n_o_oc))
   replace a45 := a45.step o51 (fun e => absurd e (Ne.symm n_o_b43))
   replace aD_ := aD_.step o51 (fun e => absurd e (Ne.symm n_o_D_))
   replace aL_ := aL_.step o51 (fun e => absurd e (Ne.symm n_o_L_))
   replace oW := oW.tailb o51 g_oW_o
   replace o25 := o25.tailb o51 g_o25_o
   replace o47 := o47.tail o51 (fun k _ e => by have : k = o := e; rw [this]; exact (in2 in1))
   replace oR_ := oR_.tail o51 (fun k _ e => by have : k = o := e; rw [this]; exact (Or.inl (in2 in1)))
   replace o48 := o48.tail o51 (fun k _ e => by have : k = o := e; rw [this]; exact (in2 in1))
   replace l_o : ((sumMid pre x i).set i (((sumMid pre x i).getD i 0) ^^^ ((powTo n).getD (((i + 1) * x) % 255) 0)) : List UInt8).length = 8 := (List.length_set ..).trans l_o
   refine inb_n (tN ?_)
   refine pL ?_
   refine wI (n_add (a := i) (b := 1) rfl rfl oo) ?_
   refine wI (d_move rfl) ?_
   refine wF ([(zf46 0), (zf46 1), (zf46 2), (ptr pc 0), (zf46 4), (ptr oc 0), (eN x), (eN i), (zf46 8), (zf46 9), (zf46 10), (eN n)] ++ (zs zf46 12 14 ++ [(Value.func (.func 110) #[] #[(ptr b43 0)]), (eN x), (sli o 0 8 8), (eN 8), (eN (i + 1)), (Value.bool (decide (i < 8))), (eN i), (sli o 0 8 8), (eN i), (ptr o i), (eB ((sumMid pre x i).getD i 0)), (sli pw 0 255 255), (eN i), (eN (i + 1)), (eN x), (eN ((i + 1) * x)), (eN (((i + 1) * x) % 255)), (ptr pw (((i + 1) * x) % 255)), (eB ((powTo n).getD (((i + 1) * x) % 255) 0)), (eB (((sumMid pre x i).getD i 0) ^^^ ((powTo n).getD (((i + 1) * x) % 255) 0))), (ptr o i), (eN (i + 1)), (zf46 48)])) ?_
   refine wD (tN ?_)
   refine ⟨_, (i + 1), rfl, rfl, ⟨?_, ?_, ?_, ?_, ?_, ?_, ?_, ?_, ?_, ?_⟩, ?_⟩
   ·
    (try dsimp only)
    all_goals (omega)
   ·
    exact o48
   ·
    exact a23
   ·
    exact a20
   ·
    exact sumMid_length _ _ _
   ·
    (try dsimp only)
    all_goals (rw [powTo_at hn_, sumMid_step pre x c1] at a52; exact a52)
   ·
    exact a39
   ·
    exact a45
   ·
    exact aD_
   ·
    exact aL_
   ·
    (try dsimp only)
    all_goals (omega)
  refine wpIn_exit ?_
  refine then_x (then_x (inb_e ?_))
  refine inb_n ?_
  refine ⟨oR_, ?_, ?_, ?_, ?_, ?_, ?_, ?_⟩
  ·
   exact o47
  ·
   exact a23
  ·
   exact a20
  ·
   exact sumTo_length _
  ·
   (try dsimp only)
   all_goals (rw [← sumMid_done pre x (i := i) oo]; exact a32)
  ·
   exact a39
  ·
   exact a45
 ·
  intro w1_ hI_ aD_
  obtain ⟨o47, a23, a20, l_o, a32, a39, a45⟩ := hI_
  replace h1 := Ps.re (X' := (Or1 D_ (Or1 b43 (Or1 oc (Or1 o (Or1 pc (Or1 pw No))))))) h1 o47 (or1_skip (or1_mono (or1_mono (or1_mono (or1_mono no_any))))) (xx_new (Nat.le_of_eq hD_) (xx_or1 (xx_or1 (xx_or1 (xx_or1 (xx_or1 xx_id))))))
  replace oW := oW.tail o47 (tl_new g_oW_oc (tl_new g_oW_o (tl_new g_oW_pc (tl_new g_oW_pw tl_no))))
  replace o25 := o25.tail o47 (tl_new g_o25_oc (tl_new g_o25_o (tl_in in1 (tl_in (in2 in1) tl_no))))
  have n_pw_D_ : pw ≠ D_ := by omega
  have n_pc_D_ : pc ≠ D_ := by omega
  have n_o_D_ : o ≠ D_ := by omega
  have n_oc_D_ : oc ≠ D_ := by omega
  have n_b43_D_ : b43 ≠ D_ := by omega
  have g_oW_D_ : W.heap.size ≤ D_ := by omega
  have g_o25_D_ : w22.heap.size ≤ D_ := by omega
  have g_o47_D_ : w41.heap.size ≤ D_ := by omega
  refine inb_n (tN ?_)
  refine wQ (pL ?_)
  refine wI (d_load (v := (sli o 0 8 8)) ⟨_, Try.underlying22, rfl⟩ rfl a39 rfl) ?_
  refine wI (d_assign rfl) ?_
  refine wD (tN ?_)
  refine wpIn_ret ?_
  refine leave (marks_ok aD_) (fun w53 o54 => ⟨res1 Try.results71 rfl, ?_⟩)
  replace o54 := only_mem o54
  replace h1 := h1.stepb o54 in1
  replace a23 := a23.step o54 (fun e => absurd e n_pw_D_)
  replace a20 := a20.step o54 (fun e => absurd e n_pc_D_)
  replace a32 := a32.step o54 (fun e => absurd e n_o_D_)
  replace a39 := a39.step o54 (fun e => absurd e n_oc_D_)
  replace a45 := a45.step o54 (fun e => absurd e n_b43_D_)
  replace oW := oW.tailb o54 g_oW_D_
  replace o25 := o25.tailb o54 g_o25_D_
  replace o47 := o47.tailb o54 g_o47_D_
  exact ROw.arr a32 l_o (sumTo_done la) g_oW_o oW
 ·
  intro _ _ _ _ h _; exact h.elim
theorem bchWhole1_ok (x : UInt8) (W : World) :
    CW Try.prog 98 #[(eB x)] W (Rt (RIs (.bool (!decide ((x : UInt8) = (0 : UInt8)))) W)) := by
 have oW : Only No W W := Only.refl _ _
 refine enter (al := [(eB x)]) (k := 4) (l := [(eB x), undef, undef, undef, undef]) Try.func98 rfl Try.ntmps98 rfl rfl ?_
 refine wQ (pL ?_)
 refine wI (d_assign rfl) ?_
 refine wD (tN (wQ (pL ?_)))
 refine wI (d_move rfl) ?_
 refine wI (b_neq (c := x) (e := 0) rfl rfl rfl) ?_
 refine wI (d_assign rfl) ?_
 refine wD (tN ?_)
 refine wpIn_ret ?_
 refine leave0 (v := (Value.bool (!decide ((x : UInt8) = (0 : UInt8))))) (res1 Try.results98 rfl) ?_
 exact ⟨rfl, oW⟩
theorem indexWhole_ok (la : List UInt8) (u1 : Value) (W : World) (h1 : Ps No (Seq kB la u1) W) (g1 : la.length ≤ 1048576) :
    CW Try.prog 115 #[u1, (Value.func (.func 98) #[] #[])] W (Rt (fun u w => ∃ r : Int, u = eI r ∧ (0 ≤ r ↔ ¬ whole la = true) ∧ Only No W w)) := by
 have oW : Only No W W := Only.refl _ _
 refine enter (al := [u1, (Value.func (.func 98) #[] #[])]) (k := 17) (l := ([u1, (Value.func (.func 98) #[] #[])] ++ (us 17))) Try.func115 rfl Try.ntmps115 rfl rfl ?_
 refine wQ (pL ?_)
 refine wI (d_assign rfl) ?_
 refine wD (tN (wQ (wQ (pL ?_))))
 refine wI (d_move rfl) ?_
 refine wI (d_lenS rfl Try.underlying22 rfl h1) ?_
 refine wI (d_move rfl) ?_
 refine wD (tN (wB ?_))
 refine loop2 (fun (i : (Nat)) => fun (z : Nat → Value) => (([u1, (Value.func (.func 98) #[] #[]), undef, undef, (z 4), (z 5), u1, (eN la.length), (eN i)] ++ (zs z 9 10)) : List Value)) (fun (i : (Nat)) => fun (w_ : World) => (i ≤ la.length) ∧ (∀ j, j < i → la.getD j 0 = 0) ∧ Only No W w_) (fun (i : (Nat)) => la.length - i) 0 kr ?_ ?_
 ·
  refine ⟨?_, ?_, ?_⟩
  ·
   exact Nat.zero_le _
  ·
   exact fun j hj => absurd hj (Nat.not_lt_zero _)
  ·
   exact Only.refl _ _
 rintro i z w12 ⟨hi, hno, o11⟩
 (try dsimp only)
 replace h1 := h1.step o11 no_any
 replace oW := oW.tail o11 tl_no
 refine wQ (pL ?_)
 refine wI (n_lss (a := i) (b := la.length) rfl rfl rfl) ?_
 refine wD (tN (wQ ?_))
 refine cond_if rfl (fun c0 => ?_) (fun c0 => ?_)
 ·
  refine wK (tN (wQ (wB (wQ (pL ?_)))))
  refine wI (d_move rfl) ?_
  refine wI (d_assign rfl) ?_
  refine wD (tN (wQ (pL ?_)))
  refine wI (d_move rfl) ?_
  refine wI (d_move rfl) ?_
  refine wF ([u1, (Value.func (.func 98) #[] #[]), undef, undef, (z 4), (eN i), u1, (eN la.length), (eN i), (Value.bool (decide (i < la.length))), (eN i), (Value.func (.func 98) #[] #[]), u1] ++ (zs z 13 6)) ?_
  refine wI (d_move rfl) ?_
  refine wI (d_ix (i := i) (xs := la) Try.underlying22 s_ti5 rfl h1 (show _ = Value.int _ (i : Int) from rfl) fo) ?_
  refine wI (d_ldx (i := i) (xs := la) (enc := eB) (v := (la.getD i 0)) ⟨_, Try.underlying5, rfl⟩ rfl h1 (g_at fo)) ?_
  refine wO (d_callv (xl := [.tmp 15]) (al := [(eB (la.getD i 0))]) rfl Try.func98 kr rfl rfl rfl (bchWhole1_ok (la.getD i 0) _)) ?_
  rintro _ w13 ⟨rfl, o14⟩
  replace h1 := h1.step0 o14
  replace oW := oW.tail0 o14
  replace o11 := o11.tail0 o14
  refine wD (tN ?_)
  refine cond_un rfl (fun k1 => ?_) (fun k1 => ?_)
  ·
   refine wQ (pL ?_)
   refine wI (d_move rfl) ?_
   refine wF [u1, (Value.func (.func 98) #[] #[]), undef, undef, (z 4), (eN i), u1, (eN la.length), (eN i), (Value.bool (decide (i < la.length))), (eN i), (Value.func (.func 98) #[] #[]), u1, (eN i), (ixp u1 i), (eB (la.getD i 0)), (Value.bool (!decide (((la.getD i 0) : UInt8) = (0 : UInt8)))), (eN i), (z 18)] ?_
   refine wI (d_assign rfl) ?_
   refine wD (tN ?_)
   refine wpIn_ret ?_
   refine inb_r (then_r (then_r (inb_r (then_r ?_))))
   refine leave0 (v := (eN i)) (res1 Try.results115 rfl) ?_
   exact ⟨_, rfl, ⟨fun _ h => k1 ((whole_iff la).1 h i c0), fun _ => Int.natCast_nonneg _⟩, oW⟩
  refine wK ?_
  refine inb_n (tN ?_)
  refine pL ?_
  refine wI (n_add (a := i) (b := 1) rfl rfl oo) ?_
  refine wF [u1, (Value.func (.func 98) #[] #[]), undef, undef, (z 4), (eN i), u1, (eN la.length), (eN i), (Value.bool (decide (i < la.length))), (eN i), (Value.func (.func 98) #[] #[]), u1, (eN i), (ixp u1 i), (eB (la.getD i 0)), (Value.bool (!decide (((la.getD i 0) : UInt8) = (0 : UInt8)))), (z 17), (eN (i + 1))] ?_
  refine wI (d_move rfl) ?_
  refine wD (tN ?_)
  refine ⟨_, (i + 1), rfl, kr, ⟨?_, ?_, ?_⟩, ?_⟩
  ·
   (try dsimp only)
   all_goals (omega)
  ·
   (try dsimp only)
   all_goals (exact fun j hj => (Nat.lt_succ_iff_lt_or_eq.1 hj).elim (hno j) (fun h => by rw [h]; exact k1))
  ·
   exact o11
  ·
   (try dsimp only)
   all_goals (omega)
 refine wpIn_exit ?_
 refine then_x (then_x (inb_e ?_))
 refine tN (wQ (pL ?_))
 refine wI (d_assign rfl) ?_
 refine wD (tN ?_)
 refine wpIn_ret ?_
 refine leave0 (v := (eI (-1))) (res1 Try.results115 rfl) ?_
 exact ⟨_, rfl, ⟨fun h => absurd h (by decide), fun h => absurd ((whole_iff la).2 fun j hj => hno j oo) h⟩, oW⟩
theorem containsWhole_ok (la : List UInt8) (u1 : Value) (W : World) (h1 : Ps No (Seq kB la u1) W) (g1 : la.length ≤ 1048576) :
    CW Try.prog 97 #[u1, (Value.func (.func 98) #[] #[])] W (Rt (RIs (.bool (!whole la)) W)) := by
 have oW : Only No W W := Only.refl _ _
 refine enter (al := [u1, (Value.func (.func 98) #[] #[])]) (k := 7) (l := ([u1, (Value.func (.func 98) #[] #[])] ++ (us 7))) Try.func97 rfl Try.ntmps97 rfl rfl ?_
 refine wQ (pL ?_)
 refine wI (d_assign rfl) ?_
 refine wD (tN (wQ (pL ?_)))
 refine wI (d_move rfl) ?_
 refine wI (d_move rfl) ?_
 refine wO (d_call (xl := [.tmp 5, .tmp 6]) (al := [u1, (Value.func (.func 98) #[] #[])]) Try.func115 kr rfl rfl rfl (indexWhole_ok la u1 _ (Ps.no h1) fo)) ?_
 rintro _ w11 ⟨r13, rfl, h14, o12⟩
 replace h1 := h1.step0 o12
 replace oW := oW.tail0 o12
 refine wI (d_geq (k := .i64) (m := r13) (n := 0) rfl rfl rfl) ?_
 refine wF [u1, (Value.func (.func 98) #[] #[]), undef, undef, vF, u1, (Value.func (.func 98) #[] #[]), (eI r13), (Value.bool (decide (0 ≤ r13)))] ?_
 refine wI (d_assign rfl) ?_
 refine wD (tN ?_)
 refine wpIn_ret ?_
 refine leave0 (v := (Value.bool (decide (0 ≤ r13)))) (res1 Try.results97 rfl) ?_
 exact ⟨congrArg Value.bool (by rw [Bool.eq_iff_iff, decide_eq_true_eq, h14]; cases whole la <;> simp), oW⟩
theorem bchWhole_ok (la : List UInt8) (u1 : Value) (W : World) (h1 : Ps No (Seq kB la u1) W) (g1 : la.length ≤ 1048576) :
    CW Try.prog 72 #[u1] W (Rt (RIs (.bool (whole la)) W)) := by
 have oW : Only No W W := Only.refl _ _
 refine enter (al := [u1]) (k := 5) (l := ([u1] ++ (us 5))) Try.func72 rfl Try.ntmps72 rfl rfl ?_
 refine wQ (pL ?_)
 refine wI (d_assign rfl) ?_
 refine wD (tN (wQ (pL ?_)))
 refine wI (d_move rfl) ?_
 refine wO (d_call (xl := [.tmp 3, .func 98]) (al := [u1, (Value.func (.func 98) #[] #[])]) Try.func97 kr rfl rfl rfl (containsWhole_ok la u1 _ (Ps.no h1) fo)) ?_
 rintro _ w11 ⟨rfl, o12⟩
 replace h1 := h1.step0 o12
 replace oW := oW.tail0 o12
 refine wI (d_not rfl rfl) ?_
 refine wI (d_assign rfl) ?_
 refine wF [u1, undef, (Value.bool (!(!whole la))), u1, (Value.bool (!whole la)), (Value.bool (!(!whole la)))] ?_
 refine wD (tN ?_)
 refine wpIn_ret ?_
 refine leave0 (v := (Value.bool (!(!whole la)))) (res1 Try.results72 rfl) ?_
 exact ⟨congrArg Value.bool (Bool.not_not _), oW⟩
def RTb {α : Type} (q : Kd α) (d : List α) (b : Bool) (W : World) : Value → World → Prop := fun u w => ∃ a, u = .tuple #[a, .bool b] ∧ Ps (Old W.heap.size) (Seq q d a) w ∧ Only No W w
def RDec (d : List UInt8) (n : Nat) (b : Bool) (W : World) : Value → World → Prop := fun u w => ∃ a, u = .tuple #[a, eN n, .bool b] ∧ Ps (Old W.heap.size) (Seq kB d a) w ∧ Only No W w
theorem RTb.of {α : Type} {q : Kd α} {d d' : List α} {b b' : Bool} {W w : World} {a : Value} (hd : d = d') (hb : b = b') (hp : Ps (Old W.heap.size) (Seq q d a) w) (ho : Only No W w) : RTb q d' b' W (.tuple #[a, .bool b]) w := by subst hd; subst hb; exact ⟨a, rfl, hp, ho⟩
theorem RDec.of {d d' : List UInt8} {n n' : Nat} {b b' : Bool} {W w : World} {a : Value} (h : d' = d ∧ n' = n ∧ b' = b) (hp : Ps (Old W.heap.size) (Seq kB d a) w) (ho : Only No W w) : RDec d' n' b' W (.tuple #[a, eN n, .bool b]) w := by obtain ⟨rfl, rfl, rfl⟩ := h; exact ⟨a, rfl, hp, ho⟩
theorem bchLoc_ok (la : List UInt8) (n : Nat) (u1 : Value) (W : World) (h1 : Ps No (Seq kB la u1) W) (g8 : la.length = 8) :
    CW Try.prog 73 #[u1, (eN n)] W (Rt (RTb kB (locL la n).1 (locL la n).2 W)) := by
 have oW : Only No W W := Only.refl _ _
 refine enter (al := [u1, (eN n)]) (k := 75) (l := ([u1, (eN n)] ++ (us 75))) Try.func73 rfl Try.ntmps73 rfl rfl ?_
 refine wQ (pL ?_)
 refine wI (d_assign rfl) ?_
 refine wI (d_assign rfl) ?_
 refine wD (tN (wQ (pL ?_)))
 refine wI (d_move rfl) ?_
 refine wI (d_ix (i := 0) (xs := la) Try.underlying22 s_ti5 rfl h1 (show _ = Value.int _ ((0 : Nat) : Int) from rfl) fo) ?_
 refine wI (d_ldx (i := 0) (xs := la) (enc := eB) (v := (la.getD 0 0)) ⟨_, Try.underlying5, rfl⟩ rfl h1 (g_at fo)) ?_
 refine wF ([u1, (eN n), undef, undef, (Value.slice none 0 0), vF, undef, undef, undef, u1, (ixp u1 0), (eB (la.getD 0 0))] ++ (us 65)) ?_
 refine wO (d_call (xl := [.tmp 11, .const (.int .i64 3)]) (al := [(eB (la.getD 0 0)), (eN 3)]) Try.func99 kr rfl rfl rfl (gfPow_ok (la.getD 0 0) 3 _)) ?_
 rintro _ w11 ⟨rfl, o12⟩
 replace h1 := h1.step0 o12
 replace oW := oW.tail0 o12
 refine wI (d_assign rfl) ?_
 refine wD (tN (wQ (wQ (pL ?_))))
 refine wI (d_move rfl) ?_
 refine wD (tN (wB (wQ (pL ?_))))
 refine wI (n_eql (a := n) (b := 1) rfl rfl rfl) ?_
 refine wI (d_assign rfl) ?_
 refine wF ([u1, (eN n), undef, undef, (Value.slice none 0 0), vF, (eB (powB (la.getD 0 0) 3)), undef, undef, u1, (ixp u1 0), (eB (la.getD 0 0)), (eB (powB (la.getD 0 0) 3)), (eN n), (Value.bool (decide (n = 1))), (Value.bool (decide (n = 1)))] ++ (us 61)) ?_
 refine wD (tN ?_)
 refine forget (fun zf13 => ([u1] ++ (zs zf13 1 5 ++ [(eB (powB (la.getD 0 0) 3))] ++ (zs zf13 7 6 ++ [(eN n), (Value.bool (decide (n = 1)))] ++ (zs zf13 15 7 ++ (us 18 ++ (zs zf13 40 5 ++ (us 32)))))))) kr (fun zf13 => ?_)
 refine cond_if rfl (fun c1 => ?_) (fun c1 => ?_)
 ·
  refine wQ (pL ?_)
  refine wI (d_move rfl) ?_
  refine wI (d_ix (i := 0) (xs := la) Try.underlying22 s_ti5 rfl h1 (show _ = Value.int _ ((0 : Nat) : Int) from rfl) fo) ?_
  refine wI (d_ldx (i := 0) (xs := la) (enc := eB) (v := (la.getD 0 0)) ⟨_, Try.underlying5, rfl⟩ rfl h1 (g_at fo)) ?_
  refine wO (d_buildL (cs := [(eB (la.getD 0 0))]) Try.underlying22 s_ti5 rfl (nb rfl) (parts_cons (vs := [(eB (la.getD 0 0))]) (cells_of (v := (eB (la.getD 0 0))) rfl rfl) parts_nil) rfl) ?_
  rintro _ w15 ⟨b14, rfl, g16, a17, o18⟩
  replace a17 : Arr 5 b14 (([(la.getD 0 0)] : List UInt8).map eB) w15 := a17
  have l_b14 : ([(la.getD 0 0)] : List UInt8).length = 1 := rfl
  have g_oW_b14 : W.heap.size ≤ b14 := Nat.le_trans oW.size g16
  replace h1 := h1.new o18 g16
  replace oW := oW.tail0 o18
  refine wI (d_assign rfl) ?_
  refine wF ([u1, (zf13 1), (zf13 2), (zf13 3), (sli b14 0 1 1), (zf13 5), (eB (powB (la.getD 0 0) 3))] ++ (zs zf13 7 6 ++ [(eN n), (Value.bool (decide (n = 1))), (zf13 15), u1, (ixp u1 0), (eB (la.getD 0 0)), (sli b14 0 1 1), (zf13 20), (zf13 21)] ++ (us 18 ++ (zs zf13 40 5 ++ (us 32))))) ?_
  refine wI (d_assign rfl) ?_
  refine wD (tN ?_)
  refine forget (fun zf19 => ([(zf19 0), (zf19 1), (zf19 2), (zf19 3), (sli b14 0 1 1), vT] ++ (zs zf19 6 71))) kr (fun zf19 => ?_)
  refine wpIn_ret ?_
  refine inb_r (then_r ?_)
  refine leave0 (v := (Value.tuple #[(sli b14 0 1 1), vT])) (res2 Try.results73 rfl rfl) ?_
  exact RTb.of (congrArg Prod.fst (loc_n1 c1)).symm (congrArg Prod.snd (loc_n1 c1)).symm (arr_keep a17 l_b14 (Nat.le_refl _) (old_ne g_oW_b14)) oW
 refine wQ (pL ?_)
 refine wI (n_eql (a := n) (b := 2) rfl rfl rfl) ?_
 refine wI (d_assign rfl) ?_
 refine wD (tN ?_)
 refine cond_if rfl (fun c2 => ?_) (fun c2 => ?_)
 ·
  refine wQ ?_
  refine wp_eq (l' := ([u1] ++ (zs zf13 1 5 ++ [(eB (powB (la.getD 0 0) 3))] ++ (zs zf13 7 6 ++ [(eN n), (Value.bool (decide (n = 1)))] ++ (zs zf13 15 5 ++ [(Value.bool (decide (n = 2))), (Value.bool (decide (n = 2)))] ++ (us 18 ++ (zs zf13 40 5 ++ (us 32)))))))) rfl ?_
  refine drawn' (O := No) (n := 20) [0, 1, 3, 0, 8, 24, 0, 120, 0, 256, 768, 1792, 4088, 8191, 0, 16384, 49152, 114688, 16383, 524287] [(0, 22), (1, 23), (2, 24), (3, 25), (4, 26), (5, 27), (6, 28), (7, 29), (8, 30), (9, 31), (10, 32), (11, 33), (12, 34), (13, 35), (14, 36), (15, 37), (16, 38), (17, 39), (18, 4), (19, 5)] [0, 1, 2, 3, 4, 5, 6, 7, 8, 9, 10, 11, 12, 13, 14, 15, 16, 17, 18, 19] [] (fun i_ => ([RF.is No u1, RF.is No (ixp u1 0), RF.is No (eB (la.getD 0 0)), RF.is No u1, RF.is No (ixp u1 2), RF.is No (eB (la.getD 2 0)), RF.is No (eB (powB (la.getD 0 0) 3)), RF.is No (eB ((la.getD 2 0) ^^^ (powB (la.getD 0 0) 3))), RF.is No u1, RF.is No (ixp u1 0), RF.is No (eB (la.getD 0 0)), RF.is No (eB (invB (la.getD 0 0))), RF.is No (eB (gm ((la.getD 2 0) ^^^ (powB (la.getD 0 0) 3)) (invB (la.getD 0 0)))), RF.ps No (Old W.heap.size) (Seq kB [(la.getD 0 0), gm ((la.getD 2 0) ^^^ (powB (la.getD 0 0) 3)) (invB (la.getD 0 0))]) no_any, RF.is No u1, RF.is No (ixp u1 0), RF.is No (eB (la.getD 0 0)), RF.is No (Value.bool (!decide (((la.getD 0 0) : UInt8) = (0 : UInt8)))), RF.ps No (Old W.heap.size) (Seq kB [(la.getD 0 0), gm ((la.getD 2 0) ^^^ (powB (la.getD 0 0) 3)) (invB (la.getD 0 0))]) no_any, RF.is No (Value.bool (!decide (((la.getD 0 0) : UInt8) = (0 : UInt8))))] : List (RF No)).getD i_ (RF.any No)) (fun _ w_ => True) (fun v20 => ([u1, (zf13 1), (zf13 2), (zf13 3), (v20 18), (v20 19), (eB (powB (la.getD 0 0) 3))] ++ (zs zf13 7 6 ++ [(eN n), (Value.bool (decide (n = 1)))] ++ (zs zf13 15 5 ++ [(Value.bool (decide (n = 2))), (Value.bool (decide (n = 2))), (v20 0), (v20 1), (v20 2), (v20 3), (v20 4), (v20 5), (v20 6), (v20 7), (v20 8), (v20 9), (v20 10), (v20 11), (v20 12), (v20 13), (v20 14), (v20 15), (v20 16), (v20 17)] ++ (zs zf13 40 5 ++ (us 32)))))) s_mx kr rfl kr (by rfl) (fun v_ => by kernel_rfl) (fun _ => fun _ _ _ _ => trivial) trivial ?_ ?_ ?_
  ·
   refine ls_cons ?_ ?_
   ·
    intro v20 lo hi w_ k_ hO hd _ _ hk_ _ hR hold
    clear hd hold
    refine ⟨_, rfl, gd rfl ?_⟩
    exact Does.is (d_move rfl)
   refine ls_cons ?_ ?_
   ·
    intro v20 lo hi w_ k_ hO hd _ _ hk_ _ hR hold
    have e0 : v20 0 = u1 := hd 0 kr
    clear hd hold
    refine ⟨_, rfl, gd rfl ?_⟩
    exact Does.is (d_ix (i := 0) (xs := la) Try.underlying22 s_ti5 e0 (h1.step hO no_any) (show _ = Value.int _ ((0 : Nat) : Int) from rfl) fo)
   refine ls_cons ?_ ?_
   ·
    intro v20 lo hi w_ k_ hO hd _ _ hk_ _ hR hold
    have e1 : v20 1 = (ixp u1 0) := hd 1 kr
    clear hd hold
    refine ⟨_, rfl, gd rfl ?_⟩
    exact Does.is (d_ldx (i := 0) (xs := la) (enc := eB) (v := (la.getD 0 0)) ⟨_, Try.underlying5, rfl⟩ e1 (h1.step hO no_any) (g_at fo))
   refine ls_cons ?_ ?_
   ·
    intro v20 lo hi w_ k_ hO hd _ _ hk_ _ hR hold
    clear hd hold
    refine ⟨_, rfl, gd rfl ?_⟩
    exact Does.is (d_move rfl)
   refine ls_cons ?_ ?_
   ·
    intro v20 lo hi w_ k_ hO hd _ _ hk_ _ hR hold
    have e3 : v20 3 = u1 := hd 3 kr
    clear hd hold
    refine ⟨_, rfl, gd rfl ?_⟩
    exact Does.is (d_ix (i := 2) (xs := la) Try.underlying22 s_ti5 e3 (h1.step hO no_any) (show _ = Value.int _ ((2 : Nat) : Int) from rfl) fo)
   refine ls_cons ?_ ?_
   ·
    intro v20 lo hi w_ k_ hO hd _ _ hk_ _ hR hold
    have e4 : v20 4 = (ixp u1 2) := hd 4 kr
    clear hd hold
    refine ⟨_, rfl, gd rfl ?_⟩
    exact Does.is (d_ldx (i := 2) (xs := la) (enc := eB) (v := (la.getD 2 0)) ⟨_, Try.underlying5, rfl⟩ e4 (h1.step hO no_any) (g_at fo))
   refine ls_cons ?_ ?_
   ·
    intro v20 lo hi w_ k_ hO hd _ _ hk_ _ hR hold
    clear hd hold
    refine ⟨_, rfl, gd rfl ?_⟩
    exact Does.is (d_move rfl)
   refine ls_cons ?_ ?_
   ·
    intro v20 lo hi w_ k_ hO hd _ _ hk_ _ hR hold
    have e5 : v20 5 = (eB (la.getD 2 0)) := hd 5 kr
    have e6 : v20 6 = (eB (powB (la.getD 0 0) 3)) := hd 6 kr
    clear hd hold
    refine ⟨_, rfl, gd rfl ?_⟩
    exact Does.is (b_xor (c := (la.getD 2 0)) (e := (powB (la.getD 0 0) 3)) e5 e6)
   refine ls_cons ?_ ?_
   ·
    intro v20 lo hi w_ k_ hO hd _ _ hk_ _ hR hold
    clear hd hold
    refine ⟨_, rfl, gd rfl ?_⟩
    exact Does.is (d_move rfl)
   refine ls_cons ?_ ?_
   ·
    intro v20 lo hi w_ k_ hO hd _ _ hk_ _ hR hold
    have e8 : v20 8 = u1 := hd 8 kr
    clear hd hold
    refine ⟨_, rfl, gd rfl ?_⟩
    exact Does.is (d_ix (i := 0) (xs := la) Try.underlying22 s_ti5 e8 (h1.step hO no_any) (show _ = Value.int _ ((0 : Nat) : Int) from rfl) fo)
   refine ls_cons ?_ ?_
   ·
    intro v20 lo hi w_ k_ hO hd _ _ hk_ _ hR hold
    have e9 : v20 9 = (ixp u1 0) := hd 9 kr
    clear hd hold
    refine ⟨_, rfl, gd rfl ?_⟩
    exact Does.is (d_ldx (i := 0) (xs := la) (enc := eB) (v := (la.getD 0 0)) ⟨_, Try.underlying5, rfl⟩ e9 (h1.step hO no_any) (g_at fo))
   refine ls_cons ?_ ?_
   ·
    intro v20 lo hi w_ k_ hO hd _ _ hk_ _ hR hold
    have e10 : v20 10 = (eB (la.getD 0 0)) := hd 10 kr
    clear hd hold
    refine ⟨_, rfl, gd rfl ?_⟩
    exact d_call (xl := [.tmp 32]) (al := [(eB (la.getD 0 0))]) Try.func89 kr rfl (show ([(v20 10)] : List Value) = [(eB (la.getD 0 0))] from by rw [e10]) rfl (gfInv_ok (la.getD 0 0) _)
   refine ls_cons ?_ ?_
   ·
    intro v20 lo hi w_ k_ hO hd _ _ hk_ _ hR hold
    have e11 : v20 11 = (eB (invB (la.getD 0 0))) := hd 11 kr
    have e7 : v20 7 = (eB ((la.getD 2 0) ^^^ (powB (la.getD 0 0) 3))) := hd 7 kr
    clear hd hold
    refine ⟨_, rfl, gd rfl ?_⟩
    exact d_call (xl := [.tmp 29, .tmp 33]) (al := [(eB ((la.getD 2 0) ^^^ (powB (la.getD 0 0) 3))), (eB (invB (la.getD 0 0)))]) Try.func90 kr rfl (show ([(v20 7), (v20 11)] : List Value) = [(eB ((la.getD 2 0) ^^^ (powB (la.getD 0 0) 3))), (eB (invB (la.getD 0 0)))] from by rw [e7, e11]) rfl (gfMul_ok ((la.getD 2 0) ^^^ (powB (la.getD 0 0) 3)) (invB (la.getD 0 0)) _)
   refine ls_cons ?_ ?_
   ·
    intro v20 lo hi w_ k_ hO hd _ _ hk_ _ hR hold
    have e12 : v20 12 = (eB (gm ((la.getD 2 0) ^^^ (powB (la.getD 0 0) 3)) (invB (la.getD 0 0)))) := hd 12 kr
    have e2 : v20 2 = (eB (la.getD 0 0)) := hd 2 kr
    clear hd hold
    refine ⟨_, rfl, gd rfl ?_⟩
    refine Does.mono (d_buildL (cs := [(eB (la.getD 0 0)), (eB (gm ((la.getD 2 0) ^^^ (powB (la.getD 0 0) 3)) (invB (la.getD 0 0))))]) Try.underlying22 s_ti5 rfl (nb rfl) (parts_cons (vs := [(eB (la.getD 0 0))]) (cells_of (v := (eB (la.getD 0 0))) e2 rfl) (parts_cons (vs := [(eB (gm ((la.getD 2 0) ^^^ (powB (la.getD 0 0) 3)) (invB (la.getD 0 0))))]) (cells_of (v := (eB (gm ((la.getD 2 0) ^^^ (powB (la.getD 0 0) 3)) (invB (la.getD 0 0))))) e12 rfl) parts_nil)) rfl) (fun u w' h => ⟨(made_seq (n := 2) (xs := [(la.getD 0 0), gm ((la.getD 2 0) ^^^ (powB (la.getD 0 0) 3)) (invB (la.getD 0 0))]) (enc := eB) h rfl).1.less (old_old (Nat.le_trans oW.size hO.size)), (made_seq (n := 2) (xs := [(la.getD 0 0), gm ((la.getD 2 0) ^^^ (powB (la.getD 0 0) 3)) (invB (la.getD 0 0))]) (enc := eB) h rfl).2⟩)
   refine ls_cons ?_ ?_
   ·
    intro v20 lo hi w_ k_ hO hd _ _ hk_ _ hR hold
    clear hd hold
    refine ⟨_, rfl, gd rfl ?_⟩
    exact Does.is (d_move rfl)
   refine ls_cons ?_ ?_
   ·
    intro v20 lo hi w_ k_ hO hd _ _ hk_ _ hR hold
    have e14 : v20 14 = u1 := hd 14 kr
    clear hd hold
    refine ⟨_, rfl, gd rfl ?_⟩
    exact Does.is (d_ix (i := 0) (xs := la) Try.underlying22 s_ti5 e14 (h1.step hO no_any) (show _ = Value.int _ ((0 : Nat) : Int) from rfl) fo)
   refine ls_cons ?_ ?_
   ·
    intro v20 lo hi w_ k_ hO hd _ _ hk_ _ hR hold
    have e15 : v20 15 = (ixp u1 0) := hd 15 kr
    clear hd hold
    refine ⟨_, rfl, gd rfl ?_⟩
    exact Does.is (d_ldx (i := 0) (xs := la) (enc := eB) (v := (la.getD 0 0)) ⟨_, Try.underlying5, rfl⟩ e15 (h1.step hO no_any) (g_at fo))
   refine ls_cons ?_ ?_
   ·
    intro v20 lo hi w_ k_ hO hd _ _ hk_ _ hR hold
    have e16 : v20 16 = (eB (la.getD 0 0)) := hd 16 kr
    clear hd hold
    refine ⟨_, rfl, gd rfl ?_⟩
    exact Does.is (b_neq (c := (la.getD 0 0)) (e := 0) e16 rfl rfl)
   refine ls_cons ?_ ?_
   ·
    intro v20 lo hi w_ k_ hO hd _ _ hk_ _ hR hold
    have d13 : Ps (Old W.heap.size) (Seq kB [(la.getD 0 0), gm ((la.getD 2 0) ^^^ (powB (la.getD 0 0) 3)) (invB (la.getD 0 0))] (v20 13)) w_ := hd 13 kr
    clear hd hold
    refine ⟨_, rfl, gd rfl ?_⟩
    refine Does.mono (d_assign rfl) (fun u w' h => by obtain ⟨rfl, rfl⟩ := h; exact ⟨d13, Only.refl _ _⟩)
   refine ls_cons ?_ ?_
   ·
    intro v20 lo hi w_ k_ hO hd _ _ hk_ _ hR hold
    have e17 : v20 17 = (Value.bool (!decide (((la.getD 0 0) : UInt8) = (0 : UInt8)))) := hd 17 kr
    clear hd hold
    refine ⟨_, rfl, gd rfl ?_⟩
    exact Does.is (d_assign (v := (Value.bool (!decide (((la.getD 0 0) : UInt8) = (0 : UInt8))))) e17)
   exact ls_nil
  ·
   exact ms_nil
  intro v20 lo_ hi_ w21 o22 hd iv_ hR
  have e0 : v20 0 = u1 := hd 0 (by decide)
  have e1 : v20 1 = (ixp u1 0) := hd 1 (by decide)
  have e2 : v20 2 = (eB (la.getD 0 0)) := hd 2 (by decide)
  have e3 : v20 3 = u1 := hd 3 (by decide)
  have e4 : v20 4 = (ixp u1 2) := hd 4 (by decide)
  have e5 : v20 5 = (eB (la.getD 2 0)) := hd 5 (by decide)
  have e6 : v20 6 = (eB (powB (la.getD 0 0) 3)) := hd 6 (by decide)
  have e7 : v20 7 = (eB ((la.getD 2 0) ^^^ (powB (la.getD 0 0) 3))) := hd 7 (by decide)
  have e8 : v20 8 = u1 := hd 8 (by decide)
  have e9 : v20 9 = (ixp u1 0) := hd 9 (by decide)
  have e10 : v20 10 = (eB (la.getD 0 0)) := hd 10 (by decide)
  have e11 : v20 11 = (eB (invB (la.getD 0 0))) := hd 11 (by decide)
  have e12 : v20 12 = (eB (gm ((la.getD 2 0) ^^^ (powB (la.getD 0 0) 3)) (invB (la.getD 0 0)))) := hd 12 (by decide)
  have e14 : v20 14 = u1 := hd 14 (by decide)
  have e15 : v20 15 = (ixp u1 0) := hd 15 (by decide)
  have e16 : v20 16 = (eB (la.getD 0 0)) := hd 16 (by decide)
  have e17 : v20 17 = (Value.bool (!decide (((la.getD 0 0) : UInt8) = (0 : UInt8)))) := hd 17 (by decide)
  have e19 : v20 19 = (Value.bool (!decide (((la.getD 0 0) : UInt8) = (0 : UInt8)))) := hd 19 (by decide)
  have f_v20_13 : Ps (Old W.heap.size) (Seq kB [(la.getD 0 0), gm ((la.getD 2 0) ^^^ (powB (la.getD 0 0) 3)) (invB (la.getD 0 0))] (v20 13)) w21 := hd 13 (by decide)
  have f_v20_18 : Ps (Old W.heap.size) (Seq kB [(la.getD 0 0), gm ((la.getD 2 0) ^^^ (powB (la.getD 0 0) 3)) (invB (la.getD 0 0))] (v20 18)) w21 := hd 18 (by decide)
  clear hd iv_ lo_ hi_
  refine fr_eq (l' := ([u1, (zf13 1), (zf13 2), (zf13 3), (v20 18), (Value.bool (!decide (((la.getD 0 0) : UInt8) = (0 : UInt8)))), (eB (powB (la.getD 0 0) 3))] ++ (zs zf13 7 6 ++ [(eN n), (Value.bool (decide (n = 1)))] ++ (zs zf13 15 5 ++ [(Value.bool (decide (n = 2))), (Value.bool (decide (n = 2))), u1, (ixp u1 0), (eB (la.getD 0 0)), u1, (ixp u1 2), (eB (la.getD 2 0)), (eB (powB (la.getD 0 0) 3)), (eB ((la.getD 2 0) ^^^ (powB (la.getD 0 0) 3))), u1, (ixp u1 0), (eB (la.getD 0 0)), (eB (invB (la.getD 0 0))), (eB (gm ((la.getD 2 0) ^^^ (powB (la.getD 0 0) 3)) (invB (la.getD 0 0)))), (v20 13), u1, (ixp u1 0), (eB (la.getD 0 0)), (Value.bool (!decide (((la.getD 0 0) : UInt8) = (0 : UInt8))))] ++ (zs zf13 40 5 ++ (us 32)))))) (by rw [e0, e1, e2, e3, e4, e5, e6, e7, e8, e9, e10, e11, e12, e14, e15, e16, e17, e19] <;> rfl) ?_
  clear e0 e1 e2 e3 e4 e5 e6 e7 e8 e9 e10 e11 e12 e14 e15 e16 e17 e19
  replace h1 := h1.step o22 no_any
  clear hR
  replace oW := oW.tail o22 tl_no
  refine tN ?_
  refine forget (fun zf23 => ([(zf23 0), (zf23 1), (zf23 2), (zf23 3), (v20 18), (Value.bool (!decide (((la.getD 0 0) : UInt8) = (0 : UInt8))))] ++ (zs zf23 6 71))) kr (fun zf23 => ?_)
  refine wpIn_ret ?_
  refine inb_r (then_r ?_)
  refine leave0 (v := (Value.tuple #[(v20 18), (Value.bool (!decide (((la.getD 0 0) : UInt8) = (0 : UInt8))))])) (res2 Try.results73 rfl rfl) ?_
  exact RTb.of (congrArg Prod.fst (loc_n2 c1 c2)).symm (congrArg Prod.snd (loc_n2 c1 c2)).symm (f_v20_18.less xx_id) oW
 refine wK ?_
 refine inb_n (tN ?_)
 refine wQ (pL ?_)
 refine wI (d_move rfl) ?_
 refine wI (d_move rfl) ?_
 refine wI (d_ix (i := 2) (xs := la) Try.underlying22 s_ti5 rfl h1 (show _ = Value.int _ ((2 : Nat) : Int) from rfl) fo) ?_
 refine wF ([u1] ++ (zs zf13 1 5 ++ [(eB (powB (la.getD 0 0) 3))] ++ (zs zf13 7 6 ++ [(eN n), (Value.bool (decide (n = 1)))] ++ (zs zf13 15 5 ++ [(Value.bool (decide (n = 2))), (Value.bool (decide (n = 2)))] ++ (us 18 ++ [(eB (powB (la.getD 0 0) 3)), u1, (ixp u1 2), (zf13 43), (zf13 44)] ++ (us 32)))))) ?_
 refine wI (d_ldx (i := 2) (xs := la) (enc := eB) (v := (la.getD 2 0)) ⟨_, Try.underlying5, rfl⟩ rfl h1 (g_at fo)) ?_
 refine wI (b_xor (c := (powB (la.getD 0 0) 3)) (e := (la.getD 2 0)) rfl rfl) ?_
 refine wI (d_assign rfl) ?_
 refine wD (tN ?_)
 refine forget (fun zf24 => ([u1] ++ (zs zf24 1 6 ++ [(eB ((powB (la.getD 0 0) 3) ^^^ (la.getD 2 0)))] ++ (zs zf24 8 37 ++ (us 32))))) kr (fun zf24 => ?_)
 refine wQ ?_
 refine drawn_pure [0, 1, 3, 0, 8, 24, 63, 0, 128, 384, 1023, 0, 2048, 6144, 16383, 0, 34815, 131071, 262143] [(0, 45), (1, 46), (2, 47), (3, 48), (4, 49), (5, 50), (6, 51), (7, 52), (8, 53), (9, 54), (10, 55), (11, 56), (12, 57), (13, 58), (14, 59), (15, 60), (16, 61), (17, 62), (18, 8)] [u1, (ixp u1 0), (eB (la.getD 0 0)), u1, (ixp u1 0), (eB (la.getD 0 0)), (eB (gm (la.getD 0 0) (la.getD 0 0))), u1, (ixp u1 2), (eB (la.getD 2 0)), (eB (gm (gm (la.getD 0 0) (la.getD 0 0)) (la.getD 2 0))), u1, (ixp u1 4), (eB (la.getD 4 0)), (eB ((gm (gm (la.getD 0 0) (la.getD 0 0)) (la.getD 2 0)) ^^^ (la.getD 4 0))), (eB ((powB (la.getD 0 0) 3) ^^^ (la.getD 2 0))), (eB (invB ((powB (la.getD 0 0) 3) ^^^ (la.getD 2 0)))), (eB (gm ((gm (gm (la.getD 0 0) (la.getD 0 0)) (la.getD 2 0)) ^^^ (la.getD 4 0)) (invB ((powB (la.getD 0 0) 3) ^^^ (la.getD 2 0))))), (eB (gm ((gm (gm (la.getD 0 0) (la.getD 0 0)) (la.getD 2 0)) ^^^ (la.getD 4 0)) (invB ((powB (la.getD 0 0) 3) ^^^ (la.getD 2 0)))))] ([u1] ++ (zs zf24 1 6 ++ [(eB ((powB (la.getD 0 0) 3) ^^^ (la.getD 2 0))), (eB (gm ((gm (gm (la.getD 0 0) (la.getD 0 0)) (la.getD 2 0)) ^^^ (la.getD 4 0)) (invB ((powB (la.getD 0 0) 3) ^^^ (la.getD 2 0)))))] ++ (zs zf24 9 36 ++ [u1, (ixp u1 0), (eB (la.getD 0 0)), u1, (ixp u1 0), (eB (la.getD 0 0)), (eB (gm (la.getD 0 0) (la.getD 0 0))), u1, (ixp u1 2), (eB (la.getD 2 0)), (eB (gm (gm (la.getD 0 0) (la.getD 0 0)) (la.getD 2 0))), u1, (ixp u1 4), (eB (la.getD 4 0)), (eB ((gm (gm (la.getD 0 0) (la.getD 0 0)) (la.getD 2 0)) ^^^ (la.getD 4 0))), (eB ((powB (la.getD 0 0) 3) ^^^ (la.getD 2 0))), (eB (invB ((powB (la.getD 0 0) 3) ^^^ (la.getD 2 0)))), (eB (gm ((gm (gm (la.getD 0 0) (la.getD 0 0)) (la.getD 2 0)) ^^^ (la.getD 4 0)) (invB ((powB (la.getD 0 0) 3) ^^^ (la.getD 2 0)))))] ++ (us 14)))) s_mx kr kr rfl kr kr ?_ ?_
 ·
  intro w_ hO_
  refine AllG.cons (gi rfl (d_move rfl)) ?_
  refine AllG.cons (gi rfl (d_ix (i := 0) (xs := la) Try.underlying22 s_ti5 rfl (h1.step0 hO_) (show _ = Value.int _ ((0 : Nat) : Int) from rfl) fo)) ?_
  refine AllG.cons (gi rfl (d_ldx (i := 0) (xs := la) (enc := eB) (v := (la.getD 0 0)) ⟨_, Try.underlying5, rfl⟩ rfl (h1.step0 hO_) (g_at fo))) ?_
  refine AllG.cons (gi rfl (d_move rfl)) ?_
  refine AllG.cons (gi rfl (d_ix (i := 0) (xs := la) Try.underlying22 s_ti5 rfl (h1.step0 hO_) (show _ = Value.int _ ((0 : Nat) : Int) from rfl) fo)) ?_
  refine AllG.cons (gi rfl (d_ldx (i := 0) (xs := la) (enc := eB) (v := (la.getD 0 0)) ⟨_, Try.underlying5, rfl⟩ rfl (h1.step0 hO_) (g_at fo))) ?_
  refine AllG.cons (gc rfl (d_call (xl := [.tmp 47, .tmp 50]) (al := [(eB (la.getD 0 0)), (eB (la.getD 0 0))]) Try.func90 kr rfl rfl rfl (gfMul_ok (la.getD 0 0) (la.getD 0 0) _))) ?_
  refine AllG.cons (gi rfl (d_move rfl)) ?_
  refine AllG.cons (gi rfl (d_ix (i := 2) (xs := la) Try.underlying22 s_ti5 rfl (h1.step0 hO_) (show _ = Value.int _ ((2 : Nat) : Int) from rfl) fo)) ?_
  refine AllG.cons (gi rfl (d_ldx (i := 2) (xs := la) (enc := eB) (v := (la.getD 2 0)) ⟨_, Try.underlying5, rfl⟩ rfl (h1.step0 hO_) (g_at fo))) ?_
  refine AllG.cons (gc rfl (d_call (xl := [.tmp 51, .tmp 54]) (al := [(eB (gm (la.getD 0 0) (la.getD 0 0))), (eB (la.getD 2 0))]) Try.func90 kr rfl rfl rfl (gfMul_ok (gm (la.getD 0 0) (la.getD 0 0)) (la.getD 2 0) _))) ?_
  refine AllG.cons (gi rfl (d_move rfl)) ?_
  refine AllG.cons (gi rfl (d_ix (i := 4) (xs := la) Try.underlying22 s_ti5 rfl (h1.step0 hO_) (show _ = Value.int _ ((4 : Nat) : Int) from rfl) fo)) ?_
  refine AllG.cons (gi rfl (d_ldx (i := 4) (xs := la) (enc := eB) (v := (la.getD 4 0)) ⟨_, Try.underlying5, rfl⟩ rfl (h1.step0 hO_) (g_at fo))) ?_
  refine AllG.cons (gi rfl (b_xor (c := (gm (gm (la.getD 0 0) (la.getD 0 0)) (la.getD 2 0))) (e := (la.getD 4 0)) rfl rfl)) ?_
  refine AllG.cons (gi rfl (d_move rfl)) ?_
  refine AllG.cons (gc rfl (d_call (xl := [.tmp 60]) (al := [(eB ((powB (la.getD 0 0) 3) ^^^ (la.getD 2 0)))]) Try.func89 kr rfl rfl rfl (gfInv_ok ((powB (la.getD 0 0) 3) ^^^ (la.getD 2 0)) _))) ?_
  refine AllG.cons (gc rfl (d_call (xl := [.tmp 59, .tmp 61]) (al := [(eB ((gm (gm (la.getD 0 0) (la.getD 0 0)) (la.getD 2 0)) ^^^ (la.getD 4 0))), (eB (invB ((powB (la.getD 0 0) 3) ^^^ (la.getD 2 0))))]) Try.func90 kr rfl rfl rfl (gfMul_ok ((gm (gm (la.getD 0 0) (la.getD 0 0)) (la.getD 2 0)) ^^^ (la.getD 4 0)) (invB ((powB (la.getD 0 0) 3) ^^^ (la.getD 2 0))) _))) ?_
  refine AllG.cons (gi rfl (d_assign rfl)) ?_
  exact AllG.nil
 intro w25 o26
 replace h1 := h1.step0 o26
 replace oW := oW.tail0 o26
 refine tN ?_
 refine forget (fun zf27 => ([u1] ++ (zs zf27 1 6 ++ [(eB ((powB (la.getD 0 0) 3) ^^^ (la.getD 2 0))), (eB (gm ((gm (gm (la.getD 0 0) (la.getD 0 0)) (la.getD 2 0)) ^^^ (la.getD 4 0)) (invB ((powB (la.getD 0 0) 3) ^^^ (la.getD 2 0)))))] ++ (zs zf27 9 54 ++ (us 14))))) kr (fun zf27 => ?_)
 refine wQ ?_
 refine drawn' (O := No) (n := 16) [0, 1, 3, 0, 0, 0, 32, 96, 0, 480, 1008, 2047, 0, 4096, 4095, 32767] [(0, 63), (1, 64), (2, 65), (3, 66), (4, 67), (5, 68), (6, 69), (7, 70), (8, 71), (9, 72), (10, 73), (11, 74), (12, 75), (13, 76), (14, 4), (15, 5)] [0, 1, 2, 3, 4, 5, 6, 7, 8, 9, 10, 11, 12, 13, 14, 15] [] (fun i_ => ([RF.is No u1, RF.is No (ixp u1 0), RF.is No (eB (la.getD 0 0)), RF.is No (eB (gm ((gm (gm (la.getD 0 0) (la.getD 0 0)) (la.getD 2 0)) ^^^ (la.getD 4 0)) (invB ((powB (la.getD 0 0) 3) ^^^ (la.getD 2 0))))), RF.is No (eB ((powB (la.getD 0 0) 3) ^^^ (la.getD 2 0))), RF.is No u1, RF.is No (ixp u1 0), RF.is No (eB (la.getD 0 0)), RF.is No (eB (gm ((gm (gm (la.getD 0 0) (la.getD 0 0)) (la.getD 2 0)) ^^^ (la.getD 4 0)) (invB ((powB (la.getD 0 0) 3) ^^^ (la.getD 2 0))))), RF.is No (eB (gm (la.getD 0 0) (gm ((gm (gm (la.getD 0 0) (la.getD 0 0)) (la.getD 2 0)) ^^^ (la.getD 4 0)) (invB ((powB (la.getD 0 0) 3) ^^^ (la.getD 2 0)))))), RF.is No (eB (((powB (la.getD 0 0) 3) ^^^ (la.getD 2 0)) ^^^ (gm (la.getD 0 0) (gm ((gm (gm (la.getD 0 0) (la.getD 0 0)) (la.getD 2 0)) ^^^ (la.getD 4 0)) (invB ((powB (la.getD 0 0) 3) ^^^ (la.getD 2 0))))))), RF.ps No (Old W.heap.size) (Seq kB [(la.getD 0 0), gm ((gm (gm (la.getD 0 0) (la.getD 0 0)) (la.getD 2 0)) ^^^ (la.getD 4 0)) (invB ((powB (la.getD 0 0) 3) ^^^ (la.getD 2 0))), ((powB (la.getD 0 0) 3) ^^^ (la.getD 2 0)) ^^^ (gm (la.getD 0 0) (gm ((gm (gm (la.getD 0 0) (la.getD 0 0)) (la.getD 2 0)) ^^^ (la.getD 4 0)) (invB ((powB (la.getD 0 0) 3) ^^^ (la.getD 2 0)))))]) no_any, RF.is No (eB ((powB (la.getD 0 0) 3) ^^^ (la.getD 2 0))), RF.is No (Value.bool (!decide ((((powB (la.getD 0 0) 3) ^^^ (la.getD 2 0)) : UInt8) = (0 : UInt8)))), RF.ps No (Old W.heap.size) (Seq kB [(la.getD 0 0), gm ((gm (gm (la.getD 0 0) (la.getD 0 0)) (la.getD 2 0)) ^^^ (la.getD 4 0)) (invB ((powB (la.getD 0 0) 3) ^^^ (la.getD 2 0))), ((powB (la.getD 0 0) 3) ^^^ (la.getD 2 0)) ^^^ (gm (la.getD 0 0) (gm ((gm (gm (la.getD 0 0) (la.getD 0 0)) (la.getD 2 0)) ^^^ (la.getD 4 0)) (invB ((powB (la.getD 0 0) 3) ^^^ (la.getD 2 0)))))]) no_any, RF.is No (Value.bool (!decide ((((powB (la.getD 0 0) 3) ^^^ (la.getD 2 0)) : UInt8) = (0 : UInt8))))] : List (RF No)).getD i_ (RF.any No)) (fun _ w_ => True) (fun v28 => ([u1, (zf27 1), (zf27 2), (zf27 3), (v28 14), (v28 15), (zf27 6), (eB ((powB (la.getD 0 0) 3) ^^^ (la.getD 2 0))), (eB (gm ((gm (gm (la.getD 0 0) (la.getD 0 0)) (la.getD 2 0)) ^^^ (la.getD 4 0)) (invB ((powB (la.getD 0 0) 3) ^^^ (la.getD 2 0)))))] ++ (zs zf27 9 54 ++ [(v28 0), (v28 1), (v28 2), (v28 3), (v28 4), (v28 5), (v28 6), (v28 7), (v28 8), (v28 9), (v28 10), (v28 11), (v28 12), (v28 13)]))) s_mx kr rfl kr (by rfl) (fun v_ => by kernel_rfl) (fun _ => fun _ _ _ _ => trivial) trivial ?_ ?_ ?_
 ·
  refine ls_cons ?_ ?_
  ·
   intro v28 lo hi w_ k_ hO hd _ _ hk_ _ hR hold
   clear hd hold
   refine ⟨_, rfl, gd rfl ?_⟩
   exact Does.is (d_move rfl)
  refine ls_cons ?_ ?_
  ·
   intro v28 lo hi w_ k_ hO hd _ _ hk_ _ hR hold
   have e0 : v28 0 = u1 := hd 0 kr
   clear hd hold
   refine ⟨_, rfl, gd rfl ?_⟩
   exact Does.is (d_ix (i := 0) (xs := la) Try.underlying22 s_ti5 e0 (h1.step hO no_any) (show _ = Value.int _ ((0 : Nat) : Int) from rfl) fo)
  refine ls_cons ?_ ?_
  ·
   intro v28 lo hi w_ k_ hO hd _ _ hk_ _ hR hold
   have e1 : v28 1 = (ixp u1 0) := hd 1 kr
   clear hd hold
   refine ⟨_, rfl, gd rfl ?_⟩
   exact Does.is (d_ldx (i := 0) (xs := la) (enc := eB) (v := (la.getD 0 0)) ⟨_, Try.underlying5, rfl⟩ e1 (h1.step hO no_any) (g_at fo))
  refine ls_cons ?_ ?_
  ·
   intro v28 lo hi w_ k_ hO hd _ _ hk_ _ hR hold
   clear hd hold
   refine ⟨_, rfl, gd rfl ?_⟩
   exact Does.is (d_move rfl)
  refine ls_cons ?_ ?_
  ·
   intro v28 lo hi w_ k_ hO hd _ _ hk_ _ hR hold
   clear hd hold
   refine ⟨_, rfl, gd rfl ?_⟩
   exact Does.is (d_move rfl)
  refine ls_cons ?_ ?_
  ·
   intro v28 lo hi w_ k_ hO hd _ _ hk_ _ hR hold
   clear hd hold
   refine ⟨_, rfl, gd rfl ?_⟩
   exact Does.is (d_move rfl)
  refine ls_cons ?_ ?_
  ·
   intro v28 lo hi w_ k_ hO hd _ _ hk_ _ hR hold
   have e5 : v28 5 = u1 := hd 5 kr
   clear hd hold
   refine ⟨_, rfl, gd rfl ?_⟩
   exact Does.is (d_ix (i := 0) (xs := la) Try.underlying22 s_ti5 e5 (h1.step hO no_any) (show _ = Value.int _ ((0 : Nat) : Int) from rfl) fo)
  refine ls_cons ?_ ?_
  ·
   intro v28 lo hi w_ k_ hO hd _ _ hk_ _ hR hold
   have e6 : v28 6 = (ixp u1 0) := hd 6 kr
   clear hd hold
   refine ⟨_, rfl, gd rfl ?_⟩
   exact Does.is (d_ldx (i := 0) (xs := la) (enc := eB) (v := (la.getD 0 0)) ⟨_, Try.underlying5, rfl⟩ e6 (h1.step hO no_any) (g_at fo))
  refine ls_cons ?_ ?_
  ·
   intro v28 lo hi w_ k_ hO hd _ _ hk_ _ hR hold
   clear hd hold
   refine ⟨_, rfl, gd rfl ?_⟩
   exact Does.is (d_move rfl)
  refine ls_cons ?_ ?_
  ·
   intro v28 lo hi w_ k_ hO hd _ _ hk_ _ hR hold
   have e7 : v28 7 = (eB (la.getD 0 0)) := hd 7 kr
   have e8 : v28 8 = (eB (gm ((gm (gm (la.getD 0 0) (la.getD 0 0)) (la.getD 2 0)) ^^^ (la.getD 4 0)) (invB ((powB (la.getD 0 0) 3) ^^^ (la.getD 2 0))))) := hd 8 kr
   clear hd hold
   refine ⟨_, rfl, gd rfl ?_⟩
   exact d_call (xl := [.tmp 70, .tmp 71]) (al := [(eB (la.getD 0 0)), (eB (gm ((gm (gm (la.getD 0 0) (la.getD 0 0)) (la.getD 2 0)) ^^^ (la.getD 4 0)) (invB ((powB (la.getD 0 0) 3) ^^^ (la.getD 2 0)))))]) Try.func90 kr rfl (show ([(v28 7), (v28 8)] : List Value) = [(eB (la.getD 0 0)), (eB (gm ((gm (gm (la.getD 0 0) (la.getD 0 0)) (la.getD 2 0)) ^^^ (la.getD 4 0)) (invB ((powB (la.getD 0 0) 3) ^^^ (la.getD 2 0)))))] from by rw [e7, e8]) rfl (gfMul_ok (la.getD 0 0) (gm ((gm (gm (la.getD 0 0) (la.getD 0 0)) (la.getD 2 0)) ^^^ (la.getD 4 0)) (invB ((powB (la.getD 0 0) 3) ^^^ (la.getD 2 0)))) _)
  refine ls_cons ?_ ?_
  ·
   intro v28 lo hi w_ k_ hO hd _ _ hk_ _ hR hold
   have e4 : v28 4 = (eB ((powB (la.getD 0 0) 3) ^^^ (la.getD 2 0))) := hd 4 kr
   have e9 : v28 9 = (eB (gm (la.getD 0 0) (gm ((gm (gm (la.getD 0 0) (la.getD 0 0)) (la.getD 2 0)) ^^^ (la.getD 4 0)) (invB ((powB (la.getD 0 0) 3) ^^^ (la.getD 2 0)))))) := hd 9 kr
   clear hd hold
   refine ⟨_, rfl, gd rfl ?_⟩
   exact Does.is (b_xor (c := ((powB (la.getD 0 0) 3) ^^^ (la.getD 2 0))) (e := (gm (la.getD 0 0) (gm ((gm (gm (la.getD 0 0) (la.getD 0 0)) (la.getD 2 0)) ^^^ (la.getD 4 0)) (invB ((powB (la.getD 0 0) 3) ^^^ (la.getD 2 0)))))) e4 e9)
  refine ls_cons ?_ ?_
  ·
   intro v28 lo hi w_ k_ hO hd _ _ hk_ _ hR hold
   have e10 : v28 10 = (eB (((powB (la.getD 0 0) 3) ^^^ (la.getD 2 0)) ^^^ (gm (la.getD 0 0) (gm ((gm (gm (la.getD 0 0) (la.getD 0 0)) (la.getD 2 0)) ^^^ (la.getD 4 0)) (invB ((powB (la.getD 0 0) 3) ^^^ (la.getD 2 0))))))) := hd 10 kr
   have e2 : v28 2 = (eB (la.getD 0 0)) := hd 2 kr
   have e3 : v28 3 = (eB (gm ((gm (gm (la.getD 0 0) (la.getD 0 0)) (la.getD 2 0)) ^^^ (la.getD 4 0)) (invB ((powB (la.getD 0 0) 3) ^^^ (la.getD 2 0))))) := hd 3 kr
   clear hd hold
   refine ⟨_, rfl, gd rfl ?_⟩
   refine Does.mono (d_buildL (cs := [(eB (la.getD 0 0)), (eB (gm ((gm (gm (la.getD 0 0) (la.getD 0 0)) (la.getD 2 0)) ^^^ (la.getD 4 0)) (invB ((powB (la.getD 0 0) 3) ^^^ (la.getD 2 0))))), (eB (((powB (la.getD 0 0) 3) ^^^ (la.getD 2 0)) ^^^ (gm (la.getD 0 0) (gm ((gm (gm (la.getD 0 0) (la.getD 0 0)) (la.getD 2 0)) ^^^ (la.getD 4 0)) (invB ((powB (la.getD 0 0) 3) ^^^ (la.getD 2 0)))))))]) Try.underlying22 s_ti5 rfl (nb rfl) (parts_cons (vs := [(eB (la.getD 0 0))]) (cells_of (v := (eB (la.getD 0 0))) e2 rfl) (parts_cons (vs := [(eB (gm ((gm (gm (la.getD 0 0) (la.getD 0 0)) (la.getD 2 0)) ^^^ (la.getD 4 0)) (invB ((powB (la.getD 0 0) 3) ^^^ (la.getD 2 0)))))]) (cells_of (v := (eB (gm ((gm (gm (la.getD 0 0) (la.getD 0 0)) (la.getD 2 0)) ^^^ (la.getD 4 0)) (invB ((powB (la.getD 0 0) 3) ^^^ (la.getD 2 0)))))) e3 rfl) (parts_cons (vs := [(eB (((powB (la.getD 0 0) 3) ^^^ (la.getD 2 0)) ^^^ (gm (la.getD 0 0) (gm ((gm (gm (la.getD 0 0) (la.getD 0 0)) (la.getD 2 0)) ^^^ (la.getD 4 0)) (invB ((powB (la.getD 0 0) 3) ^^^ (la.getD 2 0)))))))]) (cells_of (v := (eB (((powB (la.getD 0 0) 3) ^^^ (la.getD 2 0)) ^^^ (gm (la.getD 0 0) (gm ((gm (gm (la.getD 0 0) (la.getD 0 0)) (la.getD 2 0)) ^^^ (la.getD 4 0)) (invB ((powB (la.getD 0 0) 3) ^^^ (la.getD 2 0)))))))) e10 rfl) parts_nil))) rfl) (fun u w' h => ⟨(made_seq (n := 3) (xs := [(la.getD 0 0), gm ((gm (gm (la.getD 0 0) (la.getD 0 0)) (la.getD 2 0)) ^^^ (la.getD 4 0)) (invB ((powB (la.getD 0 0) 3) ^^^ (la.getD 2 0))), ((powB (la.getD 0 0) 3) ^^^ (la.getD 2 0)) ^^^ (gm (la.getD 0 0) (gm ((gm (gm (la.getD 0 0) (la.getD 0 0)) (la.getD 2 0)) ^^^ (la.getD 4 0)) (invB ((powB (la.getD 0 0) 3) ^^^ (la.getD 2 0)))))]) (enc := eB) h rfl).1.less (old_old (Nat.le_trans oW.size hO.size)), (made_seq (n := 3) (xs := [(la.getD 0 0), gm ((gm (gm (la.getD 0 0) (la.getD 0 0)) (la.getD 2 0)) ^^^ (la.getD 4 0)) (invB ((powB (la.getD 0 0) 3) ^^^ (la.getD 2 0))), ((powB (la.getD 0 0) 3) ^^^ (la.getD 2 0)) ^^^ (gm (la.getD 0 0) (gm ((gm (gm (la.getD 0 0) (la.getD 0 0)) (la.getD 2 0)) ^^^ (la.getD 4 0)) (invB ((powB (la.getD 0 0) 3) ^^^ (la.getD 2 0)))))]) (enc := eB) h rfl).2⟩)
  refine ls_cons ?_ ?_
  ·
   intro v28 lo hi w_ k_ hO hd _ _ hk_ _ hR hold
   clear hd hold
   refine ⟨_, rfl, gd rfl ?_⟩
   exact Does.is (d_move rfl)
  refine ls_cons ?_ ?_
  ·
   intro v28 lo hi w_ k_ hO hd _ _ hk_ _ hR hold
   have e12 : v28 12 = (eB ((powB (la.getD 0 0) 3) ^^^ (la.getD 2 0))) := hd 12 kr
   clear hd hold
   refine ⟨_, rfl, gd rfl ?_⟩
   exact Does.is (b_neq (c := ((powB (la.getD 0 0) 3) ^^^ (la.getD 2 0))) (e := 0) e12 rfl rfl)
  refine ls_cons ?_ ?_
  ·
   intro v28 lo hi w_ k_ hO hd _ _ hk_ _ hR hold
   have d11 : Ps (Old W.heap.size) (Seq kB [(la.getD 0 0), gm ((gm (gm (la.getD 0 0) (la.getD 0 0)) (la.getD 2 0)) ^^^ (la.getD 4 0)) (invB ((powB (la.getD 0 0) 3) ^^^ (la.getD 2 0))), ((powB (la.getD 0 0) 3) ^^^ (la.getD 2 0)) ^^^ (gm (la.getD 0 0) (gm ((gm (gm (la.getD 0 0) (la.getD 0 0)) (la.getD 2 0)) ^^^ (la.getD 4 0)) (invB ((powB (la.getD 0 0) 3) ^^^ (la.getD 2 0)))))] (v28 11)) w_ := hd 11 kr
   clear hd hold
   refine ⟨_, rfl, gd rfl ?_⟩
   refine Does.mono (d_assign rfl) (fun u w' h => by obtain ⟨rfl, rfl⟩ := h; exact ⟨d11, Only.refl _ _⟩)
  refine ls_cons ?_ ?_
  ·
   intro v28 lo hi w_ k_ hO hd _ _ hk_ _ hR hold
   have e13 : v28 13 = (Value.bool (!decide ((((powB (la.getD 0 0) 3) ^^^ (la.getD 2 0)) : UInt8) = (0 : UInt8)))) := hd 13 kr
   clear hd hold
   refine ⟨_, rfl, gd rfl ?_⟩
   exact Does.is (d_assign (v := (Value.bool (!decide ((((powB (la.getD 0 0) 3) ^^^ (la.getD 2 0)) : UInt8) = (0 : UInt8))))) e13)
  exact ls_nil
 ·
  exact ms_nil
 intro v28 lo_ hi_ w29 o30 hd iv_ hR
 have e0 : v28 0 = u1 := hd 0 (by decide)
 have e1 : v28 1 = (ixp u1 0) := hd 1 (by decide)
 have e2 : v28 2 = (eB (la.getD 0 0)) := hd 2 (by decide)
 have e3 : v28 3 = (eB (gm ((gm (gm (la.getD 0 0) (la.getD 0 0)) (la.getD 2 0)) ^^^ (la.getD 4 0)) (invB ((powB (la.getD 0 0) 3) ^^^ (la.getD 2 0))))) := hd 3 (by decide)
 have e4 : v28 4 = (eB ((powB (la.getD 0 0) 3) ^^^ (la.getD 2 0))) := hd 4 (by decide)
 have e5 : v28 5 = u1 := hd 5 (by decide)
 have e6 : v28 6 = (ixp u1 0) := hd 6 (by decide)
 have e7 : v28 7 = (eB (la.getD 0 0)) := hd 7 (by decide)
 have e8 : v28 8 = (eB (gm ((gm (gm (la.getD 0 0) (la.getD 0 0)) (la.getD 2 0)) ^^^ (la.getD 4 0)) (invB ((powB (la.getD 0 0) 3) ^^^ (la.getD 2 0))))) := hd 8 (by decide)
 have e9 : v28 9 = (eB (gm (la.getD 0 0) (gm ((gm (gm (la.getD 0 0) (la.getD 0 0)) (la.getD 2 0)) ^^^ (la.getD 4 0)) (invB ((powB (la.getD 0 0) 3) ^^^ (la.getD 2 0)))))) := hd 9 (by decide)
 have e10 : v28 10 = (eB (((powB (la.getD 0 0) 3) ^^^ (la.getD 2 0)) ^^^ (gm (la.getD 0 0) (gm ((gm (gm (la.getD 0 0) (la.getD 0 0)) (la.getD 2 0)) ^^^ (la.getD 4 0)) (invB ((powB (la.getD 0 0) 3) ^^^ (la.getD 2 0))))))) := hd 10 (by decide)
 have e12 : v28 12 = (eB ((powB (la.getD 0 0) 3) ^^^ (la.getD 2 0))) := hd 12 (by decide)
 have e13 : v28 13 = (Value.bool (!decide ((((powB (la.getD 0 0) 3) ^^^ (la.getD 2 0)) : UInt8) = (0 : UInt8)))) := hd 13 (by decide)
 have e15 : v28 15 = (Value.bool (!decide ((((powB (la.getD 0 0) 3) ^^^ (la.getD 2 0)) : UInt8) = (0 : UInt8)))) := hd 15 (by decide)
 have f_v28_11 : Ps (Old W.heap.size) (Seq kB [(la.getD 0 0), gm ((gm (gm (la.getD 0 0) (la.getD 0 0)) (la.getD 2 0)) ^^^ (la.getD 4 0)) (invB ((powB (la.getD 0 0) 3) ^^^ (la.getD 2 0))), ((powB (la.getD 0 0) 3) ^^^ (la.getD 2 0)) ^^^ (gm (la.getD 0 0) (gm ((gm (gm (la.getD 0 0) (la.getD 0 0)) (la.getD 2 0)) ^^^ (la.getD 4 0)) (invB ((powB (la.getD 0 0) 3) ^^^ (la.getD 2 0)))))] (v28 11)) w29 := hd 11 (by decide)
 have f_v28_14 : Ps (Old W.heap.size) (Seq kB [(la.getD 0 0), gm ((gm (gm (la.getD 0 0) (la.getD 0 0)) (la.getD 2 0)) ^^^ (la.getD 4 0)) (invB ((powB (la.getD 0 0) 3) ^^^ (la.getD 2 0))), ((powB (la.getD 0 0) 3) ^^^ (la.getD 2 0)) ^^^ (gm (la.getD 0 0) (gm ((gm (gm (la.getD 0 0) (la.getD 0 0)) (la.getD 2 0)) ^^^ (la.getD 4 0)) (invB ((powB (la.getD 0 0) 3) ^^^ (la.getD 2 0)))))] (v28 14)) w29 := hd 14 (by decide)
 clear hd iv_ lo_ hi_
 refine fr_eq (l' := ([u1, (zf27 1), (zf27 2), (zf27 3), (v28 14), (Value.bool (!decide ((((powB (la.getD 0 0) 3) ^^^ (la.getD 2 0)) : UInt8) = (0 : UInt8)))), (zf27 6), (eB ((powB (la.getD 0 0) 3) ^^^ (la.getD 2 0))), (eB (gm ((gm (gm (la.getD 0 0) (la.getD 0 0)) (la.getD 2 0)) ^^^ (la.getD 4 0)) (invB ((powB (la.getD 0 0) 3) ^^^ (la.getD 2 0)))))] ++ (zs zf27 9 54 ++ [u1, (ixp u1 0), (eB (la.getD 0 0)), (eB (gm ((gm (gm (la.getD 0 0) (la.getD 0 0)) (la.getD 2 0)) ^^^ (la.getD 4 0)) (invB ((powB (la.getD 0 0) 3) ^^^ (la.getD 2 0))))), (eB ((powB (la.getD 0 0) 3) ^^^ (la.getD 2 0))), u1, (ixp u1 0), (eB (la.getD 0 0)), (eB (gm ((gm (gm (la.getD 0 0) (la.getD 0 0)) (la.getD 2 0)) ^^^ (la.getD 4 0)) (invB ((powB (la.getD 0 0) 3) ^^^ (la.getD 2 0))))), (eB (gm (la.getD 0 0) (gm ((gm (gm (la.getD 0 0) (la.getD 0 0)) (la.getD 2 0)) ^^^ (la.getD 4 0)) (invB ((powB (la.getD 0 0) 3) ^^^ (la.getD 2 0)))))), (eB (((powB (la.getD 0 0) 3) ^^^ (la.getD 2 0)) ^^^ (gm (la.getD 0 0) (gm ((gm (gm (la.getD 0 0) (la.getD 0 0)) (la.getD 2 0)) ^^^ (la.getD 4 0)) (invB ((powB (la.getD 0 0) 3) ^^^ (la.getD 2 0))))))), (v28 11), (eB ((powB (la.getD 0 0) 3) ^^^ (la.getD 2 0))), (Value.bool (!decide ((((powB (la.getD 0 0) 3) ^^^ (la.getD 2 0)) : UInt8) = (0 : UInt8))))]))) (by rw [e0, e1, e2, e3, e4, e5, e6, e7, e8, e9, e10, e12, e13, e15] <;> rfl) ?_
 clear e0 e1 e2 e3 e4 e5 e6 e7 e8 e9 e10 e12 e13 e15
 replace h1 := h1.step o30 no_any
 clear hR
 replace oW := oW.tail o30 tl_no
 refine tN ?_
 refine forget (fun zf31 => ([(zf31 0), (zf31 1), (zf31 2), (zf31 3), (v28 14), (Value.bool (!decide ((((powB (la.getD 0 0) 3) ^^^ (la.getD 2 0)) : UInt8) = (0 : UInt8))))] ++ (zs zf31 6 71))) kr (fun zf31 => ?_)
 refine wpIn_ret ?_
 refine leave0 (v := (Value.tuple #[(v28 14), (Value.bool (!decide ((((powB (la.getD 0 0) 3) ^^^ (la.getD 2 0)) : UInt8) = (0 : UInt8))))])) (res2 Try.results73 rfl rfl) ?_
 exact RTb.of (congrArg Prod.fst (loc_n3 c1 c2)).symm (congrArg Prod.snd (loc_n3 c1 c2)).symm (f_v28_14.less xx_id) oW
theorem bchWrong_ok (la : List UInt8) (u1 : Value) (W : World) (h1 : Ps No (Seq kB la u1) W) (g1 : la.length ≤ 100) :
    CW Try.prog 74 #[u1] W (Rt (ROw 3 eN (wrongL la) W)) := by
 have oW : Only No W W := Only.refl _ _
 refine enter (al := [u1]) (k := 61) (l := ([u1] ++ (us 61))) Try.func74 rfl Try.ntmps74 rfl rfl ?_
 refine wQ (pL ?_)
 refine wI (d_assign rfl) ?_
 refine wD (tN (wQ (pL ?_)))
 refine wI (d_assign rfl) ?_
 refine wD (tN (wQ (pL ?_)))
 refine wI (d_move rfl) ?_
 refine wO (d_append Try.underlying22 Try.underlying22 s_ti5 rfl rfl rfl (Ow.nil 5 1 _) (SrcV.of_seq h1 (fun _ => rfl)) oo oo rfl) ?_
 rintro u11 w12 ⟨bo13, a14, o15, q16⟩
 replace h1 := h1.qnone
 have q_oW_te : Fr none none W.heap.size := Fr.none
 replace a14 : Ow 5 1 bo13 u11 (la).length ((la).map eB) w12 := by simpa using a14
 replace h1 := h1.gr o15 (fun k e => (.inl e)) (xx_re (Fr.of_or q16) xx_id)
 have tq := oW.size
 replace oW := oW.tailr o15 q_oW_te (fun _ e => by cases e)
 replace q_oW_te := qtr (Fr.of_or q16) q_oW_te tq
 clear tq
 refine wI (d_assign rfl) ?_
 refine wF ([u1, undef, (Value.slice none 0 0), (Value.slice none 0 0), u11] ++ (us 5 ++ [u1, u11] ++ (us 50))) ?_
 refine wD (tN (wQ (pL ?_)))
 refine wI (d_move rfl) ?_
 refine wI (d_lenS rfl Try.underlying22 rfl h1) ?_
 refine wO (d_make1 (n := la.length) Try.underlying22 s_ti5 rfl rfl oo oo rfl) ?_
 rintro _ w17 ⟨st, rfl, g18, a19, o20⟩
 replace a19 : Arr 5 st ((List.replicate la.length 0).map eB) w17 := by rw [List.map_replicate]; exact a19
 have l_st : (List.replicate la.length 0 : List UInt8).length = la.length := by simp
 have nq_te_st : ∀ x, bo13 = some x → ¬ x = st := fun x hx e => by have := a14.lts x hx; omega
 have g_oW_st : W.heap.size ≤ st := Nat.le_trans oW.size g18
 replace h1 := h1.new o20 g18
 replace a14 := a14.step0 o20
 replace oW := oW.tail0 o20
 refine wI (d_assign rfl) ?_
 refine wD (tN (wQ (wQ (pL ?_))))
 refine wI (d_move rfl) ?_
 refine wF ([u1, undef, (Value.slice none 0 0), (Value.slice none 0 0), u11, (sli st 0 la.length la.length), undef, undef, undef, undef, u1, u11, u1, (eN la.length), (sli st 0 la.length la.length), (sli st 0 la.length la.length)] ++ (us 46)) ?_
 refine wI (d_len rfl Try.underlying22 rfl) ?_
 refine wI (d_move rfl) ?_
 refine wD (tN ?_)
 refine forget (fun zf21 => ([(zf21 0), (zf21 1), (zf21 2), (Value.slice none 0 0), u11, (sli st 0 la.length la.length), (zf21 6), (zf21 7), undef] ++ (zs zf21 9 7 ++ [(eN la.length), (eN 0)] ++ (zs zf21 18 9 ++ [undef, (zf21 28), (zf21 29), (zf21 30), (zf21 31), undef] ++ (zs zf21 33 8 ++ (us 12 ++ (zs zf21 53 9))))))) kr (fun zf21 => ?_)
 refine wB ?_
 refine loop2 (fun (i : (Nat)) => fun (z : Nat → Value) => (([(zf21 0), (zf21 1), (zf21 2), (Value.slice none 0 0), u11, (sli st 0 la.length la.length), (z 6), (zf21 7), undef] ++ (zs zf21 9 7 ++ [(eN la.length), (eN i)] ++ (zs z 18 9 ++ [undef, (zf21 28), (zf21 29), (zf21 30), (zf21 31), undef] ++ (zs zf21 33 8 ++ (us 12 ++ (zs zf21 53 9)))))) : List Value)) (fun (i : (Nat)) => fun (w_ : World) => (i ≤ la.length) ∧ Only (Or1 st (Orq bo13 No)) w17 w_ ∧ (stepTo la.length i).length = la.length ∧ Arr 5 st ((stepTo la.length i).map eB) w_ ∧ Ow 5 1 bo13 u11 (la).length ((la).map eB) w_) (fun (i : (Nat)) => la.length - i) 0 rfl ?_ ?_
 ·
  refine ⟨?_, ?_, ?_, ?_, ?_⟩
  ·
   exact Nat.zero_le _
  ·
   exact Only.refl _ _
  ·
   exact stepTo_length _ 0
  ·
   (try dsimp only)
   all_goals (rw [← stepTo_zero]; exact a19)
  ·
   exact a14
 rintro i z w23 ⟨hi, o22, l_st, a19, a14⟩
 (try dsimp only)
 replace h1 := h1.step o22 (or1_mono (orq_mono no_any))
 replace oW := oW.tail o22 (tl_new g_oW_st (tl_q q_oW_te (fun _ e => by cases e) tl_no))
 have q_o22_te : Fr bo13 bo13 w17.heap.size := Fr.same
 refine wQ (pL ?_)
 refine wI (n_lss (a := i) (b := la.length) rfl rfl rfl) ?_
 refine wD (tN (wQ ?_))
 refine cond_if rfl (fun c0 => ?_) (fun c0 => ?_)
 ·
  refine wK (tN (wQ (wB (wQ (pL ?_)))))
  refine wI (d_move rfl) ?_
  refine wI (d_assign rfl) ?_
  refine wD (tN (pL ?_))
  refine wI (d_move rfl) ?_
  refine wI (d_move rfl) ?_
  refine wF ([(zf21 0), (zf21 1), (zf21 2), (Value.slice none 0 0), u11, (sli st 0 la.length la.length), (eN i), (zf21 7), undef] ++ (zs zf21 9 7 ++ [(eN la.length), (eN i), (Value.bool (decide (i < la.length))), (eN i), (sli st 0 la.length la.length), (eN i)] ++ (zs z 22 5 ++ [undef, (zf21 28), (zf21 29), (zf21 30), (zf21 31), undef] ++ (zs zf21 33 8 ++ (us 12 ++ (zs zf21 53 9)))))) ?_
  refine wI (d_move rfl) ?_
  refine wI (d_sub (k := .i64) (m := (-1)) (n := (i : Int)) rfl rfl (r := -1 - (i : Int)) (IntWalk.i64_in _ oo)) ?_
  refine wO (d_call (xl := [.tmp 23]) (al := [(eI (-1 - (i : Int)))]) Try.func100 kr rfl rfl rfl (gfExp_ok (-1 - (i : Int)) _)) ?_
  rintro _ w24 ⟨rfl, o25⟩
  replace h1 := h1.step0 o25
  replace a19 := a19.step0 o25
  replace a14 := a14.step0 o25
  replace oW := oW.tail0 o25
  replace o22 := o22.tail0 o25
  refine wI (d_index1 (n := la.length) (i := i) Try.underlying22 s_ti5 rfl (show _ = Value.int _ (i : Int) from rfl) oo) ?_
  refine wO (d_store (b := st) (i := i) (v := (eB (exI (-1 - (i : Int))))) s_ti5 rfl rfl rfl a19 (by rw [List.length_map, l_st]; omega) (m_put (stepTo la.length i) i (exI (-1 - (i : Int))) eB)) ?_
  rintro _ w26 ⟨a27, o28⟩
  replace h1 := h1.stepb o28 in1
  replace a14 := a14.step o28 (fun x hx e => nq_te_st x hx e)
  replace oW := oW.tailb o28 g_oW_st
  replace o22 := o22.tail o28 (fun k _ e => by have : k = st := e; rw [this]; exact in1)
  replace l_st : ((stepTo la.length i).set i (exI (-1 - (i : Int))) : List UInt8).length = la.length := (List.length_set ..).trans l_st
  refine wF ([(zf21 0), (zf21 1), (zf21 2), (Value.slice none 0 0), u11, (sli st 0 la.length la.length), (eN i), (zf21 7), undef] ++ (zs zf21 9 7 ++ [(eN la.length), (eN i), (Value.bool (decide (i < la.length))), (eN i), (sli st 0 la.length la.length), (eN i), (eN i), (eI (-1 - (i : Int))), (eB (exI (-1 - (i : Int)))), (ptr st i), (z 26), undef, (zf21 28), (zf21 29), (zf21 30), (zf21 31), undef] ++ (zs zf21 33 8 ++ (us 12 ++ (zs zf21 53 9))))) ?_
  refine wD ?_
  refine inb_n (tN ?_)
  refine forget (fun zf29 => ([(zf21 0), (zf21 1), (zf21 2), (Value.slice none 0 0), u11, (sli st 0 la.length la.length), (zf29 6), (zf21 7), undef] ++ (zs zf21 9 7 ++ [(eN la.length), (eN i)] ++ (zs zf29 18 9 ++ [undef, (zf21 28), (zf21 29), (zf21 30), (zf21 31), undef] ++ (zs zf21 33 8 ++ (us 12 ++ (zs zf21 53 9))))))) kr (fun zf29 => ?_)
  refine pL ?_
  refine wI (n_add (a := i) (b := 1) rfl rfl oo) ?_
  refine wI (d_move rfl) ?_
  refine wD (tN ?_)
  refine ⟨_, (i + 1), rfl, kr, ⟨?_, ?_, ?_, ?_, ?_⟩, ?_⟩
  ·
   (try dsimp only)
   all_goals (omega)
  ·
   exact o22
  ·
   exact stepTo_length _ _
  ·
   (try dsimp only)
   all_goals (rw [← stepTo_step]; exact a27)
  ·
   exact a14
  ·
   (try dsimp only)
   all_goals (omega)
 refine wpIn_exit ?_
 refine then_x (then_x (inb_e ?_))
 refine tN (wQ (wQ ?_))
 have hst_ : la.length ≤ i := by omega
 have a30 : Ow 3 1 none (Value.slice none 0 0) ([] : List (Nat)).length (([] : List (Nat)).map eN) w23 := Ow.nil _ _ _
 have nq_out_st : ∀ x, (none : Option Nat) = some x → ¬ x = st := fun x e => by cases e
 have nqq_te_out : ∀ x, bo13 = some x → (none : Option Nat) = some x → False := fun _ _ e => by cases e
 have q_oW_out : Fr none none W.heap.size := Fr.none
 have q_o22_out : Fr none none w17.heap.size := Fr.none
 replace h1 := h1.qnone
 refine pL ?_
 refine wI (d_move rfl) ?_
 refine wD (tN (wB ?_))
 have h_lt_st := a19.lt
 have h_lts_te := a14.lts
 have h_lts_out := a30.lts
 refine loop2 (fun (s_ : (Nat) × (Option Nat) × (Value)) => match s_ with | ⟨p, bo_out, u_out⟩ => fun (z : Nat → Value) => (([(zf21 0), (zf21 1), (zf21 2), u_out, u11, (sli st 0 la.length la.length), (z 6), (z 7), (z 8), (z 9)] ++ (zs zf21 10 6 ++ [(eN la.length), (eN i), (Value.bool (decide (i < la.length)))] ++ (zs z 19 8 ++ [(eN p)] ++ (zs z 28 33 ++ [(zf21 61)])))) : List Value)) (fun (s_ : (Nat) × (Option Nat) × (Value)) => match s_ with | ⟨p, bo_out, u_out⟩ => fun (w_ : World) => (p ≤ 224) ∧ Only (Orq none (Or1 st (Orq bo13 No))) w23 w_ ∧ Arr 5 st ((stepTo la.length i).map eB) w_ ∧ Ow 5 1 bo13 u11 (tmL la p).length ((tmL la p).map eB) w_ ∧ Ow 3 1 bo_out u_out (wrongTo la p).length ((wrongTo la p).map eN) w_ ∧ Fr bo_out none w23.heap.size) (fun (s_ : (Nat) × (Option Nat) × (Value)) => match s_ with | ⟨p, bo_out, u_out⟩ => 224 - p) ⟨0, none, (Value.slice none 0 0)⟩ kr ?_ ?_
 ·
  refine ⟨?_, ?_, ?_, ?_, ?_, ?_⟩
  ·
   (try dsimp only)
   all_goals (omega)
  ·
   exact Only.refl _ _
  ·
   exact a19
  ·
   (try dsimp only)
   all_goals (rw [← tmL_zero]; exact a14)
  ·
   exact a30
  ·
   exact Fr.same
 rintro ⟨p, bo_out, u_out⟩ z w32 ⟨hp, o31, a19, a14, a30, qq_out⟩
 (try dsimp only)
 replace h1 := h1.re o31 (orq_mono (or1_mono (orq_mono no_any))) (xx_re qq_out (xx_or1 (xx_orq xx_id)))
 have tq_oW := oW.size
 replace oW := oW.tail o31 (tl_q q_oW_out (fun _ e => by cases e) (tl_new g_oW_st (tl_q q_oW_te (fun _ e => by cases e) tl_no)))
 replace q_oW_out := qtr qq_out q_oW_out tq_oW
 have tq_o22 := o22.size
 replace o22 := o22.tail o31 (tl_q q_o22_out (fun _ e => by cases e) (tl_in in1 (tl_q q_o22_te (fun k e => (.inr (.inl e))) tl_no)))
 replace q_o22_out := qtr qq_out q_o22_out tq_o22
 replace nq_out_st := nqs nq_out_st qq_out h_lt_st
 replace nqq_te_out := nqq_step nqq_te_out qq_out h_lts_te
 have q_o31_te : Fr bo13 bo13 w23.heap.size := Fr.same
 have q_o31_out := qq_out
 refine wQ (pL ?_)
 refine wI (n_lss (a := p) (b := 224) rfl rfl rfl) ?_
 refine wD (tN (wQ ?_))
 refine cond_if rfl (fun c1 => ?_) (fun c1 => ?_)
 ·
  refine wK (tN (wQ (wB (wQ (pL ?_)))))
  refine wI (d_move rfl) ?_
  refine wI (d_assign rfl) ?_
  refine wD (tN (wQ ?_))
  refine wp_eq (l' := ([(zf21 0), (zf21 1), (zf21 2), u_out, u11, (sli st 0 la.length la.length), (z 6), (eN p), (z 8), (z 9)] ++ (zs zf21 10 6 ++ [(eN la.length), (eN i), (Value.bool (decide (i < la.length)))] ++ (zs z 19 8 ++ [(eN p), (Value.bool (decide (p < 224))), (eN p)] ++ (zs z 30 31 ++ [(zf21 61)]))))) rfl ?_
  refine pL ?_
  refine wI (d_assign rfl) ?_
  refine wF ([(zf21 0), (zf21 1), (zf21 2), u_out, u11, (sli st 0 la.length la.length), (z 6), (eN p), (eB 1), (z 9)] ++ (zs zf21 10 6 ++ [(eN la.length), (eN i), (Value.bool (decide (i < la.length)))] ++ (zs z 19 8 ++ [(eN p), (Value.bool (decide (p < 224))), (eN p)] ++ (zs z 30 31 ++ [(zf21 61)])))) ?_
  refine wD ?_
  refine fr_eq (l' := ([(zf21 0), (zf21 1), (zf21 2), u_out, u11, (sli st 0 la.length la.length), (z 6), (eN p), (eB (sgT la p 0)), (z 9)] ++ (zs zf21 10 6 ++ [(eN la.length), (eN i), (Value.bool (decide (i < la.length)))] ++ (zs z 19 8 ++ [(eN p), (Value.bool (decide (p < 224))), (eN p)] ++ (zs z 30 31 ++ [(zf21 61)]))))) (show (([(zf21 0), (zf21 1), (zf21 2), u_out, u11, (sli st 0 la.length la.length), (z 6), (eN p), (eB 1), (z 9)] ++ (zs zf21 10 6 ++ [(eN la.length), (eN i), (Value.bool (decide (i < la.length)))] ++ (zs z 19 8 ++ [(eN p), (Value.bool (decide (p < 224))), (eN p)] ++ (zs z 30 31 ++ [(zf21 61)])))) : List Value) = ([(zf21 0), (zf21 1), (zf21 2), u_out, u11, (sli st 0 la.length la.length), (z 6), (eN p), (eB (sgT la p 0)), (z 9)] ++ (zs zf21 10 6 ++ [(eN la.length), (eN i), (Value.bool (decide (i < la.length)))] ++ (zs z 19 8 ++ [(eN p), (Value.bool (decide (p < 224))), (eN p)] ++ (zs z 30 31 ++ [(zf21 61)])))) from reslot ([(zf21 0), (zf21 1), (zf21 2), u_out, u11, (sli st 0 la.length la.length), (z 6), (eN p), (eB 1), (z 9)] ++ (zs zf21 10 6 ++ [(eN la.length), (eN i), (Value.bool (decide (i < la.length)))] ++ (zs z 19 8 ++ [(eN p), (Value.bool (decide (p < 224))), (eN p)] ++ (zs z 30 31 ++ [(zf21 61)])))) 8 (congrArg eB (sgT_zero la p).symm)) ?_
  refine tN (wQ (wQ (pL ?_)))
  refine wI (d_move rfl) ?_
  refine wI (d_lenS rfl Try.underlying22 rfl (a14.seq (X := No) (fun _ _ h => h))) ?_
  refine wI (d_move rfl) ?_
  refine wF ([(zf21 0), (zf21 1), (zf21 2), u_out, u11, (sli st 0 la.length la.length), (z 6), (eN p), (eB (sgT la p 0)), (z 9)] ++ (zs zf21 10 6 ++ [(eN la.length), (eN i), (Value.bool (decide (i < la.length)))] ++ (zs z 19 8 ++ [(eN p), (Value.bool (decide (p < 224))), (eN p), u11, (eN ((tmL la p).length)), (eN 0)] ++ (zs z 33 28 ++ [(zf21 61)])))) ?_
  refine wD ?_
  have htl_ := tmL_length la p
  refine tN (wB ?_)
  refine loop2 (fun (k : (Nat)) => fun (z : Nat → Value) => (([(zf21 0), (zf21 1), (zf21 2), u_out, u11, (sli st 0 la.length la.length), (z 6), (eN p), (eB (sgT la p k)), (z 9)] ++ (zs zf21 10 6 ++ [(eN la.length), (eN i), (Value.bool (decide (i < la.length)))] ++ (zs z 19 8 ++ [(eN p), (Value.bool (decide (p < 224))), (eN p), u11, (eN ((tmL la p).length)), (eN k)] ++ (zs z 33 28 ++ [(zf21 61)])))) : List Value)) (fun (k : (Nat)) => fun (w_ : World) => (k ≤ la.length) ∧ Only (Orq bo_out (Or1 st (Orq bo13 No))) w32 w_ ∧ Arr 5 st ((stepTo la.length i).map eB) w_ ∧ Ow 5 1 bo13 u11 (tmMid la p k).length ((tmMid la p k).map eB) w_ ∧ Ow 3 1 bo_out u_out (wrongTo la p).length ((wrongTo la p).map eN) w_) (fun (k : (Nat)) => la.length - k) 0 rfl ?_ ?_
  ·
   refine ⟨?_, ?_, ?_, ?_, ?_⟩
   ·
    (try dsimp only)
    all_goals (omega)
   ·
    exact Only.refl _ _
   ·
    exact a19
   ·
    (try dsimp only)
    all_goals (rw [← tmMid_zero]; exact a14)
   ·
    exact a30
  rintro k z w34 ⟨hk, o33, a19, a14, a30⟩
  (try dsimp only)
  replace h1 := h1.step o33 (orq_mono (or1_mono (orq_mono no_any)))
  replace oW := oW.tail o33 (tl_q q_oW_out (fun _ e => by cases e) (tl_new g_oW_st (tl_q q_oW_te (fun _ e => by cases e) tl_no)))
  replace o22 := o22.tail o33 (tl_q q_o22_out (fun _ e => by cases e) (tl_in in1 (tl_q q_o22_te (fun k e => (.inr (.inl e))) tl_no)))
  replace o31 := o31.tail o33 (tl_q q_o31_out (fun k e => (.inl e)) (tl_in (inq in1) (tl_q q_o31_te (fun k e => (.inr (.inr (.inl e)))) tl_no)))
  have q_o33_te : Fr bo13 bo13 w32.heap.size := Fr.same
  have q_o33_out : Fr bo_out bo_out w32.heap.size := Fr.same
  refine wQ (pL ?_)
  refine wI (n_lss (a := k) (b := ((tmL la p).length)) rfl rfl rfl) ?_
  refine wD (tN (wQ ?_))
  refine cond_if rfl (fun c2 => ?_) (fun c2 => ?_)
  ·
   refine wK (tN (wQ (wB (wQ (pL ?_)))))
   refine wI (d_move rfl) ?_
   refine wI (d_assign rfl) ?_
   refine wD (tN (wQ (pL ?_)))
   refine wI (d_move rfl) ?_
   refine wI (d_move rfl) ?_
   refine wF ([(zf21 0), (zf21 1), (zf21 2), u_out, u11, (sli st 0 la.length la.length), (z 6), (eN p), (eB (sgT la p k)), (eN k)] ++ (zs zf21 10 6 ++ [(eN la.length), (eN i), (Value.bool (decide (i < la.length)))] ++ (zs z 19 8 ++ [(eN p), (Value.bool (decide (p < 224))), (eN p), u11, (eN ((tmL la p).length)), (eN k), (Value.bool (decide (k < ((tmL la p).length)))), (eN k), (eB (sgT la p k)), u11] ++ (zs z 37 24 ++ [(zf21 61)])))) ?_
   refine wI (d_move rfl) ?_
   refine wI (d_ix (i := k) (xs := (tmMid la p k)) Try.underlying22 s_ti5 rfl (a14.seq (X := No) (fun _ _ h => h)) (show _ = Value.int _ (k : Int) from rfl) (by have := tmMid_length la p k; first | omega | (simp; done) | (simp; omega))) ?_
   refine wI (d_ldx (i := k) (xs := (tmMid la p k)) (enc := eB) (v := ((tmMid la p k).getD k 0)) ⟨_, Try.underlying5, rfl⟩ rfl (a14.seq (X := No) (fun _ _ h => h)) (g_at (by have := tmMid_length la p k; first | omega | (simp; done) | (simp; omega)))) ?_
   refine wI (b_xor (c := (sgT la p k)) (e := ((tmMid la p k).getD k 0)) rfl rfl) ?_
   refine wI (d_assign rfl) ?_
   refine wF ([(zf21 0), (zf21 1), (zf21 2), u_out, u11, (sli st 0 la.length la.length), (z 6), (eN p), (eB ((sgT la p k) ^^^ ((tmMid la p k).getD k 0))), (eN k)] ++ (zs zf21 10 6 ++ [(eN la.length), (eN i), (Value.bool (decide (i < la.length)))] ++ (zs z 19 8 ++ [(eN p), (Value.bool (decide (p < 224))), (eN p), u11, (eN ((tmL la p).length)), (eN k), (Value.bool (decide (k < ((tmL la p).length)))), (eN k), (eB (sgT la p k)), u11, (eN k), (ixp u11 k), (eB ((tmMid la p k).getD k 0)), (eB ((sgT la p k) ^^^ ((tmMid la p k).getD k 0)))] ++ (zs z 41 20 ++ [(zf21 61)])))) ?_
   refine wD (tN ?_)
   refine forget (fun zf35 => ([(zf21 0), (zf21 1), (zf21 2), u_out, u11, (sli st 0 la.length la.length), (z 6), (eN p), (eB ((sgT la p k) ^^^ ((tmMid la p k).getD k 0))), (eN k)] ++ (zs zf21 10 6 ++ [(eN la.length), (eN i), (Value.bool (decide (i < la.length)))] ++ (zs z 19 8 ++ [(eN p), (Value.bool (decide (p < 224))), (eN p), u11, (eN ((tmL la p).length)), (eN k)] ++ (zs zf35 33 8 ++ (zs z 41 12 ++ [(zf35 53)] ++ (zs z 54 7 ++ [(zf21 61)]))))))) kr (fun zf35 => ?_)
   refine drawn_last (O := (Isq bo13)) (m := 12) (R := fun w_ => Ow 5 1 bo13 u11 ((tmMid la p k).set k (gm ((tmMid la p k).getD k 0) ((stepTo la.length i).getD k 0))).length (((tmMid la p k).set k (gm ((tmMid la p k).getD k 0) ((stepTo la.length i).getD k 0))).map eB) w_) [0, 0, 0, 0, 12, 28, 0, 0, 192, 448, 1020, 2047, 4095] [(0, 41), (1, 42), (2, 43), (3, 44), (4, 45), (5, 46), (6, 47), (7, 48), (8, 49), (9, 50), (10, 51), (11, 52)] [u11, (eN k), u11, (eN k), (ixp u11 k), (eB ((tmMid la p k).getD k 0)), (sli st 0 la.length la.length), (eN k), (ptr st k), (eB ((stepTo la.length i).getD k 0)), (eB (gm ((tmMid la p k).getD k 0) ((stepTo la.length i).getD k 0))), (ixp u11 k)] ([(zf21 0), (zf21 1), (zf21 2), u_out, u11, (sli st 0 la.length la.length), (z 6), (eN p), (eB ((sgT la p k) ^^^ ((tmMid la p k).getD k 0))), (eN k)] ++ (zs zf21 10 6 ++ [(eN la.length), (eN i), (Value.bool (decide (i < la.length)))] ++ (zs z 19 8 ++ [(eN p), (Value.bool (decide (p < 224))), (eN p), u11, (eN ((tmL la p).length)), (eN k)] ++ (zs zf35 33 8 ++ [u11, (eN k), u11, (eN k), (ixp u11 k), (eB ((tmMid la p k).getD k 0)), (sli st 0 la.length la.length), (eN k), (ptr st k), (eB ((stepTo la.length i).getD k 0)), (eB (gm ((tmMid la p k).getD k 0) ((stepTo la.length i).getD k 0))), (ixp u11 k), (zf35 53)] ++ (zs z 54 7 ++ [(zf21 61)]))))) s_mx kr kr rfl rfl (by decide) kr kr ?_ (fun _ _ h_ ho_ => h_.step0 ho_) ⟨_, rfl, rfl, fun w_ hO_ => gd rfl ((d_stx (i := k) (xs := (tmMid la p k)) (enc := eB) (v := (gm ((tmMid la p k).getD k 0) ((stepTo la.length i).getD k 0))) s_ti5 rfl rfl rfl (a14.step0 hO_) (by rw [tmMid_length]; omega) rfl).mono fun u_ w2_ h_ => ⟨h_.2, h_.1⟩)⟩ ?_
   ·
    intro w_ hO_
    refine AllG.cons (gi rfl (d_move rfl)) ?_
    refine AllG.cons (gi rfl (d_move rfl)) ?_
    refine AllG.cons (gi rfl (d_move rfl)) ?_
    refine AllG.cons (gi rfl (d_move rfl)) ?_
    refine AllG.cons (gi rfl (d_ix (i := k) (xs := (tmMid la p k)) Try.underlying22 s_ti5 rfl ((a14.step0 hO_).seq (X := No) (fun _ _ h => h)) (show _ = Value.int _ (k : Int) from rfl) (by have := tmMid_length la p k; first | omega | (simp; done) | (simp; omega)))) ?_
    refine AllG.cons (gi rfl (d_ldx (i := k) (xs := (tmMid la p k)) (enc := eB) (v := ((tmMid la p k).getD k 0)) ⟨_, Try.underlying5, rfl⟩ rfl ((a14.step0 hO_).seq (X := No) (fun _ _ h => h)) (g_at (by have := tmMid_length la p k; first | omega | (simp; done) | (simp; omega))))) ?_
    refine AllG.cons (gi rfl (d_move rfl)) ?_
    refine AllG.cons (gi rfl (d_move rfl)) ?_
    refine AllG.cons (gi rfl (d_index1 (n := la.length) (i := k) Try.underlying22 s_ti5 rfl (show _ = Value.int _ (k : Int) from rfl) oo)) ?_
    refine AllG.cons (gi rfl (d_load ⟨_, Try.underlying5, rfl⟩ rfl (a19.step0 hO_) (m_at (d := 0) (by rw [l_st]; omega)))) ?_
    refine AllG.cons (gc rfl (d_call (xl := [.tmp 46, .tmp 50]) (al := [(eB ((tmMid la p k).getD k 0)), (eB ((stepTo la.length i).getD k 0))]) Try.func90 kr rfl rfl rfl (gfMul_ok ((tmMid la p k).getD k 0) ((stepTo la.length i).getD k 0) _))) ?_
    refine AllG.cons (gi rfl (d_ix (i := k) (xs := (tmMid la p k)) Try.underlying22 s_ti5 rfl ((a14.step0 hO_).seq (X := No) (fun _ _ h => h)) (show _ = Value.int _ (k : Int) from rfl) (by have := tmMid_length la p k; first | omega | (simp; done) | (simp; omega)))) ?_
    exact AllG.nil
   intro w36 o37 a38
   replace h1 := h1.gr o37 (fun k e => (.inr (.inr (.inl e)))) (xx_orq (xx_or1 (xx_re Fr.same xx_id)))
   have nq2 := nqs nq_te_st Fr.same a19.lt
   replace a19 := a19.step o37 (fun e => nq_te_st _ e rfl)
   replace nq_te_st := nq2
   clear nq2
   have lt2 := a30.lts
   replace a30 := a30.step o37 (fun x hx e => nqq_te_out x e hx)
   replace nqq_te_out := fun x h1 h2 => nqq_step (fun x h1 h2 => nqq_te_out x h2 h1) Fr.same lt2 x h2 h1
   clear lt2
   have tq := oW.size
   replace oW := oW.tailr o37 q_oW_te (fun _ e => by cases e)
   replace q_oW_te := qtr Fr.same q_oW_te tq
   clear tq
   have tq := o22.size
   replace o22 := o22.tailr o37 q_o22_te (fun k e => (.inr (.inl e)))
   replace q_o22_te := qtr Fr.same q_o22_te tq
   clear tq
   have tq := o31.size
   replace o31 := o31.tailr o37 q_o31_te (fun k e => (.inr (.inr (.inl e))))
   replace q_o31_te := qtr Fr.same q_o31_te tq
   clear tq
   have tq := o33.size
   replace o33 := o33.tailr o37 q_o33_te (fun k e => (.inr (.inr (.inl e))))
   replace q_o33_te := qtr Fr.same q_o33_te tq
   clear tq
   refine inb_n (tN ?_)
   refine pL ?_
   refine wI (n_add (a := k) (b := 1) rfl rfl oo) ?_
   refine wI (d_move rfl) ?_
   refine wD (tN ?_)
   refine ⟨([(zf21 0), (zf21 1), (zf21 2), u_out, u11, (sli st 0 la.length la.length), (z 6), (eN p), (eB (sgT la p (k + 1))), (eN k)] ++ (zs zf21 10 6 ++ [(eN la.length), (eN i), (Value.bool (decide (i < la.length)))] ++ (zs z 19 8 ++ [(eN p), (Value.bool (decide (p < 224))), (eN p), u11, (eN ((tmL la p).length)), (eN (k + 1))] ++ (zs zf35 33 8 ++ [u11, (eN k), u11, (eN k), (ixp u11 k), (eB ((tmMid la p k).getD k 0)), (sli st 0 la.length la.length), (eN k), (ptr st k), (eB ((stepTo la.length i).getD k 0)), (eB (gm ((tmMid la p k).getD k 0) ((stepTo la.length i).getD k 0))), (ixp u11 k), (eN (k + 1))] ++ (zs z 54 7 ++ [(zf21 61)]))))), (k + 1), (congrArg (fun l_ => fr l_ _) (show (([(zf21 0), (zf21 1), (zf21 2), u_out, u11, (sli st 0 la.length la.length), (z 6), (eN p), (eB ((sgT la p k) ^^^ ((tmMid la p k).getD k 0))), (eN k)] ++ (zs zf21 10 6 ++ [(eN la.length), (eN i), (Value.bool (decide (i < la.length)))] ++ (zs z 19 8 ++ [(eN p), (Value.bool (decide (p < 224))), (eN p), u11, (eN ((tmL la p).length)), (eN (k + 1))] ++ (zs zf35 33 8 ++ [u11, (eN k), u11, (eN k), (ixp u11 k), (eB ((tmMid la p k).getD k 0)), (sli st 0 la.length la.length), (eN k), (ptr st k), (eB ((stepTo la.length i).getD k 0)), (eB (gm ((tmMid la p k).getD k 0) ((stepTo la.length i).getD k 0))), (ixp u11 k), (eN (k + 1))] ++ (zs z 54 7 ++ [(zf21 61)]))))) : List Value) = ([(zf21 0), (zf21 1), (zf21 2), u_out, u11, (sli st 0 la.length la.length), (z 6), (eN p), (eB (sgT la p (k + 1))), (eN k)] ++ (zs zf21 10 6 ++ [(eN la.length), (eN i), (Value.bool (decide (i < la.length)))] ++ (zs z 19 8 ++ [(eN p), (Value.bool (decide (p < 224))), (eN p), u11, (eN ((tmL la p).length)), (eN (k + 1))] ++ (zs zf35 33 8 ++ [u11, (eN k), u11, (eN k), (ixp u11 k), (eB ((tmMid la p k).getD k 0)), (sli st 0 la.length la.length), (eN k), (ptr st k), (eB ((stepTo la.length i).getD k 0)), (eB (gm ((tmMid la p k).getD k 0) ((stepTo la.length i).getD k 0))), (ixp u11 k), (eN (k + 1))] ++ (zs z 54 7 ++ [(zf21 61)]))))) from reslot ([(zf21 0), (zf21 1), (zf21 2), u_out, u11, (sli st 0 la.length la.length), (z 6), (eN p), (eB ((sgT la p k) ^^^ ((tmMid la p k).getD k 0))), (eN k)] ++ (zs zf21 10 6 ++ [(eN la.length), (eN i), (Value.bool (decide (i < la.length)))] ++ (zs z 19 8 ++ [(eN p), (Value.bool (decide (p < 224))), (eN p), u11, (eN ((tmL la p).length)), (eN (k + 1))] ++ (zs zf35 33 8 ++ [u11, (eN k), u11, (eN k), (ixp u11 k), (eB ((tmMid la p k).getD k 0)), (sli st 0 la.length la.length), (eN k), (ptr st k), (eB ((stepTo la.length i).getD k 0)), (eB (gm ((tmMid la p k).getD k 0) ((stepTo la.length i).getD k 0))), (ixp u11 k), (eN (k + 1))] ++ (zs z 54 7 ++ [(zf21 61)]))))) 8 (congrArg eB (sgT_step la p oo)))), kr, ⟨?_, ?_, ?_, ?_, ?_⟩, ?_⟩
   ·
    (try dsimp only)
    all_goals (omega)
   ·
    exact o33
   ·
    exact a19
   ·
    (try dsimp only)
    all_goals (rw [tmMid_step la p oo hst_] at a38; exact a38)
   ·
    exact a30
   ·
    (try dsimp only)
    all_goals (omega)
  refine wpIn_exit ?_
  refine then_x (then_x (inb_e ?_))
  refine tN (wQ (pL ?_))
  refine wI (d_move rfl) ?_
  refine wI (b_eql (c := (sgT la p k)) (e := 0) rfl rfl rfl) ?_
  refine wD (tN ?_)
  refine cond_if rfl (fun c3 => ?_) (fun c3 => ?_)
  ·
   have hs0_ :  sigL la p = 0 := by rw [show k = la.length by omega] at c3; exact c3
   refine pL ?_
   refine wI (d_move rfl) ?_
   refine wI (d_move rfl) ?_
   refine wF ([(zf21 0), (zf21 1), (zf21 2), u_out, u11, (sli st 0 la.length la.length), (z 6), (eN p), (eB (sgT la p k)), (z 9)] ++ (zs zf21 10 6 ++ [(eN la.length), (eN i), (Value.bool (decide (i < la.length)))] ++ (zs z 19 8 ++ [(eN p), (Value.bool (decide (p < 224))), (eN p), u11, (eN ((tmL la p).length)), (eN k), (Value.bool (decide (k < ((tmL la p).length))))] ++ (zs z 34 20 ++ [(eB (sgT la p k)), (Value.bool (decide (((sgT la p k) : UInt8) = (0 : UInt8)))), u_out, (eN p), (z 58), (z 59), (z 60), (zf21 61)])))) ?_
   refine wO (d_buildL (cs := [(eN p)]) Try.underlying23 s_ti3 rfl (nb rfl) (parts_cons (vs := [(eN p)]) (cells_of (v := (eN p)) rfl rfl) parts_nil) rfl) ?_
   rintro _ w40 ⟨b39, rfl, g41, a42, o43⟩
   replace a42 : Arr 3 b39 (([p] : List Nat).map eN) w40 := a42
   have l_b39 : ([p] : List Nat).length = 1 := rfl
   have n_st_b39 : st ≠ b39 := a19.ne g41
   have nq_te_b39 : ∀ x, bo13 = some x → ¬ x = b39 := fun x hx e => by have := a14.lts x hx; omega
   have nq_out_b39 : ∀ x, bo_out = some x → ¬ x = b39 := fun x hx e => by have := a30.lts x hx; omega
   have g_oW_b39 : W.heap.size ≤ b39 := Nat.le_trans oW.size g41
   have g_o22_b39 : w17.heap.size ≤ b39 := Nat.le_trans o22.size g41
   have g_o31_b39 : w23.heap.size ≤ b39 := Nat.le_trans o31.size g41
   have g_o33_b39 : w32.heap.size ≤ b39 := Nat.le_trans o33.size g41
   replace h1 := h1.new o43 g41
   replace a19 := a19.step0 o43
   replace a14 := a14.step0 o43
   replace a30 := a30.step0 o43
   replace oW := oW.tail0 o43
   replace o22 := o22.tail0 o43
   replace o31 := o31.tail0 o43
   replace o33 := o33.tail0 o43
   refine wO (d_append Try.underlying23 Try.underlying23 s_ti3 rfl rfl rfl a30 (SrcV.of_seq (arr_seq a42 l_b39 (Nat.le_refl _)) (fun _ => rfl)) (by have := wrongTo_len la p; simp only [List.length_singleton]; omega) (by have := wrongTo_len la p; simp only [List.length_singleton]; omega) rfl) ?_
   rintro u44 w45 ⟨bo46, a47, o48, q49⟩
   replace a47 : Ow 3 1 bo46 u44 ((wrongTo la p) ++ ([p] : List Nat)).length (((wrongTo la p) ++ ([p] : List Nat)).map eN) w45 := by rw [List.length_append, List.map_append]; exact a47
   replace h1 := h1.gr o48 (fun k e => (.inr (.inl e))) (xx_or1 (xx_re (Fr.of_or q49) (xx_or1 (xx_orq xx_id))))
   have nq2 := nqs nq_out_st (Fr.of_or q49) a19.lt
   replace a19 := a19.step o48 (fun e => nq_out_st _ e rfl)
   replace nq_out_st := nq2
   clear nq2
   have nq2 := nqs nq_out_b39 (Fr.of_or q49) a42.lt
   replace a42 := a42.step o48 (fun e => nq_out_b39 _ e rfl)
   replace nq_out_b39 := nq2
   clear nq2
   have lt2 := a14.lts
   replace a14 := a14.step o48 (fun x hx e => nqq_te_out x hx e)
   replace nqq_te_out := nqq_step nqq_te_out (Fr.of_or q49) lt2
   clear lt2
   have tq := oW.size
   replace oW := oW.tailr o48 q_oW_out (fun _ e => by cases e)
   replace q_oW_out := qtr (Fr.of_or q49) q_oW_out tq
   clear tq
   have tq := o22.size
   replace o22 := o22.tailr o48 q_o22_out (fun _ e => by cases e)
   replace q_o22_out := qtr (Fr.of_or q49) q_o22_out tq
   clear tq
   have tq := o31.size
   replace o31 := o31.tailr o48 q_o31_out (fun k e => (.inl e))
   replace q_o31_out := qtr (Fr.of_or q49) q_o31_out tq
   clear tq
   have tq := o33.size
   replace o33 := o33.tailr o48 q_o33_out (fun k e => (.inl e))
   replace q_o33_out := qtr (Fr.of_or q49) q_o33_out tq
   clear tq
   refine wI (d_assign rfl) ?_
   refine wD ?_
   refine inb_n (tN ?_)
   refine forget (fun zf50 => ([(zf21 0), (zf21 1), (zf21 2), u44, u11, (sli st 0 la.length la.length), (z 6), (zf50 7), (eB (sgT la p k)), (zf50 9)] ++ (zs zf21 10 6 ++ [(eN la.length), (eN i), (Value.bool (decide (i < la.length)))] ++ (zs z 19 8 ++ [(eN p), (zf50 28), (zf50 29), (zf50 30), (zf50 31), (eN k)] ++ (zs zf50 33 8 ++ (zs z 41 12 ++ (zs zf50 53 8 ++ [(zf21 61)]))))))) kr (fun zf50 => ?_)
   refine pL ?_
   refine wI (n_add (a := p) (b := 1) rfl rfl oo) ?_
   refine wI (d_move rfl) ?_
   refine wD (tN ?_)
   refine ⟨_, ⟨p + 1, bo46, u44⟩, rfl, kr, ⟨?_, ?_, ?_, ?_, ?_, ?_⟩, ?_⟩
   ·
    (try dsimp only)
    all_goals (omega)
   ·
    exact o31
   ·
    exact a19
   ·
    (try dsimp only)
    all_goals (rw [← tmMid_done la p (i := k) oo]; exact a14)
   ·
    (try dsimp only)
    all_goals (rw [← wrongTo_yes hs0_]; exact a47)
   ·
    exact q_o31_out
   ·
    (try dsimp only)
    all_goals (omega)
  have hs0_ : ¬ sigL la p = 0 := by rw [show k = la.length by omega] at c3; exact c3
  refine wK ?_
  refine inb_n (tN ?_)
  refine forget (fun zf51 => ([(zf21 0), (zf21 1), (zf21 2), u_out, u11, (sli st 0 la.length la.length), (z 6), (zf51 7), (eB (sgT la p k)), (zf51 9)] ++ (zs zf21 10 6 ++ [(eN la.length), (eN i), (Value.bool (decide (i < la.length)))] ++ (zs z 19 8 ++ [(eN p), (zf51 28), (zf51 29), (zf51 30), (zf51 31), (eN k)] ++ (zs zf51 33 8 ++ (zs z 41 12 ++ (zs zf51 53 8 ++ [(zf21 61)]))))))) kr (fun zf51 => ?_)
  refine pL ?_
  refine wI (n_add (a := p) (b := 1) rfl rfl oo) ?_
  refine wI (d_move rfl) ?_
  refine wD (tN ?_)
  refine ⟨_, ⟨p + 1, bo_out, u_out⟩, rfl, kr, ⟨?_, ?_, ?_, ?_, ?_, ?_⟩, ?_⟩
  ·
   (try dsimp only)
   all_goals (omega)
  ·
   exact o31
  ·
   exact a19
  ·
   (try dsimp only)
   all_goals (rw [← tmMid_done la p (i := k) oo]; exact a14)
  ·
   (try dsimp only)
   all_goals (rw [wrongTo_no hs0_]; exact a30)
  ·
   exact q_o31_out
  ·
   (try dsimp only)
   all_goals (omega)
 refine wpIn_exit ?_
 refine then_x (then_x (inb_e ?_))
 refine tN (wQ (pL ?_))
 refine wI (d_move rfl) ?_
 refine wI (d_assign rfl) ?_
 refine wD (tN ?_)
 refine wpIn_ret ?_
 refine leave0 (v := u_out) (res1 Try.results74 rfl) ?_
 exact ROw.mk_ a30 (by rw [show p = 224 by omega]; rfl) q_oW_out oW
theorem bchMended_ok (la : List UInt8) (ls : List Nat) (u1 u2 : Value) (W : World) (h1 : Ps No (Seq kB la u1) W) (h2 : Ps No (Seq kN ls u2) W) (g1 : la.length = 28) (g2 : ∀ k ∈ ls, k < 224) (g3 : ls.length ≤ 300) :
    CW Try.prog 75 #[u1, u2] W (Rt (RTb kB (flipL la ls) (whole (sumsL (flipL la ls))) W)) := by
 have oW : Only No W W := Only.refl _ _
 refine enter (al := [u1, u2]) (k := 30) (l := ([u1, u2] ++ (us 30))) Try.func75 rfl Try.ntmps75 rfl rfl ?_
 refine wQ (pL ?_)
 refine wI (d_assign rfl) ?_
 refine wI (d_assign rfl) ?_
 refine wD (tN (wQ (pL ?_)))
 refine wI (d_move rfl) ?_
 refine wO (d_append Try.underlying22 Try.underlying22 s_ti5 rfl rfl rfl (Ow.nil 5 1 _) (SrcV.of_seq h1 (fun _ => rfl)) oo oo rfl) ?_
 rintro u11 w12 ⟨bo13, a14, o15, q16⟩
 replace h1 := h1.qnone
 replace h2 := h2.qnone
 have q_oW_o : Fr none none W.heap.size := Fr.none
 replace a14 : Ow 5 1 bo13 u11 (la).length ((la).map eB) w12 := by simpa using a14
 replace h1 := h1.gr o15 (fun k e => (.inl e)) (xx_re (Fr.of_or q16) xx_id)
 replace h2 := h2.gr o15 (fun k e => (.inl e)) (xx_re (Fr.of_or q16) xx_id)
 have tq := oW.size
 replace oW := oW.tailr o15 q_oW_o (fun _ e => by cases e)
 replace q_oW_o := qtr (Fr.of_or q16) q_oW_o tq
 clear tq
 refine wI (d_assign rfl) ?_
 refine wF ([u1, u2, undef, undef, (Value.slice none 0 0), vF, u11, undef, undef, u1, u11] ++ (us 21)) ?_
 refine wD (tN (wQ (wQ (pL ?_))))
 refine wI (d_move rfl) ?_
 refine wI (d_lenS rfl Try.underlying23 rfl h2) ?_
 refine wI (d_move rfl) ?_
 refine wD (tN (wB ?_))
 refine loop2 (fun (i : (Nat)) => fun (z : Nat → Value) => (([u1, u2, undef, undef, (Value.slice none 0 0), vF, u11, undef, (z 8), u1, u11, u2, (eN ls.length), (eN i)] ++ (zs z 14 14 ++ [undef, undef, undef, undef])) : List Value)) (fun (i : (Nat)) => fun (w_ : World) => (i ≤ ls.length) ∧ Only (Orq bo13 No) w12 w_ ∧ Ow 5 1 bo13 u11 (flipL la (ls.take i)).length ((flipL la (ls.take i)).map eB) w_) (fun (i : (Nat)) => ls.length - i) 0 kr ?_ ?_
 ·
  refine ⟨?_, ?_, ?_⟩
  ·
   exact Nat.zero_le _
  ·
   exact Only.refl _ _
  ·
   exact a14
 rintro i z w18 ⟨hi, o17, a14⟩
 (try dsimp only)
 replace h1 := h1.step o17 (orq_mono no_any)
 replace h2 := h2.step o17 (orq_mono no_any)
 replace oW := oW.tail o17 (tl_q q_oW_o (fun _ e => by cases e) tl_no)
 have q_o17_o : Fr bo13 bo13 w12.heap.size := Fr.same
 refine wQ (pL ?_)
 refine wI (n_lss (a := i) (b := ls.length) rfl rfl rfl) ?_
 refine wD (tN (wQ ?_))
 refine cond_if rfl (fun c0 => ?_) (fun c0 => ?_)
 ·
  refine wK (tN (wQ (wB (wQ ?_))))
  refine wp_eq (l' := ([u1, u2, undef, undef, (Value.slice none 0 0), vF, u11, undef, (z 8), u1, u11, u2, (eN ls.length), (eN i), (Value.bool (decide (i < ls.length)))] ++ (zs z 15 13 ++ [undef, undef, undef, undef]))) rfl ?_
  refine pL ?_
  refine wI (d_ix (i := i) (xs := ls) Try.underlying23 s_ti3 rfl h2 (show _ = Value.int _ (i : Int) from rfl) fo) ?_
  refine wI (d_ldx (i := i) (xs := ls) (enc := eN) (v := (ls.getD i 0)) ⟨_, Try.underlying3, rfl⟩ rfl h2 (g_at fo)) ?_
  refine wI (d_assign rfl) ?_
  refine wF ([u1, u2, undef, undef, (Value.slice none 0 0), vF, u11, undef, (eN (ls.getD i 0)), u1, u11, u2, (eN ls.length), (eN i), (Value.bool (decide (i < ls.length))), (ixp u2 i), (eN (ls.getD i 0))] ++ (zs z 17 11 ++ [undef, undef, undef, undef])) ?_
  refine wD ?_
  have hx_ := getD_lt g2 c0
  have hl_ := flipL_length la (ls.take i)
  refine tN ?_
  refine drawn_last (O := (Isq bo13)) (m := 10) (R := fun w_ => Ow 5 1 bo13 u11 ((flipL la (ls.take i)).set ((ls.getD i 0) / 8) (((flipL la (ls.take i)).getD ((ls.getD i 0) / 8) 0) ^^^ (shlB 1 ((ls.getD i 0) % 8)))).length (((flipL la (ls.take i)).set ((ls.getD i 0) / 8) (((flipL la (ls.take i)).getD ((ls.getD i 0) / 8) 0) ^^^ (shlB 1 ((ls.getD i 0) % 8)))).map eB) w_) [0, 0, 2, 7, 15, 0, 32, 96, 255, 511, 1023] [(0, 17), (1, 18), (2, 19), (3, 20), (4, 21), (5, 22), (6, 23), (7, 24), (8, 25), (9, 26)] [u11, (eN (ls.getD i 0)), (eN ((ls.getD i 0) / 8)), (ixp u11 ((ls.getD i 0) / 8)), (eB ((flipL la (ls.take i)).getD ((ls.getD i 0) / 8) 0)), (eN (ls.getD i 0)), (eN ((ls.getD i 0) % 8)), (eB (shlB 1 ((ls.getD i 0) % 8))), (eB (((flipL la (ls.take i)).getD ((ls.getD i 0) / 8) 0) ^^^ (shlB 1 ((ls.getD i 0) % 8)))), (ixp u11 ((ls.getD i 0) / 8))] [u1, u2, undef, undef, (Value.slice none 0 0), vF, u11, undef, (eN (ls.getD i 0)), u1, u11, u2, (eN ls.length), (eN i), (Value.bool (decide (i < ls.length))), (ixp u2 i), (eN (ls.getD i 0)), u11, (eN (ls.getD i 0)), (eN ((ls.getD i 0) / 8)), (ixp u11 ((ls.getD i 0) / 8)), (eB ((flipL la (ls.take i)).getD ((ls.getD i 0) / 8) 0)), (eN (ls.getD i 0)), (eN ((ls.getD i 0) % 8)), (eB (shlB 1 ((ls.getD i 0) % 8))), (eB (((flipL la (ls.take i)).getD ((ls.getD i 0) / 8) 0) ^^^ (shlB 1 ((ls.getD i 0) % 8)))), (ixp u11 ((ls.getD i 0) / 8)), (z 27), undef, undef, undef, undef] s_mx kr kr rfl rfl (by decide) kr kr ?_ (fun _ _ h_ ho_ => h_.step0 ho_) ⟨_, rfl, rfl, fun w_ hO_ => gd rfl ((d_stx (i := ((ls.getD i 0) / 8)) (xs := (flipL la (ls.take i))) (enc := eB) (v := (((flipL la (ls.take i)).getD ((ls.getD i 0) / 8) 0) ^^^ (shlB 1 ((ls.getD i 0) % 8)))) s_ti5 rfl rfl rfl (a14.step0 hO_) (by have := flipL_length la (ls.take i); first | omega | (simp; done) | (simp; omega)) rfl).mono fun u_ w2_ h_ => ⟨h_.2, h_.1⟩)⟩ ?_
  ·
   intro w_ hO_
   refine AllG.cons (gi rfl (d_move rfl)) ?_
   refine AllG.cons (gi rfl (d_move rfl)) ?_
   refine AllG.cons (gi rfl (n_quo (a := (ls.getD i 0)) (b := 8) rfl rfl (by decide) oo)) ?_
   refine AllG.cons (gi rfl (d_ix (i := ((ls.getD i 0) / 8)) (xs := (flipL la (ls.take i))) Try.underlying22 s_ti5 rfl ((a14.step0 hO_).seq (X := No) (fun _ _ h => h)) (show _ = Value.int _ (((ls.getD i 0) / 8 : Nat) : Int) from rfl) (by have := flipL_length la (ls.take i); first | omega | (simp; done) | (simp; omega)))) ?_
   refine AllG.cons (gi rfl (d_ldx (i := ((ls.getD i 0) / 8)) (xs := (flipL la (ls.take i))) (enc := eB) (v := ((flipL la (ls.take i)).getD ((ls.getD i 0) / 8) 0)) ⟨_, Try.underlying5, rfl⟩ rfl ((a14.step0 hO_).seq (X := No) (fun _ _ h => h)) (g_at (by have := flipL_length la (ls.take i); first | omega | (simp; done) | (simp; omega))))) ?_
   refine AllG.cons (gi rfl (d_move rfl)) ?_
   refine AllG.cons (gi rfl (n_rem (a := (ls.getD i 0)) (b := 8) rfl rfl (by decide))) ?_
   refine AllG.cons (gi rfl (b_shl (a := ((ls.getD i 0) % 8)) rfl rfl oo)) ?_
   refine AllG.cons (gi rfl (b_xor (c := ((flipL la (ls.take i)).getD ((ls.getD i 0) / 8) 0)) (e := (shlB 1 ((ls.getD i 0) % 8))) rfl rfl)) ?_
   refine AllG.cons (gi rfl (d_ix (i := ((ls.getD i 0) / 8)) (xs := (flipL la (ls.take i))) Try.underlying22 s_ti5 rfl ((a14.step0 hO_).seq (X := No) (fun _ _ h => h)) (show _ = Value.int _ (((ls.getD i 0) / 8 : Nat) : Int) from rfl) (by have := flipL_length la (ls.take i); first | omega | (simp; done) | (simp; omega)))) ?_
   exact AllG.nil
  intro w19 o20 a21
  replace h1 := h1.gr o20 (fun k e => (.inl e)) (xx_re Fr.same xx_id)
  replace h2 := h2.gr o20 (fun k e => (.inl e)) (xx_re Fr.same xx_id)
  have tq := oW.size
  replace oW := oW.tailr o20 q_oW_o (fun _ e => by cases e)
  replace q_oW_o := qtr Fr.same q_oW_o tq
  clear tq
  have tq := o17.size
  replace o17 := o17.tailr o20 q_o17_o (fun k e => (.inl e))
  replace q_o17_o := qtr Fr.same q_o17_o tq
  clear tq
  refine inb_n (tN ?_)
  refine pL ?_
  refine wI (n_add (a := i) (b := 1) rfl rfl oo) ?_
  refine wI (d_move rfl) ?_
  refine wD (tN ?_)
  refine ⟨_, (i + 1), rfl, kr, ⟨?_, ?_, ?_⟩, ?_⟩
  ·
   (try dsimp only)
   all_goals (omega)
  ·
   exact o17
  ·
   (try dsimp only)
   all_goals (rw [flip_next la c0] at a21; exact a21)
  ·
   (try dsimp only)
   all_goals (omega)
 refine wpIn_exit ?_
 refine then_x (then_x (inb_e ?_))
 refine tN ?_
 refine forget (fun zf22 => (zs zf22 0 6 ++ [u11] ++ (zs zf22 7 6 ++ [(eN i)] ++ (zs zf22 14 18)))) kr (fun zf22 => ?_)
 refine wQ ?_
 have hl_ := flipL_length la (ls.take i)
 refine pL ?_
 refine wI (d_move rfl) ?_
 refine wI (d_move rfl) ?_
 refine wO (d_call (xl := [.tmp 29]) (al := [u11]) Try.func71 kr rfl rfl rfl (bchSums_ok (flipL la (ls.take i)) u11 _ (Ps.no (a14.seq (X := No) (fun _ _ h => h))) (by have := flipL_length la (ls.take i); first | omega | (simp; done) | (simp; omega)))) ?_
 rintro u25 w23 f26
 replace f26 := f26.ps
 obtain ⟨f26, o24⟩ := f26
 replace f26 := f26.less (Y := (Orq bo13 (Old W.heap.size))) (orq_old a14.lts (old_old oW.size))
 replace h1 := h1.step0 o24
 replace h2 := h2.step0 o24
 replace a14 := a14.step0 o24
 replace oW := oW.tail0 o24
 replace o17 := o17.tail0 o24
 refine wO (d_call (xl := [.tmp 30]) (al := [u25]) Try.func72 kr rfl rfl rfl (bchWhole_ok (sumsL (flipL la (ls.take i))) u25 _ (Ps.no f26) (by have := sumsL_length (flipL la (ls.take i)); have := flipL_length la (ls.take i); first | omega | (simp; done) | (simp; omega)))) ?_
 rintro _ w27 ⟨rfl, o28⟩
 replace h1 := h1.step0 o28
 replace h2 := h2.step0 o28
 replace f26 := f26.step0 o28
 replace a14 := a14.step0 o28
 replace oW := oW.tail0 o28
 replace o17 := o17.tail0 o28
 refine wI (d_assign rfl) ?_
 refine wF ([(zf22 0), (zf22 1), (zf22 2), (zf22 3), u11, (zf22 5), u11] ++ (zs zf22 7 6 ++ [(eN i)] ++ (zs zf22 14 14 ++ [u11, u11, u25, (Value.bool (whole (sumsL (flipL la (ls.take i)))))]))) ?_
 refine wI (d_assign rfl) ?_
 refine wD (tN ?_)
 refine wpIn_ret ?_
 refine leave0 (v := (Value.tuple #[u11, (Value.bool (whole (sumsL (flipL la (ls.take i)))))])) (res2 Try.results75 rfl rfl) ?_
 have ht_ : ls.take i = ls := by rw [show i = ls.length by omega]; exact List.take_length
 exact RTb.of (by rw [ht_]) (by rw [ht_]) (Ow.seq a14 (old_q q_oW_o)) oW
theorem bchDecode_ok (la : List UInt8) (u1 : Value) (W : World) (h1 : Ps No (Seq kB la u1) W) (g1 : la.length ≤ 1048576) :
    CW Try.prog 45 #[u1] W (Rt (RDec (decD la) (decN la) (decB la) W)) := by
 have oW : Only No W W := Only.refl _ _
 refine enter (al := [u1]) (k := 50) (l := ([u1] ++ (us 50))) Try.func45 rfl Try.ntmps45 rfl rfl ?_
 refine wQ (pL ?_)
 refine wI (d_assign rfl) ?_
 refine wI (d_assign rfl) ?_
 refine wI (d_assign rfl) ?_
 refine wD (tN (wQ (wQ (pL ?_))))
 refine wI (d_move rfl) ?_
 refine wI (d_lenS rfl Try.underlying22 rfl h1) ?_
 refine wF ([u1, undef, (Value.slice none 0 0), (eN 0), vF] ++ (us 7 ++ [u1, (eN la.length)] ++ (us 37))) ?_
 refine wI (n_neq (a := la.length) (b := 28) rfl rfl rfl) ?_
 refine wD (tN ?_)
 refine cond_un rfl (fun c0 => ?_) (fun c0 => ?_)
 ·
  refine wQ (pL ?_)
  refine wI (d_assign rfl) ?_
  refine wI (d_assign rfl) ?_
  refine wI (d_assign rfl) ?_
  refine wD (tN ?_)
  refine wpIn_ret ?_
  refine then_r ?_
  refine leave0 (v := (Value.tuple #[(Value.slice none 0 0), (eN 0), vF])) (res3 Try.results45 rfl rfl rfl) ?_
  exact RDec.of (by have h_ := dec_bad c0; exact h_) seq_nil oW
 refine wK (tN (wQ (pL ?_)))
 refine wI (d_move rfl) ?_
 refine wO (d_call (xl := [.tmp 15]) (al := [u1]) Try.func71 kr rfl rfl rfl (bchSums_ok la u1 _ (Ps.no h1) fo)) ?_
 rintro u13 w11 f14
 replace f14 := f14.ps
 obtain ⟨f14, o12⟩ := f14
 replace f14 := f14.less (Y := (Old W.heap.size)) (old_old oW.size)
 replace h1 := h1.step0 o12
 replace oW := oW.tail0 o12
 refine wI (d_assign rfl) ?_
 refine wD (tN ?_)
 refine forget (fun zf15 => ([u1, (zf15 1), (zf15 2), (zf15 3), (zf15 4), u13, undef] ++ (zs zf15 7 44))) kr (fun zf15 => ?_)
 refine wQ (wQ (pL ?_))
 refine wI (d_move rfl) ?_
 refine wO (d_call (xl := [.tmp 17]) (al := [u13]) Try.func72 kr rfl rfl rfl (bchWhole_ok (sumsL la) u13 _ (Ps.no f14) (by have := sumsL_length la; first | omega | (simp; done) | (simp; omega)))) ?_
 rintro _ w16 ⟨rfl, o17⟩
 replace h1 := h1.step0 o17
 replace f14 := f14.step0 o17
 replace oW := oW.tail0 o17
 refine wD (tN ?_)
 refine cond_b rfl (fun c1 => ?_) (fun c1 => ?_)
 ·
  refine wQ (pL ?_)
  refine wI (d_move rfl) ?_
  refine wO (d_sliceS (xs := la) (ys := (la.drop 4)) (l := 4) (h := la.length) Try.underlying22 s_ti5 rfl h1 (Bd.some (l := 4) (k := .i64) rfl) Bd.none oo oo (by simp)) ?_
  rintro u18 _ ⟨f19, rfl⟩
  refine wO (d_append Try.underlying22 Try.underlying22 s_ti5 rfl rfl rfl (Ow.nil 5 1 _) (SrcV.of_seq f19 (fun _ => rfl)) (by simp only [List.length_drop]; omega) (by simp only [List.length_drop]; omega) rfl) ?_
  rintro u20 w21 ⟨bo22, a23, o24, q25⟩
  replace h1 := h1.qnone
  replace f14 := f14.qnone
  replace f19 := f19.qnone
  have q_oW_row26 : Fr none none W.heap.size := Fr.none
  replace a23 : Ow 5 1 bo22 u20 (la.drop 4).length ((la.drop 4).map eB) w21 := by simpa using a23
  replace h1 := h1.gr o24 (fun k e => (.inl e)) (xx_re (Fr.of_or q25) xx_id)
  replace f14 := f14.gr o24 (fun k e => (.inl e)) (xx_re (Fr.of_or q25) xx_id)
  replace f19 := f19.gr o24 (fun k e => (.inl e)) (xx_re (Fr.of_or q25) xx_id)
  have tq := oW.size
  replace oW := oW.tailr o24 q_oW_row26 (fun _ e => by cases e)
  replace q_oW_row26 := qtr (Fr.of_or q25) q_oW_row26 tq
  clear tq
  refine wF ([u1, (zf15 1), (zf15 2), (zf15 3), (zf15 4), u13, undef] ++ (zs zf15 7 10 ++ [u13, (Value.bool (whole (sumsL la))), u1, u18, u20] ++ (zs zf15 22 29))) ?_
  refine wI (d_assign rfl) ?_
  refine wI (d_assign rfl) ?_
  refine wI (d_assign rfl) ?_
  refine wD (tN ?_)
  refine wpIn_ret ?_
  refine then_r ?_
  refine leave0 (v := (Value.tuple #[u20, (eN 0), vT])) (res3 Try.results45 rfl rfl rfl) ?_
  exact RDec.of (by have h_ := dec_some c0 (near_nil c1); exact h_) (Ow.seq a23 (old_q q_oW_row26)) oW
 refine wK (tN (wQ (wQ (pL ?_))))
 refine wI (d_assign rfl) ?_
 refine wD (tN (wB ?_))
 refine loop2 (fun (n : (Nat)) => fun (z : Nat → Value) => (([u1, (zf15 1), (z 2), (z 3), (z 4), u13, (eN n)] ++ (zs z 7 5 ++ (zs zf15 12 5 ++ [u13, (Value.bool (whole (sumsL la))), (zf15 19), (zf15 20), (zf15 21)] ++ (zs z 22 29)))) : List Value)) (fun (n : (Nat)) => fun (w_ : World) => (1 ≤ n ∧ n ≤ 4) ∧ (∀ L, Near la L → n ≤ L.length) ∧ Only No w16 w_) (fun (n : (Nat)) => 4 - n) 1 kr ?_ ?_
 ·
  refine ⟨?_, ?_, ?_⟩
  ·
   (try dsimp only)
   all_goals (omega)
  ·
   exact fun L hN => near_pos (by simp [c1]) hN
  ·
   exact Only.refl _ _
 rintro n z w28 ⟨hn, hno, o27⟩
 (try dsimp only)
 replace h1 := h1.step o27 no_any
 replace f14 := f14.step o27 no_any
 replace oW := oW.tail o27 tl_no
 refine wQ (wQ (pL ?_))
 refine wI (d_move rfl) ?_
 refine wI (n_leq (a := n) (b := 3) rfl rfl rfl) ?_
 refine wD (tN ?_)
 refine cond_if rfl (fun c2 => ?_) (fun c2 => ?_)
 ·
  refine wK (tN (wQ (wB (wQ (pL ?_)))))
  refine wI (d_move rfl) ?_
  refine wI (d_move rfl) ?_
  refine wO (d_call (xl := [.tmp 27, .tmp 28]) (al := [u13, (eN n)]) Try.func73 kr rfl rfl rfl (bchLoc_ok (sumsL la) n u13 _ (Ps.no f14) (by have := sumsL_length la; first | omega | (simp; done) | (simp; omega)))) ?_
  rintro _ w29 ⟨u31, rfl, f32, o30⟩
  replace f32 := f32.less (Y := (Old W.heap.size)) (old_old oW.size)
  replace h1 := h1.step0 o30
  replace f14 := f14.step0 o30
  replace oW := oW.tail0 o30
  replace o27 := o27.tail0 o30
  refine wF ([u1, (zf15 1), (z 2), (z 3), (z 4), u13, (eN n)] ++ (zs z 7 5 ++ (zs zf15 12 5 ++ [u13, (Value.bool (whole (sumsL la))), (zf15 19), (zf15 20), (zf15 21), (eN n), (Value.bool (decide (n ≤ 3))), (z 24), (z 25), (z 26), u13, (eN n), (Value.tuple #[u31, (Value.bool ((locL (sumsL la) n).2))])] ++ (zs z 30 21)))) ?_
  refine wI (d_move rfl) ?_
  refine wI (d_extract (v := u31) rfl rfl) ?_
  refine wI (d_extract (v := (Value.bool ((locL (sumsL la) n).2))) rfl rfl) ?_
  refine wI (d_assign rfl) ?_
  refine wI (d_assign rfl) ?_
  refine wF ([u1, (zf15 1), (z 2), (z 3), (z 4), u13, (eN n), u31, (Value.bool ((locL (sumsL la) n).2)), (z 9), (z 10), (z 11)] ++ (zs zf15 12 5 ++ [u13, (Value.bool (whole (sumsL la))), (zf15 19), (zf15 20), (zf15 21), (eN n), (Value.bool (decide (n ≤ 3))), (z 24), (z 25), (Value.tuple #[u31, (Value.bool ((locL (sumsL la) n).2))]), u13, (eN n), (Value.tuple #[u31, (Value.bool ((locL (sumsL la) n).2))]), u31, (Value.bool ((locL (sumsL la) n).2))] ++ (zs z 32 19))) ?_
  refine wD (tN ?_)
  refine forget (fun zf35 => ([u1, (zf15 1), (zf35 2), (zf35 3), (zf35 4), u13, (eN n), u31, (Value.bool ((locL (sumsL la) n).2)), (zf35 9), (zf35 10), (zf35 11)] ++ (zs zf15 12 5 ++ [u13, (Value.bool (whole (sumsL la))), (zf15 19), (zf15 20), (zf15 21)] ++ (zs zf35 22 29)))) kr (fun zf35 => ?_)
  refine wQ (wQ (pL ?_))
  refine wI (d_move rfl) ?_
  refine wI (d_not rfl rfl) ?_
  refine wD (tN ?_)
  refine cond_b rfl (fun c3 => ?_) (fun c3 => ?_)
  ·
   refine wpIn_exit ?_
   refine then_x (inb_e ?_)
   refine tN (pL ?_)
   refine wI (d_move rfl) ?_
   refine wI (n_add (a := n) (b := 1) rfl rfl oo) ?_
   refine wI (d_assign rfl) ?_
   refine wF ([u1, (zf15 1), (zf35 2), (zf35 3), (zf35 4), u13, (eN (n + 1)), u31, (Value.bool ((locL (sumsL la) n).2)), (zf35 9), (zf35 10), (zf35 11)] ++ (zs zf15 12 5 ++ [u13, (Value.bool (whole (sumsL la))), (zf15 19), (zf15 20), (zf15 21), (zf35 22), (zf35 23), (eN n), (eN (n + 1))] ++ (zs zf35 26 6 ++ [(Value.bool ((locL (sumsL la) n).2)), (Value.bool (!((locL (sumsL la) n).2)))] ++ (zs zf35 34 17)))) ?_
   refine wD (tN ?_)
   refine ⟨_, (n + 1), rfl, rfl, ⟨?_, ?_, ?_⟩, ?_⟩
   ·
    (try dsimp only)
    all_goals (omega)
   ·
    exact near_next c0 hn.1 hno (fun h_ => absurd h_.1 (by simpa using c3))
   ·
    exact o27
   ·
    (try dsimp only)
    all_goals (omega)
  refine wK (tN (wQ (pL ?_)))
  refine wI (d_move rfl) ?_
  refine wO (d_call (xl := [.tmp 34]) (al := [u31]) Try.func74 kr rfl rfl rfl (bchWrong_ok ((locL (sumsL la) n).1) u31 _ (Ps.no f32) (by have := sumsL_length la; have := loc_len (sumsL la) n; first | omega | (simp; done) | (simp; omega)))) ?_
  rintro u38 w36 f39
  replace f39 := f39.ps
  obtain ⟨f39, o37⟩ := f39
  replace f39 := f39.less (Y := (Old W.heap.size)) (old_old oW.size)
  replace h1 := h1.step0 o37
  replace f14 := f14.step0 o37
  replace f32 := f32.step0 o37
  replace oW := oW.tail0 o37
  replace o27 := o27.tail0 o37
  refine wI (d_assign rfl) ?_
  refine wF ([u1, (zf15 1), (zf35 2), (zf35 3), (zf35 4), u13, (eN n), u31, (Value.bool ((locL (sumsL la) n).2)), u38, (zf35 10), (zf35 11)] ++ (zs zf15 12 5 ++ [u13, (Value.bool (whole (sumsL la))), (zf15 19), (zf15 20), (zf15 21)] ++ (zs zf35 22 10 ++ [(Value.bool ((locL (sumsL la) n).2)), (Value.bool (!((locL (sumsL la) n).2))), u31, u38] ++ (zs zf35 36 15)))) ?_
  refine wD (tN (wQ (pL ?_)))
  refine wI (d_move rfl) ?_
  refine wI (d_lenS rfl Try.underlying23 rfl f39) ?_
  refine wI (d_move rfl) ?_
  refine wI (n_eql (a := ((wrongL ((locL (sumsL la) n).1)).length)) (b := n) rfl rfl rfl) ?_
  refine wD (tN ?_)
  refine forget (fun zf40 => ([u1, (zf15 1), (zf40 2), (zf40 3), (zf40 4), u13, (eN n), (zf40 7), (zf40 8), u38, (zf40 10), (zf40 11)] ++ (zs zf15 12 5 ++ [u13, (Value.bool (whole (sumsL la))), (zf15 19), (zf15 20), (zf15 21)] ++ (zs zf40 22 17 ++ [(Value.bool (decide (((wrongL ((locL (sumsL la) n).1)).length) = n)))] ++ (zs zf40 40 11))))) kr (fun zf40 => ?_)
  refine cond_if rfl (fun c4 => ?_) (fun c4 => ?_)
  ·
   refine wQ (pL ?_)
   refine wI (d_move rfl) ?_
   refine wI (d_move rfl) ?_
   refine wO (d_call (xl := [.tmp 41, .tmp 42]) (al := [u1, u38]) Try.func75 kr rfl rfl rfl (bchMended_ok la (wrongL ((locL (sumsL la) n).1)) u1 u38 _ (Ps.no h1) (Ps.no f39) fo (wrongL_lt _) (by have := sumsL_length la; have := wrongL_len ((locL (sumsL la) n).1); have := loc_len (sumsL la) n; first | omega | (simp; done) | (simp; omega)))) ?_
   rintro _ w41 ⟨u43, rfl, f44, o42⟩
   replace f44 := f44.less (Y := (Old W.heap.size)) (old_old oW.size)
   replace h1 := h1.step0 o42
   replace f14 := f14.step0 o42
   replace f32 := f32.step0 o42
   replace f39 := f39.step0 o42
   replace oW := oW.tail0 o42
   replace o27 := o27.tail0 o42
   refine wI (d_move rfl) ?_
   refine wI (d_extract (v := u43) rfl rfl) ?_
   refine wF ([u1, (zf15 1), (zf40 2), (zf40 3), (zf40 4), u13, (eN n), (zf40 7), (zf40 8), u38, (zf40 10), (zf40 11)] ++ (zs zf15 12 5 ++ [u13, (Value.bool (whole (sumsL la))), (zf15 19), (zf15 20), (zf15 21)] ++ (zs zf40 22 17 ++ [(Value.bool (decide (((wrongL ((locL (sumsL la) n).1)).length) = n))), (Value.tuple #[u43, (Value.bool (whole (sumsL (flipL la (wrongL ((locL (sumsL la) n).1))))))]), u1, u38, (Value.tuple #[u43, (Value.bool (whole (sumsL (flipL la (wrongL ((locL (sumsL la) n).1))))))]), u43] ++ (zs zf40 45 6)))) ?_
   refine wI (d_extract (v := (Value.bool (whole (sumsL (flipL la (wrongL ((locL (sumsL la) n).1))))))) rfl rfl) ?_
   refine wI (d_assign rfl) ?_
   refine wI (d_assign rfl) ?_
   refine wF ([u1, (zf15 1), (zf40 2), (zf40 3), (zf40 4), u13, (eN n), (zf40 7), (zf40 8), u38, u43, (Value.bool (whole (sumsL (flipL la (wrongL ((locL (sumsL la) n).1))))))] ++ (zs zf15 12 5 ++ [u13, (Value.bool (whole (sumsL la))), (zf15 19), (zf15 20), (zf15 21)] ++ (zs zf40 22 17 ++ [(Value.bool (decide (((wrongL ((locL (sumsL la) n).1)).length) = n))), (Value.tuple #[u43, (Value.bool (whole (sumsL (flipL la (wrongL ((locL (sumsL la) n).1))))))]), u1, u38, (Value.tuple #[u43, (Value.bool (whole (sumsL (flipL la (wrongL ((locL (sumsL la) n).1))))))]), u43, (Value.bool (whole (sumsL (flipL la (wrongL ((locL (sumsL la) n).1))))))] ++ (zs zf40 46 5)))) ?_
   refine wD ?_
   have hfl_ := flipL_length la (wrongL (locL (sumsL la) n).1)
   refine tN ?_
   refine forget (fun zf47 => ([u1, (zf15 1), (zf47 2), (zf47 3), (zf47 4), u13, (eN n), (zf47 7), (zf47 8), (zf47 9), u43, (Value.bool (whole (sumsL (flipL la (wrongL ((locL (sumsL la) n).1))))))] ++ (zs zf15 12 5 ++ [u13, (Value.bool (whole (sumsL la))), (zf15 19), (zf15 20), (zf15 21)] ++ (zs zf47 22 29)))) kr (fun zf47 => ?_)
   refine wQ (pL ?_)
   refine wI (d_move rfl) ?_
   refine wD (tN ?_)
   refine cond_b rfl (fun c5 => ?_) (fun c5 => ?_)
   ·
    refine wQ (pL ?_)
    refine wI (d_move rfl) ?_
    refine wO (d_sliceS (xs := (flipL la (wrongL ((locL (sumsL la) n).1)))) (ys := ((flipL la (wrongL ((locL (sumsL la) n).1))).drop 4)) (l := 4) (h := ((flipL la (wrongL ((locL (sumsL la) n).1))).length)) Try.underlying22 s_ti5 rfl f44 (Bd.some (l := 4) (k := .i64) rfl) Bd.none oo oo (by simp)) ?_
    rintro u48 _ ⟨f49, rfl⟩
    refine wO (d_append Try.underlying22 Try.underlying22 s_ti5 rfl rfl rfl (Ow.nil 5 1 _) (SrcV.of_seq f49 (fun _ => rfl)) (by simp only [List.length_drop, flipL_length]; omega) (by simp only [List.length_drop, flipL_length]; omega) rfl) ?_
    rintro u50 w51 ⟨bo52, a53, o54, q55⟩
    replace h1 := h1.qnone
    replace f14 := f14.qnone
    replace f32 := f32.qnone
    replace f39 := f39.qnone
    replace f44 := f44.qnone
    replace f49 := f49.qnone
    have q_oW_row56 : Fr none none W.heap.size := Fr.none
    have q_o27_row56 : Fr none none w16.heap.size := Fr.none
    replace a53 : Ow 5 1 bo52 u50 ((flipL la (wrongL ((locL (sumsL la) n).1))).drop 4).length (((flipL la (wrongL ((locL (sumsL la) n).1))).drop 4).map eB) w51 := by simpa using a53
    replace h1 := h1.gr o54 (fun k e => (.inl e)) (xx_re (Fr.of_or q55) xx_id)
    replace f14 := f14.gr o54 (fun k e => (.inl e)) (xx_re (Fr.of_or q55) xx_id)
    replace f32 := f32.gr o54 (fun k e => (.inl e)) (xx_re (Fr.of_or q55) xx_id)
    replace f39 := f39.gr o54 (fun k e => (.inl e)) (xx_re (Fr.of_or q55) xx_id)
    replace f44 := f44.gr o54 (fun k e => (.inl e)) (xx_re (Fr.of_or q55) xx_id)
    replace f49 := f49.gr o54 (fun k e => (.inl e)) (xx_re (Fr.of_or q55) xx_id)
    have tq := oW.size
    replace oW := oW.tailr o54 q_oW_row56 (fun _ e => by cases e)
    replace q_oW_row56 := qtr (Fr.of_or q55) q_oW_row56 tq
    clear tq
    have tq := o27.size
    replace o27 := o27.tailr o54 q_o27_row56 (fun _ e => by cases e)
    replace q_o27_row56 := qtr (Fr.of_or q55) q_o27_row56 tq
    clear tq
    refine wI (d_move rfl) ?_
    refine wF ([u1, (zf15 1), (zf47 2), (zf47 3), (zf47 4), u13, (eN n), (zf47 7), (zf47 8), (zf47 9), u43, (Value.bool (whole (sumsL (flipL la (wrongL ((locL (sumsL la) n).1))))))] ++ (zs zf15 12 5 ++ [u13, (Value.bool (whole (sumsL la))), (zf15 19), (zf15 20), (zf15 21)] ++ (zs zf47 22 24 ++ [(Value.bool (whole (sumsL (flipL la (wrongL ((locL (sumsL la) n).1)))))), u43, u48, u50, (eN n)]))) ?_
    refine wI (d_assign rfl) ?_
    refine wI (d_assign rfl) ?_
    refine wI (d_assign rfl) ?_
    refine wD (tN ?_)
    refine wpIn_ret ?_
    refine inb_r (then_r (then_r (inb_r (then_r ?_))))
    refine leave0 (v := (Value.tuple #[u50, (eN n), vT])) (res3 Try.results45 rfl rfl rfl) ?_
    exact RDec.of (by have h_ := dec_some c0 (try_some c0 rfl oo c5); rw [c4] at h_; exact h_) (Ow.seq a53 (old_q q_oW_row56)) oW
   refine wK ?_
   refine inb_n (tN ?_)
   refine pL ?_
   refine wI (d_move rfl) ?_
   refine wI (n_add (a := n) (b := 1) rfl rfl oo) ?_
   refine wI (d_assign rfl) ?_
   refine wD (tN ?_)
   refine ⟨_, (n + 1), rfl, kr, ⟨?_, ?_, ?_⟩, ?_⟩
   ·
    (try dsimp only)
    all_goals (omega)
   ·
    exact near_next c0 hn.1 hno (fun h_ => absurd h_.2.2 (by simp [c5]))
   ·
    exact o27
   ·
    (try dsimp only)
    all_goals (omega)
  refine wK ?_
  refine inb_n (tN ?_)
  refine pL ?_
  refine wI (d_move rfl) ?_
  refine wI (n_add (a := n) (b := 1) rfl rfl oo) ?_
  refine wI (d_assign rfl) ?_
  refine wD (tN ?_)
  refine ⟨_, (n + 1), rfl, kr, ⟨?_, ?_, ?_⟩, ?_⟩
  ·
   (try dsimp only)
   all_goals (omega)
  ·
   exact near_next c0 hn.1 hno (fun h_ => c4 h_.2.1)
  ·
   exact o27
  ·
   (try dsimp only)
   all_goals (omega)
 refine wpIn_exit ?_
 refine then_x (then_x (inb_e ?_))
 refine tN (wQ (pL ?_))
 refine wI (d_assign rfl) ?_
 refine wI (d_assign rfl) ?_
 refine wI (d_assign rfl) ?_
 refine wF ([u1, (zf15 1), (Value.slice none 0 0), (eN 0), vF, u13, (eN n)] ++ (zs z 7 5 ++ (zs zf15 12 5 ++ [u13, (Value.bool (whole (sumsL la))), (zf15 19), (zf15 20), (zf15 21), (eN n), (Value.bool (decide (n ≤ 3)))] ++ (zs z 24 27)))) ?_
 refine wD (tN ?_)
 refine wpIn_ret ?_
 refine leave0 (v := (Value.tuple #[(Value.slice none 0 0), (eN 0), vF])) (res3 Try.results45 rfl rfl rfl) ?_
 exact RDec.of (by have h_ := dec_none c0 (near_end oo hno); exact h_) seq_nil oW
end Go.Proofs.YtgalehapmdabeaaF
namespace Ram
open Go.Proofs.YtgalehapmdabeaaF (shlB shrB)
def dAt (b : List UInt8) (i : Nat) : UInt8 := if b.length = 0 then 0 else b.getD (i % b.length) 0 + UInt8.ofNat (i / b.length)
def dataL (b : List UInt8) (n : Nat) : List UInt8 := tab n (dAt b)
def dataTo (b : List UInt8) (n i : Nat) : List UInt8 := tab n (fun k => if k < i then dAt b k else 0)
theorem dataL_length (b : List UInt8) (n : Nat) : (dataL b n).length = n := tab_length
theorem dataTo_length (b : List UInt8) (n i : Nat) : (dataTo b n i).length = n := tab_length
theorem dataTo_zero (b : List UInt8) (n : Nat) : List.replicate n 0 = dataTo b n 0 := by unfold dataTo; rw [tab_rep]; exact tab_ext fun k _ => by rw [if_neg (by omega)]
theorem dataTo_step {b : List UInt8} (n : Nat) {i : Nat} (hb : 0 < b.length) : (dataTo b n i).set i (b.getD (i % b.length) 0 + UInt8.ofNat (i / b.length)) = dataTo b n (i + 1) := by
 unfold dataTo
 refine set_tab ?_ fun k _ hk => ?_
 ·rw [if_pos (by omega)]; unfold dAt; rw [if_neg (by omega)]
 ·by_cases h : k < i
  ·rw [if_pos h, if_pos (by omega)]
  ·rw [if_neg h, if_neg (by omega)]
theorem dataTo_done {b : List UInt8} {n i : Nat} (h : n ≤ i ∨ b.length = 0) : dataTo b n i = dataL b n := tab_ext fun k hk => by
 rcases h with h | h
 ·rw [if_pos (by omega)]
 ·have : dAt b k = 0 := by unfold dAt; rw [if_pos h]
  rw [this]; split <;> rfl
def plStep (n most : Nat) (out : List Nat) (x : Int) : List Nat := if out.length < most then (if (x % (n : Int)).toNat ∈ out then out else out ++ [(x % (n : Int)).toNat]) else out
def plTo (l : List Int) (n most i : Nat) : List Nat := (l.take i).foldl (plStep n most) []
def placesL (l : List Int) (n most : Nat) : List Nat := plTo l n most l.length
theorem plTo_next {l : List Int} {n most i : Nat} (h : i < l.length) : plTo l n most (i + 1) = plStep n most (plTo l n most i) (l.getD i 0) := by
 unfold plTo; rw [take_next (d := 0) h, List.foldl_append]; rfl
theorem plTo_in {l : List Int} {n most i : Nat} (h : i < l.length) (hm : (plTo l n most i).length < most) (hk : (l.getD i 0 % (n : Int)).toNat ∈ plTo l n most i) : plTo l n most i = plTo l n most (i + 1) := by
 rw [plTo_next h]; unfold plStep; rw [if_pos hm, if_pos hk]
theorem plTo_new {l : List Int} {n most i : Nat} (h : i < l.length) (hm : (plTo l n most i).length < most) (hk : ¬ (l.getD i 0 % (n : Int)).toNat ∈ plTo l n most i) : plTo l n most i ++ [(l.getD i 0 % (n : Int)).toNat] = plTo l n most (i + 1) := by
 rw [plTo_next h]; unfold plStep; rw [if_pos hm, if_neg hk]
theorem foldl_full {n most : Nat} : ∀ (m : List Int) (out : List Nat), most ≤ out.length → m.foldl (plStep n most) out = out
 | [], _, _ => rfl
 | x :: m, out, h => by
  have : plStep n most out x = out := by unfold plStep; rw [if_neg (by omega)]
  rw [List.foldl_cons, this]; exact foldl_full m out h
theorem plTo_stop {l : List Int} {n most i : Nat} (hi : i ≤ l.length) (h : l.length ≤ i ∨ most ≤ (plTo l n most i).length) : plTo l n most i = placesL l n most := by
 rcases h with h | h
 ·rw [show i = l.length by omega]; rfl
 ·unfold placesL
  have : plTo l n most l.length = (l.drop i).foldl (plStep n most) (plTo l n most i) := by
   unfold plTo
   rw [List.take_length, ← List.foldl_append, List.take_append_drop]
  rw [this, foldl_full _ _ h]
theorem plStep_ok {n most : Nat} (hn : 0 < n) {out : List Nat} (x : Int) (h1 : out.Nodup) (h2 : ∀ k ∈ out, k < n) (h3 : out.length ≤ most) : (plStep n most out x).Nodup ∧ (∀ k ∈ plStep n most out x, k < n) ∧ (plStep n most out x).length ≤ most := by
 unfold plStep
 split
 ·next hm =>
  split
  ·exact ⟨h1, h2, h3⟩
  ·next hk =>
   refine ⟨?_, fun k hk2 => ?_, by rw [List.length_append, List.length_singleton]; omega⟩
   ·rw [List.nodup_append]
    exact ⟨h1, by simp, fun a ha b hb => by
     rw [List.mem_singleton] at hb
     subst hb
     exact fun e => hk (e ▸ ha)⟩
   ·rcases List.mem_append.1 hk2 with h | h
    ·exact h2 k h
    ·rw [List.mem_singleton] at h
     subst h
     have := Int.emod_lt_of_pos x (show (0 : Int) < (n : Int) by omega)
     have := Int.emod_nonneg x (show (n : Int) ≠ 0 by omega)
     omega
 ·exact ⟨h1, h2, h3⟩
theorem foldl_ok {n most : Nat} (hn : 0 < n) : ∀ (m : List Int) (out : List Nat), out.Nodup → (∀ k ∈ out, k < n) → out.length ≤ most → (m.foldl (plStep n most) out).Nodup ∧ (∀ k ∈ m.foldl (plStep n most) out, k < n) ∧ (m.foldl (plStep n most) out).length ≤ most
 | [], _, h1, h2, h3 => ⟨h1, h2, h3⟩
 | x :: m, out, h1, h2, h3 => by
  obtain ⟨a, b, c⟩ := plStep_ok hn x h1 h2 h3
  exact foldl_ok hn m _ a b c
theorem plTo_ok (l : List Int) {n : Nat} (most : Nat) (hn : 0 < n) (i : Nat) : (plTo l n most i).Nodup ∧ (∀ k ∈ plTo l n most i, k < n) ∧ (plTo l n most i).length ≤ most :=
 foldl_ok hn _ [] List.nodup_nil (fun _ h => (by cases h)) (Nat.zero_le _)
theorem places_le (l : List Int) (n most : Nat) : (placesL l n most).length ≤ most := by
 have key : ∀ (m : List Int) (out : List Nat), out.length ≤ most → (m.foldl (plStep n most) out).length ≤ most := by
  intro m
  induction m with
  | nil => intro out h; exact h
  | cons x m ih =>
   intro out h
   refine ih _ ?_
   unfold plStep
   split
   ·split
    ·exact h
    ·rw [List.length_append, List.length_singleton]; omega
   ·exact h
 exact key _ [] (Nat.zero_le _)
theorem places_nodup (l : List Int) {n : Nat} (most : Nat) (hn : 0 < n) : (placesL l n most).Nodup := (plTo_ok l most hn _).1
theorem places_in (l : List Int) {n : Nat} (most : Nat) (hn : 0 < n) : ∀ k ∈ placesL l n most, k < n := (plTo_ok l most hn _).2.1
theorem mem_take_next {out : List Nat} {j k : Nat} (h : j < out.length) : (k ∈ out.take (j + 1)) ↔ (k ∈ out.take j ∨ out.getD j 0 = k) := by
 rw [take_next (d := 0) h, List.mem_append, List.mem_singleton]
 exact ⟨fun h => h.imp id Eq.symm, fun h => h.imp id Eq.symm⟩
def btN (l : List UInt8) (k : Nat) : Nat := (shrB (l.getD (k / 8) 0) (k % 8)).toNat &&& 1
def apTo (a b : List UInt8) (n : Nat) : List Nat := (List.range n).filter (fun k => bt a k != bt b k)
def apR (a b : List UInt8) : List Nat := if a.length = b.length then apL a b else []
theorem encR_len (d : List UInt8) : (encR d).length ≤ 28 := by
 unfold encR; split
 ·rw [encW_length]; exact Nat.le_refl _
 ·exact Nat.zero_le _
end Ram
set_option maxRecDepth 20000
set_option maxHeartbeats 4000000
namespace Go.Proofs.YtgalehapmdabeaaF
open Go Shelf YtgalehapmdabeaaS Ram
theorem l4within_ok (a : Int) (m : Nat) (W : World) (hm : 0 < m) (hm2 : m ≤ 1000000) :
    CW Try.prog 43 #[(eI a), (eN m)] W (Rt (RIs (eN (a % (m : Int)).toNat) W)) := by
 have oW : Only No W W := Only.refl _ _
 refine enter (al := [(eI a), (eN m)]) (k := 13) (l := ([(eI a), (eN m)] ++ (us 13))) Try.func43 rfl Try.ntmps43 rfl rfl ?_
 refine wQ (pL ?_)
 refine wI (d_assign rfl) ?_
 refine wD (tN (wQ (pL ?_)))
 refine wI (d_move rfl) ?_
 refine wI (d_move rfl) ?_
 refine wI (d_rem (k := .i64) (m := a) (n := (m : Int)) rfl rfl oo (r := Int.tmod a (m : Int)) rfl) ?_
 refine wI (d_assign rfl) ?_
 refine wF ([(eI a), (eN m), undef, undef, (eN 0), (eI (Int.tmod a (m : Int))), (eI a), (eN m), (eI (Int.tmod a (m : Int)))] ++ (us 6)) ?_
 refine wD (tN (wQ (wQ (pL ?_))))
 refine wI (d_move rfl) ?_
 refine wI (d_lss (k := .i64) (m := Int.tmod a (m : Int)) (n := 0) rfl rfl rfl) ?_
 refine wD (tN ?_)
 refine cond_if rfl (fun k1 => ?_) (fun k1 => ?_)
 ·
  refine pL ?_
  refine wI (d_move rfl) ?_
  refine wI (d_move rfl) ?_
  refine wI (d_add (k := .i64) (m := Int.tmod a (m : Int)) (n := (m : Int)) rfl rfl (r := (((a % (m : Int)).toNat : Nat) : Int)) (tmm_neg hm hm2 k1)) ?_
  refine wF [(eI a), (eN m), undef, undef, (eN 0), (eI (Int.tmod a (m : Int))), (eI a), (eN m), (eI (Int.tmod a (m : Int))), (eI (Int.tmod a (m : Int))), (Value.bool (decide (Int.tmod a (m : Int) < 0))), (eI (Int.tmod a (m : Int))), (eN m), (eN ((a % (m : Int)).toNat)), undef] ?_
  refine wI (d_assign rfl) ?_
  refine wD (tN (wQ (pL ?_)))
  refine wI (d_move rfl) ?_
  refine wI (d_assign rfl) ?_
  refine wD (tN ?_)
  refine wpIn_ret ?_
  refine leave0 (v := (eN ((a % (m : Int)).toNat))) (res1 Try.results43 rfl) ?_
  exact ⟨rfl, oW⟩
 refine wp_eq (l' := [(eI a), (eN m), undef, undef, (eN 0), (eI (Int.tmod a (m : Int))), (eI a), (eN m), (eI (Int.tmod a (m : Int))), (eI (Int.tmod a (m : Int))), (Value.bool (decide (Int.tmod a (m : Int) < 0))), undef, undef, undef, undef]) rfl ?_
 refine wp_eq (l' := [(eI a), (eN m), undef, undef, (eN 0), (eN ((a % (m : Int)).toNat)), (eI a), (eN m), (eN ((a % (m : Int)).toNat)), (eN ((a % (m : Int)).toNat)), (Value.bool (decide (Int.tmod a (m : Int) < 0))), undef, undef, undef, undef]) (Eq.trans (Eq.trans (show ([(eI a), (eN m), undef, undef, (eN 0), (eI (Int.tmod a (m : Int))), (eI a), (eN m), (eI (Int.tmod a (m : Int))), (eI (Int.tmod a (m : Int))), (Value.bool (decide (Int.tmod a (m : Int) < 0))), undef, undef, undef, undef] : List Value) = [(eI a), (eN m), undef, undef, (eN 0), (eN ((a % (m : Int)).toNat)), (eI a), (eN m), (eI (Int.tmod a (m : Int))), (eI (Int.tmod a (m : Int))), (Value.bool (decide (Int.tmod a (m : Int) < 0))), undef, undef, undef, undef] from reslot [(eI a), (eN m), undef, undef, (eN 0), (eI (Int.tmod a (m : Int))), (eI a), (eN m), (eI (Int.tmod a (m : Int))), (eI (Int.tmod a (m : Int))), (Value.bool (decide (Int.tmod a (m : Int) < 0))), undef, undef, undef, undef] 5 (tmm_pos hm k1)) (show ([(eI a), (eN m), undef, undef, (eN 0), (eN ((a % (m : Int)).toNat)), (eI a), (eN m), (eI (Int.tmod a (m : Int))), (eI (Int.tmod a (m : Int))), (Value.bool (decide (Int.tmod a (m : Int) < 0))), undef, undef, undef, undef] : List Value) = [(eI a), (eN m), undef, undef, (eN 0), (eN ((a % (m : Int)).toNat)), (eI a), (eN m), (eN ((a % (m : Int)).toNat)), (eI (Int.tmod a (m : Int))), (Value.bool (decide (Int.tmod a (m : Int) < 0))), undef, undef, undef, undef] from reslot [(eI a), (eN m), undef, undef, (eN 0), (eN ((a % (m : Int)).toNat)), (eI a), (eN m), (eI (Int.tmod a (m : Int))), (eI (Int.tmod a (m : Int))), (Value.bool (decide (Int.tmod a (m : Int) < 0))), undef, undef, undef, undef] 8 (tmm_pos hm k1))) (show ([(eI a), (eN m), undef, undef, (eN 0), (eN ((a % (m : Int)).toNat)), (eI a), (eN m), (eN ((a % (m : Int)).toNat)), (eI (Int.tmod a (m : Int))), (Value.bool (decide (Int.tmod a (m : Int) < 0))), undef, undef, undef, undef] : List Value) = [(eI a), (eN m), undef, undef, (eN 0), (eN ((a % (m : Int)).toNat)), (eI a), (eN m), (eN ((a % (m : Int)).toNat)), (eN ((a % (m : Int)).toNat)), (Value.bool (decide (Int.tmod a (m : Int) < 0))), undef, undef, undef, undef] from reslot [(eI a), (eN m), undef, undef, (eN 0), (eN ((a % (m : Int)).toNat)), (eI a), (eN m), (eN ((a % (m : Int)).toNat)), (eI (Int.tmod a (m : Int))), (Value.bool (decide (Int.tmod a (m : Int) < 0))), undef, undef, undef, undef] 9 (tmm_pos hm k1))) ?_
 refine wK (tN (wQ (pL ?_)))
 refine wI (d_move rfl) ?_
 refine wI (d_assign rfl) ?_
 refine wD (tN ?_)
 refine wpIn_ret ?_
 refine leave0 (v := (eN ((a % (m : Int)).toNat))) (res1 Try.results43 rfl) ?_
 exact ⟨rfl, oW⟩
theorem l4Data_ok (la : List UInt8) (n : Nat) (u1 : Value) (W : World) (h1 : Ps No (Seq kB la u1) W) (g1 : n ≤ 1048576) :
    CW Try.prog 15 #[u1, (eN n)] W (Rt (ROw 5 eB (dataL la n) W)) := by
 have oW : Only No W W := Only.refl _ _
 refine enter (al := [u1, (eN n)]) (k := 34) (l := ([u1, (eN n)] ++ (us 34))) Try.func15 rfl Try.ntmps15 rfl rfl ?_
 refine wQ (pL ?_)
 refine wI (d_assign rfl) ?_
 refine wD (tN (wQ (pL ?_)))
 refine wI (d_move rfl) ?_
 refine wO (d_make1 (n := n) Try.underlying22 s_ti5 rfl rfl oo oo rfl) ?_
 rintro _ w11 ⟨o, rfl, g12, a13, o14⟩
 replace a13 : Arr 5 o ((List.replicate n 0).map eB) w11 := by rw [List.map_replicate]; exact a13
 have l_o : (List.replicate n 0 : List UInt8).length = n := by simp
 have g_oW_o : W.heap.size ≤ o := Nat.le_trans oW.size g12
 replace h1 := h1.new o14 g12
 replace oW := oW.tail0 o14
 refine wI (d_assign rfl) ?_
 refine wD (tN (wQ (wQ (pL ?_))))
 refine wI (d_assign rfl) ?_
 refine wF ([u1, (eN n), undef, undef, (Value.slice none 0 0), (sli o 0 n n), (eN 0), (eN n), (sli o 0 n n)] ++ (us 27)) ?_
 refine wD (tN (wB ?_))
 refine loop2 (fun (i : (Nat)) => fun (z : Nat → Value) => (([u1, (eN n), undef, undef, (Value.slice none 0 0), (sli o 0 n n), (eN i), (eN n), (sli o 0 n n)] ++ (zs z 9 26 ++ [undef])) : List Value)) (fun (i : (Nat)) => fun (w_ : World) => (i ≤ n) ∧ Only (Or1 o No) w11 w_ ∧ (dataTo la n i).length = n ∧ Arr 5 o ((dataTo la n i).map eB) w_) (fun (i : (Nat)) => n - i) 0 rfl ?_ ?_
 ·
  refine ⟨?_, ?_, ?_, ?_⟩
  ·
   exact Nat.zero_le _
  ·
   exact Only.refl _ _
  ·
   exact dataTo_length la n 0
  ·
   (try dsimp only)
   all_goals (rw [← dataTo_zero]; exact a13)
 rintro i z w16 ⟨hi, o15, l_o, a13⟩
 (try dsimp only)
 replace h1 := h1.step o15 (or1_mono no_any)
 replace oW := oW.tail o15 (tl_new g_oW_o tl_no)
 refine wQ (wQ ?_)
 by_cases c0 : i < n
 ·
  refine pL ?_
  refine wI (d_move rfl) ?_
  refine wI (d_move rfl) ?_
  refine wI (n_lss (a := i) (b := n) rfl rfl (decide_eq_true c0)) ?_
  refine wI (d_move rfl) ?_
  refine wG (d_move rfl) ?_
  refine wF ([u1, (eN n), undef, undef, (Value.slice none 0 0), (sli o 0 n n), (eN i), (eN n), (sli o 0 n n), (eN i), (eN n), vT, vT, u1] ++ (zs z 14 21 ++ [undef])) ?_
  refine wG (d_lenS rfl Try.underlying22 rfl h1) ?_
  refine wG (n_gtr (a := la.length) (b := 0) rfl rfl rfl) ?_
  refine wI (d_pick (b := true) (v := (Value.bool (decide (0 < la.length)))) rfl rfl) ?_
  refine wD (tN ?_)
  refine cond_if rfl (fun c1 => ?_) (fun c1 => ?_)
  ·
   refine wK (tN ?_)
   refine forget (fun zf17 => ([u1, (eN n), undef, undef, (Value.slice none 0 0), (sli o 0 n n), (eN i), (eN n), (sli o 0 n n)] ++ (zs zf17 9 10 ++ (zs z 19 16 ++ [undef])))) kr (fun zf17 => ?_)
   refine wQ (wB ?_)
   refine drawn_last (O := (Is1 o)) (m := 16) (R := fun w_ => Arr 5 o (((dataTo la n i).set i ((la.getD (i % la.length) 0) + (UInt8.ofNat (i / la.length)))).map eB) w_) [0, 0, 0, 0, 0, 16, 56, 124, 252, 0, 0, 1024, 3584, 7680, 16380, 32767, 65535] [(0, 19), (1, 20), (2, 21), (3, 22), (4, 23), (5, 24), (6, 25), (7, 26), (8, 27), (9, 28), (10, 29), (11, 30), (12, 31), (13, 32), (14, 33), (15, 34)] [(sli o 0 n n), (eN i), u1, (eN i), u1, (eN la.length), (eN (i % la.length)), (ixp u1 (i % la.length)), (eB (la.getD (i % la.length) 0)), (eN i), u1, (eN la.length), (eN (i / la.length)), (eB (UInt8.ofNat (i / la.length))), (eB ((la.getD (i % la.length) 0) + (UInt8.ofNat (i / la.length)))), (ptr o i)] ([u1, (eN n), undef, undef, (Value.slice none 0 0), (sli o 0 n n), (eN i), (eN n), (sli o 0 n n)] ++ (zs zf17 9 10 ++ [(sli o 0 n n), (eN i), u1, (eN i), u1, (eN la.length), (eN (i % la.length)), (ixp u1 (i % la.length)), (eB (la.getD (i % la.length) 0)), (eN i), u1, (eN la.length), (eN (i / la.length)), (eB (UInt8.ofNat (i / la.length))), (eB ((la.getD (i % la.length) 0) + (UInt8.ofNat (i / la.length)))), (ptr o i), undef])) s_mx kr kr rfl rfl (by decide) kr kr ?_ (fun _ _ h_ ho_ => h_.step0 ho_) ⟨_, rfl, rfl, fun w_ hO_ => gd rfl ((d_store (b := o) (i := i) (v := (eB ((la.getD (i % la.length) 0) + (UInt8.ofNat (i / la.length))))) s_ti5 rfl rfl rfl (a13.step0 hO_) (by rw [List.length_map, l_o]; omega) (m_put (dataTo la n i) i ((la.getD (i % la.length) 0) + (UInt8.ofNat (i / la.length))) eB)).mono fun u_ w2_ h_ => ⟨h_.2, h_.1⟩)⟩ ?_
   ·
    intro w_ hO_
    refine AllG.cons (gi rfl (d_move rfl)) ?_
    refine AllG.cons (gi rfl (d_move rfl)) ?_
    refine AllG.cons (gi rfl (d_move rfl)) ?_
    refine AllG.cons (gi rfl (d_move rfl)) ?_
    refine AllG.cons (gi rfl (d_move rfl)) ?_
    refine AllG.cons (gi rfl (d_lenS rfl Try.underlying22 rfl (h1.step0 hO_))) ?_
    refine AllG.cons (gi rfl (n_rem (a := i) (b := la.length) rfl rfl oo)) ?_
    refine AllG.cons (gi rfl (d_ix (i := (i % la.length)) (xs := la) Try.underlying22 s_ti5 rfl (h1.step0 hO_) (show _ = Value.int _ ((i % la.length : Nat) : Int) from rfl) (Nat.mod_lt _ oo))) ?_
    refine AllG.cons (gi rfl (d_ldx (i := (i % la.length)) (xs := la) (enc := eB) (v := (la.getD (i % la.length) 0)) ⟨_, Try.underlying5, rfl⟩ rfl (h1.step0 hO_) (g_at (Nat.mod_lt _ oo)))) ?_
    refine AllG.cons (gi rfl (d_move rfl)) ?_
    refine AllG.cons (gi rfl (d_move rfl)) ?_
    refine AllG.cons (gi rfl (d_lenS rfl Try.underlying22 rfl (h1.step0 hO_))) ?_
    refine AllG.cons (gi rfl (n_quo (a := i) (b := la.length) rfl rfl oo (by have h__ := Nat.div_le_self i la.length; omega))) ?_
    refine AllG.cons (gi rfl (b_ofN Try.underlying3 Try.underlying5 rfl)) ?_
    refine AllG.cons (gi rfl (b_add (c := (la.getD (i % la.length) 0)) (e := (UInt8.ofNat (i / la.length))) rfl rfl)) ?_
    refine AllG.cons (gi rfl (d_index1 (n := n) (i := i) Try.underlying22 s_ti5 rfl (show _ = Value.int _ (i : Int) from rfl) oo)) ?_
    exact AllG.nil
   intro w18 o19 a20
   replace h1 := h1.stepb o19 in1
   replace oW := oW.tailb o19 g_oW_o
   replace o15 := o15.tail o19 (fun k _ e => by have : k = o := e; rw [this]; exact in1)
   replace l_o : ((dataTo la n i).set i ((la.getD (i % la.length) 0) + (UInt8.ofNat (i / la.length))) : List UInt8).length = n := (List.length_set ..).trans l_o
   refine inb_n (tN ?_)
   refine pL ?_
   refine wI (d_move rfl) ?_
   refine wI (n_add (a := i) (b := 1) rfl rfl oo) ?_
   refine wI (d_assign rfl) ?_
   refine wD (tN ?_)
   refine ⟨_, (i + 1), rfl, kr, ⟨?_, ?_, ?_, ?_⟩, ?_⟩
   ·
    (try dsimp only)
    all_goals (omega)
   ·
    exact o15
   ·
    exact dataTo_length _ _ _
   ·
    (try dsimp only)
    all_goals (rw [dataTo_step n c1] at a20; exact a20)
   ·
    (try dsimp only)
    all_goals (omega)
  refine wpIn_exit ?_
  refine then_x (then_x (inb_e ?_))
  refine tN ?_
  refine forget (fun zf21 => (zs zf21 0 5 ++ [(sli o 0 n n), (eN i)] ++ (zs zf21 7 29))) kr (fun zf21 => ?_)
  refine wQ (pL ?_)
  refine wI (d_move rfl) ?_
  refine wI (d_assign rfl) ?_
  refine wD (tN ?_)
  refine wpIn_ret ?_
  refine leave0 (v := (sli o 0 n n)) (res1 Try.results15 rfl) ?_
  exact ROw.arr a13 l_o (dataTo_done oo) g_oW_o oW
 refine pL ?_
 refine wI (d_move rfl) ?_
 refine wI (d_move rfl) ?_
 refine wI (n_lss (a := i) (b := n) rfl rfl (decide_eq_false c0)) ?_
 refine wI (d_move rfl) ?_
 refine wX ?_
 refine wF ([u1, (eN n), undef, undef, (Value.slice none 0 0), (sli o 0 n n), (eN i), (eN n), (sli o 0 n n), (eN i), (eN n), vF, vF, undef] ++ (zs z 14 21 ++ [undef])) ?_
 refine wX ?_
 refine wX ?_
 refine wI (d_pick (b := false) (v := vF) rfl rfl) ?_
 refine wD (tN ?_)
 refine cond_f rfl ?_
 refine wpIn_exit ?_
 refine then_x (then_x (inb_e ?_))
 refine tN ?_
 refine forget (fun zf22 => (zs zf22 0 5 ++ [(sli o 0 n n), (eN i)] ++ (zs zf22 7 29))) kr (fun zf22 => ?_)
 refine wQ (pL ?_)
 refine wI (d_move rfl) ?_
 refine wI (d_assign rfl) ?_
 refine wD (tN ?_)
 refine wpIn_ret ?_
 refine leave0 (v := (sli o 0 n n)) (res1 Try.results15 rfl) ?_
 exact ROw.arr a13 l_o (dataTo_done oo) g_oW_o oW
theorem l4Places_ok (la : List Int) (n m : Nat) (u1 : Value) (W : World) (h1 : Ps No (Seq kI la u1) W) (gn : 0 < n) (gn2 : n ≤ 1000000) (gm : m ≤ 100000) (gl : la.length ≤ 140737488351232) :
    CW Try.prog 19 #[u1, (eN n), (eN m)] W (Rt (ROw 3 eN (placesL la n m) W)) := by
 have oW : Only No W W := Only.refl _ _
 refine enter (al := [u1, (eN n), (eN m)]) (k := 49) (l := ([u1, (eN n), (eN m)] ++ (us 49))) Try.func19 rfl Try.ntmps19 rfl rfl ?_
 refine wQ (pL ?_)
 refine wI (d_assign rfl) ?_
 refine wD (tN (wQ ?_))
 refine wp_eq (l' := ([u1, (eN n), (eN m), undef, undef, undef, (Value.slice none 0 0)] ++ (us 45))) rfl ?_
 refine pL ?_
 refine wI (d_assign rfl) ?_
 refine wF ([u1, (eN n), (eN m), undef, undef, undef, (Value.slice none 0 0), (Value.slice none 0 0)] ++ (us 44)) ?_
 refine wD ?_
 have a11 : Ow 3 1 none (Value.slice none 0 0) ([] : List (Nat)).length (([] : List (Nat)).map eN) W := Ow.nil _ _ _
 have q_oW_out : Fr none none W.heap.size := Fr.none
 replace h1 := h1.qnone
 refine tN (wQ (wQ (pL ?_)))
 refine wI (d_assign rfl) ?_
 refine wD (tN (wB ?_))
 have h_lts_out := a11.lts
 refine loop2 (fun (s_ : (Nat) × (Option Nat) × (Value)) => match s_ with | ⟨i, bo_out, u_out⟩ => fun (z : Nat → Value) => (([u1, (eN n), (eN m), undef, undef, undef, (Value.slice none 0 0), u_out, (eN i)] ++ (zs z 9 42 ++ [undef])) : List Value)) (fun (s_ : (Nat) × (Option Nat) × (Value)) => match s_ with | ⟨i, bo_out, u_out⟩ => fun (w_ : World) => (i ≤ la.length) ∧ Only (Orq none No) W w_ ∧ Ow 3 1 bo_out u_out (plTo la n m i).length ((plTo la n m i).map eN) w_ ∧ Fr bo_out none W.heap.size) (fun (s_ : (Nat) × (Option Nat) × (Value)) => match s_ with | ⟨i, bo_out, u_out⟩ => la.length - i) ⟨0, none, (Value.slice none 0 0)⟩ kr ?_ ?_
 ·
  refine ⟨?_, ?_, ?_, ?_⟩
  ·
   exact Nat.zero_le _
  ·
   exact Only.refl _ _
  ·
   exact a11
  ·
   exact Fr.same
 rintro ⟨i, bo_out, u_out⟩ z w13 ⟨hi, o12, a11, qq_out⟩
 (try dsimp only)
 replace h1 := h1.re o12 (orq_mono no_any) (xx_re qq_out xx_id)
 have tq_oW := oW.size
 replace oW := oW.tail o12 (tl_q q_oW_out (fun _ e => by cases e) tl_no)
 replace q_oW_out := qtr qq_out q_oW_out tq_oW
 have q_o12_out := qq_out
 refine wQ (wQ ?_)
 by_cases c0 : i < la.length
 ·
  refine pL ?_
  refine wI (d_move rfl) ?_
  refine wI (d_move rfl) ?_
  refine wI (d_lenS rfl Try.underlying23 rfl h1) ?_
  refine wI (n_lss (a := i) (b := la.length) rfl rfl (decide_eq_true c0)) ?_
  refine wI (d_move rfl) ?_
  refine wF ([u1, (eN n), (eN m), undef, undef, undef, (Value.slice none 0 0), u_out, (eN i), (z 9), (z 10), (z 11), (eN i), u1, (eN la.length), vT, vT] ++ (zs z 17 34 ++ [undef])) ?_
  refine wG (d_move rfl) ?_
  refine wG (d_lenS rfl Try.underlying23 rfl (a11.seq (X := No) (fun _ _ h => h))) ?_
  refine wG (d_move rfl) ?_
  refine wG (n_lss (a := ((plTo la n m i).length)) (b := m) rfl rfl rfl) ?_
  refine wI (d_pick (b := true) (v := (Value.bool (decide (((plTo la n m i).length) < m)))) rfl rfl) ?_
  refine wF ([u1, (eN n), (eN m), undef, undef, undef, (Value.slice none 0 0), u_out, (eN i), (z 9), (z 10), (z 11), (eN i), u1, (eN la.length), vT, vT, u_out, (eN ((plTo la n m i).length)), (eN m), (Value.bool (decide (((plTo la n m i).length) < m))), (Value.bool (decide (((plTo la n m i).length) < m)))] ++ (zs z 22 29 ++ [undef])) ?_
  refine wD (tN ?_)
  refine forget (fun zf14 => ([u1, (eN n), (eN m), undef, undef, undef, (Value.slice none 0 0), u_out, (eN i), (zf14 9), (z 10), (z 11)] ++ (zs zf14 12 9 ++ [(Value.bool (decide (((plTo la n m i).length) < m)))] ++ (zs zf14 22 29 ++ [undef])))) kr (fun zf14 => ?_)
  refine cond_if rfl (fun c1 => ?_) (fun c1 => ?_)
  ·
   refine wK (tN (wQ (wB (wQ (pL ?_)))))
   refine wI (d_move rfl) ?_
   refine wI (d_move rfl) ?_
   refine wI (d_ix (i := i) (xs := la) Try.underlying23 s_ti3 rfl h1 (show _ = Value.int _ (i : Int) from rfl) fo) ?_
   refine wI (d_ldx (i := i) (xs := la) (enc := eI) (v := (la.getD i 0)) ⟨_, Try.underlying3, rfl⟩ rfl h1 (g_at fo)) ?_
   refine wI (d_move rfl) ?_
   refine wF ([u1, (eN n), (eN m), undef, undef, undef, (Value.slice none 0 0), u_out, (eN i), (zf14 9), (z 10), (z 11)] ++ (zs zf14 12 9 ++ [(Value.bool (decide (((plTo la n m i).length) < m))), (zf14 22), (zf14 23), u1, (eN i), (ixp u1 i), (eI (la.getD i 0)), (eN n)] ++ (zs zf14 29 22 ++ [undef]))) ?_
   refine wO (d_call (xl := [.tmp 27, .tmp 28]) (al := [(eI (la.getD i 0)), (eN n)]) Try.func43 kr rfl rfl rfl (l4within_ok (la.getD i 0) n _ oo oo)) ?_
   rintro _ w15 ⟨rfl, o16⟩
   replace h1 := h1.step0 o16
   replace a11 := a11.step0 o16
   replace oW := oW.tail0 o16
   replace o12 := o12.tail0 o16
   refine wI (d_assign rfl) ?_
   refine wD (tN (wQ ?_))
   refine wp_eq (l' := ([u1, (eN n), (eN m), undef, undef, undef, (Value.slice none 0 0), u_out, (eN i), (eN (((la.getD i 0) % (n : Int)).toNat)), (z 10), (z 11)] ++ (zs zf14 12 9 ++ [(Value.bool (decide (((plTo la n m i).length) < m))), (zf14 22), (zf14 23), u1, (eN i), (ixp u1 i), (eI (la.getD i 0)), (eN n), (eN (((la.getD i 0) % (n : Int)).toNat))] ++ (zs zf14 30 21 ++ [undef])))) rfl ?_
   refine pL ?_
   refine wI (d_assign rfl) ?_
   refine wF ([u1, (eN n), (eN m), undef, undef, undef, (Value.slice none 0 0), u_out, (eN i), (eN (((la.getD i 0) % (n : Int)).toNat)), vF, (z 11)] ++ (zs zf14 12 9 ++ [(Value.bool (decide (((plTo la n m i).length) < m))), (zf14 22), (zf14 23), u1, (eN i), (ixp u1 i), (eI (la.getD i 0)), (eN n), (eN (((la.getD i 0) % (n : Int)).toNat))] ++ (zs zf14 30 21 ++ [undef]))) ?_
   refine wD ?_
   refine fr_eq (l' := ([u1, (eN n), (eN m), undef, undef, undef, (Value.slice none 0 0), u_out, (eN i), (eN (((la.getD i 0) % (n : Int)).toNat)), (Value.bool (decide (((la.getD i 0) % (n : Int)).toNat ∈ (plTo la n m i).take 0))), (z 11)] ++ (zs zf14 12 9 ++ [(Value.bool (decide (((plTo la n m i).length) < m))), (zf14 22), (zf14 23), u1, (eN i), (ixp u1 i), (eI (la.getD i 0)), (eN n), (eN (((la.getD i 0) % (n : Int)).toNat))] ++ (zs zf14 30 21 ++ [undef])))) (show (([u1, (eN n), (eN m), undef, undef, undef, (Value.slice none 0 0), u_out, (eN i), (eN (((la.getD i 0) % (n : Int)).toNat)), vF, (z 11)] ++ (zs zf14 12 9 ++ [(Value.bool (decide (((plTo la n m i).length) < m))), (zf14 22), (zf14 23), u1, (eN i), (ixp u1 i), (eI (la.getD i 0)), (eN n), (eN (((la.getD i 0) % (n : Int)).toNat))] ++ (zs zf14 30 21 ++ [undef]))) : List Value) = ([u1, (eN n), (eN m), undef, undef, undef, (Value.slice none 0 0), u_out, (eN i), (eN (((la.getD i 0) % (n : Int)).toNat)), (Value.bool (decide (((la.getD i 0) % (n : Int)).toNat ∈ (plTo la n m i).take 0))), (z 11)] ++ (zs zf14 12 9 ++ [(Value.bool (decide (((plTo la n m i).length) < m))), (zf14 22), (zf14 23), u1, (eN i), (ixp u1 i), (eI (la.getD i 0)), (eN n), (eN (((la.getD i 0) % (n : Int)).toNat))] ++ (zs zf14 30 21 ++ [undef]))) from reslot ([u1, (eN n), (eN m), undef, undef, undef, (Value.slice none 0 0), u_out, (eN i), (eN (((la.getD i 0) % (n : Int)).toNat)), vF, (z 11)] ++ (zs zf14 12 9 ++ [(Value.bool (decide (((plTo la n m i).length) < m))), (zf14 22), (zf14 23), u1, (eN i), (ixp u1 i), (eI (la.getD i 0)), (eN n), (eN (((la.getD i 0) % (n : Int)).toNat))] ++ (zs zf14 30 21 ++ [undef]))) 10 (congrArg Value.bool (decide_eq_false (by simp)).symm)) ?_
   refine tN (wQ (wQ (pL ?_)))
   refine wI (d_assign rfl) ?_
   refine wD (tN (wB ?_))
   refine loop2 (fun (j : (Nat)) => fun (z : Nat → Value) => (([u1, (eN n), (eN m), undef, undef, undef, (Value.slice none 0 0), u_out, (eN i), (eN (((la.getD i 0) % (n : Int)).toNat)), (Value.bool (decide (((la.getD i 0) % (n : Int)).toNat ∈ (plTo la n m i).take j))), (eN j)] ++ (zs zf14 12 9 ++ [(Value.bool (decide (((plTo la n m i).length) < m))), (zf14 22), (zf14 23), u1, (eN i), (ixp u1 i), (eI (la.getD i 0)), (eN n), (eN (((la.getD i 0) % (n : Int)).toNat))] ++ (zs z 30 15 ++ (zs zf14 45 6 ++ [undef])))) : List Value)) (fun (j : (Nat)) => fun (w_ : World) => (j ≤ (plTo la n m i).length) ∧ Only (Orq bo_out No) w15 w_ ∧ Ow 3 1 bo_out u_out (plTo la n m i).length ((plTo la n m i).map eN) w_) (fun (j : (Nat)) => (plTo la n m i).length - j) 0 kr ?_ ?_
   ·
    refine ⟨?_, ?_, ?_⟩
    ·
     exact Nat.zero_le _
    ·
     exact Only.refl _ _
    ·
     exact a11
   rintro j z w18 ⟨hj, o17, a11⟩
   (try dsimp only)
   replace h1 := h1.step o17 (orq_mono no_any)
   replace oW := oW.tail o17 (tl_q q_oW_out (fun _ e => by cases e) tl_no)
   replace o12 := o12.tail o17 (tl_q q_o12_out (fun k e => (.inl e)) tl_no)
   have q_o17_out : Fr bo_out bo_out w15.heap.size := Fr.same
   refine wQ (wQ (pL ?_))
   refine wI (d_move rfl) ?_
   refine wI (d_move rfl) ?_
   refine wI (d_lenS rfl Try.underlying23 rfl (a11.seq (X := No) (fun _ _ h => h))) ?_
   refine wI (n_lss (a := j) (b := ((plTo la n m i).length)) rfl rfl rfl) ?_
   refine wD (tN ?_)
   refine cond_if rfl (fun c2 => ?_) (fun c2 => ?_)
   ·
    refine wK (tN (wQ (wB ?_)))
    by_cases e0 : ((la.getD i 0) % (n : Int)).toNat ∈ (plTo la n m i).take j
    ·
     refine wp_eq (l' := ([u1, (eN n), (eN m), undef, undef, undef, (Value.slice none 0 0), u_out, (eN i), (eN (((la.getD i 0) % (n : Int)).toNat)), (Value.bool (decide (((la.getD i 0) % (n : Int)).toNat ∈ (plTo la n m i).take j))), (eN j)] ++ (zs zf14 12 9 ++ [(Value.bool (decide (((plTo la n m i).length) < m))), (zf14 22), (zf14 23), u1, (eN i), (ixp u1 i), (eI (la.getD i 0)), (eN n), (eN (((la.getD i 0) % (n : Int)).toNat)), (eN j), u_out, (eN ((plTo la n m i).length)), (Value.bool (decide (j < ((plTo la n m i).length))))] ++ (zs z 34 11 ++ (zs zf14 45 6 ++ [undef]))))) rfl ?_
     refine wp_eq (l' := ([u1, (eN n), (eN m), undef, undef, undef, (Value.slice none 0 0), u_out, (eN i), (eN (((la.getD i 0) % (n : Int)).toNat)), vT, (eN j)] ++ (zs zf14 12 9 ++ [(Value.bool (decide (((plTo la n m i).length) < m))), (zf14 22), (zf14 23), u1, (eN i), (ixp u1 i), (eI (la.getD i 0)), (eN n), (eN (((la.getD i 0) % (n : Int)).toNat)), (eN j), u_out, (eN ((plTo la n m i).length)), (Value.bool (decide (j < ((plTo la n m i).length))))] ++ (zs z 34 11 ++ (zs zf14 45 6 ++ [undef]))))) (show (([u1, (eN n), (eN m), undef, undef, undef, (Value.slice none 0 0), u_out, (eN i), (eN (((la.getD i 0) % (n : Int)).toNat)), (Value.bool (decide (((la.getD i 0) % (n : Int)).toNat ∈ (plTo la n m i).take j))), (eN j)] ++ (zs zf14 12 9 ++ [(Value.bool (decide (((plTo la n m i).length) < m))), (zf14 22), (zf14 23), u1, (eN i), (ixp u1 i), (eI (la.getD i 0)), (eN n), (eN (((la.getD i 0) % (n : Int)).toNat)), (eN j), u_out, (eN ((plTo la n m i).length)), (Value.bool (decide (j < ((plTo la n m i).length))))] ++ (zs z 34 11 ++ (zs zf14 45 6 ++ [undef])))) : List Value) = ([u1, (eN n), (eN m), undef, undef, undef, (Value.slice none 0 0), u_out, (eN i), (eN (((la.getD i 0) % (n : Int)).toNat)), vT, (eN j)] ++ (zs zf14 12 9 ++ [(Value.bool (decide (((plTo la n m i).length) < m))), (zf14 22), (zf14 23), u1, (eN i), (ixp u1 i), (eI (la.getD i 0)), (eN n), (eN (((la.getD i 0) % (n : Int)).toNat)), (eN j), u_out, (eN ((plTo la n m i).length)), (Value.bool (decide (j < ((plTo la n m i).length))))] ++ (zs z 34 11 ++ (zs zf14 45 6 ++ [undef])))) from reslot ([u1, (eN n), (eN m), undef, undef, undef, (Value.slice none 0 0), u_out, (eN i), (eN (((la.getD i 0) % (n : Int)).toNat)), (Value.bool (decide (((la.getD i 0) % (n : Int)).toNat ∈ (plTo la n m i).take j))), (eN j)] ++ (zs zf14 12 9 ++ [(Value.bool (decide (((plTo la n m i).length) < m))), (zf14 22), (zf14 23), u1, (eN i), (ixp u1 i), (eI (la.getD i 0)), (eN n), (eN (((la.getD i 0) % (n : Int)).toNat)), (eN j), u_out, (eN ((plTo la n m i).length)), (Value.bool (decide (j < ((plTo la n m i).length))))] ++ (zs z 34 11 ++ (zs zf14 45 6 ++ [undef])))) 10 (congrArg Value.bool (decide_eq_true e0))) ?_
     refine pL ?_
     refine wI (d_move rfl) ?_
     refine wI (d_move rfl) ?_
     refine wX ?_
     refine wX ?_
     refine wX ?_
     refine wF ([u1, (eN n), (eN m), undef, undef, undef, (Value.slice none 0 0), u_out, (eN i), (eN (((la.getD i 0) % (n : Int)).toNat)), vT, (eN j)] ++ (zs zf14 12 9 ++ [(Value.bool (decide (((plTo la n m i).length) < m))), (zf14 22), (zf14 23), u1, (eN i), (ixp u1 i), (eI (la.getD i 0)), (eN n), (eN (((la.getD i 0) % (n : Int)).toNat)), (eN j), u_out, (eN ((plTo la n m i).length)), (Value.bool (decide (j < ((plTo la n m i).length)))), (z 34), (z 35), vT, vT, undef, undef, undef, (z 41), (z 42), (z 43), (z 44)] ++ (zs zf14 45 6 ++ [undef]))) ?_
     refine wX ?_
     refine wX ?_
     refine wX ?_
     refine wI (d_pick (b := true) (v := vT) rfl rfl) ?_
     refine wI (d_assign rfl) ?_
     refine wF ([u1, (eN n), (eN m), undef, undef, undef, (Value.slice none 0 0), u_out, (eN i), (eN (((la.getD i 0) % (n : Int)).toNat)), vT, (eN j)] ++ (zs zf14 12 9 ++ [(Value.bool (decide (((plTo la n m i).length) < m))), (zf14 22), (zf14 23), u1, (eN i), (ixp u1 i), (eI (la.getD i 0)), (eN n), (eN (((la.getD i 0) % (n : Int)).toNat)), (eN j), u_out, (eN ((plTo la n m i).length)), (Value.bool (decide (j < ((plTo la n m i).length)))), (z 34), (z 35), vT, vT] ++ (us 6 ++ [vT] ++ (zs zf14 45 6 ++ [undef])))) ?_
     refine wD ?_
     refine inb_n (tN ?_)
     refine pL ?_
     refine wI (d_move rfl) ?_
     refine wI (n_add (a := j) (b := 1) rfl rfl oo) ?_
     refine wI (d_assign rfl) ?_
     refine wD (tN ?_)
     refine ⟨([u1, (eN n), (eN m), undef, undef, undef, (Value.slice none 0 0), u_out, (eN i), (eN (((la.getD i 0) % (n : Int)).toNat)), (Value.bool (decide (((la.getD i 0) % (n : Int)).toNat ∈ (plTo la n m i).take (j + 1)))), (eN (j + 1))] ++ (zs zf14 12 9 ++ [(Value.bool (decide (((plTo la n m i).length) < m))), (zf14 22), (zf14 23), u1, (eN i), (ixp u1 i), (eI (la.getD i 0)), (eN n), (eN (((la.getD i 0) % (n : Int)).toNat)), (eN j), u_out, (eN ((plTo la n m i).length)), (Value.bool (decide (j < ((plTo la n m i).length)))), (eN j), (eN (j + 1)), vT, vT] ++ (us 6 ++ [vT] ++ (zs zf14 45 6 ++ [undef])))), (j + 1), (congrArg (fun l_ => fr l_ _) (show (([u1, (eN n), (eN m), undef, undef, undef, (Value.slice none 0 0), u_out, (eN i), (eN (((la.getD i 0) % (n : Int)).toNat)), vT, (eN (j + 1))] ++ (zs zf14 12 9 ++ [(Value.bool (decide (((plTo la n m i).length) < m))), (zf14 22), (zf14 23), u1, (eN i), (ixp u1 i), (eI (la.getD i 0)), (eN n), (eN (((la.getD i 0) % (n : Int)).toNat)), (eN j), u_out, (eN ((plTo la n m i).length)), (Value.bool (decide (j < ((plTo la n m i).length)))), (eN j), (eN (j + 1)), vT, vT] ++ (us 6 ++ [vT] ++ (zs zf14 45 6 ++ [undef])))) : List Value) = ([u1, (eN n), (eN m), undef, undef, undef, (Value.slice none 0 0), u_out, (eN i), (eN (((la.getD i 0) % (n : Int)).toNat)), (Value.bool (decide (((la.getD i 0) % (n : Int)).toNat ∈ (plTo la n m i).take (j + 1)))), (eN (j + 1))] ++ (zs zf14 12 9 ++ [(Value.bool (decide (((plTo la n m i).length) < m))), (zf14 22), (zf14 23), u1, (eN i), (ixp u1 i), (eI (la.getD i 0)), (eN n), (eN (((la.getD i 0) % (n : Int)).toNat)), (eN j), u_out, (eN ((plTo la n m i).length)), (Value.bool (decide (j < ((plTo la n m i).length)))), (eN j), (eN (j + 1)), vT, vT] ++ (us 6 ++ [vT] ++ (zs zf14 45 6 ++ [undef])))) from reslot ([u1, (eN n), (eN m), undef, undef, undef, (Value.slice none 0 0), u_out, (eN i), (eN (((la.getD i 0) % (n : Int)).toNat)), vT, (eN (j + 1))] ++ (zs zf14 12 9 ++ [(Value.bool (decide (((plTo la n m i).length) < m))), (zf14 22), (zf14 23), u1, (eN i), (ixp u1 i), (eI (la.getD i 0)), (eN n), (eN (((la.getD i 0) % (n : Int)).toNat)), (eN j), u_out, (eN ((plTo la n m i).length)), (Value.bool (decide (j < ((plTo la n m i).length)))), (eN j), (eN (j + 1)), vT, vT] ++ (us 6 ++ [vT] ++ (zs zf14 45 6 ++ [undef])))) 10 (congrArg Value.bool (decide_eq_true ((mem_take_next c2).2 (.inl e0))).symm))), kr, ⟨?_, ?_, ?_⟩, ?_⟩
     ·
      (try dsimp only)
      all_goals (omega)
     ·
      exact o17
     ·
      exact a11
     ·
      (try dsimp only)
      all_goals (omega)
    refine wp_eq (l' := ([u1, (eN n), (eN m), undef, undef, undef, (Value.slice none 0 0), u_out, (eN i), (eN (((la.getD i 0) % (n : Int)).toNat)), (Value.bool (decide (((la.getD i 0) % (n : Int)).toNat ∈ (plTo la n m i).take j))), (eN j)] ++ (zs zf14 12 9 ++ [(Value.bool (decide (((plTo la n m i).length) < m))), (zf14 22), (zf14 23), u1, (eN i), (ixp u1 i), (eI (la.getD i 0)), (eN n), (eN (((la.getD i 0) % (n : Int)).toNat)), (eN j), u_out, (eN ((plTo la n m i).length)), (Value.bool (decide (j < ((plTo la n m i).length))))] ++ (zs z 34 11 ++ (zs zf14 45 6 ++ [undef]))))) rfl ?_
    refine wp_eq (l' := ([u1, (eN n), (eN m), undef, undef, undef, (Value.slice none 0 0), u_out, (eN i), (eN (((la.getD i 0) % (n : Int)).toNat)), vF, (eN j)] ++ (zs zf14 12 9 ++ [(Value.bool (decide (((plTo la n m i).length) < m))), (zf14 22), (zf14 23), u1, (eN i), (ixp u1 i), (eI (la.getD i 0)), (eN n), (eN (((la.getD i 0) % (n : Int)).toNat)), (eN j), u_out, (eN ((plTo la n m i).length)), (Value.bool (decide (j < ((plTo la n m i).length))))] ++ (zs z 34 11 ++ (zs zf14 45 6 ++ [undef]))))) (show (([u1, (eN n), (eN m), undef, undef, undef, (Value.slice none 0 0), u_out, (eN i), (eN (((la.getD i 0) % (n : Int)).toNat)), (Value.bool (decide (((la.getD i 0) % (n : Int)).toNat ∈ (plTo la n m i).take j))), (eN j)] ++ (zs zf14 12 9 ++ [(Value.bool (decide (((plTo la n m i).length) < m))), (zf14 22), (zf14 23), u1, (eN i), (ixp u1 i), (eI (la.getD i 0)), (eN n), (eN (((la.getD i 0) % (n : Int)).toNat)), (eN j), u_out, (eN ((plTo la n m i).length)), (Value.bool (decide (j < ((plTo la n m i).length))))] ++ (zs z 34 11 ++ (zs zf14 45 6 ++ [undef])))) : List Value) = ([u1, (eN n), (eN m), undef, undef, undef, (Value.slice none 0 0), u_out, (eN i), (eN (((la.getD i 0) % (n : Int)).toNat)), vF, (eN j)] ++ (zs zf14 12 9 ++ [(Value.bool (decide (((plTo la n m i).length) < m))), (zf14 22), (zf14 23), u1, (eN i), (ixp u1 i), (eI (la.getD i 0)), (eN n), (eN (((la.getD i 0) % (n : Int)).toNat)), (eN j), u_out, (eN ((plTo la n m i).length)), (Value.bool (decide (j < ((plTo la n m i).length))))] ++ (zs z 34 11 ++ (zs zf14 45 6 ++ [undef])))) from reslot ([u1, (eN n), (eN m), undef, undef, undef, (Value.slice none 0 0), u_out, (eN i), (eN (((la.getD i 0) % (n : Int)).toNat)), (Value.bool (decide (((la.getD i 0) % (n : Int)).toNat ∈ (plTo la n m i).take j))), (eN j)] ++ (zs zf14 12 9 ++ [(Value.bool (decide (((plTo la n m i).length) < m))), (zf14 22), (zf14 23), u1, (eN i), (ixp u1 i), (eI (la.getD i 0)), (eN n), (eN (((la.getD i 0) % (n : Int)).toNat)), (eN j), u_out, (eN ((plTo la n m i).length)), (Value.bool (decide (j < ((plTo la n m i).length))))] ++ (zs z 34 11 ++ (zs zf14 45 6 ++ [undef])))) 10 (congrArg Value.bool (decide_eq_false e0))) ?_
    refine pL ?_
    refine wI (d_move rfl) ?_
    refine wI (d_move rfl) ?_
    refine wG (d_move rfl) ?_
    refine wG (d_move rfl) ?_
    refine wG (d_ix (i := j) (xs := (plTo la n m i)) Try.underlying23 s_ti3 rfl (a11.seq (X := No) (fun _ _ h => h)) (show _ = Value.int _ (j : Int) from rfl) fo) ?_
    refine wF ([u1, (eN n), (eN m), undef, undef, undef, (Value.slice none 0 0), u_out, (eN i), (eN (((la.getD i 0) % (n : Int)).toNat)), vF, (eN j)] ++ (zs zf14 12 9 ++ [(Value.bool (decide (((plTo la n m i).length) < m))), (zf14 22), (zf14 23), u1, (eN i), (ixp u1 i), (eI (la.getD i 0)), (eN n), (eN (((la.getD i 0) % (n : Int)).toNat)), (eN j), u_out, (eN ((plTo la n m i).length)), (Value.bool (decide (j < ((plTo la n m i).length)))), (z 34), (z 35), vF, vF, u_out, (eN j), (ixp u_out j), (z 41), (z 42), (z 43), (z 44)] ++ (zs zf14 45 6 ++ [undef]))) ?_
    refine wG (d_ldx (i := j) (xs := (plTo la n m i)) (enc := eN) (v := ((plTo la n m i).getD j 0)) ⟨_, Try.underlying3, rfl⟩ rfl (a11.seq (X := No) (fun _ _ h => h)) (g_at fo)) ?_
    refine wG (d_move rfl) ?_
    refine wG (n_eql (a := ((plTo la n m i).getD j 0)) (b := (((la.getD i 0) % (n : Int)).toNat)) rfl rfl rfl) ?_
    refine wI (d_pick (b := false) (v := (Value.bool (decide (((plTo la n m i).getD j 0) = (((la.getD i 0) % (n : Int)).toNat))))) rfl rfl) ?_
    refine wI (d_assign rfl) ?_
    refine wF ([u1, (eN n), (eN m), undef, undef, undef, (Value.slice none 0 0), u_out, (eN i), (eN (((la.getD i 0) % (n : Int)).toNat)), (Value.bool (decide (((plTo la n m i).getD j 0) = (((la.getD i 0) % (n : Int)).toNat)))), (eN j)] ++ (zs zf14 12 9 ++ [(Value.bool (decide (((plTo la n m i).length) < m))), (zf14 22), (zf14 23), u1, (eN i), (ixp u1 i), (eI (la.getD i 0)), (eN n), (eN (((la.getD i 0) % (n : Int)).toNat)), (eN j), u_out, (eN ((plTo la n m i).length)), (Value.bool (decide (j < ((plTo la n m i).length)))), (z 34), (z 35), vF, vF, u_out, (eN j), (ixp u_out j), (eN ((plTo la n m i).getD j 0)), (eN (((la.getD i 0) % (n : Int)).toNat)), (Value.bool (decide (((plTo la n m i).getD j 0) = (((la.getD i 0) % (n : Int)).toNat)))), (Value.bool (decide (((plTo la n m i).getD j 0) = (((la.getD i 0) % (n : Int)).toNat))))] ++ (zs zf14 45 6 ++ [undef]))) ?_
    refine wD ?_
    refine inb_n (tN ?_)
    refine forget (fun zf19 => ([u1, (eN n), (eN m), undef, undef, undef, (Value.slice none 0 0), u_out, (eN i), (eN (((la.getD i 0) % (n : Int)).toNat)), (Value.bool (decide (((plTo la n m i).getD j 0) = (((la.getD i 0) % (n : Int)).toNat)))), (eN j)] ++ (zs zf14 12 9 ++ [(Value.bool (decide (((plTo la n m i).length) < m))), (zf14 22), (zf14 23), u1, (eN i), (ixp u1 i), (eI (la.getD i 0)), (eN n), (eN (((la.getD i 0) % (n : Int)).toNat))] ++ (zs zf19 30 15 ++ (zs zf14 45 6 ++ [undef]))))) kr (fun zf19 => ?_)
    refine pL ?_
    refine wI (d_move rfl) ?_
    refine wI (n_add (a := j) (b := 1) rfl rfl oo) ?_
    refine wI (d_assign rfl) ?_
    refine wD (tN ?_)
    refine ⟨([u1, (eN n), (eN m), undef, undef, undef, (Value.slice none 0 0), u_out, (eN i), (eN (((la.getD i 0) % (n : Int)).toNat)), (Value.bool (decide (((la.getD i 0) % (n : Int)).toNat ∈ (plTo la n m i).take (j + 1)))), (eN (j + 1))] ++ (zs zf14 12 9 ++ [(Value.bool (decide (((plTo la n m i).length) < m))), (zf14 22), (zf14 23), u1, (eN i), (ixp u1 i), (eI (la.getD i 0)), (eN n), (eN (((la.getD i 0) % (n : Int)).toNat)), (zf19 30), (zf19 31), (zf19 32), (zf19 33), (eN j), (eN (j + 1))] ++ (zs zf19 36 9 ++ (zs zf14 45 6 ++ [undef])))), (j + 1), (congrArg (fun l_ => fr l_ _) (show (([u1, (eN n), (eN m), undef, undef, undef, (Value.slice none 0 0), u_out, (eN i), (eN (((la.getD i 0) % (n : Int)).toNat)), (Value.bool (decide (((plTo la n m i).getD j 0) = (((la.getD i 0) % (n : Int)).toNat)))), (eN (j + 1))] ++ (zs zf14 12 9 ++ [(Value.bool (decide (((plTo la n m i).length) < m))), (zf14 22), (zf14 23), u1, (eN i), (ixp u1 i), (eI (la.getD i 0)), (eN n), (eN (((la.getD i 0) % (n : Int)).toNat)), (zf19 30), (zf19 31), (zf19 32), (zf19 33), (eN j), (eN (j + 1))] ++ (zs zf19 36 9 ++ (zs zf14 45 6 ++ [undef])))) : List Value) = ([u1, (eN n), (eN m), undef, undef, undef, (Value.slice none 0 0), u_out, (eN i), (eN (((la.getD i 0) % (n : Int)).toNat)), (Value.bool (decide (((la.getD i 0) % (n : Int)).toNat ∈ (plTo la n m i).take (j + 1)))), (eN (j + 1))] ++ (zs zf14 12 9 ++ [(Value.bool (decide (((plTo la n m i).length) < m))), (zf14 22), (zf14 23), u1, (eN i), (ixp u1 i), (eI (la.getD i 0)), (eN n), (eN (((la.getD i 0) % (n : Int)).toNat)), (zf19 30), (zf19 31), (zf19 32), (zf19 33), (eN j), (eN (j + 1))] ++ (zs zf19 36 9 ++ (zs zf14 45 6 ++ [undef])))) from reslot ([u1, (eN n), (eN m), undef, undef, undef, (Value.slice none 0 0), u_out, (eN i), (eN (((la.getD i 0) % (n : Int)).toNat)), (Value.bool (decide (((plTo la n m i).getD j 0) = (((la.getD i 0) % (n : Int)).toNat)))), (eN (j + 1))] ++ (zs zf14 12 9 ++ [(Value.bool (decide (((plTo la n m i).length) < m))), (zf14 22), (zf14 23), u1, (eN i), (ixp u1 i), (eI (la.getD i 0)), (eN n), (eN (((la.getD i 0) % (n : Int)).toNat)), (zf19 30), (zf19 31), (zf19 32), (zf19 33), (eN j), (eN (j + 1))] ++ (zs zf19 36 9 ++ (zs zf14 45 6 ++ [undef])))) 10 (congrArg Value.bool (by rw [decide_eq_decide, mem_take_next c2]; exact ⟨.inr, fun h => h.resolve_left e0⟩)))), kr, ⟨?_, ?_, ?_⟩, ?_⟩
    ·
     (try dsimp only)
     all_goals (omega)
    ·
     exact o17
    ·
     exact a11
    ·
     (try dsimp only)
     all_goals (omega)
   refine wpIn_exit ?_
   refine then_x (then_x (inb_e ?_))
   refine tN ?_
   refine forget (fun zf20 => ([u1, (eN n), (eN m), undef, undef, undef, (Value.slice none 0 0), u_out, (eN i), (eN (((la.getD i 0) % (n : Int)).toNat)), (Value.bool (decide (((la.getD i 0) % (n : Int)).toNat ∈ (plTo la n m i).take j))), (eN j)] ++ (zs zf20 12 39 ++ [undef]))) kr (fun zf20 => ?_)
   refine wQ (pL ?_)
   refine wI (d_move rfl) ?_
   refine wI (d_not rfl rfl) ?_
   refine wD (tN ?_)
   refine cond_b rfl (fun c3 => ?_) (fun c3 => ?_)
   ·
    have ht_ : (plTo la n m i).take j = (plTo la n m i) := List.take_of_length_le oo
    rw [ht_] at c3
    refine pL ?_
    refine wI (d_move rfl) ?_
    refine wI (d_move rfl) ?_
    refine wO (d_buildL (cs := [(eN (((la.getD i 0) % (n : Int)).toNat))]) Try.underlying23 s_ti3 rfl (nb rfl) (parts_cons (vs := [(eN (((la.getD i 0) % (n : Int)).toNat))]) (cells_of (v := (eN (((la.getD i 0) % (n : Int)).toNat))) rfl rfl) parts_nil) rfl) ?_
    rintro _ w22 ⟨b21, rfl, g23, a24, o25⟩
    replace a24 : Arr 3 b21 (([((la.getD i 0) % (n : Int)).toNat] : List Nat).map eN) w22 := a24
    have l_b21 : ([((la.getD i 0) % (n : Int)).toNat] : List Nat).length = 1 := rfl
    have nq_out_b21 : ∀ x, bo_out = some x → ¬ x = b21 := fun x hx e => by have := a11.lts x hx; omega
    have g_oW_b21 : W.heap.size ≤ b21 := Nat.le_trans oW.size g23
    have g_o12_b21 : W.heap.size ≤ b21 := Nat.le_trans o12.size g23
    have g_o17_b21 : w15.heap.size ≤ b21 := Nat.le_trans o17.size g23
    replace h1 := h1.new o25 g23
    replace a11 := a11.step0 o25
    replace oW := oW.tail0 o25
    replace o12 := o12.tail0 o25
    replace o17 := o17.tail0 o25
    refine wF ([u1, (eN n), (eN m), undef, undef, undef, (Value.slice none 0 0), u_out, (eN i), (eN (((la.getD i 0) % (n : Int)).toNat)), (Value.bool (decide (((la.getD i 0) % (n : Int)).toNat ∈ (plTo la n m i).take j))), (eN j)] ++ (zs zf20 12 33 ++ [(Value.bool (decide (((la.getD i 0) % (n : Int)).toNat ∈ (plTo la n m i).take j))), (Value.bool (!(decide (((la.getD i 0) % (n : Int)).toNat ∈ (plTo la n m i).take j)))), u_out, (eN (((la.getD i 0) % (n : Int)).toNat)), (sli b21 0 1 1), (zf20 50), undef])) ?_
    refine wO (d_append Try.underlying23 Try.underlying23 s_ti3 rfl rfl rfl a11 (SrcV.of_seq (arr_seq a24 l_b21 (Nat.le_refl _)) (fun _ => rfl)) (by have := (plTo_ok la m gn i).2.2; simp only [List.length_singleton]; omega) (by have := (plTo_ok la m gn i).2.2; simp only [List.length_singleton]; omega) rfl) ?_
    rintro u26 w27 ⟨bo28, a29, o30, q31⟩
    replace a29 : Ow 3 1 bo28 u26 ((plTo la n m i) ++ ([((la.getD i 0) % (n : Int)).toNat] : List Nat)).length (((plTo la n m i) ++ ([((la.getD i 0) % (n : Int)).toNat] : List Nat)).map eN) w27 := by rw [List.length_append, List.map_append]; exact a29
    replace h1 := h1.gr o30 (fun k e => (.inr (.inl e))) (xx_or1 (xx_re (Fr.of_or q31) xx_id))
    have nq2 := nqs nq_out_b21 (Fr.of_or q31) a24.lt
    replace a24 := a24.step o30 (fun e => nq_out_b21 _ e rfl)
    replace nq_out_b21 := nq2
    clear nq2
    have tq := oW.size
    replace oW := oW.tailr o30 q_oW_out (fun _ e => by cases e)
    replace q_oW_out := qtr (Fr.of_or q31) q_oW_out tq
    clear tq
    have tq := o12.size
    replace o12 := o12.tailr o30 q_o12_out (fun k e => (.inl e))
    replace q_o12_out := qtr (Fr.of_or q31) q_o12_out tq
    clear tq
    have tq := o17.size
    replace o17 := o17.tailr o30 q_o17_out (fun k e => (.inl e))
    replace q_o17_out := qtr (Fr.of_or q31) q_o17_out tq
    clear tq
    refine wI (d_assign rfl) ?_
    refine wD ?_
    refine inb_n (tN ?_)
    refine pL ?_
    refine wI (d_move rfl) ?_
    refine wI (n_add (a := i) (b := 1) rfl rfl oo) ?_
    refine wI (d_assign rfl) ?_
    refine wF ([u1, (eN n), (eN m), undef, undef, undef, (Value.slice none 0 0), u26, (eN (i + 1)), (eN (((la.getD i 0) % (n : Int)).toNat)), (Value.bool (decide (((la.getD i 0) % (n : Int)).toNat ∈ (plTo la n m i).take j))), (eN j)] ++ (zs zf20 12 10 ++ [(eN i), (eN (i + 1))] ++ (zs zf20 24 21 ++ [(Value.bool (decide (((la.getD i 0) % (n : Int)).toNat ∈ (plTo la n m i).take j))), (Value.bool (!(decide (((la.getD i 0) % (n : Int)).toNat ∈ (plTo la n m i).take j)))), u_out, (eN (((la.getD i 0) % (n : Int)).toNat)), (sli b21 0 1 1), u26, undef]))) ?_
    refine wD (tN ?_)
    refine ⟨_, ⟨i + 1, bo28, u26⟩, rfl, rfl, ⟨?_, ?_, ?_, ?_⟩, ?_⟩
    ·
     (try dsimp only)
     all_goals (omega)
    ·
     exact o12
    ·
     (try dsimp only)
     all_goals (rw [plTo_new c0 c1 (by simpa using c3)] at a29; exact a29)
    ·
     exact q_o12_out
    ·
     (try dsimp only)
     all_goals (omega)
   have ht_ : (plTo la n m i).take j = (plTo la n m i) := List.take_of_length_le oo
   rw [ht_] at c3
   refine wK ?_
   refine inb_n (tN ?_)
   refine pL ?_
   refine wI (d_move rfl) ?_
   refine wI (n_add (a := i) (b := 1) rfl rfl oo) ?_
   refine wI (d_assign rfl) ?_
   refine wF ([u1, (eN n), (eN m), undef, undef, undef, (Value.slice none 0 0), u_out, (eN (i + 1)), (eN (((la.getD i 0) % (n : Int)).toNat)), (Value.bool (decide (((la.getD i 0) % (n : Int)).toNat ∈ (plTo la n m i).take j))), (eN j)] ++ (zs zf20 12 10 ++ [(eN i), (eN (i + 1))] ++ (zs zf20 24 21 ++ [(Value.bool (decide (((la.getD i 0) % (n : Int)).toNat ∈ (plTo la n m i).take j))), (Value.bool (!(decide (((la.getD i 0) % (n : Int)).toNat ∈ (plTo la n m i).take j)))), (zf20 47), (zf20 48), (zf20 49), (zf20 50), undef]))) ?_
   refine wD (tN ?_)
   refine ⟨_, ⟨i + 1, bo_out, u_out⟩, rfl, rfl, ⟨?_, ?_, ?_, ?_⟩, ?_⟩
   ·
    (try dsimp only)
    all_goals (omega)
   ·
    exact o12
   ·
    (try dsimp only)
    all_goals (rw [← plTo_in c0 c1 (by simpa using c3)]; exact a11)
   ·
    exact q_o12_out
   ·
    (try dsimp only)
    all_goals (omega)
  refine wpIn_exit ?_
  refine then_x (then_x (inb_e ?_))
  refine tN (wQ (pL ?_))
  refine wI (d_move rfl) ?_
  refine wI (d_assign rfl) ?_
  refine wD (tN ?_)
  refine wpIn_ret ?_
  refine leave0 (v := u_out) (res1 Try.results19 rfl) ?_
  exact ROw.mk_ a11 (plTo_stop hi oo) q_oW_out oW
 refine pL ?_
 refine wI (d_move rfl) ?_
 refine wI (d_move rfl) ?_
 refine wI (d_lenS rfl Try.underlying23 rfl h1) ?_
 refine wI (n_lss (a := i) (b := la.length) rfl rfl (decide_eq_false c0)) ?_
 refine wI (d_move rfl) ?_
 refine wF ([u1, (eN n), (eN m), undef, undef, undef, (Value.slice none 0 0), u_out, (eN i), (z 9), (z 10), (z 11), (eN i), u1, (eN la.length), vF, vF] ++ (zs z 17 34 ++ [undef])) ?_
 refine wX ?_
 refine wX ?_
 refine wX ?_
 refine wX ?_
 refine wI (d_pick (b := false) (v := vF) rfl rfl) ?_
 refine wF ([u1, (eN n), (eN m), undef, undef, undef, (Value.slice none 0 0), u_out, (eN i), (z 9), (z 10), (z 11), (eN i), u1, (eN la.length), vF, vF, undef, undef, undef, undef, vF] ++ (zs z 22 29 ++ [undef])) ?_
 refine wD (tN ?_)
 refine cond_f rfl ?_
 refine wpIn_exit ?_
 refine then_x (then_x (inb_e ?_))
 refine tN ?_
 refine forget (fun zf32 => (zs zf32 0 7 ++ [u_out, (eN i), (zf32 9), (z 10), (z 11)] ++ (zs zf32 12 40))) kr (fun zf32 => ?_)
 refine wQ (pL ?_)
 refine wI (d_move rfl) ?_
 refine wI (d_assign rfl) ?_
 refine wD (tN ?_)
 refine wpIn_ret ?_
 refine leave0 (v := u_out) (res1 Try.results19 rfl) ?_
 exact ROw.mk_ a11 (plTo_stop hi oo) q_oW_out oW
end Go.Proofs.YtgalehapmdabeaaF
namespace Ram
open Go.Proofs.YtgalehapmdabeaaF (shlB shrB)
def onesN (w : List UInt8) : Nat := (onesP w).length
theorem onesTo_len (w : List UInt8) (n : Nat) : (onesTo w n).length ≤ n := by
 unfold onesTo; exact Nat.le_trans (List.length_filter_le _ _) (by rw [List.length_range]; exact Nat.le_refl _)
theorem onesN_le (w : List UInt8) : onesN w ≤ 8 * w.length := onesTo_len w _
theorem pre_len {w : List UInt8} {pre : List Nat} {x : Nat} (h : pre ++ [x] <+: onesP w) : pre.length < 8 * w.length := by
 have h1 := h.length_le
 have h2 := onesN_le w
 unfold onesN at h2
 rw [List.length_append, List.length_singleton] at h1
 omega
def flI (w : List UInt8) (x : Int) : List UInt8 := if 0 ≤ x ∧ x < 8 * (w.length : Int) then flip1 w x.toNat else w
def flipI (w : List UInt8) (l : List Int) : List UInt8 := l.foldl flI w
theorem flI_length (w : List UInt8) (x : Int) : (flI w x).length = w.length := by unfold flI; split; exact flip1_length _ _; rfl
theorem flipI_length (w : List UInt8) (l : List Int) : (flipI w l).length = w.length := by
 induction l generalizing w with
 | nil => rfl
 | cons a l ih => exact (ih _).trans (flI_length w a)
theorem flipI_next (w : List UInt8) {l : List Int} {i : Nat} (h : i < l.length) : flI (flipI w (l.take i)) (l.getD i 0) = flipI w (l.take (i + 1)) := by
 rw [take_next (d := 0) h]; unfold flipI; rw [List.foldl_append]; rfl
theorem flI_yes {w : List UInt8} {x : Int} {n : Nat} (hx : x = (n : Int)) (h : n < 8 * w.length) : w.set (n / 8) (w.getD (n / 8) 0 ^^^ shlB 1 (n % 8)) = flI w x := by
 subst hx
 unfold flI
 rw [if_pos ⟨by omega, by omega⟩, shl_one]; rfl
theorem flI_no {w : List UInt8} {x : Int} (h : ¬ (0 ≤ x ∧ x < 8 * (w.length : Int))) : flI w x = w := if_neg h
def mixAt (o n m : List UInt8) (i : Nat) : UInt8 := if m.length = 0 then o.getD i 0 else (o.getD i 0 &&& ~~~ m.getD (i % m.length) 0) ||| (n.getD i 0 &&& m.getD (i % m.length) 0)
def mixTo (o n m : List UInt8) (i : Nat) : List UInt8 := tab o.length (fun k => if k < i then mixAt o n m k else o.getD k 0)
def mixL (o n m : List UInt8) : List UInt8 := tab o.length (mixAt o n m)
def mixR (o n m : List UInt8) : List UInt8 := if o.length = n.length then mixL o n m else []
theorem mixTo_length (o n m : List UInt8) (i : Nat) : (mixTo o n m i).length = o.length := tab_length
theorem mixL_length (o n m : List UInt8) : (mixL o n m).length = o.length := tab_length
theorem mixTo_zero (o n m : List UInt8) : o = mixTo o n m 0 := (eq_tab o 0).trans (tab_ext fun k _ => by rw [if_neg (by omega)])
theorem mixTo_step (o n : List UInt8) {m : List UInt8} (i : Nat) (hm : 0 < m.length) : (mixTo o n m i).set i ((o.getD i 0 &&& ~~~ m.getD (i % m.length) 0) ||| (n.getD i 0 &&& m.getD (i % m.length) 0)) = mixTo o n m (i + 1) := by
 unfold mixTo
 refine set_tab ?_ fun k _ hk => ?_
 ·rw [if_pos (by omega)]; unfold mixAt; rw [if_neg (by omega)]
 ·by_cases h : k < i
  ·rw [if_pos h, if_pos (show k < i + 1 by omega)]
  ·rw [if_neg h, if_neg (show ¬ k < i + 1 by omega)]
theorem mixTo_none (o n : List UInt8) {m : List UInt8} (i : Nat) (hm : ¬ 0 < m.length) : mixTo o n m (i + 1) = mixTo o n m i := tab_ext fun k _ => by
 have : mixAt o n m k = o.getD k 0 := by unfold mixAt; rw [if_pos (by omega)]
 rw [this]; split <;> split <;> rfl
theorem mixTo_done {o n m : List UInt8} {i : Nat} (h : o.length ≤ i ∨ m.length = 0) : mixTo o n m i = mixL o n m := tab_ext fun k hk => by
 rcases h with h | h
 ·rw [if_pos (by omega)]
 ·have : mixAt o n m k = o.getD k 0 := by unfold mixAt; rw [if_pos h]
  rw [this]; split <;> rfl
def xorB (a b : List UInt8) (i : Nat) : List UInt8 := tab a.length (fun k => if k < i then a.getD k 0 ^^^ b.getD k 0 else a.getD k 0)
end Ram
set_option maxRecDepth 20000
set_option maxHeartbeats 4000000
namespace Go.Proofs.YtgalehapmdabeaaF
open Go Shelf YtgalehapmdabeaaS Ram
theorem cloneB_ok (la : List UInt8) (u1 : Value) (W : World) (h1 : Ps No (Seq kB la u1) W) (g1 : la.length ≤ 1048576) :
    CW Try.prog 41 #[u1] W (Rt (ROw 5 eB la W)) := by
 have oW : Only No W W := Only.refl _ _
 refine enter (al := [u1]) (k := 7) (l := ([u1] ++ (us 7))) Try.func41 rfl Try.ntmps41 rfl rfl ?_
 refine wQ (pL ?_)
 refine wI (d_assign rfl) ?_
 refine wD (tN (wQ (wQ (pL ?_))))
 refine wI (d_move rfl) ?_
 refine wO (d_eqnil Try.underlying22 rfl h1 rfl) ?_
 rintro _ _ ⟨t, rfl, ht, rfl⟩
 refine wD (tN ?_)
 refine cond_b rfl (fun c0 => ?_) (fun c0 => ?_)
 ·
  refine wQ (pL ?_)
  refine wI (d_assign rfl) ?_
  refine wD (tN ?_)
  refine wpIn_ret ?_
  refine then_r ?_
  refine leave0 (v := (Value.slice none 0 0)) (res1 Try.results41 rfl) ?_
  exact ROw.nil ((ht c0).symm) oW
 refine wK (tN (wQ (pL ?_)))
 refine wO (d_buildL (cs := []) Try.underlying22 s_ti5 rfl (nb rfl) parts_nil rfl) ?_
 rintro _ w12 ⟨b11, rfl, g13, a14, o15⟩
 replace a14 : Arr 5 b11 (([] : List UInt8).map eB) w12 := a14
 have l_b11 : ([] : List UInt8).length = 0 := rfl
 have g_oW_b11 : W.heap.size ≤ b11 := Nat.le_trans oW.size g13
 replace h1 := h1.new o15 g13
 replace oW := oW.tail0 o15
 refine wI (d_move rfl) ?_
 refine wF [u1, undef, (Value.slice none 0 0), u1, (Value.bool t), (sli b11 0 0 0), u1, undef] ?_
 have a16 := Ow.of_map2 a14 l_b11
 have q_oW_o : Fr (some b11) none W.heap.size := Fr.new g_oW_b11
 replace h1 := h1.less (Y := (Orq (some b11) No)) (xx_br xx_id)
 refine wO (d_append Try.underlying22 Try.underlying22 s_ti5 rfl rfl rfl a16 (SrcV.of_seq h1 (fun _ => rfl)) (by simp; omega) (by simp; omega) rfl) ?_
 rintro u17 w18 ⟨bo19, a20, o21, q22⟩
 replace a20 : Ow 5 1 bo19 u17 (la).length ((la).map eB) w18 := by simpa using a20
 replace h1 := h1.gr o21 (fun k e => (.inl e)) (xx_re (Fr.of_or q22) xx_id)
 have tq := oW.size
 replace oW := oW.tailr o21 q_oW_o (fun _ e => by cases e)
 replace q_oW_o := qtr (Fr.of_or q22) q_oW_o tq
 clear tq
 refine wI (d_assign rfl) ?_
 refine wD (tN ?_)
 refine wpIn_ret ?_
 refine leave0 (v := u17) (res1 Try.results41 rfl) ?_
 exact ROw.mk_ a20 rfl q_oW_o oW
theorem cloneI_ok (la : List Int) (u1 : Value) (W : World) (h1 : Ps No (Seq kI la u1) W) (g1 : la.length ≤ 1048576) :
    CW Try.prog 59 #[u1] W (Rt (ROw 3 eI la W)) := by
 have oW : Only No W W := Only.refl _ _
 refine enter (al := [u1]) (k := 7) (l := ([u1] ++ (us 7))) Try.func59 rfl Try.ntmps59 rfl rfl ?_
 refine wQ (pL ?_)
 refine wI (d_assign rfl) ?_
 refine wD (tN (wQ (wQ (pL ?_))))
 refine wI (d_move rfl) ?_
 refine wO (d_eqnil Try.underlying23 rfl h1 rfl) ?_
 rintro _ _ ⟨t, rfl, ht, rfl⟩
 refine wD (tN ?_)
 refine cond_b rfl (fun c0 => ?_) (fun c0 => ?_)
 ·
  refine wQ (pL ?_)
  refine wI (d_assign rfl) ?_
  refine wD (tN ?_)
  refine wpIn_ret ?_
  refine then_r ?_
  refine leave0 (v := (Value.slice none 0 0)) (res1 Try.results59 rfl) ?_
  exact ROw.nil ((ht c0).symm) oW
 refine wK (tN (wQ (pL ?_)))
 refine wO (d_buildL (cs := []) Try.underlying23 s_ti3 rfl (nb rfl) parts_nil rfl) ?_
 rintro _ w12 ⟨b11, rfl, g13, a14, o15⟩
 replace a14 : Arr 3 b11 (([] : List Int).map eI) w12 := a14
 have l_b11 : ([] : List Int).length = 0 := rfl
 have g_oW_b11 : W.heap.size ≤ b11 := Nat.le_trans oW.size g13
 replace h1 := h1.new o15 g13
 replace oW := oW.tail0 o15
 refine wI (d_move rfl) ?_
 refine wF [u1, undef, (Value.slice none 0 0), u1, (Value.bool t), (sli b11 0 0 0), u1, undef] ?_
 have a16 := Ow.of_map2 a14 l_b11
 have q_oW_o : Fr (some b11) none W.heap.size := Fr.new g_oW_b11
 replace h1 := h1.less (Y := (Orq (some b11) No)) (xx_br xx_id)
 refine wO (d_append Try.underlying23 Try.underlying23 s_ti3 rfl rfl rfl a16 (SrcV.of_seq h1 (fun _ => rfl)) (by simp; omega) (by simp; omega) rfl) ?_
 rintro u17 w18 ⟨bo19, a20, o21, q22⟩
 replace a20 : Ow 3 1 bo19 u17 (la).length ((la).map eI) w18 := by simpa using a20
 replace h1 := h1.gr o21 (fun k e => (.inl e)) (xx_re (Fr.of_or q22) xx_id)
 have tq := oW.size
 replace oW := oW.tailr o21 q_oW_o (fun _ e => by cases e)
 replace q_oW_o := qtr (Fr.of_or q22) q_oW_o tq
 clear tq
 refine wI (d_assign rfl) ?_
 refine wD (tN ?_)
 refine wpIn_ret ?_
 refine leave0 (v := u17) (res1 Try.results59 rfl) ?_
 exact ROw.mk_ a20 rfl q_oW_o oW
theorem bitsOnes_ok (la : List UInt8) (u1 : Value) (W : World) (h1 : Ps No (Seq kB la u1) W) :
    CW Try.prog 70 #[u1] W (Rt (fun u w => ∃ b, u = .func (.func 96) #[] #[ptr b 0] ∧ W.heap.size ≤ b ∧ Arr 22 b [u1] w ∧ Only No W w)) := by
 have oW : Only No W W := Only.refl _ _
 refine enter (al := [u1]) (k := 3) (l := [u1, undef, undef, undef]) Try.func70 rfl Try.ntmps70 rfl rfl ?_
 refine wQ (pL ?_)
 refine wO (d_box rfl (Seq.cells h1)) ?_
 rintro _ w11 ⟨b, rfl, g12, a13, o14⟩
 have g_oW_b : W.heap.size ≤ b := Nat.le_trans oW.size g12
 replace h1 := h1.new o14 g12
 replace oW := oW.tail0 o14
 refine wI (d_assign rfl) ?_
 refine wD (tN (wQ (pL ?_)))
 refine wI (d_funcL (yl := [.tmp 1]) (ys := [(ptr b 0)]) rfl) ?_
 refine wI (d_assign rfl) ?_
 refine wD (tN ?_)
 refine wpIn_ret ?_
 refine leave0 (v := (Value.func (.func 96) #[] #[(ptr b 0)])) (res1 Try.results70 rfl) ?_
 exact ⟨b, rfl, g_oW_b, a13, oW⟩
theorem bitsOnes1_ok {O X : Nat → Prop} {w0 : World} (lw : List UInt8) (uw : Value) (b l : Nat) (J Jx : List Nat → World → Prop) (W : World) (hb : Arr 22 b [uw] W) (kb : Kp O w0.heap.size b) (hw : Ps (OrN X w0.heap.size) (Seq kB lw uw) W) (hX : ∀ k, O k → X k) (hg : lw.length ≤ 1048576) (hy : ∀ pre x, pre ++ [x] <+: onesP lw → ∀ W1, J pre W1 → YieldAt Fence.wide 0 Try.prog l #[eN x] W1 fun e W' => ∃ u, e = .returned u ∧ YR J Jx (Kp O w0.heap.size) (pre ++ [x]) W1 u W') (hJ : J [] W) :
    CW Try.prog 96 #[(Value.func (.yield l) #[] #[]), (ptr b 0)] W (Rt (fun _ W' => J (onesP lw) W' ∨ ∃ pre, pre <+: onesP lw ∧ Jx pre W')) := by
 refine enter (al := [(Value.func (.yield l) #[] #[]), (ptr b 0)]) (k := 30) (l := ([(Value.func (.yield l) #[] #[]), (ptr b 0)] ++ (us 30))) Try.func96 rfl Try.ntmps96 rfl rfl ?_
 refine wQ (pL ?_)
 refine wI (d_load (v := uw) ⟨_, Try.underlying22, rfl⟩ rfl hb rfl) ?_
 refine wI (d_lenS rfl Try.underlying22 rfl hw) ?_
 refine wI (d_move rfl) ?_
 refine wD (tN (wB ?_))
 refine loop2 (fun (i : (Nat)) => fun (z : Nat → Value) => (([(Value.func (.yield l) #[] #[]), (ptr b 0), undef, (z 3), (z 4), (z 5), uw, (eN lw.length), (eN i)] ++ (zs z 9 23)) : List Value)) (fun (i : (Nat)) => fun (w_ : World) => (i ≤ lw.length) ∧ (J (onesTo lw (8 * i)) w_) ∧ Arr 22 b [uw] w_ ∧ Ps (OrN X w0.heap.size) (Seq kB lw uw) w_) (fun (i : (Nat)) => lw.length - i) 0 kr ?_ ?_
 ·
  refine ⟨?_, ?_, ?_, ?_⟩
  ·
   exact Nat.zero_le _
  ·
   exact hJ
  ·
   exact hb
  ·
   exact hw
 rintro i z w12 ⟨hi, hJ, hb, hw⟩
 (try dsimp only)
 refine wQ (pL ?_)
 refine wI (n_lss (a := i) (b := lw.length) rfl rfl rfl) ?_
 refine wD (tN (wQ ?_))
 refine cond_if rfl (fun c1_ => ?_) (fun c1_ => ?_)
 ·
  refine wK (tN (wQ (wB (wQ (pL ?_)))))
  refine wI (d_move rfl) ?_
  refine wI (d_ix (i := i) (xs := lw) Try.underlying22 s_ti5 rfl hw (show _ = Value.int _ (i : Int) from rfl) fo) ?_
  refine wI (d_ldx (i := i) (xs := lw) (enc := eB) (v := (lw.getD i 0)) ⟨_, Try.underlying5, rfl⟩ rfl hw (g_at fo)) ?_
  refine wI (d_assign rfl) ?_
  refine wF ([(Value.func (.yield l) #[] #[]), (ptr b 0), undef, (eN i), (z 4), (z 5), uw, (eN lw.length), (eN i), (Value.bool (decide (i < lw.length))), (eN i), (ixp uw i), (eB (lw.getD i 0))] ++ (zs z 13 19)) ?_
  refine wI (d_assign rfl) ?_
  refine wD (tN (wQ (pL ?_)))
  refine wI (d_move rfl) ?_
  refine wD (tN (wB ?_))
  refine loop2 (fun (k : (Nat)) => fun (z : Nat → Value) => (([(Value.func (.yield l) #[] #[]), (ptr b 0), undef, (eN i), (eB (lw.getD i 0)), (z 5), uw, (eN lw.length), (eN i), (Value.bool (decide (i < lw.length))), (eN i), (ixp uw i), (eB (lw.getD i 0)), (eN k)] ++ (zs z 14 18)) : List Value)) (fun (k : (Nat)) => fun (w_ : World) => (k ≤ 8) ∧ (J (onesTo lw (8 * i + k)) w_) ∧ Arr 22 b [uw] w_ ∧ Ps (OrN X w0.heap.size) (Seq kB lw uw) w_) (fun (k : (Nat)) => 8 - k) 0 kr ?_ ?_
  ·
   refine ⟨?_, ?_, ?_, ?_⟩
   ·
    exact Nat.zero_le _
   ·
    exact hJ
   ·
    exact hb
   ·
    exact hw
  rintro k z w14 ⟨hk, hJ2, hb, hw⟩
  (try dsimp only)
  refine wQ (pL ?_)
  refine wI (n_lss (a := k) (b := 8) rfl rfl rfl) ?_
  refine wD (tN (wQ ?_))
  refine cond_if rfl (fun c2_ => ?_) (fun c2_ => ?_)
  ·
   refine wK (tN (wQ (wB (wQ (pL ?_)))))
   refine wI (d_move rfl) ?_
   refine wI (d_assign rfl) ?_
   refine wD (tN (wQ ?_))
   by_cases kb_ : (((shrB (lw.getD i 0) k) &&& 1) : UInt8) = (1 : UInt8)
   ·
    refine wp_eq (l' := ([(Value.func (.yield l) #[] #[]), (ptr b 0), undef, (eN i), (eB (lw.getD i 0)), (eN k), uw, (eN lw.length), (eN i), (Value.bool (decide (i < lw.length))), (eN i), (ixp uw i), (eB (lw.getD i 0)), (eN k), (Value.bool (decide (k < 8))), (eN k)] ++ (zs z 16 16))) rfl ?_
    refine pL ?_
    refine wI (d_move rfl) ?_
    refine wI (d_move rfl) ?_
    refine wI (b_shr (a := k) rfl rfl oo) ?_
    refine wI (b_and (c := (shrB (lw.getD i 0) k)) (e := 1) rfl rfl) ?_
    refine wI (b_eql (c := ((shrB (lw.getD i 0) k) &&& 1)) (e := 1) rfl rfl (decide_eq_true kb_)) ?_
    refine wF ([(Value.func (.yield l) #[] #[]), (ptr b 0), undef, (eN i), (eB (lw.getD i 0)), (eN k), uw, (eN lw.length), (eN i), (Value.bool (decide (i < lw.length))), (eN i), (ixp uw i), (eB (lw.getD i 0)), (eN k), (Value.bool (decide (k < 8))), (eN k), (eB (lw.getD i 0)), (eN k), (eB (shrB (lw.getD i 0) k)), (eB ((shrB (lw.getD i 0) k) &&& 1)), vT] ++ (zs z 21 11)) ?_
    refine wI (d_move rfl) ?_
    refine wG (d_move rfl) ?_
    refine wG (d_move rfl) ?_
    refine wG (n_mul (a := 8) (b := i) rfl rfl oo) ?_
    refine wG (d_move rfl) ?_
    refine wF ([(Value.func (.yield l) #[] #[]), (ptr b 0), undef, (eN i), (eB (lw.getD i 0)), (eN k), uw, (eN lw.length), (eN i), (Value.bool (decide (i < lw.length))), (eN i), (ixp uw i), (eB (lw.getD i 0)), (eN k), (Value.bool (decide (k < 8))), (eN k), (eB (lw.getD i 0)), (eN k), (eB (shrB (lw.getD i 0) k)), (eB ((shrB (lw.getD i 0) k) &&& 1)), vT, vT, (Value.func (.yield l) #[] #[]), (eN i), (eN (8 * i)), (eN k)] ++ (zs z 26 6)) ?_
    refine wG (n_add (a := (8 * i)) (b := k) rfl rfl oo) ?_
    refine wpL.on rfl rfl rfl (nb rfl) rfl (d_yield (xl := [.tmp 26]) (al := [(eN (8 * i + k))]) rfl rfl (hy _ _ (by rw [ones_yes c2_ kb_]; exact onesTo_pre _ oo) _ hJ2)) ?_
    rintro _ w15 ⟨t, rfl, hT, hF⟩
    refine wG (d_not rfl rfl) ?_
    refine wI (d_pick (b := true) (v := (Value.bool (!t))) rfl rfl) ?_
    refine wF [(Value.func (.yield l) #[] #[]), (ptr b 0), undef, (eN i), (eB (lw.getD i 0)), (eN k), uw, (eN lw.length), (eN i), (Value.bool (decide (i < lw.length))), (eN i), (ixp uw i), (eB (lw.getD i 0)), (eN k), (Value.bool (decide (k < 8))), (eN k), (eB (lw.getD i 0)), (eN k), (eB (shrB (lw.getD i 0) k)), (eB ((shrB (lw.getD i 0) k) &&& 1)), vT, vT, (Value.func (.yield l) #[] #[]), (eN i), (eN (8 * i)), (eN k), (eN (8 * i + k)), (Value.bool t), (Value.bool (!t)), (Value.bool (!t)), (z 30), (z 31)] ?_
    refine wD (tN ?_)
    refine forget (fun zf16 => ([(Value.func (.yield l) #[] #[]), (ptr b 0), undef, (eN i), (eB (lw.getD i 0)), (zf16 5), uw, (eN lw.length), (eN i), (Value.bool (decide (i < lw.length))), (eN i), (ixp uw i), (eB (lw.getD i 0)), (eN k)] ++ (zs zf16 14 15 ++ [(Value.bool (!t)), (zf16 30), (z 31)]))) kr (fun zf16 => ?_)
    refine cond_b rfl (fun c0_ => ?_) (fun c0_ => ?_)
    ·
     refine wpIn_ret ?_
     refine inb_r (then_r (then_r (inb_r (inb_r (then_r (then_r (inb_r ?_)))))))
     refine leave0 (v := (Value.tuple #[])) (res0 Try.results96) ?_
     exact .inr ⟨_, by rw [ones_yes c2_ kb_]; exact onesTo_pre _ oo, hF (by simpa using c0_)⟩
    obtain ⟨hJ3, oY⟩ := hT (by simpa using c0_)
    rw [ones_yes c2_ kb_] at hJ3
    replace hb := hb.step oY (fun h => h kb)
    replace hw := hw.yield hX oY
    refine wK ?_
    refine inb_n (tN ?_)
    refine pL ?_
    refine wI (n_add (a := k) (b := 1) rfl rfl oo) ?_
    refine wI (d_move rfl) ?_
    refine wD (tN ?_)
    refine ⟨_, (k + 1), rfl, kr, ⟨?_, ?_, ?_, ?_⟩, ?_⟩
    ·
     (try dsimp only)
     all_goals (omega)
    ·
     exact hJ3
    ·
     exact hb
    ·
     exact hw
    ·
     (try dsimp only)
     all_goals (omega)
   refine wp_eq (l' := ([(Value.func (.yield l) #[] #[]), (ptr b 0), undef, (eN i), (eB (lw.getD i 0)), (eN k), uw, (eN lw.length), (eN i), (Value.bool (decide (i < lw.length))), (eN i), (ixp uw i), (eB (lw.getD i 0)), (eN k), (Value.bool (decide (k < 8))), (eN k)] ++ (zs z 16 16))) rfl ?_
   refine pL ?_
   refine wI (d_move rfl) ?_
   refine wI (d_move rfl) ?_
   refine wI (b_shr (a := k) rfl rfl oo) ?_
   refine wI (b_and (c := (shrB (lw.getD i 0) k)) (e := 1) rfl rfl) ?_
   refine wI (b_eql (c := ((shrB (lw.getD i 0) k) &&& 1)) (e := 1) rfl rfl (decide_eq_false kb_)) ?_
   refine wF ([(Value.func (.yield l) #[] #[]), (ptr b 0), undef, (eN i), (eB (lw.getD i 0)), (eN k), uw, (eN lw.length), (eN i), (Value.bool (decide (i < lw.length))), (eN i), (ixp uw i), (eB (lw.getD i 0)), (eN k), (Value.bool (decide (k < 8))), (eN k), (eB (lw.getD i 0)), (eN k), (eB (shrB (lw.getD i 0) k)), (eB ((shrB (lw.getD i 0) k) &&& 1)), vF] ++ (zs z 21 11)) ?_
   refine wI (d_move rfl) ?_
   refine wX ?_
   refine wX ?_
   refine wX ?_
   refine wF ([(Value.func (.yield l) #[] #[]), (ptr b 0), undef, (eN i), (eB (lw.getD i 0)), (eN k), uw, (eN lw.length), (eN i), (Value.bool (decide (i < lw.length))), (eN i), (ixp uw i), (eB (lw.getD i 0)), (eN k), (Value.bool (decide (k < 8))), (eN k), (eB (lw.getD i 0)), (eN k), (eB (shrB (lw.getD i 0) k)), (eB ((shrB (lw.getD i 0) k) &&& 1)), vF, vF, undef, undef, undef] ++ (zs z 25 7)) ?_
   refine wX ?_
   refine wX ?_
   refine wX ?_
   refine wX ?_
   refine wI (d_pick (b := false) (v := vF) rfl rfl) ?_
   refine wF ([(Value.func (.yield l) #[] #[]), (ptr b 0), undef, (eN i), (eB (lw.getD i 0)), (eN k), uw, (eN lw.length), (eN i), (Value.bool (decide (i < lw.length))), (eN i), (ixp uw i), (eB (lw.getD i 0)), (eN k), (Value.bool (decide (k < 8))), (eN k), (eB (lw.getD i 0)), (eN k), (eB (shrB (lw.getD i 0) k)), (eB ((shrB (lw.getD i 0) k) &&& 1)), vF, vF] ++ (us 7 ++ [vF, (z 30), (z 31)])) ?_
   refine wD ?_
   have hJ3 := hJ2
   rw [← ones_no c2_ kb_] at hJ3
   refine tN ?_
   refine forget (fun zf17 => ([(Value.func (.yield l) #[] #[]), (ptr b 0), undef, (eN i), (eB (lw.getD i 0)), (zf17 5), uw, (eN lw.length), (eN i), (Value.bool (decide (i < lw.length))), (eN i), (ixp uw i), (eB (lw.getD i 0)), (eN k)] ++ (zs zf17 14 15 ++ [vF, (zf17 30), (z 31)]))) kr (fun zf17 => ?_)
   refine cond_f rfl ?_
   refine wK ?_
   refine inb_n (tN ?_)
   refine pL ?_
   refine wI (n_add (a := k) (b := 1) rfl rfl oo) ?_
   refine wI (d_move rfl) ?_
   refine wD (tN ?_)
   refine ⟨_, (k + 1), rfl, kr, ⟨?_, ?_, ?_, ?_⟩, ?_⟩
   ·
    (try dsimp only)
    all_goals (omega)
   ·
    exact hJ3
   ·
    exact hb
   ·
    exact hw
   ·
    (try dsimp only)
    all_goals (omega)
  refine wpIn_exit ?_
  refine then_x (then_x (inb_e ?_))
  refine inb_n (tN ?_)
  refine pL ?_
  refine wI (n_add (a := i) (b := 1) rfl rfl oo) ?_
  refine wI (d_move rfl) ?_
  refine wD (tN ?_)
  refine ⟨_, (i + 1), rfl, kr, ⟨?_, ?_, ?_, ?_⟩, ?_⟩
  ·
   (try dsimp only)
   all_goals (omega)
  ·
   (try dsimp only)
   all_goals (rw [show k = 8 by omega] at hJ2; exact hJ2)
  ·
   exact hb
  ·
   exact hw
  ·
   (try dsimp only)
   all_goals (omega)
 refine wpIn_exit ?_
 refine then_x (then_x (inb_e ?_))
 refine to_ret ?_
 refine leave0 (v := (Value.tuple #[])) (res0 Try.results96) ?_
 exact .inl (by rw [show i = lw.length by omega] at hJ; exact hJ)
theorem iter_bitsOnes {O X : Nat → Prop} {w0 : World} (lw : List UInt8) (uw : Value) (b : Nat) (hg : lw.length ≤ 1048576) (hb : Arr 22 b [uw] w0) (nb : ¬ O b) (hw : Ps X (Seq kB lw uw) w0) (hX : ∀ k, O k → X k) : Iter Try.prog 96 [ptr b 0].toArray (fun x => [eN x].toArray) No (Kp O w0.heap.size) (onesP lw) w0 :=
  iter_of (encs := fun x => [eN x]) fun l J Jx W hO SJ SJx hy hJ => bitsOnes1_ok lw uw b l J Jx W (hb.step hO (fun h => h ⟨hb.lt, nb⟩)) ⟨hb.lt, nb⟩ (hw.kp hX hO) hX hg hy hJ
theorem bitsCount_ok (la : List UInt8) (u1 : Value) (b : Nat) (W : World) (hb : Arr 22 b [u1] W) (h1 : Ps No (Seq kB la u1) W) (g1 : la.length ≤ 1048576) :
    CW Try.prog 69 #[(Value.func (.func 96) #[] #[(ptr b 0)])] W (Rt (RIs (eN (onesN la)) W)) := by
 have oW : Only No W W := Only.refl _ _
 refine enter (al := [(Value.func (.func 96) #[] #[(ptr b 0)])]) (k := 8) (l := ([(Value.func (.func 96) #[] #[(ptr b 0)])] ++ (us 8))) Try.func69 rfl Try.ntmps69 rfl rfl ?_
 refine wQ (pL ?_)
 refine wI (d_assign rfl) ?_
 refine wD (tN (wQ (pL ?_)))
 refine wO (d_alloc s_ti3 rfl) ?_
 rintro _ w11 ⟨c, rfl, g12, a13, o14⟩
 have n_b_c : b ≠ c := hb.ne g12
 have g_oW_c : W.heap.size ≤ c := Nat.le_trans oW.size g12
 replace h1 := h1.new o14 g12
 replace hb := hb.step0 o14
 replace oW := oW.tail0 o14
 refine wO (d_store s_ti3 rfl rfl rfl a13 (nb rfl) rfl) ?_
 rintro _ w15 ⟨a16, o17⟩
 replace h1 := h1.stepb o17 in1
 replace hb := hb.step o17 (fun e => absurd e n_b_c)
 replace oW := oW.tailb o17 g_oW_c
 refine wD (tN (wQ (wQ (pL ?_))))
 refine wI (d_move rfl) ?_
 refine wD (tN (wB ?_))
 refine wp_eq (l' := [(Value.func (.func 96) #[] #[(ptr b 0)]), undef, (eN 0), (ptr c 0), (Value.func (.func 96) #[] #[(ptr b 0)]), undef, undef, undef, undef]) rfl ?_
 have h_lt_b := hb.lt
 have h_lt_c := a16.lt
 have tq_oW := oW.size
 have nO_b : ¬ (Or1 c No) b := (not_or1 n_b_c not_no)
 obtain ⟨D_, hD_⟩ : ∃ D_, w15.heap.size = D_ := ⟨_, rfl⟩
 obtain ⟨L_, hL_⟩ : ∃ L_, w15.heap.size + 1 = L_ := ⟨_, rfl⟩
 refine range_ (encs := (fun x => [eN x])) (Pv := No) (O := (Or1 c No)) (xs := (onesP la)) (D := D_) (L := L_) (rs := []) hD_ hL_ rfl Try.func96 kr rfl (iter_bitsOnes la u1 b fo hb nO_b h1 (or1_mono no_any)) (fun k t => t.elim) (fun _ => rfl) (lt_or1 h_lt_c lt_no) (fun (pre : List Nat) (w_ : World) => Only (Or1 c No) w15 w_ ∧ Arr 22 b [u1] w_ ∧ Arr 3 c [(eN pre.length)] w_) (fun _ _ _ => False) ?_ ?_ ?_ ?_ ?_ ?_
 ·
  rintro pre w_ w2_ ⟨o18, hb, a16⟩ ho_
  exact ⟨o18.tail ho_ (stab_tl hD_ hL_ (fun k t => t.elim)), hb.step ho_ (stab_b hD_ hL_ h_lt_b (fun t => t.elim)), a16.step ho_ (stab_b hD_ hL_ h_lt_c (fun t => t.elim))⟩
 ·
  intro _ _ _ _ h _; exact h.elim
 ·
  refine ⟨?_, ?_, ?_⟩
  ·
   exact Only.refl _ _
  ·
   exact hb
  ·
   exact a16
 ·
  intro pre x w1_ hpx_ hI_ hL1_
  obtain ⟨o18, hb, a16⟩ := hI_
  replace h1 := Ps.re (X' := (Or1 L_ (Or1 D_ (Or1 c No)))) h1 o18 (or1_mono no_any) (xx_new oo (xx_new (Nat.le_of_eq hD_) (xx_or1 xx_id)))
  replace oW := oW.tail o18 (tl_new g_oW_c tl_no)
  have n_b_D_ : b ≠ D_ := by omega
  have n_c_D_ : c ≠ D_ := by omega
  have g_oW_D_ : W.heap.size ≤ D_ := by omega
  have g_o18_D_ : w15.heap.size ≤ D_ := by omega
  have n_b_L_ : b ≠ L_ := by omega
  have n_c_L_ : c ≠ L_ := by omega
  have g_oW_L_ : W.heap.size ≤ L_ := by omega
  have g_o18_L_ : w15.heap.size ≤ L_ := by omega
  have n_D__L_ : D_ ≠ L_ := by omega
  have aL_ : Dead L_ w1_ := hL1_
  have aD_ : Dead D_ w1_ := by unfold Dead; omega
  refine wp_eq (l' := [(Value.func (.func 96) #[] #[(ptr b 0)]), undef, (eN 0), (ptr c 0), (Value.func (.func 96) #[] #[(ptr b 0)]), (eN x), undef, undef, undef]) kr ?_
  refine wK (tN ?_)
  refine ⟨Only.refl _ _, fun w2_ oL_ _ => ?_⟩
  replace h1 := h1.stepb oL_ in1
  replace hb := hb.step oL_ (fun e => absurd e n_b_L_)
  replace a16 := a16.step oL_ (fun e => absurd e n_c_L_)
  replace aD_ := aD_.step oL_ (fun e => absurd e n_D__L_)
  replace oW := oW.tailb oL_ g_oW_L_
  replace o18 := o18.tailb oL_ g_o18_L_
  replace aL_ : Dead L_ w2_ := Nat.lt_of_lt_of_le aL_ oL_.size
  have oR_ : Only (fun k => (Or1 c No) k ∨ L_ < k) w2_ w2_ := Only.refl _ _
  have hp_ := pre_len hpx_
  refine wB (pL ?_)
  refine wI (d_load (v := (eN pre.length)) ⟨_, Try.underlying3, rfl⟩ rfl a16 rfl) ?_
  refine wI (n_add (a := pre.length) (b := 1) rfl rfl oo) ?_
  refine wO (d_store s_ti3 rfl rfl rfl a16 (nb rfl) rfl) ?_
  rintro _ w19 ⟨a20, o21⟩
  replace h1 := h1.stepb o21 (in2 (in2 in1))
  replace hb := hb.step o21 (fun e => absurd e n_b_c)
  replace aD_ := aD_.step o21 (fun e => absurd e (Ne.symm n_c_D_))
  replace aL_ := aL_.step o21 (fun e => absurd e (Ne.symm n_c_L_))
  replace oW := oW.tailb o21 g_oW_c
  replace o18 := o18.tail o21 (fun k _ e => by have : k = c := e; rw [this]; exact in1)
  replace oR_ := oR_.tail o21 (fun k _ e => by have : k = c := e; rw [this]; exact (Or.inl in1))
  refine wF [(Value.func (.func 96) #[] #[(ptr b 0)]), undef, (eN 0), (ptr c 0), (Value.func (.func 96) #[] #[(ptr b 0)]), (eN x), (eN pre.length), (eN (pre.length + 1)), undef] ?_
  refine wD ?_
  refine inb_n ?_
  refine ⟨oR_, ?_, ?_, ?_⟩
  ·
   exact o18
  ·
   exact hb
  ·
   (try dsimp only)
   all_goals (rw [List.length_append]; exact a20)
 ·
  intro w1_ hI_ aD_
  obtain ⟨o18, hb, a16⟩ := hI_
  replace h1 := Ps.re (X' := (Or1 D_ (Or1 c No))) h1 o18 (or1_mono no_any) (xx_new (Nat.le_of_eq hD_) (xx_or1 xx_id))
  replace oW := oW.tail o18 (tl_new g_oW_c tl_no)
  have n_b_D_ : b ≠ D_ := by omega
  have n_c_D_ : c ≠ D_ := by omega
  have g_oW_D_ : W.heap.size ≤ D_ := by omega
  have g_o18_D_ : w15.heap.size ≤ D_ := by omega
  refine inb_n (tN ?_)
  refine wQ (pL ?_)
  refine wI (d_load (v := (eN ((onesP la).length))) ⟨_, Try.underlying3, rfl⟩ rfl a16 rfl) ?_
  refine wI (d_assign rfl) ?_
  refine wD (tN ?_)
  refine wpIn_ret ?_
  refine leave (marks_ok aD_) (fun w22 o23 => ⟨res1 Try.results69 rfl, ?_⟩)
  replace o23 := only_mem o23
  replace h1 := h1.stepb o23 in1
  replace hb := hb.step o23 (fun e => absurd e n_b_D_)
  replace a16 := a16.step o23 (fun e => absurd e n_c_D_)
  replace oW := oW.tailb o23 g_oW_D_
  replace o18 := o18.tailb o23 g_o18_D_
  exact ⟨rfl, oW⟩
 ·
  intro _ _ _ _ h _; exact h.elim
theorem bitsOnesN_ok (la : List UInt8) (u1 : Value) (W : World) (h1 : Ps No (Seq kB la u1) W) (g1 : la.length ≤ 1048576) :
    CW Try.prog 44 #[u1] W (Rt (RIs (eN (onesN la)) W)) := by
 have oW : Only No W W := Only.refl _ _
 refine enter (al := [u1]) (k := 5) (l := ([u1] ++ (us 5))) Try.func44 rfl Try.ntmps44 rfl rfl ?_
 refine wQ (pL ?_)
 refine wI (d_assign rfl) ?_
 refine wD (tN (wQ (pL ?_)))
 refine wI (d_move rfl) ?_
 refine wO (d_call (xl := [.tmp 3]) (al := [u1]) Try.func70 kr rfl rfl rfl (bitsOnes_ok la u1 _ (Ps.no h1))) ?_
 rintro _ w11 ⟨b13, rfl, g14, a15, o12⟩
 have g_oW_b13 : W.heap.size ≤ b13 := Nat.le_trans oW.size g14
 replace h1 := h1.new o12 g14
 replace oW := oW.tail0 o12
 refine wO (d_call (xl := [.tmp 4]) (al := [(Value.func (.func 96) #[] #[(ptr b13 0)])]) Try.func69 kr rfl rfl rfl (bitsCount_ok la u1 b13 _ a15 (Ps.no h1) fo)) ?_
 rintro _ w16 ⟨rfl, o17⟩
 replace h1 := h1.step0 o17
 replace a15 := a15.step0 o17
 replace oW := oW.tail0 o17
 refine wI (d_assign rfl) ?_
 refine wF [u1, undef, (eN (onesN la)), u1, (Value.func (.func 96) #[] #[(ptr b13 0)]), (eN (onesN la))] ?_
 refine wD (tN ?_)
 refine wpIn_ret ?_
 refine leave0 (v := (eN (onesN la))) (res1 Try.results44 rfl) ?_
 exact ⟨rfl, oW⟩
theorem bitsFlip_ok (la : List UInt8) (ls : List Int) (u1 u2 : Value) (W : World) (h1 : Ps No (Seq kB la u1) W) (h2 : Ps No (Seq kI ls u2) W) (g1 : la.length ≤ 1048576) (g2 : ls.length ≤ 1048576) :
    CW Try.prog 86 #[u1, u2] W (Rt (ROw 5 eB (flipI la ls) W)) := by
 have oW : Only No W W := Only.refl _ _
 refine enter (al := [u1, u2]) (k := 36) (l := ([u1, u2] ++ (us 36))) Try.func86 rfl Try.ntmps86 rfl rfl ?_
 refine wQ (pL ?_)
 refine wI (d_assign rfl) ?_
 refine wD (tN (wQ (pL ?_)))
 refine wI (d_move rfl) ?_
 refine wO (d_call (xl := [.tmp 8]) (al := [u1]) Try.func41 kr rfl rfl rfl (cloneB_ok la u1 _ (Ps.no h1) fo)) ?_
 rintro u13 w11 f14
 obtain ⟨bo15, f14, g16, o12⟩ := f14
 have q_oW_o := qnew g16 oW.size
 replace h1 := h1.newq o12 g16
 replace h2 := h2.newq o12 g16
 replace oW := oW.tail0 o12
 refine wI (d_assign rfl) ?_
 refine wD (tN (wQ (wQ (pL ?_))))
 refine wI (d_move rfl) ?_
 refine wF ([u1, u2, undef, undef, (Value.slice none 0 0), u13, undef, undef, u1, u13, u2] ++ (us 27)) ?_
 refine wI (d_lenS rfl Try.underlying23 rfl h2) ?_
 refine wI (d_move rfl) ?_
 refine wD (tN (wB ?_))
 refine loop2 (fun (i : (Nat)) => fun (z : Nat → Value) => (([u1, u2, undef, undef, (Value.slice none 0 0), u13, undef, (z 7), u1, u13, u2, (eN ls.length), (eN i)] ++ (zs z 13 23 ++ [undef, undef])) : List Value)) (fun (i : (Nat)) => fun (w_ : World) => (i ≤ ls.length) ∧ Only (Orq bo15 No) w11 w_ ∧ Ow 5 1 bo15 u13 (flipI la (ls.take i)).length ((flipI la (ls.take i)).map eB) w_) (fun (i : (Nat)) => ls.length - i) 0 kr ?_ ?_
 ·
  refine ⟨?_, ?_, ?_⟩
  ·
   exact Nat.zero_le _
  ·
   exact Only.refl _ _
  ·
   exact f14
 rintro i z w18 ⟨hi, o17, f14⟩
 (try dsimp only)
 replace h1 := h1.step o17 (orq_mono no_any)
 replace h2 := h2.step o17 (orq_mono no_any)
 replace oW := oW.tail o17 (tl_q q_oW_o (fun _ e => by cases e) tl_no)
 have q_o17_o : Fr bo15 bo15 w11.heap.size := Fr.same
 refine wQ (pL ?_)
 refine wI (n_lss (a := i) (b := ls.length) rfl rfl rfl) ?_
 refine wD (tN (wQ ?_))
 refine cond_if rfl (fun c0 => ?_) (fun c0 => ?_)
 ·
  refine wK (tN (wQ (wB (wQ (pL ?_)))))
  refine wI (d_ix (i := i) (xs := ls) Try.underlying23 s_ti3 rfl h2 (show _ = Value.int _ (i : Int) from rfl) fo) ?_
  refine wI (d_ldx (i := i) (xs := ls) (enc := eI) (v := (ls.getD i 0)) ⟨_, Try.underlying3, rfl⟩ rfl h2 (g_at fo)) ?_
  refine wI (d_assign rfl) ?_
  refine wD (tN (wQ ?_))
  have hl_ := flipI_length la (ls.take i)
  by_cases k0 : 0 ≤ (ls.getD i 0)
  ·
   obtain ⟨n_, hn_⟩ := Int.eq_ofNat_of_zero_le k0
   refine wp_eq (l' := ([u1, u2, undef, undef, (Value.slice none 0 0), u13, undef, (eI (ls.getD i 0)), u1, u13, u2, (eN ls.length), (eN i), (Value.bool (decide (i < ls.length))), (ixp u2 i), (eI (ls.getD i 0))] ++ (zs z 16 20 ++ [undef, undef]))) rfl ?_
   refine wp_eq (l' := ([u1, u2, undef, undef, (Value.slice none 0 0), u13, undef, (eN n_), u1, u13, u2, (eN ls.length), (eN i), (Value.bool (decide (i < ls.length))), (ixp u2 i), (eI (ls.getD i 0))] ++ (zs z 16 20 ++ [undef, undef]))) (show (([u1, u2, undef, undef, (Value.slice none 0 0), u13, undef, (eI (ls.getD i 0)), u1, u13, u2, (eN ls.length), (eN i), (Value.bool (decide (i < ls.length))), (ixp u2 i), (eI (ls.getD i 0))] ++ (zs z 16 20 ++ [undef, undef])) : List Value) = ([u1, u2, undef, undef, (Value.slice none 0 0), u13, undef, (eN n_), u1, u13, u2, (eN ls.length), (eN i), (Value.bool (decide (i < ls.length))), (ixp u2 i), (eI (ls.getD i 0))] ++ (zs z 16 20 ++ [undef, undef])) from reslot ([u1, u2, undef, undef, (Value.slice none 0 0), u13, undef, (eI (ls.getD i 0)), u1, u13, u2, (eN ls.length), (eN i), (Value.bool (decide (i < ls.length))), (ixp u2 i), (eI (ls.getD i 0))] ++ (zs z 16 20 ++ [undef, undef])) 7 (congrArg eI hn_)) ?_
   refine pL ?_
   refine wI (d_move rfl) ?_
   refine wI (n_geq (a := n_) (b := 0) rfl rfl (decide_eq_true oo)) ?_
   refine wI (d_move rfl) ?_
   refine wG (d_move rfl) ?_
   refine wG (d_move rfl) ?_
   refine wF ([u1, u2, undef, undef, (Value.slice none 0 0), u13, undef, (eN n_), u1, u13, u2, (eN ls.length), (eN i), (Value.bool (decide (i < ls.length))), (ixp u2 i), (eI (ls.getD i 0)), (eN n_), vT, vT, (eN n_), u13] ++ (zs z 21 15 ++ [undef, undef])) ?_
   refine wG (d_lenS rfl Try.underlying22 rfl (f14.seq (X := No) (fun _ _ h => h))) ?_
   refine wG (n_mul (a := 8) (b := ((flipI la (ls.take i)).length)) rfl rfl oo) ?_
   refine wG (n_lss (a := n_) (b := (8 * ((flipI la (ls.take i)).length))) rfl rfl rfl) ?_
   refine wI (d_pick (b := true) (v := (Value.bool (decide (n_ < (8 * ((flipI la (ls.take i)).length)))))) rfl rfl) ?_
   refine wD (tN ?_)
   refine forget (fun zf19 => ([u1, u2, undef, undef, (Value.slice none 0 0), u13, undef, (eN n_), u1, u13, u2, (eN ls.length), (eN i)] ++ (zs zf19 13 11 ++ [(Value.bool (decide (n_ < (8 * ((flipI la (ls.take i)).length)))))] ++ (zs z 25 10 ++ [(zf19 35), undef, undef])))) kr (fun zf19 => ?_)
   refine cond_if rfl (fun k1 => ?_) (fun k1 => ?_)
   ·
    refine drawn_last (O := (Isq bo15)) (m := 10) (R := fun w_ => Ow 5 1 bo15 u13 ((flipI la (ls.take i)).set (n_ / 8) (((flipI la (ls.take i)).getD (n_ / 8) 0) ^^^ (shlB 1 (n_ % 8)))).length (((flipI la (ls.take i)).set (n_ / 8) (((flipI la (ls.take i)).getD (n_ / 8) 0) ^^^ (shlB 1 (n_ % 8)))).map eB) w_) [0, 0, 2, 7, 15, 0, 32, 96, 255, 511, 1023] [(0, 25), (1, 26), (2, 27), (3, 28), (4, 29), (5, 30), (6, 31), (7, 32), (8, 33), (9, 34)] [u13, (eN n_), (eN (n_ / 8)), (ixp u13 (n_ / 8)), (eB ((flipI la (ls.take i)).getD (n_ / 8) 0)), (eN n_), (eN (n_ % 8)), (eB (shlB 1 (n_ % 8))), (eB (((flipI la (ls.take i)).getD (n_ / 8) 0) ^^^ (shlB 1 (n_ % 8)))), (ixp u13 (n_ / 8))] ([u1, u2, undef, undef, (Value.slice none 0 0), u13, undef, (eN n_), u1, u13, u2, (eN ls.length), (eN i)] ++ (zs zf19 13 11 ++ [(Value.bool (decide (n_ < (8 * ((flipI la (ls.take i)).length))))), u13, (eN n_), (eN (n_ / 8)), (ixp u13 (n_ / 8)), (eB ((flipI la (ls.take i)).getD (n_ / 8) 0)), (eN n_), (eN (n_ % 8)), (eB (shlB 1 (n_ % 8))), (eB (((flipI la (ls.take i)).getD (n_ / 8) 0) ^^^ (shlB 1 (n_ % 8)))), (ixp u13 (n_ / 8)), (zf19 35), undef, undef])) s_mx kr kr rfl rfl (by decide) kr kr ?_ (fun _ _ h_ ho_ => h_.step0 ho_) ⟨_, rfl, rfl, fun w_ hO_ => gd rfl ((d_stx (i := (n_ / 8)) (xs := (flipI la (ls.take i))) (enc := eB) (v := (((flipI la (ls.take i)).getD (n_ / 8) 0) ^^^ (shlB 1 (n_ % 8)))) s_ti5 rfl rfl rfl (f14.step0 hO_) (by have := flipI_length la (ls.take i); first | omega | (simp; done) | (simp; omega)) rfl).mono fun u_ w2_ h_ => ⟨h_.2, h_.1⟩)⟩ ?_
    ·
     intro w_ hO_
     refine AllG.cons (gi rfl (d_move rfl)) ?_
     refine AllG.cons (gi rfl (d_move rfl)) ?_
     refine AllG.cons (gi rfl (n_quo (a := n_) (b := 8) rfl rfl (by decide) oo)) ?_
     refine AllG.cons (gi rfl (d_ix (i := (n_ / 8)) (xs := (flipI la (ls.take i))) Try.underlying22 s_ti5 rfl ((f14.step0 hO_).seq (X := No) (fun _ _ h => h)) (show _ = Value.int _ ((n_ / 8 : Nat) : Int) from rfl) (by have := flipI_length la (ls.take i); first | omega | (simp; done) | (simp; omega)))) ?_
     refine AllG.cons (gi rfl (d_ldx (i := (n_ / 8)) (xs := (flipI la (ls.take i))) (enc := eB) (v := ((flipI la (ls.take i)).getD (n_ / 8) 0)) ⟨_, Try.underlying5, rfl⟩ rfl ((f14.step0 hO_).seq (X := No) (fun _ _ h => h)) (g_at (by have := flipI_length la (ls.take i); first | omega | (simp; done) | (simp; omega))))) ?_
     refine AllG.cons (gi rfl (d_move rfl)) ?_
     refine AllG.cons (gi rfl (n_rem (a := n_) (b := 8) rfl rfl (by decide))) ?_
     refine AllG.cons (gi rfl (b_shl (a := (n_ % 8)) rfl rfl oo)) ?_
     refine AllG.cons (gi rfl (b_xor (c := ((flipI la (ls.take i)).getD (n_ / 8) 0)) (e := (shlB 1 (n_ % 8))) rfl rfl)) ?_
     refine AllG.cons (gi rfl (d_ix (i := (n_ / 8)) (xs := (flipI la (ls.take i))) Try.underlying22 s_ti5 rfl ((f14.step0 hO_).seq (X := No) (fun _ _ h => h)) (show _ = Value.int _ ((n_ / 8 : Nat) : Int) from rfl) (by have := flipI_length la (ls.take i); first | omega | (simp; done) | (simp; omega)))) ?_
     exact AllG.nil
    intro w20 o21 a22
    replace h1 := h1.gr o21 (fun k e => (.inl e)) (xx_re Fr.same xx_id)
    replace h2 := h2.gr o21 (fun k e => (.inl e)) (xx_re Fr.same xx_id)
    have tq := oW.size
    replace oW := oW.tailr o21 q_oW_o (fun _ e => by cases e)
    replace q_oW_o := qtr Fr.same q_oW_o tq
    clear tq
    have tq := o17.size
    replace o17 := o17.tailr o21 q_o17_o (fun k e => (.inl e))
    replace q_o17_o := qtr Fr.same q_o17_o tq
    clear tq
    refine inb_n (tN ?_)
    refine pL ?_
    refine wI (n_add (a := i) (b := 1) rfl rfl oo) ?_
    refine wI (d_move rfl) ?_
    refine wD (tN ?_)
    refine ⟨_, (i + 1), rfl, kr, ⟨?_, ?_, ?_⟩, ?_⟩
    ·
     (try dsimp only)
     all_goals (omega)
    ·
     exact o17
    ·
     (try dsimp only)
     all_goals (rw [flI_yes hn_ oo, flipI_next la c0] at a22; exact a22)
    ·
     (try dsimp only)
     all_goals (omega)
   refine wK ?_
   refine inb_n (tN ?_)
   refine pL ?_
   refine wI (n_add (a := i) (b := 1) rfl rfl oo) ?_
   refine wI (d_move rfl) ?_
   refine wD (tN ?_)
   refine ⟨_, (i + 1), rfl, kr, ⟨?_, ?_, ?_⟩, ?_⟩
   ·
    (try dsimp only)
    all_goals (omega)
   ·
    exact o17
   ·
    (try dsimp only)
    all_goals (rw [← flipI_next la c0, flI_no (fun h_ => absurd h_.2 oo)]; exact f14)
   ·
    (try dsimp only)
    all_goals (omega)
  refine pL ?_
  refine wI (d_move rfl) ?_
  refine wF ([u1, u2, undef, undef, (Value.slice none 0 0), u13, undef, (eI (ls.getD i 0)), u1, u13, u2, (eN ls.length), (eN i), (Value.bool (decide (i < ls.length))), (ixp u2 i), (eI (ls.getD i 0)), (eI (ls.getD i 0))] ++ (zs z 17 19 ++ [undef, undef])) ?_
  refine wI (d_geq (k := .i64) (m := (ls.getD i 0)) (n := 0) rfl rfl (decide_eq_false k0)) ?_
  refine wI (d_move rfl) ?_
  refine wX ?_
  refine wX ?_
  refine wX ?_
  refine wF ([u1, u2, undef, undef, (Value.slice none 0 0), u13, undef, (eI (ls.getD i 0)), u1, u13, u2, (eN ls.length), (eN i), (Value.bool (decide (i < ls.length))), (ixp u2 i), (eI (ls.getD i 0)), (eI (ls.getD i 0)), vF, vF, undef, undef, undef] ++ (zs z 22 14 ++ [undef, undef])) ?_
  refine wX ?_
  refine wX ?_
  refine wI (d_pick (b := false) (v := vF) rfl rfl) ?_
  refine wD (tN ?_)
  refine cond_f rfl ?_
  refine wK ?_
  refine inb_n (tN ?_)
  refine forget (fun zf23 => ([u1, u2, undef, undef, (Value.slice none 0 0), u13, undef, (zf23 7), u1, u13, u2, (eN ls.length), (eN i)] ++ (zs zf23 13 12 ++ (zs z 25 10 ++ [(zf23 35), undef, undef])))) kr (fun zf23 => ?_)
  refine pL ?_
  refine wI (n_add (a := i) (b := 1) rfl rfl oo) ?_
  refine wI (d_move rfl) ?_
  refine wD (tN ?_)
  refine ⟨_, (i + 1), rfl, kr, ⟨?_, ?_, ?_⟩, ?_⟩
  ·
   (try dsimp only)
   all_goals (omega)
  ·
   exact o17
  ·
   (try dsimp only)
   all_goals (rw [← flipI_next la c0, flI_no (fun h_ => k0 h_.1)]; exact f14)
  ·
   (try dsimp only)
   all_goals (omega)
 refine wpIn_exit ?_
 refine then_x (then_x (inb_e ?_))
 refine tN ?_
 refine forget (fun zf24 => (zs zf24 0 5 ++ [u13] ++ (zs zf24 6 6 ++ [(eN i)] ++ (zs zf24 13 25)))) kr (fun zf24 => ?_)
 refine wQ (pL ?_)
 refine wI (d_move rfl) ?_
 refine wO (d_call (xl := [.tmp 36]) (al := [u13]) Try.func41 kr rfl rfl rfl (cloneB_ok (flipI la (ls.take i)) u13 _ (Ps.no (f14.seq (X := No) (fun _ _ h => h))) (by have := flipI_length la (ls.take i); first | omega | (simp; done) | (simp; omega)))) ?_
 rintro u27 w25 f28
 obtain ⟨bo29, f28, g30, o26⟩ := f28
 have nqq_o_o2 := nqq_new g30 f14.lts
 have q_oW_o2 := qnew g30 oW.size
 have q_o17_o2 := qnew g30 o17.size
 replace h1 := h1.newq o26 g30
 replace h2 := h2.newq o26 g30
 replace f14 := f14.step0 o26
 replace oW := oW.tail0 o26
 replace o17 := o17.tail0 o26
 refine wI (d_assign rfl) ?_
 refine wD (tN ?_)
 refine wpIn_ret ?_
 refine leave0 (v := u27) (res1 Try.results86 rfl) ?_
 exact ROw.mk_ f28 (by rw [show i = ls.length by omega, List.take_length]) q_oW_o2 oW
theorem bitsMix_ok (la lb lm : List UInt8) (u1 u2 u3 : Value) (W : World) (h1 : Ps No (Seq kB la u1) W) (h2 : Ps No (Seq kB lb u2) W) (h3 : Ps No (Seq kB lm u3) W) (g1 : la.length ≤ 1048576) (g2 : lb.length ≤ 1048576) (g3 : lm.length ≤ 1048576) :
    CW Try.prog 83 #[u1, u2, u3] W (Rt (ROw 5 eB (mixR la lb lm) W)) := by
 have oW : Only No W W := Only.refl _ _
 refine enter (al := [u1, u2, u3]) (k := 48) (l := ([u1, u2, u3] ++ (us 48))) Try.func83 rfl Try.ntmps83 rfl rfl ?_
 refine wQ (pL ?_)
 refine wI (d_assign rfl) ?_
 refine wD (tN (wQ (wQ (pL ?_))))
 refine wI (d_move rfl) ?_
 refine wI (d_lenS rfl Try.underlying22 rfl h1) ?_
 refine wI (d_move rfl) ?_
 refine wI (d_lenS rfl Try.underlying22 rfl h2) ?_
 refine wF ([u1, u2, u3, undef, undef, undef, (Value.slice none 0 0), undef, undef, undef, u1, (eN la.length), u2, (eN lb.length)] ++ (us 37)) ?_
 refine wI (n_neq (a := la.length) (b := lb.length) rfl rfl rfl) ?_
 refine wD (tN ?_)
 refine cond_un rfl (fun c0 => ?_) (fun c0 => ?_)
 ·
  refine wQ (pL ?_)
  refine wI (d_assign rfl) ?_
  refine wD (tN ?_)
  refine forget (fun zf11 => (zs zf11 0 6 ++ [(Value.slice none 0 0)] ++ (zs zf11 7 12 ++ [undef] ++ (zs zf11 20 31)))) kr (fun zf11 => ?_)
  refine wpIn_ret ?_
  refine then_r ?_
  refine leave0 (v := (Value.slice none 0 0)) (res1 Try.results83 rfl) ?_
  exact ROw.nil ((if_neg c0).symm) oW
 refine wK (tN (wQ (pL ?_)))
 refine wI (d_move rfl) ?_
 refine wO (d_call (xl := [.tmp 15]) (al := [u1]) Try.func41 kr rfl rfl rfl (cloneB_ok la u1 _ (Ps.no h1) fo)) ?_
 rintro u14 w12 f15
 obtain ⟨bo16, f15, g17, o13⟩ := f15
 have q_oW_o := qnew g17 oW.size
 replace h1 := h1.newq o13 g17
 replace h2 := h2.newq o13 g17
 replace h3 := h3.newq o13 g17
 replace oW := oW.tail0 o13
 refine wI (d_assign rfl) ?_
 refine wD (tN ?_)
 refine forget (fun zf18 => ([u1, u2, u3, (zf18 3), (zf18 4), (zf18 5), (zf18 6), u14] ++ (zs zf18 8 11 ++ [undef] ++ (zs zf18 20 12 ++ (us 16 ++ [(zf18 48), (zf18 49), (zf18 50)]))))) kr (fun zf18 => ?_)
 refine wQ (wQ (pL ?_))
 refine wI (d_move rfl) ?_
 refine wI (d_lenS rfl Try.underlying22 rfl (f15.seq (X := No) (fun _ _ h => h))) ?_
 refine wI (d_move rfl) ?_
 refine wD (tN (wB ?_))
 refine loop2 (fun (i : (Nat)) => fun (z : Nat → Value) => (([u1, u2, u3, (zf18 3), (zf18 4), (zf18 5), (zf18 6), u14, (z 8), (z 9)] ++ (zs zf18 10 7 ++ [u14, (eN la.length), (eN i)] ++ (zs z 20 29 ++ [(zf18 49), (zf18 50)]))) : List Value)) (fun (i : (Nat)) => fun (w_ : World) => (i ≤ la.length) ∧ Only (Orq bo16 No) w12 w_ ∧ Ow 5 1 bo16 u14 (mixTo la lb lm i).length ((mixTo la lb lm i).map eB) w_) (fun (i : (Nat)) => la.length - i) 0 kr ?_ ?_
 ·
  refine ⟨?_, ?_, ?_⟩
  ·
   exact Nat.zero_le _
  ·
   exact Only.refl _ _
  ·
   (try dsimp only)
   all_goals (rw [← mixTo_zero]; exact f15)
 rintro i z w20 ⟨hi, o19, f15⟩
 (try dsimp only)
 replace h1 := h1.step o19 (orq_mono no_any)
 replace h2 := h2.step o19 (orq_mono no_any)
 replace h3 := h3.step o19 (orq_mono no_any)
 replace oW := oW.tail o19 (tl_q q_oW_o (fun _ e => by cases e) tl_no)
 have q_o19_o : Fr bo16 bo16 w12.heap.size := Fr.same
 refine wQ (pL ?_)
 refine wI (n_lss (a := i) (b := la.length) rfl rfl rfl) ?_
 refine wD (tN (wQ ?_))
 refine cond_if rfl (fun c1 => ?_) (fun c1 => ?_)
 ·
  refine wK (tN (wQ (wB (wQ (pL ?_)))))
  refine wI (d_move rfl) ?_
  refine wI (d_assign rfl) ?_
  refine wD (tN (wQ (pL ?_)))
  refine wI (d_move rfl) ?_
  refine wI (d_lenS rfl Try.underlying22 rfl h3) ?_
  refine wF ([u1, u2, u3, (zf18 3), (zf18 4), (zf18 5), (zf18 6), u14, (eN i), (z 9)] ++ (zs zf18 10 7 ++ [u14, (eN la.length), (eN i), (Value.bool (decide (i < la.length))), (eN i), u3, (eN lm.length)] ++ (zs z 24 25 ++ [(zf18 49), (zf18 50)]))) ?_
  refine wI (n_gtr (a := lm.length) (b := 0) rfl rfl rfl) ?_
  refine wD (tN ?_)
  refine cond_if rfl (fun c2 => ?_) (fun c2 => ?_)
  ·
   refine wQ (pL ?_)
   refine wI (d_move rfl) ?_
   refine wI (d_move rfl) ?_
   refine wI (d_move rfl) ?_
   refine wI (d_lenS rfl Try.underlying22 rfl h3) ?_
   refine wF ([u1, u2, u3, (zf18 3), (zf18 4), (zf18 5), (zf18 6), u14, (eN i), (z 9)] ++ (zs zf18 10 7 ++ [u14, (eN la.length), (eN i), (Value.bool (decide (i < la.length))), (eN i), u3, (eN lm.length), (Value.bool (decide (0 < lm.length))), u3, (eN i), u3, (eN lm.length)] ++ (zs z 29 20 ++ [(zf18 49), (zf18 50)]))) ?_
   refine wI (n_rem (a := i) (b := lm.length) rfl rfl oo) ?_
   refine wI (d_ix (i := (i % lm.length)) (xs := lm) Try.underlying22 s_ti5 rfl h3 (show _ = Value.int _ ((i % lm.length : Nat) : Int) from rfl) (Nat.mod_lt _ oo)) ?_
   refine wI (d_ldx (i := (i % lm.length)) (xs := lm) (enc := eB) (v := (lm.getD (i % lm.length) 0)) ⟨_, Try.underlying5, rfl⟩ rfl h3 (g_at (Nat.mod_lt _ oo))) ?_
   refine wI (d_assign rfl) ?_
   refine wD (tN ?_)
   refine forget (fun zf21 => ([u1, u2, u3, (zf18 3), (zf18 4), (zf18 5), (zf18 6), u14, (eN i), (eB (lm.getD (i % lm.length) 0))] ++ (zs zf18 10 7 ++ [u14, (eN la.length), (eN i)] ++ (zs zf21 20 12 ++ (zs z 32 16 ++ [(zf21 48), (zf18 49), (zf18 50)]))))) kr (fun zf21 => ?_)
   have hl_ := mixTo_length la lb lm i
   refine drawn_last (O := (Isq bo16)) (m := 16) (R := fun w_ => Ow 5 1 bo16 u14 ((mixTo la lb lm i).set i (((la.getD i 0) &&& ~~~(lm.getD (i % lm.length) 0)) ||| ((lb.getD i 0) &&& (lm.getD (i % lm.length) 0)))).length (((mixTo la lb lm i).set i (((la.getD i 0) &&& ~~~(lm.getD (i % lm.length) 0)) ||| ((lb.getD i 0) &&& (lm.getD (i % lm.length) 0)))).map eB) w_) [0, 0, 0, 0, 12, 28, 0, 124, 0, 0, 768, 1792, 0, 7936, 16380, 32767, 65535] [(0, 32), (1, 33), (2, 34), (3, 35), (4, 36), (5, 37), (6, 38), (7, 39), (8, 40), (9, 41), (10, 42), (11, 43), (12, 44), (13, 45), (14, 46), (15, 47)] [u14, (eN i), u1, (eN i), (ixp u1 i), (eB (la.getD i 0)), (eB (lm.getD (i % lm.length) 0)), (eB ((la.getD i 0) &&& ~~~(lm.getD (i % lm.length) 0))), u2, (eN i), (ixp u2 i), (eB (lb.getD i 0)), (eB (lm.getD (i % lm.length) 0)), (eB ((lb.getD i 0) &&& (lm.getD (i % lm.length) 0))), (eB (((la.getD i 0) &&& ~~~(lm.getD (i % lm.length) 0)) ||| ((lb.getD i 0) &&& (lm.getD (i % lm.length) 0)))), (ixp u14 i)] ([u1, u2, u3, (zf18 3), (zf18 4), (zf18 5), (zf18 6), u14, (eN i), (eB (lm.getD (i % lm.length) 0))] ++ (zs zf18 10 7 ++ [u14, (eN la.length), (eN i)] ++ (zs zf21 20 12 ++ [u14, (eN i), u1, (eN i), (ixp u1 i), (eB (la.getD i 0)), (eB (lm.getD (i % lm.length) 0)), (eB ((la.getD i 0) &&& ~~~(lm.getD (i % lm.length) 0))), u2, (eN i), (ixp u2 i), (eB (lb.getD i 0)), (eB (lm.getD (i % lm.length) 0)), (eB ((lb.getD i 0) &&& (lm.getD (i % lm.length) 0))), (eB (((la.getD i 0) &&& ~~~(lm.getD (i % lm.length) 0)) ||| ((lb.getD i 0) &&& (lm.getD (i % lm.length) 0)))), (ixp u14 i), (zf21 48), (zf18 49), (zf18 50)]))) s_mx kr kr rfl rfl (by decide) kr kr ?_ (fun _ _ h_ ho_ => h_.step0 ho_) ⟨_, rfl, rfl, fun w_ hO_ => gd rfl ((d_stx (i := i) (xs := (mixTo la lb lm i)) (enc := eB) (v := (((la.getD i 0) &&& ~~~(lm.getD (i % lm.length) 0)) ||| ((lb.getD i 0) &&& (lm.getD (i % lm.length) 0)))) s_ti5 rfl rfl rfl (f15.step0 hO_) (by rw [mixTo_length]; omega) rfl).mono fun u_ w2_ h_ => ⟨h_.2, h_.1⟩)⟩ ?_
   ·
    intro w_ hO_
    refine AllG.cons (gi rfl (d_move rfl)) ?_
    refine AllG.cons (gi rfl (d_move rfl)) ?_
    refine AllG.cons (gi rfl (d_move rfl)) ?_
    refine AllG.cons (gi rfl (d_move rfl)) ?_
    refine AllG.cons (gi rfl (d_ix (i := i) (xs := la) Try.underlying22 s_ti5 rfl (h1.step0 hO_) (show _ = Value.int _ (i : Int) from rfl) fo)) ?_
    refine AllG.cons (gi rfl (d_ldx (i := i) (xs := la) (enc := eB) (v := (la.getD i 0)) ⟨_, Try.underlying5, rfl⟩ rfl (h1.step0 hO_) (g_at fo))) ?_
    refine AllG.cons (gi rfl (d_move rfl)) ?_
    refine AllG.cons (gi rfl (b_andNot (c := (la.getD i 0)) (e := (lm.getD (i % lm.length) 0)) rfl rfl)) ?_
    refine AllG.cons (gi rfl (d_move rfl)) ?_
    refine AllG.cons (gi rfl (d_move rfl)) ?_
    refine AllG.cons (gi rfl (d_ix (i := i) (xs := lb) Try.underlying22 s_ti5 rfl (h2.step0 hO_) (show _ = Value.int _ (i : Int) from rfl) fo)) ?_
    refine AllG.cons (gi rfl (d_ldx (i := i) (xs := lb) (enc := eB) (v := (lb.getD i 0)) ⟨_, Try.underlying5, rfl⟩ rfl (h2.step0 hO_) (g_at fo))) ?_
    refine AllG.cons (gi rfl (d_move rfl)) ?_
    refine AllG.cons (gi rfl (b_and (c := (lb.getD i 0)) (e := (lm.getD (i % lm.length) 0)) rfl rfl)) ?_
    refine AllG.cons (gi rfl (b_or (c := ((la.getD i 0) &&& ~~~(lm.getD (i % lm.length) 0))) (e := ((lb.getD i 0) &&& (lm.getD (i % lm.length) 0))) rfl rfl)) ?_
    refine AllG.cons (gi rfl (d_ix (i := i) (xs := (mixTo la lb lm i)) Try.underlying22 s_ti5 rfl ((f15.step0 hO_).seq (X := No) (fun _ _ h => h)) (show _ = Value.int _ (i : Int) from rfl) (by have := mixTo_length la lb lm i; first | omega | (simp; done) | (simp; omega)))) ?_
    exact AllG.nil
   intro w22 o23 a24
   replace h1 := h1.gr o23 (fun k e => (.inl e)) (xx_re Fr.same xx_id)
   replace h2 := h2.gr o23 (fun k e => (.inl e)) (xx_re Fr.same xx_id)
   replace h3 := h3.gr o23 (fun k e => (.inl e)) (xx_re Fr.same xx_id)
   have tq := oW.size
   replace oW := oW.tailr o23 q_oW_o (fun _ e => by cases e)
   replace q_oW_o := qtr Fr.same q_oW_o tq
   clear tq
   have tq := o19.size
   replace o19 := o19.tailr o23 q_o19_o (fun k e => (.inl e))
   replace q_o19_o := qtr Fr.same q_o19_o tq
   clear tq
   refine inb_n (tN ?_)
   refine pL ?_
   refine wI (n_add (a := i) (b := 1) rfl rfl oo) ?_
   refine wI (d_move rfl) ?_
   refine wD (tN ?_)
   refine ⟨_, (i + 1), rfl, kr, ⟨?_, ?_, ?_⟩, ?_⟩
   ·
    (try dsimp only)
    all_goals (omega)
   ·
    exact o19
   ·
    (try dsimp only)
    all_goals (rw [mixTo_step la lb i c2] at a24; exact a24)
   ·
    (try dsimp only)
    all_goals (omega)
  refine wK ?_
  refine inb_n (tN ?_)
  refine pL ?_
  refine wI (n_add (a := i) (b := 1) rfl rfl oo) ?_
  refine wI (d_move rfl) ?_
  refine wD (tN ?_)
  refine ⟨_, (i + 1), rfl, kr, ⟨?_, ?_, ?_⟩, ?_⟩
  ·
   (try dsimp only)
   all_goals (omega)
  ·
   exact o19
  ·
   (try dsimp only)
   all_goals (rw [mixTo_none la lb i c2]; exact f15)
  ·
   (try dsimp only)
   all_goals (omega)
 refine wpIn_exit ?_
 refine then_x (then_x (inb_e ?_))
 refine tN (wQ (pL ?_))
 refine wI (d_move rfl) ?_
 refine wO (d_call (xl := [.tmp 49]) (al := [u14]) Try.func41 kr rfl rfl rfl (cloneB_ok (mixTo la lb lm i) u14 _ (Ps.no (f15.seq (X := No) (fun _ _ h => h))) (by have := mixTo_length la lb lm i; first | omega | (simp; done) | (simp; omega)))) ?_
 rintro u27 w25 f28
 obtain ⟨bo29, f28, g30, o26⟩ := f28
 have nqq_o_o2 := nqq_new g30 f15.lts
 have q_oW_o2 := qnew g30 oW.size
 have q_o19_o2 := qnew g30 o19.size
 replace h1 := h1.newq o26 g30
 replace h2 := h2.newq o26 g30
 replace h3 := h3.newq o26 g30
 replace f15 := f15.step0 o26
 replace oW := oW.tail0 o26
 replace o19 := o19.tail0 o26
 refine wI (d_assign rfl) ?_
 refine wD (tN ?_)
 refine forget (fun zf31 => (zs zf31 0 6 ++ [u27] ++ (zs zf31 7 12 ++ [(eN i)] ++ (zs zf31 20 31)))) kr (fun zf31 => ?_)
 refine wpIn_ret ?_
 refine leave0 (v := u27) (res1 Try.results83 rfl) ?_
 exact ROw.mk_ f28 (by rw [mixTo_done (i := i) oo]; exact (if_pos c0).symm) q_oW_o2 oW
end Go.Proofs.YtgalehapmdabeaaF
namespace Go.Proofs.YtgalehapmdabeaaF
open Go Shelf YtgalehapmdabeaaS
section
variable {P : Program} {dd : Option Tmp} {tt : TypeId} {s : String} {af : Array Edge} {g : Option (Nat × Bool)} {ρ : Operand → Value} {w : World} {t e : TypeId}
theorem dv_to {o : Oper} {v v' : Value} (h : DV P o ρ w v) (e : v = v') : DV P o ρ w v' := e ▸ h
end
def eP (x : Nat × Nat) : List Value := [eN x.1, eN x.2]
def eQ (x : Int × Int) : List Value := [eI x.1, eI x.2]
section
variable {P : Program} {d : Option Tmp} {tt : TypeId} {s : String} {af : Array Edge} {g : Option (Nat × Bool)} {ρ : Operand → Value} {w : World}
theorem d_buildL2 {t e : TypeId} {n sz bytes : Nat} {z : Value} {ps : List (Nat × Operand)} {qs : List (Nat × List Value)} {zs cs : List Value} (ht : P.underlying t = some (.slice e)) (hz : TI P e sz bytes z) (hzs : (madeCells z.cells (n * sz)).toList = zs) (hn : n * sz ≤ 16777216)
  (hq : ps.map (fun x => (x.1, (ρ x.2).cells.toList)) = qs) (hf : fillP (fun i => some (i * sz, sz)) zs qs = some cs) : Does P ⟨d, .buildSlice t n ps.toArray, tt, s, af, g⟩ ρ w (Made e w (fun b => sli b 0 n n) cs) := by
 refine d_buildSlice ht hz hn ?_
 have h3 := fill_of (pl := fun i => some (i * sz, sz)) (ps := ps.map (fun x => (x.1, ρ x.2))) (cs := madeCells z.cells (n * sz)) (cs' := cs) rfl (by rw [hzs, List.map_map, ← hf, ← hq]; rfl)
 have h4 : (ps.toArray.map fun (i, x) => (i, ρ x)).toList = ps.map (fun x => (x.1, ρ x.2)) := by simp
 rw [h4, ← h3]
end
def eV (v : Value) : Value := v
theorem map_eV (l : List Value) : l.map eV = l := by
 have : eV = id := rfl
 rw [this, List.map_id]
def Fam {α : Type} (q : Kd α) (n : Nat) (f : Nat → List α) (vd : List Value) (w : World) : Prop := ∀ i, i < n → Seq q (f i) (vd.getD i undef) w
theorem fam_at {α : Type} {q : Kd α} {n i : Nat} {f : Nat → List α} {vd : List Value} {X : Nat → Prop} {w : World} (h : Ps X (Fam q n f vd) w) (hi : i < n) : Ps X (Seq q (f i) (vd.getD i undef)) w := h.imp fun w' h' => h' i hi
theorem fam_set {α : Type} {q : Kd α} {n i : Nat} {f : Nat → List α} {vd : List Value} {X : Nat → Prop} {w : World} {l : List α} {u : Value} (h : Ps X (Fam q n f vd) w) (hu : Ps X (Seq q l u) w) (hn : vd.length = n) :
  Ps X (Fam q n (fun k => if k = i then l else f k) (vd.set i u)) w := fun w' hw k hk => by
 have h1 := h w' hw k hk
 have h2 := hu w' hw
 rw [List.getD_eq_getElem?_getD] at h1 ⊢
 by_cases hki : k = i
 ·subst hki
  rw [List.getElem?_set_self (by omega)]
  show Seq q (if k = k then l else f k) _ w'
  rw [if_pos rfl]
  exact h2
 ·rw [List.getElem?_set_ne (Ne.symm hki)]
  show Seq q (if k = i then l else f k) _ w'
  rw [if_neg hki]
  exact h1
theorem fam_zero {α : Type} {q : Kd α} {f : Nat → List α} {vd : List Value} {X : Nat → Prop} {w : World} : Ps X (Fam q 0 f vd) w := fun w' _ k hk => absurd hk (Nat.not_lt_zero k)
theorem fam_snoc {α : Type} {q : Kd α} {n : Nat} {f : Nat → List α} {l : List α} {vd : List Value} {X : Nat → Prop} {w : World} {u : Value} (h : Ps X (Fam q n f vd) w) (hu : Ps X (Seq q l u) w) (hl : l = f n) (hn : vd.length = n) : Ps X (Fam q (n + 1) f (vd ++ [u])) w := fun w' hw k hk => by
 subst hl
 rw [List.getD_eq_getElem?_getD]
 rcases Nat.lt_or_ge k n with h1 | h1
 ·rw [List.getElem?_append_left (by omega)]
  have := h w' hw k h1
  rw [List.getD_eq_getElem?_getD] at this
  exact this
 ·have : k = n := by omega
  subst this
  rw [List.getElem?_append_right (by omega), hn, Nat.sub_self]
  exact hu w' hw
def RF.mk_ (O : Nat → Prop) (mk : Nat → Value) (e : TypeId) (cs : List Value) (n0 : Nat) (h : ∀ k, O k → k < n0) : RF O :=
 ⟨fun _ u _ _ w => ∃ b, u = mk b ∧ Arr e b cs w ∧ n0 ≤ b, fun hp ho => by obtain ⟨b, h1, h2, h3⟩ := hp; exact ⟨b, h1, h2.step ho (fun t => by have := h b t; omega), h3⟩⟩
def RF.mkv_ (O : Nat → Prop) (mk : Nat → Value) (e : TypeId) (cs : (Nat → Value) → List Value) (n0 : Nat) (h : ∀ k, O k → k < n0) : RF O :=
 ⟨fun v u _ _ w => ∃ b, u = mk b ∧ Arr e b (cs v) w ∧ n0 ≤ b, fun hp ho => by obtain ⟨b, h1, h2, h3⟩ := hp; exact ⟨b, h1, h2.step ho (fun t => by have := h b t; omega), h3⟩⟩
theorem arr_ne {e1 e2 : TypeId} {b1 b2 : Nat} {c1 c2 : List Value} {w : World} (h1 : Arr e1 b1 c1 w) (h2 : Arr e2 b2 c2 w) (h : e1 ≠ e2) : b1 ≠ b2 := fun e => by
 subst e
 have h3 := h1.symm.trans h2
 injection h3 with h3
 injection h3 with _ h4
 exact h h4
end Go.Proofs.YtgalehapmdabeaaF
namespace Go.Proofs.YtgalehapmdabeaaF
open Go Shelf YtgalehapmdabeaaS Ram
structure St where
 nx : Nat
 er : Int
 bad : Bool
def stC : Nat → (Nat → St) → List Value
 | 0, _ => []
 | n + 1, f => stC n f ++ [eN (f n).nx, eI (f n).er, .bool (f n).bad]
section
variable {n i v : Nat} {f : Nat → St}
theorem stC_len (n : Nat) (f : Nat → St) : (stC n f).length = n * 3 := by
 induction n with
 | zero => rfl
 | succ n ih => rw [stC, List.length_append, ih]; simp; omega
theorem stC_at (hi : i < n) : (stC n f)[i * 3]? = some (eN (f i).nx) ∧ (stC n f)[i * 3 + 1]? = some (eI (f i).er) ∧ (stC n f)[i * 3 + 2]? = some (.bool (f i).bad) := by
 induction n with
 | zero => omega
 | succ n ih =>
  unfold stC
  rcases Nat.lt_or_ge i n with h | h
  ·have hl := stC_len n f
   obtain ⟨h1, h2, h3⟩ := ih h
   rw [List.getElem?_append_left (by omega), List.getElem?_append_left (by omega), List.getElem?_append_left (by omega)]
   exact ⟨h1, h2, h3⟩
  ·have : i = n := by omega
   subst this
   have hl := stC_len i f
   rw [List.getElem?_append_right (by omega), List.getElem?_append_right (by omega), List.getElem?_append_right (by omega), hl]
   simp
theorem stC_congr {g : Nat → St} (h : ∀ j, j < n → f j = g j) : stC n f = stC n g := by
 induction n with
 | zero => rfl
 | succ n ih => unfold stC; rw [ih (fun j hj => h j (by omega)), h n (by omega)]
theorem stC_set (hi : i < n) {k : Nat} (hk : k < 3) {x : Value} {s' : St} (h : ([eN (f i).nx, eI (f i).er, .bool (f i).bad] : List Value).set k x = [eN s'.nx, eI s'.er, .bool s'.bad]) : (stC n f).set (i * 3 + k) x = stC n (fun j => if j = i then s' else f j) := by
 induction n with
 | zero => omega
 | succ n ih =>
  unfold stC
  have hl := stC_len n f
  rcases Nat.lt_or_ge i n with h1 | h1
  ·rw [List.set_append_left _ _ (by omega), ih h1]
   have e : (fun j => if j = i then s' else f j) n = f n := if_neg (by omega)
   rw [e]
  ·have : i = n := by omega
   subst this
   have e : (fun j => if j = i then s' else f j) i = s' := if_pos rfl
   rw [List.set_append_right _ _ (by omega), hl, Nat.add_sub_cancel_left, h, e]
   congr 1
   exact stC_congr fun j hj => by rw [if_neg (by omega)]
end
structure NS where
 gD : Nat
 gB : Nat
 gP : Nat
 dl : Nat → List UInt8
 nl : Nat → List Int
 bl : Nat → Nat → St
 stop : Nat
 mask : List UInt8
 dead : Bool
 ops : Int
 wrong : Int
structure NL where
 tN : TypeId
 tD : TypeId
 tZ : TypeId
 tS : TypeId
 bN : Nat
 bD : Nat
 bZ : Nat
 bU : Option Nat
 ub : Value
 bk : List Nat
def NL.bs (L : NL) : List Nat := L.bN :: L.bD :: L.bZ :: L.bk
def NL.S (L : NL) : Nat → Prop := fun k => k ∈ L.bs ∨ L.bU = some k
def NS.n (s : NS) : Nat := s.gD * s.gB * s.gP
def NS.ix (s : NS) (d b p : Nat) : Nat := (d * s.gB + b) * s.gP + p
structure NS.Ok (s : NS) : Prop where
 d : 6 ≤ s.gD ∧ s.gD ≤ 8
 b : 8 ≤ s.gB ∧ s.gB ≤ 12
 p : 4 ≤ s.gP ∧ s.gP ≤ 8
 nx : ∀ d b, (s.bl d b).nx ≤ 8
 st : s.stop < 2 ^ 62
 dl : ∀ k, (s.dl k).length = 60
 nl : ∀ k, (s.nl k).length ≤ 1048576
 ml : s.mask.length ≤ 1048576
theorem NS.Ok.n_le {s : NS} (h : s.Ok) : s.n ≤ 768 := by
 unfold NS.n
 have h1 := Nat.mul_le_mul h.d.2 h.b.2
 exact Nat.le_trans (Nat.mul_le_mul h1 h.p.2) (by decide)
theorem NS.ix_lt {s : NS} {d b p : Nat} (hd : d < s.gD) (hb : b < s.gB) (hp : p < s.gP) : s.ix d b p < s.n := by
 unfold NS.ix NS.n
 have h1 : d * s.gB + b + 1 ≤ s.gD * s.gB := by
  have := Nat.mul_le_mul_right s.gB (show d + 1 ≤ s.gD from hd)
  rw [Nat.add_mul, Nat.one_mul] at this
  omega
 have h2 := Nat.mul_le_mul_right s.gP h1
 rw [Nat.add_mul, Nat.one_mul] at h2
 omega
def eK (n : Nat) : Nat → Value := fun b => sli b 0 n n
def nandC (bD bZ : Nat) (ub vm : Value) (s : NS) : List Value :=
 [eN s.gD, eN s.gB, eN s.gP, eN s.gD, eN s.gB, eN s.gP, sli bD 0 s.n s.n, eN s.gD, eN s.gB, eN s.gP, sli bZ 0 s.n s.n, ub, eN s.stop, vm, .bool s.dead, eI s.ops, eI s.wrong]
end Go.Proofs.YtgalehapmdabeaaF
namespace Go.Proofs.YtgalehapmdabeaaF
open Go Shelf YtgalehapmdabeaaS Ram
def onesW : List UInt8 := List.replicate 60 255
namespace NS
def there (s : NS) (d b : Int) : Bool := decide (0 ≤ d ∧ d < (s.gD : Int) ∧ 0 ≤ b ∧ b < (s.gB : Int))
def pageIn (s : NS) (d b p : Int) : Bool := s.there d b && decide (0 ≤ p ∧ p < (s.gP : Int))
def isBad (s : NS) (d b : Int) : Bool := s.there d b && (s.bl d.toNat b.toNat).bad
def erases (s : NS) (d b : Int) : Int := if s.there d b then (s.bl d.toNat b.toNat).er else 0
def ask (s : NS) (fine : Bool) : NS := { s with ops := if s.dead then s.ops else if fine then IntKind.i64.wrap (s.ops + 1) else s.ops, wrong := if s.dead then s.wrong else if fine then s.wrong else IntKind.i64.wrap (s.wrong + 1) }
def askR (s : NS) (fine : Bool) : Nat := if s.dead then 8 else if fine then 0 else 1
def goes (s : NS) : NS := { s with stop := if s.stop < 1 then s.stop else s.stop - 1, dead := if s.stop < 1 then s.dead else decide (s.stop - 1 = 0) }
def goesR (s : NS) : Bool := if s.stop < 1 then false else decide (s.stop - 1 = 0)
def setD (s : NS) (i : Nat) (l : List UInt8) : NS := { s with dl := fun k => if k = i then l else s.dl k }
def setZ (s : NS) (i : Nat) (l : List Int) : NS := { s with nl := fun k => if k = i then l else s.nl k }
def setB (s : NS) (d b : Nat) (x : St) : NS := { s with bl := fun d' => if d' = d then (fun b' => if b' = b then x else s.bl d b') else s.bl d' }
def readOk (s : NS) (d b p : Int) : Bool := s.pageIn d b p && !s.isBad d b
def readL (s : NS) (d b p : Int) : List UInt8 := if s.askR (s.readOk d b p) = 0 then flipI (s.dl (s.ix d.toNat b.toNat p.toNat)) (s.nl (s.ix d.toNat b.toNat p.toNat)) else []
def progOk (s : NS) (d b p : Int) (l : List UInt8) : Bool := s.pageIn d b p && !s.isBad d b && decide (l.length = 60) && decide (((s.bl d.toNat b.toNat).nx : Int) = p)
def prog2 (s : NS) (d b : Nat) : NS := s.setB d b { s.bl d b with nx := (s.bl d b).nx + 1 }
def progA (s : NS) (d b p : Int) (l : List UInt8) : NS := ((s.ask (s.progOk d b p l)).prog2 d.toNat b.toNat).goes
def prog (s : NS) (d b p : Int) (l : List UInt8) : NS :=
 if s.askR (s.progOk d b p l) = 0 then (s.progA d b p l).setD (s.ix d.toNat b.toNat p.toNat) (if s.goesR then mixR onesW l s.mask else l)
 else s.ask (s.progOk d b p l)
def progR (s : NS) (d b p : Int) (l : List UInt8) : Nat :=
 if s.askR (s.progOk d b p l) = 0 then (if s.goesR then 8 else 0) else s.askR (s.progOk d b p l)
def eraseOk (s : NS) (d b : Int) : Bool := s.there d b && !s.isBad d b
def eraseTo (s : NS) (torn : Bool) (d b k : Nat) : NS :=
 { s with dl := fun i => if s.ix d b 0 ≤ i ∧ i < s.ix d b 0 + k then (if torn then mixR (s.dl i) onesW s.mask else onesW) else s.dl i }
def erase2 (s : NS) (d b : Nat) : NS := s.setB d b { s.bl d b with er := IntKind.i64.wrap ((s.bl d b).er + 1) }
def erase3 (s : NS) (d b : Nat) : NS := s.setB d b { s.bl d b with nx := 0 }
def eraseA (s : NS) (d b : Int) : NS := ((s.ask (s.eraseOk d b)).erase2 d.toNat b.toNat).goes
def erase (s : NS) (d b : Int) : NS :=
 if s.askR (s.eraseOk d b) = 0 then
  (if s.goesR then (s.eraseA d b).eraseTo true d.toNat b.toNat s.gP else ((s.eraseA d b).eraseTo false d.toNat b.toNat s.gP).erase3 d.toNat b.toNat)
 else s.ask (s.eraseOk d b)
def eraseR (s : NS) (d b : Int) : Nat := if s.askR (s.eraseOk d b) = 0 then (if s.goesR then 8 else 0) else s.askR (s.eraseOk d b)
def noise (s : NS) (d b p : Int) (l : List Int) : NS := if s.pageIn d b p then s.setZ (s.ix d.toNat b.toNat p.toNat) l else s
def noiseR (s : NS) (d b p : Int) : Nat := if s.pageIn d b p then 0 else 1
def stopAt (s : NS) (k : Nat) (m : List UInt8) : NS := { { s with stop := max k 0 } with mask := m }
def power (s : NS) : NS := { s with stop := 0, mask := [], dead := false }
def new (D B P : Nat) (bad : Nat → Nat → Bool) : NS := ⟨D, B, P, fun _ => onesW, fun _ => [], fun d b => ⟨0, 0, bad d b⟩, 0, [], false, 0, 0⟩
theorem there_of {s : NS} {d b : Int} (h : s.there d b = true) : 0 ≤ d ∧ d < (s.gD : Int) ∧ 0 ≤ b ∧ b < (s.gB : Int) := of_decide_eq_true h
theorem page_of {s : NS} {d b p : Int} (h : s.pageIn d b p = true) : 0 ≤ d ∧ d < (s.gD : Int) ∧ 0 ≤ b ∧ b < (s.gB : Int) ∧ 0 ≤ p ∧ p < (s.gP : Int) := by
 unfold pageIn there at h
 simp only [Bool.and_eq_true, decide_eq_true_eq] at h
 omega
theorem ask_dead {s : NS} {f : Bool} (h : s.dead = true) : s.ask f = s := by unfold ask; rw [if_pos h, if_pos h]
theorem ask_no {s : NS} (h : s.dead = false) : s.ask false = { s with wrong := IntKind.i64.wrap (s.wrong + 1) } := by unfold ask; simp [h]
theorem ask_yes {s : NS} (h : s.dead = false) : s.ask true = { s with ops := IntKind.i64.wrap (s.ops + 1) } := by unfold ask; simp [h]
theorem goes_no {s : NS} (h : s.stop < 1) : s.goes = s := by unfold goes; rw [if_pos h, if_pos h]
theorem goes_yes {s : NS} (h : ¬ s.stop < 1) : s.goes = { { s with stop := s.stop - 1 } with dead := decide (s.stop - 1 = 0) } := by unfold goes; rw [if_neg h, if_neg h]
theorem askR_no {s : NS} {f : Bool} (h : f = false) : ¬ s.askR f = 0 := by unfold askR; rw [h]; cases s.dead <;> simp
theorem askR_yes {s : NS} {f : Bool} (h : s.askR f = 0) : s.dead = false ∧ f = true := by
 unfold askR at h
 cases hd : s.dead <;> cases f <;> simp_all
theorem progOk_nx {s : NS} {d b p : Nat} {l : List UInt8} (h : s.askR (s.progOk d b p l) = 0) : (s.bl d b).nx = p ∧ l.length = 60 := by
 have h := (askR_yes h).2
 unfold progOk at h
 simp only [Bool.and_eq_true, decide_eq_true_eq] at h
 exact ⟨Int.ofNat.inj h.2, h.1.2⟩
theorem prog_no {s : NS} {d b p : Int} {l : List UInt8} (h : ¬ s.askR (s.progOk d b p l) = 0) : s.prog d b p l = s.ask (s.progOk d b p l) ∧ s.progR d b p l = s.askR (s.progOk d b p l) := ⟨if_neg h, if_neg h⟩
theorem prog_torn {s : NS} {d b p : Int} {l : List UInt8} (h : s.askR (s.progOk d b p l) = 0) (hg : s.goesR = true) : s.prog d b p l = (s.progA d b p l).setD (s.ix d.toNat b.toNat p.toNat) (mixR onesW l s.mask) ∧ s.progR d b p l = 8 := by
 unfold prog progR; rw [if_pos h, if_pos h, if_pos hg, if_pos hg]; exact ⟨rfl, rfl⟩
theorem prog_yes {s : NS} {d b p : Int} {l : List UInt8} (h : s.askR (s.progOk d b p l) = 0) (hg : s.goesR = false) : s.prog d b p l = (s.progA d b p l).setD (s.ix d.toNat b.toNat p.toNat) l ∧ s.progR d b p l = 0 := by
 have hg' : ¬ s.goesR = true := by rw [hg]; decide
 unfold prog progR; rw [if_pos h, if_pos h, if_neg hg', if_neg hg']; exact ⟨rfl, rfl⟩
end NS
theorem onesW_len : onesW.length = 60 := List.length_replicate
theorem mixR60 {o n m : List UInt8} (ho : o.length = 60) (hn : n.length = 60) : (mixR o n m).length = 60 := by unfold mixR; rw [if_pos (ho.trans hn.symm), mixL_length]; exact ho
theorem rep_end (k : Nat) (h : 60 ≤ k ∧ k ≤ 60) : List.replicate k (255 : UInt8) ++ List.replicate (60 - k) 0 = onesW := by
 obtain rfl : k = 60 := by omega
 rfl
theorem rep_take (k : Nat) : ((List.replicate k (255 : UInt8) ++ List.replicate (60 - k) 0).drop 0).take k = List.replicate k 255 := by
 rw [List.drop_zero, List.take_left' (List.length_replicate)]
theorem rep_copy (k : Nat) (h : k ≤ 60) : (List.replicate k (255 : UInt8) ++ List.replicate (60 - k) 0).take k ++ (List.replicate k (255 : UInt8)).take (min k (60 - k)) ++ (List.replicate k (255 : UInt8) ++ List.replicate (60 - k) 0).drop (k + min k (60 - k)) = List.replicate (k + min k (60 - k)) (255 : UInt8) ++ List.replicate (60 - (k + min k (60 - k))) 0 := by
 rw [List.take_left' (List.length_replicate), List.take_replicate, List.drop_append, List.drop_replicate, List.drop_replicate, List.length_replicate]
 have e1 : k - (k + min k (60 - k)) = 0 := by omega
 have e2 : k + min k (60 - k) - k = min k (60 - k) := by omega
 have e3 : min (min k (60 - k)) k = min k (60 - k) := by omega
 rw [e1, e2, e3, List.replicate_zero, List.nil_append, List.replicate_append_replicate, Nat.sub_sub]
end Go.Proofs.YtgalehapmdabeaaF
