/- Part of the proof of the law RowioOrder, for all its inputs. -/
import Derived.Test.YtgalehapmdabeaaKRowioOrder3
set_option linter.unusedVariables false
set_option linter.unusedSimpArgs false
set_option maxRecDepth 20000
set_option maxHeartbeats 4000000
namespace Go.Proofs.YtgalehapmdabeaaF
open Go Shelf YtgalehapmdabeaaS Ram
theorem mul64_ok (W : World) :
    CW Try.prog 117 #[(Value.int .u64 1), (Value.int .u64 60)] W (Rt (RIs (.tuple #[.int .u64 0, .int .u64 60]) W)) := by
 have oW : Only No W W := Only.refl _ _
 refine enter (al := [(Value.int .u64 1), (Value.int .u64 60)]) (k := 49) (l := ([(Value.int .u64 1), (Value.int .u64 60)] ++ (us 49))) Try.func117 rfl Try.ntmps117 rfl rfl ?_
 refine wQ (pL ?_)
 refine wI (d_assign rfl) ?_
 refine wI (d_assign rfl) ?_
 refine wD (tN (wQ (pL ?_)))
 refine wI (d_move rfl) ?_
 refine wI (d_bits (k := .u64) (m := 1) (n := 4294967295) (r := 1) (by simp) rfl rfl (by decide)) ?_
 refine wI (d_assign rfl) ?_
 refine wD (tN (wQ (pL ?_)))
 refine wI (d_move rfl) ?_
 refine wI (d_shr (k := .u64) (yk := .u64) (m := 1) (n := 32) (r := 0) rfl rfl (by decide) (by decide)) ?_
 refine wF ([(Value.int .u64 1), (Value.int .u64 60), undef, undef, (Value.int .u64 0), (Value.int .u64 0), (Value.int .u64 1)] ++ (us 7 ++ [(Value.int .u64 1), (Value.int .u64 1), (Value.int .u64 1), (Value.int .u64 0)] ++ (us 33))) ?_
 refine wI (d_assign rfl) ?_
 refine wD (tN (wQ (pL ?_)))
 refine wI (d_move rfl) ?_
 refine wI (d_bits (k := .u64) (m := 60) (n := 4294967295) (r := 60) (by simp) rfl rfl (by decide)) ?_
 refine wI (d_assign rfl) ?_
 refine wD (tN ?_)
 refine forget (fun zf11 => ([(Value.int .u64 1), (Value.int .u64 60), (zf11 2), (zf11 3), (zf11 4), (zf11 5), (Value.int .u64 1), (Value.int .u64 0), (Value.int .u64 60)] ++ (zs zf11 9 42))) kr (fun zf11 => ?_)
 refine wQ (pL ?_)
 refine wI (d_move rfl) ?_
 refine wI (d_shr (k := .u64) (yk := .u64) (m := 60) (n := 32) (r := 0) rfl rfl (by decide) (by decide)) ?_
 refine wI (d_assign rfl) ?_
 refine wD (tN (wQ (pL ?_)))
 refine wI (d_move rfl) ?_
 refine wI (d_move rfl) ?_
 refine wI (d_mul (k := .u64) (m := 1) (n := 60) (r := 60) rfl rfl (by decide)) ?_
 refine wI (d_assign rfl) ?_
 refine wF ([(Value.int .u64 1), (Value.int .u64 60), (zf11 2), (zf11 3), (zf11 4), (zf11 5), (Value.int .u64 1), (Value.int .u64 0), (Value.int .u64 60), (Value.int .u64 0), (Value.int .u64 60)] ++ (zs zf11 11 9 ++ [(Value.int .u64 60), (Value.int .u64 0), (Value.int .u64 1), (Value.int .u64 60), (Value.int .u64 60)] ++ (zs zf11 25 26))) ?_
 refine wD (tN (wQ (pL ?_)))
 refine wI (d_move rfl) ?_
 refine wI (d_move rfl) ?_
 refine wI (d_mul (k := .u64) (m := 0) (n := 60) (r := 0) rfl rfl (by decide)) ?_
 refine wI (d_move rfl) ?_
 refine wI (d_shr (k := .u64) (yk := .u64) (m := 60) (n := 32) (r := 0) rfl rfl (by decide) (by decide)) ?_
 refine wI (d_add (k := .u64) (m := 0) (n := 0) (r := 0) rfl rfl (by decide)) ?_
 refine wI (d_assign rfl) ?_
 refine wF ([(Value.int .u64 1), (Value.int .u64 60), (zf11 2), (zf11 3), (zf11 4), (zf11 5), (Value.int .u64 1), (Value.int .u64 0), (Value.int .u64 60), (Value.int .u64 0), (Value.int .u64 60), (Value.int .u64 0)] ++ (zs zf11 12 8 ++ [(Value.int .u64 60), (Value.int .u64 0), (Value.int .u64 1), (Value.int .u64 60), (Value.int .u64 60), (Value.int .u64 0), (Value.int .u64 60), (Value.int .u64 0), (Value.int .u64 60), (Value.int .u64 0), (Value.int .u64 0)] ++ (zs zf11 31 20))) ?_
 refine wD (tN ?_)
 refine forget (fun zf12 => ([(Value.int .u64 1), (Value.int .u64 60), (zf12 2), (zf12 3), (zf12 4), (zf12 5), (Value.int .u64 1), (Value.int .u64 0), (zf12 8), (Value.int .u64 0), (zf12 10), (Value.int .u64 0)] ++ (zs zf12 12 39))) kr (fun zf12 => ?_)
 refine wQ (pL ?_)
 refine wI (d_move rfl) ?_
 refine wI (d_bits (k := .u64) (m := 0) (n := 4294967295) (r := 0) (by simp) rfl rfl (by decide)) ?_
 refine wI (d_assign rfl) ?_
 refine wD (tN (wQ (pL ?_)))
 refine wI (d_move rfl) ?_
 refine wI (d_shr (k := .u64) (yk := .u64) (m := 0) (n := 32) (r := 0) rfl rfl (by decide) (by decide)) ?_
 refine wI (d_assign rfl) ?_
 refine wD (tN (wQ (pL ?_)))
 refine wI (d_move rfl) ?_
 refine wF ([(Value.int .u64 1), (Value.int .u64 60), (zf12 2), (zf12 3), (zf12 4), (zf12 5), (Value.int .u64 1), (Value.int .u64 0), (zf12 8), (Value.int .u64 0), (zf12 10), (Value.int .u64 0), (Value.int .u64 0), (Value.int .u64 0)] ++ (zs zf12 14 17 ++ [(Value.int .u64 0), (Value.int .u64 0), (Value.int .u64 0), (Value.int .u64 0), (Value.int .u64 0)] ++ (zs zf12 36 15))) ?_
 refine wI (d_move rfl) ?_
 refine wI (d_move rfl) ?_
 refine wI (d_mul (k := .u64) (m := 1) (n := 0) (r := 0) rfl rfl (by decide)) ?_
 refine wI (d_add (k := .u64) (m := 0) (n := 0) (r := 0) rfl rfl (by decide)) ?_
 refine wI (d_assign rfl) ?_
 refine wD (tN ?_)
 refine forget (fun zf13 => ([(Value.int .u64 1), (Value.int .u64 60)] ++ (zs zf13 2 5 ++ [(Value.int .u64 0), (zf13 8), (Value.int .u64 0), (zf13 10), (zf13 11), (Value.int .u64 0), (Value.int .u64 0)] ++ (zs zf13 14 37)))) kr (fun zf13 => ?_)
 refine wQ (pL ?_)
 refine wI (d_move rfl) ?_
 refine wI (d_move rfl) ?_
 refine wI (d_mul (k := .u64) (m := 0) (n := 0) (r := 0) rfl rfl (by decide)) ?_
 refine wI (d_move rfl) ?_
 refine wI (d_add (k := .u64) (m := 0) (n := 0) (r := 0) rfl rfl (by decide)) ?_
 refine wI (d_move rfl) ?_
 refine wI (d_shr (k := .u64) (yk := .u64) (m := 0) (n := 32) (r := 0) rfl rfl (by decide) (by decide)) ?_
 refine wF ([(Value.int .u64 1), (Value.int .u64 60)] ++ (zs zf13 2 5 ++ [(Value.int .u64 0), (zf13 8), (Value.int .u64 0), (zf13 10), (zf13 11), (Value.int .u64 0), (Value.int .u64 0)] ++ (zs zf13 14 26 ++ [(Value.int .u64 0), (Value.int .u64 0), (Value.int .u64 0), (Value.int .u64 0), (Value.int .u64 0), (Value.int .u64 0), (Value.int .u64 0), (zf13 47), (zf13 48), (zf13 49), (zf13 50)]))) ?_
 refine wI (d_add (k := .u64) (m := 0) (n := 0) (r := 0) rfl rfl (by decide)) ?_
 refine wI (d_assign rfl) ?_
 refine wD (tN ?_)
 refine forget (fun zf14 => ([(Value.int .u64 1), (Value.int .u64 60), (zf14 2), (zf14 3), (Value.int .u64 0)] ++ (zs zf14 5 46))) kr (fun zf14 => ?_)
 refine wQ (pL ?_)
 refine wI (d_move rfl) ?_
 refine wI (d_move rfl) ?_
 refine wI (d_mul (k := .u64) (m := 1) (n := 60) (r := 60) rfl rfl (by decide)) ?_
 refine wI (d_assign rfl) ?_
 refine wD (tN ?_)
 refine wpIn_ret ?_
 refine leave0 (v := (Value.tuple #[(Value.int .u64 0), (Value.int .u64 60)])) (res2 Try.results117 rfl rfl) ?_
 exact ⟨rfl, oW⟩
theorem mulU_ok (W : World) :
    CW Try.prog 105 #[(Value.int .u64 1), (Value.int .u64 60)] W (Rt (RIs (.tuple #[.int .u64 0, .int .u64 60]) W)) := by
 have oW : Only No W W := Only.refl _ _
 refine enter (al := [(Value.int .u64 1), (Value.int .u64 60)]) (k := 28) (l := ([(Value.int .u64 1), (Value.int .u64 60)] ++ (us 28))) Try.func105 rfl Try.ntmps105 rfl rfl ?_
 refine wQ (pL ?_)
 refine wI (d_assign rfl) ?_
 refine wI (d_assign rfl) ?_
 refine wD (tN (wQ ?_))
 refine wpIn_cond_false rfl ?_
 refine wK (tN (wQ (pL ?_)))
 refine wI (d_move rfl) ?_
 refine wI (d_move rfl) ?_
 refine wO (d_call (xl := [.tmp 23, .tmp 24]) (al := [(Value.int .u64 1), (Value.int .u64 60)]) Try.func117 kr rfl rfl rfl (mul64_ok _)) ?_
 rintro _ w11 ⟨rfl, o12⟩
 replace oW := oW.tail0 o12
 refine wI (d_move rfl) ?_
 refine wI (d_extract (v := (Value.int .u64 0)) rfl rfl) ?_
 refine wF ([(Value.int .u64 1), (Value.int .u64 60), undef, undef, (Value.int .u64 0), (Value.int .u64 0)] ++ (us 16 ++ [(Value.tuple #[(Value.int .u64 0), (Value.int .u64 60)]), (Value.int .u64 1), (Value.int .u64 60), (Value.tuple #[(Value.int .u64 0), (Value.int .u64 60)]), (Value.int .u64 0), undef, undef, undef])) ?_
 refine wI (d_extract (v := (Value.int .u64 60)) rfl rfl) ?_
 refine wI (d_assign rfl) ?_
 refine wI (d_assign rfl) ?_
 refine wD (tN ?_)
 refine forget (fun zf13 => (zs zf13 0 8 ++ [(Value.int .u64 0), (Value.int .u64 60)] ++ (zs zf13 10 20))) kr (fun zf13 => ?_)
 refine wQ (pL ?_)
 refine wI (d_move rfl) ?_
 refine wI (d_move rfl) ?_
 refine wI (d_assign rfl) ?_
 refine wI (d_assign rfl) ?_
 refine wD (tN ?_)
 refine wpIn_ret ?_
 refine leave0 (v := (Value.tuple #[(Value.int .u64 0), (Value.int .u64 60)])) (res2 Try.results105 rfl rfl) ?_
 exact ⟨rfl, oW⟩
theorem repeat_ok (u1 : Value) (W : World) (h1 : Ps No (Seq kB [255] u1) W) :
    CW Try.prog 78 #[u1, (eN 60)] W (Rt (ROw 5 eB onesW W)) := by
 have oW : Only No W W := Only.refl _ _
 refine enter (al := [u1, (eN 60)]) (k := 46) (l := ([u1, (eN 60)] ++ (us 46))) Try.func78 rfl Try.ntmps78 rfl rfl ?_
 refine wQ (pL ?_)
 refine wI (d_assign rfl) ?_
 refine wD (tN (wQ (wQ (pL ?_))))
 refine wI (d_move rfl) ?_
 refine wI (n_lss (a := 60) (b := 0) rfl rfl rfl) ?_
 refine wD (tN ?_)
 refine cond_f (congrArg Value.bool (decide_eq_false (by decide))) ?_
 refine wK (tN (wQ (pL ?_)))
 refine wI (d_move rfl) ?_
 refine wI (d_lenS rfl Try.underlying22 rfl h1) ?_
 refine wI (n_toU Try.underlying3 Try.underlying66 rfl (by decide)) ?_
 refine wI (d_move rfl) ?_
 refine wF ([u1, (eN 60), undef, undef, (Value.slice none 0 0), undef, undef, undef, undef, (eN 60), (Value.bool (decide (60 < 0))), undef, undef, u1, (eN ([255].length)), (Value.int .u64 (([255].length : Nat) : Int)), (eN 60)] ++ (us 31)) ?_
 refine wI (n_toU Try.underlying3 Try.underlying66 rfl oo) ?_
 refine wO (d_call (xl := [.tmp 15, .tmp 17]) (al := [(Value.int .u64 (([255].length : Nat) : Int)), (Value.int .u64 ((60 : Nat) : Int))]) Try.func105 kr rfl rfl rfl (mulU_ok _)) ?_
 rintro _ w11 ⟨rfl, o12⟩
 replace h1 := h1.step0 o12
 replace oW := oW.tail0 o12
 refine wI (d_move rfl) ?_
 refine wI (d_extract (v := (Value.int .u64 0)) rfl rfl) ?_
 refine wI (d_extract (v := (Value.int .u64 60)) rfl rfl) ?_
 refine wI (d_assign rfl) ?_
 refine wI (d_assign rfl) ?_
 refine wF ([u1, (eN 60), undef, undef, (Value.slice none 0 0), (Value.int .u64 0), (Value.int .u64 60), undef, undef, (eN 60), (Value.bool (decide (60 < 0))), undef, (Value.tuple #[(Value.int .u64 0), (Value.int .u64 60)]), u1, (eN ([255].length)), (Value.int .u64 (([255].length : Nat) : Int)), (eN 60), (Value.int .u64 ((60 : Nat) : Int)), (Value.tuple #[(Value.int .u64 0), (Value.int .u64 60)]), (Value.int .u64 0), (Value.int .u64 60)] ++ (us 27)) ?_
 refine wD (tN ?_)
 refine forget (fun zf13 => ([u1, (zf13 1), (zf13 2), (zf13 3), (zf13 4), (Value.int .u64 0), (Value.int .u64 60), (zf13 7), undef] ++ (zs zf13 9 29 ++ (us 9 ++ [(zf13 47)])))) kr (fun zf13 => ?_)
 refine wQ (wQ (pL ?_))
 refine wI (d_move rfl) ?_
 refine wI (d_gtr (k := .u64) (m := 0) (n := 0) (b := false) rfl rfl (by decide)) ?_
 refine wI (d_move rfl) ?_
 refine wG (d_move rfl) ?_
 refine wG (d_gtr (k := .u64) (m := 60) (n := 9223372036854775807) (b := false) rfl rfl (by decide)) ?_
 refine wI (d_pick (b := false) (v := vF) rfl rfl) ?_
 refine wD (tN ?_)
 refine cond_f rfl ?_
 refine wK (tN (wQ (pL ?_)))
 refine wI (d_move rfl) ?_
 refine wF ([u1, (zf13 1), (zf13 2), (zf13 3), (zf13 4), (Value.int .u64 0), (Value.int .u64 60), (zf13 7), undef] ++ (zs zf13 9 12 ++ [(Value.int .u64 0), vF, vF, (Value.int .u64 60), vF, vF, (zf13 27), (Value.int .u64 60)] ++ (zs zf13 29 9 ++ (us 9 ++ [(zf13 47)])))) ?_
 refine wI (d_conv (n := 60) (r := 60) Try.underlying66 Try.underlying3 rfl (by decide)) ?_
 refine wO (d_make1 (n := 60) Try.underlying22 s_ti5 rfl rfl (by decide) (by decide) rfl) ?_
 rintro _ w14 ⟨b, rfl, g15, a16, o17⟩
 replace a16 : Arr 5 b ((List.replicate 60 0).map eB) w14 := by rw [List.map_replicate]; exact a16
 have l_b : (List.replicate 60 0 : List UInt8).length = 60 := by simp
 have g_oW_b : W.heap.size ≤ b := Nat.le_trans oW.size g15
 replace h1 := h1.new o17 g15
 replace oW := oW.tail0 o17
 refine wI (d_assign rfl) ?_
 refine wD (tN ?_)
 refine forget (fun zf18 => ([u1] ++ (zs zf18 1 6 ++ [(sli b 0 60 60), undef] ++ (zs zf18 9 29 ++ (us 9 ++ [(zf18 47)]))))) kr (fun zf18 => ?_)
 refine wQ (pL ?_)
 refine wI (d_move rfl) ?_
 refine wI (d_move rfl) ?_
 refine wO (d_copy (b := b) (o := 0) (n := 60) (c := 60) (zs := ([255] ++ List.replicate 59 0)) (j := 1) rfl Try.underlying22 s_ti5 rfl rfl a16 h1 (fun _ => rfl) (by decide) (by decide) (by rfl)) ?_
 rintro _ w19 ⟨rfl, a20, o21⟩
 replace h1 := h1.stepb o21 in1
 replace oW := oW.tailb o21 g_oW_b
 replace l_b : ([255] ++ List.replicate 59 0 : List UInt8).length = 60 := rfl
 refine wI (d_assign rfl) ?_
 refine wD (tN (wQ (wB ?_)))
 refine loop2 (fun (k : (Nat)) => fun (z : Nat → Value) => (([u1] ++ (zs zf18 1 6 ++ [(sli b 0 60 60), (eN k)] ++ (zs zf18 9 22 ++ [(sli b 0 60 60), u1, (eN 1)] ++ (zs z 34 13 ++ [(zf18 47)])))) : List Value)) (fun (k : (Nat)) => fun (w_ : World) => (1 ≤ k ∧ k ≤ 60) ∧ Only (Or1 b No) w19 w_ ∧ (List.replicate k (255 : UInt8) ++ List.replicate (60 - k) 0).length = 60 ∧ Arr 5 b ((List.replicate k (255 : UInt8) ++ List.replicate (60 - k) 0).map eB) w_) (fun (k : (Nat)) => 60 - k) 1 kr ?_ ?_
 ·
  refine ⟨?_, ?_, ?_, ?_⟩
  ·
   (try dsimp only)
   all_goals (decide)
  ·
   exact Only.refl _ _
  ·
   exact rfl
  ·
   exact a20
 rintro k z w23 ⟨hk, o22, l_b, a20⟩
 (try dsimp only)
 replace h1 := h1.step o22 (or1_mono no_any)
 replace oW := oW.tail o22 (tl_new g_oW_b tl_no)
 refine wQ (wQ (pL ?_))
 refine wI (d_move rfl) ?_
 refine wI (d_move rfl) ?_
 refine wI (d_len rfl Try.underlying22 rfl) ?_
 refine wI (n_lss (a := k) (b := 60) rfl rfl rfl) ?_
 refine wD (tN ?_)
 refine cond_if rfl (fun c24 => ?_) (fun c24 => ?_)
 ·
  refine wK (tN (wB ?_))
  refine wp_eq (l' := ([u1] ++ (zs zf18 1 6 ++ [(sli b 0 60 60), (eN k)] ++ (zs zf18 9 22 ++ [(sli b 0 60 60), u1, (eN 1), (eN k), (sli b 0 60 60), (eN 60), (Value.bool (decide (k < 60)))] ++ (zs z 38 9 ++ [(zf18 47)]))))) rfl ?_
  refine drawn' (O := (Or1 b No)) (n := 10) [0, 0, 0, 6, 0, 0, 48, 126, 255, 511] [(0, 38), (1, 39), (2, 40), (3, 41), (4, 42), (5, 43), (6, 44), (7, 45), (8, 46), (9, 8)] [0, 1, 2, 3, 4, 5, 6, 8, 9] [7] (fun i_ => ([RF.is (Or1 b No) (eN k), RF.is (Or1 b No) (sli b 0 60 60), RF.is (Or1 b No) (eN k), RF.is (Or1 b No) (sli b k (60 - k) (60 - k)), RF.is (Or1 b No) (sli b 0 60 60), RF.is (Or1 b No) (eN k), RF.is (Or1 b No) (sli b 0 k 60), RF.is (Or1 b No) (eN (min k (60 - k))), RF.is (Or1 b No) (eN (k + (min k (60 - k)))), RF.is (Or1 b No) (eN (k + (min k (60 - k))))] : List (RF (Or1 b No))).getD i_ (RF.any (Or1 b No))) (fun k_ w_ => match k_ with | 0 => Arr 5 b ((List.replicate k (255 : UInt8) ++ List.replicate (60 - k) 0).map eB) w_ | _ => Arr 5 b ((List.replicate (k + (min k (60 - k))) (255 : UInt8) ++ List.replicate (60 - (k + (min k (60 - k)))) 0).map eB) w_) (fun v25 => ([u1] ++ (zs zf18 1 6 ++ [(sli b 0 60 60), (v25 9)] ++ (zs zf18 9 22 ++ [(sli b 0 60 60), u1, (eN 1), (eN k), (sli b 0 60 60), (eN 60), (Value.bool (decide (k < 60))), (v25 0), (v25 1), (v25 2), (v25 3), (v25 4), (v25 5), (v25 6), (v25 7), (v25 8), (zf18 47)])))) s_mx kr rfl kr (by rfl) (fun v_ => by kernel_rfl) (fun k_ => match k_ with | 0 => fun w_ w2_ h ho => by have r_a20 := h; exact r_a20.step0 ho | (_ + 1) => fun w_ w2_ h ho => by have r_a20 := h; exact r_a20.step0 ho) a20 ?_ ?_ ?_
  ·
   refine ls_cons ?_ ?_
   ·
    intro v25 lo hi w_ k_ hO hd _ _ hk_ _ hR hold
    have eo9 : v25 9 = (eN k) := hold (9, 8) (by decide) kr
    clear hd hold
    refine ⟨_, rfl, gd rfl ?_⟩
    exact Does.is (d_move (v := (eN k)) eo9)
   refine ls_cons ?_ ?_
   ·
    intro v25 lo hi w_ k_ hO hd _ _ hk_ _ hR hold
    obtain rfl : k_ = 0 := Nat.le_zero.1 (hk_ 0 (by decide) kr)
    have r_a20 := hR
    clear hd hold
    refine ⟨_, rfl, gd rfl ?_⟩
    exact Does.is (d_move rfl)
   refine ls_cons ?_ ?_
   ·
    intro v25 lo hi w_ k_ hO hd _ _ hk_ _ hR hold
    obtain rfl : k_ = 0 := Nat.le_zero.1 (hk_ 0 (by decide) kr)
    have r_a20 := hR
    have eo9 : v25 9 = (eN k) := hold (9, 8) (by decide) kr
    clear hd hold
    refine ⟨_, rfl, gd rfl ?_⟩
    exact Does.is (d_move (v := (eN k)) eo9)
   refine ls_cons ?_ ?_
   ·
    intro v25 lo hi w_ k_ hO hd _ _ hk_ _ hR hold
    obtain rfl : k_ = 0 := Nat.le_zero.1 (hk_ 0 (by decide) kr)
    have r_a20 := hR
    have e1 : v25 1 = (sli b 0 60 60) := hd 1 kr
    have e2 : v25 2 = (eN k) := hd 2 kr
    clear hd hold
    refine ⟨_, rfl, gd rfl ?_⟩
    exact Does.is (d_slice (b := b) (o := 0) (n := 60) (c := 60) (l := k) (h := 60) Try.underlying22 s_ti5 e1 (Bd.some (l := k) (k := .i64) e2) Bd.none oo oo (by first | (simp; done) | (rw [if_neg oo]; done) | (rw [if_neg oo]; simp)))
   refine ls_cons ?_ ?_
   ·
    intro v25 lo hi w_ k_ hO hd _ _ hk_ _ hR hold
    obtain rfl : k_ = 0 := Nat.le_zero.1 (hk_ 0 (by decide) kr)
    have r_a20 := hR
    clear hd hold
    refine ⟨_, rfl, gd rfl ?_⟩
    exact Does.is (d_move rfl)
   refine ls_cons ?_ ?_
   ·
    intro v25 lo hi w_ k_ hO hd _ _ hk_ _ hR hold
    obtain rfl : k_ = 0 := Nat.le_zero.1 (hk_ 0 (by decide) kr)
    have r_a20 := hR
    have eo9 : v25 9 = (eN k) := hold (9, 8) (by decide) kr
    clear hd hold
    refine ⟨_, rfl, gd rfl ?_⟩
    exact Does.is (d_move (v := (eN k)) eo9)
   refine ls_cons ?_ ?_
   ·
    intro v25 lo hi w_ k_ hO hd _ _ hk_ _ hR hold
    obtain rfl : k_ = 0 := Nat.le_zero.1 (hk_ 0 (by decide) kr)
    have r_a20 := hR
    have e4 : v25 4 = (sli b 0 60 60) := hd 4 kr
    have e5 : v25 5 = (eN k) := hd 5 kr
    clear hd hold
    refine ⟨_, rfl, gd rfl ?_⟩
    exact Does.is (d_slice (b := b) (o := 0) (n := 60) (c := 60) (l := 0) (h := k) Try.underlying22 s_ti5 e4 Bd.none (Bd.some (l := k) (k := .i64) e5) oo oo (by simp))
   refine ls_cons ?_ ?_
   ·
    intro v25 lo hi w_ k_ hO hd _ _ hk_ _ hR hold
    have e0 : v25 0 = (eN k) := hd 0 kr
    have e7 : v25 7 = (eN (min k (60 - k))) := hd 7 kr
    clear hd hold
    refine ⟨_, rfl, gd rfl ?_⟩
    exact Does.is (n_add (a := k) (b := (min k (60 - k))) e0 e7 oo)
   refine ls_cons ?_ ?_
   ·
    intro v25 lo hi w_ k_ hO hd _ _ hk_ _ hR hold
    have e8 : v25 8 = (eN (k + (min k (60 - k)))) := hd 8 kr
    clear hd hold
    refine ⟨_, rfl, gd rfl ?_⟩
    exact Does.is (d_assign (v := (eN (k + (min k (60 - k))))) e8)
   exact ls_nil
  ·
   refine ms_one ?_
   ·
    intro v25 lo hi w_ hO hd _ hR hold
    have r_a20 := hR
    have e3 : v25 3 = (sli b k (60 - k) (60 - k)) := hd 3 kr
    have e6 : v25 6 = (sli b 0 k 60) := hd 6 kr
    clear hd hold
    refine ⟨_, rfl, gd rfl ?_⟩
    refine Does.mono (d_copy (b := b) (o := k) (n := (60 - k)) (c := (60 - k)) (zs := (List.replicate (k + (min k (60 - k))) (255 : UInt8) ++ List.replicate (60 - (k + (min k (60 - k)))) 0)) (j := (min k (60 - k))) rfl Try.underlying22 s_ti5 e3 e6 r_a20 (arr_part r_a20 (rep_take k) (by simp) oo) (fun _ => rfl) (by first | (simp; done) | (simp; omega)) ((by simp)) (rep_copy k oo)) (fun u w' h => ⟨h.1, h.2.1, h.2.2.mono (fun k _ e => by have : k = b := e; rw [this]; exact in1)⟩)
  intro v25 lo_ hi_ w26 o27 hd iv_ hR
  have e0 : v25 0 = (eN k) := hd 0 (by decide)
  have e1 : v25 1 = (sli b 0 60 60) := hd 1 (by decide)
  have e2 : v25 2 = (eN k) := hd 2 (by decide)
  have e3 : v25 3 = (sli b k (60 - k) (60 - k)) := hd 3 (by decide)
  have e4 : v25 4 = (sli b 0 60 60) := hd 4 (by decide)
  have e5 : v25 5 = (eN k) := hd 5 (by decide)
  have e6 : v25 6 = (sli b 0 k 60) := hd 6 (by decide)
  have e7 : v25 7 = (eN (min k (60 - k))) := hd 7 (by decide)
  have e8 : v25 8 = (eN (k + (min k (60 - k)))) := hd 8 (by decide)
  have e9 : v25 9 = (eN (k + (min k (60 - k)))) := hd 9 (by decide)
  clear hd iv_ lo_ hi_
  refine fr_eq (l' := ([u1] ++ (zs zf18 1 6 ++ [(sli b 0 60 60), (eN (k + (min k (60 - k))))] ++ (zs zf18 9 22 ++ [(sli b 0 60 60), u1, (eN 1), (eN k), (sli b 0 60 60), (eN 60), (Value.bool (decide (k < 60))), (eN k), (sli b 0 60 60), (eN k), (sli b k (60 - k) (60 - k)), (sli b 0 60 60), (eN k), (sli b 0 k 60), (eN (min k (60 - k))), (eN (k + (min k (60 - k)))), (zf18 47)])))) (by rw [e0, e1, e2, e3, e4, e5, e6, e7, e8, e9] <;> rfl) ?_
  clear e0 e1 e2 e3 e4 e5 e6 e7 e8 e9
  replace h1 := h1.step o27 (or1_mono no_any)
  replace a20 : Arr 5 b ((List.replicate (k + (min k (60 - k))) (255 : UInt8) ++ List.replicate (60 - (k + (min k (60 - k)))) 0).map eB) w26 := hR
  clear hR
  replace l_b : (List.replicate (k + (min k (60 - k))) (255 : UInt8) ++ List.replicate (60 - (k + (min k (60 - k)))) 0).length = 60 := (by simp; omega)
  replace oW := oW.tail o27 (tl_new g_oW_b tl_no)
  replace o22 := o22.tail o27 (tl_in in1 tl_no)
  refine inb_n (tN ?_)
  refine ⟨_, (k + (min k (60 - k))), rfl, rfl, ⟨?_, ?_, ?_, ?_⟩, ?_⟩
  ·
   (try dsimp only)
   all_goals (omega)
  ·
   exact o22
  ·
   (try dsimp only)
   all_goals (simp; omega)
  ·
   exact a20
  ·
   (try dsimp only)
   all_goals (omega)
 refine wpIn_exit ?_
 refine then_x (then_x (inb_e ?_))
 refine tN ?_
 refine forget (fun zf28 => (zs zf28 0 7 ++ [(sli b 0 60 60), (eN k)] ++ (zs zf28 9 39))) kr (fun zf28 => ?_)
 refine wQ (pL ?_)
 refine wI (d_move rfl) ?_
 refine wI (d_assign rfl) ?_
 refine wD (tN ?_)
 refine wpIn_ret ?_
 refine leave0 (v := (sli b 0 60 60)) (res1 Try.results78 rfl) ?_
 exact ROw.arr a20 l_b (rep_end k oo) g_oW_b oW
theorem blank_ok (W : World) :
    CW Try.prog 51 #[] W (Rt (ROw 5 eB onesW W)) := by
 have oW : Only No W W := Only.refl _ _
 refine enter (al := []) (k := 3) (l := [undef, undef, undef]) Try.func51 rfl Try.ntmps51 rfl rfl ?_
 refine wQ (pL ?_)
 refine wI (d_assign rfl) ?_
 refine wD (tN (wQ (pL ?_)))
 refine wO (d_buildL (cs := [(eB 255)]) Try.underlying22 s_ti5 rfl (nb rfl) (parts_cons (vs := [(eB 255)]) (cells_of (v := (eB 255)) rfl rfl) parts_nil) rfl) ?_
 rintro _ w12 ⟨b11, rfl, g13, a14, o15⟩
 replace a14 : Arr 5 b11 (([255] : List UInt8).map eB) w12 := a14
 have l_b11 : ([255] : List UInt8).length = 1 := rfl
 have g_oW_b11 : W.heap.size ≤ b11 := Nat.le_trans oW.size g13
 replace oW := oW.tail0 o15
 refine wO (d_call (xl := [.tmp 1, .const (.int .i64 60)]) (al := [(sli b11 0 1 1), (eN 60)]) Try.func78 kr rfl rfl rfl (repeat_ok (sli b11 0 1 1) _ (Ps.no (arr_seq a14 l_b11 (Nat.le_refl _))))) ?_
 rintro u18 w16 f19
 obtain ⟨bo20, f19, g21, o17⟩ := f19
 have nq_o_b11 := nq_new g21 a14.lt
 have q_oW_o := qnew g21 oW.size
 replace a14 := a14.step0 o17
 replace oW := oW.tail0 o17
 refine wI (d_assign rfl) ?_
 refine wD (tN ?_)
 refine wpIn_ret ?_
 refine leave0 (v := u18) (res1 Try.results51 rfl) ?_
 exact ROw.mk_ f19 rfl q_oW_o oW
theorem atD_ok (s : NS) (b0 d b p : Nat) (W : World) (ok : s.Ok) (hd : d < s.gD) (hb : b < s.gB) (hp : p < s.gP) :
    CW Try.prog 81 #[(Value.agg #[(eN s.gD), (eN s.gB), (eN s.gP), (sli b0 0 s.n s.n)]), (eN d), (eN b), (eN p)] W (Rt (RIs (ptr b0 (s.ix d b p)) W)) := by
 have oW : Only No W W := Only.refl _ _
 refine enter (al := [(Value.agg #[(eN s.gD), (eN s.gB), (eN s.gP), (sli b0 0 s.n s.n)]), (eN d), (eN b), (eN p)]) (k := 21) (l := ([(Value.agg #[(eN s.gD), (eN s.gB), (eN s.gP), (sli b0 0 s.n s.n)]), (eN d), (eN b), (eN p)] ++ (us 21))) Try.func81 rfl Try.ntmps81 rfl rfl ?_
 have hi_ := NS.ix_lt hd hb hp
 have hn_ := ok.n_le
 unfold NS.ix at hi_
 obtain ⟨ok1, ok2, ok3, _, _, _, _, _⟩ := ok
 have m1_ : d * s.gB ≤ 7 * 12 := Nat.mul_le_mul oo oo
 have m2_ : (d * s.gB + b) * s.gP ≤ (7 * 12 + 11) * 8 := Nat.mul_le_mul oo oo
 refine wQ (pL ?_)
 refine wO (d_box rfl rfl) ?_
 rintro _ w12 ⟨b11, rfl, g13, a14, o15⟩
 have g_oW_b11 : W.heap.size ≤ b11 := Nat.le_trans oW.size g13
 replace oW := oW.tail0 o15
 refine wI (d_assign rfl) ?_
 refine wD (tN (wQ (pL ?_)))
 refine wI (d_fieldAddr (j := 3) Try.underlying73 rfl s_ti29 (by decide) rfl rfl) ?_
 refine wI (d_load (v := (sli b0 0 s.n s.n)) ⟨_, Try.underlying29, rfl⟩ rfl a14 rfl) ?_
 refine wI (d_move rfl) ?_
 refine wI (d_fieldAddr (j := 0) Try.underlying73 rfl s_ti49 (by decide) rfl rfl) ?_
 refine wI (d_fieldAddr (j := 1) Try.underlying49 rfl s_ti3 (by decide) rfl rfl) ?_
 refine wF ([(Value.agg #[(eN s.gD), (eN s.gB), (eN s.gP), (sli b0 0 s.n s.n)]), (eN d), (eN b), (eN p), (ptr b11 0), undef, undef, undef, (Value.pointer none), (ptr b11 3), (sli b0 0 s.n s.n), (eN d), (ptr b11 0), (ptr b11 1)] ++ (us 11)) ?_
 refine wI (d_load (v := (eN s.gB)) ⟨_, Try.underlying3, rfl⟩ rfl a14 rfl) ?_
 refine wI (n_mul (a := d) (b := s.gB) rfl rfl oo) ?_
 refine wI (d_move rfl) ?_
 refine wI (n_add (a := (d * s.gB)) (b := b) rfl rfl oo) ?_
 refine wI (d_fieldAddr (j := 0) Try.underlying73 rfl s_ti49 (by decide) rfl rfl) ?_
 refine wI (d_fieldAddr (j := 2) Try.underlying49 rfl s_ti3 (by decide) rfl rfl) ?_
 refine wI (d_load (v := (eN s.gP)) ⟨_, Try.underlying3, rfl⟩ rfl a14 rfl) ?_
 refine wF [(Value.agg #[(eN s.gD), (eN s.gB), (eN s.gP), (sli b0 0 s.n s.n)]), (eN d), (eN b), (eN p), (ptr b11 0), undef, undef, undef, (Value.pointer none), (ptr b11 3), (sli b0 0 s.n s.n), (eN d), (ptr b11 0), (ptr b11 1), (eN s.gB), (eN (d * s.gB)), (eN b), (eN (d * s.gB + b)), (ptr b11 0), (ptr b11 2), (eN s.gP), undef, undef, undef, undef] ?_
 refine wI (n_mul (a := (d * s.gB + b)) (b := s.gP) rfl rfl oo) ?_
 refine wI (d_move rfl) ?_
 refine wI (n_add (a := ((d * s.gB + b) * s.gP)) (b := p) rfl rfl oo) ?_
 refine wI (d_index1 (n := s.n) (i := ((d * s.gB + b) * s.gP + p)) Try.underlying29 s_ti22 rfl (show _ = Value.int _ (((d * s.gB + b) * s.gP + p : Nat) : Int) from rfl) oo) ?_
 refine wI (d_assign rfl) ?_
 refine wD (tN ?_)
 refine forget (fun zf16 => (zs zf16 0 8 ++ [(ptr b0 ((d * s.gB + b) * s.gP + p))] ++ (zs zf16 9 16))) kr (fun zf16 => ?_)
 refine wpIn_ret ?_
 refine leave0 (v := (ptr b0 ((d * s.gB + b) * s.gP + p))) (res1 Try.results81 rfl) ?_
 exact ⟨rfl, oW⟩
theorem atZ_ok (s : NS) (b0 d b p : Nat) (W : World) (ok : s.Ok) (hd : d < s.gD) (hb : b < s.gB) (hp : p < s.gP) :
    CW Try.prog 60 #[(Value.agg #[(eN s.gD), (eN s.gB), (eN s.gP), (sli b0 0 s.n s.n)]), (eN d), (eN b), (eN p)] W (Rt (RIs (ptr b0 (s.ix d b p)) W)) := by
 have oW : Only No W W := Only.refl _ _
 refine enter (al := [(Value.agg #[(eN s.gD), (eN s.gB), (eN s.gP), (sli b0 0 s.n s.n)]), (eN d), (eN b), (eN p)]) (k := 21) (l := ([(Value.agg #[(eN s.gD), (eN s.gB), (eN s.gP), (sli b0 0 s.n s.n)]), (eN d), (eN b), (eN p)] ++ (us 21))) Try.func60 rfl Try.ntmps60 rfl rfl ?_
 have hi_ := NS.ix_lt hd hb hp
 have hn_ := ok.n_le
 unfold NS.ix at hi_
 obtain ⟨ok1, ok2, ok3, _, _, _, _, _⟩ := ok
 have m1_ : d * s.gB ≤ 7 * 12 := Nat.mul_le_mul oo oo
 have m2_ : (d * s.gB + b) * s.gP ≤ (7 * 12 + 11) * 8 := Nat.mul_le_mul oo oo
 refine wQ (pL ?_)
 refine wO (d_box rfl rfl) ?_
 rintro _ w12 ⟨b11, rfl, g13, a14, o15⟩
 have g_oW_b11 : W.heap.size ≤ b11 := Nat.le_trans oW.size g13
 replace oW := oW.tail0 o15
 refine wI (d_assign rfl) ?_
 refine wD (tN (wQ (pL ?_)))
 refine wI (d_fieldAddr (j := 3) Try.underlying77 rfl s_ti75 (by decide) rfl rfl) ?_
 refine wI (d_load (v := (sli b0 0 s.n s.n)) ⟨_, Try.underlying75, rfl⟩ rfl a14 rfl) ?_
 refine wI (d_move rfl) ?_
 refine wI (d_fieldAddr (j := 0) Try.underlying77 rfl s_ti49 (by decide) rfl rfl) ?_
 refine wI (d_fieldAddr (j := 1) Try.underlying49 rfl s_ti3 (by decide) rfl rfl) ?_
 refine wF ([(Value.agg #[(eN s.gD), (eN s.gB), (eN s.gP), (sli b0 0 s.n s.n)]), (eN d), (eN b), (eN p), (ptr b11 0), undef, undef, undef, (Value.pointer none), (ptr b11 3), (sli b0 0 s.n s.n), (eN d), (ptr b11 0), (ptr b11 1)] ++ (us 11)) ?_
 refine wI (d_load (v := (eN s.gB)) ⟨_, Try.underlying3, rfl⟩ rfl a14 rfl) ?_
 refine wI (n_mul (a := d) (b := s.gB) rfl rfl oo) ?_
 refine wI (d_move rfl) ?_
 refine wI (n_add (a := (d * s.gB)) (b := b) rfl rfl oo) ?_
 refine wI (d_fieldAddr (j := 0) Try.underlying77 rfl s_ti49 (by decide) rfl rfl) ?_
 refine wI (d_fieldAddr (j := 2) Try.underlying49 rfl s_ti3 (by decide) rfl rfl) ?_
 refine wI (d_load (v := (eN s.gP)) ⟨_, Try.underlying3, rfl⟩ rfl a14 rfl) ?_
 refine wF [(Value.agg #[(eN s.gD), (eN s.gB), (eN s.gP), (sli b0 0 s.n s.n)]), (eN d), (eN b), (eN p), (ptr b11 0), undef, undef, undef, (Value.pointer none), (ptr b11 3), (sli b0 0 s.n s.n), (eN d), (ptr b11 0), (ptr b11 1), (eN s.gB), (eN (d * s.gB)), (eN b), (eN (d * s.gB + b)), (ptr b11 0), (ptr b11 2), (eN s.gP), undef, undef, undef, undef] ?_
 refine wI (n_mul (a := (d * s.gB + b)) (b := s.gP) rfl rfl oo) ?_
 refine wI (d_move rfl) ?_
 refine wI (n_add (a := ((d * s.gB + b) * s.gP)) (b := p) rfl rfl oo) ?_
 refine wI (d_index1 (n := s.n) (i := ((d * s.gB + b) * s.gP + p)) Try.underlying75 s_ti23 rfl (show _ = Value.int _ (((d * s.gB + b) * s.gP + p : Nat) : Int) from rfl) oo) ?_
 refine wI (d_assign rfl) ?_
 refine wD (tN ?_)
 refine forget (fun zf16 => (zs zf16 0 8 ++ [(ptr b0 ((d * s.gB + b) * s.gP + p))] ++ (zs zf16 9 16))) kr (fun zf16 => ?_)
 refine wpIn_ret ?_
 refine leave0 (v := (ptr b0 ((d * s.gB + b) * s.gP + p))) (res1 Try.results60 rfl) ?_
 exact ⟨rfl, oW⟩
theorem there_ok (L : NL) (s : NS) {X : Nat → Prop} (W : World) (hN : Nd L s X W) {r : Bool} (d : Int) (b : Int) (hr : s.there d b = r) :
    CW Try.prog 52 #[(ptr L.bN 0), (eI d), (eI b)] W (Rt (RIs (.bool r) W)) := by
 have oW : Only No W W := Only.refl _ _
 refine enter (al := [(ptr L.bN 0), (eI d), (eI b)]) (k := 28) (l := ([(ptr L.bN 0), (eI d), (eI b)] ++ (us 28))) Try.func52 rfl Try.ntmps52 rfl rfl ?_
 refine wQ (pL ?_)
 refine wI (d_assign rfl) ?_
 refine wD (tN (wQ ?_))
 by_cases k0 : 0 ≤ d
 ·
  by_cases k1 : d < (s.gD : Int)
  ·
   by_cases k2 : 0 ≤ b
   ·
    by_cases k3 : b < (s.gB : Int)
    ·
     refine pL ?_
     refine wI (d_move rfl) ?_
     refine wI (d_geq (k := .i64) (m := d) (n := 0) rfl rfl (decide_eq_true k0)) ?_
     refine wI (d_move rfl) ?_
     refine wG (d_move rfl) ?_
     refine wG (d_move rfl) ?_
     refine wG (d_nilCheck (b := L.bN) (o := 0) rfl) ?_
     refine wF ([(ptr L.bN 0), (eI d), (eI b), undef, undef, undef, vF, (eI d), vT, vT, (eI d), (ptr L.bN 0), (ptr L.bN 0)] ++ (us 18)) ?_
     refine wG (d_fieldAddr (j := 0) Try.underlying81 rfl s_ti49 (by decide) rfl rfl) ?_
     refine wG (d_fieldAddr (j := 0) Try.underlying49 rfl s_ti3 (by decide) rfl rfl) ?_
     refine wG (nd_ld (v := (eN s.gD)) hN ⟨_, Try.underlying3, rfl⟩ rfl (fun _ => rfl)) ?_
     refine wG (d_lss (k := .i64) (m := d) (n := (s.gD : Int)) rfl rfl (decide_eq_true k1)) ?_
     refine wI (d_pick (b := true) (v := vT) rfl rfl) ?_
     refine wI (d_move rfl) ?_
     refine wG (d_move rfl) ?_
     refine wF ([(ptr L.bN 0), (eI d), (eI b), undef, undef, undef, vF, (eI d), vT, vT, (eI d), (ptr L.bN 0), (ptr L.bN 0), (ptr L.bN 0), (ptr L.bN 0), (eN s.gD), vT, vT, vT, (eI b)] ++ (us 11)) ?_
     refine wG (d_geq (k := .i64) (m := b) (n := 0) rfl rfl (decide_eq_true k2)) ?_
     refine wI (d_pick (b := true) (v := vT) rfl rfl) ?_
     refine wI (d_move rfl) ?_
     refine wG (d_move rfl) ?_
     refine wG (d_move rfl) ?_
     refine wG (d_nilCheck (b := L.bN) (o := 0) rfl) ?_
     refine wG (d_fieldAddr (j := 0) Try.underlying81 rfl s_ti49 (by decide) rfl rfl) ?_
     refine wF [(ptr L.bN 0), (eI d), (eI b), undef, undef, undef, vF, (eI d), vT, vT, (eI d), (ptr L.bN 0), (ptr L.bN 0), (ptr L.bN 0), (ptr L.bN 0), (eN s.gD), vT, vT, vT, (eI b), vT, vT, vT, (eI b), (ptr L.bN 0), (ptr L.bN 0), (ptr L.bN 0), undef, undef, undef, undef] ?_
     refine wG (d_fieldAddr (j := 1) Try.underlying49 rfl s_ti3 (by decide) rfl rfl) ?_
     refine wG (nd_ld (v := (eN s.gB)) hN ⟨_, Try.underlying3, rfl⟩ rfl (fun _ => rfl)) ?_
     refine wG (d_lss (k := .i64) (m := b) (n := (s.gB : Int)) rfl rfl (decide_eq_true k3)) ?_
     refine wI (d_pick (b := true) (v := vT) rfl rfl) ?_
     refine wI (d_assign rfl) ?_
     refine wD (tN ?_)
     refine wpIn_ret ?_
     refine leave0 (v := vT) (res1 Try.results52 rfl) ?_
     exact ⟨congrArg Value.bool (by rw [← hr]; simp [NS.there, *]; try omega), oW⟩
    refine pL ?_
    refine wI (d_move rfl) ?_
    refine wI (d_geq (k := .i64) (m := d) (n := 0) rfl rfl (decide_eq_true k0)) ?_
    refine wI (d_move rfl) ?_
    refine wG (d_move rfl) ?_
    refine wG (d_move rfl) ?_
    refine wG (d_nilCheck (b := L.bN) (o := 0) rfl) ?_
    refine wF ([(ptr L.bN 0), (eI d), (eI b), undef, undef, undef, vF, (eI d), vT, vT, (eI d), (ptr L.bN 0), (ptr L.bN 0)] ++ (us 18)) ?_
    refine wG (d_fieldAddr (j := 0) Try.underlying81 rfl s_ti49 (by decide) rfl rfl) ?_
    refine wG (d_fieldAddr (j := 0) Try.underlying49 rfl s_ti3 (by decide) rfl rfl) ?_
    refine wG (nd_ld (v := (eN s.gD)) hN ⟨_, Try.underlying3, rfl⟩ rfl (fun _ => rfl)) ?_
    refine wG (d_lss (k := .i64) (m := d) (n := (s.gD : Int)) rfl rfl (decide_eq_true k1)) ?_
    refine wI (d_pick (b := true) (v := vT) rfl rfl) ?_
    refine wI (d_move rfl) ?_
    refine wG (d_move rfl) ?_
    refine wF ([(ptr L.bN 0), (eI d), (eI b), undef, undef, undef, vF, (eI d), vT, vT, (eI d), (ptr L.bN 0), (ptr L.bN 0), (ptr L.bN 0), (ptr L.bN 0), (eN s.gD), vT, vT, vT, (eI b)] ++ (us 11)) ?_
    refine wG (d_geq (k := .i64) (m := b) (n := 0) rfl rfl (decide_eq_true k2)) ?_
    refine wI (d_pick (b := true) (v := vT) rfl rfl) ?_
    refine wI (d_move rfl) ?_
    refine wG (d_move rfl) ?_
    refine wG (d_move rfl) ?_
    refine wG (d_nilCheck (b := L.bN) (o := 0) rfl) ?_
    refine wG (d_fieldAddr (j := 0) Try.underlying81 rfl s_ti49 (by decide) rfl rfl) ?_
    refine wF [(ptr L.bN 0), (eI d), (eI b), undef, undef, undef, vF, (eI d), vT, vT, (eI d), (ptr L.bN 0), (ptr L.bN 0), (ptr L.bN 0), (ptr L.bN 0), (eN s.gD), vT, vT, vT, (eI b), vT, vT, vT, (eI b), (ptr L.bN 0), (ptr L.bN 0), (ptr L.bN 0), undef, undef, undef, undef] ?_
    refine wG (d_fieldAddr (j := 1) Try.underlying49 rfl s_ti3 (by decide) rfl rfl) ?_
    refine wG (nd_ld (v := (eN s.gB)) hN ⟨_, Try.underlying3, rfl⟩ rfl (fun _ => rfl)) ?_
    refine wG (d_lss (k := .i64) (m := b) (n := (s.gB : Int)) rfl rfl (decide_eq_false k3)) ?_
    refine wI (d_pick (b := true) (v := vF) rfl rfl) ?_
    refine wI (d_assign rfl) ?_
    refine wD (tN ?_)
    refine wpIn_ret ?_
    refine leave0 (v := vF) (res1 Try.results52 rfl) ?_
    exact ⟨congrArg Value.bool (by rw [← hr]; simp [NS.there, *]; try omega), oW⟩
   refine pL ?_
   refine wI (d_move rfl) ?_
   refine wI (d_geq (k := .i64) (m := d) (n := 0) rfl rfl (decide_eq_true k0)) ?_
   refine wI (d_move rfl) ?_
   refine wG (d_move rfl) ?_
   refine wG (d_move rfl) ?_
   refine wG (d_nilCheck (b := L.bN) (o := 0) rfl) ?_
   refine wF ([(ptr L.bN 0), (eI d), (eI b), undef, undef, undef, vF, (eI d), vT, vT, (eI d), (ptr L.bN 0), (ptr L.bN 0)] ++ (us 18)) ?_
   refine wG (d_fieldAddr (j := 0) Try.underlying81 rfl s_ti49 (by decide) rfl rfl) ?_
   refine wG (d_fieldAddr (j := 0) Try.underlying49 rfl s_ti3 (by decide) rfl rfl) ?_
   refine wG (nd_ld (v := (eN s.gD)) hN ⟨_, Try.underlying3, rfl⟩ rfl (fun _ => rfl)) ?_
   refine wG (d_lss (k := .i64) (m := d) (n := (s.gD : Int)) rfl rfl (decide_eq_true k1)) ?_
   refine wI (d_pick (b := true) (v := vT) rfl rfl) ?_
   refine wI (d_move rfl) ?_
   refine wG (d_move rfl) ?_
   refine wF ([(ptr L.bN 0), (eI d), (eI b), undef, undef, undef, vF, (eI d), vT, vT, (eI d), (ptr L.bN 0), (ptr L.bN 0), (ptr L.bN 0), (ptr L.bN 0), (eN s.gD), vT, vT, vT, (eI b)] ++ (us 11)) ?_
   refine wG (d_geq (k := .i64) (m := b) (n := 0) rfl rfl (decide_eq_false k2)) ?_
   refine wI (d_pick (b := true) (v := vF) rfl rfl) ?_
   refine wI (d_move rfl) ?_
   refine wX ?_
   refine wX ?_
   refine wX ?_
   refine wX ?_
   refine wF ([(ptr L.bN 0), (eI d), (eI b), undef, undef, undef, vF, (eI d), vT, vT, (eI d), (ptr L.bN 0), (ptr L.bN 0), (ptr L.bN 0), (ptr L.bN 0), (eN s.gD), vT, vT, vT, (eI b), vF, vF, vF] ++ (us 8)) ?_
   refine wX ?_
   refine wX ?_
   refine wX ?_
   refine wI (d_pick (b := false) (v := vF) rfl rfl) ?_
   refine wI (d_assign rfl) ?_
   refine wD (tN ?_)
   refine wpIn_ret ?_
   refine leave0 (v := vF) (res1 Try.results52 rfl) ?_
   exact ⟨congrArg Value.bool (by rw [← hr]; simp [NS.there, *]; try omega), oW⟩
  refine pL ?_
  refine wI (d_move rfl) ?_
  refine wI (d_geq (k := .i64) (m := d) (n := 0) rfl rfl (decide_eq_true k0)) ?_
  refine wI (d_move rfl) ?_
  refine wG (d_move rfl) ?_
  refine wG (d_move rfl) ?_
  refine wG (d_nilCheck (b := L.bN) (o := 0) rfl) ?_
  refine wF ([(ptr L.bN 0), (eI d), (eI b), undef, undef, undef, vF, (eI d), vT, vT, (eI d), (ptr L.bN 0), (ptr L.bN 0)] ++ (us 18)) ?_
  refine wG (d_fieldAddr (j := 0) Try.underlying81 rfl s_ti49 (by decide) rfl rfl) ?_
  refine wG (d_fieldAddr (j := 0) Try.underlying49 rfl s_ti3 (by decide) rfl rfl) ?_
  refine wG (nd_ld (v := (eN s.gD)) hN ⟨_, Try.underlying3, rfl⟩ rfl (fun _ => rfl)) ?_
  refine wG (d_lss (k := .i64) (m := d) (n := (s.gD : Int)) rfl rfl (decide_eq_false k1)) ?_
  refine wI (d_pick (b := true) (v := vF) rfl rfl) ?_
  refine wI (d_move rfl) ?_
  refine wX ?_
  refine wF ([(ptr L.bN 0), (eI d), (eI b), undef, undef, undef, vF, (eI d), vT, vT, (eI d), (ptr L.bN 0), (ptr L.bN 0), (ptr L.bN 0), (ptr L.bN 0), (eN s.gD), vF, vF, vF] ++ (us 12)) ?_
  refine wX ?_
  refine wI (d_pick (b := false) (v := vF) rfl rfl) ?_
  refine wI (d_move rfl) ?_
  refine wX ?_
  refine wX ?_
  refine wX ?_
  refine wX ?_
  refine wF ([(ptr L.bN 0), (eI d), (eI b), undef, undef, undef, vF, (eI d), vT, vT, (eI d), (ptr L.bN 0), (ptr L.bN 0), (ptr L.bN 0), (ptr L.bN 0), (eN s.gD), vF, vF, vF, undef, undef, vF, vF] ++ (us 8)) ?_
  refine wX ?_
  refine wX ?_
  refine wX ?_
  refine wI (d_pick (b := false) (v := vF) rfl rfl) ?_
  refine wI (d_assign rfl) ?_
  refine wD (tN ?_)
  refine wpIn_ret ?_
  refine leave0 (v := vF) (res1 Try.results52 rfl) ?_
  exact ⟨congrArg Value.bool (by rw [← hr]; simp [NS.there, *]; try omega), oW⟩
 refine pL ?_
 refine wI (d_move rfl) ?_
 refine wI (d_geq (k := .i64) (m := d) (n := 0) rfl rfl (decide_eq_false k0)) ?_
 refine wI (d_move rfl) ?_
 refine wX ?_
 refine wX ?_
 refine wX ?_
 refine wF ([(ptr L.bN 0), (eI d), (eI b), undef, undef, undef, vF, (eI d), vF, vF] ++ (us 21)) ?_
 refine wX ?_
 refine wX ?_
 refine wX ?_
 refine wX ?_
 refine wI (d_pick (b := false) (v := vF) rfl rfl) ?_
 refine wI (d_move rfl) ?_
 refine wX ?_
 refine wF ([(ptr L.bN 0), (eI d), (eI b), undef, undef, undef, vF, (eI d), vF, vF] ++ (us 7 ++ [vF, vF] ++ (us 12))) ?_
 refine wX ?_
 refine wI (d_pick (b := false) (v := vF) rfl rfl) ?_
 refine wI (d_move rfl) ?_
 refine wX ?_
 refine wX ?_
 refine wX ?_
 refine wX ?_
 refine wF ([(ptr L.bN 0), (eI d), (eI b), undef, undef, undef, vF, (eI d), vF, vF] ++ (us 7 ++ [vF, vF, undef, undef, vF, vF] ++ (us 8))) ?_
 refine wX ?_
 refine wX ?_
 refine wX ?_
 refine wI (d_pick (b := false) (v := vF) rfl rfl) ?_
 refine wI (d_assign rfl) ?_
 refine wD (tN ?_)
 refine wpIn_ret ?_
 refine leave0 (v := vF) (res1 Try.results52 rfl) ?_
 exact ⟨congrArg Value.bool (by rw [← hr]; simp [NS.there, *]; try omega), oW⟩
theorem pageq_ok (L : NL) (s : NS) {X : Nat → Prop} (W : World) (hN : Nd L s X W) {r : Bool} (d : Int) (b : Int) (p : Int) (hr : s.pageIn d b p = r) :
    CW Try.prog 58 #[(ptr L.bN 0), (eI d), (eI b), (eI p)] W (Rt (RIs (.bool r) W)) := by
 have oW : Only No W W := Only.refl _ _
 refine enter (al := [(ptr L.bN 0), (eI d), (eI b), (eI p)]) (k := 22) (l := ([(ptr L.bN 0), (eI d), (eI b), (eI p)] ++ (us 22))) Try.func58 rfl Try.ntmps58 rfl rfl ?_
 refine wQ (pL ?_)
 refine wI (d_assign rfl) ?_
 refine wD (tN (wQ ?_))
 by_cases k0 : (s.there d b) = true
 ·
  by_cases k1 : 0 ≤ p
  ·
   by_cases k2 : p < (s.gP : Int)
   ·
    refine pL ?_
    refine wI (d_move rfl) ?_
    refine wI (d_move rfl) ?_
    refine wI (d_move rfl) ?_
    refine wO (d_call (xl := [.tmp 9, .tmp 10, .tmp 11]) (al := [(ptr L.bN 0), (eI d), (eI b)]) Try.func52 kr rfl rfl rfl (there_ok L s _ hN (r := true) d b k0)) ?_
    rintro _ w11 ⟨rfl, o12⟩
    replace hN := hN.step0 o12
    replace oW := oW.tail0 o12
    refine wI (d_move rfl) ?_
    refine wG (d_move rfl) ?_
    refine wF ([(ptr L.bN 0), (eI d), (eI b), (eI p), undef, undef, undef, undef, vF, (ptr L.bN 0), (eI d), (eI b), vT, vT, (eI p)] ++ (us 11)) ?_
    refine wG (d_geq (k := .i64) (m := p) (n := 0) rfl rfl (decide_eq_true k1)) ?_
    refine wI (d_pick (b := true) (v := vT) rfl rfl) ?_
    refine wI (d_move rfl) ?_
    refine wG (d_move rfl) ?_
    refine wG (d_move rfl) ?_
    refine wG (d_nilCheck (b := L.bN) (o := 0) rfl) ?_
    refine wG (d_fieldAddr (j := 0) Try.underlying81 rfl s_ti49 (by decide) rfl rfl) ?_
    refine wF [(ptr L.bN 0), (eI d), (eI b), (eI p), undef, undef, undef, undef, vF, (ptr L.bN 0), (eI d), (eI b), vT, vT, (eI p), vT, vT, vT, (eI p), (ptr L.bN 0), (ptr L.bN 0), (ptr L.bN 0), undef, undef, undef, undef] ?_
    refine wG (d_fieldAddr (j := 2) Try.underlying49 rfl s_ti3 (by decide) rfl rfl) ?_
    refine wG (nd_ld (v := (eN s.gP)) hN ⟨_, Try.underlying3, rfl⟩ rfl (fun _ => rfl)) ?_
    refine wG (d_lss (k := .i64) (m := p) (n := (s.gP : Int)) rfl rfl (decide_eq_true k2)) ?_
    refine wI (d_pick (b := true) (v := vT) rfl rfl) ?_
    refine wI (d_assign rfl) ?_
    refine wD (tN ?_)
    refine wpIn_ret ?_
    refine leave0 (v := vT) (res1 Try.results58 rfl) ?_
    exact ⟨congrArg Value.bool (by rw [← hr]; simp [NS.pageIn, *]; try omega), oW⟩
   refine pL ?_
   refine wI (d_move rfl) ?_
   refine wI (d_move rfl) ?_
   refine wI (d_move rfl) ?_
   refine wO (d_call (xl := [.tmp 9, .tmp 10, .tmp 11]) (al := [(ptr L.bN 0), (eI d), (eI b)]) Try.func52 kr rfl rfl rfl (there_ok L s _ hN (r := true) d b k0)) ?_
   rintro _ w13 ⟨rfl, o14⟩
   replace hN := hN.step0 o14
   replace oW := oW.tail0 o14
   refine wI (d_move rfl) ?_
   refine wG (d_move rfl) ?_
   refine wF ([(ptr L.bN 0), (eI d), (eI b), (eI p), undef, undef, undef, undef, vF, (ptr L.bN 0), (eI d), (eI b), vT, vT, (eI p)] ++ (us 11)) ?_
   refine wG (d_geq (k := .i64) (m := p) (n := 0) rfl rfl (decide_eq_true k1)) ?_
   refine wI (d_pick (b := true) (v := vT) rfl rfl) ?_
   refine wI (d_move rfl) ?_
   refine wG (d_move rfl) ?_
   refine wG (d_move rfl) ?_
   refine wG (d_nilCheck (b := L.bN) (o := 0) rfl) ?_
   refine wG (d_fieldAddr (j := 0) Try.underlying81 rfl s_ti49 (by decide) rfl rfl) ?_
   refine wF [(ptr L.bN 0), (eI d), (eI b), (eI p), undef, undef, undef, undef, vF, (ptr L.bN 0), (eI d), (eI b), vT, vT, (eI p), vT, vT, vT, (eI p), (ptr L.bN 0), (ptr L.bN 0), (ptr L.bN 0), undef, undef, undef, undef] ?_
   refine wG (d_fieldAddr (j := 2) Try.underlying49 rfl s_ti3 (by decide) rfl rfl) ?_
   refine wG (nd_ld (v := (eN s.gP)) hN ⟨_, Try.underlying3, rfl⟩ rfl (fun _ => rfl)) ?_
   refine wG (d_lss (k := .i64) (m := p) (n := (s.gP : Int)) rfl rfl (decide_eq_false k2)) ?_
   refine wI (d_pick (b := true) (v := vF) rfl rfl) ?_
   refine wI (d_assign rfl) ?_
   refine wD (tN ?_)
   refine wpIn_ret ?_
   refine leave0 (v := vF) (res1 Try.results58 rfl) ?_
   exact ⟨congrArg Value.bool (by rw [← hr]; simp [NS.pageIn, *]; try omega), oW⟩
  refine pL ?_
  refine wI (d_move rfl) ?_
  refine wI (d_move rfl) ?_
  refine wI (d_move rfl) ?_
  refine wO (d_call (xl := [.tmp 9, .tmp 10, .tmp 11]) (al := [(ptr L.bN 0), (eI d), (eI b)]) Try.func52 kr rfl rfl rfl (there_ok L s _ hN (r := true) d b k0)) ?_
  rintro _ w15 ⟨rfl, o16⟩
  replace hN := hN.step0 o16
  replace oW := oW.tail0 o16
  refine wI (d_move rfl) ?_
  refine wG (d_move rfl) ?_
  refine wF ([(ptr L.bN 0), (eI d), (eI b), (eI p), undef, undef, undef, undef, vF, (ptr L.bN 0), (eI d), (eI b), vT, vT, (eI p)] ++ (us 11)) ?_
  refine wG (d_geq (k := .i64) (m := p) (n := 0) rfl rfl (decide_eq_false k1)) ?_
  refine wI (d_pick (b := true) (v := vF) rfl rfl) ?_
  refine wI (d_move rfl) ?_
  refine wX ?_
  refine wX ?_
  refine wX ?_
  refine wX ?_
  refine wF ([(ptr L.bN 0), (eI d), (eI b), (eI p), undef, undef, undef, undef, vF, (ptr L.bN 0), (eI d), (eI b), vT, vT, (eI p), vF, vF, vF] ++ (us 8)) ?_
  refine wX ?_
  refine wX ?_
  refine wX ?_
  refine wI (d_pick (b := false) (v := vF) rfl rfl) ?_
  refine wI (d_assign rfl) ?_
  refine wD (tN ?_)
  refine wpIn_ret ?_
  refine leave0 (v := vF) (res1 Try.results58 rfl) ?_
  exact ⟨congrArg Value.bool (by rw [← hr]; simp [NS.pageIn, *]; try omega), oW⟩
 refine pL ?_
 refine wI (d_move rfl) ?_
 refine wI (d_move rfl) ?_
 refine wI (d_move rfl) ?_
 refine wO (d_call (xl := [.tmp 9, .tmp 10, .tmp 11]) (al := [(ptr L.bN 0), (eI d), (eI b)]) Try.func52 kr rfl rfl rfl (there_ok L s _ hN (r := false) d b (Bool.eq_false_iff.2 k0))) ?_
 rintro _ w17 ⟨rfl, o18⟩
 replace hN := hN.step0 o18
 replace oW := oW.tail0 o18
 refine wI (d_move rfl) ?_
 refine wX ?_
 refine wF ([(ptr L.bN 0), (eI d), (eI b), (eI p), undef, undef, undef, undef, vF, (ptr L.bN 0), (eI d), (eI b), vF, vF] ++ (us 12)) ?_
 refine wX ?_
 refine wI (d_pick (b := false) (v := vF) rfl rfl) ?_
 refine wI (d_move rfl) ?_
 refine wX ?_
 refine wX ?_
 refine wX ?_
 refine wX ?_
 refine wF ([(ptr L.bN 0), (eI d), (eI b), (eI p), undef, undef, undef, undef, vF, (ptr L.bN 0), (eI d), (eI b), vF, vF, undef, undef, vF, vF] ++ (us 8)) ?_
 refine wX ?_
 refine wX ?_
 refine wX ?_
 refine wI (d_pick (b := false) (v := vF) rfl rfl) ?_
 refine wI (d_assign rfl) ?_
 refine wD (tN ?_)
 refine wpIn_ret ?_
 refine leave0 (v := vF) (res1 Try.results58 rfl) ?_
 exact ⟨congrArg Value.bool (by rw [← hr]; simp [NS.pageIn, *]; try omega), oW⟩
theorem isBad_ok (L : NL) (s : NS) {X : Nat → Prop} (W : World) (hN : Nd L s X W) {r : Bool} (d : Int) (b : Int) (hr : s.isBad d b = r) :
    CW Try.prog 79 #[(ptr L.bN 0), (eI d), (eI b)] W (Rt (RIs (.bool r) W)) := by
 have oW : Only No W W := Only.refl _ _
 refine enter (al := [(ptr L.bN 0), (eI d), (eI b)]) (k := 21) (l := ([(ptr L.bN 0), (eI d), (eI b)] ++ (us 21))) Try.func79 rfl Try.ntmps79 rfl rfl ?_
 refine wQ (pL ?_)
 refine wI (d_assign rfl) ?_
 refine wD (tN (wQ ?_))
 by_cases k0 : (s.there d b) = true
 ·
  obtain ⟨hd0, hd1, hb0, hb1⟩ := NS.there_of k0
  obtain ⟨dn, rfl⟩ := Int.eq_ofNat_of_zero_le hd0
  replace hd1 : dn < s.gD := Int.ofNat_lt.1 hd1
  refine wp_eq (l' := ([(ptr L.bN 0), (eN dn), (eI b), undef, undef, undef, vF] ++ (us 17))) rfl ?_
  obtain ⟨bn, rfl⟩ := Int.eq_ofNat_of_zero_le hb0
  replace hb1 : bn < s.gB := Int.ofNat_lt.1 hb1
  refine wp_eq (l' := ([(ptr L.bN 0), (eN dn), (eN bn), undef, undef, undef, vF] ++ (us 17))) rfl ?_
  refine pL ?_
  refine wI (d_move rfl) ?_
  refine wI (d_move rfl) ?_
  refine wI (d_move rfl) ?_
  refine wO (d_call (xl := [.tmp 7, .tmp 8, .tmp 9]) (al := [(ptr L.bN 0), (eN dn), (eN bn)]) Try.func52 kr rfl rfl rfl (there_ok L s _ hN (r := true) (dn : Int) (bn : Int) k0)) ?_
  rintro _ w11 ⟨rfl, o12⟩
  replace hN := hN.step0 o12
  replace oW := oW.tail0 o12
  refine wI (d_move rfl) ?_
  refine wG (d_move rfl) ?_
  refine wG (d_nilCheck (b := L.bN) (o := 0) rfl) ?_
  refine wF ([(ptr L.bN 0), (eN dn), (eN bn), undef, undef, undef, vF, (ptr L.bN 0), (eN dn), (eN bn), vT, vT, (ptr L.bN 0), (ptr L.bN 0)] ++ (us 10)) ?_
  refine wG (d_fieldAddr (j := 11) Try.underlying81 rfl s_ti79 (by decide) rfl rfl) ?_
  refine wG (nd_ld (v := L.ub) hN ⟨_, Try.underlying79, rfl⟩ rfl (fun _ => rfl)) ?_
  refine wG (d_move rfl) ?_
  refine wG (nd_ixU (i := dn) hN Try.underlying79 s_ti83 rfl (show _ = Value.int _ (dn : Int) from rfl) hd1) ?_
  refine wG (nd_ldU (i := dn) hN ⟨_, Try.underlying83, rfl⟩ rfl hd1) ?_
  refine wG (d_move rfl) ?_
  refine wG (d_index (b := (L.bk.getD dn 0)) (o := 0) (n := s.gB) (c := s.gB) (j := (bn * 3)) Try.underlying83 s_ti87 rfl (show _ = Value.int _ (bn : Int) from rfl) oo oo (by simp)) ?_
  refine wF [(ptr L.bN 0), (eN dn), (eN bn), undef, undef, undef, vF, (ptr L.bN 0), (eN dn), (eN bn), vT, vT, (ptr L.bN 0), (ptr L.bN 0), (ptr L.bN 11), L.ub, (eN dn), (ixp L.ub dn), (sli (L.bk.getD dn 0) 0 s.gB s.gB), (eN bn), (ptr (L.bk.getD dn 0) (bn * 3)), undef, undef, undef] ?_
  refine wG (d_fieldAddr (j := bn * 3 + 2) Try.underlying87 rfl s_ti4 (by decide) rfl rfl) ?_
  refine wG (nd_ldS (i := dn) (j := bn) (f := 2) hN ⟨_, Try.underlying4, rfl⟩ rfl hd1 hb1 (by decide) rfl) ?_
  refine wI (d_pick (b := true) (v := (Value.bool ((s.bl dn bn).bad))) rfl rfl) ?_
  refine wI (d_assign rfl) ?_
  refine wD (tN ?_)
  refine wpIn_ret ?_
  refine leave0 (v := (Value.bool ((s.bl dn bn).bad))) (res1 Try.results79 rfl) ?_
  exact ⟨congrArg Value.bool (by rw [← hr]; simp [NS.isBad, *]), oW⟩
 refine pL ?_
 refine wI (d_move rfl) ?_
 refine wI (d_move rfl) ?_
 refine wI (d_move rfl) ?_
 refine wO (d_call (xl := [.tmp 7, .tmp 8, .tmp 9]) (al := [(ptr L.bN 0), (eI d), (eI b)]) Try.func52 kr rfl rfl rfl (there_ok L s _ hN (r := false) d b (Bool.eq_false_iff.2 k0))) ?_
 rintro _ w13 ⟨rfl, o14⟩
 replace hN := hN.step0 o14
 replace oW := oW.tail0 o14
 refine wI (d_move rfl) ?_
 refine wX ?_
 refine wF ([(ptr L.bN 0), (eI d), (eI b), undef, undef, undef, vF, (ptr L.bN 0), (eI d), (eI b), vF, vF] ++ (us 12)) ?_
 refine wX ?_
 refine wX ?_
 refine wX ?_
 refine wX ?_
 refine wX ?_
 refine wX ?_
 refine wX ?_
 refine wF ([(ptr L.bN 0), (eI d), (eI b), undef, undef, undef, vF, (ptr L.bN 0), (eI d), (eI b), vF, vF] ++ (us 12)) ?_
 refine wX ?_
 refine wX ?_
 refine wX ?_
 refine wI (d_pick (b := false) (v := vF) rfl rfl) ?_
 refine wI (d_assign rfl) ?_
 refine wD (tN ?_)
 refine wpIn_ret ?_
 refine leave0 (v := vF) (res1 Try.results79 rfl) ?_
 exact ⟨congrArg Value.bool (by rw [← hr]; simp [NS.isBad, *]), oW⟩
theorem ask_ok (L : NL) (s : NS) {X : Nat → Prop} (W : World) (hN : Nd L s X W) {g : Bool} (fine : Bool) (hg : g = fine) :
    CW Try.prog 80 #[(ptr L.bN 0), (Value.bool fine)] W (Rt (fun u w => u = eN (s.askR g) ∧ Nd L (s.ask g) X w ∧ Only L.S W w)) := by
 have oW : Only L.S W W := Only.refl _ _
 refine enter (al := [(ptr L.bN 0), (Value.bool fine)]) (k := 25) (l := ([(ptr L.bN 0), (Value.bool fine)] ++ (us 25))) Try.func80 rfl Try.ntmps80 rfl rfl ?_
 refine wQ (pL ?_)
 refine wI (d_assign rfl) ?_
 refine wD (tN (wQ (wB (wQ (pL ?_)))))
 refine wI (d_move rfl) ?_
 refine wI (d_nilCheck (b := L.bN) (o := 0) rfl) ?_
 refine wI (d_fieldAddr (j := 14) Try.underlying81 rfl s_ti4 (by decide) rfl rfl) ?_
 refine wI (nd_ld (v := (Value.bool s.dead)) hN ⟨_, Try.underlying4, rfl⟩ rfl (fun _ => rfl)) ?_
 refine wI (d_assign rfl) ?_
 refine wD (tN ?_)
 refine cond_b rfl (fun c0 => ?_) (fun c0 => ?_)
 ·
  refine wQ (pL ?_)
  refine wI (d_assign rfl) ?_
  refine wF ([(ptr L.bN 0), (Value.bool fine), undef, undef, (eN 8), (Value.bool s.dead), (ptr L.bN 0), (ptr L.bN 0), (ptr L.bN 14), (Value.bool s.dead)] ++ (us 17)) ?_
  refine wD (tN ?_)
  refine wpIn_ret ?_
  refine inb_r (then_r ?_)
  refine leave0 (v := (eN 8)) (res1 Try.results80 rfl) ?_
  subst hg
  exact ⟨congrArg eN (by simp [NS.askR, c0]), by rw [NS.ask_dead c0]; exact hN, oW⟩
 refine wQ (pL ?_)
 refine wI (d_move rfl) ?_
 refine wF ([(ptr L.bN 0), (Value.bool fine), undef, undef, (eN 0), (Value.bool s.dead), (ptr L.bN 0), (ptr L.bN 0), (ptr L.bN 14), (Value.bool s.dead), undef, (Value.bool fine)] ++ (us 15)) ?_
 refine wI (d_not rfl rfl) ?_
 refine wI (d_assign rfl) ?_
 refine wD (tN ?_)
 refine forget (fun zf11 => ([(ptr L.bN 0)] ++ (zs zf11 1 9 ++ [(Value.bool (!fine))] ++ (zs zf11 11 16)))) kr (fun zf11 => ?_)
 refine cond_b rfl (fun c1 => ?_) (fun c1 => ?_)
 ·
  refine wQ (pL ?_)
  refine wI (d_move rfl) ?_
  refine wI (d_nilCheck (b := L.bN) (o := 0) rfl) ?_
  refine wI (d_fieldAddr (j := 16) Try.underlying81 rfl s_ti3 (by decide) rfl rfl) ?_
  refine wI (nd_ld (v := (eI s.wrong)) hN ⟨_, Try.underlying3, rfl⟩ rfl (fun _ => rfl)) ?_
  refine wI (d_add (k := .i64) (m := s.wrong) (n := 1) rfl rfl rfl) ?_
  refine wI (d_nilCheck (b := L.bN) (o := 0) rfl) ?_
  refine wI (d_fieldAddr (j := 16) Try.underlying81 rfl s_ti3 (by decide) rfl rfl) ?_
  refine wF ([(ptr L.bN 0)] ++ (zs zf11 1 9 ++ [(Value.bool (!fine)), (zf11 11), (zf11 12), (ptr L.bN 0), (ptr L.bN 0), (ptr L.bN 16), (eI s.wrong), (eI (IntKind.i64.wrap (s.wrong + 1))), (ptr L.bN 0), (ptr L.bN 16)] ++ (zs zf11 20 7))) ?_
  refine wO (nd_st (s' := { s with wrong := IntKind.i64.wrap (s.wrong + 1) }) (i := 16) (v := (eI (IntKind.i64.wrap (s.wrong + 1)))) hN s_ti3 rfl rfl rfl (by decide) (fun _ => rfl) ⟨hN.ok.d, hN.ok.b, hN.ok.p, hN.ok.nx, hN.ok.st, hN.ok.dl, hN.ok.nl, hN.ok.ml⟩ ⟨rfl, rfl, rfl, rfl, rfl, rfl, rfl⟩) ?_
  rintro _ w12 ⟨a13, o14⟩
  replace oW := oW.tail o14 (fun k _ e => (fun k h => h) k e)
  replace hN := a13
  refine wD (tN ?_)
  refine forget (fun zf15 => (zs zf15 0 27)) kr (fun zf15 => ?_)
  refine wQ (pL ?_)
  refine wI (d_assign rfl) ?_
  refine wD (tN ?_)
  refine wpIn_ret ?_
  refine inb_r (then_r ?_)
  refine leave0 (v := (eN 1)) (res1 Try.results80 rfl) ?_
  subst hg
  simp at c1
  subst c1
  exact ⟨congrArg eN (by simp [NS.askR, c0]), by rw [NS.ask_no c0]; exact hN, oW⟩
 refine wK ?_
 refine inb_n (tN ?_)
 refine wQ (pL ?_)
 refine wI (d_move rfl) ?_
 refine wI (d_nilCheck (b := L.bN) (o := 0) rfl) ?_
 refine wI (d_fieldAddr (j := 15) Try.underlying81 rfl s_ti3 (by decide) rfl rfl) ?_
 refine wI (nd_ld (v := (eI s.ops)) hN ⟨_, Try.underlying3, rfl⟩ rfl (fun _ => rfl)) ?_
 refine wI (d_add (k := .i64) (m := s.ops) (n := 1) rfl rfl rfl) ?_
 refine wI (d_nilCheck (b := L.bN) (o := 0) rfl) ?_
 refine wI (d_fieldAddr (j := 15) Try.underlying81 rfl s_ti3 (by decide) rfl rfl) ?_
 refine wF ([(ptr L.bN 0)] ++ (zs zf11 1 9 ++ [(Value.bool (!fine))] ++ (zs zf11 11 9 ++ [(ptr L.bN 0), (ptr L.bN 0), (ptr L.bN 15), (eI s.ops), (eI (IntKind.i64.wrap (s.ops + 1))), (ptr L.bN 0), (ptr L.bN 15)]))) ?_
 refine wO (nd_st (s' := { s with ops := IntKind.i64.wrap (s.ops + 1) }) (i := 15) (v := (eI (IntKind.i64.wrap (s.ops + 1)))) hN s_ti3 rfl rfl rfl (by decide) (fun _ => rfl) ⟨hN.ok.d, hN.ok.b, hN.ok.p, hN.ok.nx, hN.ok.st, hN.ok.dl, hN.ok.nl, hN.ok.ml⟩ ⟨rfl, rfl, rfl, rfl, rfl, rfl, rfl⟩) ?_
 rintro _ w16 ⟨a17, o18⟩
 replace oW := oW.tail o18 (fun k _ e => (fun k h => h) k e)
 replace hN := a17
 refine wD (tN ?_)
 refine forget (fun zf19 => (zs zf19 0 27)) kr (fun zf19 => ?_)
 refine wQ (pL ?_)
 refine wI (d_assign rfl) ?_
 refine wD (tN ?_)
 refine wpIn_ret ?_
 refine leave0 (v := (eN 0)) (res1 Try.results80 rfl) ?_
 subst hg
 simp at c1
 subst c1
 exact ⟨congrArg eN (by simp [NS.askR, c0]), by rw [NS.ask_yes c0]; exact hN, oW⟩
theorem goes_ok (L : NL) (s : NS) {X : Nat → Prop} (W : World) (hN : Nd L s X W) :
    CW Try.prog 82 #[(ptr L.bN 0)] W (Rt (fun u w => u = .bool s.goesR ∧ Nd L s.goes X w ∧ Only L.S W w)) := by
 have oW : Only L.S W W := Only.refl _ _
 refine enter (al := [(ptr L.bN 0)]) (k := 26) (l := ([(ptr L.bN 0)] ++ (us 26))) Try.func82 rfl Try.ntmps82 rfl rfl ?_
 refine wQ (pL ?_)
 refine wI (d_assign rfl) ?_
 refine wD (tN (wQ (wQ (pL ?_))))
 refine wI (d_move rfl) ?_
 refine wI (d_nilCheck (b := L.bN) (o := 0) rfl) ?_
 refine wI (d_fieldAddr (j := 12) Try.underlying81 rfl s_ti3 (by decide) rfl rfl) ?_
 refine wI (nd_ld (v := (eN s.stop)) hN ⟨_, Try.underlying3, rfl⟩ rfl (fun _ => rfl)) ?_
 refine wI (n_lss (a := s.stop) (b := 1) rfl rfl rfl) ?_
 refine wD (tN ?_)
 refine cond_if rfl (fun c0 => ?_) (fun c0 => ?_)
 ·
  refine wQ (pL ?_)
  refine wI (d_assign rfl) ?_
  refine wF ([(ptr L.bN 0), undef, vF, (ptr L.bN 0), (ptr L.bN 0), (ptr L.bN 12), (eN s.stop), (Value.bool (decide (s.stop < 1)))] ++ (us 19)) ?_
  refine wD (tN ?_)
  refine wpIn_ret ?_
  refine then_r ?_
  refine leave0 (v := vF) (res1 Try.results82 rfl) ?_
  exact ⟨congrArg Value.bool (by simp [NS.goesR, c0]), by rw [NS.goes_no c0]; exact hN, oW⟩
 refine wK (tN (wQ ?_))
 have st_ := hN.ok.st
 refine pL ?_
 refine wI (d_move rfl) ?_
 refine wF ([(ptr L.bN 0), undef, vF, (ptr L.bN 0), (ptr L.bN 0), (ptr L.bN 12), (eN s.stop), (Value.bool (decide (s.stop < 1))), (ptr L.bN 0)] ++ (us 18)) ?_
 refine wI (d_nilCheck (b := L.bN) (o := 0) rfl) ?_
 refine wI (d_fieldAddr (j := 12) Try.underlying81 rfl s_ti3 (by decide) rfl rfl) ?_
 refine wI (nd_ld (v := (eN s.stop)) hN ⟨_, Try.underlying3, rfl⟩ rfl (fun _ => rfl)) ?_
 refine wI (n_sub (a := s.stop) (b := 1) rfl rfl oo oo) ?_
 refine wI (d_nilCheck (b := L.bN) (o := 0) rfl) ?_
 refine wI (d_fieldAddr (j := 12) Try.underlying81 rfl s_ti3 (by decide) rfl rfl) ?_
 refine wO (nd_st (s' := { s with stop := s.stop - 1 }) (i := 12) (v := (eN (s.stop - 1))) hN s_ti3 rfl rfl rfl (by decide) (fun _ => rfl) ⟨hN.ok.d, hN.ok.b, hN.ok.p, hN.ok.nx, (by have := hN.ok.st; show s.stop - 1 < 2 ^ 62; omega), hN.ok.dl, hN.ok.nl, hN.ok.ml⟩ ⟨rfl, rfl, rfl, rfl, rfl, rfl, rfl⟩) ?_
 rintro _ w11 ⟨a12, o13⟩
 replace oW := oW.tail o13 (fun k _ e => (fun k h => h) k e)
 replace hN := a12
 refine wF ([(ptr L.bN 0), undef, vF, (ptr L.bN 0), (ptr L.bN 0), (ptr L.bN 12), (eN s.stop), (Value.bool (decide (s.stop < 1))), (ptr L.bN 0), (ptr L.bN 0), (ptr L.bN 12), (eN s.stop), (eN (s.stop - 1)), (ptr L.bN 0), (ptr L.bN 12)] ++ (us 12)) ?_
 refine wD (tN ?_)
 refine forget (fun zf14 => ([(ptr L.bN 0)] ++ (zs zf14 1 26))) kr (fun zf14 => ?_)
 refine wQ (pL ?_)
 refine wI (d_move rfl) ?_
 refine wI (d_move rfl) ?_
 refine wI (d_nilCheck (b := L.bN) (o := 0) rfl) ?_
 refine wI (d_fieldAddr (j := 12) Try.underlying81 rfl s_ti3 (by decide) rfl rfl) ?_
 refine wI (nd_ld (v := (eN (({ s with stop := s.stop - 1 }).stop))) hN ⟨_, Try.underlying3, rfl⟩ rfl (fun _ => rfl)) ?_
 refine wI (n_eql (a := (({ s with stop := s.stop - 1 }).stop)) (b := 0) rfl rfl rfl) ?_
 refine wI (d_nilCheck (b := L.bN) (o := 0) rfl) ?_
 refine wF ([(ptr L.bN 0)] ++ (zs zf14 1 14 ++ [(ptr L.bN 0), (ptr L.bN 0), (ptr L.bN 0), (ptr L.bN 12), (eN (({ s with stop := s.stop - 1 }).stop)), (Value.bool (decide ((({ s with stop := s.stop - 1 }).stop) = 0))), (ptr L.bN 0)] ++ (zs zf14 22 5))) ?_
 refine wI (d_fieldAddr (j := 14) Try.underlying81 rfl s_ti4 (by decide) rfl rfl) ?_
 refine wO (nd_st (s' := { { s with stop := s.stop - 1 } with dead := decide ((({ s with stop := s.stop - 1 }).stop) = 0) }) (i := 14) (v := (Value.bool (decide ((({ s with stop := s.stop - 1 }).stop) = 0)))) hN s_ti4 rfl rfl rfl (by decide) (fun _ => rfl) ⟨hN.ok.d, hN.ok.b, hN.ok.p, hN.ok.nx, hN.ok.st, hN.ok.dl, hN.ok.nl, hN.ok.ml⟩ ⟨rfl, rfl, rfl, rfl, rfl, rfl, rfl⟩) ?_
 rintro _ w15 ⟨a16, o17⟩
 replace oW := oW.tail o17 (fun k _ e => (fun k h => h) k e)
 replace hN := a16
 refine wD (tN ?_)
 refine forget (fun zf18 => ([(ptr L.bN 0)] ++ (zs zf18 1 26))) kr (fun zf18 => ?_)
 refine wQ (pL ?_)
 refine wI (d_move rfl) ?_
 refine wI (d_nilCheck (b := L.bN) (o := 0) rfl) ?_
 refine wI (d_fieldAddr (j := 14) Try.underlying81 rfl s_ti4 (by decide) rfl rfl) ?_
 refine wI (nd_ld (v := (Value.bool (({ { s with stop := s.stop - 1 } with dead := decide ((({ s with stop := s.stop - 1 }).stop) = 0) }).dead))) hN ⟨_, Try.underlying4, rfl⟩ rfl (fun _ => rfl)) ?_
 refine wI (d_assign rfl) ?_
 refine wD (tN ?_)
 refine wpIn_ret ?_
 refine leave0 (v := (Value.bool (({ { s with stop := s.stop - 1 } with dead := decide ((({ s with stop := s.stop - 1 }).stop) = 0) }).dead))) (res1 Try.results82 rfl) ?_
 exact ⟨congrArg Value.bool (by simp [NS.goesR, c0]), by rw [NS.goes_yes c0]; exact hN, oW⟩
theorem nandWrong_ok (L : NL) (s : NS) {X : Nat → Prop} (W : World) (hN : Nd L s X W) :
    CW Try.prog 36 #[(ptr L.bN 0)] W (Rt (RIs (eI s.wrong) W)) := by
 have oW : Only No W W := Only.refl _ _
 refine enter (al := [(ptr L.bN 0)]) (k := 6) (l := ([(ptr L.bN 0)] ++ (us 6))) Try.func36 rfl Try.ntmps36 rfl rfl ?_
 refine wQ (pL ?_)
 refine wI (d_assign rfl) ?_
 refine wD (tN (wQ (pL ?_)))
 refine wI (d_move rfl) ?_
 refine wI (d_nilCheck (b := L.bN) (o := 0) rfl) ?_
 refine wI (d_fieldAddr (j := 16) Try.underlying81 rfl s_ti3 (by decide) rfl rfl) ?_
 refine wI (nd_ld (v := (eI s.wrong)) hN ⟨_, Try.underlying3, rfl⟩ rfl (fun _ => rfl)) ?_
 refine wI (d_assign rfl) ?_
 refine wD (tN ?_)
 refine wpIn_ret ?_
 refine leave0 (v := (eI s.wrong)) (res1 Try.results36 rfl) ?_
 exact ⟨rfl, oW⟩
theorem read_ok (L : NL) (s : NS) {X : Nat → Prop} (W : World) (hN : Nd L s X W) (d b p : Int) (hX : ∀ k, X k → k < W.heap.size) :
    CW Try.prog 57 #[(ptr L.bN 0), (eI d), (eI b), (eI p)] W (Rt (fun u w => ∃ v, u = .tuple #[v, eN (s.askR (s.readOk d b p))] ∧ Ps (Old W.heap.size) (Seq kB (s.readL d b p) v) w ∧ Nd L (s.ask (s.readOk d b p)) X w ∧ Only L.S W w)) := by
 have oW : Only L.S W W := Only.refl _ _
 refine enter (al := [(ptr L.bN 0), (eI d), (eI b), (eI p)]) (k := 45) (l := ([(ptr L.bN 0), (eI d), (eI b), (eI p)] ++ (us 45))) Try.func57 rfl Try.ntmps57 rfl rfl ?_
 refine wQ (pL ?_)
 refine wI (d_assign rfl) ?_
 refine wI (d_assign rfl) ?_
 refine wD (tN (wQ (wQ ?_)))
 by_cases k0 : (s.pageIn d b p) = true
 ·
  obtain ⟨hd0, hd1, hb0, hb1, hp0, hp1⟩ := NS.page_of k0
  obtain ⟨dn, rfl⟩ := Int.eq_ofNat_of_zero_le hd0
  replace hd1 : dn < s.gD := Int.ofNat_lt.1 hd1
  refine wp_eq (l' := ([(ptr L.bN 0), (eN dn), (eI b), (eI p), undef, undef, undef, undef, (Value.slice none 0 0), (eN 0)] ++ (us 39))) rfl ?_
  obtain ⟨bn, rfl⟩ := Int.eq_ofNat_of_zero_le hb0
  replace hb1 : bn < s.gB := Int.ofNat_lt.1 hb1
  refine wp_eq (l' := ([(ptr L.bN 0), (eN dn), (eN bn), (eI p), undef, undef, undef, undef, (Value.slice none 0 0), (eN 0)] ++ (us 39))) rfl ?_
  obtain ⟨pn, rfl⟩ := Int.eq_ofNat_of_zero_le hp0
  replace hp1 : pn < s.gP := Int.ofNat_lt.1 hp1
  refine wp_eq (l' := ([(ptr L.bN 0), (eN dn), (eN bn), (eN pn), undef, undef, undef, undef, (Value.slice none 0 0), (eN 0)] ++ (us 39))) rfl ?_
  by_cases k1 : (s.isBad (dn : Int) (bn : Int)) = true
  ·
   refine pL ?_
   refine wI (d_move rfl) ?_
   refine wI (d_move rfl) ?_
   refine wI (d_move rfl) ?_
   refine wI (d_move rfl) ?_
   refine wI (d_move rfl) ?_
   refine wO (d_call (xl := [.tmp 12, .tmp 13, .tmp 14, .tmp 15]) (al := [(ptr L.bN 0), (eN dn), (eN bn), (eN pn)]) Try.func58 kr rfl rfl rfl (pageq_ok L s _ hN (r := true) (dn : Int) (bn : Int) (pn : Int) k0)) ?_
   rintro _ w11 ⟨rfl, o12⟩
   replace hN := hN.step0 o12
   replace oW := oW.tail0 o12
   refine wI (d_move rfl) ?_
   refine wF ([(ptr L.bN 0), (eN dn), (eN bn), (eN pn), undef, undef, undef, undef, (Value.slice none 0 0), (eN 0), undef, (ptr L.bN 0), (ptr L.bN 0), (eN dn), (eN bn), (eN pn), vT, vT] ++ (us 31)) ?_
   refine wG (d_move rfl) ?_
   refine wG (d_move rfl) ?_
   refine wG (d_move rfl) ?_
   refine wpL.on rfl rfl rfl (nb rfl) rfl (d_call (xl := [.tmp 18, .tmp 19, .tmp 20]) (al := [(ptr L.bN 0), (eN dn), (eN bn)]) Try.func79 kr rfl rfl rfl (isBad_ok L s _ hN (r := true) (dn : Int) (bn : Int) k1)) ?_
   rintro _ w13 ⟨rfl, o14⟩
   replace hN := hN.step0 o14
   replace oW := oW.tail0 o14
   refine wG (d_not rfl rfl) ?_
   refine wI (d_pick (b := true) (v := vF) rfl rfl) ?_
   refine wO (d_call (xl := [.tmp 11, .tmp 23]) (al := [(ptr L.bN 0), vF]) Try.func80 kr rfl rfl rfl (ask_ok L s _ hN (g := (s.readOk (dn : Int) (bn : Int) (pn : Int))) false (by simp [NS.readOk, *]))) ?_
   rintro _ w15 ⟨rfl, a17, o16⟩
   replace oW := oW.tail o16 (fun k _ e => (fun k h => h) k e)
   replace hN := a17
   refine wF ([(ptr L.bN 0), (eN dn), (eN bn), (eN pn), undef, undef, undef, undef, (Value.slice none 0 0), (eN 0), undef, (ptr L.bN 0), (ptr L.bN 0), (eN dn), (eN bn), (eN pn), vT, vT, (ptr L.bN 0), (eN dn), (eN bn), vT, vF, vF, (eN (s.askR (s.readOk (dn : Int) (bn : Int) (pn : Int))))] ++ (us 24)) ?_
   refine wI (d_assign rfl) ?_
   refine wD (tN ?_)
   refine forget (fun zf18 => ([(ptr L.bN 0), (eN dn), (eN bn), (eN pn)] ++ (zs zf18 4 6 ++ [(eN (s.askR (s.readOk (dn : Int) (bn : Int) (pn : Int))))] ++ (zs zf18 11 17 ++ (us 21))))) kr (fun zf18 => ?_)
   refine wQ (pL ?_)
   refine wI (d_move rfl) ?_
   refine wI (n_neq (a := (s.askR (s.readOk (dn : Int) (bn : Int) (pn : Int)))) (b := 0) rfl rfl rfl) ?_
   refine wD (tN ?_)
   refine cond_un rfl (fun c0 => ?_) (fun c0 => ?_)
   ·
    refine wQ (pL ?_)
    refine wI (d_move rfl) ?_
    refine wI (d_assign rfl) ?_
    refine wI (d_assign rfl) ?_
    refine wD (tN ?_)
    refine forget (fun zf19 => (zs zf19 0 8 ++ [(Value.slice none 0 0), (eN (s.askR (s.readOk (dn : Int) (bn : Int) (pn : Int))))] ++ (zs zf19 10 39))) kr (fun zf19 => ?_)
    refine wpIn_ret ?_
    refine then_r ?_
    refine leave0 (v := (Value.tuple #[(Value.slice none 0 0), (eN (s.askR (s.readOk (dn : Int) (bn : Int) (pn : Int))))])) (res2 Try.results57 rfl rfl) ?_
    exact ⟨_, rfl, by unfold NS.readL; rw [if_neg c0]; exact seq_nil, hN, oW⟩
   exact absurd c0 (NS.askR_no (by simp [NS.readOk, *]))
  refine pL ?_
  refine wI (d_move rfl) ?_
  refine wI (d_move rfl) ?_
  refine wI (d_move rfl) ?_
  refine wI (d_move rfl) ?_
  refine wI (d_move rfl) ?_
  refine wO (d_call (xl := [.tmp 12, .tmp 13, .tmp 14, .tmp 15]) (al := [(ptr L.bN 0), (eN dn), (eN bn), (eN pn)]) Try.func58 kr rfl rfl rfl (pageq_ok L s _ hN (r := true) (dn : Int) (bn : Int) (pn : Int) k0)) ?_
  rintro _ w20 ⟨rfl, o21⟩
  replace hN := hN.step0 o21
  replace oW := oW.tail0 o21
  refine wI (d_move rfl) ?_
  refine wF ([(ptr L.bN 0), (eN dn), (eN bn), (eN pn), undef, undef, undef, undef, (Value.slice none 0 0), (eN 0), undef, (ptr L.bN 0), (ptr L.bN 0), (eN dn), (eN bn), (eN pn), vT, vT] ++ (us 31)) ?_
  refine wG (d_move rfl) ?_
  refine wG (d_move rfl) ?_
  refine wG (d_move rfl) ?_
  refine wpL.on rfl rfl rfl (nb rfl) rfl (d_call (xl := [.tmp 18, .tmp 19, .tmp 20]) (al := [(ptr L.bN 0), (eN dn), (eN bn)]) Try.func79 kr rfl rfl rfl (isBad_ok L s _ hN (r := false) (dn : Int) (bn : Int) (Bool.eq_false_iff.2 k1))) ?_
  rintro _ w22 ⟨rfl, o23⟩
  replace hN := hN.step0 o23
  replace oW := oW.tail0 o23
  refine wG (d_not rfl rfl) ?_
  refine wI (d_pick (b := true) (v := vT) rfl rfl) ?_
  refine wO (d_call (xl := [.tmp 11, .tmp 23]) (al := [(ptr L.bN 0), vT]) Try.func80 kr rfl rfl rfl (ask_ok L s _ hN (g := (s.readOk (dn : Int) (bn : Int) (pn : Int))) true (by simp [NS.readOk, *]))) ?_
  rintro _ w24 ⟨rfl, a26, o25⟩
  replace oW := oW.tail o25 (fun k _ e => (fun k h => h) k e)
  replace hN := a26
  refine wF ([(ptr L.bN 0), (eN dn), (eN bn), (eN pn), undef, undef, undef, undef, (Value.slice none 0 0), (eN 0), undef, (ptr L.bN 0), (ptr L.bN 0), (eN dn), (eN bn), (eN pn), vT, vT, (ptr L.bN 0), (eN dn), (eN bn), vF, vT, vT, (eN (s.askR (s.readOk (dn : Int) (bn : Int) (pn : Int))))] ++ (us 24)) ?_
  refine wI (d_assign rfl) ?_
  refine wD (tN ?_)
  refine forget (fun zf27 => ([(ptr L.bN 0), (eN dn), (eN bn), (eN pn)] ++ (zs zf27 4 6 ++ [(eN (s.askR (s.readOk (dn : Int) (bn : Int) (pn : Int))))] ++ (zs zf27 11 17 ++ (us 21))))) kr (fun zf27 => ?_)
  refine wQ (pL ?_)
  refine wI (d_move rfl) ?_
  refine wI (n_neq (a := (s.askR (s.readOk (dn : Int) (bn : Int) (pn : Int)))) (b := 0) rfl rfl rfl) ?_
  refine wD (tN ?_)
  refine cond_un rfl (fun c0 => ?_) (fun c0 => ?_)
  ·
   refine wQ (pL ?_)
   refine wI (d_move rfl) ?_
   refine wI (d_assign rfl) ?_
   refine wI (d_assign rfl) ?_
   refine wD (tN ?_)
   refine forget (fun zf28 => (zs zf28 0 8 ++ [(Value.slice none 0 0), (eN (s.askR (s.readOk (dn : Int) (bn : Int) (pn : Int))))] ++ (zs zf28 10 39))) kr (fun zf28 => ?_)
   refine wpIn_ret ?_
   refine then_r ?_
   refine leave0 (v := (Value.tuple #[(Value.slice none 0 0), (eN (s.askR (s.readOk (dn : Int) (bn : Int) (pn : Int))))])) (res2 Try.results57 rfl rfl) ?_
   exact ⟨_, rfl, by unfold NS.readL; rw [if_neg c0]; exact seq_nil, hN, oW⟩
  refine wK (tN (wQ ?_))
  have l1_ : ((s.ask (s.readOk (dn : Int) (bn : Int) (pn : Int))).dl ((s.ask (s.readOk (dn : Int) (bn : Int) (pn : Int))).ix dn bn pn)).length = 60 := hN.ok.dl _
  have l2_ : ((s.ask (s.readOk (dn : Int) (bn : Int) (pn : Int))).nl ((s.ask (s.readOk (dn : Int) (bn : Int) (pn : Int))).ix dn bn pn)).length ≤ 1048576 := hN.ok.nl _
  have l3_ : (s.ask (s.readOk (dn : Int) (bn : Int) (pn : Int))).mask.length ≤ 1048576 := hN.ok.ml
  refine wp_eq (l' := ([(ptr L.bN 0), (eN dn), (eN bn), (eN pn)] ++ (zs zf27 4 6 ++ [(eN (s.askR (s.readOk (dn : Int) (bn : Int) (pn : Int))))] ++ (zs zf27 11 14 ++ [(eN (s.askR (s.readOk (dn : Int) (bn : Int) (pn : Int)))), (Value.bool (!decide ((s.askR (s.readOk (dn : Int) (bn : Int) (pn : Int))) = 0))), (zf27 27)] ++ (us 21))))) rfl ?_
  refine drawn' (O := (Ors L.S No)) (n := 23) [0, 1, 3, 7, 0, 0, 0, 127, 255, 511, 0, 1024, 3072, 7168, 0, 0, 0, 130303, 261375, 523519, 1048575, 2097151, 4194303] [(0, 28), (1, 29), (2, 30), (3, 31), (4, 32), (5, 33), (6, 34), (7, 35), (8, 36), (9, 37), (10, 38), (11, 39), (12, 40), (13, 41), (14, 42), (15, 43), (16, 44), (17, 45), (18, 46), (19, 47), (20, 48), (21, 8), (22, 9)] [0, 1, 2, 3, 4, 5, 6, 7, 8, 9, 10, 11, 12, 13, 14, 15, 16, 17, 18, 19, 20, 21, 22] [] (fun i_ => ([RF.is (Ors L.S No) (ptr L.bN 0), RF.is (Ors L.S No) (ptr L.bN 0), RF.is (Ors L.S No) (ptr L.bN 3), RF.is (Ors L.S No) (Value.agg #[(eN ((s.ask (s.readOk (dn : Int) (bn : Int) (pn : Int))).gD)), (eN ((s.ask (s.readOk (dn : Int) (bn : Int) (pn : Int))).gB)), (eN ((s.ask (s.readOk (dn : Int) (bn : Int) (pn : Int))).gP)), (sli L.bD 0 ((s.ask (s.readOk (dn : Int) (bn : Int) (pn : Int))).n) ((s.ask (s.readOk (dn : Int) (bn : Int) (pn : Int))).n))]), RF.is (Ors L.S No) (eN dn), RF.is (Ors L.S No) (eN bn), RF.is (Ors L.S No) (eN pn), RF.is (Ors L.S No) (ptr L.bD ((s.ask (s.readOk (dn : Int) (bn : Int) (pn : Int))).ix dn bn pn)), RF.is (Ors L.S No) (ptr L.bD ((s.ask (s.readOk (dn : Int) (bn : Int) (pn : Int))).ix dn bn pn)), RF.ps (Ors L.S No) (Ors L.S X) (Seq kB ((s.ask (s.readOk (dn : Int) (bn : Int) (pn : Int))).dl ((s.ask (s.readOk (dn : Int) (bn : Int) (pn : Int))).ix dn bn pn))) (ors_mono no_any), RF.is (Ors L.S No) (ptr L.bN 0), RF.is (Ors L.S No) (ptr L.bN 0), RF.is (Ors L.S No) (ptr L.bN 7), RF.is (Ors L.S No) (Value.agg #[(eN ((s.ask (s.readOk (dn : Int) (bn : Int) (pn : Int))).gD)), (eN ((s.ask (s.readOk (dn : Int) (bn : Int) (pn : Int))).gB)), (eN ((s.ask (s.readOk (dn : Int) (bn : Int) (pn : Int))).gP)), (sli L.bZ 0 ((s.ask (s.readOk (dn : Int) (bn : Int) (pn : Int))).n) ((s.ask (s.readOk (dn : Int) (bn : Int) (pn : Int))).n))]), RF.is (Ors L.S No) (eN dn), RF.is (Ors L.S No) (eN bn), RF.is (Ors L.S No) (eN pn), RF.is (Ors L.S No) (ptr L.bZ ((s.ask (s.readOk (dn : Int) (bn : Int) (pn : Int))).ix dn bn pn)), RF.is (Ors L.S No) (ptr L.bZ ((s.ask (s.readOk (dn : Int) (bn : Int) (pn : Int))).ix dn bn pn)), RF.ps (Ors L.S No) (Ors L.S X) (Seq kI ((s.ask (s.readOk (dn : Int) (bn : Int) (pn : Int))).nl ((s.ask (s.readOk (dn : Int) (bn : Int) (pn : Int))).ix dn bn pn))) (ors_mono no_any), RF.ps (Ors L.S No) (Ors L.S (Old W.heap.size)) (Seq kB (flipI ((s.ask (s.readOk (dn : Int) (bn : Int) (pn : Int))).dl ((s.ask (s.readOk (dn : Int) (bn : Int) (pn : Int))).ix dn bn pn)) ((s.ask (s.readOk (dn : Int) (bn : Int) (pn : Int))).nl ((s.ask (s.readOk (dn : Int) (bn : Int) (pn : Int))).ix dn bn pn)))) (ors_mono no_any), RF.ps (Ors L.S No) (Ors L.S (Old W.heap.size)) (Seq kB (flipI ((s.ask (s.readOk (dn : Int) (bn : Int) (pn : Int))).dl ((s.ask (s.readOk (dn : Int) (bn : Int) (pn : Int))).ix dn bn pn)) ((s.ask (s.readOk (dn : Int) (bn : Int) (pn : Int))).nl ((s.ask (s.readOk (dn : Int) (bn : Int) (pn : Int))).ix dn bn pn)))) (ors_mono no_any), RF.is (Ors L.S No) (eN 0)] : List (RF (Ors L.S No))).getD i_ (RF.any (Ors L.S No))) (fun _ w_ => Nd L (s.ask (s.readOk (dn : Int) (bn : Int) (pn : Int))) X w_) (fun v29 => ([(ptr L.bN 0), (eN dn), (eN bn), (eN pn), (zf27 4), (zf27 5), (zf27 6), (zf27 7), (v29 21), (v29 22), (eN (s.askR (s.readOk (dn : Int) (bn : Int) (pn : Int))))] ++ (zs zf27 11 14 ++ [(eN (s.askR (s.readOk (dn : Int) (bn : Int) (pn : Int)))), (Value.bool (!decide ((s.askR (s.readOk (dn : Int) (bn : Int) (pn : Int))) = 0))), (zf27 27), (v29 0), (v29 1), (v29 2), (v29 3), (v29 4), (v29 5), (v29 6), (v29 7), (v29 8), (v29 9), (v29 10), (v29 11), (v29 12), (v29 13), (v29 14), (v29 15), (v29 16), (v29 17), (v29 18), (v29 19), (v29 20)]))) s_mx kr rfl kr (by rfl) (fun v_ => by kernel_rfl) (fun _ => fun w_ w2_ h ho => by have r_hN := h; exact r_hN.step0 ho) hN ?_ ?_ ?_
  ·
   refine ls_cons ?_ ?_
   ·
    intro v29 lo hi w_ k_ hO hd _ _ hk_ _ hR hold
    have r_hN := hR
    clear hd hold
    refine ⟨_, rfl, gd rfl ?_⟩
    exact Does.is (d_move rfl)
   refine ls_cons ?_ ?_
   ·
    intro v29 lo hi w_ k_ hO hd _ _ hk_ _ hR hold
    have r_hN := hR
    have e0 : v29 0 = (ptr L.bN 0) := hd 0 kr
    clear hd hold
    refine ⟨_, rfl, gd rfl ?_⟩
    exact Does.is (d_nilCheck (b := L.bN) (o := 0) e0)
   refine ls_cons ?_ ?_
   ·
    intro v29 lo hi w_ k_ hO hd _ _ hk_ _ hR hold
    have r_hN := hR
    have e1 : v29 1 = (ptr L.bN 0) := hd 1 kr
    clear hd hold
    refine ⟨_, rfl, gd rfl ?_⟩
    exact Does.is (d_fieldAddr (j := 3) Try.underlying81 rfl s_ti73 (by decide) e1 rfl)
   refine ls_cons ?_ ?_
   ·
    intro v29 lo hi w_ k_ hO hd _ _ hk_ _ hR hold
    have r_hN := hR
    have e2 : v29 2 = (ptr L.bN 3) := hd 2 kr
    clear hd hold
    refine ⟨_, rfl, gd rfl ?_⟩
    exact Does.is (nd_ldAg (vs := [(eN ((s.ask (s.readOk (dn : Int) (bn : Int) (pn : Int))).gD)), (eN ((s.ask (s.readOk (dn : Int) (bn : Int) (pn : Int))).gB)), (eN ((s.ask (s.readOk (dn : Int) (bn : Int) (pn : Int))).gP)), (sli L.bD 0 ((s.ask (s.readOk (dn : Int) (bn : Int) (pn : Int))).n) ((s.ask (s.readOk (dn : Int) (bn : Int) (pn : Int))).n))]) r_hN ⟨_, Try.underlying73, rfl⟩ s_ti73 e2 (fun _ => rfl) rfl)
   refine ls_cons ?_ ?_
   ·
    intro v29 lo hi w_ k_ hO hd _ _ hk_ _ hR hold
    have r_hN := hR
    clear hd hold
    refine ⟨_, rfl, gd rfl ?_⟩
    exact Does.is (d_move rfl)
   refine ls_cons ?_ ?_
   ·
    intro v29 lo hi w_ k_ hO hd _ _ hk_ _ hR hold
    have r_hN := hR
    clear hd hold
    refine ⟨_, rfl, gd rfl ?_⟩
    exact Does.is (d_move rfl)
   refine ls_cons ?_ ?_
   ·
    intro v29 lo hi w_ k_ hO hd _ _ hk_ _ hR hold
    have r_hN := hR
    clear hd hold
    refine ⟨_, rfl, gd rfl ?_⟩
    exact Does.is (d_move rfl)
   refine ls_cons ?_ ?_
   ·
    intro v29 lo hi w_ k_ hO hd _ _ hk_ _ hR hold
    have r_hN := hR
    have e3 : v29 3 = (Value.agg #[(eN ((s.ask (s.readOk (dn : Int) (bn : Int) (pn : Int))).gD)), (eN ((s.ask (s.readOk (dn : Int) (bn : Int) (pn : Int))).gB)), (eN ((s.ask (s.readOk (dn : Int) (bn : Int) (pn : Int))).gP)), (sli L.bD 0 ((s.ask (s.readOk (dn : Int) (bn : Int) (pn : Int))).n) ((s.ask (s.readOk (dn : Int) (bn : Int) (pn : Int))).n))]) := hd 3 kr
    have e4 : v29 4 = (eN dn) := hd 4 kr
    have e5 : v29 5 = (eN bn) := hd 5 kr
    have e6 : v29 6 = (eN pn) := hd 6 kr
    clear hd hold
    refine ⟨_, rfl, gd rfl ?_⟩
    exact d_call (xl := [.tmp 31, .tmp 32, .tmp 33, .tmp 34]) (al := [(Value.agg #[(eN ((s.ask (s.readOk (dn : Int) (bn : Int) (pn : Int))).gD)), (eN ((s.ask (s.readOk (dn : Int) (bn : Int) (pn : Int))).gB)), (eN ((s.ask (s.readOk (dn : Int) (bn : Int) (pn : Int))).gP)), (sli L.bD 0 ((s.ask (s.readOk (dn : Int) (bn : Int) (pn : Int))).n) ((s.ask (s.readOk (dn : Int) (bn : Int) (pn : Int))).n))]), (eN dn), (eN bn), (eN pn)]) Try.func81 kr rfl (show ([(v29 3), (v29 4), (v29 5), (v29 6)] : List Value) = [(Value.agg #[(eN ((s.ask (s.readOk (dn : Int) (bn : Int) (pn : Int))).gD)), (eN ((s.ask (s.readOk (dn : Int) (bn : Int) (pn : Int))).gB)), (eN ((s.ask (s.readOk (dn : Int) (bn : Int) (pn : Int))).gP)), (sli L.bD 0 ((s.ask (s.readOk (dn : Int) (bn : Int) (pn : Int))).n) ((s.ask (s.readOk (dn : Int) (bn : Int) (pn : Int))).n))]), (eN dn), (eN bn), (eN pn)] from by rw [e3, e4, e5, e6]) rfl (atD_ok (s.ask (s.readOk (dn : Int) (bn : Int) (pn : Int))) L.bD dn bn pn _ r_hN.ok (by first | assumption | omega) (by first | assumption | omega) (by first | assumption | omega))
   refine ls_cons ?_ ?_
   ·
    intro v29 lo hi w_ k_ hO hd _ _ hk_ _ hR hold
    have r_hN := hR
    have e7 : v29 7 = (ptr L.bD ((s.ask (s.readOk (dn : Int) (bn : Int) (pn : Int))).ix dn bn pn)) := hd 7 kr
    clear hd hold
    refine ⟨_, rfl, gd rfl ?_⟩
    exact Does.is (d_nilCheck (b := L.bD) (o := ((s.ask (s.readOk (dn : Int) (bn : Int) (pn : Int))).ix dn bn pn)) e7)
   refine ls_cons ?_ ?_
   ·
    intro v29 lo hi w_ k_ hO hd _ _ hk_ _ hR hold
    have r_hN := hR
    have e8 : v29 8 = (ptr L.bD ((s.ask (s.readOk (dn : Int) (bn : Int) (pn : Int))).ix dn bn pn)) := hd 8 kr
    clear hd hold
    refine ⟨_, rfl, gd rfl ?_⟩
    refine Does.mono (nd_ldD (i := ((s.ask (s.readOk (dn : Int) (bn : Int) (pn : Int))).ix dn bn pn)) (Y := (Ors L.S X)) r_hN xo_s ⟨_, Try.underlying22, rfl⟩ e8 (NS.ix_lt (by first | assumption | omega) (by first | assumption | omega) (by first | assumption | omega))) (fun u w' h => ⟨h.2 ▸ h.1, h.2 ▸ Only.refl _ _⟩)
   refine ls_cons ?_ ?_
   ·
    intro v29 lo hi w_ k_ hO hd _ _ hk_ _ hR hold
    have r_hN := hR
    clear hd hold
    refine ⟨_, rfl, gd rfl ?_⟩
    exact Does.is (d_move rfl)
   refine ls_cons ?_ ?_
   ·
    intro v29 lo hi w_ k_ hO hd _ _ hk_ _ hR hold
    have r_hN := hR
    have e10 : v29 10 = (ptr L.bN 0) := hd 10 kr
    clear hd hold
    refine ⟨_, rfl, gd rfl ?_⟩
    exact Does.is (d_nilCheck (b := L.bN) (o := 0) e10)
   refine ls_cons ?_ ?_
   ·
    intro v29 lo hi w_ k_ hO hd _ _ hk_ _ hR hold
    have r_hN := hR
    have e11 : v29 11 = (ptr L.bN 0) := hd 11 kr
    clear hd hold
    refine ⟨_, rfl, gd rfl ?_⟩
    exact Does.is (d_fieldAddr (j := 7) Try.underlying81 rfl s_ti77 (by decide) e11 rfl)
   refine ls_cons ?_ ?_
   ·
    intro v29 lo hi w_ k_ hO hd _ _ hk_ _ hR hold
    have r_hN := hR
    have e12 : v29 12 = (ptr L.bN 7) := hd 12 kr
    clear hd hold
    refine ⟨_, rfl, gd rfl ?_⟩
    exact Does.is (nd_ldAg (vs := [(eN ((s.ask (s.readOk (dn : Int) (bn : Int) (pn : Int))).gD)), (eN ((s.ask (s.readOk (dn : Int) (bn : Int) (pn : Int))).gB)), (eN ((s.ask (s.readOk (dn : Int) (bn : Int) (pn : Int))).gP)), (sli L.bZ 0 ((s.ask (s.readOk (dn : Int) (bn : Int) (pn : Int))).n) ((s.ask (s.readOk (dn : Int) (bn : Int) (pn : Int))).n))]) r_hN ⟨_, Try.underlying77, rfl⟩ s_ti77 e12 (fun _ => rfl) rfl)
   refine ls_cons ?_ ?_
   ·
    intro v29 lo hi w_ k_ hO hd _ _ hk_ _ hR hold
    have r_hN := hR
    clear hd hold
    refine ⟨_, rfl, gd rfl ?_⟩
    exact Does.is (d_move rfl)
   refine ls_cons ?_ ?_
   ·
    intro v29 lo hi w_ k_ hO hd _ _ hk_ _ hR hold
    have r_hN := hR
    clear hd hold
    refine ⟨_, rfl, gd rfl ?_⟩
    exact Does.is (d_move rfl)
   refine ls_cons ?_ ?_
   ·
    intro v29 lo hi w_ k_ hO hd _ _ hk_ _ hR hold
    have r_hN := hR
    clear hd hold
    refine ⟨_, rfl, gd rfl ?_⟩
    exact Does.is (d_move rfl)
   refine ls_cons ?_ ?_
   ·
    intro v29 lo hi w_ k_ hO hd _ _ hk_ _ hR hold
    have r_hN := hR
    have e13 : v29 13 = (Value.agg #[(eN ((s.ask (s.readOk (dn : Int) (bn : Int) (pn : Int))).gD)), (eN ((s.ask (s.readOk (dn : Int) (bn : Int) (pn : Int))).gB)), (eN ((s.ask (s.readOk (dn : Int) (bn : Int) (pn : Int))).gP)), (sli L.bZ 0 ((s.ask (s.readOk (dn : Int) (bn : Int) (pn : Int))).n) ((s.ask (s.readOk (dn : Int) (bn : Int) (pn : Int))).n))]) := hd 13 kr
    have e14 : v29 14 = (eN dn) := hd 14 kr
    have e15 : v29 15 = (eN bn) := hd 15 kr
    have e16 : v29 16 = (eN pn) := hd 16 kr
    clear hd hold
    refine ⟨_, rfl, gd rfl ?_⟩
    exact d_call (xl := [.tmp 41, .tmp 42, .tmp 43, .tmp 44]) (al := [(Value.agg #[(eN ((s.ask (s.readOk (dn : Int) (bn : Int) (pn : Int))).gD)), (eN ((s.ask (s.readOk (dn : Int) (bn : Int) (pn : Int))).gB)), (eN ((s.ask (s.readOk (dn : Int) (bn : Int) (pn : Int))).gP)), (sli L.bZ 0 ((s.ask (s.readOk (dn : Int) (bn : Int) (pn : Int))).n) ((s.ask (s.readOk (dn : Int) (bn : Int) (pn : Int))).n))]), (eN dn), (eN bn), (eN pn)]) Try.func60 kr rfl (show ([(v29 13), (v29 14), (v29 15), (v29 16)] : List Value) = [(Value.agg #[(eN ((s.ask (s.readOk (dn : Int) (bn : Int) (pn : Int))).gD)), (eN ((s.ask (s.readOk (dn : Int) (bn : Int) (pn : Int))).gB)), (eN ((s.ask (s.readOk (dn : Int) (bn : Int) (pn : Int))).gP)), (sli L.bZ 0 ((s.ask (s.readOk (dn : Int) (bn : Int) (pn : Int))).n) ((s.ask (s.readOk (dn : Int) (bn : Int) (pn : Int))).n))]), (eN dn), (eN bn), (eN pn)] from by rw [e13, e14, e15, e16]) rfl (atZ_ok (s.ask (s.readOk (dn : Int) (bn : Int) (pn : Int))) L.bZ dn bn pn _ r_hN.ok (by first | assumption | omega) (by first | assumption | omega) (by first | assumption | omega))
   refine ls_cons ?_ ?_
   ·
    intro v29 lo hi w_ k_ hO hd _ _ hk_ _ hR hold
    have r_hN := hR
    have e17 : v29 17 = (ptr L.bZ ((s.ask (s.readOk (dn : Int) (bn : Int) (pn : Int))).ix dn bn pn)) := hd 17 kr
    clear hd hold
    refine ⟨_, rfl, gd rfl ?_⟩
    exact Does.is (d_nilCheck (b := L.bZ) (o := ((s.ask (s.readOk (dn : Int) (bn : Int) (pn : Int))).ix dn bn pn)) e17)
   refine ls_cons ?_ ?_
   ·
    intro v29 lo hi w_ k_ hO hd _ _ hk_ _ hR hold
    have r_hN := hR
    have e18 : v29 18 = (ptr L.bZ ((s.ask (s.readOk (dn : Int) (bn : Int) (pn : Int))).ix dn bn pn)) := hd 18 kr
    clear hd hold
    refine ⟨_, rfl, gd rfl ?_⟩
    refine Does.mono (nd_ldZ (i := ((s.ask (s.readOk (dn : Int) (bn : Int) (pn : Int))).ix dn bn pn)) (Y := (Ors L.S X)) r_hN xo_s ⟨_, Try.underlying23, rfl⟩ e18 (NS.ix_lt (by first | assumption | omega) (by first | assumption | omega) (by first | assumption | omega))) (fun u w' h => ⟨h.2 ▸ h.1, h.2 ▸ Only.refl _ _⟩)
   refine ls_cons ?_ ?_
   ·
    intro v29 lo hi w_ k_ hO hd _ _ hk_ _ hR hold
    have r_hN := hR
    have d19 : Ps (Ors L.S X) (Seq kI ((s.ask (s.readOk (dn : Int) (bn : Int) (pn : Int))).nl ((s.ask (s.readOk (dn : Int) (bn : Int) (pn : Int))).ix dn bn pn)) (v29 19)) w_ := hd 19 kr
    have d9 : Ps (Ors L.S X) (Seq kB ((s.ask (s.readOk (dn : Int) (bn : Int) (pn : Int))).dl ((s.ask (s.readOk (dn : Int) (bn : Int) (pn : Int))).ix dn bn pn)) (v29 9)) w_ := hd 9 kr
    clear hd hold
    refine ⟨_, rfl, gd rfl ?_⟩
    refine Does.mono (R := ROw 5 eB (flipI ((s.ask (s.readOk (dn : Int) (bn : Int) (pn : Int))).dl ((s.ask (s.readOk (dn : Int) (bn : Int) (pn : Int))).ix dn bn pn)) ((s.ask (s.readOk (dn : Int) (bn : Int) (pn : Int))).nl ((s.ask (s.readOk (dn : Int) (bn : Int) (pn : Int))).ix dn bn pn))) w_) ?_ (fun u w' h => ⟨(h.ps).1.less (ors_old r_hN.lt (old_old (Nat.le_trans oW.size hO.size))), (h.ps).2⟩)
    exact d_call (xl := [.tmp 37, .tmp 47]) (al := [(v29 9), (v29 19)]) Try.func86 kr rfl rfl rfl (bitsFlip_ok ((s.ask (s.readOk (dn : Int) (bn : Int) (pn : Int))).dl ((s.ask (s.readOk (dn : Int) (bn : Int) (pn : Int))).ix dn bn pn)) ((s.ask (s.readOk (dn : Int) (bn : Int) (pn : Int))).nl ((s.ask (s.readOk (dn : Int) (bn : Int) (pn : Int))).ix dn bn pn)) (v29 9) (v29 19) _ (Ps.no d9) (Ps.no d19) fo fo)
   refine ls_cons ?_ ?_
   ·
    intro v29 lo hi w_ k_ hO hd _ _ hk_ _ hR hold
    have r_hN := hR
    have d20 : Ps (Ors L.S (Old W.heap.size)) (Seq kB (flipI ((s.ask (s.readOk (dn : Int) (bn : Int) (pn : Int))).dl ((s.ask (s.readOk (dn : Int) (bn : Int) (pn : Int))).ix dn bn pn)) ((s.ask (s.readOk (dn : Int) (bn : Int) (pn : Int))).nl ((s.ask (s.readOk (dn : Int) (bn : Int) (pn : Int))).ix dn bn pn))) (v29 20)) w_ := hd 20 kr
    clear hd hold
    refine ⟨_, rfl, gd rfl ?_⟩
    refine Does.mono (d_assign rfl) (fun u w' h => by obtain ⟨rfl, rfl⟩ := h; exact ⟨d20, Only.refl _ _⟩)
   refine ls_cons ?_ ?_
   ·
    intro v29 lo hi w_ k_ hO hd _ _ hk_ _ hR hold
    have r_hN := hR
    clear hd hold
    refine ⟨_, rfl, gd rfl ?_⟩
    exact Does.is (d_assign rfl)
   exact ls_nil
  ·
   exact ms_nil
  intro v29 lo_ hi_ w30 o31 hd iv_ hR
  have e0 : v29 0 = (ptr L.bN 0) := hd 0 (by decide)
  have e1 : v29 1 = (ptr L.bN 0) := hd 1 (by decide)
  have e2 : v29 2 = (ptr L.bN 3) := hd 2 (by decide)
  have e3 : v29 3 = (Value.agg #[(eN ((s.ask (s.readOk (dn : Int) (bn : Int) (pn : Int))).gD)), (eN ((s.ask (s.readOk (dn : Int) (bn : Int) (pn : Int))).gB)), (eN ((s.ask (s.readOk (dn : Int) (bn : Int) (pn : Int))).gP)), (sli L.bD 0 ((s.ask (s.readOk (dn : Int) (bn : Int) (pn : Int))).n) ((s.ask (s.readOk (dn : Int) (bn : Int) (pn : Int))).n))]) := hd 3 (by decide)
  have e4 : v29 4 = (eN dn) := hd 4 (by decide)
  have e5 : v29 5 = (eN bn) := hd 5 (by decide)
  have e6 : v29 6 = (eN pn) := hd 6 (by decide)
  have e7 : v29 7 = (ptr L.bD ((s.ask (s.readOk (dn : Int) (bn : Int) (pn : Int))).ix dn bn pn)) := hd 7 (by decide)
  have e8 : v29 8 = (ptr L.bD ((s.ask (s.readOk (dn : Int) (bn : Int) (pn : Int))).ix dn bn pn)) := hd 8 (by decide)
  have e10 : v29 10 = (ptr L.bN 0) := hd 10 (by decide)
  have e11 : v29 11 = (ptr L.bN 0) := hd 11 (by decide)
  have e12 : v29 12 = (ptr L.bN 7) := hd 12 (by decide)
  have e13 : v29 13 = (Value.agg #[(eN ((s.ask (s.readOk (dn : Int) (bn : Int) (pn : Int))).gD)), (eN ((s.ask (s.readOk (dn : Int) (bn : Int) (pn : Int))).gB)), (eN ((s.ask (s.readOk (dn : Int) (bn : Int) (pn : Int))).gP)), (sli L.bZ 0 ((s.ask (s.readOk (dn : Int) (bn : Int) (pn : Int))).n) ((s.ask (s.readOk (dn : Int) (bn : Int) (pn : Int))).n))]) := hd 13 (by decide)
  have e14 : v29 14 = (eN dn) := hd 14 (by decide)
  have e15 : v29 15 = (eN bn) := hd 15 (by decide)
  have e16 : v29 16 = (eN pn) := hd 16 (by decide)
  have e17 : v29 17 = (ptr L.bZ ((s.ask (s.readOk (dn : Int) (bn : Int) (pn : Int))).ix dn bn pn)) := hd 17 (by decide)
  have e18 : v29 18 = (ptr L.bZ ((s.ask (s.readOk (dn : Int) (bn : Int) (pn : Int))).ix dn bn pn)) := hd 18 (by decide)
  have e22 : v29 22 = (eN 0) := hd 22 (by decide)
  have f_v29_9 : Ps (Ors L.S X) (Seq kB ((s.ask (s.readOk (dn : Int) (bn : Int) (pn : Int))).dl ((s.ask (s.readOk (dn : Int) (bn : Int) (pn : Int))).ix dn bn pn)) (v29 9)) w30 := hd 9 (by decide)
  have f_v29_19 : Ps (Ors L.S X) (Seq kI ((s.ask (s.readOk (dn : Int) (bn : Int) (pn : Int))).nl ((s.ask (s.readOk (dn : Int) (bn : Int) (pn : Int))).ix dn bn pn)) (v29 19)) w30 := hd 19 (by decide)
  have f_v29_20 : Ps (Ors L.S (Old W.heap.size)) (Seq kB (flipI ((s.ask (s.readOk (dn : Int) (bn : Int) (pn : Int))).dl ((s.ask (s.readOk (dn : Int) (bn : Int) (pn : Int))).ix dn bn pn)) ((s.ask (s.readOk (dn : Int) (bn : Int) (pn : Int))).nl ((s.ask (s.readOk (dn : Int) (bn : Int) (pn : Int))).ix dn bn pn))) (v29 20)) w30 := hd 20 (by decide)
  have f_v29_21 : Ps (Ors L.S (Old W.heap.size)) (Seq kB (flipI ((s.ask (s.readOk (dn : Int) (bn : Int) (pn : Int))).dl ((s.ask (s.readOk (dn : Int) (bn : Int) (pn : Int))).ix dn bn pn)) ((s.ask (s.readOk (dn : Int) (bn : Int) (pn : Int))).nl ((s.ask (s.readOk (dn : Int) (bn : Int) (pn : Int))).ix dn bn pn))) (v29 21)) w30 := hd 21 (by decide)
  clear hd iv_ lo_ hi_
  refine fr_eq (l' := ([(ptr L.bN 0), (eN dn), (eN bn), (eN pn), (zf27 4), (zf27 5), (zf27 6), (zf27 7), (v29 21), (eN 0), (eN (s.askR (s.readOk (dn : Int) (bn : Int) (pn : Int))))] ++ (zs zf27 11 14 ++ [(eN (s.askR (s.readOk (dn : Int) (bn : Int) (pn : Int)))), (Value.bool (!decide ((s.askR (s.readOk (dn : Int) (bn : Int) (pn : Int))) = 0))), (zf27 27), (ptr L.bN 0), (ptr L.bN 0), (ptr L.bN 3), (Value.agg #[(eN ((s.ask (s.readOk (dn : Int) (bn : Int) (pn : Int))).gD)), (eN ((s.ask (s.readOk (dn : Int) (bn : Int) (pn : Int))).gB)), (eN ((s.ask (s.readOk (dn : Int) (bn : Int) (pn : Int))).gP)), (sli L.bD 0 ((s.ask (s.readOk (dn : Int) (bn : Int) (pn : Int))).n) ((s.ask (s.readOk (dn : Int) (bn : Int) (pn : Int))).n))]), (eN dn), (eN bn), (eN pn), (ptr L.bD ((s.ask (s.readOk (dn : Int) (bn : Int) (pn : Int))).ix dn bn pn)), (ptr L.bD ((s.ask (s.readOk (dn : Int) (bn : Int) (pn : Int))).ix dn bn pn)), (v29 9), (ptr L.bN 0), (ptr L.bN 0), (ptr L.bN 7), (Value.agg #[(eN ((s.ask (s.readOk (dn : Int) (bn : Int) (pn : Int))).gD)), (eN ((s.ask (s.readOk (dn : Int) (bn : Int) (pn : Int))).gB)), (eN ((s.ask (s.readOk (dn : Int) (bn : Int) (pn : Int))).gP)), (sli L.bZ 0 ((s.ask (s.readOk (dn : Int) (bn : Int) (pn : Int))).n) ((s.ask (s.readOk (dn : Int) (bn : Int) (pn : Int))).n))]), (eN dn), (eN bn), (eN pn), (ptr L.bZ ((s.ask (s.readOk (dn : Int) (bn : Int) (pn : Int))).ix dn bn pn)), (ptr L.bZ ((s.ask (s.readOk (dn : Int) (bn : Int) (pn : Int))).ix dn bn pn)), (v29 19), (v29 20)]))) (by rw [e0, e1, e2, e3, e4, e5, e6, e7, e8, e10, e11, e12, e13, e14, e15, e16, e17, e18, e22] <;> rfl) ?_
  clear e0 e1 e2 e3 e4 e5 e6 e7 e8 e10 e11 e12 e13 e14 e15 e16 e17 e18 e22
  replace hN := hR
  clear hR
  replace oW := oW.tail o31 (tl_sin (fun k h => h) tl_no)
  refine tN ?_
  refine forget (fun zf32 => (zs zf32 0 8 ++ [(v29 21), (eN 0)] ++ (zs zf32 10 39))) kr (fun zf32 => ?_)
  refine wpIn_ret ?_
  refine leave0 (v := (Value.tuple #[(v29 21), (eN 0)])) (res2 Try.results57 rfl rfl) ?_
  exact ⟨_, congrArg (fun x_ => Value.tuple #[_, eN x_]) c0.symm, by unfold NS.readL; rw [if_pos c0]; exact (f_v29_21.less (xx_skip xx_id)), hN, oW⟩
 refine pL ?_
 refine wI (d_move rfl) ?_
 refine wI (d_move rfl) ?_
 refine wI (d_move rfl) ?_
 refine wI (d_move rfl) ?_
 refine wI (d_move rfl) ?_
 refine wF ([(ptr L.bN 0), (eI d), (eI b), (eI p), undef, undef, undef, undef, (Value.slice none 0 0), (eN 0), undef, (ptr L.bN 0), (ptr L.bN 0), (eI d), (eI b), (eI p)] ++ (us 33)) ?_
 refine wO (d_call (xl := [.tmp 12, .tmp 13, .tmp 14, .tmp 15]) (al := [(ptr L.bN 0), (eI d), (eI b), (eI p)]) Try.func58 kr rfl rfl rfl (pageq_ok L s _ hN (r := false) d b p (Bool.eq_false_iff.2 k0))) ?_
 rintro _ w33 ⟨rfl, o34⟩
 replace hN := hN.step0 o34
 replace oW := oW.tail0 o34
 refine wI (d_move rfl) ?_
 refine wX ?_
 refine wX ?_
 refine wX ?_
 refine wX ?_
 refine wX ?_
 refine wI (d_pick (b := false) (v := vF) rfl rfl) ?_
 refine wF ([(ptr L.bN 0), (eI d), (eI b), (eI p), undef, undef, undef, undef, (Value.slice none 0 0), (eN 0), undef, (ptr L.bN 0), (ptr L.bN 0), (eI d), (eI b), (eI p), vF, vF] ++ (us 5 ++ [vF] ++ (us 25))) ?_
 refine wO (d_call (xl := [.tmp 11, .tmp 23]) (al := [(ptr L.bN 0), vF]) Try.func80 kr rfl rfl rfl (ask_ok L s _ hN (g := (s.readOk d b p)) false (by simp [NS.readOk, *]))) ?_
 rintro _ w35 ⟨rfl, a37, o36⟩
 replace oW := oW.tail o36 (fun k _ e => (fun k h => h) k e)
 replace hN := a37
 refine wI (d_assign rfl) ?_
 refine wD (tN ?_)
 refine forget (fun zf38 => ([(ptr L.bN 0), (eI d), (eI b), (eI p)] ++ (zs zf38 4 6 ++ [(eN (s.askR (s.readOk d b p)))] ++ (zs zf38 11 17 ++ (us 21))))) kr (fun zf38 => ?_)
 refine wQ (pL ?_)
 refine wI (d_move rfl) ?_
 refine wI (n_neq (a := (s.askR (s.readOk d b p))) (b := 0) rfl rfl rfl) ?_
 refine wD (tN ?_)
 refine cond_un rfl (fun c0 => ?_) (fun c0 => ?_)
 ·
  refine wQ (pL ?_)
  refine wI (d_move rfl) ?_
  refine wI (d_assign rfl) ?_
  refine wI (d_assign rfl) ?_
  refine wD (tN ?_)
  refine forget (fun zf39 => (zs zf39 0 8 ++ [(Value.slice none 0 0), (eN (s.askR (s.readOk d b p)))] ++ (zs zf39 10 39))) kr (fun zf39 => ?_)
  refine wpIn_ret ?_
  refine then_r ?_
  refine leave0 (v := (Value.tuple #[(Value.slice none 0 0), (eN (s.askR (s.readOk d b p)))])) (res2 Try.results57 rfl rfl) ?_
  exact ⟨_, rfl, by unfold NS.readL; rw [if_neg c0]; exact seq_nil, hN, oW⟩
 exact absurd c0 (NS.askR_no (by simp [NS.readOk, *]))
theorem prog_ok (L : NL) (s : NS) {X : Nat → Prop} (W : World) (hN : Nd L s X W) (d b p : Int) (l : List UInt8) (ul : Value) (hX : ∀ k, X k → k < W.heap.size) (hl : Ps (Ors L.S No) (Seq kB l ul) W) (gl : l.length ≤ 1048576) :
    CW Try.prog 53 #[(ptr L.bN 0), (eI d), (eI b), (eI p), ul] W (Rt (fun u w => u = eN (s.progR d b p l) ∧ Nd L (s.prog d b p l) X w ∧ Only L.S W w)) := by
 have oW : Only L.S W W := Only.refl _ _
 refine enter (al := [(ptr L.bN 0), (eI d), (eI b), (eI p), ul]) (k := 84) (l := ([(ptr L.bN 0), (eI d), (eI b), (eI p), ul] ++ (us 84))) Try.func53 rfl Try.ntmps53 rfl rfl ?_
 refine wQ (pL ?_)
 refine wI (d_assign rfl) ?_
 refine wD (tN (wQ ?_))
 by_cases k0 : (s.pageIn d b p) = true
 ·
  obtain ⟨hd0, hd1, hb0, hb1, hp0, hp1⟩ := NS.page_of k0
  obtain ⟨dn, rfl⟩ := Int.eq_ofNat_of_zero_le hd0
  replace hd1 : dn < s.gD := Int.ofNat_lt.1 hd1
  refine wp_eq (l' := ([(ptr L.bN 0), (eN dn), (eI b), (eI p), ul] ++ (us 5 ++ [(eN 0)] ++ (us 78)))) rfl ?_
  obtain ⟨bn, rfl⟩ := Int.eq_ofNat_of_zero_le hb0
  replace hb1 : bn < s.gB := Int.ofNat_lt.1 hb1
  refine wp_eq (l' := ([(ptr L.bN 0), (eN dn), (eN bn), (eI p), ul] ++ (us 5 ++ [(eN 0)] ++ (us 78)))) rfl ?_
  obtain ⟨pn, rfl⟩ := Int.eq_ofNat_of_zero_le hp0
  replace hp1 : pn < s.gP := Int.ofNat_lt.1 hp1
  refine wp_eq (l' := ([(ptr L.bN 0), (eN dn), (eN bn), (eN pn), ul] ++ (us 5 ++ [(eN 0)] ++ (us 78)))) rfl ?_
  by_cases k1 : (s.isBad (dn : Int) (bn : Int)) = true
  ·
   refine pL ?_
   refine wI (d_move rfl) ?_
   refine wI (d_move rfl) ?_
   refine wI (d_move rfl) ?_
   refine wI (d_move rfl) ?_
   refine wO (d_call (xl := [.tmp 14, .tmp 15, .tmp 16, .tmp 17]) (al := [(ptr L.bN 0), (eN dn), (eN bn), (eN pn)]) Try.func58 kr rfl rfl rfl (pageq_ok L s _ hN (r := true) (dn : Int) (bn : Int) (pn : Int) k0)) ?_
   rintro _ w11 ⟨rfl, o12⟩
   replace hl := hl.step0 o12
   replace hN := hN.step0 o12
   replace oW := oW.tail0 o12
   refine wI (d_move rfl) ?_
   refine wG (d_move rfl) ?_
   refine wF ([(ptr L.bN 0), (eN dn), (eN bn), (eN pn), ul] ++ (us 5 ++ [(eN 0), undef, undef, undef, (ptr L.bN 0), (eN dn), (eN bn), (eN pn), vT, vT, (ptr L.bN 0)] ++ (us 68))) ?_
   refine wG (d_move rfl) ?_
   refine wG (d_move rfl) ?_
   refine wpL.on rfl rfl rfl (nb rfl) rfl (d_call (xl := [.tmp 20, .tmp 21, .tmp 22]) (al := [(ptr L.bN 0), (eN dn), (eN bn)]) Try.func79 kr rfl rfl rfl (isBad_ok L s _ hN (r := true) (dn : Int) (bn : Int) k1)) ?_
   rintro _ w13 ⟨rfl, o14⟩
   replace hl := hl.step0 o14
   replace hN := hN.step0 o14
   replace oW := oW.tail0 o14
   refine wG (d_not rfl rfl) ?_
   refine wI (d_pick (b := true) (v := vF) rfl rfl) ?_
   refine wI (d_move rfl) ?_
   refine wX ?_
   refine wF ([(ptr L.bN 0), (eN dn), (eN bn), (eN pn), ul] ++ (us 5 ++ [(eN 0), undef, undef, undef, (ptr L.bN 0), (eN dn), (eN bn), (eN pn), vT, vT, (ptr L.bN 0), (eN dn), (eN bn), vT, vF, vF, vF] ++ (us 62))) ?_
   refine wX ?_
   refine wX ?_
   refine wI (d_pick (b := false) (v := vF) rfl rfl) ?_
   refine wI (d_move rfl) ?_
   refine wX ?_
   refine wX ?_
   refine wX ?_
   refine wF ([(ptr L.bN 0), (eN dn), (eN bn), (eN pn), ul] ++ (us 5 ++ [(eN 0), undef, undef, undef, (ptr L.bN 0), (eN dn), (eN bn), (eN pn), vT, vT, (ptr L.bN 0), (eN dn), (eN bn), vT, vF, vF, vF, undef, undef, undef, vF, vF] ++ (us 57))) ?_
   refine wX ?_
   refine wX ?_
   refine wX ?_
   refine wX ?_
   refine wX ?_
   refine wX ?_
   refine wX ?_
   refine wF ([(ptr L.bN 0), (eN dn), (eN bn), (eN pn), ul] ++ (us 5 ++ [(eN 0), undef, undef, undef, (ptr L.bN 0), (eN dn), (eN bn), (eN pn), vT, vT, (ptr L.bN 0), (eN dn), (eN bn), vT, vF, vF, vF, undef, undef, undef, vF, vF] ++ (us 57))) ?_
   refine wX ?_
   refine wX ?_
   refine wX ?_
   refine wI (d_pick (b := false) (v := vF) rfl rfl) ?_
   refine wI (d_assign rfl) ?_
   refine wD (tN ?_)
   refine forget (fun zf15 => ([(ptr L.bN 0), (eN dn), (eN bn), (eN pn), ul] ++ (zs zf15 5 6 ++ [vF] ++ (zs zf15 12 64 ++ (us 9 ++ [(zf15 85), (zf15 86), (zf15 87), (zf15 88)]))))) kr (fun zf15 => ?_)
   refine wQ (wQ (pL ?_))
   refine wI (d_move rfl) ?_
   refine wI (d_move rfl) ?_
   refine wO (d_call (xl := [.tmp 46, .tmp 47]) (al := [(ptr L.bN 0), vF]) Try.func80 kr rfl rfl rfl (ask_ok L s _ hN (g := (s.progOk (dn : Int) (bn : Int) (pn : Int) l)) false (by simp [NS.progOk, *] <;> omega))) ?_
   rintro _ w16 ⟨rfl, a18, o17⟩
   replace hl := hl.step o17 sub1
   replace oW := oW.tail o17 (fun k _ e => (fun k h => h) k e)
   replace hN := a18
   refine wI (d_assign rfl) ?_
   refine wD (tN (wQ (pL ?_)))
   refine wI (d_move rfl) ?_
   refine wI (n_neq (a := (s.askR (s.progOk (dn : Int) (bn : Int) (pn : Int) l))) (b := 0) rfl rfl rfl) ?_
   refine wD (tN ?_)
   refine cond_un rfl (fun c0 => ?_) (fun c0 => ?_)
   ·
    refine wQ (pL ?_)
    refine wI (d_move rfl) ?_
    refine wF ([(ptr L.bN 0), (eN dn), (eN bn), (eN pn), ul] ++ (zs zf15 5 6 ++ [vF, (eN (s.askR (s.progOk (dn : Int) (bn : Int) (pn : Int) l)))] ++ (zs zf15 13 33 ++ [(ptr L.bN 0), vF, (eN (s.askR (s.progOk (dn : Int) (bn : Int) (pn : Int) l))), (eN (s.askR (s.progOk (dn : Int) (bn : Int) (pn : Int) l))), (Value.bool (!decide ((s.askR (s.progOk (dn : Int) (bn : Int) (pn : Int) l)) = 0))), (eN (s.askR (s.progOk (dn : Int) (bn : Int) (pn : Int) l)))] ++ (zs zf15 52 24 ++ (us 9 ++ [(zf15 85), (zf15 86), (zf15 87), (zf15 88)]))))) ?_
    refine wI (d_assign rfl) ?_
    refine wD (tN ?_)
    refine forget (fun zf19 => (zs zf19 0 10 ++ [(eN (s.askR (s.progOk (dn : Int) (bn : Int) (pn : Int) l)))] ++ (zs zf19 11 78))) kr (fun zf19 => ?_)
    refine wpIn_ret ?_
    refine then_r ?_
    refine leave0 (v := (eN (s.askR (s.progOk (dn : Int) (bn : Int) (pn : Int) l)))) (res1 Try.results53 rfl) ?_
    obtain ⟨e1_, e2_⟩ := NS.prog_no c0; exact ⟨congrArg eN e2_.symm, e1_ ▸ hN, oW⟩
   exact absurd c0 (NS.askR_no (by simp [NS.progOk, *]))
  by_cases k2 : l.length = 60
  ·
   refine pL ?_
   refine wI (d_move rfl) ?_
   refine wI (d_move rfl) ?_
   refine wI (d_move rfl) ?_
   refine wI (d_move rfl) ?_
   refine wO (d_call (xl := [.tmp 14, .tmp 15, .tmp 16, .tmp 17]) (al := [(ptr L.bN 0), (eN dn), (eN bn), (eN pn)]) Try.func58 kr rfl rfl rfl (pageq_ok L s _ hN (r := true) (dn : Int) (bn : Int) (pn : Int) k0)) ?_
   rintro _ w20 ⟨rfl, o21⟩
   replace hl := hl.step0 o21
   replace hN := hN.step0 o21
   replace oW := oW.tail0 o21
   refine wI (d_move rfl) ?_
   refine wG (d_move rfl) ?_
   refine wF ([(ptr L.bN 0), (eN dn), (eN bn), (eN pn), ul] ++ (us 5 ++ [(eN 0), undef, undef, undef, (ptr L.bN 0), (eN dn), (eN bn), (eN pn), vT, vT, (ptr L.bN 0)] ++ (us 68))) ?_
   refine wG (d_move rfl) ?_
   refine wG (d_move rfl) ?_
   refine wpL.on rfl rfl rfl (nb rfl) rfl (d_call (xl := [.tmp 20, .tmp 21, .tmp 22]) (al := [(ptr L.bN 0), (eN dn), (eN bn)]) Try.func79 kr rfl rfl rfl (isBad_ok L s _ hN (r := false) (dn : Int) (bn : Int) (Bool.eq_false_iff.2 k1))) ?_
   rintro _ w22 ⟨rfl, o23⟩
   replace hl := hl.step0 o23
   replace hN := hN.step0 o23
   replace oW := oW.tail0 o23
   refine wG (d_not rfl rfl) ?_
   refine wI (d_pick (b := true) (v := vT) rfl rfl) ?_
   refine wI (d_move rfl) ?_
   refine wG (d_move rfl) ?_
   refine wF ([(ptr L.bN 0), (eN dn), (eN bn), (eN pn), ul] ++ (us 5 ++ [(eN 0), undef, undef, undef, (ptr L.bN 0), (eN dn), (eN bn), (eN pn), vT, vT, (ptr L.bN 0), (eN dn), (eN bn), vF, vT, vT, vT, ul] ++ (us 61))) ?_
   refine wG (d_lenS rfl Try.underlying22 rfl hl) ?_
   refine wG (n_eql (a := l.length) (b := 60) rfl rfl (decide_eq_true k2)) ?_
   refine wI (d_pick (b := true) (v := vT) rfl rfl) ?_
   refine wI (d_move rfl) ?_
   refine wG (d_move rfl) ?_
   refine wG (d_nilCheck (b := L.bN) (o := 0) rfl) ?_
   refine wG (d_fieldAddr (j := 11) Try.underlying81 rfl s_ti79 (by decide) rfl rfl) ?_
   refine wF ([(ptr L.bN 0), (eN dn), (eN bn), (eN pn), ul] ++ (us 5 ++ [(eN 0), undef, undef, undef, (ptr L.bN 0), (eN dn), (eN bn), (eN pn), vT, vT, (ptr L.bN 0), (eN dn), (eN bn), vF, vT, vT, vT, ul, (eN l.length), vT, vT, vT, (ptr L.bN 0), (ptr L.bN 0), (ptr L.bN 11)] ++ (us 54))) ?_
   refine wG (nd_ld (v := L.ub) hN ⟨_, Try.underlying79, rfl⟩ rfl (fun _ => rfl)) ?_
   refine wG (d_move rfl) ?_
   refine wG (nd_ixU (i := dn) hN Try.underlying79 s_ti83 rfl (show _ = Value.int _ (dn : Int) from rfl) hd1) ?_
   refine wG (nd_ldU (i := dn) hN ⟨_, Try.underlying83, rfl⟩ rfl hd1) ?_
   refine wG (d_move rfl) ?_
   refine wG (d_index (b := (L.bk.getD dn 0)) (o := 0) (n := s.gB) (c := s.gB) (j := (bn * 3)) Try.underlying83 s_ti87 rfl (show _ = Value.int _ (bn : Int) from rfl) oo (Int.ofNat_lt.2 hb1) (by simp)) ?_
   refine wG (d_fieldAddr (j := bn * 3) Try.underlying87 rfl s_ti3 (by decide) rfl rfl) ?_
   refine wF ([(ptr L.bN 0), (eN dn), (eN bn), (eN pn), ul] ++ (us 5 ++ [(eN 0), undef, undef, undef, (ptr L.bN 0), (eN dn), (eN bn), (eN pn), vT, vT, (ptr L.bN 0), (eN dn), (eN bn), vF, vT, vT, vT, ul, (eN l.length), vT, vT, vT, (ptr L.bN 0), (ptr L.bN 0), (ptr L.bN 11), L.ub, (eN dn), (ixp L.ub dn), (sli (L.bk.getD dn 0) 0 s.gB s.gB), (eN bn), (ptr (L.bk.getD dn 0) (bn * 3)), (ptr (L.bk.getD dn 0) (bn * 3))] ++ (us 47))) ?_
   refine wG (nd_ldS (i := dn) (j := bn) (f := 0) hN ⟨_, Try.underlying3, rfl⟩ rfl hd1 hb1 (by decide) rfl) ?_
   refine wG (d_move rfl) ?_
   refine wG (n_eql (a := ((s.bl dn bn).nx)) (b := pn) rfl rfl rfl) ?_
   refine wI (d_pick (b := true) (v := (Value.bool (decide (((s.bl dn bn).nx) = pn)))) rfl rfl) ?_
   refine wI (d_assign rfl) ?_
   refine wD (tN ?_)
   refine forget (fun zf24 => ([(ptr L.bN 0), (eN dn), (eN bn), (eN pn), ul] ++ (zs zf24 5 6 ++ [(Value.bool (decide (((s.bl dn bn).nx) = pn)))] ++ (zs zf24 12 64 ++ (us 9 ++ [(zf24 85), (zf24 86), (zf24 87), (zf24 88)]))))) kr (fun zf24 => ?_)
   refine wQ (wQ (pL ?_))
   refine wI (d_move rfl) ?_
   refine wI (d_move rfl) ?_
   refine wO (d_call (xl := [.tmp 46, .tmp 47]) (al := [(ptr L.bN 0), (Value.bool (decide (((s.bl dn bn).nx) = pn)))]) Try.func80 kr rfl rfl rfl (ask_ok L s _ hN (g := (s.progOk (dn : Int) (bn : Int) (pn : Int) l)) (decide (((s.bl dn bn).nx) = pn)) (by simp [NS.progOk, *] <;> omega))) ?_
   rintro _ w25 ⟨rfl, a27, o26⟩
   replace hl := hl.step o26 sub1
   replace oW := oW.tail o26 (fun k _ e => (fun k h => h) k e)
   replace hN := a27
   refine wI (d_assign rfl) ?_
   refine wD (tN (wQ (pL ?_)))
   refine wI (d_move rfl) ?_
   refine wI (n_neq (a := (s.askR (s.progOk (dn : Int) (bn : Int) (pn : Int) l))) (b := 0) rfl rfl rfl) ?_
   refine wD (tN ?_)
   refine cond_un rfl (fun c0 => ?_) (fun c0 => ?_)
   ·
    refine wQ (pL ?_)
    refine wI (d_move rfl) ?_
    refine wF ([(ptr L.bN 0), (eN dn), (eN bn), (eN pn), ul] ++ (zs zf24 5 6 ++ [(Value.bool (decide (((s.bl dn bn).nx) = pn))), (eN (s.askR (s.progOk (dn : Int) (bn : Int) (pn : Int) l)))] ++ (zs zf24 13 33 ++ [(ptr L.bN 0), (Value.bool (decide (((s.bl dn bn).nx) = pn))), (eN (s.askR (s.progOk (dn : Int) (bn : Int) (pn : Int) l))), (eN (s.askR (s.progOk (dn : Int) (bn : Int) (pn : Int) l))), (Value.bool (!decide ((s.askR (s.progOk (dn : Int) (bn : Int) (pn : Int) l)) = 0))), (eN (s.askR (s.progOk (dn : Int) (bn : Int) (pn : Int) l)))] ++ (zs zf24 52 24 ++ (us 9 ++ [(zf24 85), (zf24 86), (zf24 87), (zf24 88)]))))) ?_
    refine wI (d_assign rfl) ?_
    refine wD (tN ?_)
    refine forget (fun zf28 => (zs zf28 0 10 ++ [(eN (s.askR (s.progOk (dn : Int) (bn : Int) (pn : Int) l)))] ++ (zs zf28 11 78))) kr (fun zf28 => ?_)
    refine wpIn_ret ?_
    refine then_r ?_
    refine leave0 (v := (eN (s.askR (s.progOk (dn : Int) (bn : Int) (pn : Int) l)))) (res1 Try.results53 rfl) ?_
    obtain ⟨e1_, e2_⟩ := NS.prog_no c0; exact ⟨congrArg eN e2_.symm, e1_ ▸ hN, oW⟩
   refine wK (tN (wQ ?_))
   obtain ⟨hnx_, hl6_⟩ := NS.progOk_nx c0
   have okp_ : 4 ≤ s.gP ∧ s.gP ≤ 8 := hN.ok.p
   have okn_ := hN.ok.nx
   refine pL ?_
   refine wI (d_move rfl) ?_
   refine wF ([(ptr L.bN 0), (eN dn), (eN bn), (eN pn), ul] ++ (zs zf24 5 6 ++ [(Value.bool (decide (((s.bl dn bn).nx) = pn))), (eN (s.askR (s.progOk (dn : Int) (bn : Int) (pn : Int) l)))] ++ (zs zf24 13 33 ++ [(ptr L.bN 0), (Value.bool (decide (((s.bl dn bn).nx) = pn))), (eN (s.askR (s.progOk (dn : Int) (bn : Int) (pn : Int) l))), (eN (s.askR (s.progOk (dn : Int) (bn : Int) (pn : Int) l))), (Value.bool (!decide ((s.askR (s.progOk (dn : Int) (bn : Int) (pn : Int) l)) = 0))), (zf24 51), (ptr L.bN 0)] ++ (zs zf24 53 23 ++ (us 9 ++ [(zf24 85), (zf24 86), (zf24 87), (zf24 88)]))))) ?_
   refine wI (d_nilCheck (b := L.bN) (o := 0) rfl) ?_
   refine wI (d_fieldAddr (j := 11) Try.underlying81 rfl s_ti79 (by decide) rfl rfl) ?_
   refine wI (nd_ld (v := L.ub) hN ⟨_, Try.underlying79, rfl⟩ rfl (fun _ => rfl)) ?_
   refine wI (d_move rfl) ?_
   refine wI (nd_ixU (i := dn) hN Try.underlying79 s_ti83 rfl (show _ = Value.int _ (dn : Int) from rfl) hd1) ?_
   refine wI (nd_ldU (i := dn) hN ⟨_, Try.underlying83, rfl⟩ rfl hd1) ?_
   refine wI (d_move rfl) ?_
   refine wF ([(ptr L.bN 0), (eN dn), (eN bn), (eN pn), ul] ++ (zs zf24 5 6 ++ [(Value.bool (decide (((s.bl dn bn).nx) = pn))), (eN (s.askR (s.progOk (dn : Int) (bn : Int) (pn : Int) l)))] ++ (zs zf24 13 33 ++ [(ptr L.bN 0), (Value.bool (decide (((s.bl dn bn).nx) = pn))), (eN (s.askR (s.progOk (dn : Int) (bn : Int) (pn : Int) l))), (eN (s.askR (s.progOk (dn : Int) (bn : Int) (pn : Int) l))), (Value.bool (!decide ((s.askR (s.progOk (dn : Int) (bn : Int) (pn : Int) l)) = 0))), (zf24 51), (ptr L.bN 0), (ptr L.bN 0), (ptr L.bN 11), L.ub, (eN dn), (ixp L.ub dn), (sli (L.bk.getD dn 0) 0 ((s.ask (s.progOk (dn : Int) (bn : Int) (pn : Int) l)).gB) ((s.ask (s.progOk (dn : Int) (bn : Int) (pn : Int) l)).gB)), (eN bn)] ++ (zs zf24 60 16 ++ (us 9 ++ [(zf24 85), (zf24 86), (zf24 87), (zf24 88)]))))) ?_
   refine wI (d_index (b := (L.bk.getD dn 0)) (o := 0) (n := ((s.ask (s.progOk (dn : Int) (bn : Int) (pn : Int) l)).gB)) (c := ((s.ask (s.progOk (dn : Int) (bn : Int) (pn : Int) l)).gB)) (j := (bn * 3)) Try.underlying83 s_ti87 rfl (show _ = Value.int _ (bn : Int) from rfl) oo (Int.ofNat_lt.2 hb1) (by simp)) ?_
   refine wI (d_fieldAddr (j := bn * 3) Try.underlying87 rfl s_ti3 (by decide) rfl rfl) ?_
   refine wI (nd_ldS (i := dn) (j := bn) (f := 0) hN ⟨_, Try.underlying3, rfl⟩ rfl hd1 hb1 (by decide) rfl) ?_
   refine wI (n_add (a := (((s.ask (s.progOk (dn : Int) (bn : Int) (pn : Int) l)).bl dn bn).nx)) (b := 1) rfl rfl (by show (s.bl dn bn).nx + 1 < _; omega)) ?_
   refine wI (d_index (b := (L.bk.getD dn 0)) (o := 0) (n := ((s.ask (s.progOk (dn : Int) (bn : Int) (pn : Int) l)).gB)) (c := ((s.ask (s.progOk (dn : Int) (bn : Int) (pn : Int) l)).gB)) (j := (bn * 3)) Try.underlying83 s_ti87 rfl (show _ = Value.int _ (bn : Int) from rfl) oo (Int.ofNat_lt.2 hb1) (by simp)) ?_
   refine wI (d_fieldAddr (j := bn * 3) Try.underlying87 rfl s_ti3 (by decide) rfl rfl) ?_
   refine wO (nd_stS (i := dn) (j := bn) (f := 0) (x' := { (s.ask (s.progOk (dn : Int) (bn : Int) (pn : Int) l)).bl dn bn with nx := ((s.ask (s.progOk (dn : Int) (bn : Int) (pn : Int) l)).bl dn bn).nx + 1 }) hN s_ti3 rfl rfl rfl hd1 hb1 (by decide) rfl (by show (s.bl dn bn).nx + 1 ≤ 8; omega)) ?_
   rintro _ w29 ⟨a30, o31⟩
   replace hl := hl.step o31 sub1
   replace oW := oW.tail o31 (fun k _ e => (fun k h => h) k e)
   replace hN := a30
   refine wF ([(ptr L.bN 0), (eN dn), (eN bn), (eN pn), ul] ++ (zs zf24 5 6 ++ [(Value.bool (decide (((s.bl dn bn).nx) = pn))), (eN (s.askR (s.progOk (dn : Int) (bn : Int) (pn : Int) l)))] ++ (zs zf24 13 33 ++ [(ptr L.bN 0), (Value.bool (decide (((s.bl dn bn).nx) = pn))), (eN (s.askR (s.progOk (dn : Int) (bn : Int) (pn : Int) l))), (eN (s.askR (s.progOk (dn : Int) (bn : Int) (pn : Int) l))), (Value.bool (!decide ((s.askR (s.progOk (dn : Int) (bn : Int) (pn : Int) l)) = 0))), (zf24 51), (ptr L.bN 0), (ptr L.bN 0), (ptr L.bN 11), L.ub, (eN dn), (ixp L.ub dn), (sli (L.bk.getD dn 0) 0 ((s.ask (s.progOk (dn : Int) (bn : Int) (pn : Int) l)).gB) ((s.ask (s.progOk (dn : Int) (bn : Int) (pn : Int) l)).gB)), (eN bn), (ptr (L.bk.getD dn 0) (bn * 3)), (ptr (L.bk.getD dn 0) (bn * 3)), (eN (((s.ask (s.progOk (dn : Int) (bn : Int) (pn : Int) l)).bl dn bn).nx)), (eN (((s.ask (s.progOk (dn : Int) (bn : Int) (pn : Int) l)).bl dn bn).nx + 1)), (ptr (L.bk.getD dn 0) (bn * 3)), (ptr (L.bk.getD dn 0) (bn * 3))] ++ (zs zf24 66 10 ++ (us 9 ++ [(zf24 85), (zf24 86), (zf24 87), (zf24 88)]))))) ?_
   refine wD (tN ?_)
   refine forget (fun zf32 => ([(ptr L.bN 0), (eN dn), (eN bn), (eN pn), ul] ++ (zs zf32 5 71 ++ (us 9 ++ [(zf32 85), (zf32 86), (zf32 87), (zf32 88)])))) kr (fun zf32 => ?_)
   refine wQ (pL ?_)
   refine wI (d_move rfl) ?_
   refine wI (d_nilCheck (b := L.bN) (o := 0) rfl) ?_
   refine wI (d_fieldAddr (j := 3) Try.underlying81 rfl s_ti73 (by decide) rfl rfl) ?_
   refine wI (nd_ldAg (vs := [(eN (((s.ask (s.progOk (dn : Int) (bn : Int) (pn : Int) l)).setB dn bn { (s.ask (s.progOk (dn : Int) (bn : Int) (pn : Int) l)).bl dn bn with nx := ((s.ask (s.progOk (dn : Int) (bn : Int) (pn : Int) l)).bl dn bn).nx + 1 }).gD)), (eN (((s.ask (s.progOk (dn : Int) (bn : Int) (pn : Int) l)).setB dn bn { (s.ask (s.progOk (dn : Int) (bn : Int) (pn : Int) l)).bl dn bn with nx := ((s.ask (s.progOk (dn : Int) (bn : Int) (pn : Int) l)).bl dn bn).nx + 1 }).gB)), (eN (((s.ask (s.progOk (dn : Int) (bn : Int) (pn : Int) l)).setB dn bn { (s.ask (s.progOk (dn : Int) (bn : Int) (pn : Int) l)).bl dn bn with nx := ((s.ask (s.progOk (dn : Int) (bn : Int) (pn : Int) l)).bl dn bn).nx + 1 }).gP)), (sli L.bD 0 (((s.ask (s.progOk (dn : Int) (bn : Int) (pn : Int) l)).setB dn bn { (s.ask (s.progOk (dn : Int) (bn : Int) (pn : Int) l)).bl dn bn with nx := ((s.ask (s.progOk (dn : Int) (bn : Int) (pn : Int) l)).bl dn bn).nx + 1 }).n) (((s.ask (s.progOk (dn : Int) (bn : Int) (pn : Int) l)).setB dn bn { (s.ask (s.progOk (dn : Int) (bn : Int) (pn : Int) l)).bl dn bn with nx := ((s.ask (s.progOk (dn : Int) (bn : Int) (pn : Int) l)).bl dn bn).nx + 1 }).n))]) hN ⟨_, Try.underlying73, rfl⟩ s_ti73 rfl (fun _ => rfl) rfl) ?_
   refine wI (d_move rfl) ?_
   refine wI (d_move rfl) ?_
   refine wI (d_move rfl) ?_
   refine wF ([(ptr L.bN 0), (eN dn), (eN bn), (eN pn), ul] ++ (zs zf32 5 61 ++ [(ptr L.bN 0), (ptr L.bN 0), (ptr L.bN 3), (Value.agg #[(eN (((s.ask (s.progOk (dn : Int) (bn : Int) (pn : Int) l)).setB dn bn { (s.ask (s.progOk (dn : Int) (bn : Int) (pn : Int) l)).bl dn bn with nx := ((s.ask (s.progOk (dn : Int) (bn : Int) (pn : Int) l)).bl dn bn).nx + 1 }).gD)), (eN (((s.ask (s.progOk (dn : Int) (bn : Int) (pn : Int) l)).setB dn bn { (s.ask (s.progOk (dn : Int) (bn : Int) (pn : Int) l)).bl dn bn with nx := ((s.ask (s.progOk (dn : Int) (bn : Int) (pn : Int) l)).bl dn bn).nx + 1 }).gB)), (eN (((s.ask (s.progOk (dn : Int) (bn : Int) (pn : Int) l)).setB dn bn { (s.ask (s.progOk (dn : Int) (bn : Int) (pn : Int) l)).bl dn bn with nx := ((s.ask (s.progOk (dn : Int) (bn : Int) (pn : Int) l)).bl dn bn).nx + 1 }).gP)), (sli L.bD 0 (((s.ask (s.progOk (dn : Int) (bn : Int) (pn : Int) l)).setB dn bn { (s.ask (s.progOk (dn : Int) (bn : Int) (pn : Int) l)).bl dn bn with nx := ((s.ask (s.progOk (dn : Int) (bn : Int) (pn : Int) l)).bl dn bn).nx + 1 }).n) (((s.ask (s.progOk (dn : Int) (bn : Int) (pn : Int) l)).setB dn bn { (s.ask (s.progOk (dn : Int) (bn : Int) (pn : Int) l)).bl dn bn with nx := ((s.ask (s.progOk (dn : Int) (bn : Int) (pn : Int) l)).bl dn bn).nx + 1 }).n))]), (eN dn), (eN bn), (eN pn), (zf32 73), (zf32 74), (zf32 75)] ++ (us 9 ++ [(zf32 85), (zf32 86), (zf32 87), (zf32 88)]))) ?_
   refine wO (d_call (xl := [.tmp 69, .tmp 70, .tmp 71, .tmp 72]) (al := [(Value.agg #[(eN (((s.ask (s.progOk (dn : Int) (bn : Int) (pn : Int) l)).setB dn bn { (s.ask (s.progOk (dn : Int) (bn : Int) (pn : Int) l)).bl dn bn with nx := ((s.ask (s.progOk (dn : Int) (bn : Int) (pn : Int) l)).bl dn bn).nx + 1 }).gD)), (eN (((s.ask (s.progOk (dn : Int) (bn : Int) (pn : Int) l)).setB dn bn { (s.ask (s.progOk (dn : Int) (bn : Int) (pn : Int) l)).bl dn bn with nx := ((s.ask (s.progOk (dn : Int) (bn : Int) (pn : Int) l)).bl dn bn).nx + 1 }).gB)), (eN (((s.ask (s.progOk (dn : Int) (bn : Int) (pn : Int) l)).setB dn bn { (s.ask (s.progOk (dn : Int) (bn : Int) (pn : Int) l)).bl dn bn with nx := ((s.ask (s.progOk (dn : Int) (bn : Int) (pn : Int) l)).bl dn bn).nx + 1 }).gP)), (sli L.bD 0 (((s.ask (s.progOk (dn : Int) (bn : Int) (pn : Int) l)).setB dn bn { (s.ask (s.progOk (dn : Int) (bn : Int) (pn : Int) l)).bl dn bn with nx := ((s.ask (s.progOk (dn : Int) (bn : Int) (pn : Int) l)).bl dn bn).nx + 1 }).n) (((s.ask (s.progOk (dn : Int) (bn : Int) (pn : Int) l)).setB dn bn { (s.ask (s.progOk (dn : Int) (bn : Int) (pn : Int) l)).bl dn bn with nx := ((s.ask (s.progOk (dn : Int) (bn : Int) (pn : Int) l)).bl dn bn).nx + 1 }).n))]), (eN dn), (eN bn), (eN pn)]) Try.func81 kr rfl rfl rfl (atD_ok ((s.ask (s.progOk (dn : Int) (bn : Int) (pn : Int) l)).setB dn bn { (s.ask (s.progOk (dn : Int) (bn : Int) (pn : Int) l)).bl dn bn with nx := ((s.ask (s.progOk (dn : Int) (bn : Int) (pn : Int) l)).bl dn bn).nx + 1 }) L.bD dn bn pn _ hN.ok (by first | assumption | omega) (by first | assumption | omega) (by first | assumption | omega))) ?_
   rintro _ w33 ⟨rfl, o34⟩
   replace hl := hl.step0 o34
   replace hN := hN.step0 o34
   replace oW := oW.tail0 o34
   refine wI (d_assign rfl) ?_
   refine wD (tN ?_)
   refine forget (fun zf35 => ([(ptr L.bN 0), (zf35 1), (zf35 2), (zf35 3), ul] ++ (zs zf35 5 8 ++ [(ptr L.bD (((s.ask (s.progOk (dn : Int) (bn : Int) (pn : Int) l)).setB dn bn { (s.ask (s.progOk (dn : Int) (bn : Int) (pn : Int) l)).bl dn bn with nx := ((s.ask (s.progOk (dn : Int) (bn : Int) (pn : Int) l)).bl dn bn).nx + 1 }).ix dn bn pn))] ++ (zs zf35 14 62 ++ (us 9 ++ [(zf35 85), (zf35 86), (zf35 87), (zf35 88)]))))) kr (fun zf35 => ?_)
   refine wQ (wQ (pL ?_))
   refine wI (d_move rfl) ?_
   refine wO (d_call (xl := [.tmp 74]) (al := [(ptr L.bN 0)]) Try.func82 kr rfl rfl rfl (goes_ok L ((s.ask (s.progOk (dn : Int) (bn : Int) (pn : Int) l)).setB dn bn { (s.ask (s.progOk (dn : Int) (bn : Int) (pn : Int) l)).bl dn bn with nx := ((s.ask (s.progOk (dn : Int) (bn : Int) (pn : Int) l)).bl dn bn).nx + 1 }) _ hN)) ?_
   rintro _ w36 ⟨rfl, a38, o37⟩
   replace hl := hl.step o37 sub1
   replace oW := oW.tail o37 (fun k _ e => (fun k h => h) k e)
   replace hN := a38
   refine wD (tN ?_)
   refine cond_b rfl (fun c1 => ?_) (fun c1 => ?_)
   ·
    refine wQ ?_
    have l3_ : (((s.ask (s.progOk (dn : Int) (bn : Int) (pn : Int) l)).setB dn bn { (s.ask (s.progOk (dn : Int) (bn : Int) (pn : Int) l)).bl dn bn with nx := ((s.ask (s.progOk (dn : Int) (bn : Int) (pn : Int) l)).bl dn bn).nx + 1 }).goes).mask.length ≤ 1048576 := hN.ok.ml
    refine wp_eq (l' := ([(ptr L.bN 0), (zf35 1), (zf35 2), (zf35 3), ul] ++ (zs zf35 5 8 ++ [(ptr L.bD (((s.ask (s.progOk (dn : Int) (bn : Int) (pn : Int) l)).setB dn bn { (s.ask (s.progOk (dn : Int) (bn : Int) (pn : Int) l)).bl dn bn with nx := ((s.ask (s.progOk (dn : Int) (bn : Int) (pn : Int) l)).bl dn bn).nx + 1 }).ix dn bn pn))] ++ (zs zf35 14 60 ++ [(ptr L.bN 0), (Value.bool (((s.ask (s.progOk (dn : Int) (bn : Int) (pn : Int) l)).setB dn bn { (s.ask (s.progOk (dn : Int) (bn : Int) (pn : Int) l)).bl dn bn with nx := ((s.ask (s.progOk (dn : Int) (bn : Int) (pn : Int) l)).bl dn bn).nx + 1 }).goesR))] ++ (us 9 ++ [(zf35 85), (zf35 86), (zf35 87), (zf35 88)]))))) rfl ?_
    refine drawnT (O := (Ors L.S No)) (n := 10) 8 [0, 0, 0, 0, 8, 24, 56, 126, 255, 511] [(0, 76), (1, 77), (2, 78), (3, 79), (4, 80), (5, 81), (6, 82), (7, 83), (8, 84)] [(0, 76), (1, 77), (2, 78), (3, 79), (4, 80), (5, 81), (6, 82), (7, 83)] [0, 1, 2, 3, 4, 5, 6, 7] [] (fun i_ => ([RF.is (Ors L.S No) (ptr L.bD (((s.ask (s.progOk (dn : Int) (bn : Int) (pn : Int) l)).setB dn bn { (s.ask (s.progOk (dn : Int) (bn : Int) (pn : Int) l)).bl dn bn with nx := ((s.ask (s.progOk (dn : Int) (bn : Int) (pn : Int) l)).bl dn bn).nx + 1 }).ix dn bn pn)), RF.ps (Ors L.S No) (Ors L.S (Old W.heap.size)) (Seq kB onesW) (ors_mono no_any), RF.is (Ors L.S No) ul, RF.is (Ors L.S No) (ptr L.bN 0), RF.is (Ors L.S No) (ptr L.bN 0), RF.is (Ors L.S No) (ptr L.bN 13), RF.ps (Ors L.S No) (Ors L.S X) (Seq kB ((((s.ask (s.progOk (dn : Int) (bn : Int) (pn : Int) l)).setB dn bn { (s.ask (s.progOk (dn : Int) (bn : Int) (pn : Int) l)).bl dn bn with nx := ((s.ask (s.progOk (dn : Int) (bn : Int) (pn : Int) l)).bl dn bn).nx + 1 }).goes).mask)) (ors_mono no_any), RF.ps (Ors L.S No) (Ors L.S (Old W.heap.size)) (Seq kB (mixR onesW l ((((s.ask (s.progOk (dn : Int) (bn : Int) (pn : Int) l)).setB dn bn { (s.ask (s.progOk (dn : Int) (bn : Int) (pn : Int) l)).bl dn bn with nx := ((s.ask (s.progOk (dn : Int) (bn : Int) (pn : Int) l)).bl dn bn).nx + 1 }).goes).mask))) (ors_mono no_any)] : List (RF (Ors L.S No))).getD i_ (RF.any (Ors L.S No))) (fun _ w_ => Nd L (((s.ask (s.progOk (dn : Int) (bn : Int) (pn : Int) l)).setB dn bn { (s.ask (s.progOk (dn : Int) (bn : Int) (pn : Int) l)).bl dn bn with nx := ((s.ask (s.progOk (dn : Int) (bn : Int) (pn : Int) l)).bl dn bn).nx + 1 }).goes) X w_) (fun v39 => ([(ptr L.bN 0), (zf35 1), (zf35 2), (zf35 3), ul] ++ (zs zf35 5 8 ++ [(ptr L.bD (((s.ask (s.progOk (dn : Int) (bn : Int) (pn : Int) l)).setB dn bn { (s.ask (s.progOk (dn : Int) (bn : Int) (pn : Int) l)).bl dn bn with nx := ((s.ask (s.progOk (dn : Int) (bn : Int) (pn : Int) l)).bl dn bn).nx + 1 }).ix dn bn pn))] ++ (zs zf35 14 60 ++ [(ptr L.bN 0), (Value.bool (((s.ask (s.progOk (dn : Int) (bn : Int) (pn : Int) l)).setB dn bn { (s.ask (s.progOk (dn : Int) (bn : Int) (pn : Int) l)).bl dn bn with nx := ((s.ask (s.progOk (dn : Int) (bn : Int) (pn : Int) l)).bl dn bn).nx + 1 }).goesR)), (v39 0), (v39 1), (v39 2), (v39 3), (v39 4), (v39 5), (v39 6), (v39 7), (v39 8), (zf35 85), (zf35 86), (zf35 87), (zf35 88)])))) (fun v39 => ([(ptr L.bN 0), (zf35 1), (zf35 2), (zf35 3), ul] ++ (zs zf35 5 8 ++ [(ptr L.bD (((s.ask (s.progOk (dn : Int) (bn : Int) (pn : Int) l)).setB dn bn { (s.ask (s.progOk (dn : Int) (bn : Int) (pn : Int) l)).bl dn bn with nx := ((s.ask (s.progOk (dn : Int) (bn : Int) (pn : Int) l)).bl dn bn).nx + 1 }).ix dn bn pn))] ++ (zs zf35 14 60 ++ [(ptr L.bN 0), (Value.bool (((s.ask (s.progOk (dn : Int) (bn : Int) (pn : Int) l)).setB dn bn { (s.ask (s.progOk (dn : Int) (bn : Int) (pn : Int) l)).bl dn bn with nx := ((s.ask (s.progOk (dn : Int) (bn : Int) (pn : Int) l)).bl dn bn).nx + 1 }).goesR)), (v39 0), (v39 1), (v39 2), (v39 3), (v39 4), (v39 5), (v39 6), (v39 7), undef, (zf35 85), (zf35 86), (zf35 87), (zf35 88)])))) s_mx kr rfl (by decide) (by rfl) kr kr kr (by rfl) (fun v_ => by kernel_rfl) (fun v_ => by kernel_rfl) (fun _ => fun w_ w2_ h ho => by have r_hN := h; exact r_hN.step0 ho) hN ?_ ?_ ?_
    ·
     refine ls_cons ?_ ?_
     ·
      intro v39 lo hi w_ k_ hO hd _ _ hk_ _ hR hold
      have r_hN := hR
      clear hd hold
      refine ⟨_, rfl, gd rfl ?_⟩
      exact Does.is (d_move rfl)
     refine ls_cons ?_ ?_
     ·
      intro v39 lo hi w_ k_ hO hd _ _ hk_ _ hR hold
      have r_hN := hR
      clear hd hold
      refine ⟨_, rfl, gd rfl ?_⟩
      refine Does.mono (R := ROw 5 eB onesW w_) ?_ (fun u w' h => ⟨(h.ps).1.less (ors_old r_hN.lt (old_old (Nat.le_trans oW.size hO.size))), (h.ps).2⟩)
      exact d_call (xl := []) (al := []) Try.func51 kr rfl rfl rfl (blank_ok _)
     refine ls_cons ?_ ?_
     ·
      intro v39 lo hi w_ k_ hO hd _ _ hk_ _ hR hold
      have r_hN := hR
      clear hd hold
      refine ⟨_, rfl, gd rfl ?_⟩
      exact Does.is (d_move rfl)
     refine ls_cons ?_ ?_
     ·
      intro v39 lo hi w_ k_ hO hd _ _ hk_ _ hR hold
      have r_hN := hR
      clear hd hold
      refine ⟨_, rfl, gd rfl ?_⟩
      exact Does.is (d_move rfl)
     refine ls_cons ?_ ?_
     ·
      intro v39 lo hi w_ k_ hO hd _ _ hk_ _ hR hold
      have r_hN := hR
      have e3 : v39 3 = (ptr L.bN 0) := hd 3 kr
      clear hd hold
      refine ⟨_, rfl, gd rfl ?_⟩
      exact Does.is (d_nilCheck (b := L.bN) (o := 0) e3)
     refine ls_cons ?_ ?_
     ·
      intro v39 lo hi w_ k_ hO hd _ _ hk_ _ hR hold
      have r_hN := hR
      have e4 : v39 4 = (ptr L.bN 0) := hd 4 kr
      clear hd hold
      refine ⟨_, rfl, gd rfl ?_⟩
      exact Does.is (d_fieldAddr (j := 13) Try.underlying81 rfl s_ti22 (by decide) e4 rfl)
     refine ls_cons ?_ ?_
     ·
      intro v39 lo hi w_ k_ hO hd _ _ hk_ _ hR hold
      have r_hN := hR
      have e5 : v39 5 = (ptr L.bN 13) := hd 5 kr
      clear hd hold
      refine ⟨_, rfl, gd rfl ?_⟩
      refine Does.mono (nd_ldm (Y := (Ors L.S X)) r_hN xo_s ⟨_, Try.underlying22, rfl⟩ e5) (fun u w' h => ⟨h.2 ▸ h.1, h.2 ▸ Only.refl _ _⟩)
     refine ls_cons ?_ ?_
     ·
      intro v39 lo hi w_ k_ hO hd _ _ hk_ _ hR hold
      have r_hN := hR
      have d1 : Ps (Ors L.S (Old W.heap.size)) (Seq kB onesW (v39 1)) w_ := hd 1 kr
      have e2 : v39 2 = ul := hd 2 kr
      have d6 : Ps (Ors L.S X) (Seq kB ((((s.ask (s.progOk (dn : Int) (bn : Int) (pn : Int) l)).setB dn bn { (s.ask (s.progOk (dn : Int) (bn : Int) (pn : Int) l)).bl dn bn with nx := ((s.ask (s.progOk (dn : Int) (bn : Int) (pn : Int) l)).bl dn bn).nx + 1 }).goes).mask) (v39 6)) w_ := hd 6 kr
      clear hd hold
      refine ⟨_, rfl, gd rfl ?_⟩
      refine Does.mono (R := ROw 5 eB (mixR onesW l ((((s.ask (s.progOk (dn : Int) (bn : Int) (pn : Int) l)).setB dn bn { (s.ask (s.progOk (dn : Int) (bn : Int) (pn : Int) l)).bl dn bn with nx := ((s.ask (s.progOk (dn : Int) (bn : Int) (pn : Int) l)).bl dn bn).nx + 1 }).goes).mask)) w_) ?_ (fun u w' h => ⟨(h.ps).1.less (ors_old r_hN.lt (old_old (Nat.le_trans oW.size hO.size))), (h.ps).2⟩)
      exact d_call (xl := [.tmp 77, .tmp 78, .tmp 82]) (al := [(v39 1), ul, (v39 6)]) Try.func83 kr rfl (show ([(v39 1), (v39 2), (v39 6)] : List Value) = [(v39 1), ul, (v39 6)] from by rw [e2]) rfl (bitsMix_ok onesW l ((((s.ask (s.progOk (dn : Int) (bn : Int) (pn : Int) l)).setB dn bn { (s.ask (s.progOk (dn : Int) (bn : Int) (pn : Int) l)).bl dn bn with nx := ((s.ask (s.progOk (dn : Int) (bn : Int) (pn : Int) l)).bl dn bn).nx + 1 }).goes).mask) (v39 1) ul (v39 6) _ (Ps.no d1) (Ps.no (hl.step hO (ors_mono no_any))) (Ps.no d6) (by have := onesW_len; first | omega | (simp; done) | (simp; omega)) fo fo)
     exact ls_nil
    ·
     exact ms_nil
    intro v39 lo_ hi_ w40 o41 hd iv_ hR
    have e0 : v39 0 = (ptr L.bD (((s.ask (s.progOk (dn : Int) (bn : Int) (pn : Int) l)).setB dn bn { (s.ask (s.progOk (dn : Int) (bn : Int) (pn : Int) l)).bl dn bn with nx := ((s.ask (s.progOk (dn : Int) (bn : Int) (pn : Int) l)).bl dn bn).nx + 1 }).ix dn bn pn)) := hd 0 (by decide)
    have e2 : v39 2 = ul := hd 2 (by decide)
    have e3 : v39 3 = (ptr L.bN 0) := hd 3 (by decide)
    have e4 : v39 4 = (ptr L.bN 0) := hd 4 (by decide)
    have e5 : v39 5 = (ptr L.bN 13) := hd 5 (by decide)
    have f_v39_1 : Ps (Ors L.S (Old W.heap.size)) (Seq kB onesW (v39 1)) w40 := hd 1 (by decide)
    have f_v39_6 : Ps (Ors L.S X) (Seq kB ((((s.ask (s.progOk (dn : Int) (bn : Int) (pn : Int) l)).setB dn bn { (s.ask (s.progOk (dn : Int) (bn : Int) (pn : Int) l)).bl dn bn with nx := ((s.ask (s.progOk (dn : Int) (bn : Int) (pn : Int) l)).bl dn bn).nx + 1 }).goes).mask) (v39 6)) w40 := hd 6 (by decide)
    have f_v39_7 : Ps (Ors L.S (Old W.heap.size)) (Seq kB (mixR onesW l ((((s.ask (s.progOk (dn : Int) (bn : Int) (pn : Int) l)).setB dn bn { (s.ask (s.progOk (dn : Int) (bn : Int) (pn : Int) l)).bl dn bn with nx := ((s.ask (s.progOk (dn : Int) (bn : Int) (pn : Int) l)).bl dn bn).nx + 1 }).goes).mask)) (v39 7)) w40 := hd 7 (by decide)
    clear hd iv_ lo_ hi_
    refine wpL.flat ([(ptr L.bN 0), (zf35 1), (zf35 2), (zf35 3), ul] ++ (zs zf35 5 8 ++ [(ptr L.bD (((s.ask (s.progOk (dn : Int) (bn : Int) (pn : Int) l)).setB dn bn { (s.ask (s.progOk (dn : Int) (bn : Int) (pn : Int) l)).bl dn bn with nx := ((s.ask (s.progOk (dn : Int) (bn : Int) (pn : Int) l)).bl dn bn).nx + 1 }).ix dn bn pn))] ++ (zs zf35 14 60 ++ [(ptr L.bN 0), (Value.bool (((s.ask (s.progOk (dn : Int) (bn : Int) (pn : Int) l)).setB dn bn { (s.ask (s.progOk (dn : Int) (bn : Int) (pn : Int) l)).bl dn bn with nx := ((s.ask (s.progOk (dn : Int) (bn : Int) (pn : Int) l)).bl dn bn).nx + 1 }).goesR)), (ptr L.bD (((s.ask (s.progOk (dn : Int) (bn : Int) (pn : Int) l)).setB dn bn { (s.ask (s.progOk (dn : Int) (bn : Int) (pn : Int) l)).bl dn bn with nx := ((s.ask (s.progOk (dn : Int) (bn : Int) (pn : Int) l)).bl dn bn).nx + 1 }).ix dn bn pn)), (v39 1), ul, (ptr L.bN 0), (ptr L.bN 0), (ptr L.bN 13), (v39 6), (v39 7), undef, (zf35 85), (zf35 86), (zf35 87), (zf35 88)]))) (by rw [e0, e2, e3, e4, e5] <;> rfl) ?_
    clear e0 e2 e3 e4 e5
    replace hl := hl.step o41 (ors_mono no_any)
    replace hN := hR
    clear hR
    replace oW := oW.tail o41 (tl_sin (fun k h => h) tl_no)
    refine wI (d_nilCheck (b := L.bD) (o := (((s.ask (s.progOk (dn : Int) (bn : Int) (pn : Int) l)).setB dn bn { (s.ask (s.progOk (dn : Int) (bn : Int) (pn : Int) l)).bl dn bn with nx := ((s.ask (s.progOk (dn : Int) (bn : Int) (pn : Int) l)).bl dn bn).nx + 1 }).ix dn bn pn)) rfl) ?_
    refine wO (nd_stD (i := (((s.ask (s.progOk (dn : Int) (bn : Int) (pn : Int) l)).setB dn bn { (s.ask (s.progOk (dn : Int) (bn : Int) (pn : Int) l)).bl dn bn with nx := ((s.ask (s.progOk (dn : Int) (bn : Int) (pn : Int) l)).bl dn bn).nx + 1 }).ix dn bn pn)) (Y := (Ors L.S X)) (l := (mixR onesW l ((((s.ask (s.progOk (dn : Int) (bn : Int) (pn : Int) l)).setB dn bn { (s.ask (s.progOk (dn : Int) (bn : Int) (pn : Int) l)).bl dn bn with nx := ((s.ask (s.progOk (dn : Int) (bn : Int) (pn : Int) l)).bl dn bn).nx + 1 }).goes).mask))) hN ox_s s_ti22 rfl rfl (f_v39_7.less (Y := (Ors L.S X)) (xx_ors (lt_old hX))) (NS.ix_lt (by first | assumption | omega) (by first | assumption | omega) (by first | assumption | omega)) (mixR60 onesW_len hl6_)) ?_
    rintro _ w42 ⟨a43, o44⟩
    replace hl := hl.step o44 sub1
    replace f_v39_1 := f_v39_1.step o44 sub1
    replace f_v39_6 := f_v39_6.step o44 sub1
    replace f_v39_7 := f_v39_7.step o44 sub1
    replace oW := oW.tail o44 (fun k _ e => (fun k h => h) k e)
    replace hN := a43
    refine wF ([(ptr L.bN 0), (zf35 1), (zf35 2), (zf35 3), ul] ++ (zs zf35 5 8 ++ [(ptr L.bD (((s.ask (s.progOk (dn : Int) (bn : Int) (pn : Int) l)).setB dn bn { (s.ask (s.progOk (dn : Int) (bn : Int) (pn : Int) l)).bl dn bn with nx := ((s.ask (s.progOk (dn : Int) (bn : Int) (pn : Int) l)).bl dn bn).nx + 1 }).ix dn bn pn))] ++ (zs zf35 14 60 ++ [(ptr L.bN 0), (Value.bool (((s.ask (s.progOk (dn : Int) (bn : Int) (pn : Int) l)).setB dn bn { (s.ask (s.progOk (dn : Int) (bn : Int) (pn : Int) l)).bl dn bn with nx := ((s.ask (s.progOk (dn : Int) (bn : Int) (pn : Int) l)).bl dn bn).nx + 1 }).goesR)), (ptr L.bD (((s.ask (s.progOk (dn : Int) (bn : Int) (pn : Int) l)).setB dn bn { (s.ask (s.progOk (dn : Int) (bn : Int) (pn : Int) l)).bl dn bn with nx := ((s.ask (s.progOk (dn : Int) (bn : Int) (pn : Int) l)).bl dn bn).nx + 1 }).ix dn bn pn)), (v39 1), ul, (ptr L.bN 0), (ptr L.bN 0), (ptr L.bN 13), (v39 6), (v39 7), (ptr L.bD (((s.ask (s.progOk (dn : Int) (bn : Int) (pn : Int) l)).setB dn bn { (s.ask (s.progOk (dn : Int) (bn : Int) (pn : Int) l)).bl dn bn with nx := ((s.ask (s.progOk (dn : Int) (bn : Int) (pn : Int) l)).bl dn bn).nx + 1 }).ix dn bn pn)), (zf35 85), (zf35 86), (zf35 87), (zf35 88)]))) ?_
    refine wD (tN ?_)
    refine forget (fun zf45 => (zs zf45 0 89)) kr (fun zf45 => ?_)
    refine wQ (pL ?_)
    refine wI (d_assign rfl) ?_
    refine wD (tN ?_)
    refine wpIn_ret ?_
    refine then_r ?_
    refine leave0 (v := (eN 8)) (res1 Try.results53 rfl) ?_
    obtain ⟨e1_, e2_⟩ := NS.prog_torn c0 c1; exact ⟨congrArg eN e2_.symm, by rw [e1_]; exact hN, oW⟩
   refine wK (tN (wQ (pL ?_)))
   refine wI (d_move rfl) ?_
   refine wI (d_move rfl) ?_
   refine wO (d_call (xl := [.tmp 86]) (al := [ul]) Try.func41 kr rfl rfl rfl (cloneB_ok l ul _ (Ps.no hl) fo)) ?_
   rintro u48 w46 f49
   replace f49 := f49.ps
   obtain ⟨f49, o47⟩ := f49
   replace f49 := f49.less (Y := (Ors L.S (Old W.heap.size))) (ors_old hN.lt (old_old oW.size))
   replace hl := hl.step0 o47
   replace hN := hN.step0 o47
   replace oW := oW.tail0 o47
   refine wI (d_nilCheck (b := L.bD) (o := (((s.ask (s.progOk (dn : Int) (bn : Int) (pn : Int) l)).setB dn bn { (s.ask (s.progOk (dn : Int) (bn : Int) (pn : Int) l)).bl dn bn with nx := ((s.ask (s.progOk (dn : Int) (bn : Int) (pn : Int) l)).bl dn bn).nx + 1 }).ix dn bn pn)) rfl) ?_
   refine wO (nd_stD (i := (((s.ask (s.progOk (dn : Int) (bn : Int) (pn : Int) l)).setB dn bn { (s.ask (s.progOk (dn : Int) (bn : Int) (pn : Int) l)).bl dn bn with nx := ((s.ask (s.progOk (dn : Int) (bn : Int) (pn : Int) l)).bl dn bn).nx + 1 }).ix dn bn pn)) (Y := (Ors L.S X)) (l := l) hN ox_s s_ti22 rfl rfl (f49.less (Y := (Ors L.S X)) (xx_ors (lt_old hX))) (NS.ix_lt (by first | assumption | omega) (by first | assumption | omega) (by first | assumption | omega)) hl6_) ?_
   rintro _ w50 ⟨a51, o52⟩
   replace hl := hl.step o52 sub1
   replace f49 := f49.step o52 sub1
   replace oW := oW.tail o52 (fun k _ e => (fun k h => h) k e)
   replace hN := a51
   refine wF ([(ptr L.bN 0), (zf35 1), (zf35 2), (zf35 3), ul] ++ (zs zf35 5 8 ++ [(ptr L.bD (((s.ask (s.progOk (dn : Int) (bn : Int) (pn : Int) l)).setB dn bn { (s.ask (s.progOk (dn : Int) (bn : Int) (pn : Int) l)).bl dn bn with nx := ((s.ask (s.progOk (dn : Int) (bn : Int) (pn : Int) l)).bl dn bn).nx + 1 }).ix dn bn pn))] ++ (zs zf35 14 60 ++ [(ptr L.bN 0), (Value.bool (((s.ask (s.progOk (dn : Int) (bn : Int) (pn : Int) l)).setB dn bn { (s.ask (s.progOk (dn : Int) (bn : Int) (pn : Int) l)).bl dn bn with nx := ((s.ask (s.progOk (dn : Int) (bn : Int) (pn : Int) l)).bl dn bn).nx + 1 }).goesR))] ++ (us 9 ++ [(ptr L.bD (((s.ask (s.progOk (dn : Int) (bn : Int) (pn : Int) l)).setB dn bn { (s.ask (s.progOk (dn : Int) (bn : Int) (pn : Int) l)).bl dn bn with nx := ((s.ask (s.progOk (dn : Int) (bn : Int) (pn : Int) l)).bl dn bn).nx + 1 }).ix dn bn pn)), ul, u48, (ptr L.bD (((s.ask (s.progOk (dn : Int) (bn : Int) (pn : Int) l)).setB dn bn { (s.ask (s.progOk (dn : Int) (bn : Int) (pn : Int) l)).bl dn bn with nx := ((s.ask (s.progOk (dn : Int) (bn : Int) (pn : Int) l)).bl dn bn).nx + 1 }).ix dn bn pn))])))) ?_
   refine wD (tN ?_)
   refine forget (fun zf53 => (zs zf53 0 89)) kr (fun zf53 => ?_)
   refine wQ (pL ?_)
   refine wI (d_assign rfl) ?_
   refine wD (tN ?_)
   refine wpIn_ret ?_
   refine leave0 (v := (eN 0)) (res1 Try.results53 rfl) ?_
   obtain ⟨e1_, e2_⟩ := NS.prog_yes c0 c1; exact ⟨congrArg eN e2_.symm, by rw [e1_]; exact hN, oW⟩
  refine pL ?_
  refine wI (d_move rfl) ?_
  refine wI (d_move rfl) ?_
  refine wI (d_move rfl) ?_
  refine wI (d_move rfl) ?_
  refine wO (d_call (xl := [.tmp 14, .tmp 15, .tmp 16, .tmp 17]) (al := [(ptr L.bN 0), (eN dn), (eN bn), (eN pn)]) Try.func58 kr rfl rfl rfl (pageq_ok L s _ hN (r := true) (dn : Int) (bn : Int) (pn : Int) k0)) ?_
  rintro _ w54 ⟨rfl, o55⟩
  replace hl := hl.step0 o55
  replace hN := hN.step0 o55
  replace oW := oW.tail0 o55
  refine wI (d_move rfl) ?_
  refine wG (d_move rfl) ?_
  refine wF ([(ptr L.bN 0), (eN dn), (eN bn), (eN pn), ul] ++ (us 5 ++ [(eN 0), undef, undef, undef, (ptr L.bN 0), (eN dn), (eN bn), (eN pn), vT, vT, (ptr L.bN 0)] ++ (us 68))) ?_
  refine wG (d_move rfl) ?_
  refine wG (d_move rfl) ?_
  refine wpL.on rfl rfl rfl (nb rfl) rfl (d_call (xl := [.tmp 20, .tmp 21, .tmp 22]) (al := [(ptr L.bN 0), (eN dn), (eN bn)]) Try.func79 kr rfl rfl rfl (isBad_ok L s _ hN (r := false) (dn : Int) (bn : Int) (Bool.eq_false_iff.2 k1))) ?_
  rintro _ w56 ⟨rfl, o57⟩
  replace hl := hl.step0 o57
  replace hN := hN.step0 o57
  replace oW := oW.tail0 o57
  refine wG (d_not rfl rfl) ?_
  refine wI (d_pick (b := true) (v := vT) rfl rfl) ?_
  refine wI (d_move rfl) ?_
  refine wG (d_move rfl) ?_
  refine wF ([(ptr L.bN 0), (eN dn), (eN bn), (eN pn), ul] ++ (us 5 ++ [(eN 0), undef, undef, undef, (ptr L.bN 0), (eN dn), (eN bn), (eN pn), vT, vT, (ptr L.bN 0), (eN dn), (eN bn), vF, vT, vT, vT, ul] ++ (us 61))) ?_
  refine wG (d_lenS rfl Try.underlying22 rfl hl) ?_
  refine wG (n_eql (a := l.length) (b := 60) rfl rfl (decide_eq_false k2)) ?_
  refine wI (d_pick (b := true) (v := vF) rfl rfl) ?_
  refine wI (d_move rfl) ?_
  refine wX ?_
  refine wX ?_
  refine wX ?_
  refine wF ([(ptr L.bN 0), (eN dn), (eN bn), (eN pn), ul] ++ (us 5 ++ [(eN 0), undef, undef, undef, (ptr L.bN 0), (eN dn), (eN bn), (eN pn), vT, vT, (ptr L.bN 0), (eN dn), (eN bn), vF, vT, vT, vT, ul, (eN l.length), vF, vF, vF] ++ (us 57))) ?_
  refine wX ?_
  refine wX ?_
  refine wX ?_
  refine wX ?_
  refine wX ?_
  refine wX ?_
  refine wX ?_
  refine wF ([(ptr L.bN 0), (eN dn), (eN bn), (eN pn), ul] ++ (us 5 ++ [(eN 0), undef, undef, undef, (ptr L.bN 0), (eN dn), (eN bn), (eN pn), vT, vT, (ptr L.bN 0), (eN dn), (eN bn), vF, vT, vT, vT, ul, (eN l.length), vF, vF, vF] ++ (us 57))) ?_
  refine wX ?_
  refine wX ?_
  refine wX ?_
  refine wI (d_pick (b := false) (v := vF) rfl rfl) ?_
  refine wI (d_assign rfl) ?_
  refine wD (tN ?_)
  refine forget (fun zf58 => ([(ptr L.bN 0), (eN dn), (eN bn), (eN pn), ul] ++ (zs zf58 5 6 ++ [vF] ++ (zs zf58 12 64 ++ (us 9 ++ [(zf58 85), (zf58 86), (zf58 87), (zf58 88)]))))) kr (fun zf58 => ?_)
  refine wQ (wQ (pL ?_))
  refine wI (d_move rfl) ?_
  refine wI (d_move rfl) ?_
  refine wO (d_call (xl := [.tmp 46, .tmp 47]) (al := [(ptr L.bN 0), vF]) Try.func80 kr rfl rfl rfl (ask_ok L s _ hN (g := (s.progOk (dn : Int) (bn : Int) (pn : Int) l)) false (by simp [NS.progOk, *] <;> omega))) ?_
  rintro _ w59 ⟨rfl, a61, o60⟩
  replace hl := hl.step o60 sub1
  replace oW := oW.tail o60 (fun k _ e => (fun k h => h) k e)
  replace hN := a61
  refine wI (d_assign rfl) ?_
  refine wD (tN (wQ (pL ?_)))
  refine wI (d_move rfl) ?_
  refine wI (n_neq (a := (s.askR (s.progOk (dn : Int) (bn : Int) (pn : Int) l))) (b := 0) rfl rfl rfl) ?_
  refine wD (tN ?_)
  refine cond_un rfl (fun c0 => ?_) (fun c0 => ?_)
  ·
   refine wQ (pL ?_)
   refine wI (d_move rfl) ?_
   refine wF ([(ptr L.bN 0), (eN dn), (eN bn), (eN pn), ul] ++ (zs zf58 5 6 ++ [vF, (eN (s.askR (s.progOk (dn : Int) (bn : Int) (pn : Int) l)))] ++ (zs zf58 13 33 ++ [(ptr L.bN 0), vF, (eN (s.askR (s.progOk (dn : Int) (bn : Int) (pn : Int) l))), (eN (s.askR (s.progOk (dn : Int) (bn : Int) (pn : Int) l))), (Value.bool (!decide ((s.askR (s.progOk (dn : Int) (bn : Int) (pn : Int) l)) = 0))), (eN (s.askR (s.progOk (dn : Int) (bn : Int) (pn : Int) l)))] ++ (zs zf58 52 24 ++ (us 9 ++ [(zf58 85), (zf58 86), (zf58 87), (zf58 88)]))))) ?_
   refine wI (d_assign rfl) ?_
   refine wD (tN ?_)
   refine forget (fun zf62 => (zs zf62 0 10 ++ [(eN (s.askR (s.progOk (dn : Int) (bn : Int) (pn : Int) l)))] ++ (zs zf62 11 78))) kr (fun zf62 => ?_)
   refine wpIn_ret ?_
   refine then_r ?_
   refine leave0 (v := (eN (s.askR (s.progOk (dn : Int) (bn : Int) (pn : Int) l)))) (res1 Try.results53 rfl) ?_
   obtain ⟨e1_, e2_⟩ := NS.prog_no c0; exact ⟨congrArg eN e2_.symm, e1_ ▸ hN, oW⟩
  exact absurd c0 (NS.askR_no (by simp [NS.progOk, *]))
 refine pL ?_
 refine wI (d_move rfl) ?_
 refine wI (d_move rfl) ?_
 refine wI (d_move rfl) ?_
 refine wI (d_move rfl) ?_
 refine wO (d_call (xl := [.tmp 14, .tmp 15, .tmp 16, .tmp 17]) (al := [(ptr L.bN 0), (eI d), (eI b), (eI p)]) Try.func58 kr rfl rfl rfl (pageq_ok L s _ hN (r := false) d b p (Bool.eq_false_iff.2 k0))) ?_
 rintro _ w63 ⟨rfl, o64⟩
 replace hl := hl.step0 o64
 replace hN := hN.step0 o64
 replace oW := oW.tail0 o64
 refine wI (d_move rfl) ?_
 refine wF ([(ptr L.bN 0), (eI d), (eI b), (eI p), ul] ++ (us 5 ++ [(eN 0), undef, undef, undef, (ptr L.bN 0), (eI d), (eI b), (eI p), vF, vF] ++ (us 69))) ?_
 refine wX ?_
 refine wX ?_
 refine wX ?_
 refine wX ?_
 refine wX ?_
 refine wI (d_pick (b := false) (v := vF) rfl rfl) ?_
 refine wI (d_move rfl) ?_
 refine wF ([(ptr L.bN 0), (eI d), (eI b), (eI p), ul] ++ (us 5 ++ [(eN 0), undef, undef, undef, (ptr L.bN 0), (eI d), (eI b), (eI p), vF, vF] ++ (us 5 ++ [vF, vF] ++ (us 62)))) ?_
 refine wX ?_
 refine wX ?_
 refine wX ?_
 refine wI (d_pick (b := false) (v := vF) rfl rfl) ?_
 refine wI (d_move rfl) ?_
 refine wX ?_
 refine wX ?_
 refine wF ([(ptr L.bN 0), (eI d), (eI b), (eI p), ul] ++ (us 5 ++ [(eN 0), undef, undef, undef, (ptr L.bN 0), (eI d), (eI b), (eI p), vF, vF] ++ (us 5 ++ [vF, vF, undef, undef, undef, vF, vF] ++ (us 57)))) ?_
 refine wX ?_
 refine wX ?_
 refine wX ?_
 refine wX ?_
 refine wX ?_
 refine wX ?_
 refine wX ?_
 refine wF ([(ptr L.bN 0), (eI d), (eI b), (eI p), ul] ++ (us 5 ++ [(eN 0), undef, undef, undef, (ptr L.bN 0), (eI d), (eI b), (eI p), vF, vF] ++ (us 5 ++ [vF, vF, undef, undef, undef, vF, vF] ++ (us 57)))) ?_
 refine wX ?_
 refine wX ?_
 refine wX ?_
 refine wX ?_
 refine wI (d_pick (b := false) (v := vF) rfl rfl) ?_
 refine wI (d_assign rfl) ?_
 refine wD (tN ?_)
 refine forget (fun zf65 => ([(ptr L.bN 0), (eI d), (eI b), (eI p), ul] ++ (zs zf65 5 6 ++ [vF] ++ (zs zf65 12 64 ++ (us 9 ++ [(zf65 85), (zf65 86), (zf65 87), (zf65 88)]))))) kr (fun zf65 => ?_)
 refine wQ (wQ (pL ?_))
 refine wI (d_move rfl) ?_
 refine wI (d_move rfl) ?_
 refine wO (d_call (xl := [.tmp 46, .tmp 47]) (al := [(ptr L.bN 0), vF]) Try.func80 kr rfl rfl rfl (ask_ok L s _ hN (g := (s.progOk d b p l)) false (by simp [NS.progOk, *] <;> omega))) ?_
 rintro _ w66 ⟨rfl, a68, o67⟩
 replace hl := hl.step o67 sub1
 replace oW := oW.tail o67 (fun k _ e => (fun k h => h) k e)
 replace hN := a68
 refine wI (d_assign rfl) ?_
 refine wD (tN (wQ (pL ?_)))
 refine wI (d_move rfl) ?_
 refine wI (n_neq (a := (s.askR (s.progOk d b p l))) (b := 0) rfl rfl rfl) ?_
 refine wD (tN ?_)
 refine cond_un rfl (fun c0 => ?_) (fun c0 => ?_)
 ·
  refine wQ (pL ?_)
  refine wI (d_move rfl) ?_
  refine wF ([(ptr L.bN 0), (eI d), (eI b), (eI p), ul] ++ (zs zf65 5 6 ++ [vF, (eN (s.askR (s.progOk d b p l)))] ++ (zs zf65 13 33 ++ [(ptr L.bN 0), vF, (eN (s.askR (s.progOk d b p l))), (eN (s.askR (s.progOk d b p l))), (Value.bool (!decide ((s.askR (s.progOk d b p l)) = 0))), (eN (s.askR (s.progOk d b p l)))] ++ (zs zf65 52 24 ++ (us 9 ++ [(zf65 85), (zf65 86), (zf65 87), (zf65 88)]))))) ?_
  refine wI (d_assign rfl) ?_
  refine wD (tN ?_)
  refine forget (fun zf69 => (zs zf69 0 10 ++ [(eN (s.askR (s.progOk d b p l)))] ++ (zs zf69 11 78))) kr (fun zf69 => ?_)
  refine wpIn_ret ?_
  refine then_r ?_
  refine leave0 (v := (eN (s.askR (s.progOk d b p l)))) (res1 Try.results53 rfl) ?_
  obtain ⟨e1_, e2_⟩ := NS.prog_no c0; exact ⟨congrArg eN e2_.symm, e1_ ▸ hN, oW⟩
 exact absurd c0 (NS.askR_no (by simp [NS.progOk, *]))
theorem blockI_ok (s : NS) (b0 d b : Nat) (W : World) :
    CW Try.prog 87 #[(Value.agg #[(eN s.gD), (eN s.gB), (eN s.gP), (sli b0 0 s.n s.n)]), (eN d), (eN b)] W (Rt (fun u w => ∃ x y z, u = .func (.func 107) #[] #[ptr x 0, ptr y 0, ptr z 0] ∧ W.heap.size ≤ x ∧ W.heap.size ≤ y ∧ W.heap.size ≤ z ∧ x ≠ y ∧ x ≠ z ∧ y ≠ z ∧ Arr 73 x [eN s.gD, eN s.gB, eN s.gP, sli b0 0 s.n s.n] w ∧ Arr 3 y [eN d] w ∧ Arr 3 z [eN b] w ∧ Only No W w)) := by
 have oW : Only No W W := Only.refl _ _
 refine enter (al := [(Value.agg #[(eN s.gD), (eN s.gB), (eN s.gP), (sli b0 0 s.n s.n)]), (eN d), (eN b)]) (k := 5) (l := ([(Value.agg #[(eN s.gD), (eN s.gB), (eN s.gP), (sli b0 0 s.n s.n)]), (eN d), (eN b)] ++ (us 5))) Try.func87 rfl Try.ntmps87 rfl rfl ?_
 refine wQ (pL ?_)
 refine wO (d_box rfl rfl) ?_
 rintro _ w11 ⟨x, rfl, g12, a13, o14⟩
 have g_oW_x : W.heap.size ≤ x := Nat.le_trans oW.size g12
 replace oW := oW.tail0 o14
 refine wO (d_box rfl rfl) ?_
 rintro _ w15 ⟨y, rfl, g16, a17, o18⟩
 have n_x_y : x ≠ y := a13.ne g16
 have g_oW_y : W.heap.size ≤ y := Nat.le_trans oW.size g16
 replace a13 := a13.step0 o18
 replace oW := oW.tail0 o18
 refine wO (d_box rfl rfl) ?_
 rintro _ w19 ⟨z, rfl, g20, a21, o22⟩
 have n_x_z : x ≠ z := a13.ne g20
 have n_y_z : y ≠ z := a17.ne g20
 have g_oW_z : W.heap.size ≤ z := Nat.le_trans oW.size g20
 replace a13 := a13.step0 o22
 replace a17 := a17.step0 o22
 replace oW := oW.tail0 o22
 refine wI (d_assign rfl) ?_
 refine wD (tN (wQ (pL ?_)))
 refine wI (d_funcL (yl := [.tmp 3, .tmp 4, .tmp 5]) (ys := [(ptr x 0), (ptr y 0), (ptr z 0)]) rfl) ?_
 refine wI (d_assign rfl) ?_
 refine wD (tN ?_)
 refine wpIn_ret ?_
 refine leave0 (v := (Value.func (.func 107) #[] #[(ptr x 0), (ptr y 0), (ptr z 0)])) (res1 Try.results87 rfl) ?_
 exact ⟨x, y, z, rfl, g_oW_x, g_oW_y, g_oW_z, n_x_y, n_x_z, n_y_z, a13, a17, a21, oW⟩
theorem blockI1_ok {O : Nat → Prop} {w0 : World} (s : NS) (ok : s.Ok) (b0 d b : Nat) (hd : d < s.gD) (hb : b < s.gB) (xb yb zb l : Nat) (J Jx : List Nat → World → Prop) (W : World) (hxb : Arr 73 xb [eN s.gD, eN s.gB, eN s.gP, sli b0 0 s.n s.n] W) (hyb : Arr 3 yb [eN d] W) (hzb : Arr 3 zb [eN b] W) (n_xb_yb : xb ≠ yb) (n_xb_zb : xb ≠ zb) (n_yb_zb : yb ≠ zb) (kxb : Kp O w0.heap.size xb) (kyb : Kp O w0.heap.size yb) (kzb : Kp O w0.heap.size zb) (SJ : ∀ pre W W', J pre W → Only No W W' → J pre W') (hy : ∀ pre k, pre ++ [k] <+: List.range s.gP → ∀ W1, J pre W1 → YieldAt Fence.wide 0 Try.prog l #[eN k, ptr b0 (s.ix d b k)] W1 fun e W' => ∃ u, e = .returned u ∧ YR J Jx (Kp O w0.heap.size) (pre ++ [k]) W1 u W') (hJ : J [] W) :
    CW Try.prog 107 #[(Value.func (.yield l) #[] #[]), (ptr xb 0), (ptr yb 0), (ptr zb 0)] W (Rt (fun _ W' => J (List.range s.gP) W' ∨ ∃ pre, pre <+: List.range s.gP ∧ Jx pre W')) := by
 refine enter (al := [(Value.func (.yield l) #[] #[]), (ptr xb 0), (ptr yb 0), (ptr zb 0)]) (k := 18) (l := ([(Value.func (.yield l) #[] #[]), (ptr xb 0), (ptr yb 0), (ptr zb 0)] ++ (us 18))) Try.func107 rfl Try.ntmps107 rfl rfl ?_
 have okp_ := ok.p
 refine wQ (pL ?_)
 refine wI (d_fieldAddr (j := 0) Try.underlying73 rfl s_ti49 (by decide) rfl rfl) ?_
 refine wI (d_fieldAddr (j := 2) Try.underlying49 rfl s_ti3 (by decide) rfl rfl) ?_
 refine wI (d_load (v := (eN s.gP)) ⟨_, Try.underlying3, rfl⟩ rfl hxb rfl) ?_
 refine wI (d_move rfl) ?_
 refine wD (tN (wB ?_))
 refine loop2 (fun (k : (Nat)) => fun (z : Nat → Value) => (([(Value.func (.yield l) #[] #[]), (ptr xb 0), (ptr yb 0), (ptr zb 0), undef, (z 5), (ptr xb 0), (ptr xb 2), (eN s.gP), (eN k)] ++ (zs z 10 12)) : List Value)) (fun (k : (Nat)) => fun (w_ : World) => (k ≤ s.gP) ∧ (J (List.range k) w_) ∧ Arr 73 xb [(eN s.gD), (eN s.gB), (eN s.gP), (sli b0 0 s.n s.n)] w_ ∧ Arr 3 yb [(eN d)] w_ ∧ Arr 3 zb [(eN b)] w_) (fun (k : (Nat)) => s.gP - k) 0 kr ?_ ?_
 ·
  refine ⟨?_, ?_, ?_, ?_, ?_⟩
  ·
   exact Nat.zero_le _
  ·
   exact hJ
  ·
   exact hxb
  ·
   exact hyb
  ·
   exact hzb
 rintro k z w12 ⟨hk, hJ, hxb, hyb, hzb⟩
 (try dsimp only)
 refine wQ (pL ?_)
 refine wI (n_lss (a := k) (b := s.gP) rfl rfl rfl) ?_
 refine wD (tN (wQ ?_))
 refine cond_if rfl (fun c1_ => ?_) (fun c1_ => ?_)
 ·
  refine wK (tN (wQ (wB (wQ (pL ?_)))))
  refine wI (d_move rfl) ?_
  refine wI (d_assign rfl) ?_
  refine wD (tN (wQ (pL ?_)))
  refine wI (d_move rfl) ?_
  refine wI (d_move rfl) ?_
  refine wI (d_loadAg (vs := [(eN s.gD), (eN s.gB), (eN s.gP), (sli b0 0 s.n s.n)]) ⟨_, Try.underlying73, rfl⟩ s_ti73 rfl hxb rfl rfl) ?_
  refine wI (d_load (v := (eN d)) ⟨_, Try.underlying3, rfl⟩ rfl hyb rfl) ?_
  refine wF ([(Value.func (.yield l) #[] #[]), (ptr xb 0), (ptr yb 0), (ptr zb 0), undef, (eN k), (ptr xb 0), (ptr xb 2), (eN s.gP), (eN k), (Value.bool (decide (k < s.gP))), (eN k), (Value.func (.yield l) #[] #[]), (eN k), (Value.agg #[(eN s.gD), (eN s.gB), (eN s.gP), (sli b0 0 s.n s.n)]), (eN d)] ++ (zs z 16 6)) ?_
  refine wI (d_load (v := (eN b)) ⟨_, Try.underlying3, rfl⟩ rfl hzb rfl) ?_
  refine wI (d_move rfl) ?_
  refine wO (d_call (xl := [.tmp 14, .tmp 15, .tmp 16, .tmp 17]) (al := [(Value.agg #[(eN s.gD), (eN s.gB), (eN s.gP), (sli b0 0 s.n s.n)]), (eN d), (eN b), (eN k)]) Try.func81 kr rfl rfl rfl (atD_ok s b0 d b k _ ok (by first | assumption | omega) (by first | assumption | omega) (by first | assumption | omega))) ?_
  rintro _ w13 ⟨rfl, o14⟩
  replace hxb := hxb.step0 o14
  replace hyb := hyb.step0 o14
  replace hzb := hzb.step0 o14
  replace hJ := SJ _ _ _ hJ o14
  refine wO (d_yield (xl := [.tmp 13, .tmp 18]) (al := [(eN k), (ptr b0 (s.ix d b k))]) rfl rfl (hy _ _ (range_pre c1_) _ hJ)) ?_
  rintro _ w15 ⟨t, rfl, hT, hF⟩
  refine wI (d_not rfl rfl) ?_
  refine wD (tN ?_)
  refine forget (fun zf16 => ([(Value.func (.yield l) #[] #[]), (ptr xb 0), (ptr yb 0), (ptr zb 0), undef, (zf16 5), (ptr xb 0), (ptr xb 2), (eN s.gP), (eN k)] ++ (zs zf16 10 10 ++ [(Value.bool (!t)), (zf16 21)]))) kr (fun zf16 => ?_)
  refine cond_b rfl (fun c0_ => ?_) (fun c0_ => ?_)
  ·
   refine wpIn_ret ?_
   refine inb_r (then_r (then_r (inb_r ?_)))
   refine leave0 (v := (Value.tuple #[])) (res0 Try.results107) ?_
   exact .inr ⟨_, range_pre c1_, hF (by simpa using c0_)⟩
  obtain ⟨hJ3, oY⟩ := hT (by simpa using c0_)
  rw [← List.range_succ] at hJ3
  replace hxb := hxb.step oY (fun h => h kxb)
  replace hyb := hyb.step oY (fun h => h kyb)
  replace hzb := hzb.step oY (fun h => h kzb)
  refine wK ?_
  refine inb_n (tN ?_)
  refine pL ?_
  refine wI (n_add (a := k) (b := 1) rfl rfl oo) ?_
  refine wI (d_move rfl) ?_
  refine wD (tN ?_)
  refine ⟨_, (k + 1), rfl, kr, ⟨?_, ?_, ?_, ?_, ?_⟩, ?_⟩
  ·
   (try dsimp only)
   all_goals (omega)
  ·
   exact hJ3
  ·
   exact hxb
  ·
   exact hyb
  ·
   exact hzb
  ·
   (try dsimp only)
   all_goals (omega)
 refine wpIn_exit ?_
 refine then_x (then_x (inb_e ?_))
 refine to_ret ?_
 refine leave0 (v := (Value.tuple #[])) (res0 Try.results107) ?_
 exact .inl (by rw [show k = s.gP by omega] at hJ; exact hJ)
theorem iter_block {O : Nat → Prop} {w0 : World} (s : NS) (ok : s.Ok) (b0 d b : Nat) (hd : d < s.gD) (hb : b < s.gB) (x y z : Nat) (hx : Arr 73 x [eN s.gD, eN s.gB, eN s.gP, sli b0 0 s.n s.n] w0) (hy : Arr 3 y [eN d] w0) (hz : Arr 3 z [eN b] w0) (n_x_y : x ≠ y) (n_x_z : x ≠ z) (n_y_z : y ≠ z) (nx : ¬ O x) (ny : ¬ O y) (nz : ¬ O z) : Iter Try.prog 107 [ptr x 0, ptr y 0, ptr z 0].toArray (fun k => [eN k, ptr b0 (s.ix d b k)].toArray) No (Kp O w0.heap.size) (List.range s.gP) w0 :=
  iter_of (encs := fun k => [eN k, ptr b0 (s.ix d b k)]) fun l J Jx W hO SJ SJx hyy hJ => blockI1_ok s ok b0 d b hd hb x y z l J Jx W (hx.step hO (fun h => h ⟨hx.lt, nx⟩)) (hy.step hO (fun h => h ⟨hy.lt, ny⟩)) (hz.step hO (fun h => h ⟨hz.lt, nz⟩)) n_x_y n_x_z n_y_z ⟨hx.lt, nx⟩ ⟨hy.lt, ny⟩ ⟨hz.lt, nz⟩ SJ hyy hJ
theorem geometry_ok (L : NL) (s : NS) {X : Nat → Prop} (W : World) (hN : Nd L s X W) :
    CW Try.prog 84 #[(ptr L.bN 0)] W (Rt (RIs (.agg #[eN s.gD, eN s.gB, eN s.gP]) W)) := by
 have oW : Only No W W := Only.refl _ _
 refine enter (al := [(ptr L.bN 0)]) (k := 6) (l := ([(ptr L.bN 0)] ++ (us 6))) Try.func84 rfl Try.ntmps84 rfl rfl ?_
 refine wQ (pL ?_)
 refine wO (d_alloc s_ti49 rfl) ?_
 rintro _ w11 ⟨r, rfl, g12, a13, o14⟩
 have g_oW_r : W.heap.size ≤ r := Nat.le_trans oW.size g12
 replace hN := hN.new o14 g12
 replace oW := oW.tail0 o14
 refine wD (tN (wQ (pL ?_)))
 refine wI (d_move rfl) ?_
 refine wI (d_nilCheck (b := L.bN) (o := 0) rfl) ?_
 refine wI (d_fieldAddr (j := 0) Try.underlying81 rfl s_ti49 (by decide) rfl rfl) ?_
 refine wI (nd_ldAg (vs := [(eN s.gD), (eN s.gB), (eN s.gP)]) hN ⟨_, Try.underlying49, rfl⟩ s_ti49 rfl (fun _ => rfl) rfl) ?_
 refine wO (d_storeAg (cs' := [(eN s.gD), (eN s.gB), (eN s.gP)]) s_ti49 rfl rfl rfl (oc_cons rfl (oc_cons rfl (oc_cons rfl oc_nil))) a13 (by decide) rfl) ?_
 rintro _ w15 ⟨a16, o17⟩
 replace hN := hN.stepb o17 in1
 replace oW := oW.tailb o17 g_oW_r
 refine wD (tN ?_)
 refine wpIn_ret ?_
 refine leave0 (v := (Value.agg #[(eN s.gD), (eN s.gB), (eN s.gP)])) (resC Try.results84 ⟨_, Try.underlying49, rfl⟩ s_ti49 rfl a16 rfl) ?_
 exact ⟨rfl, oW⟩
end Go.Proofs.YtgalehapmdabeaaF
