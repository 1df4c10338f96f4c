import Derived.Test.YtgalehapmdabeaaFz
import Derived.Test.YtgalehapmdabeaaTy
import Derived.Test.YtgalehapmdabeaaGf
import Derived.Test.YtgalehapmdabeaaMa
set_option linter.unusedVariables false
set_option linter.unusedSimpArgs false
namespace Go.Proofs.YtgalehapmdabeaaF
open Go Go.Shelf Go.Proofs.YtgalehapmdabeaaS Ram

theorem gfMul_ok (a b : UInt8) (W : World) : CW Try.prog 90 #[eB a, eB b] W (Rt (RIs (eB (gm a b)) W)) :=
  CallsIn.mono (callsIn_wide.2 (mul_calls a.toNat b.toNat a.toNat_lt b.toNat_lt W)) fun e w' h => ⟨_, h.1, by show Value.int _ _ = Value.int _ _; rw [gm_nat], Only.of_below h.2⟩

theorem gmk_out (k a b : Nat) (h : a = 0) : gmk k a b = 0 := by rw [h]; exact gmk_zero k b
theorem gmk_step (k a b : Nat) : gmk (k + 1) a b = (if a % 2 = 1 then b else 0) ^^^ gmk k (a / 2) (xt b) := rfl
theorem and1 (a : Nat) : a &&& 1 = a % 2 := Nat.and_one_is_mod a
theorem xor_lt9 {a b : Nat} (ha : a < 256) (hb : b < 256) : a ^^^ b < 256 := Nat.xor_lt_two_pow (n := 8) ha hb
theorem xt_big {x : Nat} (h : 255 < x * 2) (hx : x < 256) : (x * 2) ^^^ 285 = xt x := by
  unfold xt; rw [if_neg (by omega), Nat.mul_comm]
theorem xt_small {x : Nat} (h : ¬ 255 < x * 2) : x * 2 = xt x := by
  unfold xt; rw [if_pos (by omega)]; omega
theorem ref2_step {a b g y x p : Nat} (hg : y < 2 ^ g) (h : p ^^^ gmk g y x = gmul a b) (h0 : 0 < y) : ∃ g', g = g' + 1 ∧ y / 2 < 2 ^ g' ∧ (p ^^^ (if y % 2 = 1 then x else 0)) ^^^ gmk g' (y / 2) (xt x) = gmul a b := by
  cases g with
  | zero => simp at hg; omega
  | succ g => exact ⟨g, rfl, by omega, by rw [← h, gmk_step, Nat.xor_assoc]⟩
set_option maxRecDepth 20000 in
set_option maxHeartbeats 1000000 in
theorem ref2Mul_ok (a b : UInt8) (W : World) :
    CW Try.prog 112 #[(eB a), (eB b)] W (Rt (RIs (eB (gm a b)) W)) := by
 have oW : Only No W W := Only.refl _ _
 refine enter (al := [(eB a), (eB b)]) (k := 28) (l := ([(eB a), (eB b)] ++ (us 28))) Try.func112 rfl Try.ntmps112 rfl rfl ?_
 refine wpIn_seq ?_
 refine plain ?_
 refine wI (d_assign rfl) ?_
 refine wF ([(eB a), (eB b), undef, undef, (eB 0)] ++ (us 25)) ?_
 refine wpL.done ?_
 refine then_n ?_
 refine wpIn_seq ?_
 refine plain ?_
 refine wI (d_move rfl) ?_
 refine wI (n_ofB Try.underlying5 Try.underlying3 rfl) ?_
 refine wI (d_move rfl) ?_
 refine wF ([(eB a), (eB b), undef, undef, (eB 0), undef, undef, undef, (eB a), (eN a.toNat), (eB b)] ++ (us 19)) ?_
 refine wI (n_ofB Try.underlying5 Try.underlying3 rfl) ?_
 refine wI (d_assign rfl) ?_
 refine wI (d_assign rfl) ?_
 refine wF ([(eB a), (eB b), undef, undef, (eB 0), (eN a.toNat), (eN b.toNat), undef, (eB a), (eN a.toNat), (eB b), (eN b.toNat)] ++ (us 18)) ?_
 refine wI (d_assign rfl) ?_
 refine wF ([(eB a), (eB b), undef, undef, (eB 0), (eN a.toNat), (eN b.toNat), (eN 0), (eB a), (eN a.toNat), (eB b), (eN b.toNat)] ++ (us 18)) ?_
 refine wpL.done ?_
 refine then_n ?_
 refine wpIn_seq ?_
 refine wpIn_block ?_
 refine loop2 (fun (s_ : (Nat) × (Nat) × (Nat) × (Nat)) => match s_ with | ⟨g, x, y, p⟩ => fun (z : Nat → Value) => (([(eB a), (eB b), undef, undef, (eB 0), (eN x), (eN y), (eN p), (eB a), (eN a.toNat), (eB b), (eN b.toNat)] ++ (zs z 12 16 ++ [undef, undef])) : List Value)) (fun (s_ : (Nat) × (Nat) × (Nat) × (Nat)) => match s_ with | ⟨g, x, y, p⟩ => fun (w_ : World) => (y < 2 ^ g) ∧ (y < 256) ∧ (x < 256) ∧ (p < 256) ∧ (p ^^^ gmk g y x = gmul b.toNat a.toNat) ∧ Only No W w_) (fun (s_ : (Nat) × (Nat) × (Nat) × (Nat)) => match s_ with | ⟨g, x, y, p⟩ => y) ⟨8, a.toNat, b.toNat, 0⟩ rfl ?_ ?_
 ·
  refine ⟨?_, ?_, ?_, ?_, ?_, ?_⟩
  ·
   exact b.toNat_lt
  ·
   exact b.toNat_lt
  ·
   exact a.toNat_lt
  ·
   (try dsimp only)
   all_goals (decide)
  ·
   exact Nat.zero_xor _
  ·
   exact Only.refl _ _
 rintro ⟨g, x, y, p⟩ z w12 ⟨hg, hy, hx, hp, hI, o11⟩
 (try dsimp only)
 replace oW := oW.tail o11 tl_no
 refine wpIn_seq ?_
 refine wpIn_seq ?_
 refine plain ?_
 refine wI (d_move rfl) ?_
 refine wI (n_gtr (a := y) (b := 0) rfl rfl rfl) ?_
 refine wF ([(eB a), (eB b), undef, undef, (eB 0), (eN x), (eN y), (eN p), (eB a), (eN a.toNat), (eB b), (eN b.toNat), (eN y), (Value.bool (decide (0 < y)))] ++ (zs z 14 14 ++ [undef, undef])) ?_
 refine wpL.done ?_
 refine then_n ?_
 refine cond_if rfl (fun c0 => ?_) (fun c0 => ?_)
 ·
  refine wpIn_skip ?_
  refine then_n ?_
  refine wpIn_block ?_
  refine wpIn_seq ?_
  refine wpIn_seq ?_
  refine plain ?_
  refine wI (d_move rfl) ?_
  refine wI (n_and (a := y) (b := 1) rfl rfl (by have := b.toNat_lt; omega) (by decide)) ?_
  refine wI (n_eql (a := (y &&& 1)) (b := 1) rfl rfl rfl) ?_
  refine wF ([(eB a), (eB b), undef, undef, (eB 0), (eN x), (eN y), (eN p), (eB a), (eN a.toNat), (eB b), (eN b.toNat), (eN y), (Value.bool (decide (0 < y))), (eN y), (eN (y &&& 1)), (Value.bool (decide ((y &&& 1) = 1)))] ++ (zs z 17 11 ++ [undef, undef])) ?_
  refine wpL.done ?_
  refine then_n ?_
  refine cond_if rfl (fun k1 => ?_) (fun k1 => ?_)
  ·
   refine plain ?_
   refine wI (d_move rfl) ?_
   refine wI (d_move rfl) ?_
   refine wI (n_xor (a := p) (b := x) rfl rfl (by omega) (by omega)) ?_
   refine wF ([(eB a), (eB b), undef, undef, (eB 0), (eN x), (eN y), (eN p), (eB a), (eN a.toNat), (eB b), (eN b.toNat), (eN y), (Value.bool (decide (0 < y))), (eN y), (eN (y &&& 1)), (Value.bool (decide ((y &&& 1) = 1))), (eN p), (eN x), (eN (p ^^^ x))] ++ (zs z 20 8 ++ [undef, undef])) ?_
   refine wI (d_assign rfl) ?_
   refine wF ([(eB a), (eB b), undef, undef, (eB 0), (eN x), (eN y), (eN (p ^^^ x)), (eB a), (eN a.toNat), (eB b), (eN b.toNat), (eN y), (Value.bool (decide (0 < y))), (eN y), (eN (y &&& 1)), (Value.bool (decide ((y &&& 1) = 1))), (eN p), (eN x), (eN (p ^^^ x))] ++ (zs z 20 8 ++ [undef, undef])) ?_
   refine wpL.done ?_
   refine then_n ?_
   refine forget (fun zf13 => ([(eB a), (eB b), undef, undef, (eB 0), (eN x), (eN y), (eN (p ^^^ x)), (eB a), (eN a.toNat), (eB b), (eN b.toNat)] ++ (zs zf13 12 16 ++ [undef, undef]))) (by kernel_rfl) (fun zf13 => ?_)
   refine wpIn_seq ?_
   refine plain ?_
   refine wI (d_move rfl) ?_
   refine wI (n_shl (a := x) (b := 1) (c := 2) rfl rfl (by decide) (by rfl) (by omega)) ?_
   refine wI (d_assign rfl) ?_
   refine wF ([(eB a), (eB b), undef, undef, (eB 0), (eN (x * 2)), (eN y), (eN (p ^^^ x)), (eB a), (eN a.toNat), (eB b), (eN b.toNat)] ++ (zs zf13 12 8 ++ [(eN x), (eN (x * 2))] ++ (zs zf13 22 6 ++ [undef, undef]))) ?_
   refine wpL.done ?_
   refine then_n ?_
   refine wpIn_seq ?_
   refine wpIn_seq ?_
   refine plain ?_
   refine wI (d_move rfl) ?_
   refine wI (n_gtr (a := (x * 2)) (b := 255) rfl rfl rfl) ?_
   refine wF ([(eB a), (eB b), undef, undef, (eB 0), (eN (x * 2)), (eN y), (eN (p ^^^ x)), (eB a), (eN a.toNat), (eB b), (eN b.toNat)] ++ (zs zf13 12 8 ++ [(eN x), (eN (x * 2)), (eN (x * 2)), (Value.bool (decide (255 < (x * 2)))), (zf13 24), (zf13 25), (zf13 26), (zf13 27), undef, undef])) ?_
   refine wpL.done ?_
   refine then_n ?_
   refine cond_if rfl (fun k2 => ?_) (fun k2 => ?_)
   ·
    refine plain ?_
    refine wI (d_move rfl) ?_
    refine wI (n_xor (a := (x * 2)) (b := 285) rfl rfl (by omega) (by decide)) ?_
    refine wI (d_assign rfl) ?_
    refine wF ([(eB a), (eB b), undef, undef, (eB 0), (eN ((x * 2) ^^^ 285)), (eN y), (eN (p ^^^ x)), (eB a), (eN a.toNat), (eB b), (eN b.toNat)] ++ (zs zf13 12 8 ++ [(eN x), (eN (x * 2)), (eN (x * 2)), (Value.bool (decide (255 < (x * 2)))), (eN (x * 2)), (eN ((x * 2) ^^^ 285)), (zf13 26), (zf13 27), undef, undef])) ?_
    refine wpL.done ?_
    refine then_n ?_
    refine plain ?_
    refine wI (d_move rfl) ?_
    refine wI (n_shr (a := y) (b := 1) (c := 2) rfl rfl (by decide) (by rfl)) ?_
    refine wI (d_assign rfl) ?_
    refine wF ([(eB a), (eB b), undef, undef, (eB 0), (eN ((x * 2) ^^^ 285)), (eN (y / 2)), (eN (p ^^^ x)), (eB a), (eN a.toNat), (eB b), (eN b.toNat)] ++ (zs zf13 12 8 ++ [(eN x), (eN (x * 2)), (eN (x * 2)), (Value.bool (decide (255 < (x * 2)))), (eN (x * 2)), (eN ((x * 2) ^^^ 285)), (eN y), (eN (y / 2)), undef, undef])) ?_
    refine wpL.done ?_
    refine inb_n (then_n ?_)
    obtain ⟨g', rfl, hg', hI'⟩ := ref2_step hg hI c0
    have ex_ := xt_big k2 hx
    rw [and1] at k1
    rw [if_pos k1, ← ex_] at hI'
    refine ⟨_, ⟨g', (x * 2) ^^^ 285, y / 2, p ^^^ x⟩, rfl, rfl, ⟨?_, ?_, ?_, ?_, ?_, ?_⟩, ?_⟩
    ·
     exact hg'
    ·
     (try dsimp only)
     all_goals (omega)
    ·
     (try dsimp only)
     all_goals (rw [ex_]; exact xt_lt hx)
    ·
     exact xor_lt9 hp hx
    ·
     exact hI'
    ·
     exact o11
    ·
     (try dsimp only)
     all_goals (omega)
   refine wpIn_skip ?_
   refine then_n ?_
   refine plain ?_
   refine wI (d_move rfl) ?_
   refine wI (n_shr (a := y) (b := 1) (c := 2) rfl rfl (by decide) (by rfl)) ?_
   refine wI (d_assign rfl) ?_
   refine wF ([(eB a), (eB b), undef, undef, (eB 0), (eN (x * 2)), (eN (y / 2)), (eN (p ^^^ x)), (eB a), (eN a.toNat), (eB b), (eN b.toNat)] ++ (zs zf13 12 8 ++ [(eN x), (eN (x * 2)), (eN (x * 2)), (Value.bool (decide (255 < (x * 2)))), (zf13 24), (zf13 25), (eN y), (eN (y / 2)), undef, undef])) ?_
   refine wpL.done ?_
   refine inb_n (then_n ?_)
   obtain ⟨g', rfl, hg', hI'⟩ := ref2_step hg hI c0
   have ex_ := xt_small k2
   rw [and1] at k1
   rw [if_pos k1, ← ex_] at hI'
   refine ⟨_, ⟨g', x * 2, y / 2, p ^^^ x⟩, rfl, rfl, ⟨?_, ?_, ?_, ?_, ?_, ?_⟩, ?_⟩
   ·
    exact hg'
   ·
    (try dsimp only)
    all_goals (omega)
   ·
    (try dsimp only)
    all_goals (rw [ex_]; exact xt_lt hx)
   ·
    exact xor_lt9 hp hx
   ·
    exact hI'
   ·
    exact o11
   ·
    (try dsimp only)
    all_goals (omega)
  refine wpIn_skip ?_
  refine then_n ?_
  refine wpIn_seq ?_
  refine plain ?_
  refine wI (d_move rfl) ?_
  refine wI (n_shl (a := x) (b := 1) (c := 2) rfl rfl (by decide) (by rfl) (by omega)) ?_
  refine wI (d_assign rfl) ?_
  refine wF ([(eB a), (eB b), undef, undef, (eB 0), (eN (x * 2)), (eN y), (eN p), (eB a), (eN a.toNat), (eB b), (eN b.toNat), (eN y), (Value.bool (decide (0 < y))), (eN y), (eN (y &&& 1)), (Value.bool (decide ((y &&& 1) = 1))), (z 17), (z 18), (z 19), (eN x), (eN (x * 2))] ++ (zs z 22 6 ++ [undef, undef])) ?_
  refine wpL.done ?_
  refine then_n ?_
  refine wpIn_seq ?_
  refine wpIn_seq ?_
  refine plain ?_
  refine wI (d_move rfl) ?_
  refine wI (n_gtr (a := (x * 2)) (b := 255) rfl rfl rfl) ?_
  refine wF [(eB a), (eB b), undef, undef, (eB 0), (eN (x * 2)), (eN y), (eN p), (eB a), (eN a.toNat), (eB b), (eN b.toNat), (eN y), (Value.bool (decide (0 < y))), (eN y), (eN (y &&& 1)), (Value.bool (decide ((y &&& 1) = 1))), (z 17), (z 18), (z 19), (eN x), (eN (x * 2)), (eN (x * 2)), (Value.bool (decide (255 < (x * 2)))), (z 24), (z 25), (z 26), (z 27), undef, undef] ?_
  refine wpL.done ?_
  refine then_n ?_
  refine forget (fun zf14 => ([(eB a), (eB b), undef, undef, (eB 0), (eN (x * 2)), (eN y), (eN p), (eB a), (eN a.toNat), (eB b), (eN b.toNat)] ++ (zs zf14 12 11 ++ [(Value.bool (decide (255 < (x * 2)))), (zf14 24), (zf14 25), (zf14 26), (zf14 27), undef, undef]))) (by kernel_rfl) (fun zf14 => ?_)
  refine cond_if rfl (fun k2 => ?_) (fun k2 => ?_)
  ·
   refine plain ?_
   refine wI (d_move rfl) ?_
   refine wI (n_xor (a := (x * 2)) (b := 285) rfl rfl (by omega) (by decide)) ?_
   refine wI (d_assign rfl) ?_
   refine wF ([(eB a), (eB b), undef, undef, (eB 0), (eN ((x * 2) ^^^ 285)), (eN y), (eN p), (eB a), (eN a.toNat), (eB b), (eN b.toNat)] ++ (zs zf14 12 11 ++ [(Value.bool (decide (255 < (x * 2)))), (eN (x * 2)), (eN ((x * 2) ^^^ 285)), (zf14 26), (zf14 27), undef, undef])) ?_
   refine wpL.done ?_
   refine then_n ?_
   refine plain ?_
   refine wI (d_move rfl) ?_
   refine wI (n_shr (a := y) (b := 1) (c := 2) rfl rfl (by decide) (by rfl)) ?_
   refine wI (d_assign rfl) ?_
   refine wF ([(eB a), (eB b), undef, undef, (eB 0), (eN ((x * 2) ^^^ 285)), (eN (y / 2)), (eN p), (eB a), (eN a.toNat), (eB b), (eN b.toNat)] ++ (zs zf14 12 11 ++ [(Value.bool (decide (255 < (x * 2)))), (eN (x * 2)), (eN ((x * 2) ^^^ 285)), (eN y), (eN (y / 2)), undef, undef])) ?_
   refine wpL.done ?_
   refine inb_n (then_n ?_)
   obtain ⟨g', rfl, hg', hI'⟩ := ref2_step hg hI c0
   have ex_ := xt_big k2 hx
   rw [and1] at k1
   rw [if_neg k1, Nat.xor_zero, ← ex_] at hI'
   refine ⟨_, ⟨g', (x * 2) ^^^ 285, y / 2, p⟩, rfl, rfl, ⟨?_, ?_, ?_, ?_, ?_, ?_⟩, ?_⟩
   ·
    exact hg'
   ·
    (try dsimp only)
    all_goals (omega)
   ·
    (try dsimp only)
    all_goals (rw [ex_]; exact xt_lt hx)
   ·
    exact hp
   ·
    exact hI'
   ·
    exact o11
   ·
    (try dsimp only)
    all_goals (omega)
  refine wpIn_skip ?_
  refine then_n ?_
  refine plain ?_
  refine wI (d_move rfl) ?_
  refine wI (n_shr (a := y) (b := 1) (c := 2) rfl rfl (by decide) (by rfl)) ?_
  refine wI (d_assign rfl) ?_
  refine wF ([(eB a), (eB b), undef, undef, (eB 0), (eN (x * 2)), (eN (y / 2)), (eN p), (eB a), (eN a.toNat), (eB b), (eN b.toNat)] ++ (zs zf14 12 11 ++ [(Value.bool (decide (255 < (x * 2)))), (zf14 24), (zf14 25), (eN y), (eN (y / 2)), undef, undef])) ?_
  refine wpL.done ?_
  refine inb_n (then_n ?_)
  obtain ⟨g', rfl, hg', hI'⟩ := ref2_step hg hI c0
  have ex_ := xt_small k2
  rw [and1] at k1
  rw [if_neg k1, Nat.xor_zero, ← ex_] at hI'
  refine ⟨_, ⟨g', x * 2, y / 2, p⟩, rfl, rfl, ⟨?_, ?_, ?_, ?_, ?_, ?_⟩, ?_⟩
  ·
   exact hg'
  ·
   (try dsimp only)
   all_goals (omega)
  ·
   (try dsimp only)
   all_goals (rw [ex_]; exact xt_lt hx)
  ·
   exact hp
  ·
   exact hI'
  ·
   exact o11
  ·
   (try dsimp only)
   all_goals (omega)
 refine wpIn_exit ?_
 refine then_x (then_x (inb_e ?_))
 refine then_n ?_
 refine forget (fun zf15 => (zs zf15 0 5 ++ [(eN x), (eN y), (eN p)] ++ (zs zf15 8 22))) (by kernel_rfl) (fun zf15 => ?_)
 refine wpIn_seq ?_
 refine plain ?_
 refine wI (d_move rfl) ?_
 refine wI (b_ofN Try.underlying3 Try.underlying5 rfl) ?_
 refine wI (d_assign rfl) ?_
 refine wF ([(zf15 0), (zf15 1), (zf15 2), (zf15 3), (eB (UInt8.ofNat p)), (eN x), (eN y), (eN p)] ++ (zs zf15 8 20 ++ [(eN p), (eB (UInt8.ofNat p))])) ?_
 refine wpL.done ?_
 refine then_n ?_
 refine wpIn_ret ?_
 refine leave0 (v := (eB (UInt8.ofNat p))) (res1 Try.results112 rfl) ?_
 have y0 : y = 0 := by omega
 subst y0
 rw [gmk_zero, Nat.xor_zero] at hI
 exact ⟨congrArg eB (by rw [hI, gmul_comm b.toNat_lt a.toNat_lt]; rfl), oW⟩


theorem tm255 (n : Int) : -255 < Int.tmod n 255 ∧ Int.tmod n 255 < 255 := by
  have h1 := Int.tmod_lt_of_pos n (show (0 : Int) < 255 by decide)
  have h2 := Int.tmod_lt_of_pos (-n) (show (0 : Int) < 255 by decide)
  rw [Int.neg_tmod] at h2
  omega
theorem tm_mod (n : Int) : Int.tmod n 255 = n % 255 ∨ Int.tmod n 255 = n % 255 - 255 ∧ 0 < n % 255 := by
  by_cases h : 0 ≤ n
  · left; exact Int.tmod_eq_emod_of_nonneg h
  · have h2 : Int.tmod n 255 = -((-n) % 255) := by
      conv => lhs; rw [← Int.neg_neg n, Int.neg_tmod, Int.tmod_eq_emod_of_nonneg (by omega)]
    omega
theorem pm255 (n : Int) : Int.tmod (Int.tmod n 255 + 255) 255 = ((n % 255).toNat : Int) := by
  have h1 := tm255 n
  have h2 := tm_mod n
  have h3 := Int.emod_nonneg n (show (255 : Int) ≠ 0 by decide)
  have h4 := Int.emod_lt_of_pos n (show (0 : Int) < 255 by decide)
  rw [Int.tmod_eq_emod_of_nonneg (by omega)]
  omega
theorem toNat255 (n : Int) : (n % 255).toNat < 255 := by
  have h3 := Int.emod_nonneg n (show (255 : Int) ≠ 0 by decide)
  have h4 := Int.emod_lt_of_pos n (show (0 : Int) < 255 by decide)
  omega
theorem gpB_even (a : UInt8) {k : Nat} (h : ¬ k % 2 = 1) : gpB a k = gpB (gm a a) (k / 2) := by rw [gpB_sq]; congr 1; omega
theorem gpB_odd (a : UInt8) {k : Nat} (h : k % 2 = 1) : gpB a k = gm a (gpB (gm a a) (k / 2)) := by
  rw [gpB_sq]
  have : k = 1 + 2 * (k / 2) := by omega
  conv => lhs; rw [this, gpB_add, gpB_one]
set_option maxRecDepth 20000 in
set_option maxHeartbeats 1000000 in
theorem gfPow_ok (a : UInt8) (n : Int) (W : World) :
    CW Try.prog 99 #[(eB a), (eI n)] W (Rt (RIs (eB (powB a n)) W)) := by
 have oW : Only No W W := Only.refl _ _
 refine enter (al := [(eB a), (eI n)]) (k := 27) (l := ([(eB a), (eI n)] ++ (us 27))) Try.func99 rfl Try.ntmps99 rfl rfl ?_
 refine wpIn_seq ?_
 refine plain ?_
 refine wI (d_assign rfl) ?_
 refine wF ([(eB a), (eI n), undef, undef, (eB 0)] ++ (us 24)) ?_
 refine wpL.done ?_
 refine then_n ?_
 refine wpIn_seq ?_
 refine wpIn_seq ?_
 refine plain ?_
 refine wI (d_move rfl) ?_
 refine wI (b_eql (c := a) (e := 0) rfl rfl rfl) ?_
 refine wF ([(eB a), (eI n), undef, undef, (eB 0), undef, undef, (eB a), (Value.bool (decide ((a : UInt8) = (0 : UInt8))))] ++ (us 20)) ?_
 refine wpL.done ?_
 refine then_n ?_
 refine cond_if rfl (fun z0 => ?_) (fun z0 => ?_)
 ·
  refine wpIn_seq ?_
  refine wpIn_seq ?_
  refine plain ?_
  refine wI (d_move rfl) ?_
  refine wI (d_eql (k := .i64) (m := n) (n := 0) rfl rfl rfl) ?_
  refine wF ([(eB a), (eI n), undef, undef, (eB 0), undef, undef, (eB a), (Value.bool (decide ((a : UInt8) = (0 : UInt8)))), (eI n), (Value.bool (decide (n = 0)))] ++ (us 18)) ?_
  refine wpL.done ?_
  refine then_n ?_
  refine cond_if rfl (fun z1 => ?_) (fun z1 => ?_)
  ·
   refine wpIn_seq ?_
   refine plain ?_
   refine wI (d_assign rfl) ?_
   refine wF ([(eB a), (eI n), undef, undef, (eB 1), undef, undef, (eB a), (Value.bool (decide ((a : UInt8) = (0 : UInt8)))), (eI n), (Value.bool (decide (n = 0)))] ++ (us 18)) ?_
   refine wpL.done ?_
   refine then_n ?_
   refine wpIn_ret ?_
   refine then_r (then_r ?_)
   refine leave0 (v := (eB 1)) (res1 Try.results99 rfl) ?_
   exact ⟨by subst z0; subst z1; rfl, oW⟩
  refine wpIn_skip ?_
  refine then_n ?_
  refine wpIn_seq ?_
  refine plain ?_
  refine wI (d_assign rfl) ?_
  refine wF ([(eB a), (eI n), undef, undef, (eB 0), undef, undef, (eB a), (Value.bool (decide ((a : UInt8) = (0 : UInt8)))), (eI n), (Value.bool (decide (n = 0)))] ++ (us 18)) ?_
  refine wpL.done ?_
  refine then_n ?_
  refine wpIn_ret ?_
  refine then_r ?_
  refine leave0 (v := (eB 0)) (res1 Try.results99 rfl) ?_
  exact ⟨by subst z0; rw [powB_zero, if_neg z1], oW⟩
 refine wpIn_skip ?_
 refine then_n ?_
 refine wpIn_seq ?_
 refine plain ?_
 refine wI (d_assign rfl) ?_
 refine wF ([(eB a), (eI n), undef, undef, (eB 0), (eB 1), undef, (eB a), (Value.bool (decide ((a : UInt8) = (0 : UInt8))))] ++ (us 20)) ?_
 refine wpL.done ?_
 refine then_n ?_
 refine wpIn_seq ?_
 refine wpIn_seq ?_
 refine plain ?_
 refine wI (d_move rfl) ?_
 refine wI (d_rem (k := .i64) (m := n) (n := 255) rfl rfl (by decide) rfl) ?_
 refine wI (d_add (k := .i64) (m := Int.tmod n 255) (n := 255) rfl rfl (r := Int.tmod n 255 + 255) (IntWalk.i64_in _ (by have := tm255 n; omega))) ?_
 refine wF ([(eB a), (eI n), undef, undef, (eB 0), (eB 1), undef, (eB a), (Value.bool (decide ((a : UInt8) = (0 : UInt8)))), undef, undef, (eI n), (eI (Int.tmod n 255)), (eI (Int.tmod n 255 + 255))] ++ (us 15)) ?_
 refine wI (d_rem (k := .i64) (m := Int.tmod n 255 + 255) (n := 255) rfl rfl (by decide) (r := (((n % 255).toNat : Nat) : Int)) (pm255 n)) ?_
 refine wI (d_assign rfl) ?_
 refine wF ([(eB a), (eI n), undef, undef, (eB 0), (eB 1), (eN ((n % 255).toNat)), (eB a), (Value.bool (decide ((a : UInt8) = (0 : UInt8)))), undef, undef, (eI n), (eI (Int.tmod n 255)), (eI (Int.tmod n 255 + 255)), (eN ((n % 255).toNat))] ++ (us 14)) ?_
 refine wpL.done ?_
 refine then_n ?_
 refine forget (fun zf11 => ([(eB a), (zf11 1), (zf11 2), (zf11 3), (zf11 4), (eB 1), (eN ((n % 255).toNat))] ++ (zs zf11 7 22))) (by kernel_rfl) (fun zf11 => ?_)
 refine wpIn_block ?_
 refine loop2 (fun (s_ : (Nat) × (UInt8) × (UInt8)) => match s_ with | ⟨k, o, b⟩ => fun (z : Nat → Value) => (([(eB b), (zf11 1), (zf11 2), (zf11 3), (zf11 4), (eB o), (eN k)] ++ (zs zf11 7 8 ++ (zs z 15 13 ++ [(zf11 28)]))) : List Value)) (fun (s_ : (Nat) × (UInt8) × (UInt8)) => match s_ with | ⟨k, o, b⟩ => fun (w_ : World) => (k < 255) ∧ (gm o (gpB b k) = gm 1 (gpB a (n % 255).toNat)) ∧ Only No W w_) (fun (s_ : (Nat) × (UInt8) × (UInt8)) => match s_ with | ⟨k, o, b⟩ => k) ⟨(n % 255).toNat, 1, a⟩ rfl ?_ ?_
 ·
  refine ⟨?_, ?_, ?_⟩
  ·
   exact toNat255 n
  ·
   exact rfl
  ·
   exact Only.refl _ _
 rintro ⟨k, o, b⟩ z w13 ⟨hk, hI, o12⟩
 (try dsimp only)
 replace oW := oW.tail o12 tl_no
 refine wpIn_seq ?_
 refine wpIn_seq ?_
 refine plain ?_
 refine wI (d_move rfl) ?_
 refine wI (n_gtr (a := k) (b := 0) rfl rfl rfl) ?_
 refine wF ([(eB b), (zf11 1), (zf11 2), (zf11 3), (zf11 4), (eB o), (eN k)] ++ (zs zf11 7 8 ++ [(eN k), (Value.bool (decide (0 < k)))] ++ (zs z 17 11 ++ [(zf11 28)]))) ?_
 refine wpL.done ?_
 refine then_n ?_
 refine cond_if rfl (fun c0 => ?_) (fun c0 => ?_)
 ·
  refine wpIn_skip ?_
  refine then_n ?_
  refine wpIn_seq ?_
  refine wpIn_block ?_
  refine wpIn_seq ?_
  refine wpIn_seq ?_
  refine plain ?_
  refine wI (d_move rfl) ?_
  refine wI (n_and (a := k) (b := 1) rfl rfl (by omega) (by decide)) ?_
  refine wI (n_eql (a := (k &&& 1)) (b := 1) rfl rfl rfl) ?_
  refine wF ([(eB b), (zf11 1), (zf11 2), (zf11 3), (zf11 4), (eB o), (eN k)] ++ (zs zf11 7 8 ++ [(eN k), (Value.bool (decide (0 < k))), (z 17), (z 18), (eN k), (eN (k &&& 1)), (Value.bool (decide ((k &&& 1) = 1)))] ++ (zs z 22 6 ++ [(zf11 28)]))) ?_
  refine wpL.done ?_
  refine then_n ?_
  refine cond_if rfl (fun k1 => ?_) (fun k1 => ?_)
  ·
   refine plain ?_
   refine wI (d_move rfl) ?_
   refine wI (d_move rfl) ?_
   refine wO (d_call (xl := [.tmp 22, .tmp 23]) (al := [(eB o), (eB b)]) Try.func90 (by kernel_rfl) rfl rfl rfl (gfMul_ok o b _)) ?_
   rintro _ w14 ⟨rfl, o15⟩
   replace oW := oW.tail0 o15
   replace o12 := o12.tail0 o15
   refine wF ([(eB b), (zf11 1), (zf11 2), (zf11 3), (zf11 4), (eB o), (eN k)] ++ (zs zf11 7 8 ++ [(eN k), (Value.bool (decide (0 < k))), (z 17), (z 18), (eN k), (eN (k &&& 1)), (Value.bool (decide ((k &&& 1) = 1))), (eB o), (eB b), (eB (gm o b)), (z 25), (z 26), (z 27), (zf11 28)])) ?_
   refine wI (d_assign rfl) ?_
   refine wF ([(eB b), (zf11 1), (zf11 2), (zf11 3), (zf11 4), (eB (gm o b)), (eN k)] ++ (zs zf11 7 8 ++ [(eN k), (Value.bool (decide (0 < k))), (z 17), (z 18), (eN k), (eN (k &&& 1)), (Value.bool (decide ((k &&& 1) = 1))), (eB o), (eB b), (eB (gm o b)), (z 25), (z 26), (z 27), (zf11 28)])) ?_
   refine wpL.done ?_
   refine then_n ?_
   refine forget (fun zf16 => ([(eB b), (zf11 1), (zf11 2), (zf11 3), (zf11 4), (eB (gm o b)), (eN k)] ++ (zs zf11 7 8 ++ (zs zf16 15 13 ++ [(zf11 28)])))) (by kernel_rfl) (fun zf16 => ?_)
   refine plain ?_
   refine wI (d_move rfl) ?_
   refine wI (d_move rfl) ?_
   refine wO (d_call (xl := [.tmp 25, .tmp 26]) (al := [(eB b), (eB b)]) Try.func90 (by kernel_rfl) rfl rfl rfl (gfMul_ok b b _)) ?_
   rintro _ w17 ⟨rfl, o18⟩
   replace oW := oW.tail0 o18
   replace o12 := o12.tail0 o18
   refine wF ([(eB b), (zf11 1), (zf11 2), (zf11 3), (zf11 4), (eB (gm o b)), (eN k)] ++ (zs zf11 7 8 ++ (zs zf16 15 10 ++ [(eB b), (eB b), (eB (gm b b)), (zf11 28)]))) ?_
   refine wI (d_assign rfl) ?_
   refine wF ([(eB (gm b b)), (zf11 1), (zf11 2), (zf11 3), (zf11 4), (eB (gm o b)), (eN k)] ++ (zs zf11 7 8 ++ (zs zf16 15 10 ++ [(eB b), (eB b), (eB (gm b b)), (zf11 28)]))) ?_
   refine wpL.done ?_
   refine inb_n (then_n ?_)
   refine plain ?_
   refine wI (d_move rfl) ?_
   refine wI (n_shr (a := k) (b := 1) (c := 2) rfl rfl (by decide) (by rfl)) ?_
   refine wI (d_assign rfl) ?_
   refine wF ([(eB (gm b b)), (zf11 1), (zf11 2), (zf11 3), (zf11 4), (eB (gm o b)), (eN (k / 2))] ++ (zs zf11 7 8 ++ [(zf16 15), (zf16 16), (eN k), (eN (k / 2))] ++ (zs zf16 19 6 ++ [(eB b), (eB b), (eB (gm b b)), (zf11 28)]))) ?_
   refine wpL.done ?_
   refine then_n ?_
   rw [and1] at k1
   refine ⟨_, ⟨k / 2, gm o b, gm b b⟩, rfl, rfl, ⟨?_, ?_, ?_⟩, ?_⟩
   ·
    (try dsimp only)
    all_goals (omega)
   ·
    (try dsimp only)
    all_goals (rw [← hI, gpB_odd b k1, gm_assoc])
   ·
    exact o12
   ·
    (try dsimp only)
    all_goals (omega)
  refine wpIn_skip ?_
  refine then_n ?_
  refine plain ?_
  refine wI (d_move rfl) ?_
  refine wI (d_move rfl) ?_
  refine wO (d_call (xl := [.tmp 25, .tmp 26]) (al := [(eB b), (eB b)]) Try.func90 (by kernel_rfl) rfl rfl rfl (gfMul_ok b b _)) ?_
  rintro _ w19 ⟨rfl, o20⟩
  replace oW := oW.tail0 o20
  replace o12 := o12.tail0 o20
  refine wF ([(eB b), (zf11 1), (zf11 2), (zf11 3), (zf11 4), (eB o), (eN k)] ++ (zs zf11 7 8 ++ [(eN k), (Value.bool (decide (0 < k))), (z 17), (z 18), (eN k), (eN (k &&& 1)), (Value.bool (decide ((k &&& 1) = 1))), (z 22), (z 23), (z 24), (eB b), (eB b), (eB (gm b b)), (zf11 28)])) ?_
  refine wI (d_assign rfl) ?_
  refine wF ([(eB (gm b b)), (zf11 1), (zf11 2), (zf11 3), (zf11 4), (eB o), (eN k)] ++ (zs zf11 7 8 ++ [(eN k), (Value.bool (decide (0 < k))), (z 17), (z 18), (eN k), (eN (k &&& 1)), (Value.bool (decide ((k &&& 1) = 1))), (z 22), (z 23), (z 24), (eB b), (eB b), (eB (gm b b)), (zf11 28)])) ?_
  refine wpL.done ?_
  refine inb_n (then_n ?_)
  refine forget (fun zf21 => ([(eB (gm b b)), (zf11 1), (zf11 2), (zf11 3), (zf11 4), (eB o), (eN k)] ++ (zs zf11 7 8 ++ (zs zf21 15 13 ++ [(zf11 28)])))) (by kernel_rfl) (fun zf21 => ?_)
  refine plain ?_
  refine wI (d_move rfl) ?_
  refine wI (n_shr (a := k) (b := 1) (c := 2) rfl rfl (by decide) (by rfl)) ?_
  refine wI (d_assign rfl) ?_
  refine wF ([(eB (gm b b)), (zf11 1), (zf11 2), (zf11 3), (zf11 4), (eB o), (eN (k / 2))] ++ (zs zf11 7 8 ++ [(zf21 15), (zf21 16), (eN k), (eN (k / 2))] ++ (zs zf21 19 9 ++ [(zf11 28)]))) ?_
  refine wpL.done ?_
  refine then_n ?_
  rw [and1] at k1
  refine ⟨_, ⟨k / 2, o, gm b b⟩, rfl, rfl, ⟨?_, ?_, ?_⟩, ?_⟩
  ·
   (try dsimp only)
   all_goals (omega)
  ·
   (try dsimp only)
   all_goals (rw [← hI, gpB_even _ k1])
  ·
   exact o12
  ·
   (try dsimp only)
   all_goals (omega)
 refine wpIn_exit ?_
 refine then_x (then_x (inb_e ?_))
 refine then_n ?_
 refine wpIn_seq ?_
 refine plain ?_
 refine wI (d_move rfl) ?_
 refine wI (d_assign rfl) ?_
 refine wF ([(eB b), (zf11 1), (zf11 2), (zf11 3), (eB o), (eB o), (eN k)] ++ (zs zf11 7 8 ++ [(eN k), (Value.bool (decide (0 < k)))] ++ (zs z 17 11 ++ [(eB o)]))) ?_
 refine wpL.done ?_
 refine then_n ?_
 refine wpIn_ret ?_
 refine leave0 (v := (eB o)) (res1 Try.results99 rfl) ?_
 have y0 : k = 0 := by omega
 subst y0
 rw [gpB_zero, gm_one] at hI
 exact ⟨congrArg eB (by rw [hI, powB_ne z0, one_gm]), oW⟩

set_option maxRecDepth 20000 in
set_option maxHeartbeats 1000000 in
theorem gfInv_ok (a : UInt8) (W : World) :
    CW Try.prog 89 #[(eB a)] W (Rt (RIs (eB (invB a)) W)) := by
 have oW : Only No W W := Only.refl _ _
 refine enter (al := [(eB a)]) (k := 4) (l := [(eB a), undef, undef, undef, undef]) Try.func89 rfl Try.ntmps89 rfl rfl ?_
 refine wpIn_seq ?_
 refine plain ?_
 refine wI (d_assign rfl) ?_
 refine wF [(eB a), undef, (eB 0), undef, undef] ?_
 refine wpL.done ?_
 refine then_n ?_
 refine wpIn_seq ?_
 refine plain ?_
 refine wI (d_move rfl) ?_
 refine wO (d_call (xl := [.tmp 3, .const (.int .i64 (-1))]) (al := [(eB a), (eI (-1))]) Try.func99 (by kernel_rfl) rfl rfl rfl (gfPow_ok a (-1) _)) ?_
 rintro _ w11 ⟨rfl, o12⟩
 replace oW := oW.tail0 o12
 refine wI (d_assign rfl) ?_
 refine wF [(eB a), undef, (eB (powB a (-1))), (eB a), (eB (powB a (-1)))] ?_
 refine wpL.done ?_
 refine then_n ?_
 refine wpIn_ret ?_
 refine leave0 (v := (eB (powB a (-1)))) (res1 Try.results89 rfl) ?_
 exact ⟨rfl, oW⟩

set_option maxRecDepth 20000 in
set_option maxHeartbeats 1000000 in
theorem gfExp_ok (n : Int) (W : World) :
    CW Try.prog 100 #[(eI n)] W (Rt (RIs (eB (exI n)) W)) := by
 have oW : Only No W W := Only.refl _ _
 refine enter (al := [(eI n)]) (k := 4) (l := [(eI n), undef, undef, undef, undef]) Try.func100 rfl Try.ntmps100 rfl rfl ?_
 refine wpIn_seq ?_
 refine plain ?_
 refine wI (d_assign rfl) ?_
 refine wF [(eI n), undef, (eB 0), undef, undef] ?_
 refine wpL.done ?_
 refine then_n ?_
 refine wpIn_seq ?_
 refine plain ?_
 refine wI (d_move rfl) ?_
 refine wO (d_call (xl := [.const (.int .u8 2), .tmp 3]) (al := [(eB 2), (eI n)]) Try.func99 (by kernel_rfl) rfl rfl rfl (gfPow_ok 2 n _)) ?_
 rintro _ w11 ⟨rfl, o12⟩
 replace oW := oW.tail0 o12
 refine wI (d_assign rfl) ?_
 refine wF [(eI n), undef, (eB (powB 2 n)), (eI n), (eB (powB 2 n))] ?_
 refine wpL.done ?_
 refine then_n ?_
 refine wpIn_ret ?_
 refine leave0 (v := (eB (powB 2 n))) (res1 Try.results100 rfl) ?_
 exact ⟨by rw [powB_two], oW⟩


theorem tm_neg {n : Int} (h : Int.tmod n 255 < 0) : IntKind.i64.wrap (Int.tmod n 255 + 255) = ((n % 255).toNat : Int) := by
  have h1 := tm255 n
  have h2 := tm_mod n
  rw [IntWalk.i64_in _ (by omega)]
  omega
theorem tm_pos {n : Int} (h : ¬ Int.tmod n 255 < 0) : eI (Int.tmod n 255) = eN (n % 255).toNat := by
  have h2 := tm_mod n
  have h3 := tm255 n
  show Value.int _ _ = Value.int _ _
  congr 1
  omega
set_option maxRecDepth 20000 in
set_option maxHeartbeats 1000000 in
theorem ref2Exp_ok (n : Int) (W : World) :
    CW Try.prog 114 #[(eI n)] W (Rt (RIs (eB (exI n)) W)) := by
 have oW : Only No W W := Only.refl _ _
 refine enter (al := [(eI n)]) (k := 18) (l := ([(eI n)] ++ (us 18))) Try.func114 rfl Try.ntmps114 rfl rfl ?_
 refine wpIn_seq ?_
 refine plain ?_
 refine wI (d_assign rfl) ?_
 refine wF ([(eI n), undef, (eB 0)] ++ (us 16)) ?_
 refine wpL.done ?_
 refine then_n ?_
 refine wpIn_seq ?_
 refine plain ?_
 refine wI (d_move rfl) ?_
 refine wI (d_rem (k := .i64) (m := n) (n := 255) rfl rfl (by decide) rfl) ?_
 refine wI (d_assign rfl) ?_
 refine wF ([(eI (Int.tmod n 255)), undef, (eB 0), undef, undef, (eI n), (eI (Int.tmod n 255))] ++ (us 12)) ?_
 refine wpL.done ?_
 refine then_n ?_
 refine wpIn_seq ?_
 refine wpIn_seq ?_
 refine plain ?_
 refine wI (d_move rfl) ?_
 refine wI (d_lss (k := .i64) (m := Int.tmod n 255) (n := 0) rfl rfl rfl) ?_
 refine wF ([(eI (Int.tmod n 255)), undef, (eB 0), undef, undef, (eI n), (eI (Int.tmod n 255)), (eI (Int.tmod n 255)), (Value.bool (decide (Int.tmod n 255 < 0)))] ++ (us 10)) ?_
 refine wpL.done ?_
 refine then_n ?_
 refine cond_if rfl (fun k1 => ?_) (fun k1 => ?_)
 ·
  refine plain ?_
  refine wI (d_move rfl) ?_
  refine wI (d_add (k := .i64) (m := Int.tmod n 255) (n := 255) rfl rfl (r := (((n % 255).toNat : Nat) : Int)) (tm_neg k1)) ?_
  refine wI (d_assign rfl) ?_
  refine wF ([(eN ((n % 255).toNat)), undef, (eB 0), undef, undef, (eI n), (eI (Int.tmod n 255)), (eI (Int.tmod n 255)), (Value.bool (decide (Int.tmod n 255 < 0))), (eI (Int.tmod n 255)), (eN ((n % 255).toNat))] ++ (us 8)) ?_
  refine wpL.done ?_
  refine then_n ?_
  refine wpIn_seq ?_
  refine plain ?_
  refine wI (d_assign rfl) ?_
  refine wF ([(eN ((n % 255).toNat)), undef, (eB 0), (eB 1), undef, (eI n), (eI (Int.tmod n 255)), (eI (Int.tmod n 255)), (Value.bool (decide (Int.tmod n 255 < 0))), (eI (Int.tmod n 255)), (eN ((n % 255).toNat))] ++ (us 8)) ?_
  refine wpL.done ?_
  refine then_n ?_
  refine wpIn_seq ?_
  refine wpIn_seq ?_
  refine plain ?_
  refine wI (d_assign rfl) ?_
  refine wF ([(eN ((n % 255).toNat)), undef, (eB 0), (eB 1), (eN 0), (eI n), (eI (Int.tmod n 255)), (eI (Int.tmod n 255)), (Value.bool (decide (Int.tmod n 255 < 0))), (eI (Int.tmod n 255)), (eN ((n % 255).toNat))] ++ (us 8)) ?_
  refine wpL.done ?_
  refine then_n ?_
  refine wpIn_block ?_
  refine loop2 (fun (i : (Nat)) => fun (z : Nat → Value) => (([(eN ((n % 255).toNat)), undef, (eB 0), (eB (exB i)), (eN i), (eI n), (eI (Int.tmod n 255)), (eI (Int.tmod n 255)), (Value.bool (decide (Int.tmod n 255 < 0))), (eI (Int.tmod n 255)), (eN ((n % 255).toNat))] ++ (zs z 11 7 ++ [undef])) : List Value)) (fun (i : (Nat)) => fun (w_ : World) => (i ≤ (n % 255).toNat) ∧ ((n % 255).toNat < 255) ∧ Only No W w_) (fun (i : (Nat)) => (n % 255).toNat - i) 0 rfl ?_ ?_
  ·
   refine ⟨?_, ?_, ?_⟩
   ·
    exact Nat.zero_le _
   ·
    exact toNat255 n
   ·
    exact Only.refl _ _
  rintro i z w12 ⟨hi, hn, o11⟩
  (try dsimp only)
  replace oW := oW.tail o11 tl_no
  refine wpIn_seq ?_
  refine wpIn_seq ?_
  refine plain ?_
  refine wI (d_move rfl) ?_
  refine wI (d_move rfl) ?_
  refine wI (n_lss (a := i) (b := ((n % 255).toNat)) rfl rfl rfl) ?_
  refine wF [(eN ((n % 255).toNat)), undef, (eB 0), (eB (exB i)), (eN i), (eI n), (eI (Int.tmod n 255)), (eI (Int.tmod n 255)), (Value.bool (decide (Int.tmod n 255 < 0))), (eI (Int.tmod n 255)), (eN ((n % 255).toNat)), (eN i), (eN ((n % 255).toNat)), (Value.bool (decide (i < ((n % 255).toNat)))), (z 14), (z 15), (z 16), (z 17), undef] ?_
  refine wpL.done ?_
  refine then_n ?_
  refine cond_if rfl (fun c0 => ?_) (fun c0 => ?_)
  ·
   refine wpIn_skip ?_
   refine then_n ?_
   refine wpIn_seq ?_
   refine wpIn_block ?_
   refine plain ?_
   refine wI (d_move rfl) ?_
   refine wO (d_call (xl := [.tmp 16, .const (.int .u8 2)]) (al := [(eB (exB i)), (eB 2)]) Try.func112 (by kernel_rfl) rfl rfl rfl (ref2Mul_ok (exB i) 2 _)) ?_
   rintro _ w13 ⟨rfl, o14⟩
   replace oW := oW.tail0 o14
   replace o11 := o11.tail0 o14
   refine wI (d_assign rfl) ?_
   refine wF [(eN ((n % 255).toNat)), undef, (eB 0), (eB (gm (exB i) 2)), (eN i), (eI n), (eI (Int.tmod n 255)), (eI (Int.tmod n 255)), (Value.bool (decide (Int.tmod n 255 < 0))), (eI (Int.tmod n 255)), (eN ((n % 255).toNat)), (eN i), (eN ((n % 255).toNat)), (Value.bool (decide (i < ((n % 255).toNat)))), (z 14), (z 15), (eB (exB i)), (eB (gm (exB i) 2)), undef] ?_
   refine wpL.done ?_
   refine inb_n (then_n ?_)
   refine plain ?_
   refine wI (d_move rfl) ?_
   refine wI (n_add (a := i) (b := 1) rfl rfl (by omega)) ?_
   refine wI (d_assign rfl) ?_
   refine wF [(eN ((n % 255).toNat)), undef, (eB 0), (eB (gm (exB i) 2)), (eN (i + 1)), (eI n), (eI (Int.tmod n 255)), (eI (Int.tmod n 255)), (Value.bool (decide (Int.tmod n 255 < 0))), (eI (Int.tmod n 255)), (eN ((n % 255).toNat)), (eN i), (eN ((n % 255).toNat)), (Value.bool (decide (i < ((n % 255).toNat)))), (eN i), (eN (i + 1)), (eB (exB i)), (eB (gm (exB i) 2)), undef] ?_
   refine wpL.done ?_
   refine then_n ?_
   refine ⟨[(eN ((n % 255).toNat)), undef, (eB 0), (eB (exB (i + 1))), (eN (i + 1)), (eI n), (eI (Int.tmod n 255)), (eI (Int.tmod n 255)), (Value.bool (decide (Int.tmod n 255 < 0))), (eI (Int.tmod n 255)), (eN ((n % 255).toNat)), (eN i), (eN ((n % 255).toNat)), (Value.bool (decide (i < ((n % 255).toNat)))), (eN i), (eN (i + 1)), (eB (exB i)), (eB (gm (exB i) 2)), undef], (i + 1), (congrArg (fun l_ => fr l_ _) (show ([(eN ((n % 255).toNat)), undef, (eB 0), (eB (gm (exB i) 2)), (eN (i + 1)), (eI n), (eI (Int.tmod n 255)), (eI (Int.tmod n 255)), (Value.bool (decide (Int.tmod n 255 < 0))), (eI (Int.tmod n 255)), (eN ((n % 255).toNat)), (eN i), (eN ((n % 255).toNat)), (Value.bool (decide (i < ((n % 255).toNat)))), (eN i), (eN (i + 1)), (eB (exB i)), (eB (gm (exB i) 2)), undef] : List Value) = [(eN ((n % 255).toNat)), undef, (eB 0), (eB (exB (i + 1))), (eN (i + 1)), (eI n), (eI (Int.tmod n 255)), (eI (Int.tmod n 255)), (Value.bool (decide (Int.tmod n 255 < 0))), (eI (Int.tmod n 255)), (eN ((n % 255).toNat)), (eN i), (eN ((n % 255).toNat)), (Value.bool (decide (i < ((n % 255).toNat)))), (eN i), (eN (i + 1)), (eB (exB i)), (eB (gm (exB i) 2)), undef] from reslot [(eN ((n % 255).toNat)), undef, (eB 0), (eB (gm (exB i) 2)), (eN (i + 1)), (eI n), (eI (Int.tmod n 255)), (eI (Int.tmod n 255)), (Value.bool (decide (Int.tmod n 255 < 0))), (eI (Int.tmod n 255)), (eN ((n % 255).toNat)), (eN i), (eN ((n % 255).toNat)), (Value.bool (decide (i < ((n % 255).toNat)))), (eN i), (eN (i + 1)), (eB (exB i)), (eB (gm (exB i) 2)), undef] 3 (congrArg eB (exB_two i)))), rfl, ⟨?_, ?_, ?_⟩, ?_⟩
   ·
    (try dsimp only)
    all_goals (omega)
   ·
    exact hn
   ·
    exact o11
   ·
    (try dsimp only)
    all_goals (omega)
  refine wpIn_exit ?_
  refine then_x (then_x (inb_e ?_))
  refine then_n ?_
  refine wpIn_seq ?_
  refine plain ?_
  refine wI (d_move rfl) ?_
  refine wI (d_assign rfl) ?_
  refine wF [(eN ((n % 255).toNat)), undef, (eB (exB i)), (eB (exB i)), (eN i), (eI n), (eI (Int.tmod n 255)), (eI (Int.tmod n 255)), (Value.bool (decide (Int.tmod n 255 < 0))), (eI (Int.tmod n 255)), (eN ((n % 255).toNat)), (eN i), (eN ((n % 255).toNat)), (Value.bool (decide (i < ((n % 255).toNat)))), (z 14), (z 15), (z 16), (z 17), (eB (exB i))] ?_
  refine wpL.done ?_
  refine then_n ?_
  refine wpIn_ret ?_
  refine leave0 (v := (eB (exB i))) (res1 Try.results114 rfl) ?_
  have y0 : i = (n % 255).toNat := by omega
  subst y0
  exact ⟨rfl, oW⟩
 refine wp_eq (l' := ([(eN ((n % 255).toNat)), undef, (eB 0), undef, undef, (eI n), (eI (Int.tmod n 255)), (eI (Int.tmod n 255)), (Value.bool (decide (Int.tmod n 255 < 0)))] ++ (us 10))) (show (([(eI (Int.tmod n 255)), undef, (eB 0), undef, undef, (eI n), (eI (Int.tmod n 255)), (eI (Int.tmod n 255)), (Value.bool (decide (Int.tmod n 255 < 0)))] ++ (us 10)) : List Value) = ([(eN ((n % 255).toNat)), undef, (eB 0), undef, undef, (eI n), (eI (Int.tmod n 255)), (eI (Int.tmod n 255)), (Value.bool (decide (Int.tmod n 255 < 0)))] ++ (us 10)) from reslot ([(eI (Int.tmod n 255)), undef, (eB 0), undef, undef, (eI n), (eI (Int.tmod n 255)), (eI (Int.tmod n 255)), (Value.bool (decide (Int.tmod n 255 < 0)))] ++ (us 10)) 0 (tm_pos k1)) ?_
 refine wpIn_skip ?_
 refine then_n ?_
 refine wpIn_seq ?_
 refine plain ?_
 refine wI (d_assign rfl) ?_
 refine wF ([(eN ((n % 255).toNat)), undef, (eB 0), (eB 1), undef, (eI n), (eI (Int.tmod n 255)), (eI (Int.tmod n 255)), (Value.bool (decide (Int.tmod n 255 < 0)))] ++ (us 10)) ?_
 refine wpL.done ?_
 refine then_n ?_
 refine wpIn_seq ?_
 refine wpIn_seq ?_
 refine plain ?_
 refine wI (d_assign rfl) ?_
 refine wF ([(eN ((n % 255).toNat)), undef, (eB 0), (eB 1), (eN 0), (eI n), (eI (Int.tmod n 255)), (eI (Int.tmod n 255)), (Value.bool (decide (Int.tmod n 255 < 0)))] ++ (us 10)) ?_
 refine wpL.done ?_
 refine then_n ?_
 refine wpIn_block ?_
 refine loop2 (fun (i : (Nat)) => fun (z : Nat → Value) => (([(eN ((n % 255).toNat)), undef, (eB 0), (eB (exB i)), (eN i), (eI n), (eI (Int.tmod n 255)), (eI (Int.tmod n 255)), (Value.bool (decide (Int.tmod n 255 < 0))), undef, undef] ++ (zs z 11 7 ++ [undef])) : List Value)) (fun (i : (Nat)) => fun (w_ : World) => (i ≤ (n % 255).toNat) ∧ ((n % 255).toNat < 255) ∧ Only No W w_) (fun (i : (Nat)) => (n % 255).toNat - i) 0 rfl ?_ ?_
 ·
  refine ⟨?_, ?_, ?_⟩
  ·
   exact Nat.zero_le _
  ·
   exact toNat255 n
  ·
   exact Only.refl _ _
 rintro i z w16 ⟨hi, hn, o15⟩
 (try dsimp only)
 replace oW := oW.tail o15 tl_no
 refine wpIn_seq ?_
 refine wpIn_seq ?_
 refine plain ?_
 refine wI (d_move rfl) ?_
 refine wI (d_move rfl) ?_
 refine wI (n_lss (a := i) (b := ((n % 255).toNat)) rfl rfl rfl) ?_
 refine wF [(eN ((n % 255).toNat)), undef, (eB 0), (eB (exB i)), (eN i), (eI n), (eI (Int.tmod n 255)), (eI (Int.tmod n 255)), (Value.bool (decide (Int.tmod n 255 < 0))), undef, undef, (eN i), (eN ((n % 255).toNat)), (Value.bool (decide (i < ((n % 255).toNat)))), (z 14), (z 15), (z 16), (z 17), undef] ?_
 refine wpL.done ?_
 refine then_n ?_
 refine cond_if rfl (fun c0 => ?_) (fun c0 => ?_)
 ·
  refine wpIn_skip ?_
  refine then_n ?_
  refine wpIn_seq ?_
  refine wpIn_block ?_
  refine plain ?_
  refine wI (d_move rfl) ?_
  refine wO (d_call (xl := [.tmp 16, .const (.int .u8 2)]) (al := [(eB (exB i)), (eB 2)]) Try.func112 (by kernel_rfl) rfl rfl rfl (ref2Mul_ok (exB i) 2 _)) ?_
  rintro _ w17 ⟨rfl, o18⟩
  replace oW := oW.tail0 o18
  replace o15 := o15.tail0 o18
  refine wI (d_assign rfl) ?_
  refine wF [(eN ((n % 255).toNat)), undef, (eB 0), (eB (gm (exB i) 2)), (eN i), (eI n), (eI (Int.tmod n 255)), (eI (Int.tmod n 255)), (Value.bool (decide (Int.tmod n 255 < 0))), undef, undef, (eN i), (eN ((n % 255).toNat)), (Value.bool (decide (i < ((n % 255).toNat)))), (z 14), (z 15), (eB (exB i)), (eB (gm (exB i) 2)), undef] ?_
  refine wpL.done ?_
  refine inb_n (then_n ?_)
  refine plain ?_
  refine wI (d_move rfl) ?_
  refine wI (n_add (a := i) (b := 1) rfl rfl (by omega)) ?_
  refine wI (d_assign rfl) ?_
  refine wF [(eN ((n % 255).toNat)), undef, (eB 0), (eB (gm (exB i) 2)), (eN (i + 1)), (eI n), (eI (Int.tmod n 255)), (eI (Int.tmod n 255)), (Value.bool (decide (Int.tmod n 255 < 0))), undef, undef, (eN i), (eN ((n % 255).toNat)), (Value.bool (decide (i < ((n % 255).toNat)))), (eN i), (eN (i + 1)), (eB (exB i)), (eB (gm (exB i) 2)), undef] ?_
  refine wpL.done ?_
  refine then_n ?_
  refine ⟨[(eN ((n % 255).toNat)), undef, (eB 0), (eB (exB (i + 1))), (eN (i + 1)), (eI n), (eI (Int.tmod n 255)), (eI (Int.tmod n 255)), (Value.bool (decide (Int.tmod n 255 < 0))), undef, undef, (eN i), (eN ((n % 255).toNat)), (Value.bool (decide (i < ((n % 255).toNat)))), (eN i), (eN (i + 1)), (eB (exB i)), (eB (gm (exB i) 2)), undef], (i + 1), (congrArg (fun l_ => fr l_ _) (show ([(eN ((n % 255).toNat)), undef, (eB 0), (eB (gm (exB i) 2)), (eN (i + 1)), (eI n), (eI (Int.tmod n 255)), (eI (Int.tmod n 255)), (Value.bool (decide (Int.tmod n 255 < 0))), undef, undef, (eN i), (eN ((n % 255).toNat)), (Value.bool (decide (i < ((n % 255).toNat)))), (eN i), (eN (i + 1)), (eB (exB i)), (eB (gm (exB i) 2)), undef] : List Value) = [(eN ((n % 255).toNat)), undef, (eB 0), (eB (exB (i + 1))), (eN (i + 1)), (eI n), (eI (Int.tmod n 255)), (eI (Int.tmod n 255)), (Value.bool (decide (Int.tmod n 255 < 0))), undef, undef, (eN i), (eN ((n % 255).toNat)), (Value.bool (decide (i < ((n % 255).toNat)))), (eN i), (eN (i + 1)), (eB (exB i)), (eB (gm (exB i) 2)), undef] from reslot [(eN ((n % 255).toNat)), undef, (eB 0), (eB (gm (exB i) 2)), (eN (i + 1)), (eI n), (eI (Int.tmod n 255)), (eI (Int.tmod n 255)), (Value.bool (decide (Int.tmod n 255 < 0))), undef, undef, (eN i), (eN ((n % 255).toNat)), (Value.bool (decide (i < ((n % 255).toNat)))), (eN i), (eN (i + 1)), (eB (exB i)), (eB (gm (exB i) 2)), undef] 3 (congrArg eB (exB_two i)))), rfl, ⟨?_, ?_, ?_⟩, ?_⟩
  ·
   (try dsimp only)
   all_goals (omega)
  ·
   exact hn
  ·
   exact o15
  ·
   (try dsimp only)
   all_goals (omega)
 refine wpIn_exit ?_
 refine then_x (then_x (inb_e ?_))
 refine then_n ?_
 refine wpIn_seq ?_
 refine plain ?_
 refine wI (d_move rfl) ?_
 refine wI (d_assign rfl) ?_
 refine wF [(eN ((n % 255).toNat)), undef, (eB (exB i)), (eB (exB i)), (eN i), (eI n), (eI (Int.tmod n 255)), (eI (Int.tmod n 255)), (Value.bool (decide (Int.tmod n 255 < 0))), undef, undef, (eN i), (eN ((n % 255).toNat)), (Value.bool (decide (i < ((n % 255).toNat)))), (z 14), (z 15), (z 16), (z 17), (eB (exB i))] ?_
 refine wpL.done ?_
 refine then_n ?_
 refine wpIn_ret ?_
 refine leave0 (v := (eB (exB i))) (res1 Try.results114 rfl) ?_
 have y0 : i = (n % 255).toNat := by omega
 subst y0
 exact ⟨rfl, oW⟩


/-- a logarithm, -1 of nought. -/
def lgI (a : UInt8) : Int := if a = 0 then -1 else (lgB a : Int)
theorem lgI_at {a : UInt8} {i : Nat} (hi : i < 255) (h : exB i = a) : eN i = eI (lgI a) := by
  subst h
  unfold lgI
  rw [if_neg (exB_ne0 i), lgB_ex, Nat.mod_eq_of_lt hi]; rfl
theorem lgI_no {a : UInt8} (h : ∀ j, j < 255 → exB j ≠ a) : a = 0 := by
  by_cases h0 : a = 0
  · exact h0
  · exact absurd (exB_lg h0) (h _ (lgB_lt h0))

theorem inv_ex {a : UInt8} (h : a ≠ 0) : invB a = exI (255 - lgI a) := by
  unfold invB lgI
  rw [if_neg h, powB_ne h]
  have h1 : ((-1 : Int) % 255).toNat = 254 := by decide
  rw [h1]
  have h2 := exB_lg h
  have h3 := lgB_lt h
  have h4 : (255 - (lgB a : Int)) = ((255 - lgB a : Nat) : Int) := by omega
  rw [h4, exI_nat]
  conv => lhs; rw [← h2]
  rw [gpB_ex, exB_eq]
  omega
theorem lgI_le (a : UInt8) : -1 ≤ lgI a ∧ lgI a < 255 := by
  unfold lgI
  split
  · decide
  · rename_i h; have := lgB_lt h; omega
end Go.Proofs.YtgalehapmdabeaaF
