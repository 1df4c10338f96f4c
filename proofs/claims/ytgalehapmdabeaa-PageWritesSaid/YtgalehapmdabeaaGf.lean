/-
  gf.Mul: the product of two bytes is what 'gmul' says.
-/
import Derived.Test.YtgalehapmdabeaaSeq
import Derived.Test.YtgalehapmdabeaaGF
import Derived.Test.YtgalehapmdabeaaProg
import Derived.Shelf.Abstract
import Derived.Shelf.RegionOpen
import Derived.OwnWalkIn
import Derived.TacticsInMore
import Derived.LoopNIn
import Derived.LoopIn
import Derived.Sort.LoopGhostIn
import Derived.Laws.BitsLemmas
import Derived.Lib.Hide
import Derived.Outline
namespace Go.Proofs.YtgalehapmdabeaaS
open Go Go.RowKit Go.Shelf Ram

attribute [local go_sem] Oper.semAt_some

theorem cast_and1 (a : Nat) (ha : a < 256) : Go.bits .and .u8 (a : Int) 1 = ((a % 2 : Nat) : Int) := by
  have := bits_mask .u8 8 (by decide) (fun n h0 h1 => wraps_u8 n h0 h1) 1 (by decide) (a : Int) (by omega) (by omega)
  simpa using this
theorem cast_xor (a b : Nat) (ha : a < 256) (hb : b < 256) : Go.bits .xor .u8 (a : Int) (b : Int) = ((a ^^^ b : Nat) : Int) := by
  have ha' : a % 2 ^ IntKind.u8.bits = a := Nat.mod_eq_of_lt ha
  have hb' : b % 2 ^ IntKind.u8.bits = b := Nat.mod_eq_of_lt hb
  simp only [Go.bits, BitVec.ofInt_natCast, BitVec.toNat_xor, BitVec.toNat_ofNat, ha', hb']
  exact wraps_u8 _ (Int.natCast_nonneg _) (by exact_mod_cast Nat.xor_lt_two_pow (n := 8) ha hb)

set_option maxHeartbeats 400000 in
theorem twice_calls (b : Nat) (hb : b < 256) (w : World) :
    Calls Try.prog 119 #[.int .u8 b] w fun e w' => e = .returned (.int .u8 (xt b : Nat)) ∧ w = w' := by
  have hx := xt_eq hb
  by_cases h : 128 ≤ b
  · have hd : decide ((128 : Int) ≤ (b : Int)) = true := by simp; omega
    rw [if_pos h] at hx
    have hc := cast_xor (b * 2 % 256) 29 (by omega) (by omega)
    have HX := Lib.hid hx
    have HC := Lib.hid hc
    clear hx hc h
    go_enter Try.func119, Try.ntmps119
    go_wp2
    go_ret
    refine ⟨?_, rfl⟩
    rw [HX.out, ← HC.out, show ((b * 2 % 256 : Nat) : Int) = (b : Int) * 2 % 256 from by omega, show ((29 : Nat) : Int) = 29 from rfl]
    rfl
  · have hd : decide ((128 : Int) ≤ (b : Int)) = false := by simp; omega
    rw [if_neg h] at hx
    have HX := Lib.hid hx
    clear hx h
    go_enter Try.func119, Try.ntmps119
    go_wp2
    go_ret
    refine ⟨?_, rfl⟩
    rw [HX.out, show ((b * 2 % 256 : Nat) : Int) = (b : Int) * 2 % 256 from by omega]
    rfl

theorem bits_calls (a b : Nat) (w : World) :
    Calls Try.prog 109 #[.int .u8 a, .int .u8 b] w fun e w' =>
      e = .returned (.func (.func 118) #[] #[.pointer (some ⟨w.heap.size, 0, none⟩), .pointer (some ⟨w.heap.size + 1, 0, none⟩)]) ∧
      w' = (w.alloc (.cells #[.int .u8 a] 5)).alloc (.cells #[.int .u8 b] 5) := by
  go_enter Try.func109, Try.ntmps109
  go_wp2
  go_ret
  exact ⟨rfl, rfl⟩

/-- what a pair is handed over as. -/
def encP (x : Bool × Nat) : Array Value := #[.agg #[.bool x.1, .int .u8 (x.2 : Nat)]]

set_option maxRecDepth 100000 in
set_option maxHeartbeats 2000000 in
theorem bits1_iter (A B : Nat) (a b : Nat) (ha : a < 256) (hb : b < 256) (hAB : A ≠ B) (w0 : World) (bA : Boxed w0 A 5 (.int .u8 a)) (bB : Boxed w0 B 5 (.int .u8 b)) :
    Iter Try.prog 118 #[.pointer (some ⟨A, 0, none⟩), .pointer (some ⟨B, 0, none⟩)] encP (fun k => k = A ∨ k = B) (fun k => k = A ∨ k = B) (bitsL a b) w0 := by
  intro l J Jx W hW hJ hJx hY h0
  have bA' := hW.boxed bA (by simp)
  have bB' := hW.boxed bB (by simp)
  refine callsIn_of_wp Try.func118 rfl trivial ?_ rfl
  simp only [Try.ntmps118, List.size_toArray, List.length_cons, List.length_nil, Nat.reduceAdd, Nat.reduceSub, Array.replicate_succ, Array.replicate_zero, List.push_toArray, List.append_toArray, List.nil_append, List.cons_append]
  gi_wp2
  gi_loopg [4] 8 (fun g (_ : Value) wr => ∃ (pre : List (Bool × Nat)) (x y : Nat), x < 2 ^ g ∧ x < 256 ∧ y < 256 ∧ Boxed wr A 5 (.int .u8 x) ∧ Boxed wr B 5 (.int .u8 y) ∧ Hid (bitsL a b = pre ++ bitsK g x y) ∧ J pre wr)
  case atStart => exact ⟨[], a, b, ha, ha, hb, bA', bB', rfl, h0⟩
  case round =>
    obtain ⟨pre, x, y, hxg, hx, hy, cA, cB, hL, hj⟩ := hrel
    have c1 := cA.cell
    have c2 := cB.cell
    by_cases h : 0 < x
    · have hd : decide ((0 : Int) < (x : Int)) = true := by simp; omega
      obtain ⟨g1, rfl⟩ : ∃ g1, gk = g1 + 1 := by
        cases gk with
        | zero => simp at hxg; omega
        | succ g1 => exact ⟨g1, rfl⟩
      have hstep : bitsK (g1 + 1) x y = (x % 2 == 1, y) :: bitsK g1 (x / 2) (xt y) := by simp only [bitsK]; rw [if_neg (by omega)]
      have hbits : bitsL a b = (pre ++ [(x % 2 == 1, y)]) ++ bitsK g1 (x / 2) (xt y) := by rw [hL.out, hstep]; simp
      obtain ⟨fn, tmps, assign, body, hyy, hR⟩ := hY pre (x % 2 == 1, y) ⟨_, hbits.symm⟩ wr hj
      dsimp only [encP] at hyy
      have hb1 : ((Go.bits .and .u8 (x : Int) 1) == 1) = (x % 2 == 1) := by
        rw [cast_and1 x hx]
        by_cases e : x % 2 = 1
        · rw [e]; rfl
        · have e0 : x % 2 = 0 := by omega
          rw [e0]; rfl
      have HB := Lib.hid hbits
      clear hbits hstep
      gi_wp2
      refine ⟨rfl, hR.mono ?_⟩
      rintro e W3 (⟨rfl, hJ3, hk3⟩ | ⟨rfl, hJx3⟩)
      · have dA := hk3.boxed cA (by simp)
        have dB := hk3.boxed cB (by simp)
        have e1 := dA.cell
        have e2 := dB.cell
        have f1 := dA.frozen
        have f2 := dB.frozen
        have hmix : Try.prog.follows .mixedOrders = true := by kernel_rfl
        clear c1 c2 hb1 hyy hR hd
        gi_wp2
        gi_region_with ((refine ⟨trivial, rfl, ?_⟩; gi_at_call 119; refine (callsIn_wide.2 (twice_calls y hy _)).mono ?_; rintro e w' ⟨rfl, rfl⟩))
        all_goals
          gi_wp2
          gi_roundg g1
          case measure => omega
          case rel =>
            refine ⟨pre ++ [(x % 2 == 1, y)], x / 2, xt y, by omega, by omega, xt_lt hy, ?_, ?_, HB, ?_⟩
            · rw [show ((x / 2 : Nat) : Int) = (x : Int) / 2 from by omega]
              exact (Boxed.set _ (show Boxed W3.drew A 5 _ from dA)).other hAB _
            · exact Boxed.set _ ((show Boxed W3.drew B 5 _ from dB).other (Ne.symm hAB) _)
            · exact hJ _ _ _ hJ3 (((Only.refl _ W3).drew.setCell (Or.inl rfl) _).setCell (Or.inr rfl) _)
      · gi_wp2
        refine bodyPost_ret (results_none rfl _ _ _) rfl ?_
        exact ⟨⟨_, rfl⟩, .inr ⟨_, ⟨_, HB.out.symm⟩, hJx3⟩⟩
    · obtain rfl : x = 0 := by omega
      gi_wp2
      go_end0
      have : bitsK gk 0 y = [] := by cases gk <;> simp [bitsK]
      exact ⟨⟨_, rfl⟩, .inl (by rw [hL.out, this, List.append_nil]; exact hj)⟩


set_option maxRecDepth 100000 in
set_option maxHeartbeats 2000000 in
theorem mul_calls (a b : Nat) (ha : a < 256) (hb' : b < 256) (w : World) :
    Calls Try.prog 90 #[.int .u8 a, .int .u8 b] w fun e w' => e = .returned (.int .u8 (gmul a b : Nat)) ∧ Below w.heap.size w w' := by
  refine (callsIn_wide (n := 0)).1 ?_
  refine callsIn_of_wp_marks Try.func90 rfl trivial ?_ rfl
  simp only [Try.ntmps90, List.size_toArray, List.length_cons, List.length_nil, Nat.reduceAdd, Nat.reduceSub, Array.replicate_succ, Array.replicate_zero, List.push_toArray, List.append_toArray, List.nil_append, List.cons_append]
  gi_wp2_with (refine ⟨trivial, rfl, ?_⟩; gi_at_call 109; refine (callsIn_wide.2 (bits_calls a b _)).mono ?_; rintro e w' ⟨rfl, rfl⟩)
  obtain ⟨WL, hWL⟩ : ∃ WL, ((w.alloc (.cells #[.int .u8 0] 5)).alloc (.cells #[.int .u8 a] 5)).alloc (.cells #[.int .u8 b] 5) = WL := ⟨_, rfl⟩
  have bO : Boxed WL w.heap.size 5 (.int .u8 (0 : Nat)) := by rw [← hWL]; exact ((Boxed.new w 5 _).alloc _).alloc _
  have bA : Boxed WL (w.heap.size + 1) 5 (.int .u8 a) := by
    rw [← hWL]; have := Boxed.new (w.alloc (.cells #[.int .u8 0] 5)) 5 (.int .u8 a); rw [World.size_alloc] at this; exact this.alloc _
  have bB : Boxed WL (w.heap.size + 1 + 1) 5 (.int .u8 b) := by
    rw [← hWL]; have := Boxed.new ((w.alloc (.cells #[.int .u8 0] 5)).alloc (.cells #[.int .u8 a] 5)) 5 (.int .u8 b); rw [World.size_alloc, World.size_alloc] at this; exact this
  have hsz : WL.heap.size = w.heap.size + 3 := by rw [← hWL]; simp
  have hB0 : Below w.heap.size w WL := by rw [← hWL]; exact (((Below.refl _ w).alloc (Nat.le_refl _) _).alloc (by simp) _).alloc (by simp; omega) _
  rw [hWL]
  have hxs : sumL (bitsL a b) = gmul a b := sum_bitsL a b
  have HXS := Lib.hid hxs
  clear hxs hWL
  refine wpIn_range (gf := 118) (lb := #[.pointer (some ⟨w.heap.size + 1, 0, none⟩), .pointer (some ⟨w.heap.size + 1 + 1, 0, none⟩)]) rfl (enters_of Try.func118 (by kernel_rfl) rfl)
    (bits1_iter _ _ a b ha hb' (by omega) WL bA bB) (Only.refl _ _) (by rintro k (rfl | rfl) <;> omega) (fun _ h => h) (fun _ => rfl)
    (fun k => k = w.heap.size ∨ WL.heap.size + 2 ≤ k) (by rintro k (rfl | h) <;> omega)
    (fun pre W => Boxed W w.heap.size 5 (.int .u8 (sumL pre : Nat)) ∧ Below w.heap.size w W) (fun _ _ _ => False)
    (fun pre A B h ho => ⟨ho.boxed h.1 (by omega), h.2.trans (ho.below h.2.size (by omega))⟩) (fun _ _ _ _ h _ => h) ⟨bO, hB0⟩ ?round ?done ?stop
  case round =>
    rintro pre ⟨x1, x2⟩ W hpx ⟨hb, hB⟩ hlt
    dsimp only [encP]
    gi_wp2
    refine ⟨(Only.refl _ _).alloc _, fun W₂ h2 hsz2 => ?_⟩
    have hx0 : W₂.cell? ⟨W.heap.size, 0, none⟩ = some (.bool x1) := h2.cell ((cell_new _ _ _ _).trans rfl) (by simp; omega)
    have hx1 : W₂.cell? ⟨W.heap.size, 1, none⟩ = some (.int .u8 x2) := h2.cell ((cell_new _ _ _ _).trans rfl) (by simp; omega)
    have hb2 := h2.boxed (hb.alloc (.cells #[.bool x1, .int .u8 x2] 146)) (by omega)
    have hB2 : Below w.heap.size w W₂ := (hB.alloc hB.size _).trans (h2.below (by simp; have := hB.size; omega) (by intro k hk; omega))
    have hc := hb2.cell
    have hf := hb2.frozen
    have hpre : ∀ y ∈ pre ++ [(x1, x2)], y.2 < 256 := fun y hy => bitsK_lt 8 a b hb' y (hpx.subset hy)
    have hX := cast_xor (sumL pre) x2 (sumL_lt _ fun y hy => hpre y (List.mem_append_left _ hy)) (hpre (x1, x2) (by simp))
    have hS : sumL (pre ++ [(x1, x2)]) = sumL pre ^^^ (if x1 then x2 else 0) := by rw [sumL_append]; simp [sumL]
    have HX := Lib.hid hX
    have HS := Lib.hid hS
    clear hX hS
    cases x1 with
    | true =>
      gi_wp2
      refine ⟨(Only.refl _ _).setCell (Or.inl rfl) _, ?_, hB2.setCell (p := ⟨w.heap.size, 0, none⟩) (Nat.le_refl _) _⟩
      have e : sumL (pre ++ [(true, x2)]) = sumL pre ^^^ x2 := by rw [HS.out]; simp
      rw [e, ← HX.out]
      exact hb2.set _
    | false =>
      gi_wp2
      refine ⟨Only.refl _ _, ?_, hB2⟩
      have e : sumL (pre ++ [(false, x2)]) = sumL pre := by rw [HS.out]; simp
      rw [e]
      exact hb2
  case done =>
    rintro W ⟨hb, hB⟩ hD
    have hc := hb.cell
    gi_wp2
    refine ⟨by simp, .inl ⟨_, _, rfl, run_takeDeferred hD, ?_⟩⟩
    exact ⟨_, results_tmp rfl _ _ _, by rw [HXS.out]; rfl, hB.trans (((Only.refl _ W).putObj (T := fun k => k = WL.heap.size) rfl _).below hB.size (by intro k hk; omega))⟩
  case stop =>
    rintro c pre W _ h _
    exact h.elim

end Go.Proofs.YtgalehapmdabeaaS
