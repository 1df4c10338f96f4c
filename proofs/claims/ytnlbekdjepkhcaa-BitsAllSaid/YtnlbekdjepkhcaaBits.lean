/-
  bits: what the iterator 'ones' gives, and what slices.Clone, slices.Collect, bits.count hand back.
-/
import Derived.Test.YtnlbekdjepkhcaaSeq
import Derived.Test.YtnlbekdjepkhcaaBt
import Derived.Test.YtnlbekdjepkhcaaProg
import Derived.Test.YtnlbekdjepkhcaaWMore
import Derived.Shelf.Abstract
import Derived.Shelf.RegionOpen
import Derived.OwnWalkIn
import Derived.TacticsInMore
import Derived.LoopNIn
import Derived.LoopIn
import Derived.Sort.LoopGhostIn
import Derived.Laws.BitsLemmas
import Derived.Lib.Hide
import Derived.Lib.SliceRun
set_option linter.unusedSimpArgs false
set_option linter.unusedVariables false
namespace Go.Proofs.YtnlbekdjepkhcaaS
open Go Go.RowKit Go.Shelf Ram Go.Proofs.YtnlbekdjepkhcaaW.PrintWords

attribute [local go_sem] Oper.semAt_some

theorem and1 (x : Int) : Go.bits .and .u8 x 1 = x % 2 := by
  have h0 : Go.bits .and .u8 x 1 = IntKind.u8.wrap ((BitVec.ofInt 8 x &&& BitVec.ofInt 8 1).toNat : Int) := rfl
  have h1 : (BitVec.ofInt 8 x &&& BitVec.ofInt 8 1).toNat = (BitVec.ofInt 8 x).toNat % 2 := by
    have : (BitVec.ofInt 8 1).toNat = 1 := rfl
    rw [BitVec.toNat_and, this, Nat.and_one_is_mod]
  rw [h0, h1, BitVec.toNat_ofInt, IntKind.wrap_u8]
  simp; omega

theorem castx (a b : Nat) (ha : a < 256) (hb : b < 256) : Go.bits .xor .u8 (a : Int) (b : Int) = ((a ^^^ b : Nat) : Int) := by
  have ha' : a % 2 ^ IntKind.u8.bits = a := Nat.mod_eq_of_lt ha
  have hb' : b % 2 ^ IntKind.u8.bits = b := Nat.mod_eq_of_lt hb
  simp only [Go.bits, BitVec.ofInt_natCast, BitVec.toNat_xor, BitVec.toNat_ofNat, ha', hb']
  exact wraps_u8 _ (Int.natCast_nonneg _) (by exact_mod_cast Nat.xor_lt_two_pow (n := 8) ha hb)

/-- the blocks that the iterator reads. -/
def kept (B : Nat) (A : Option Addr) (n : Nat) (k : Nat) : Prop := k = B ∨ ∃ ad, A = some ad ∧ 0 < n ∧ k = ad.block

theorem cells_of_C {k : IntKind} {w : World} {A : Option Addr} {n : Nat} {xs : List Int} (h : Kd.C (Kd.int k) w A n xs) (i : Nat) (hi : i < n) : ∃ ad, A = some ad ∧ w.cell? (ad.add i) = some (.int k (xs.getD i 0)) := by
  obtain ⟨ad, e, hc⟩ := Kd.at_int h (i : Int) (by omega) (by omega)
  exact ⟨ad, e, by simpa [rd] using hc⟩
theorem add_block (a : Addr) (n : Nat) : (a.add n).block = a.block := by unfold Addr.add; split <;> rfl

theorem ones_calls (A : Option Addr) (n c : Nat) (w : World) :
    Calls Try.prog 42 #[.slice A n c] w fun e w' => e = .returned (.func (.func 53) #[] #[.pointer (some ⟨w.heap.size, 0, none⟩)]) ∧ w' = w.alloc (.cells #[.slice A n c] 28) := by
  go_enter Try.func42, Try.ntmps42
  go_wp2
  go_ret
  exact ⟨rfl, rfl⟩

set_option maxRecDepth 100000 in
set_option maxHeartbeats 4000000 in
theorem ones1_iter (B : Nat) (A : Option Addr) (c : Nat) (l : List Int) (w0 : World) (hl : bytesB l = true) (hlen : 8 * l.length < 9223372036854775807) (hB : Boxed w0 B 28 (.slice A l.length c)) (hC : Kd.C (Kd.int .u8) w0 A l.length l) :
    Iter Try.prog 53 #[.pointer (some ⟨B, 0, none⟩)] (fun p : Nat => #[.int .i64 (p : Int)]) (fun _ => False) (kept B A l.length) (onesL (nat l)) w0 := by
  intro ll J Jx W hW hJ hJx hY h0
  have hB' := hW.boxed hB (by simp [kept])
  have hc1 := hB'.cell
  have hcells : ∀ W' : World, Only (fun k => ¬ kept B A l.length k) w0 W' → ∀ i : Nat, i < l.length → ∃ ad, A = some ad ∧ W'.cell? (ad.add i) = some (.int .u8 ((nat l).getD i 0 : Nat)) := by
    intro W' ho i hi
    obtain ⟨ad, e, hc⟩ := cells_of_C hC i hi
    refine ⟨ad, e, ho.cell (by rw [hc, bytesB_nat hl]) ?_⟩
    simp only [Classical.not_not, add_block]
    exact .inr ⟨ad, e, by omega, rfl⟩
  refine callsIn_of_wp Try.func53 rfl trivial ?_ rfl
  simp only [Try.ntmps53, List.size_toArray, List.length_cons, List.length_nil, Nat.reduceAdd, Nat.reduceSub, Array.replicate_succ, Array.replicate_zero, List.push_toArray, List.append_toArray, List.nil_append, List.cons_append]
  gi_wp2
  gi_loopw [8] (fun v8 wr => ∃ i : Nat, i ≤ l.length ∧ v8 = .int .i64 i ∧ J (onesTo (nat l) (8 * i)) wr ∧ Only (fun k => ¬ kept B A l.length k) w0 wr) (fun v8 _ => l.length - (intOf v8).toNat)
  case atStart => exact ⟨0, Nat.zero_le _, rfl, h0, hW⟩
  case round =>
    obtain ⟨i, hi, rfl, hj, ho⟩ := hrel
    by_cases hlt : i < l.length
    · obtain ⟨ad, rfl, hcx⟩ := hcells wr ho i hlt
      have hcb := nat_lt hl i
      obtain ⟨cc, hcc⟩ : ∃ cc, (nat l).getD i 0 = cc := ⟨_, rfl⟩
      rw [hcc] at hcx hcb
      gi_wp2
      gi_loopw [13] (fun v13 w2 => ∃ k : Nat, k ≤ 8 ∧ v13 = .int .i64 k ∧ J (onesTo (nat l) (8 * i + k)) w2 ∧ Only (fun k => ¬ kept B (some ad) l.length k) w0 w2) (fun v13 _ => 8 - (intOf v13).toNat)
      case atStart => exact ⟨0, Nat.zero_le _, rfl, hj, ho⟩
      case round =>
        obtain ⟨k, hk, rfl, hj2, ho2⟩ := hrel
        by_cases hk8 : k < 8
        · have hq : bitAt (nat l) (8 * i + k) = (cc / 2 ^ k % 2 == 1) := by unfold bitAt; rw [show (8 * i + k) / 8 = i from by omega, show (8 * i + k) % 8 = k from by omega, hcc]
          have hsucc := onesTo_succ (nat l) (8 * i + k)
          have hval : Go.bits .and .u8 ((cc : Int) / 2 ^ k) 1 = ((cc / 2 ^ k % 2 : Nat) : Int) := by rw [and1]; simp
          have HC := Lib.hid hcc
          clear hcc
          by_cases hb : cc / 2 ^ k % 2 = 1
          · have hbt : bitAt (nat l) (8 * i + k) = true := by rw [hq, hb]; rfl
            have hb1 : ((Go.bits .and .u8 ((cc : Int) / 2 ^ k) 1) == 1) = true := by rw [hval, hb]; rfl
            rw [hbt, if_pos rfl] at hsucc
            have hpx : onesTo (nat l) (8 * i + k) ++ [8 * i + k] <+: onesL (nat l) := by
              rw [← hsucc]; exact onesTo_prefix _ (by rw [nat_length]; omega)
            obtain ⟨fn, tmps, assign, body, hyy, hR⟩ := hY _ _ hpx wr hj2
            rw [show (((8 * i + k : Nat)) : Int) = 8 * (i : Int) + (k : Int) from by omega] at hyy
            have HS := Lib.hid hsucc
            clear hsucc hval hq hbt hb
            gi_wp2
            refine ⟨rfl, hR.mono ?_⟩
            rintro e W3 (⟨rfl, hJ3, hk3⟩ | ⟨rfl, hJx3⟩)
            · gi_wp2
              go_roundw
              case rel => exact ⟨k + 1, by omega, by simp, by rw [← Nat.add_assoc, HS.out]; exact hJ3, ho2.trans hk3⟩
              case measure => simp [intOf]; omega
            · gi_wp2
              refine bodyPost_ret (results_none rfl _ _ _) rfl ?_
              exact ⟨⟨_, rfl⟩, .inr ⟨_, hpx, hJx3⟩⟩
          · have hbf : bitAt (nat l) (8 * i + k) = false := by rw [hq]; simpa using hb
            have hb1 : ((Go.bits .and .u8 ((cc : Int) / 2 ^ k) 1) == 1) = false := by
              have h0 : cc / 2 ^ k % 2 = 0 := (Nat.mod_two_eq_zero_or_one _).resolve_right hb
              rw [hval, h0]; rfl
            rw [hbf, if_neg (by simp), List.append_nil] at hsucc
            have HS := Lib.hid hsucc
            clear hsucc hval hq hbf hb
            gi_wp2
            refine ⟨fun _ h => (by cases h), ?_⟩
            gi_wp2
            go_roundw
            case rel => exact ⟨k + 1, by omega, by simp, by rw [← Nat.add_assoc, HS.out]; exact hj2, ho2⟩
            case measure => simp [intOf]; omega
        · obtain rfl : k = 8 := by omega
          gi_wp2
          go_roundw
          case rel => exact ⟨i + 1, by omega, by simp, by rw [show 8 * (i + 1) = 8 * i + 8 from by omega]; exact hj2, ho2⟩
          case measure => simp [intOf]; omega
    · obtain rfl : i = l.length := by omega
      gi_wp2
      go_end0
      exact ⟨⟨_, rfl⟩, .inl (by unfold onesL; rw [nat_length]; exact hj)⟩

set_option maxRecDepth 100000 in
set_option maxHeartbeats 2000000 in
/-- how many come. -/
theorem count_calls {gf : Nat} {lb : Array Value} {Kp : Nat → Prop} {xs : List Nat} {w : World} (hit : Iter Try.prog gf lb (fun p : Nat => #[.int .i64 (p : Int)]) (fun _ => False) Kp xs w)
    (hK : ∀ k, Kp k → k < w.heap.size) (eg : ∀ args w, (callFunc gf args).run Try.prog w = .ok (.enter gf args) w) (hlen : xs.length < 4611686018427387904) :
    Calls Try.prog 44 #[.func (.func gf) #[] lb] w fun e w' => e = .returned (.int .i64 (xs.length : Int)) ∧ Below w.heap.size w w' := by
  refine (callsIn_wide (n := 0)).1 ?_
  refine callsIn_of_wp_marks Try.func44 rfl trivial ?_ rfl
  simp only [Try.ntmps44, List.size_toArray, List.length_cons, List.length_nil, Nat.reduceAdd, Nat.reduceSub, Array.replicate_succ, Array.replicate_zero, List.push_toArray, List.append_toArray, List.nil_append, List.cons_append]
  gi_wp2
  obtain ⟨WL, hWL⟩ : ∃ WL, w.alloc (.cells #[.int .i64 0] 3) = WL := ⟨_, rfl⟩
  have bO : Boxed WL w.heap.size 3 (.int .i64 ((([] : List Nat).length : Nat) : Int)) := by rw [← hWL]; exact Boxed.new w 3 _
  have hsz : WL.heap.size = w.heap.size + 1 := by rw [← hWL]; simp
  have hB0 : Below w.heap.size w WL := by rw [← hWL]; exact (Below.refl _ w).alloc (Nat.le_refl _) _
  have hO0 : Only (fun k => ¬ Kp k) w WL := by rw [← hWL]; exact (Only.refl _ w).alloc _
  rw [hWL]
  clear hWL
  refine wpIn_range rfl eg hit hO0 (fun k h => by have := hK k h; omega) (fun _ h => h.elim) (fun _ => rfl)
    (fun k => k = w.heap.size ∨ WL.heap.size + 2 ≤ k) (by rintro k (rfl | h) <;> (refine ⟨fun hk => ?_, ?_, ?_⟩ <;> first | (have := hK _ hk; omega) | omega))
    (fun pre W => Boxed W w.heap.size 3 (.int .i64 (pre.length : Int)) ∧ Below w.heap.size w W) (fun _ _ _ => False)
    (fun pre A B h ho => ⟨ho.boxed h.1 (by simp; omega), h.2.trans (ho.below h.2.size (by simp; omega))⟩) (fun _ _ _ _ h _ => h) ⟨bO, hB0⟩ ?round ?done ?stop
  case round =>
    rintro pre x W hpx ⟨hb, hB⟩ hlt
    have hpl : pre.length < xs.length := by have := hpx.length_le; simp at this; omega
    gi_wp2
    refine ⟨Only.refl _ _, fun W₂ h2 hsz2 => ?_⟩
    have hb2 := h2.boxed hb (by omega)
    have hB2 : Below w.heap.size w W₂ := hB.trans (h2.below hB.size (by intro k hk; omega))
    have hc := hb2.cell
    have hf := hb2.frozen
    gi_wp2
    refine ⟨(Only.refl _ _).setCell (Or.inl rfl) _, ?_, hB2.setCell (p := ⟨w.heap.size, 0, none⟩) (Nat.le_refl _) _⟩
    rw [List.length_append]
    exact hb2.set _
  case done =>
    rintro W ⟨hb, hB⟩ hD
    have hc := hb.cell
    gi_wp2
    refine ⟨by simp, .inl ⟨_, _, rfl, run_takeDeferred hD, ?_⟩⟩
    exact ⟨_, results_tmp rfl _ _ _, rfl, hB.trans (((Only.refl _ W).putObj (T := fun k => k = WL.heap.size) rfl _).below hB.size (by intro k hk; omega))⟩
  case stop =>
    rintro c pre W _ h _
    exact h.elim

theorem infoInt : (Try.prog.info? 3).map (fun i => (i.zero, i.size, i.bytes)) = some (some (.int .i64 0), 1, 8) := by kernel_rfl

set_option maxRecDepth 100000 in
set_option maxHeartbeats 2000000 in
/-- a list of what comes. -/
theorem appendSeq_calls {gf : Nat} {lb : Array Value} {Kp : Nat → Prop} {xs : List Nat} {w : World} (hit : Iter Try.prog gf lb (fun p : Nat => #[.int .i64 (p : Int)]) (fun _ => False) Kp xs w)
    (hK : ∀ k, Kp k → k < w.heap.size) (eg : ∀ args w, (callFunc gf args).run Try.prog w = .ok (.enter gf args) w) (hlen : xs.length * 8 < 140737488355328) :
    Calls Try.prog 52 #[.slice none 0 0, .func (.func gf) #[] lb] w fun e w' => ∃ v, e = .returned v ∧ Kd.R (Kd.int .i64) 3 w' w.heap.size (fun _ => True) v (int xs) ∧ Below w.heap.size w w' := by
  obtain ⟨i0, hi, hz0, hz1, hz2⟩ := info_parts infoInt
  refine (callsIn_wide (n := 0)).1 ?_
  refine callsIn_of_wp_marks Try.func52 rfl trivial ?_ rfl
  simp only [Try.ntmps52, List.size_toArray, List.length_cons, List.length_nil, Nat.reduceAdd, Nat.reduceSub, Array.replicate_succ, Array.replicate_zero, List.push_toArray, List.append_toArray, List.nil_append, List.cons_append]
  gi_wp2
  obtain ⟨WL, hWL⟩ : ∃ WL, w.alloc (.cells #[.slice none 0 0] 29) = WL := ⟨_, rfl⟩
  have bO : Boxed WL w.heap.size 29 (.slice none 0 0) := by rw [← hWL]; exact Boxed.new w 29 _
  have hsz : w.heap.size < WL.heap.size := by rw [← hWL]; simp
  have hB0 : Below w.heap.size w WL := by rw [← hWL]; exact (Below.refl _ w).alloc (Nat.le_refl _) _
  have hO0 : Only (fun k => ¬ Kp k) w WL := by rw [← hWL]; exact (Only.refl _ w).alloc _
  rw [hWL]
  clear hWL
  refine wpIn_range rfl eg hit hO0 (fun k h => by have := hK k h; omega) (fun _ h => h.elim) (fun _ => rfl)
    (fun k => k = w.heap.size ∨ WL.heap.size + 2 ≤ k) (by rintro k (rfl | h) <;> (refine ⟨fun hk => ?_, ?_, ?_⟩ <;> first | (have := hK _ hk; omega) | omega))
    (fun pre W => ∃ v, Boxed W w.heap.size 29 v ∧ W.ownsRow (WL.heap.size + 2) 3 1 v pre.length (pre.map fun p : Nat => Value.int .i64 (p : Int)) ∧ Below w.heap.size w W) (fun _ _ _ => False)
    ?stab (fun _ _ _ _ h _ => h) ⟨_, bO, World.ownsRow_nil _ _ _ _, hB0⟩ ?round ?done ?stop
  case stab =>
    rintro pre A B ⟨v, hb, hr, hB⟩ ho
    refine ⟨v, ho.boxed hb (by simp; omega), own_move hr (fun k hk => ?_), hB.trans (ho.below hB.size (by simp; omega))⟩
    have h1 := own_base hr k hk
    have h2 := own_lt hr k hk
    exact ho.same k h2 (by simp; omega)
  case round =>
    rintro pre x W hpx ⟨v, hb, hr, hB⟩ hlt
    have hpl : pre.length < xs.length := by have := hpx.length_le; simp at this; omega
    gi_wp2
    refine ⟨Only.refl _ _, fun W₂ h2 hsz2 => ?_⟩
    have hb2 := h2.boxed hb (by omega)
    have hB2 : Below w.heap.size w W₂ := hB.trans (h2.below hB.size (by intro k hk; omega))
    have hr2 : W₂.ownsRow (WL.heap.size + 2) 3 1 v pre.length (pre.map fun p : Nat => Value.int .i64 (p : Int)) := own_move hr (fun k hk => h2.same k (own_lt hr k hk) (by have := own_base hr k hk; omega))
    have hc := hb2.cell
    have hf := hb2.frozen
    have hle : WL.heap.size + 2 ≤ W₂.heap.size := by omega
    have hty := hb2.not_row (by decide) hr2
    have HT := Lib.hid hty
    clear hsz2 hty
    gi_wp2_with (gi_at_builtin; refine wpListIn_append_own _ rfl _ _ 29 rfl (WL.heap.size + 2) 3 i0 (.int .i64 0) 1 8 Try.underlying29 hi hz0 hz1 hz2 rfl (by decide) _ _ _ rfl (hr2.alloc _) ⟨W₂.heap.size, 0, none⟩ 1 1 [.int .i64 (x : Int)] rfl rfl ?c1 ?c2 ?c3 ?c4 ?c5 ?_)
    case c1 => exact cell_one_new _ _ _
    case c2 => simp [Value.oneCell']
    case c3 => unfold maxLen; omega
    case c4 => omega
    case c5 => simp; omega
    intro v' w1 hown' hgrow _
    obtain ⟨g', cap', rfl⟩ := ownsRow_succ hown'
    have hv1 : Boxed w1 w.heap.size 29 v := (hb2.alloc _).kept hgrow HT.out
    have hc1 := hv1.cell
    have hf1 := hv1.frozen
    have ho1 : Only (fun k => k = w.heap.size ∨ WL.heap.size + 2 ≤ k) W₂ w1 := ((Only.refl _ W₂).alloc _).grown hgrow (fun k hk => Or.inr (own_base hr2 k hk))
    gi_wp2
    have ho2 := ho1.setCell (p := ⟨w.heap.size, 0, none⟩) (Or.inl rfl) (.slice (some ⟨g', 0, none⟩) (pre.length + 1) cap')
    refine ⟨ho2, _, hv1.set _, ?_, hB2.trans (ho2.below hB2.size (by intro k hk; omega))⟩
    have hown2 := own_move hown' (w1 := w1.setCell ⟨w.heap.size, 0, none⟩ (.slice (some ⟨g', 0, none⟩) (pre.length + 1) cap')) (fun k hk => Below.heap_setCell _ _ _ _ (by have := own_base hown' k hk; simp only; omega))
    simpa using hown2
  case done =>
    rintro W ⟨v, hb, hr, hB⟩ hD
    have hc := hb.cell
    gi_wp2
    refine ⟨by simp, .inl ⟨_, _, rfl, run_takeDeferred hD, ?_⟩⟩
    have ho := (Only.refl (fun k => k = WL.heap.size) W).putObj rfl (.deferred none)
    have hr2 := own_move hr (w1 := W.putObj WL.heap.size (.deferred none)) (fun k hk => ho.same k (own_lt hr k hk) (by have := own_base hr k hk; omega))
    refine ⟨_, results_tmp rfl _ _ _, v, rfl, Kd.R_of_own (enc := Value.int .i64) ?_ (fun _ _ => trivial), hB.trans (ho.below hB.size (by intro k hk; omega))⟩
    have hr3 := own_weaken hr2 (show w.heap.size ≤ WL.heap.size + 2 by omega)
    rw [int_length, show encs (Value.int .i64) (int xs) = xs.map fun p : Nat => Value.int .i64 (p : Int) from by simp [encs, int]]
    exact hr3
  case stop =>
    rintro c pre W _ h _
    exact h.elim

theorem info_u8 : (Try.prog.info? 5).map (fun i => (i.zero, i.size, i.bytes)) = some (some (.int .u8 0), 1, 1) := by kernel_rfl

set_option maxRecDepth 100000 in
set_option maxHeartbeats 1000000 in
/-- slices.Clone of bytes. -/
theorem clone_u8 (A : Option Addr) (c : Nat) (l : List Int) (w : World) (hr : Kd.C (Kd.int .u8) w A l.length l) (hc : l.length ≤ c) (hlim : l.length * 1 < 140737488355328) :
    Calls Try.prog 40 #[.slice A l.length c] w fun e w' => ∃ v, e = .returned v ∧ Kd.R (Kd.int .u8) 5 w' w.heap.size (fun _ => True) v l ∧ Below w.heap.size w w' := by
  cases A with
  | none =>
    obtain rfl : l = [] := by
      cases l with
      | nil => rfl
      | cons x l => obtain ⟨ad, e, _⟩ := hr.2.2 (by simp); cases e
    have hn : ∀ W : World, (binOp .eql 28 (.slice none 0 c) (.slice none 0 0)).run Try.prog W = .ok (.bool true) W := fun W => Lib.run_eql_slice_nil W _ _ _ _ _ _ _ Try.underlying28
    simp only [List.length_nil]
    go_enter Try.func40, Try.ntmps40
    go_wp2
    go_ret
    exact ⟨_, rfl, Kd.R_nil _ _ _ _ _, Below.refl _ _⟩
  | some ad =>
    have hn : ∀ (W : World) (n : Nat), (binOp .eql 28 (.slice (some ad) n c) (.slice none 0 0)).run Try.prog W = .ok (.bool false) W := fun W n => Lib.run_eql_slice_nil W _ _ _ _ _ _ _ Try.underlying28
    have HR := Aside0.mk hr
    have HC := Aside0.mk hlim
    clear hr hlim
    go_enter Try.func40, Try.ntmps40
    go_wp2_with (first
      | ((with_reducible refine gate_dst (N := 5) rfl ?_); refine Kd.R_lit (Kd.int .u8) _ 5 ?hg (N := 5) ?hd (xs := ([] : List Int)) (inner := []) (ok := fun _ => True) (okp := fun _ => True) ?hr ?hp (fun _ hk => hk) trivial (Below.refl _ _) (Nat.le_refl _) (by simp) ?_; (case hd => rfl); (case hg => rfl); (case hr => first | (go_simp; done) | (go_simp; rfl)); (case hp => exact (Reps.none _ _)); intro v1 w1 ho1 hb1 hg_ hnew_; clear hg_ hnew_; have HO := Aside0.mk ho1; have HB := Aside0.mk hb1; clear ho1 hb1)
      | ((with_reducible refine gate_builtin (b := .append) (xs := #[.tmp 5, .tmp 6]) rfl ?_); at_builtin; refine Kd.R_append_rows (Kd.int .u8) (w0 := w) w.heap.size rfl (.tmp 5) (.tmp 6) 28 5 (.int .u8 0) 1 rfl Try.underlying28 info_u8 rfl (by decide) (by omega) v1 [] l _ _ _ (fun _ => True) (fun _ => False) rfl rfl ?aO ?aR (fun _ _ h => h) (fun _ h => h.elim) ?aF ?aB ?aS ?aL ?_; (case aR => exact (Kd.C_below HR.out HB.out)); (case aB => exact HB.out); (case aF => exact (fun _ _ => trivial)); (case aO => exact HO.out); (case aS => exact below_size HB.out); (case aL => have := HC.out; simp; omega); intro v2 w2 ho hb hg hat; have HO2 := Aside0.mk ho; have HB2 := Aside0.mk hb; clear ho hb hg hat))
    go_ret
    exact ⟨_, rfl, by have := HO2.out; simpa using this, HB2.out⟩

theorem collect_calls {gf : Nat} {lb : Array Value} {Kp : Nat → Prop} {xs : List Nat} {w : World} (hit : Iter Try.prog gf lb (fun p : Nat => #[.int .i64 (p : Int)]) (fun _ => False) Kp xs w)
    (hK : ∀ k, Kp k → k < w.heap.size) (eg : ∀ args w, (callFunc gf args).run Try.prog w = .ok (.enter gf args) w) (hlen : xs.length * 8 < 140737488355328) :
    Calls Try.prog 41 #[.func (.func gf) #[] lb] w fun e w' => ∃ v, e = .returned v ∧ Kd.R (Kd.int .i64) 3 w' w.heap.size (fun _ => True) v (int xs) ∧ Below w.heap.size w w' := by
  have HH := Lib.hid (appendSeq_calls hit hK eg hlen)
  go_enter Try.func41, Try.ntmps41
  go_wp2_with (go_at_call 52; refine HH.out.mono ?_; rintro e w' ⟨v, rfl, hR, hB⟩)
  go_ret
  exact ⟨v, rfl, hR, hB⟩

theorem kept_lt {B : Nat} {A : Option Addr} {n : Nat} {W w : World} {l : List Int} {k : IntKind} (hB : B < W.heap.size) (hC : Kd.C (Kd.int k) w A n l) (hw : w.heap.size ≤ W.heap.size) : ∀ q, kept B A n q → q < W.heap.size := by
  rintro q (rfl | ⟨ad, rfl, hn, rfl⟩)
  · exact hB
  · obtain ⟨ad', e, hc⟩ := cells_of_C hC 0 hn
    cases e
    obtain ⟨o, ho, _⟩ := cells_of_cell hc
    have := (Array.getElem?_eq_some_iff.1 ho).1
    rw [add_block] at this
    omega

set_option maxRecDepth 100000 in
set_option maxHeartbeats 1000000 in
theorem ones_total (A : Option Addr) (c : Nat) (l : List Int) (w : World) (hr : Kd.C (Kd.int .u8) w A l.length l) (hl : bytesB l = true) (hlen : l.length < 1000000000000) :
    Calls Try.prog 24 #[.slice A l.length c] w fun e w' => e = .returned (.int .i64 ((onesL (nat l)).length : Int)) ∧ Below w.heap.size w w' := by
  have hB := Boxed.new w 28 (.slice A l.length c)
  have hC := Kd.C_below hr ((Below.refl _ w).alloc (Nat.le_refl _) (.cells #[.slice A l.length c] 28))
  have hit := ones1_iter w.heap.size A c l _ hl (by omega) hB hC
  have hol := onesL_length (nat l)
  rw [nat_length] at hol
  have HH := Lib.hid (count_calls hit (kept_lt (by simp) hr (by simp)) (enters_of Try.func53 (by kernel_rfl) rfl) (by omega))
  have HR := Lib.hid hr
  clear hB hC hit hr hol
  go_enter Try.func24, Try.ntmps24
  go_wp2_with (first | (go_at_call 42; refine (ones_calls _ _ _ _).mono ?_; rintro e w' ⟨rfl, rfl⟩) | (go_at_call 44; refine HH.out.mono ?_; rintro e w' ⟨rfl, hB⟩))
  go_ret
  exact ⟨rfl, ((Below.refl _ w).alloc (Nat.le_refl _) _).trans (hB.mono (by simp))⟩

set_option maxRecDepth 100000 in
set_option maxHeartbeats 2000000 in
theorem apart_no (A : Option Addr) (c : Nat) (l : List Int) (A1 : Option Addr) (c1 : Nat) (m : List Int) (w : World) (hne : ¬ l.length = m.length) :
    Calls Try.prog 19 #[.slice A l.length c, .slice A1 m.length c1] w fun e w' => ∃ v, e = .returned v ∧ Kd.R (Kd.int .i64) 3 w' w.heap.size (fun _ => True) v [] ∧ Below w.heap.size w w' := by
  have h1 : (l.length != m.length) = true := by simpa using hne
  go_enter Try.func19, Try.ntmps19
  go_wp2
  go_ret
  exact ⟨_, rfl, Kd.R_nil _ _ _ _ _, Below.refl _ _⟩

set_option maxRecDepth 100000 in
set_option maxHeartbeats 4000000 in
theorem apart_yes (A : Option Addr) (c : Nat) (l : List Int) (A1 : Option Addr) (c1 : Nat) (m : List Int) (w : World) (hr : Kd.C (Kd.int .u8) w A l.length l) (hc : l.length ≤ c) (hr1 : Kd.C (Kd.int .u8) w A1 m.length m) (he : l.length = m.length)
    (hl : bytesB l = true) (hm : bytesB m = true) (hlen : l.length < 1000000000000) :
    Calls Try.prog 19 #[.slice A l.length c, .slice A1 m.length c1] w fun e w' => ∃ v, e = .returned v ∧ Kd.R (Kd.int .i64) 3 w' w.heap.size (fun _ => True) v (int (onesL (xorL (nat l) (nat m)))) ∧ Below w.heap.size w w' := by
  have h1 : (l.length != m.length) = false := by simpa using he
  have hlenm : m.length < 1000000000000 := by omega
  have HE := Lib.hid he
  have HR := Lib.hid hr
  have HR1 := Lib.hid hr1
  clear he hr hr1
  go_enter Try.func19, Try.ntmps19
  go_wp2_with (go_at_call 40; refine (clone_u8 A c l _ HR.out hc (by omega)).mono ?_; rintro e w1 ⟨v1, rfl, hR1, hB1⟩; have HV := Lib.hid hR1; have HB := Lib.hid hB1; clear hR1 hB1)
  obtain ⟨A', c', hv1⟩ := Kd.R_slice HV.out
  subst hv1
  go_loopw [17] (fun v17 wr => ∃ i : Nat, i ≤ m.length ∧ v17 = .int .i64 i ∧ Hid (Kd.R (Kd.int .u8) 5 wr w.heap.size (fun _ => True) (.slice A' l.length c') (int (xorTo (nat l) (nat m) i))) ∧ Hid (Below w.heap.size w wr)) (fun v17 _ => m.length - (intOf v17).toNat)
  case atStart => exact ⟨0, Nat.zero_le _, rfl, by rw [xorTo_zero, int_nat hl]; exact HV, HB⟩
  case round =>
    obtain ⟨i, hi, rfl, hRi, hBi⟩ := hrel
    by_cases hlt : i < m.length
    · have hRi' := hRi.out
      have hlx : (int (xorTo (nat l) (nat m) i)).length = l.length := by rw [int_length, xorTo_length, nat_length]
      have ho := Kd.own_of_R hRi'
      obtain ⟨g, hg⟩ : ∃ g, A' = some ⟨g, 0, none⟩ := by
        rcases ho.2 with ⟨hz, _⟩ | ⟨g, cap, cur, hz, _⟩
        · injection hz with _ hz2 _; have := HE.out; omega
        · injection hz with hz1 _ _; exact ⟨g, hz1⟩
      subst hg
      rw [← hlx] at hRi'
      obtain ⟨hx1, hx2⟩ := Kd.R_cell (0 : Int) hRi' (i : Int) (by omega) (by rw [hlx]; have := HE.out; omega)
      obtain ⟨ad, rfl, hy⟩ := cells_of_C (Kd.C_below HR1.out hBi.out) i hlt
      have e1 : rdOf (0 : Int) (int (xorTo (nat l) (nat m) i)) (i : Int) = (((nat l).getD i 0 : Nat) : Int) := by
        have := xorTo_get (nat l) (nat m) i i (by rw [nat_length]; have := HE.out; omega)
        simp [rdOf, int, List.getD_eq_getElem?_getD, this]
      rw [e1, Int.toNat_natCast] at hx1
      rw [Int.toNat_natCast] at hx2
      rw [bytesB_nat hm] at hy
      have hxl := nat_lt hl i
      have hyl := nat_lt hm i
      have hxor := castx ((nat l).getD i 0) ((nat m).getD i 0) hxl hyl
      have hput := (Kd.R_put hRi' (i : Int) (((nat l).getD i 0 ^^^ (nat m).getD i 0 : Nat) : Int)).1
      have hsucc := xorTo_succ (nat l) (nat m) i (by rw [nat_length]; have := HE.out; omega)
      have hset : (int (xorTo (nat l) (nat m) i)).set i (((nat l).getD i 0 ^^^ (nat m).getD i 0 : Nat) : Int) = int (xorTo (nat l) (nat m) (i + 1)) := by
        rw [hsucc]; unfold int; rw [List.map_set]; rfl
      rw [Int.toNat_natCast, hset, hlx] at hput
      have hbase := own_base ho g (by simp [Value.ownBlock])
      have hil : i < l.length := by have := HE.out; omega
      have HP := Lib.hid hput
      clear hput hset hsucc hRi' ho e1 hlx
      generalize (nat l).getD i 0 = x at *
      generalize (nat m).getD i 0 = y at *
      have HX := Lib.hid hxor
      clear hxor
      go_wp2
      go_roundw
      case rel =>
        refine ⟨i + 1, by omega, by simp, ?_, hBi.out.setCell (p := ⟨g, i, none⟩) hbase _⟩
        have := HP.out
        rw [← HX.out] at this
        exact this
      case measure => simp [intOf]; omega
    · obtain rfl : i = m.length := by omega
      have hRi' := hRi.out
      have hbb : bytesB (int (xorTo (nat l) (nat m) m.length)) = true := bytesB_int (xorTo_lt (nat_mem_lt hl) (nat_mem_lt hm) _)
      have hxl : (int (xorTo (nat l) (nat m) m.length)).length = l.length := by rw [int_length, xorTo_length, nat_length]
      have hall : nat (int (xorTo (nat l) (nat m) m.length)) = xorL (nat l) (nat m) := by
        rw [nat_int, ← HE.out, ← nat_length l]; exact xorTo_all _ _ (by rw [nat_length, nat_length]; exact HE.out)
      obtain ⟨A2, c2, hv2, hc2, hC2⟩ := Kd.R_reads hRi'
      rw [hxl] at hv2
      injection hv2 with q1 _ q3
      subst q1
      subst q3
      have hBx := Boxed.new wr 28 (.slice A' l.length c')
      have hCx := Kd.C_below hC2 ((Below.refl _ wr).alloc (Nat.le_refl _) (.cells #[.slice A' l.length c'] 28))
      have hit := ones1_iter wr.heap.size A' c' _ _ hbb (by omega) (by rw [hxl]; exact hBx) hCx
      have hol := onesL_length (nat (int (xorTo (nat l) (nat m) m.length)))
      rw [nat_length, hxl] at hol
      have HH := Lib.hid (collect_calls hit (kept_lt (by simp) hC2 (by simp)) (enters_of Try.func53 (by kernel_rfl) rfl) (by omega))
      rw [hall] at HH
      clear hRi' hbb hxl hall hC2 hBx hCx hit hol
      go_wp2_with (first | (go_at_call 42; refine (ones_calls _ _ _ _).mono ?_; rintro e w' ⟨rfl, rfl⟩) | (go_at_call 41; refine HH.out.mono ?_; rintro e w' ⟨v, rfl, hRv, hBv⟩; have HRv := Lib.hid hRv; have HBv := Lib.hid hBv; clear hRv hBv))
      go_ret
      exact ⟨v, rfl, Kd.R_lower HRv.out (by simp; have := hBi.out.size; omega), (hBi.out.alloc hBi.out.size _).trans (HBv.out.mono (by simp; have := hBi.out.size; omega))⟩

end Go.Proofs.YtnlbekdjepkhcaaS
