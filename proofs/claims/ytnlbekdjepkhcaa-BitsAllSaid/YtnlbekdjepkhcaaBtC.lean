import Derived.Test.YtnlbekdjepkhcaaBtM
import Derived.Test.YtnlbekdjepkhcaaGrow
set_option linter.unusedSimpArgs false
set_option linter.unusedVariables false
namespace Go.Proofs.YtnlbekdjepkhcaaBM
open Go.RowKit Go.Proofs.YtnlbekdjepkhcaaW.PrintWords Go.Proofs.YtnlbekdjepkhcaaW.PrintLast Go.Proofs.YtnlbekdjepkhcaaW.PrintMore Go.Proofs.YtnlbekdjepkhcaaG Ram

def mixI (a b m : List Int) : List Int := int (mixL (nat a) (nat b) (nat m))
def flipI (a l : List Int) : List Int := int (flips (nat a) l)
def apartI (a b : List Int) : List Int := apartL (nat a) (nat b)
def onesI (a : List Int) : Int := (((onesL (nat a)).length : Nat) : Int)

theorem info_u8 : (Try.prog.info? 5).map (fun i => i.size) = some 1 := by kernel_rfl
theorem take_g {l : List Int} {k : Nat} {u : Value} {w : World} (hu : (Fact.seq (Kd.int .u8) l).p u w) (hk : k ≤ l.length) :
    ∃ u', (∀ W, (Instr.slice 28 u none (some (.int .i64 (k : Int))) none).run Try.prog W = .ok u' W) ∧ (Fact.seq (Kd.int .u8) (l.take k)).p u' w := by
  obtain ⟨A, c, rfl, hle, hC⟩ := hu
  obtain ⟨i0, hi0, hsz⟩ := Option.map_eq_some_iff.1 info_u8
  obtain ⟨h1, h2, h3⟩ := print_take_of (P := Try.prog) (Value.int .u8) 0 28 5 .i64 Try.underlying28 hi0 hsz A c l (k : Int) (by omega) (by omega) hle
  rw [Int.toNat_natCast] at h1 h2 h3
  exact ⟨_, h1, A, c, rfl, h3, Kd.C_of_reads (h1 := fun _ => rfl) (h2 _ (Kd.reads_of_C hC))⟩

theorem known_g (w : World) : Calls Try.prog 18 #[] w fun e w' => ∃ u, e = .returned u ∧ (Fact.is (.bool true)).p u w' ∧ Grew w w' := by
  refine (Go.Proofs.Ytnlbekdjepkhcaa.QG.ramekinlaw6_known.calls true w known_f).mono ?_
  rintro e w' ⟨rfl, hb⟩
  exact ⟨_, rfl, rfl, hb⟩
theorem mix_g {w : World} {u0 u1 u2 : Value} {l0 l1 l2 : List Int} (h0 : (Fact.seq (Kd.int .u8) l0).p u0 w) (h1 : (Fact.seq (Kd.int .u8) l1).p u1 w) (h2 : (Fact.seq (Kd.int .u8) l2).p u2 w)
    (b0 : bytesB l0 = true) (b1 : bytesB l1 = true) (b2 : bytesB l2 = true) (n0 : l0.length < 1000000000000) (n2 : l2.length < 1000000000000) :
    Calls Try.prog 22 #[u0, u1, u2] w fun e w' => ∃ u, e = .returned u ∧ (Fact.seq (Kd.int .u8) (mixI l0 l1 l2)).p u w' ∧ Grew w w' := by
  obtain ⟨A0, c0, rfl, e0, C0⟩ := h0
  obtain ⟨A1, c1, rfl, e1, C1⟩ := h1
  obtain ⟨A2, c2, rfl, e2, C2⟩ := h2
  refine (Go.Proofs.Ytnlbekdjepkhcaa.QG.bits_Mix.calls (l0.length + 1) A0 c0 l0 A1 c1 l1 A2 c2 l2 (mixI l0 l1 l2) w C0 e0 C1 e1 C2 e2 ?_).mono ?_
  · have := mix_f (nat l0) (nat l1) (nat l2) (nat_mem_lt b0) (nat_mem_lt b1) (nat_mem_lt b2) (by rw [nat_length]; exact n0) (by rw [nat_length]; exact n2)
    rw [int_nat b0, int_nat b1, int_nat b2, nat_length] at this
    exact this
  · rintro e w' ⟨v, rfl, hR, hb⟩
    exact ⟨_, rfl, seq_of_R hR, hb⟩
theorem flip_g {w : World} {u0 u1 : Value} {l0 l1 : List Int} (h0 : (Fact.seq (Kd.int .u8) l0).p u0 w) (h1 : (Fact.seq (Kd.int .i64) l1).p u1 w)
    (b0 : bytesB l0 = true) (n0 : l0.length < 1000000000000) (n1 : l1.length < 9000000000000000000) :
    Calls Try.prog 20 #[u0, u1] w fun e w' => ∃ u, e = .returned u ∧ (Fact.seq (Kd.int .u8) (flipI l0 l1)).p u w' ∧ Grew w w' := by
  obtain ⟨A0, c0, rfl, e0, C0⟩ := h0
  obtain ⟨A1, c1, rfl, e1, C1⟩ := h1
  refine (Go.Proofs.Ytnlbekdjepkhcaa.QG.bits_Flip.calls (l1.length + 1) A0 c0 l0 A1 c1 l1 (flipI l0 l1) w C0 e0 C1 e1 ?_).mono ?_
  · have := flip_f (nat l0) l1 (nat_mem_lt b0) (by rw [nat_length]; exact n0) n1
    rw [int_nat b0] at this
    exact this
  · rintro e w' ⟨v, rfl, hR, hb⟩
    exact ⟨_, rfl, seq_of_R hR, hb⟩
theorem apart_g {w : World} {u0 u1 : Value} {l0 l1 : List Int} (h0 : (Fact.seq (Kd.int .u8) l0).p u0 w) (h1 : (Fact.seq (Kd.int .u8) l1).p u1 w)
    (b0 : bytesB l0 = true) (b1 : bytesB l1 = true) (n0 : l0.length < 1000000000000) (he : l0.length = l1.length) :
    Calls Try.prog 19 #[u0, u1] w fun e w' => ∃ u, e = .returned u ∧ (Fact.seq (Kd.int .i64) (apartI l0 l1)).p u w' ∧ Grew w w' := by
  obtain ⟨A0, c0, rfl, e0, C0⟩ := h0
  obtain ⟨A1, c1, rfl, e1, C1⟩ := h1
  refine (Go.Proofs.Ytnlbekdjepkhcaa.QG.bits_Apart.calls A0 c0 l0 A1 c1 l1 (apartI l0 l1) w C0 e0 C1 e1 ?_).mono ?_
  · unfold Go.Proofs.Ytnlbekdjepkhcaa.QG.bits_Apart.f
    rw [if_pos he, if_pos ⟨b0, b1, n0⟩]; rfl
  · rintro e w' ⟨v, rfl, hR, hb⟩
    exact ⟨_, rfl, seq_of_R hR, hb⟩
theorem ones_g {w : World} {u0 : Value} {l0 : List Int} (h0 : (Fact.seq (Kd.int .u8) l0).p u0 w) (b0 : bytesB l0 = true) (n0 : l0.length < 1000000000000) :
    Calls Try.prog 24 #[u0] w fun e w' => ∃ u, e = .returned u ∧ (Fact.is (.int .i64 (onesI l0))).p u w' ∧ Grew w w' := by
  obtain ⟨A0, c0, rfl, e0, C0⟩ := h0
  refine (Go.Proofs.YtnlbekdjepkhcaaS.ones_total A0 c0 l0 w C0 b0 n0).mono ?_
  rintro e w' ⟨rfl, hb⟩
  exact ⟨_, rfl, rfl, hb⟩
theorem bytes_int {a : List Nat} (h : Bytes a) : bytesB (int a) = true := bytesB_int h
theorem bytes_nat {l : List Int} (h : bytesB l = true) : Bytes (nat l) := nat_mem_lt h
theorem bytes_take {l : List Int} (h : bytesB l = true) (k : Nat) : bytesB (l.take k) = true := by
  unfold bytesB at *
  rw [List.all_eq_true] at *
  exact fun x hx => h x (List.mem_of_mem_take hx)
theorem mixI_bytes {a b : List Int} (m : List Int) (ha : bytesB a = true) (hb : bytesB b = true) : bytesB (mixI a b m) = true := bytesB_int (mixL_bytes _ (nat_mem_lt ha) (nat_mem_lt hb))
theorem flipI_bytes {a : List Int} (l : List Int) (ha : bytesB a = true) : bytesB (flipI a l) = true := bytesB_int (flips_bytes _ (nat_mem_lt ha))
theorem mixI_length {a b : List Int} (m : List Int) (h : a.length = b.length) : (mixI a b m).length = a.length := by
  unfold mixI; rw [int_length, mixL_length _ (by rw [nat_length, nat_length, h]), nat_length]
theorem flipI_length (a l : List Int) : (flipI a l).length = a.length := by unfold flipI; rw [int_length, flips_length, nat_length]
theorem nat_one (a : Nat) : nat [(a : Int)] = [a] := rfl
theorem one_bytes {a : Int} (h0 : 0 ≤ a) (h1 : a < 256) : bytesB [a] = true := by simp [bytesB]; omega
theorem wf_u8 {x : Int} (h : (Lit.int .u8 x).wf = true) : 0 ≤ x ∧ x < 256 := by
  simp [Lit.wf] at h; have e1 : IntKind.u8.min = 0 := rfl; have e2 : IntKind.u8.max = 255 := rfl; omega
theorem wf_bytes {l : List Int} (h : ∀ x ∈ l, (Lit.int .u8 x).wf = true) : Ram.bytesB l = true := by
  unfold Ram.bytesB
  rw [List.all_eq_true]
  intro x hx
  have := wf_u8 (h x hx)
  simp; omega
end Go.Proofs.YtnlbekdjepkhcaaBM
