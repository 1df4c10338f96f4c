/-
  What each operation does, in words of values and facts.
-/
import Derived.Test.YtnlbekdjepkhcaaFb
import Derived.WalkKit
import Derived.Laws.BytesString
import Derived.Laws.CopyRow
import Derived.Laws.Cells
import Derived.Laws.Strings
import Derived.Laws.Entries
import Derived.Shelf.Abstract
import Derived.Laws.BitsLemmas
set_option linter.unusedVariables false
set_option linter.unusedSimpArgs false
namespace Go.Proofs.YtnlbekdjepkhcaaF
open Go Go.Shelf Go.Proofs.YtnlbekdjepkhcaaS

section
variable {P : Program} {d : Option Tmp} {tt : TypeId} {s : String} {af : Array Edge} {g : Option (Nat × Bool)} {ρ : Operand → Value} {w : World}

/-- The value is v; nothing is done to the world. -/
abbrev DV (P : Program) (o : Oper) (ρ : Operand → Value) (w : World) (v : Value) : Prop := Does P o ρ w fun u w' => u = v ∧ w' = w

theorem Does.of_value {o : Oper} {v : Value} {w' : World} {R : Value → World → Prop} (hd : ∀ c, o.op ≠ .defer c) (h : (execOp ρ o).run P w = .ok (.value v) w') (hr : R v w') : Does P o ρ w R := by
  refine ⟨hd, ?_⟩
  rw [h]; exact hr
theorem Does.of_skip {o : Oper} {w' : World} {R : Value → World → Prop} (hd : ∀ c, o.op ≠ .defer c) (h : (execOp ρ o).run P w = .ok .skip w') (hr : R undef w') : Does P o ρ w R := by
  refine ⟨hd, ?_⟩
  rw [h]; exact hr

/-- ends in a value: how a step of a region of open order is told. -/
theorem Does.is {o : Oper} {v : Value} {O : Nat → Prop} {vs : Nat → Value} (h : DV P o ρ w v) : Does P o ρ w fun u w' => (RF.is O v).p vs u w.heap.size w'.heap.size w' ∧ Only No w w' :=
  h.mono fun u w' ⟨h1, h2⟩ => ⟨h1, by rw [h2]; exact Only.refl _ _⟩

theorem d_move {x : Operand} {v : Value} (hx : ρ x = v) : DV P ⟨d, .move x, tt, s, af, g⟩ ρ w v := Does.of_value (by simp) rfl ⟨hx, rfl⟩
theorem d_assign {x : Operand} {v : Value} (hx : ρ x = v) : DV P ⟨d, .assign x, tt, s, af, g⟩ ρ w v := Does.of_value (by simp) rfl ⟨hx, rfl⟩
theorem d_pick {c x y : Operand} {b : Bool} {v : Value} (hc : ρ c = .bool b) (hv : (if b then ρ x else ρ y) = v) : DV P ⟨d, .pick c x y, tt, s, af, g⟩ ρ w v := by
  refine Does.of_value (v := v) (w' := w) (by simp) ?_ ⟨rfl, rfl⟩
  rw [← hv]
  cases b <;> simp [execOp, hc, asBool, go_sem]

theorem d_bin {op : BinOp} {x y : Operand} {t t2 : TypeId} {k : IntKind} {m n : Int} {v : Value} (hx : ρ x = .int k m) (hy : ρ y = .int k n) (hv : (binOp op t (.int k m) (.int k n)).run P w = .ok v w) :
    DV P ⟨d, .binOp op t x y t2, tt, s, af, g⟩ ρ w v := by
  refine Does.of_value (v := v) (w' := w) (by simp) ?_ ⟨rfl, rfl⟩
  have : (eqGuard op t x y (.int k m) (.int k n)).run P w = .ok () w := by
    unfold eqGuard
    split <;> simp [go_sem]
  simp [execOp, hx, hy, go_sem, this, hv]
theorem d_add {x y : Operand} {t t2 : TypeId} {k : IntKind} {m n r : Int} (hx : ρ x = .int k m) (hy : ρ y = .int k n) (hr : k.wrap (m + n) = r) : DV P ⟨d, .binOp .add t x y t2, tt, s, af, g⟩ ρ w (.int k r) :=
  d_bin hx hy (by rw [← hr]; simp [binOp, Op.intArith, go_sem])
theorem d_sub {x y : Operand} {t t2 : TypeId} {k : IntKind} {m n r : Int} (hx : ρ x = .int k m) (hy : ρ y = .int k n) (hr : k.wrap (m - n) = r) : DV P ⟨d, .binOp .sub t x y t2, tt, s, af, g⟩ ρ w (.int k r) :=
  d_bin hx hy (by rw [← hr]; simp [binOp, Op.intArith, go_sem])
theorem d_mul {x y : Operand} {t t2 : TypeId} {k : IntKind} {m n r : Int} (hx : ρ x = .int k m) (hy : ρ y = .int k n) (hr : k.wrap (m * n) = r) : DV P ⟨d, .binOp .mul t x y t2, tt, s, af, g⟩ ρ w (.int k r) :=
  d_bin hx hy (by rw [← hr]; simp [binOp, Op.intArith, go_sem])
theorem d_quo {x y : Operand} {t t2 : TypeId} {k : IntKind} {m n r : Int} (hx : ρ x = .int k m) (hy : ρ y = .int k n) (hn : n ≠ 0) (hr : k.wrap (m.tdiv n) = r) : DV P ⟨d, .binOp .quo t x y t2, tt, s, af, g⟩ ρ w (.int k r) :=
  d_bin hx hy (by rw [← hr]; simp [binOp, Op.intDiv, go_sem, hn])
theorem d_rem {x y : Operand} {t t2 : TypeId} {k : IntKind} {m n r : Int} (hx : ρ x = .int k m) (hy : ρ y = .int k n) (hn : n ≠ 0) (hr : m.tmod n = r) : DV P ⟨d, .binOp .rem t x y t2, tt, s, af, g⟩ ρ w (.int k r) :=
  d_bin hx hy (by rw [← hr]; simp [binOp, Op.intDiv, go_sem, hn])
theorem d_lss {x y : Operand} {t t2 : TypeId} {k : IntKind} {m n : Int} {b : Bool} (hx : ρ x = .int k m) (hy : ρ y = .int k n) (hb : decide (m < n) = b) : DV P ⟨d, .binOp .lss t x y t2, tt, s, af, g⟩ ρ w (.bool b) :=
  d_bin hx hy (by rw [← hb]; simp [binOp, Op.intCmp, go_sem])
theorem d_leq {x y : Operand} {t t2 : TypeId} {k : IntKind} {m n : Int} {b : Bool} (hx : ρ x = .int k m) (hy : ρ y = .int k n) (hb : decide (m ≤ n) = b) : DV P ⟨d, .binOp .leq t x y t2, tt, s, af, g⟩ ρ w (.bool b) :=
  d_bin hx hy (by rw [← hb]; simp [binOp, Op.intCmp, go_sem])
theorem d_gtr {x y : Operand} {t t2 : TypeId} {k : IntKind} {m n : Int} {b : Bool} (hx : ρ x = .int k m) (hy : ρ y = .int k n) (hb : decide (n < m) = b) : DV P ⟨d, .binOp .gtr t x y t2, tt, s, af, g⟩ ρ w (.bool b) :=
  d_bin hx hy (by rw [← hb]; simp [binOp, Op.intCmp, go_sem])
theorem d_geq {x y : Operand} {t t2 : TypeId} {k : IntKind} {m n : Int} {b : Bool} (hx : ρ x = .int k m) (hy : ρ y = .int k n) (hb : decide (n ≤ m) = b) : DV P ⟨d, .binOp .geq t x y t2, tt, s, af, g⟩ ρ w (.bool b) :=
  d_bin hx hy (by rw [← hb]; simp [binOp, Op.intCmp, go_sem])
theorem d_eql {x y : Operand} {t t2 : TypeId} {k : IntKind} {m n : Int} {b : Bool} (hx : ρ x = .int k m) (hy : ρ y = .int k n) (hb : decide (m = n) = b) : DV P ⟨d, .binOp .eql t x y t2, tt, s, af, g⟩ ρ w (.bool b) :=
  d_bin hx hy (by rw [← hb]; simp [binOp, Op.intCmp, go_sem]; rfl)
theorem d_neq {x y : Operand} {t t2 : TypeId} {k : IntKind} {m n : Int} {b : Bool} (hx : ρ x = .int k m) (hy : ρ y = .int k n) (hb : (!decide (m = n)) = b) : DV P ⟨d, .binOp .neq t x y t2, tt, s, af, g⟩ ρ w (.bool b) :=
  d_bin hx hy (by rw [← hb]; simp [binOp, Op.intCmp, go_sem]; rfl)
theorem d_bits {op : BinOp} (hop : op = .and ∨ op = .or ∨ op = .xor ∨ op = .andNot) {x y : Operand} {t t2 : TypeId} {k : IntKind} {m n r : Int} (hx : ρ x = .int k m) (hy : ρ y = .int k n) (hr : Go.bits op k m n = r) :
    DV P ⟨d, .binOp op t x y t2, tt, s, af, g⟩ ρ w (.int k r) := by
  subst hr
  rcases hop with rfl | rfl | rfl | rfl <;> exact d_bin hx hy (by simp [binOp, Op.intBits, go_sem, Go.bits])
theorem d_shl {x y : Operand} {t t2 : TypeId} {k yk : IntKind} {m n r : Int} (hx : ρ x = .int k m) (hy : ρ y = .int yk n) (hn : 0 ≤ n) (hr : k.wrap (m * 2 ^ min n.toNat k.bits) = r) : DV P ⟨d, .binOp .shl t x y t2, tt, s, af, g⟩ ρ w (.int k r) := by
  refine Does.of_value (v := .int k r) (w' := w) (by simp) ?_ ⟨rfl, rfl⟩
  rw [← hr]
  have : ¬ n < 0 := by omega
  simp [execOp, hx, hy, go_sem, eqGuard, binOp, Op.shift, this]
theorem d_shr {x y : Operand} {t t2 : TypeId} {k yk : IntKind} {m n r : Int} (hx : ρ x = .int k m) (hy : ρ y = .int yk n) (hn : 0 ≤ n) (hr : m.fdiv (2 ^ min n.toNat k.bits) = r) : DV P ⟨d, .binOp .shr t x y t2, tt, s, af, g⟩ ρ w (.int k r) := by
  refine Does.of_value (v := .int k r) (w' := w) (by simp) ?_ ⟨rfl, rfl⟩
  rw [← hr]
  have : ¬ n < 0 := by omega
  simp [execOp, hx, hy, go_sem, eqGuard, binOp, Op.shift, this]
theorem d_not {x : Operand} {t : TypeId} {b c : Bool} (hx : ρ x = .bool b) (hc : (!b) = c) : DV P ⟨d, .unOp .not t x, tt, s, af, g⟩ ρ w (.bool c) :=
  Does.of_value (by simp) (by simp [execOp, hx, Op.unary, go_sem]; rfl) ⟨by rw [← hc], rfl⟩
theorem d_neg {x : Operand} {t : TypeId} {k : IntKind} {m r : Int} (hx : ρ x = .int k m) (hr : k.wrap (0 - m) = r) : DV P ⟨d, .unOp .neg t x, tt, s, af, g⟩ ρ w (.int k r) :=
  Does.of_value (by simp) (by simp only [execOp, hx, Op.unary, Op.intArith, hr]; rfl) ⟨rfl, rfl⟩
theorem run_equal_bool {t : TypeId} (ht : P.underlying t = some .bool) {b c : Bool} {w : World} : (Op.equal t (.bool b) (.bool c)).run P w = .ok (b == c) w := by
  have gen : ∀ n, (Op.equalIn (n + 1) t (.bool b) (.bool c)).run P w = .ok (b == c) w := by
    intro n
    rw [Op.equalIn]
    simp only [Sem.run_bind, run_underlying ht, Result.andThen]
    rfl
  exact gen 9999
theorem d_beql {x y : Operand} {t t2 : TypeId} {b c r : Bool} (ht : P.underlying t = some .bool) (hx : ρ x = .bool b) (hy : ρ y = .bool c) (hr : (b == c) = r) : DV P ⟨d, .binOp .eql t x y t2, tt, s, af, g⟩ ρ w (.bool r) := by
  refine Does.of_value (v := .bool r) (w' := w) (by simp) ?_ ⟨rfl, rfl⟩
  rw [← hr]
  simp [execOp, hx, hy, go_sem, eqGuard, binOp, run_equal_bool ht]
theorem d_bneq {x y : Operand} {t t2 : TypeId} {b c r : Bool} (ht : P.underlying t = some .bool) (hx : ρ x = .bool b) (hy : ρ y = .bool c) (hr : (!(b == c)) = r) : DV P ⟨d, .binOp .neq t x y t2, tt, s, af, g⟩ ρ w (.bool r) := by
  refine Does.of_value (v := .bool r) (w' := w) (by simp) ?_ ⟨rfl, rfl⟩
  rw [← hr]
  simp [execOp, hx, hy, go_sem, eqGuard, binOp, run_equal_bool ht]
def strOf (l : List UInt8) : ByteArray := ⟨l.toArray⟩
theorem strOf_list (l : List UInt8) : (strOf l).toList = l := ByteArray.toList_mk l
theorem d_seql {x y : Operand} {t t2 : TypeId} {a c : List UInt8} {b : Bool} (hx : ρ x = .string (strOf a)) (hy : ρ y = .string (strOf c)) (hb : decide (a = c) = b) : DV P ⟨d, .binOp .eql t x y t2, tt, s, af, g⟩ ρ w (.bool b) := by
  refine Does.of_value (v := .bool b) (w' := w) (by simp) ?_ ⟨rfl, rfl⟩
  rw [← hb]
  have hq : (a == c) = decide (a = c) := by rw [Bool.eq_iff_iff]; simp
  simp [execOp, hx, hy, go_sem, eqGuard, binOp, Op.stringOp, strOf_list, hq]
theorem d_sneq {x y : Operand} {t t2 : TypeId} {a c : List UInt8} {b : Bool} (hx : ρ x = .string (strOf a)) (hy : ρ y = .string (strOf c)) (hb : (!decide (a = c)) = b) : DV P ⟨d, .binOp .neq t x y t2, tt, s, af, g⟩ ρ w (.bool b) := by
  refine Does.of_value (v := .bool b) (w' := w) (by simp) ?_ ⟨rfl, rfl⟩
  rw [← hb]
  have hq : (a == c) = decide (a = c) := by rw [Bool.eq_iff_iff]; simp
  simp [execOp, hx, hy, go_sem, eqGuard, binOp, Op.stringOp, strOf_list, hq]
theorem d_conv {src dst : TypeId} {x : Operand} {k k0 : IntKind} {n r : Int} {u : TypeDesc} (hs : P.underlying src = some u) (hd : P.underlying dst = some (.int k)) (hx : ρ x = .int k0 n) (hr : k.wrap n = r) : DV P ⟨d, .convert src dst x, tt, s, af, g⟩ ρ w (.int k r) := by
  refine Does.of_value (v := .int k r) (w' := w) (by simp) ?_ ⟨rfl, rfl⟩
  rw [← hr]
  simp [execOp, hx, go_sem, convert, run_underlying hs, run_underlying hd, Conv.intToInt]
theorem d_func {fn : Fn} {a b : Array Operand} {x y : Array Value} (ha : a.map ρ = x) (hb : b.map ρ = y) : DV P ⟨d, .makeFunc fn a b, tt, s, af, g⟩ ρ w (.func fn x y) :=
  Does.of_value (by simp) (by simp only [execOp, ha, hb, Instr.makeFunc]; rfl) ⟨rfl, rfl⟩
theorem d_extract {x : Operand} {i : Nat} {vs : Array Value} {v : Value} (hx : ρ x = .tuple vs) (hv : vs[i]? = some v) : DV P ⟨d, .extract x i, tt, s, af, g⟩ ρ w v :=
  Does.of_value (v := v) (by simp) (by simp [execOp, hx, Instr.extract, hv, go_sem]) ⟨rfl, rfl⟩
theorem d_max2 {x y : Operand} {ts : Array TypeId} {k : IntKind} {m n r : Int} (hx : ρ x = .int k m) (hy : ρ y = .int k n) (hr : (if n > m then n else m) = r) : DV P ⟨d, .call ⟨.builtin .max, #[x, y], ts⟩, tt, s, af, g⟩ ρ w (.int k r) := by
  refine Does.of_value (v := .int k r) (w' := w) (by simp) ?_ ⟨rfl, rfl⟩
  rw [← hr]
  simp [execOp, resolve, invoke, builtin, Builtin.max_, Builtin.max2, hx, hy, go_sem]
theorem d_min2 {x y : Operand} {ts : Array TypeId} {k : IntKind} {m n r : Int} (hx : ρ x = .int k m) (hy : ρ y = .int k n) (hr : (if n < m then n else m) = r) : DV P ⟨d, .call ⟨.builtin .min, #[x, y], ts⟩, tt, s, af, g⟩ ρ w (.int k r) := by
  refine Does.of_value (v := .int k r) (w' := w) (by simp) ?_ ⟨rfl, rfl⟩
  rw [← hr]
  simp [execOp, resolve, invoke, builtin, Builtin.min_, Builtin.min2, hx, hy, go_sem]
theorem d_min3 {x y z : Operand} {ts : Array TypeId} {k : IntKind} {m n q r : Int} (hx : ρ x = .int k m) (hy : ρ y = .int k n) (hz : ρ z = .int k q) (hr : min (min m n) q = r) : DV P ⟨d, .call ⟨.builtin .min, #[x, y, z], ts⟩, tt, s, af, g⟩ ρ w (.int k r) := by
  refine Does.of_value (v := .int k r) (w' := w) (by simp) ?_ ⟨rfl, rfl⟩
  rw [← hr]
  have h : ∀ a b : Int, (if b < a then b else a) = min a b := fun a b => by rw [Int.min_def]; split <;> split <;> omega
  simp [execOp, resolve, invoke, builtin, Builtin.min_, Builtin.min2, hx, hy, hz, go_sem, h]
/-- A call of a function by its number. -/
theorem d_call {f : Nat} {xl : List Operand} {ts : Array TypeId} {al : List Value} {fn : Func} {R : Value → World → Prop} (hf : P.funcs[f]? = some fn) {c : Code} (hn : (fn.name == "runtime.NumGoroutine") = false) (hb : fn.body = some c) (ha : xl.map ρ = al) (hfv : ρ (.func f) = .func (.func f) #[] #[])
    (h : CW P f al.toArray w (Rt R)) : Does P ⟨d, .call ⟨.value (.func f), xl.toArray, ts⟩, tt, s, af, g⟩ ρ w R := by
  refine ⟨by simp, ?_⟩
  have : (execOp ρ ⟨d, .call ⟨.value (.func f), xl.toArray, ts⟩, tt, s, af, g⟩).run P w = .ok (.enter f al.toArray) w := by
    have he := enters_of hf hn hb al.toArray w
    have ha' : xl.toArray.map ρ = al.toArray := by rw [List.map_toArray, ha]
    simp only [execOp, resolve, hfv, ha', Sem.run_bind, Deferred.ofValue, Sem.run_pure, Result.andThen, invoke, Array.append_empty, Array.empty_append, he]
  rw [this]
  exact h
/-- A call of a function value. -/
theorem d_callv {x : Operand} {f : Nat} {cl : List Value} {xl : List Operand} {ts : Array TypeId} {al al' : List Value} {fn : Func} {R : Value → World → Prop} (hx : ρ x = .func (.func f) #[] cl.toArray) (hf : P.funcs[f]? = some fn) {c : Code} (hn : (fn.name == "runtime.NumGoroutine") = false) (hb : fn.body = some c) (ha : xl.map ρ = al) (ha' : al ++ cl = al')
    (h : CW P f al'.toArray w (Rt R)) : Does P ⟨d, .call ⟨.value x, xl.toArray, ts⟩, tt, s, af, g⟩ ρ w R := by
  refine ⟨by simp, ?_⟩
  have : (execOp ρ ⟨d, .call ⟨.value x, xl.toArray, ts⟩, tt, s, af, g⟩).run P w = .ok (.enter f al'.toArray) w := by
    have he := enters_of hf hn hb al'.toArray w
    have ha2 : xl.toArray.map ρ = al.toArray := by rw [List.map_toArray, ha]
    have ha3 : al.toArray ++ cl.toArray = al'.toArray := by rw [List.append_toArray, ha']
    simp only [execOp, resolve, hx, ha2, Sem.run_bind, Deferred.ofValue, Sem.run_pure, Result.andThen, invoke, Array.empty_append, ha3, he]
  rw [this]
  exact h
end
end Go.Proofs.YtnlbekdjepkhcaaF
