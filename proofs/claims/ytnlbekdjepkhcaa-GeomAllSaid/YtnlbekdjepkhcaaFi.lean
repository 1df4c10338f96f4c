/-
  Iterators: what is no more than there (Dead, Defd), yields, ranges over functions.
-/
import Derived.Test.YtnlbekdjepkhcaaFh
set_option linter.unusedVariables false
set_option linter.unusedSimpArgs false
namespace Go.Proofs.YtnlbekdjepkhcaaF
open Go Go.Shelf Go.Proofs.YtnlbekdjepkhcaaS

/-- A block of which nothing is known but that it is there. -/
def Dead (b : Nat) (w : World) : Prop := b < w.heap.size
/-- The mark of what is deferred, with nothing in it. -/
def Defd (b : Nat) (w : World) : Prop := w.heap[b]? = some (.deferred (some []))
section
variable {b b' n : Nat} {w w' : World} {T X X' : Nat → Prop} {p : World → Prop}
theorem Dead.lt (h : Dead b w) : b < w.heap.size := h
theorem Dead.ne (h : Dead b w) (hb : w.heap.size ≤ b') : b ≠ b' := by unfold Dead at h; omega
theorem Dead.step (h : Dead b w) (hO : Only T w w') (_ : ¬ T b) : Dead b w' := Nat.lt_of_lt_of_le h hO.size
theorem Dead.step0 (h : Dead b w) (hO : Only No w w') : Dead b w' := Nat.lt_of_lt_of_le h hO.size
theorem Defd.lt (h : Defd b w) : b < w.heap.size := (Array.getElem?_eq_some_iff.1 h).1
theorem Defd.ne (h : Defd b w) (hb : w.heap.size ≤ b') : b ≠ b' := by have := h.lt; omega
theorem Defd.step (h : Defd b w) (hO : Only T w w') (hT : ¬ T b) : Defd b w' := hO.heap h hT
theorem Defd.step0 (h : Defd b w) (hO : Only No w w') : Defd b w' := hO.heap h id
theorem Arr.dead {e : TypeId} {cs : List Value} (h : Arr e b cs w) : Dead b w := h.lt
theorem xx_new (hb : n ≤ b) (h : ∀ k, k < n → X' k → X k) : ∀ k, k < n → Or1 b X' k → X k := fun k hk t => t.elim (fun e => by omega) (h k hk)
theorem or1_skip (h : ∀ k, T k → X k) : ∀ k, T k → Or1 b X k := fun k t => .inr (h k t)
theorem marks_ok (h : Defd b w) : MarksOk [b] w := ⟨by simp, fun r hr => by rw [List.mem_singleton.1 hr]; exact h⟩
theorem only_mem (h : Only (· ∈ [b]) w w') : Only (Is1 b) w w' := h.mono fun k _ hk => List.mem_singleton.1 hk
end
section
variable {P : Program} {d : Option Tmp} {tt : TypeId} {s : String} {af : Array Edge} {g : Option (Nat × Bool)} {ρ : Operand → Value} {w : World}
theorem d_funcL {f : Nat} {yl : List Operand} {ys : List Value} (hb : yl.map ρ = ys) : DV P ⟨d, .makeFunc (.func f) #[] yl.toArray, tt, s, af, g⟩ ρ w (.func (.func f) #[] ys.toArray) :=
  d_func (by simp) (by rw [← hb]; simp)
theorem d_yield {l : Nat} {x : Operand} {xl : List Operand} {al : List Value} {R : Value → World → Prop} {ts : Array TypeId} (hx : ρ x = .func (.yield l) #[] #[]) (ha : xl.map ρ = al)
    (hy : YieldAt Fence.wide 0 P l al.toArray w fun e W' => ∃ u, e = .returned u ∧ R u W') : Does P ⟨d, .call ⟨.value x, xl.toArray, ts⟩, tt, s, af, g⟩ ρ w R := by
  obtain ⟨fn, tmps, assign, body, hr, hround⟩ := hy
  refine ⟨by simp, ?_⟩
  have ha' : xl.toArray.map ρ = al.toArray := by rw [← ha]; simp
  have : (execOp ρ ⟨d, .call ⟨.value x, xl.toArray, ts⟩, tt, s, af, g⟩).run P w = .ok (.round l fn tmps assign body) w := by
    have hd : (Deferred.ofValue (Value.func (Fn.yield l) #[] #[]) al.toArray).run P w = .ok { target := .fn (.yield l) #[], args := al.toArray } w := by simp [Deferred.ofValue, go_sem]
    simp only [execOp, resolve, Sem.run_bind, hx, ha', Sem.run_pure, Result.andThen, invoke, hd]
    simpa using hr
  rw [this]
  exact hround
/-- What a round owes an iterator. -/
def YR {α : Type} (J Jx : List α → World → Prop) (Kp : Nat → Prop) (pre : List α) (w : World) : Value → World → Prop := fun u w' =>
  ∃ t : Bool, u = .bool t ∧ (t = true → J pre w' ∧ Only (fun k => ¬ Kp k) w w') ∧ (t = false → Jx pre w')
theorem yr_of {α : Type} {J Jx : List α → World → Prop} {Kp : Nat → Prop} {pre : List α} {l : Nat} {args : Array Value}
    (h : YieldAt Fence.wide 0 P l args w fun e W' => (e = .returned (.bool true) ∧ J pre W' ∧ Only (fun k => ¬ Kp k) w W') ∨ (e = .returned (.bool false) ∧ Jx pre W')) :
    YieldAt Fence.wide 0 P l args w fun e W' => ∃ u, e = .returned u ∧ YR J Jx Kp pre w u W' := h.mono fun e W' h => by
  rcases h with ⟨he, hJ, hO⟩ | ⟨he, hJ⟩
  · exact ⟨_, he, true, rfl, fun _ => ⟨hJ, hO⟩, fun h => by cases h⟩
  · exact ⟨_, he, false, rfl, (fun h => by cases h), fun _ => hJ⟩
theorem iter_of {α : Type} {gf : Nat} {lb : List Value} {encs : α → List Value} {Pv Kp : Nat → Prop} {xs : List α} {w0 : World}
    (h : ∀ (l : Nat) (J Jx : List α → World → Prop) (W : World), Only (fun k => ¬ Kp k) w0 W → Stable Pv J → Stable Pv Jx →
      (∀ pre x, pre ++ [x] <+: xs → ∀ W1, J pre W1 → YieldAt Fence.wide 0 P l (encs x).toArray W1 fun e W' => ∃ u, e = .returned u ∧ YR J Jx Kp (pre ++ [x]) W1 u W') → J [] W →
      CW P gf (.func (.yield l) #[] #[] :: lb).toArray W (Rt fun _ W' => J xs W' ∨ ∃ pre, pre <+: xs ∧ Jx pre W')) : Iter P gf lb.toArray (fun x => (encs x).toArray) Pv Kp xs w0 := by
  intro l J Jx W hO hJ hJx hy h0
  have := h l J Jx W hO hJ hJx (fun pre x hp W1 h1 => yr_of (hy pre x hp W1 h1)) h0
  have e : (#[.func (.yield l) #[] #[]] : Array Value) ++ lb.toArray = (.func (.yield l) #[] #[] :: lb).toArray := by simp
  rw [e]
  exact CallsIn.mono this fun e W' ⟨u, he, hu⟩ => ⟨⟨u, he⟩, hu⟩
end
theorem not_no {b : Nat} : ¬ No b := id
theorem not_or1 {b c : Nat} {O : Nat → Prop} (h : b ≠ c) (hO : ¬ O b) : ¬ Or1 c O b := fun t => t.elim h hO
theorem not_orq {b : Nat} {bo : Option Nat} {O : Nat → Prop} (h : ∀ x, bo = some x → ¬ x = b) (hO : ¬ O b) : ¬ Orq bo O b := fun t => t.elim (fun e => h b e rfl) hO
theorem lt_no {n : Nat} : ∀ k, No k → k < n := fun _ t => t.elim
theorem lt_or1 {b n : Nat} {O : Nat → Prop} (h : b < n) (hO : ∀ k, O k → k < n) : ∀ k, Or1 b O k → k < n := fun k t => t.elim (fun e => by rw [e]; exact h) (hO k)
theorem lt_orq {bo : Option Nat} {n : Nat} {O : Nat → Prop} (h : ∀ x, bo = some x → x < n) (hO : ∀ k, O k → k < n) : ∀ k, Orq bo O k → k < n := fun k t => t.elim (h k) (hO k)
theorem stab_tl {n D L : Nat} {Pv T : Nat → Prop} (hD : n = D) (hL : n + 1 = L) (h : ∀ k, Pv k → T k) : ∀ k, k < n → (Pv k ∨ k = D ∨ k = L) → T k := fun k hk t => t.elim (h k) (fun t => by omega)
theorem stab_b {n D L b : Nat} {Pv : Nat → Prop} (hD : n = D) (hL : n + 1 = L) (hb : b < n) (hp : ¬ Pv b) : ¬ (Pv b ∨ b = D ∨ b = L) := fun t => t.elim hp (fun t => by omega)
theorem stab_q {D L : Nat} {Pv : Nat → Prop} {bo : Option Nat} (nD : ∀ x, bo = some x → ¬ x = D) (nL : ∀ x, bo = some x → ¬ x = L) (hp : ∀ b, bo = some b → ¬ Pv b) : ∀ b, bo = some b → ¬ (Pv b ∨ b = D ∨ b = L) := fun b hb t => t.elim (hp b hb) (fun t => t.elim (nD b hb) (nL b hb))
theorem q_T {n D L : Nat} {bo' bo : Option Nat} {T : Nat → Prop} (q : Fr bo' bo n) (hT : ∀ k, bo = some k → T k) (nD : ∀ x, bo' = some x → ¬ x = D) (nL : ∀ x, bo' = some x → ¬ x = L) (hD : n = D) (hL : n + 1 = L) : ∀ k, bo' = some k → (T k ∨ L < k) := fun k hk => by
  rcases q k hk with h | h
  · exact .inl (hT k h)
  · have := nD k hk; have := nL k hk; exact .inr (by omega)
theorem stab_p {D L : Nat} {Pv X : Nat → Prop} (h : ∀ k, Pv k → X k) : ∀ k, (Pv k ∨ k = D ∨ k = L) → Or1 L (Or1 D X) k := fun k t => by
  rcases t with t | t | t
  · exact .inr (.inr (h k t))
  · exact .inr (.inl t)
  · exact .inl t
theorem nx_or1 {b c m : Nat} {X : Nat → Prop} (h : c ≠ b) (hX : ∀ k, k < m → X k → k ≠ b) : ∀ k, k < m → Or1 c X k → k ≠ b := fun k hk t => t.elim (fun e => by rw [e]; exact h) (hX k hk)
theorem nx_orq {b m : Nat} {bo : Option Nat} {X : Nat → Prop} (h : ∀ x, bo = some x → ¬ x = b) (hX : ∀ k, k < m → X k → k ≠ b) : ∀ k, k < m → Orq bo X k → k ≠ b := fun k hk t => t.elim (fun e => h k e) (hX k hk)
/-- What is to be kept by the rounds: all that stands, but for what lies in O. -/
def Kp (O : Nat → Prop) (n : Nat) : Nat → Prop := fun k => k < n ∧ ¬ O k
def OrN (O : Nat → Prop) (n : Nat) : Nat → Prop := fun k => O k ∨ n ≤ k
theorem nkp {O : Nat → Prop} {n k : Nat} (h : ¬ Kp O n k) : OrN O n k := by
  by_cases hk : k < n
  · exact .inl (Classical.byContradiction fun ho => h ⟨hk, ho⟩)
  · exact .inr (by omega)
theorem Ps.kp {X O : Nat → Prop} {p : World → Prop} {w w' : World} (h : Ps X p w) (hX : ∀ k, O k → X k) (hO : Only (fun k => ¬ Kp O w.heap.size k) w w') : Ps (OrN X w.heap.size) p w' := fun w2 h2 =>
  h w2 fun k hk hx => (h2 k (Nat.lt_of_lt_of_le hk hO.size) (fun t => t.elim hx (fun h => by omega))).trans (hO.same k hk fun hn => (nkp hn).elim (fun o => hx (hX k o)) (fun h => by omega))
theorem Ps.yield {X O : Nat → Prop} {p : World → Prop} {w w' : World} {n : Nat} (h : Ps (OrN X n) p w) (hX : ∀ k, O k → X k) (hO : Only (fun k => ¬ Kp O n k) w w') : Ps (OrN X n) p w' :=
  h.step hO fun k hk => (nkp hk).imp (hX k) id
def psets : List Value → List Tmp → List Value → List Value
  | l, p :: ps, v :: vs => psets (lset l p v) ps vs
  | l, _, _ => l
theorem psets_eq : ∀ (ps : List Tmp) (vs l : List Value), (ps.zip vs).foldl (fun (t : Array Value) (x : Tmp × Value) => t.setIfInBounds x.1 x.2) l.toArray = (psets l ps vs).toArray
  | [], _, _ => by simp [psets]
  | _ :: _, [], _ => by simp [psets]
  | p :: ps, v :: vs, l => by
    simp only [List.zip_cons_cons, List.foldl_cons, psets]
    rw [← psets_eq ps vs (lset l p v), lset_eq]
    simp
section
variable {P : Program} {w : World} {r : Option Nat}
theorem range_ {α : Type} {g : Operand} {ps : List Tmp} {assign body : Code} {Q : Exit → Act → World → Prop} {l : List Value} {rs : List Nat} {gf : Nat} {lb : List Value} {fn : Func} {c : Code} {encs : α → List Value} {Pv O : Nat → Prop} {xs : List α} {D L : Nat}
    (hD : w.heap.size = D) (hL : w.heap.size + 1 = L) (hg : ev l g = .func (.func gf) #[] lb.toArray) (hf : P.funcs[gf]? = some fn) (hn : (fn.name == "runtime.NumGoroutine") = false) (hb : fn.body = some c)
    (hseq : Iter P gf lb.toArray (fun x => (encs x).toArray) Pv (Kp O w.heap.size) xs w) (hPK : ∀ k, Pv k → Kp O w.heap.size k) (hps : ∀ x, (encs x).length = ps.length) (hO : ∀ k, O k → k < w.heap.size)
    (I : List α → World → Prop) (Ix : Code → List α → World → Prop)
    (hI : ∀ pre W W', I pre W → Only (fun k => Pv k ∨ k = D ∨ k = L) W W' → I pre W') (hIx : ∀ c pre W W', Ix c pre W → Only (fun k => Pv k ∨ k = D ∨ k = L) W W' → Ix c pre W') (h0 : I [] w)
    (hround : ∀ (pre : List α) (x : α) (W : World), pre ++ [x] <+: xs → I pre W → L < W.heap.size →
      assign.wpIn (Wf (some L)) 0 P (Exit.then (fun a₁ W₁ => Only (fun k => O k ∨ L < k) W W₁ ∧ ∀ W₂, Only (Is1 L) W₁ W₂ → W₂.heap.size = W₁.heap.size →
          body.wpIn (Wf (some L)) 0 P (roundEnd (fun k => O k ∨ L < k) I Ix (pre ++ [x]) W₂) a₁ W₂) (fun _ _ _ => False)) (fr (psets l ps (encs x)) []) W)
    (hdone : ∀ W, I xs W → Defd D W → Q .normal (fr l (marks (D :: rs))) W)
    (hstop : ∀ (c : Code) (pre : List α) W, pre <+: xs → Ix c pre W → Defd D W → c.wpIn (Wf none) 0 P Q (fr l (marks (D :: rs))) W) :
    (Code.rangeFunc g ps.toArray assign body).wpIn (Wf none) 0 P Q (fr l (marks rs)) w := by
  subst hD; subst hL
  refine wpIn_range (gf := gf) (lb := lb.toArray) (by rw [fr_eval]; exact hg) (enters_of hf hn hb) hseq (Only.refl _ _) (fun k h => h.1) hPK (fun x => by simp [hps])
    (fun k => O k ∨ w.heap.size + 1 < k) (fun k hk => ⟨fun h => hk.elim h.2 (fun h2 => by have := h.1; omega), ?_, ?_⟩) I Ix (fun pre W W' h ho => hI pre W W' h ho) (fun c pre W W' h ho => hIx c pre W W' h ho) h0 ?_ hdone hstop
  · intro e
    rcases hk with hk | hk
    · have := hO k hk; omega
    · omega
  · intro e
    rcases hk with hk | hk
    · have := hO k hk; omega
    · omega
  · intro pre x W hp hi hlt
    have e : ({ tmps := (ps.toArray.zip (encs x).toArray).foldl (fun t (p, v) => t.setIfInBounds p v) (fr l (marks rs)).tmps, defers := [] } : Act) = fr (psets l ps (encs x)) [] := by
      show Act.mk _ _ = Act.mk _ _
      congr 1
      rw [← psets_eq, fr_tmps, ← Array.foldl_toList]
      simp
    rw [e]
    exact hround pre x W hp hi hlt
end
end Go.Proofs.YtnlbekdjepkhcaaF
