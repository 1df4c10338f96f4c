/-
  Flash in memory: what stands (Nd), what an operation on it does.
-/
import Derived.Test.YtpamdlnobekihaaNb
set_option linter.unusedVariables false
set_option linter.unusedSimpArgs false
namespace Go.Proofs.YtpamdlnobekihaaF
open Go Go.Shelf Go.Proofs.YtpamdlnobekihaaS Ram

/-! ### A pointer, and nil -/
section
variable {P : Program} {d : Option Tmp} {tt : TypeId} {s : String} {af : Array Edge} {g : Option (Nat × Bool)} {ρ : Operand → Value} {w : World}
theorem dv_to {o : Oper} {v v' : Value} (h : DV P o ρ w v) (e : v = v') : DV P o ρ w v' := e ▸ h
theorem run_equal_pnil {t e : TypeId} (ht : P.underlying t = some (.pointer e)) {A : Addr} {w : World} : (Op.equal t (.pointer (some A)) (.pointer none)).run P w = .ok false w := by
  have gen : ∀ m, (Op.equalIn (m + 1) t (.pointer (some A)) (.pointer none)).run P w = .ok false w := by
    intro m
    rw [Op.equalIn]
    simp only [Sem.run_bind, run_underlying ht, Result.andThen]
    rfl
  exact gen 9999
theorem d_peql {t t2 e : TypeId} {x y : Operand} {b o : Nat} (ht : P.underlying t = some (.pointer e)) (hx : ρ x = ptr b o) (hy : ρ y = .pointer none) : DV P ⟨d, .binOp .eql t x y t2, tt, s, af, g⟩ ρ w (.bool false) := by
  have hx' : ρ x = .pointer (some ⟨b, o, none⟩) := hx
  refine Does.of_value (v := .bool false) (w' := w) (by simp) ?_ ⟨rfl, rfl⟩
  simp [execOp, hx', hy, go_sem, eqGuard, binOp, run_equal_pnil ht]
end

/-! ### Pairs -/
def eP (x : Nat × Nat) : List Value := [eN x.1, eN x.2]
section
variable {P : Program} {d : Option Tmp} {tt : TypeId} {s : String} {af : Array Edge} {g : Option (Nat × Bool)} {ρ : Operand → Value} {w : World}
theorem d_buildA {t e : TypeId} {n sz bytes bytes' : Nat} {z z' : Value} {ps : List (Nat × Operand)} {qs : List (Nat × List Value)} {zs cs : List Value} (ht : P.underlying t = some (.array n e)) (hz : TI P t sz bytes z) (he : TI P e 1 bytes' z') (hzs : z.cells.toList = zs)
    (hq : ps.map (fun x => (x.1, (ρ x.2).cells.toList)) = qs) (hf : fillP (fun i => some (i, 1)) zs qs = some cs) : DV P ⟨d, .build t ps.toArray, tt, s, af, g⟩ ρ w (.agg cs.toArray) := by
  refine Does.of_value (v := .agg cs.toArray) (w' := w) (by simp) ?_ ⟨rfl, rfl⟩
  have h3 := fill_of (pl := fun i => some (i, 1)) (ps := ps.map (fun x => (x.1, ρ x.2))) (cs := z.cells) (cs' := cs) rfl (by rw [hzs, List.map_map, ← hf, ← hq]; rfl)
  have h4 : (ps.toArray.map fun (i, x) => (i, ρ x)).toList = ps.map (fun x => (x.1, ρ x.2)) := by simp
  have h5 : (fun i : Nat => some (i * 1, 1)) = fun i => some (i, 1) := funext fun i => by rw [Nat.mul_one]
  simp only [execOp, Instr.build, Sem.run_bind, hz.zero, Result.andThen, run_underlying ht, he.size, h4, h5, h3, Sem.run_pure]
theorem d_buildL2 {t e : TypeId} {n sz bytes : Nat} {z : Value} {ps : List (Nat × Operand)} {qs : List (Nat × List Value)} {zs cs : List Value} (ht : P.underlying t = some (.slice e)) (hz : TI P e sz bytes z) (hzs : (madeCells z.cells (n * sz)).toList = zs) (hn : n * sz ≤ 16777216)
    (hq : ps.map (fun x => (x.1, (ρ x.2).cells.toList)) = qs) (hf : fillP (fun i => some (i * sz, sz)) zs qs = some cs) : Does P ⟨d, .buildSlice t n ps.toArray, tt, s, af, g⟩ ρ w (Made e w (fun b => sli b 0 n n) cs) := by
  refine d_buildSlice ht hz hn ?_
  have h3 := fill_of (pl := fun i => some (i * sz, sz)) (ps := ps.map (fun x => (x.1, ρ x.2))) (cs := madeCells z.cells (n * sz)) (cs' := cs) rfl (by rw [hzs, List.map_map, ← hf, ← hq]; rfl)
  have h4 : (ps.toArray.map fun (i, x) => (i, ρ x)).toList = ps.map (fun x => (x.1, ρ x.2)) := by simp
  rw [h4, ← h3]
theorem made_two : (madeCells (Value.agg #[Value.int .i64 0, Value.int .i64 0]).cells (2 * 2)).toList = [eN 0, eN 0, eN 0, eN 0] := by
  unfold madeCells
  rw [Array.toList_map, Array.toList_range]
  show List.map _ [0, 1, 2, 3] = _
  rfl
theorem d_loadAtA {α : Type} {n bytes : Nat} {enc : α → List Value} {v : α} {t : TypeId} {x : Operand} {z u : Value} {X : Nat → Prop} (ht : Ag P t) (hz : TI P t n bytes z) (hx : ρ x = u) (hA : Ps X (At (kA n enc) v u) w) : DV P ⟨d, .load t x, tt, s, af, g⟩ ρ w (.agg (enc v).toArray) := by
  obtain ⟨p, hu, hl, hc⟩ := hA.now
  subst hu
  refine Does.of_value (v := .agg (enc v).toArray) (w' := w) (by simp) ?_ ⟨rfl, rfl⟩
  have h1 : (loadCells p (enc v).length).run P w = .ok (enc v).toArray w := run_loadCells_list (P := P) w _ (enc v) (fun j y hj => hc j y hj)
  rw [hl] at h1
  have h2 : (loadCellsFrom p 0 n #[]).run P w = .ok (enc v).toArray w := h1
  simp [execOp, Instr.loadAt, Instr.sureAddr, hx, loadVar, run_isAgg_agg ht, hz.size, go_sem, h2]
theorem arr_two {e : TypeId} {b : Nat} {x y : Nat × Nat} {X : Nat → Prop} (h : Arr e b [eN x.1, eN x.2, eN y.1, eN y.2] w) (hX : ∀ k, k < w.heap.size → X k → k ≠ b) : Ps X (Seq (kA 2 eP) [x, y] (sli b 0 2 2)) w := by
  refine (h.ps fun w' h' => ?_).less hX
  refine ⟨some ⟨b, 0, none⟩, 2, rfl, Nat.le_refl _, fun i v hi => ⟨_, rfl, ?_⟩⟩
  have ha : ∀ i j, ((⟨b, 0, none⟩ : Addr).add (i * 2)).add j = ⟨b, i * 2 + j, none⟩ := fun i j => by rw [add0, add0, Nat.zero_add]
  rcases i with _ | _ | i
  · obtain rfl : x = v := by simpa using hi
    refine ⟨rfl, fun j u hj => ?_⟩
    show w'.cell? (((⟨b, 0, none⟩ : Addr).add (0 * 2)).add j) = some u
    rw [ha]
    rcases j with _ | _ | j
    · exact h'.cell (by simpa [eP] using hj)
    · exact h'.cell (by simpa [eP] using hj)
    · simp [eP] at hj
  · obtain rfl : y = v := by simpa using hi
    refine ⟨rfl, fun j u hj => ?_⟩
    show w'.cell? (((⟨b, 0, none⟩ : Addr).add (1 * 2)).add j) = some u
    rw [ha]
    rcases j with _ | _ | j
    · exact h'.cell (by simpa [eP] using hj)
    · exact h'.cell (by simpa [eP] using hj)
    · simp [eP] at hj
  · simp at hi
end

/-! ### Owners that are sets of blocks -/
def Ors (S X : Nat → Prop) : Nat → Prop := fun k => S k ∨ X k
section
variable {S S' X X' O T Y : Nat → Prop} {n m b : Nat} {bo bo' : Option Nat} {base : World}
theorem ors_mono (h : ∀ k, O k → X k) : ∀ k, Ors S O k → Ors S X k := fun k t => t.imp id (h k)
theorem ors_skip (h : ∀ k, T k → X k) : ∀ k, T k → Ors S X k := fun k t => .inr (h k t)
theorem xx_ors (h : ∀ k, k < n → X' k → X k) : ∀ k, k < n → Ors S X' k → Ors S X k := fun k hk t => t.imp id (h k hk)
theorem inS (h : X b) : Ors S X b := .inr h
theorem sub1 : ∀ k, S k → Ors S X k := fun _ h => .inl h
theorem sub2 (h : ∀ k, S k → X k) : ∀ k, S k → Or1 b X k := fun k t => .inr (h k t)
theorem subq (h : ∀ k, S k → X k) : ∀ k, S k → Orq bo X k := fun k t => .inr (h k t)
theorem subs (h : ∀ k, S k → X k) : ∀ k, S k → Ors S' X k := fun k t => .inr (h k t)
theorem lt_ors (h : ∀ k, S k → k < n) (hO : ∀ k, O k → k < n) : ∀ k, Ors S O k → k < n := fun k t => t.elim (h k) (hO k)
theorem ors_old (hS : ∀ k, S k → k < n) (h : ∀ k, k < m → X k → Old n k) : ∀ k, k < m → Ors S X k → Old n k := fun k hk t => t.elim (hS k) (h k hk)
theorem os_of (h : ∀ k, S k → Y k) : ∀ k, k < m → Ors S No k → Y k := fun k _ t => t.elim (h k) fun t => t.elim
theorem lt_ors_old (h : ∀ k, X k → k < n) : ∀ k, k < m → X k → Old n k := fun k _ t => h k t
theorem lt_old (h : ∀ k, X k → k < n) : ∀ k, k < m → X k → Old n k := fun k _ t => h k t
theorem tl_sin (hb : ∀ k, S k → T k) (h : ∀ k, k < n → O k → T k) : ∀ k, k < n → Ors S O k → T k := fun k hk t => t.elim (hb k) (h k hk)
theorem tl_snew (hb : ∀ k, S k → n ≤ k) (h : ∀ k, k < n → O k → T k) : ∀ k, k < n → Ors S O k → T k := fun k hk t => t.elim (fun e => by have := hb k e; omega) (h k hk)
theorem xx_news (hb : ∀ k, S k → n ≤ k) (h : ∀ k, k < n → X' k → X k) : ∀ k, k < n → Ors S X' k → X k := fun k hk t => t.elim (fun e => by have := hb k e; omega) (h k hk)
theorem nx_ors (h : ¬ S b) (hX : ∀ k, k < m → X k → k ≠ b) : ∀ k, k < m → Ors S X k → k ≠ b := fun k hk t => t.elim (fun e he => h (he ▸ e)) (hX k hk)
theorem not_ors (h : ¬ S b) (hO : ¬ O b) : ¬ Ors S O b := fun t => t.elim h hO
/-! Y: the owners, X: those but the object. -/
theorem xo_s : ∀ k, k < n → Ors S X k → X k ∨ S k := fun k _ t => t.symm
theorem xo_or1 (h : ∀ k, k < n → Y k → X k ∨ S k) : ∀ k, k < n → Or1 b Y k → Or1 b X k ∨ S k := fun k hk t => t.elim (fun e => .inl (.inl e)) (fun e => (h k hk e).imp .inr id)
theorem xo_orq (h : ∀ k, k < n → Y k → X k ∨ S k) : ∀ k, k < n → Orq bo Y k → Orq bo X k ∨ S k := fun k hk t => t.elim (fun e => .inl (.inl e)) (fun e => (h k hk e).imp .inr id)
theorem xo_ors (h : ∀ k, k < n → Y k → X k ∨ S k) : ∀ k, k < n → Ors S' Y k → Ors S' X k ∨ S k := fun k hk t => t.elim (fun e => .inl (.inl e)) (fun e => (h k hk e).imp .inr id)
theorem ox_s : ∀ k, k < n → X k ∨ S k → Ors S X k := fun k _ t => t.symm
theorem ox_or1 (h : ∀ k, k < n → X k ∨ S k → Y k) : ∀ k, k < n → Or1 b X k ∨ S k → Or1 b Y k := fun k hk t => t.elim (fun e => e.elim .inl (fun e => .inr (h k hk (.inl e)))) (fun e => .inr (h k hk (.inr e)))
theorem ox_orq (h : ∀ k, k < n → X k ∨ S k → Y k) : ∀ k, k < n → Orq bo X k ∨ S k → Orq bo Y k := fun k hk t => t.elim (fun e => e.elim .inl (fun e => .inr (h k hk (.inl e)))) (fun e => .inr (h k hk (.inr e)))
theorem ox_ors (h : ∀ k, k < n → X k ∨ S k → Y k) : ∀ k, k < n → Ors S' X k ∨ S k → Ors S' Y k := fun k hk t => t.elim (fun e => e.elim .inl (fun e => .inr (h k hk (.inl e)))) (fun e => .inr (h k hk (.inr e)))
end

/-! ### Blocks made in a region of open order, owned from there on -/
def RF.mk_ (O : Nat → Prop) (mk : Nat → Value) (e : TypeId) (cs : List Value) (n0 : Nat) (h : ∀ k, O k → k < n0) : RF O :=
  ⟨fun _ u _ _ w => ∃ b, u = mk b ∧ Arr e b cs w ∧ n0 ≤ b, fun hp ho => by obtain ⟨b, h1, h2, h3⟩ := hp; exact ⟨b, h1, h2.step ho (fun t => by have := h b t; omega), h3⟩⟩
def RF.mkv_ (O : Nat → Prop) (mk : Nat → Value) (e : TypeId) (cs : (Nat → Value) → List Value) (n0 : Nat) (h : ∀ k, O k → k < n0) : RF O :=
  ⟨fun v u _ _ w => ∃ b, u = mk b ∧ Arr e b (cs v) w ∧ n0 ≤ b, fun hp ho => by obtain ⟨b, h1, h2, h3⟩ := hp; exact ⟨b, h1, h2.step ho (fun t => by have := h b t; omega), h3⟩⟩
theorem arr_ne {e1 e2 : TypeId} {b1 b2 : Nat} {c1 c2 : List Value} {w : World} (h1 : Arr e1 b1 c1 w) (h2 : Arr e2 b2 c2 w) (h : e1 ≠ e2) : b1 ≠ b2 := fun e => by
  subst e
  have h3 := h1.symm.trans h2
  injection h3 with h3
  injection h3 with _ h4
  exact h h4

/-! ### Flash -/
structure NdO (L : NL) (s : NS) (vd vz : List Value) (vm : Value) (w : World) : Prop where
  n : Arr L.tN L.bN (nandC L.bD L.bZ L.ub vm s) w
  d : Arr L.tD L.bD vd w
  z : Arr L.tZ L.bZ vz w
  k : ∀ j, j < s.gD → Arr L.tS (L.bk.getD j 0) (stC s.gB (s.bl j)) w
  u : Ps (fun k => L.bU ≠ some k) (Seq (kS (eK s.gB)) L.bk L.ub) w
structure NdR (s : NS) (vd vz : List Value) (vm : Value) (w : World) : Prop where
  d : Fam kB s.n s.dl vd w
  z : Fam kI s.n s.nl vz w
  m : Seq kB s.mask vm w
structure Nd (L : NL) (s : NS) (X : Nat → Prop) (w : World) : Prop where
  ok : s.Ok
  lk : L.bk.length = s.gD
  nd : L.bs.Nodup
  nu : ∀ x, L.bU = some x → x ∉ L.bs
  lt : ∀ k, L.S k → k < w.heap.size
  dis : ∀ k, X k → ¬ L.S k
  v : ∃ vd vz vm, vd.length = s.n ∧ vz.length = s.n ∧ NdO L s vd vz vm w ∧ Ps (fun k => X k ∨ L.S k) (NdR s vd vz vm) w
section
variable {L : NL} {s s' : NS} {X X' Y O T : Nat → Prop} {w w' : World} {b : Nat} {bo bo' : Option Nat} {vd vz : List Value} {vm : Value}
theorem NL.in_n : L.bN ∈ L.bs := by simp [NL.bs]
theorem NL.in_d : L.bD ∈ L.bs := by simp [NL.bs]
theorem NL.in_z : L.bZ ∈ L.bs := by simp [NL.bs]
theorem NL.in_k {j : Nat} (h : j < L.bk.length) : L.bk.getD j 0 ∈ L.bs := by
  have : L.bk.getD j 0 ∈ L.bk := by rw [List.getD_eq_getElem?_getD, List.getElem?_eq_getElem h]; exact List.getElem_mem h
  exact List.mem_cons_of_mem _ (List.mem_cons_of_mem _ (List.mem_cons_of_mem _ this))
theorem NdO.step (h : NdO L s vd vz vm w) (hl : L.bk.length = s.gD) (hO : Only O w w') (hX : ∀ k, O k → ¬ L.S k) : NdO L s vd vz vm w' where
  n := h.n.step hO fun e => hX _ e (.inl NL.in_n)
  d := h.d.step hO fun e => hX _ e (.inl NL.in_d)
  z := h.z.step hO fun e => hX _ e (.inl NL.in_z)
  k := fun j hj => (h.k j hj).step hO fun e => hX _ e (.inl (NL.in_k (by omega)))
  u := h.u.step hO fun k hk e => hX k hk (.inr e)
theorem Nd.re (h : Nd L s X w) (hO : Only O w w') (hX : ∀ k, O k → X k) (hXX : ∀ k, k < w.heap.size → X' k → X k) : Nd L s X' w' where
  ok := h.ok
  lk := h.lk
  nd := h.nd
  nu := h.nu
  lt := fun k hk => Nat.lt_of_lt_of_le (h.lt k hk) hO.size
  dis := fun k hk hs => h.dis k (hXX k (h.lt k hs) hk) hs
  v := by
    obtain ⟨vd, vz, vm, h1, h2, h3, h4⟩ := h.v
    exact ⟨vd, vz, vm, h1, h2, h3.step h.lk hO fun k hk => h.dis k (hX k hk), h4.re hO (fun k hk => .inl (hX k hk)) fun k hk t => t.imp (hXX k hk) id⟩
theorem Nd.step (h : Nd L s X w) (hO : Only T w w') (hT : ∀ k, T k → X k) : Nd L s X w' := h.re hO hT fun _ _ t => t
theorem Nd.step0 (h : Nd L s X w) (hO : Only No w w') : Nd L s X w' := h.step hO fun _ x => x.elim
theorem Nd.less (h : Nd L s X w) (hY : ∀ k, k < w.heap.size → Y k → X k) : Nd L s Y w := h.re (Only.refl No w) (fun _ t => t.elim) hY
theorem Nd.new (h : Nd L s X w) (hO : Only No w w') (hb : w.heap.size ≤ b) : Nd L s (Or1 b X) w' := h.re hO (fun _ t => t.elim) fun k hk t => t.elim (fun e => by omega) id
theorem Nd.newq (h : Nd L s X w) (hO : Only No w w') (hf : ∀ b, bo = some b → w.heap.size ≤ b) : Nd L s (Orq bo X) w' := h.re hO (fun _ t => t.elim) fun k hk t => t.elim (fun e => by have := hf k e; omega) id
theorem Nd.stepb (h : Nd L s X w) (hO : Only (Is1 b) w w') (hX : X b) : Nd L s X w' := h.step hO fun k t => by have : k = b := t; rw [this]; exact hX
theorem Nd.gr (h : Nd L s X w) (hO : Only (Isq bo) w w') (hX : ∀ k, bo = some k → X k) (hXX : ∀ k, k < w.heap.size → X' k → X k) : Nd L s X' w' := h.re hO hX hXX
theorem Nd.qnone (h : Nd L s X w) : Nd L s (Orq none X) w := h.less fun k _ t => t.elim (fun e => by cases e) id
theorem Nd.orN (h : Nd L s X w) : Nd L s (OrN X w.heap.size) w := h.less fun k hk t => t.elim id (fun t => by omega)
theorem Nd.neb (h : Nd L s X w) (hX : X b) : ¬ L.S b := h.dis b hX

theorem nd_to (h : Nd L s X w) (e : s = s') : Nd L s' X w := e ▸ h

/-! ### What is read -/
variable {P : Program} {d : Option Tmp} {tt : TypeId} {st : String} {af : Array Edge} {g : Option (Nat × Bool)} {ρ : Operand → Value} {x y : Operand} {t e : TypeId} {bytes i j f n : Nat} {z v u : Value} {k : IntKind}
theorem nd_ld (h : Nd L s X w) (ht : Sc P t) (hx : ρ x = ptr L.bN i) (hv : ∀ vm, (nandC L.bD L.bZ L.ub vm s)[i]? = some v) : DV P ⟨d, .load t x, tt, st, af, g⟩ ρ w v := by
  obtain ⟨vd, vz, vm, _, _, h3, _⟩ := h.v
  exact d_load ht hx h3.n (hv vm)
theorem nd_ldAg {vs : List Value} (h : Nd L s X w) (ht : Ag P t) (hz : TI P t n bytes z) (hx : ρ x = ptr L.bN i) (hv : ∀ vm, ((nandC L.bD L.bZ L.ub vm s).drop i).take n = vs) (hn : vs.length = n) : DV P ⟨d, .load t x, tt, st, af, g⟩ ρ w (.agg vs.toArray) := by
  obtain ⟨vd, vz, vm, _, _, h3, _⟩ := h.v
  exact d_loadAg ht hz hx h3.n (hv vm) hn
theorem nd_ldm (h : Nd L s X w) (hY : ∀ k, k < w.heap.size → Y k → X k ∨ L.S k) (ht : Sc P t) (hx : ρ x = ptr L.bN 13) : Does P ⟨d, .load t x, tt, st, af, g⟩ ρ w fun u w' => Ps Y (Seq kB s.mask u) w ∧ w = w' := by
  obtain ⟨vd, vz, vm, _, _, h3, h4⟩ := h.v
  exact (d_load (v := vm) ht hx h3.n rfl).mono fun u w' h => by obtain ⟨rfl, rfl⟩ := h; exact ⟨(h4.imp fun _ h => h.m).less hY, rfl⟩
theorem getD_some {l : List Value} (h : i < l.length) : l[i]? = some (l.getD i undef) := by rw [List.getD_eq_getElem?_getD, List.getElem?_eq_getElem h]; rfl
theorem nd_ldD (h : Nd L s X w) (hY : ∀ k, k < w.heap.size → Y k → X k ∨ L.S k) (ht : Sc P t) (hx : ρ x = ptr L.bD i) (hi : i < s.n) : Does P ⟨d, .load t x, tt, st, af, g⟩ ρ w fun u w' => Ps Y (Seq kB (s.dl i) u) w ∧ w = w' := by
  obtain ⟨vd, vz, vm, h1, h2, h3, h4⟩ := h.v
  exact (d_load ht hx h3.d (getD_some (by omega))).mono fun u w' h => by obtain ⟨rfl, rfl⟩ := h; exact ⟨(fam_at (h4.imp fun _ h => h.d) hi).less hY, rfl⟩
theorem nd_ldZ (h : Nd L s X w) (hY : ∀ k, k < w.heap.size → Y k → X k ∨ L.S k) (ht : Sc P t) (hx : ρ x = ptr L.bZ i) (hi : i < s.n) : Does P ⟨d, .load t x, tt, st, af, g⟩ ρ w fun u w' => Ps Y (Seq kI (s.nl i) u) w ∧ w = w' := by
  obtain ⟨vd, vz, vm, h1, h2, h3, h4⟩ := h.v
  exact (d_load ht hx h3.z (getD_some (by omega))).mono fun u w' h => by obtain ⟨rfl, rfl⟩ := h; exact ⟨(fam_at (h4.imp fun _ h => h.z) hi).less hY, rfl⟩
theorem nd_ixU (h : Nd L s X w) (ht : P.underlying t = some (.slice e)) (hz : TI P e 1 bytes z) (hx : ρ x = L.ub) (hy : ρ y = .int k (i : Int)) (hi : i < s.gD) : DV P ⟨d, .indexAddr t x y, tt, st, af, g⟩ ρ w (ixp L.ub i) := by
  obtain ⟨vd, vz, vm, h1, h2, h3, h4⟩ := h.v
  exact d_ix ht hz hx h3.u hy (by have := h.lk; omega)
theorem nd_ldU (h : Nd L s X w) (ht : Sc P t) (hx : ρ x = ixp L.ub i) (hi : i < s.gD) : DV P ⟨d, .load t x, tt, st, af, g⟩ ρ w (sli (L.bk.getD i 0) 0 s.gB s.gB) := by
  obtain ⟨vd, vz, vm, h1, h2, h3, h4⟩ := h.v
  exact d_ldx ht hx h3.u (v := L.bk.getD i 0) (by rw [List.getD_eq_getElem?_getD, List.getElem?_eq_getElem (by have := h.lk; omega)]; rfl)
theorem nd_ldS (h : Nd L s X w) (ht : Sc P t) (hx : ρ x = ptr (L.bk.getD i 0) (j * 3 + f)) (hi : i < s.gD) (hj : j < s.gB) (hf : f < 3) (hv : ([eN (s.bl i j).nx, eI (s.bl i j).er, .bool (s.bl i j).bad] : List Value)[f]? = some v) : DV P ⟨d, .load t x, tt, st, af, g⟩ ρ w v := by
  obtain ⟨vd, vz, vm, h1, h2, h3, h4⟩ := h.v
  refine d_load ht hx (h3.k i hi) ?_
  obtain ⟨a1, a2, a3⟩ := stC_at (f := s.bl i) hj
  rcases f with _ | _ | _ | f
  · rw [Nat.add_zero, a1]; simpa using hv
  · rw [a2]; simpa using hv
  · rw [a3]; simpa using hv
  · omega

/-! ### What is written -/
def NdW (L : NL) (s : NS) (X : Nat → Prop) (w : World) : Value → World → Prop := fun _ w' => Nd L s X w' ∧ Only L.S w w'
theorem Nd.mk_ (h : Nd L s X w) (ok : s'.Ok) (hg : s'.gD = s.gD) (hO : Only L.S w w') (hv : ∃ vd vz vm, vd.length = s'.n ∧ vz.length = s'.n ∧ NdO L s' vd vz vm w' ∧ Ps (fun k => X k ∨ L.S k) (NdR s' vd vz vm) w') : Nd L s' X w' where
  ok := ok
  lk := h.lk.trans hg.symm
  nd := h.nd
  nu := h.nu
  lt := fun k hk => Nat.lt_of_lt_of_le (h.lt k hk) hO.size
  dis := h.dis
  v := hv
theorem nd_ne {a c : Nat} (h : L.bs.Nodup) : L.bN ≠ L.bD ∧ L.bN ≠ L.bZ ∧ L.bD ≠ L.bZ ∧ (∀ j, j < L.bk.length → L.bk.getD j 0 ≠ L.bN ∧ L.bk.getD j 0 ≠ L.bD ∧ L.bk.getD j 0 ≠ L.bZ) ∧ (∀ i j, i < L.bk.length → j < L.bk.length → i ≠ j → L.bk.getD i 0 ≠ L.bk.getD j 0) := by
  unfold NL.bs at h
  simp only [List.nodup_cons, List.mem_cons, not_or] at h
  obtain ⟨⟨h1, h2, h3⟩, ⟨h4, h5⟩, h6, h7⟩ := h
  have hm : ∀ j, j < L.bk.length → L.bk.getD j 0 ∈ L.bk := fun j hj => by rw [List.getD_eq_getElem?_getD, List.getElem?_eq_getElem hj]; exact List.getElem_mem hj
  refine ⟨h1, h2, h4, fun j hj => ⟨fun e => h3 (e ▸ hm j hj), fun e => h5 (e ▸ hm j hj), fun e => h6 (e ▸ hm j hj)⟩, fun i j hi hj hij e => hij ?_⟩
  rw [List.getD_eq_getElem?_getD, List.getElem?_eq_getElem hi, List.getD_eq_getElem?_getD, List.getElem?_eq_getElem hj] at e
  exact (List.getElem_inj h7).1 e
/-- What is but for this block of flash. -/
theorem NdO.but (h : Nd L s X w) (h3 : NdO L s vd vz vm w) (hO : Only (Is1 b) w w') (hb : b ∈ L.bs) : (b ≠ L.bN → Arr L.tN L.bN (nandC L.bD L.bZ L.ub vm s) w') ∧ (b ≠ L.bD → Arr L.tD L.bD vd w') ∧ (b ≠ L.bZ → Arr L.tZ L.bZ vz w') ∧ (∀ j, j < s.gD → b ≠ L.bk.getD j 0 → Arr L.tS (L.bk.getD j 0) (stC s.gB (s.bl j)) w') ∧ Ps (fun k => L.bU ≠ some k) (Seq (kS (eK s.gB)) L.bk L.ub) w' ∧ Only L.S w w' :=
  ⟨fun e => h3.n.step hO (fun t => e t.symm), fun e => h3.d.step hO (fun t => e t.symm), fun e => h3.z.step hO (fun t => e t.symm), fun j hj e => (h3.k j hj).step hO (fun t => e t.symm), h3.u.step hO (fun k t e => h.nu k e (by have : k = b := t; rw [this]; exact hb)), hO.mono (fun k _ t => .inl (by have : k = b := t; rw [this]; exact hb))⟩
theorem nd_st (h : Nd L s X w) (hz : TI P t 1 bytes z) (hx : ρ x = ptr L.bN i) (hy : ρ y = v) (hv : v.oneCell' = true) (hi : i < 17) (hc : ∀ vm, (nandC L.bD L.bZ L.ub vm s).set i v = nandC L.bD L.bZ L.ub vm s') (ok : s'.Ok)
    (hs : s'.gD = s.gD ∧ s'.gB = s.gB ∧ s'.gP = s.gP ∧ s'.dl = s.dl ∧ s'.nl = s.nl ∧ s'.bl = s.bl ∧ s'.mask = s.mask) : Does P ⟨d, .store t x y, tt, st, af, g⟩ ρ w (NdW L s' X w) := by
  obtain ⟨vd, vz, vm, h1, h2, h3, h4⟩ := h.v
  obtain ⟨e1, e2, e3, e4, e5, e6, e7⟩ := hs
  refine (d_store hz hx hy hv h3.n (show i < 17 from hi) (hc vm)).mono fun u w' h' => ?_
  obtain ⟨hA, hO⟩ := h'
  obtain ⟨_, a2, a3, a4, a5, a6⟩ := h3.but h hO NL.in_n
  obtain ⟨n1, n2, n3, n4, n5⟩ := nd_ne (a := 0) (c := 0) h.nd
  refine ⟨h.mk_ ok e1 a6 ⟨vd, vz, vm, by unfold NS.n; rw [e1, e2, e3]; exact h1, by unfold NS.n; rw [e1, e2, e3]; exact h2, ⟨hA, a2 n1, a3 n2, ?_, by rw [e2]; exact a5⟩, (h4.step a6 fun k hk => .inr hk).imp fun w h => ?_⟩, a6⟩
  · intro j hj
    rw [e2, e6]
    exact a4 j (by omega) (n4 j (by have := h.lk; omega)).1.symm
  · exact ⟨by unfold NS.n; rw [e1, e2, e3, e4]; exact h.d, by unfold NS.n; rw [e1, e2, e3, e5]; exact h.z, by rw [e7]; exact h.m⟩
theorem nd_stm {l : List UInt8} (h : Nd L s X w) (hY : ∀ k, k < w.heap.size → X k ∨ L.S k → Y k) (hz : TI P t 1 bytes z) (hx : ρ x = ptr L.bN 13) (hy : ρ y = v) (hl : Ps Y (Seq kB l v) w) (hn : l.length ≤ 1048576) : Does P ⟨d, .store t x y, tt, st, af, g⟩ ρ w (NdW L { s with mask := l } X w) := by
  obtain ⟨vd, vz, vm, h1, h2, h3, h4⟩ := h.v
  refine (d_store hz hx hy (Seq.one hl) h3.n (show 13 < 17 by decide) rfl).mono fun u w' h' => ?_
  obtain ⟨hA, hO⟩ := h'
  obtain ⟨_, a2, a3, a4, a5, a6⟩ := h3.but h hO NL.in_n
  obtain ⟨n1, n2, n3, n4, n5⟩ := nd_ne (a := 0) (c := 0) h.nd
  exact ⟨h.mk_ ⟨h.ok.d, h.ok.b, h.ok.p, h.ok.nx, h.ok.st, h.ok.dl, h.ok.nl, hn⟩ rfl a6 ⟨vd, vz, v, h1, h2, ⟨hA, a2 n1, a3 n2, fun j hj => a4 j hj (n4 j (by have := h.lk; have : j < s.gD := hj; omega)).1.symm, a5⟩,
    ((h4.and (hl.less hY)).step a6 fun k hk => .inr hk).imp fun w h => ⟨h.1.d, h.1.z, h.2⟩⟩, a6⟩
theorem nd_stD {l : List UInt8} (h : Nd L s X w) (hY : ∀ k, k < w.heap.size → X k ∨ L.S k → Y k) (hz : TI P t 1 bytes z) (hx : ρ x = ptr L.bD i) (hy : ρ y = v) (hl : Ps Y (Seq kB l v) w) (hi : i < s.n) (hn : l.length = 60) : Does P ⟨d, .store t x y, tt, st, af, g⟩ ρ w (NdW L (s.setD i l) X w) := by
  obtain ⟨vd, vz, vm, h1, h2, h3, h4⟩ := h.v
  refine (d_store hz hx hy (Seq.one hl) h3.d (by omega) rfl).mono fun u w' h' => ?_
  obtain ⟨hA, hO⟩ := h'
  obtain ⟨a1, a2, a3, a4, a5, a6⟩ := h3.but h hO NL.in_d
  obtain ⟨n1, n2, n3, n4, n5⟩ := nd_ne (a := 0) (c := 0) h.nd
  have hf := (fam_set (h4.imp fun _ h => h.d) (hl.less hY) h1 (i := i))
  exact ⟨h.mk_ ⟨h.ok.d, h.ok.b, h.ok.p, h.ok.nx, h.ok.st, fun k => by show (if k = i then l else s.dl k).length = 60; split; exact hn; exact h.ok.dl k, h.ok.nl, h.ok.ml⟩ rfl a6 ⟨vd.set i v, vz, vm, by rw [List.length_set]; exact h1, h2, ⟨a1 n1.symm, hA, a3 n3, fun j hj => a4 j hj (n4 j (by have := h.lk; have : j < s.gD := hj; omega)).2.1.symm, a5⟩,
    ((h4.and hf).step a6 fun k hk => .inr hk).imp fun w h => ⟨h.2, h.1.z, h.1.m⟩⟩, a6⟩
theorem nd_stZ {l : List Int} (h : Nd L s X w) (hY : ∀ k, k < w.heap.size → X k ∨ L.S k → Y k) (hz : TI P t 1 bytes z) (hx : ρ x = ptr L.bZ i) (hy : ρ y = v) (hl : Ps Y (Seq kI l v) w) (hi : i < s.n) (hn : l.length ≤ 1048576) : Does P ⟨d, .store t x y, tt, st, af, g⟩ ρ w (NdW L (s.setZ i l) X w) := by
  obtain ⟨vd, vz, vm, h1, h2, h3, h4⟩ := h.v
  refine (d_store hz hx hy (Seq.one hl) h3.z (by omega) rfl).mono fun u w' h' => ?_
  obtain ⟨hA, hO⟩ := h'
  obtain ⟨a1, a2, a3, a4, a5, a6⟩ := h3.but h hO NL.in_z
  obtain ⟨n1, n2, n3, n4, n5⟩ := nd_ne (a := 0) (c := 0) h.nd
  have hf := (fam_set (h4.imp fun _ h => h.z) (hl.less hY) h2 (i := i))
  exact ⟨h.mk_ ⟨h.ok.d, h.ok.b, h.ok.p, h.ok.nx, h.ok.st, h.ok.dl, fun k => by show (if k = i then l else s.nl k).length ≤ 1048576; split; exact hn; exact h.ok.nl k, h.ok.ml⟩ rfl a6 ⟨vd, vz.set i v, vm, h1, by rw [List.length_set]; exact h2, ⟨a1 n2.symm, a2 n3.symm, hA, fun j hj => a4 j hj (n4 j (by have := h.lk; have : j < s.gD := hj; omega)).2.2.symm, a5⟩,
    ((h4.and hf).step a6 fun k hk => .inr hk).imp fun w h => ⟨h.1.d, h.2, h.1.m⟩⟩, a6⟩
theorem nd_stS {x' : St} (h : Nd L s X w) (hz : TI P t 1 bytes z) (hx : ρ x = ptr (L.bk.getD i 0) (j * 3 + f)) (hy : ρ y = v) (hv : v.oneCell' = true) (hi : i < s.gD) (hj : j < s.gB) (hf : f < 3)
    (hs : ([eN (s.bl i j).nx, eI (s.bl i j).er, .bool (s.bl i j).bad] : List Value).set f v = [eN x'.nx, eI x'.er, .bool x'.bad]) (hn : x'.nx ≤ 8) : Does P ⟨d, .store t x y, tt, st, af, g⟩ ρ w (NdW L (s.setB i j x') X w) := by
  obtain ⟨vd, vz, vm, h1, h2, h3, h4⟩ := h.v
  have hil : i < L.bk.length := by have := h.lk; omega
  refine (d_store hz hx hy hv (h3.k i hi) (by rw [stC_len]; omega) (stC_set hj hf hs)).mono fun u w' h' => ?_
  obtain ⟨hA, hO⟩ := h'
  obtain ⟨a1, a2, a3, a4, a5, a6⟩ := h3.but h hO (NL.in_k hil)
  obtain ⟨n1, n2, n3, n4, n5⟩ := nd_ne (a := 0) (c := 0) h.nd
  obtain ⟨m1, m2, m3⟩ := n4 i hil
  refine ⟨h.mk_ ⟨h.ok.d, h.ok.b, h.ok.p, ?_, h.ok.st, h.ok.dl, h.ok.nl, h.ok.ml⟩ rfl a6 ⟨vd, vz, vm, h1, h2, ⟨a1 m1, a2 m2, a3 m3, ?_, a5⟩, (h4.step a6 fun k hk => .inr hk).imp fun w h => ⟨h.d, h.z, h.m⟩⟩, a6⟩
  · intro d' b'
    show ((if d' = i then (fun b' => if b' = j then x' else s.bl i b') else s.bl d') b').nx ≤ 8
    by_cases e : d' = i
    · rw [if_pos e]
      show (if b' = j then x' else s.bl i b').nx ≤ 8
      by_cases e2 : b' = j
      · rw [if_pos e2]; exact hn
      · rw [if_neg e2]; exact h.ok.nx _ _
    · rw [if_neg e]; exact h.ok.nx _ _
  · intro j' hj'
    show Arr L.tS (L.bk.getD j' 0) (stC s.gB (if j' = i then (fun b' => if b' = j then x' else s.bl i b') else s.bl j')) w'
    by_cases e : j' = i
    · rw [if_pos e, e]; exact hA
    · rw [if_neg e]; exact a4 j' hj' (n5 i j' hil (by have := h.lk; have : j' < s.gD := hj'; omega) (Ne.symm e))

/-! ### Made anew -/
def eV (v : Value) : Value := v
def St0 : St := ⟨0, 0, false⟩
theorem made_st (n : Nat) : (madeCells #[.int .i64 0, .int .i64 0, .bool false] (n * 3)).toList = stC n (fun _ => St0) := by
  have h : ∀ i, (#[Value.int .i64 0, .int .i64 0, .bool false] : Array Value)[i % 3]! = [eN 0, eI 0, Value.bool false].getD (i % 3) undef := by
    intro i
    have : i % 3 = 0 ∨ i % 3 = 1 ∨ i % 3 = 2 := by omega
    rcases this with h | h | h <;> rw [h] <;> rfl
  unfold madeCells
  rw [Array.toList_map, Array.toList_range]
  show (List.range (n * 3)).map (fun i => (#[Value.int .i64 0, .int .i64 0, .bool false] : Array Value)[i % 3]!) = _
  rw [List.map_congr_left (fun i _ => h i)]
  induction n with
  | zero => rfl
  | succ n ih =>
    unfold stC
    rw [← ih, Nat.add_mul, List.range_add, List.map_append]
    congr 1
    show List.map _ [n * 3 + 0, n * 3 + 1, n * 3 + 2] = _
    simp only [List.map_cons, List.map_nil]
    rw [show (n * 3 + 0) % 3 = 0 by omega, show (n * 3 + 1) % 3 = 1 by omega, show (n * 3 + 2) % 3 = 2 by omega]
    rfl
theorem fam_next {α : Type} {q : Kd α} {n : Nat} {l : List α} {vd : List Value} {X : Nat → Prop} {w : World} {u : Value} (h : Ps X (Fam q n (fun _ => l) vd) w) (hu : Ps X (Seq q l u) w) (hn : n < vd.length) : Ps X (Fam q (n + 1) (fun _ => l) (vd.set n u)) w := fun w' hw k hk => by
  rw [List.getD_eq_getElem?_getD]
  by_cases hkn : k = n
  · subst hkn
    rw [List.getElem?_set_self hn]
    exact hu w' hw
  · rw [List.getElem?_set_ne (Ne.symm hkn)]
    have := h w' hw k (by omega)
    rw [List.getD_eq_getElem?_getD] at this
    exact this
theorem kst_next {bk : List Nat} {b n : Nat} {tS : TypeId} {cs : List Value} {X : Nat → Prop} {w : World} (h : Ps X (fun w => ∀ q, q < n → Arr tS (bk.getD q 0) cs w) w) (hb : Ps X (fun w => Arr tS b cs w) w) (hl : bk.length = n) : Ps X (fun w => ∀ q, q < n + 1 → Arr tS ((bk ++ [b]).getD q 0) cs w) w := fun w' hw q hq => by
  rw [List.getD_eq_getElem?_getD]
  rcases Nat.lt_or_ge q n with h1 | h1
  · rw [List.getElem?_append_left (by omega)]
    have := h w' hw q h1
    rw [List.getD_eq_getElem?_getD] at this
    exact this
  · have : q = n := by omega
    subst this
    rw [List.getElem?_append_right (by omega), hl, Nat.sub_self]
    exact hb w' hw
theorem fam_nil {n : Nat} {X : Nat → Prop} {w : World} : Ps X (Fam kI n (fun _ => []) (List.replicate n (Value.slice none 0 0))) w := fun w' _ k hk => by
  rw [List.getD_eq_getElem?_getD, List.getElem?_replicate, if_pos hk]
  exact ⟨none, 0, rfl, Nat.le_refl _, fun i x h => by simp at h⟩
theorem map_eV (l : List Value) : l.map eV = l := by
  have : eV = id := rfl
  rw [this, List.map_id]
theorem nd_new {tN tD tZ tS tU : TypeId} {D B Q c d z : Nat} {bo : Option Nat} {u : Value} {bk : List Nat} {vd : List Value} {w W : World} {X : Nat → Prop} (hD : 6 ≤ D ∧ D ≤ 8) (hB : 8 ≤ B ∧ B ≤ 12) (hQ : 4 ≤ Q ∧ Q ≤ 8)
    (hc : Arr tN c [eN D, eN B, eN Q, eN D, eN B, eN Q, sli d 0 (D * B * Q) (D * B * Q), eN D, eN B, eN Q, sli z 0 (D * B * Q) (D * B * Q), u, eN 0, .slice none 0 0, .bool false, eN 0, eN 0] w)
    (hd : Arr tD d (vd.map eV) w) (hz : Arr tZ z (List.replicate (D * B * Q) (.slice none 0 0)) w) (hr : Ow tU 1 bo u bk.length (bk.map (eK B)) w) (hK : Ps X (fun w => ∀ j, j < D → Arr tS (bk.getD j 0) (stC B (fun _ => St0)) w) w)
    (hF : Ps (fun k => k = c ∨ k = d ∨ k = z ∨ k ∈ bk ∨ bo = some k ∨ Old W.heap.size k) (Fam kB (D * B * Q) (fun _ => onesW) vd) w) (hl : vd.length = D * B * Q) (hbk : bk.length = D) (hS : Only No W w)
    (n1 : c ≠ d) (n2 : c ≠ z) (n3 : d ≠ z) (hn : bk.Nodup) (hb : ∀ x ∈ bk, x ≠ c ∧ x ≠ d ∧ x ≠ z ∧ W.heap.size ≤ x ∧ x < w.heap.size) (hbo : ∀ x, bo = some x → x ≠ c ∧ x ≠ d ∧ x ≠ z ∧ x ∉ bk ∧ W.heap.size ≤ x ∧ x < w.heap.size)
    (gc : W.heap.size ≤ c) (gd_ : W.heap.size ≤ d) (gz : W.heap.size ≤ z) :
    Nd ⟨tN, tD, tZ, tS, c, d, z, bo, u, bk⟩ (NS.new D B Q (fun _ _ => false)) (Old W.heap.size) w ∧ ∀ k, (⟨tN, tD, tZ, tS, c, d, z, bo, u, bk⟩ : NL).S k → W.heap.size ≤ k := by
  have fresh : ∀ k, (⟨tN, tD, tZ, tS, c, d, z, bo, u, bk⟩ : NL).S k → W.heap.size ≤ k := by
    intro k hk
    rcases hk with hk | hk
    · simp only [NL.bs, List.mem_cons] at hk
      rcases hk with rfl | rfl | rfl | hk
      · exact gc
      · exact gd_
      · exact gz
      · exact (hb k hk).2.2.2.1
    · exact (hbo k hk).2.2.2.2.1
  refine ⟨⟨⟨hD, hB, hQ, fun _ _ => Nat.zero_le _, by show 0 < 2 ^ 62; decide, fun _ => onesW_len, fun _ => Nat.zero_le _, Nat.zero_le _⟩, hbk, ?_, ?_, ?_, fun k hk hs => ?_, vd, List.replicate (D * B * Q) (.slice none 0 0), .slice none 0 0, hl, by rw [List.length_replicate]; rfl, ⟨hc, by rw [map_eV] at hd; exact hd, hz, hK.now, hr.seq fun b hb' h => h hb'⟩, ?_⟩, fresh⟩
  · simp only [NL.bs, List.nodup_cons, List.mem_cons, not_or]
    exact ⟨⟨n1, n2, fun h => (hb _ h).1 rfl⟩, ⟨n3, fun h => (hb _ h).2.1 rfl⟩, fun h => (hb _ h).2.2.1 rfl, hn⟩
  · intro x hx
    obtain ⟨h1, h2, h3, h4, _⟩ := hbo x hx
    simp only [NL.bs, List.mem_cons, not_or]
    exact ⟨h1, h2, h3, h4⟩
  · intro k hk
    rcases hk with hk | hk
    · simp only [NL.bs, List.mem_cons] at hk
      rcases hk with rfl | rfl | rfl | hk
      · exact hc.lt
      · exact hd.lt
      · exact hz.lt
      · exact (hb k hk).2.2.2.2
    · exact (hbo k hk).2.2.2.2.2
  · have h1 := fresh k hs
    have h2 : k < W.heap.size := hk
    omega
  · refine ((hF.less ?_).and fam_nil).imp fun w' h' => ⟨h'.1, h'.2, ⟨none, 0, rfl, Nat.le_refl _, fun i x h => by cases i <;> cases h⟩⟩
    intro k _ hk
    rcases hk with hk | hk | hk
    · exact .inr (.inr (.inr (.inr (.inr hk))))
    · simp only [NL.bs, List.mem_cons] at hk
      rcases hk with hk | hk | hk | hk
      · exact .inl hk
      · exact .inr (.inl hk)
      · exact .inr (.inr (.inl hk))
      · exact .inr (.inr (.inr (.inl hk)))
    · exact .inr (.inr (.inr (.inr (.inl hk))))
end
end Go.Proofs.YtpamdlnobekihaaF
