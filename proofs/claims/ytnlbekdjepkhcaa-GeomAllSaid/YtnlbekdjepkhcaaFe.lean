/-
  Lengths, slices, appends, copies, strings out of bytes.
-/
import Derived.Test.YtnlbekdjepkhcaaFd
set_option linter.unusedVariables false
set_option linter.unusedSimpArgs false
namespace Go.Proofs.YtnlbekdjepkhcaaF
open Go Go.Shelf Go.Proofs.YtnlbekdjepkhcaaS

theorem add_add (a : Addr) (m n : Nat) : (a.add m).add n = a.add (m + n) := by
  unfold Addr.add
  by_cases hm : m = 0
  · subst hm; simp
  · by_cases hn : n = 0
    · subst hn; simp [hm]
    · simp [hm, hn, Nat.add_assoc]

/-- A bound of a slice: told, or left out. -/
def Bd (ρ : Operand → Value) (lo : Option Operand) (dflt l : Nat) : Prop := match lo with
  | none => l = dflt
  | some o => ∃ k, ρ o = .int k (l : Int)
theorem Bd.none {ρ : Operand → Value} {n : Nat} : Bd ρ none n n := rfl
theorem Bd.some {ρ : Operand → Value} {o : Operand} {dflt l : Nat} {k : IntKind} (h : ρ o = .int k (l : Int)) : Bd ρ (some o) dflt l := ⟨k, h⟩

section
variable {P : Program} {d : Option Tmp} {tt : TypeId} {s : String} {af : Array Edge} {g : Option (Nat × Bool)} {ρ : Operand → Value} {w : World}

theorem d_len {t e : TypeId} {x : Operand} {A : Option Addr} {n c : Nat} {ts : Array TypeId} (hts : ts[0]? = some t) (ht : P.underlying t = some (.slice e)) (hx : ρ x = .slice A n c) : DV P ⟨d, .call ⟨.builtin .len, #[x], ts⟩, tt, s, af, g⟩ ρ w (.int .i64 (n : Int)) := by
  refine Does.of_value (v := .int .i64 (n : Int)) (w' := w) (by simp) ?_ ⟨rfl, rfl⟩
  simp [execOp, resolve, invoke, builtin, Builtin.len_, hx, hts, run_underlying ht, go_sem, goInt]
theorem d_lenS {α : Type} {q : Kd α} {xs : List α} {X : Nat → Prop} {t e : TypeId} {x : Operand} {u : Value} {ts : Array TypeId} (hts : ts[0]? = some t) (ht : P.underlying t = some (.slice e)) (hx : ρ x = u) (hS : Ps X (Seq q xs u) w) : DV P ⟨d, .call ⟨.builtin .len, #[x], ts⟩, tt, s, af, g⟩ ρ w (.int .i64 (xs.length : Int)) := by
  obtain ⟨A, c, hu, _, _⟩ := hS.now
  exact d_len hts ht (hx.trans hu)
theorem d_lenArr {t e : TypeId} {n : Nat} {x : Operand} {ts : Array TypeId} (hts : ts[0]? = some t) (ht : P.underlying t = some (.array n e)) : DV P ⟨d, .call ⟨.builtin .len, #[x], ts⟩, tt, s, af, g⟩ ρ w (.int .i64 (n : Int)) := by
  refine Does.of_value (v := .int .i64 (n : Int)) (w' := w) (by simp) ?_ ⟨rfl, rfl⟩
  simp [execOp, resolve, invoke, builtin, Builtin.len_, hts, run_underlying ht, go_sem, goInt]

theorem run_sl {t e : TypeId} {sz bytes : Nat} {z : Value} {A : Option Addr} {n c l h : Nat} {lo hi : Option Operand} (ht : P.underlying t = some (.slice e)) (hz : TI P e sz bytes z) (hlo : Bd ρ lo 0 l) (hhi : Bd ρ hi n h) (h1 : l ≤ h) (h2 : h ≤ c) :
    (Instr.sliceAt t (.slice A n c) (lo.map ρ) (hi.map ρ) none).run P w = .ok (.slice (if c = l then A else A.map (·.add (l * sz))) (h - l) (c - l)) w := by
  have e1 : ((l : Int).toNat) = l := by omega
  have e2 : ((h : Int).toNat) = h := by omega
  have g1 : (0 : Int) ≤ (l : Int) := by omega
  have g2 : (0 : Int) ≤ (h : Int) := by omega
  have g3 : (l : Int) ≤ (h : Int) := by omega
  have g4 : (h : Int) ≤ (c : Int) := by omega
  have g5 : ¬ h < l := by omega
  have sb : ∀ {kk : IntKind} {a b : Nat} {cd : BoundsCode}, a ≤ b → (Instr.sliceBound (.int kk (a : Int)) b cd).run P w = .ok a w := by
    intro kk a b cd hab
    have q1 : (0 : Int) ≤ (a : Int) ∧ (a : Int) ≤ (b : Int) := by omega
    simp [Instr.sliceBound, asIntOf, go_sem, q1]
  have hsz := hz.size w
  cases lo with
  | none =>
    have hl : l = 0 := hlo
    subst hl
    cases hi with
    | none =>
      have hh : h = n := hhi
      subst hh
      simp [Instr.sliceAt, run_underlying ht, Instr.slice, Instr.sliceBounds, go_sem, hsz]
    | some o =>
      obtain ⟨k, ho⟩ := hhi
      simp [Instr.sliceAt, run_underlying ht, Instr.slice, Instr.sliceBounds, go_sem, hsz, ho, sb h2]
  | some o1 =>
    obtain ⟨k1, ho1⟩ := hlo
    cases hi with
    | none =>
      have hh : h = n := hhi
      subst hh
      simp [Instr.sliceAt, run_underlying ht, Instr.slice, Instr.sliceBounds, go_sem, hsz, ho1, sb h1]
    | some o =>
      obtain ⟨k, ho⟩ := hhi
      simp [Instr.sliceAt, run_underlying ht, Instr.slice, Instr.sliceBounds, go_sem, hsz, ho, ho1, sb h1, sb h2, g5]
theorem d_slice {t e : TypeId} {x : Operand} {sz bytes : Nat} {z : Value} {b o n c l h o' : Nat} {lo hi : Option Operand} (ht : P.underlying t = some (.slice e)) (hz : TI P e sz bytes z) (hx : ρ x = sli b o n c) (hlo : Bd ρ lo 0 l) (hhi : Bd ρ hi n h) (h1 : l ≤ h) (h2 : h ≤ c)
    (ho : (if c = l then o else o + l * sz) = o') : DV P ⟨d, .slice t x lo hi none, tt, s, af, g⟩ ρ w (sli b o' (h - l) (c - l)) := by
  subst ho
  refine Does.of_value (v := sli b _ (h - l) (c - l)) (w' := w) (by simp) ?_ ⟨rfl, rfl⟩
  have hx' : ρ x = .slice (some ⟨b, o, none⟩) n c := hx
  have := run_sl (P := P) (w := w) (A := some ⟨b, o, none⟩) ht hz hlo hhi h1 h2
  simp only [execOp, hx', Sem.run_bind, Option.map_none, this, Result.andThen, Sem.run_pure]
  unfold sli
  split
  · rfl
  · simp [add0]
theorem d_sliceS {α : Type} {q : Kd α} {xs ys : List α} {X : Nat → Prop} {t e : TypeId} {x : Operand} {bytes : Nat} {z : Value} {l h : Nat} {lo hi : Option Operand} {u : Value} (ht : P.underlying t = some (.slice e)) (hz : TI P e q.sz bytes z) (hx : ρ x = u) (hS : Ps X (Seq q xs u) w)
    (hlo : Bd ρ lo 0 l) (hhi : Bd ρ hi xs.length h) (h1 : l ≤ h) (h2 : h ≤ xs.length) (hy : (xs.take h).drop l = ys) : Does P ⟨d, .slice t x lo hi none, tt, s, af, g⟩ ρ w fun u' w' => Ps X (Seq q ys u') w ∧ w = w' := by
  subst hy
  obtain ⟨A, c, hu, hc, _⟩ := hS.now
  have hr := run_sl (P := P) (w := w) (A := A) (n := xs.length) (c := c) ht hz hlo hhi h1 (by omega)
  subst hu
  refine Does.of_value (v := .slice (if c = l then A else A.map (·.add (l * q.sz))) (h - l) (c - l)) (w' := w) (by simp) ?_ ⟨?_, rfl⟩
  · simp only [execOp, hx, Sem.run_bind, Option.map_none, hr, Result.andThen, Sem.run_pure]
  · refine hS.imp (fun w2 h2' => ?_)
    obtain ⟨A2, c2, hu2, hc2, hel⟩ := h2'
    injection hu2 with e1 _ e3
    subst e1; subst e3
    have hlen : ((xs.take h).drop l).length = h - l := by rw [List.length_drop, List.length_take]; omega
    refine ⟨_, _, by rw [hlen], by rw [hlen]; omega, fun i v hi' => ?_⟩
    have hil : i < h - l := by rw [← hlen]; exact (List.getElem?_eq_some_iff.1 hi').1
    have hx2 : xs[l + i]? = some v := by
      rw [List.getElem?_drop, List.getElem?_take] at hi'
      rwa [if_pos (by omega)] at hi'
    obtain ⟨ad, hA, hat⟩ := hel _ _ hx2
    subst hA
    refine ⟨ad.add (l * q.sz), ?_, ?_⟩
    · rw [if_neg (by omega)]; rfl
    · rw [add_add, ← Nat.add_mul]; exact hat

/-! ### Strings -/
theorem push_fold : ∀ (l : List UInt8) (r : ByteArray), (l.map fun x : UInt8 => (x.toNat : Int)).foldl (fun r n => r.push (UInt8.ofNat n.toNat)) r = ⟨r.data ++ l.toArray⟩
  | [], r => by simp
  | x :: l, r => by
    simp only [List.map_cons, List.foldl_cons]
    rw [push_fold l]
    have : UInt8.ofNat ((x.toNat : Int)).toNat = x := by simp
    rw [this]
    cases r
    simp [ByteArray.push]
theorem d_str {src dst e : TypeId} {x : Operand} {u : Value} {l : List UInt8} {X : Nat → Prop} (hs : P.underlying src = some (.slice e)) (he : P.underlying e = some (.int .u8)) (hd : P.underlying dst = some .string) (hx : ρ x = u) (hS : Ps X (Seq kB l u) w) :
    DV P ⟨d, .convert src dst x, tt, s, af, g⟩ ρ w (.string (strOf l)) := by
  obtain ⟨A, c, hu, hc, hel⟩ := hS.now
  subst hu
  refine Does.of_value (v := .string (strOf l)) (w' := w) (by simp) ?_ ⟨rfl, rfl⟩
  have key : (Conv.bytesToString (.slice A l.length c)).run P w = .ok (.string (strOf l)) w := by
    cases l with
    | nil =>
      cases A with
      | none => rfl
      | some a =>
        have hl : (loadCells a 0).run P w = .ok (([] : List Int).map (Value.int .u8)).toArray w := rfl
        exact run_bytesToString w a 0 c [] hl
    | cons y r =>
      obtain ⟨ad, hA, _⟩ := hel 0 y rfl
      subst hA
      have hl : (loadCells ad (y :: r).length).run P w = .ok (((y :: r).map fun x : UInt8 => (x.toNat : Int)).map (Value.int .u8)).toArray w := by
        have := run_loadCells_list (P := P) w ad ((y :: r).map eB) (fun j v hj => by
          rw [List.getElem?_map] at hj
          cases hq : (y :: r)[j]? with
          | none => rw [hq] at hj; cases hj
          | some v' =>
            rw [hq] at hj
            obtain ⟨ad2, h1, h2⟩ := hel j v' hq
            injection h1 with h1
            subst h1
            have h3 : w.cell? (ad.add (j * 1)) = some (eB v') := h2
            rw [Nat.mul_one] at h3
            rw [h3]
            exact hj)
        rw [List.length_map] at this
        rw [this, List.map_map]
        rfl
      rw [run_bytesToString w ad _ c _ hl, push_fold]
      simp [strOf]
  simp only [execOp, hx, Sem.run_bind, convert, run_underlying hs, run_underlying hd, run_underlying he, key, Result.andThen, Sem.run_pure]

/-! ### A row that grows -/
def Isq (bo : Option Nat) : Nat → Prop := fun k => bo = some k
def Orq (bo : Option Nat) (X : Nat → Prop) : Nat → Prop := fun k => bo = some k ∨ X k
def Ow (e : TypeId) (sz : Nat) (bo : Option Nat) (u : Value) (n : Nat) (cs : List Value) (w : World) : Prop :=
  (bo = none ∧ u = .slice none 0 0 ∧ n = 0 ∧ cs = []) ∨ ∃ b cap rest, bo = some b ∧ u = sli b 0 n cap ∧ n ≤ cap ∧ Arr e b (cs ++ rest) w ∧ cs.length = n * sz ∧ rest.length = (cap - n) * sz
theorem Ow.step {e : TypeId} {sz n : Nat} {bo : Option Nat} {u : Value} {cs : List Value} {w w' : World} {T : Nat → Prop} (h : Ow e sz bo u n cs w) (hO : Only T w w') (hT : ∀ b, bo = some b → ¬ T b) : Ow e sz bo u n cs w' := by
  rcases h with h | ⟨b, cap, rest, h1, h2, h3, h4, h5⟩
  · exact .inl h
  · exact .inr ⟨b, cap, rest, h1, h2, h3, h4.step hO (hT b h1), h5⟩
theorem Ow.step0 {e : TypeId} {sz n : Nat} {bo : Option Nat} {u : Value} {cs : List Value} {w w' : World} (h : Ow e sz bo u n cs w) (hO : Only No w w') : Ow e sz bo u n cs w' := h.step hO fun _ _ => id
theorem Ow.nil (e : TypeId) (sz : Nat) (w : World) : Ow e sz none (.slice none 0 0) 0 [] w := .inl ⟨rfl, rfl, rfl, rfl⟩
theorem Ow.of_made {e : TypeId} {sz n b : Nat} {cs : List Value} {w : World} (h : Arr e b cs w) (hn : cs.length = n * sz) : Ow e sz (some b) (sli b 0 n n) n cs w :=
  .inr ⟨b, n, [], rfl, rfl, Nat.le_refl _, by simpa using h, hn, by simp⟩
theorem Ow.lt {e : TypeId} {sz n b : Nat} {u : Value} {cs : List Value} {w : World} (h : Ow e sz (some b) u n cs w) : b < w.heap.size := by
  rcases h with ⟨h, _⟩ | ⟨b', cap, rest, h1, h2, h3, h4, h5⟩
  · cases h
  · injection h1 with h1; subst h1; exact h4.lt
/-- It reads as a list. -/
theorem Ow.seq {α : Type} {enc : α → Value} {e : TypeId} {bo : Option Nat} {u : Value} {xs : List α} {w : World} {n : Nat} {X : Nat → Prop} (h : Ow e 1 bo u n (xs.map enc) w) (hX : ∀ b, bo = some b → ¬ X b) : Ps X (Seq (kS enc) xs u) w := by
  rcases h with ⟨h1, h2, h3, h4⟩ | ⟨b, cap, rest, h1, h2, h3, h4, h5, h6⟩
  · have : xs = [] := by simpa using h4
    subst this; subst h2
    exact Ps.mk0 fun w => ⟨none, 0, rfl, Nat.le_refl _, fun i x h => by simp at h⟩
  · have hn : xs.length = n := by simpa using h5
    subst h2; subst hn
    refine (h4.ps fun w' h' => ?_).less (fun k _ hk e => hX b h1 (e ▸ hk))
    refine ⟨_, _, rfl, h3, fun i x hi => ⟨_, rfl, ?_⟩⟩
    show w'.cell? _ = some (enc x)
    rw [add0]
    refine h'.cell ?_
    have hlt := (List.getElem?_eq_some_iff.1 hi).1
    rw [List.getElem?_append_left (by simp [kS]; exact hlt)]
    simp [kS, hi]
theorem Ps.grown {X : Nat → Prop} {bo bo' : Option Nat} {p : World → Prop} {w w' : World} (h : Ps (Orq bo X) p w) (hO : Only (Isq bo) w w') (hb : bo' = bo ∨ ∃ b, bo' = some b ∧ w.heap.size ≤ b) : Ps (Orq bo' X) p w' := fun w2 h2 =>
  h w2 fun k hk hx => (h2 k (Nat.lt_of_lt_of_le hk hO.size) (fun t => by
    rcases t with t | t
    · rcases hb with e | ⟨b, e, hl⟩
      · exact hx (.inl (e ▸ t))
      · rw [e] at t; injection t with t; omega
    · exact hx (.inr t))).trans (hO.same k hk fun t => hx (.inl t))

/-- Where a row stands: where it stood, or in a block that is new since n. -/
def Fr (bo' bo : Option Nat) (n : Nat) : Prop := ∀ c, bo' = some c → bo = some c ∨ n ≤ c
theorem Fr.same {bo : Option Nat} {n : Nat} : Fr bo bo n := fun _ h => .inl h
theorem Fr.none {bo : Option Nat} {n : Nat} : Fr none bo n := fun _ h => by cases h
theorem Fr.new {bo : Option Nat} {b n : Nat} (h : n ≤ b) : Fr (some b) bo n := fun c hc => .inr (by injection hc with hc; omega)
theorem Fr.fresh {bo' bo : Option Nat} {n m : Nat} (h : ∀ c, bo' = some c → m ≤ c) (hm : n ≤ m) : Fr bo' bo n := fun c hc => .inr (Nat.le_trans hm (h c hc))
theorem Fr.of_or {bo' bo : Option Nat} {n : Nat} (h : bo' = bo ∨ ∃ b, bo' = some b ∧ n ≤ b) : Fr bo' bo n := fun c hc => by
  rcases h with h | ⟨b, h, hb⟩
  · exact .inl (h ▸ hc)
  · rw [h] at hc; injection hc with hc; exact .inr (by omega)

/-- Cells that are handed to append, copy. -/
def SrcV (sz m : Nat) (news : List Value) (x : Value) (w : World) : Prop :=
  ∃ A c, x = .slice A m c ∧ news.length = m * sz ∧ (∀ j v, news[j]? = some v → ∃ ad, A = some ad ∧ w.cell? (ad.add j) = some v) ∧ ∀ u ∈ news, u.oneCell' = true
theorem SrcV.of_seq {α : Type} {enc : α → Value} {X : Nat → Prop} {xs : List α} {u : Value} (hS : Ps X (Seq (kS enc) xs u) w) (h1 : ∀ x, (enc x).oneCell' = true) : SrcV 1 xs.length (xs.map enc) u w := by
  obtain ⟨A, c, hu, hc, hel⟩ := hS.now
  refine ⟨A, c, hu, by simp, fun j v hj => ?_, fun v hv => by obtain ⟨x, _, rfl⟩ := List.mem_map.1 hv; exact h1 x⟩
  rw [List.getElem?_map] at hj
  cases hq : xs[j]? with
  | none => rw [hq] at hj; cases hj
  | some y =>
    rw [hq] at hj
    obtain ⟨ad, hA, hat⟩ := hel j y hq
    refine ⟨ad, hA, ?_⟩
    have h3 : w.cell? (ad.add (j * 1)) = some (enc y) := hat
    rw [Nat.mul_one] at h3
    rw [h3]; exact hj
theorem SrcV.of_arr {e : TypeId} {b n sz cap : Nat} {cs : List Value} (hA : Arr e b cs w) (hn : cs.length = n * sz) (h1 : ∀ u ∈ cs, u.oneCell' = true) : SrcV sz n cs (sli b 0 n cap) w :=
  ⟨_, _, rfl, hn, fun j v hj => ⟨_, rfl, by rw [add0]; exact hA.cell (by simpa using hj)⟩, h1⟩
theorem SrcV.src {sz m bytes : Nat} {news : List Value} {x : Value} {tx e' : TypeId} (h : SrcV sz m news x w) (ht : P.underlying tx = some (.slice e')) : Src P sz tx x m news w := by
  obtain ⟨A, c, hx, hn, hc, h1⟩ := h
  subst hx
  have key : ∀ w' : World, (∀ a, w'.cell? a = w.cell? a) → (Builtin.firstCells sz m (.slice A m c)).run P w' = .ok news.toArray w' := by
    intro w' hw
    cases A with
    | none =>
      have : news = [] := by
        cases news with
        | nil => rfl
        | cons v r => obtain ⟨ad, h, _⟩ := hc 0 v rfl; cases h
      subst this
      rfl
    | some a =>
      have := run_loadCells_list (P := P) w' a news (fun j v hj => by
        obtain ⟨ad, h, h'⟩ := hc j v hj
        injection h with h
        subst h
        rw [hw]; exact h')
      rw [hn] at this
      exact this
  exact ⟨.inl ⟨e', ht⟩, fun _ => rfl, key w fun _ => rfl, key w.drew fun _ => rfl, hn, h1⟩

theorem only_setCells {b : Nat} : ∀ (vs : List Value) (o : Nat) (w : World), Only (Is1 b) w (w.setCells b o vs)
  | [], _, w => Only.refl _ w
  | v :: r, o, w => (only_set (p := ⟨b, o, none⟩) w v).trans (only_setCells r (o + 1) _)
theorem Arr.setCells {e : TypeId} {b : Nat} : ∀ (vs : List Value) (o : Nat) (cs : List Value) (w : World), Arr e b cs w → o + vs.length ≤ cs.length → Arr e b (cs.take o ++ vs ++ cs.drop (o + vs.length)) (w.setCells b o vs)
  | [], o, cs, w, h, _ => by simpa [World.setCells] using h
  | v :: r, o, cs, w, h, hl => by
    simp only [List.length_cons] at hl
    have h1 := h.set (i := o) (by omega) v
    have h2 := Arr.setCells r (o + 1) (cs.set o v) _ h1 (by rw [List.length_set]; omega)
    have : (cs.set o v).take (o + 1) ++ r ++ (cs.set o v).drop (o + 1 + r.length) = cs.take o ++ (v :: r) ++ cs.drop (o + (v :: r).length) := by
      rw [List.take_set, List.drop_set_of_lt (by omega), List.take_succ_eq_append_getElem (by omega)]
      have hlt : o < cs.length := by omega
      rw [List.set_append_right _ _ (by rw [List.length_take]; omega)]
      have h0 : o - (cs.take o).length = 0 := by rw [List.length_take]; omega
      rw [h0]
      simp [Nat.add_assoc, Nat.add_comm 1]
    rw [this] at h2
    exact h2

theorem growBy_le (need : Nat) : ∀ (r c : Nat), c < need → Builtin.growBy need r c ≤ need + (need + 768) / 4
  | 0, c, h => by simp [Builtin.growBy]; omega
  | r + 1, c, h => by
    unfold Builtin.growBy
    rw [if_neg (by omega)]
    by_cases h2 : c + (c + 768) / 4 < need
    · exact growBy_le need r _ h2
    · cases r with
      | zero => simp [Builtin.growBy]; omega
      | succ r => unfold Builtin.growBy; rw [if_pos (by omega)]; omega
theorem nextcap_le {need old : Nat} (h : old < need) : Builtin.nextslicecap need old ≤ 2 * need + 192 := by
  unfold Builtin.nextslicecap
  split
  · omega
  · split
    · omega
    · have := growBy_le need 4 old h; omega

/-- What an append gives. -/
def Appended (e : TypeId) (sz : Nat) (bo : Option Nat) (n : Nat) (cs : List Value) (w : World) : Value → World → Prop := fun u' w' =>
  ∃ bo', Ow e sz bo' u' n cs w' ∧ Only (Isq bo) w w' ∧ (bo' = bo ∨ ∃ b, bo' = some b ∧ w.heap.size ≤ b)
theorem d_append {t tx e e' : TypeId} {x y : Operand} {sz bytes n m : Nat} {z : Value} {bo : Option Nat} {u v : Value} {cs news : List Value} {ts : Array TypeId} (ht : P.underlying t = some (.slice e)) (htx : P.underlying tx = some (.slice e')) (hz : TI P e sz bytes z) (hzc : z.cells.size = sz)
    (hx : ρ x = u) (hy : ρ y = v) (hO : Ow e sz bo u n cs w) (hs : SrcV sz m news v w) (hb : (2 * (n + m) + 192) * bytes ≤ 281474976710656) (hm : n + m < 2 ^ 62) (hts : ts = #[t, tx]) :
    Does P ⟨d, .call ⟨.builtin .append, #[x, y], ts⟩, tt, s, af, g⟩ ρ w (Appended e sz bo (n + m) (cs ++ news) w) := by
  subst hts
  obtain ⟨i, hi, hby, hsz, hze⟩ := hz.info
  have hsrc := hs.src (P := P) (bytes := 0) htx
  have hnl := hsrc.newsLen
  rw [← hsz] at hsrc
  suffices hmain : ∃ u' w', (Builtin.append_ #[t, tx] tt #[u, v]).run P w = .ok u' w' ∧ Appended e sz bo (n + m) (cs ++ news) w u' w' by
    obtain ⟨u', w', hr, hA⟩ := hmain
    refine Does.of_value (v := u') (w' := w') (by simp) ?_ hA
    simp only [execOp, resolve, Sem.run_bind, Sem.run_pure, Result.andThen, invoke, builtin, List.map_toArray, List.map_cons, List.map_nil, hx, hy, hr]
  have hgrow : ∀ (base : Option Addr) (cap : Nat), u = .slice base n cap → cap < n + m → (Builtin.firstCells i.size n (.slice base n cap)).run P w.drew = .ok cs.toArray w.drew → cs.length = n * sz →
      ∃ u' w', (Builtin.append_ #[t, tx] tt #[u, v]).run P w = .ok u' w' ∧ Appended e sz bo (n + m) (cs ++ news) w u' w' := by
    intro base cap hu hlt hold hcs
    subst hu
    have hnc := nextcap_le hlt
    have hfit : Builtin.nextslicecap (n + m) cap * i.bytes ≤ 281474976710656 := by
      rw [hby]
      exact Nat.le_trans (Nat.mul_le_mul_right _ hnc) hb
    refine ⟨_, _, run_append_grow_src w t tx tt e i z ht hi hze base n cap cs hold v m news hsrc hlt (by omega) hfit, ?_⟩
    have hcap : n + m ≤ grownCap w (n + m) cap e := by unfold grownCap Question.cut; simp
    have hzl : (Builtin.zeroCells z.cells (grownCap w (n + m) cap e - (n + m))).toList.length = (grownCap w (n + m) cap e - (n + m)) * sz := by
      simp [Builtin.zeroCells, hzc]
    refine ⟨some w.heap.size, .inr ⟨w.heap.size, _, (Builtin.zeroCells z.cells (grownCap w (n + m) cap e - (n + m))).toList, rfl, rfl, hcap, ?_, ?_, hzl⟩, ?_, .inr ⟨_, rfl, Nat.le_refl _⟩⟩
    · have := Arr.new w.drew e ((cs ++ news) ++ (Builtin.zeroCells z.cells (grownCap w (n + m) cap e - (n + m))).toList)
      have h2 : ((cs ++ news) ++ (Builtin.zeroCells z.cells (grownCap w (n + m) cap e - (n + m))).toList).toArray = (cs ++ news).toArray ++ Builtin.zeroCells z.cells (grownCap w (n + m) cap e - (n + m)) := by
        apply Array.ext'; simp
      rw [h2] at this
      exact this
    · rw [List.length_append, hcs, hnl, Nat.add_mul]
    · have hd : Only No w w.drew := ⟨rfl, rfl, rfl, Nat.le_refl _, fun _ _ _ => rfl⟩
      exact No.any (hd.trans (only_alloc _ _))
  rcases hO with ⟨h1, h2, h3, h4⟩ | ⟨b, cap, rest, h1, h2, h3, h4, h5, h6⟩
  · subst h1; subst h2; subst h3; subst h4
    by_cases hm0 : m = 0
    · subst hm0
      have hn0 : news = [] := List.eq_nil_of_length_eq_zero (by omega)
      subst hn0
      refine ⟨.slice none 0 0, w, ?_, none, Ow.nil _ _ _, Only.refl _ _, .inl rfl⟩
      obtain ⟨A, c, hv, _⟩ := hs
      subst hv
      cases A <;> simp [Builtin.append_, run_underlying ht, run_underlying htx, go_sem, sizeOf, typeInfo, hi, Builtin.lenOf, Builtin.firstCells, loadCellsFrom]
    · exact hgrow none 0 rfl (by omega) rfl (by simp)
  · by_cases hroom : n + m ≤ cap
    · subst h1
      have hlen : (cs ++ rest).length = cap * sz := by
        rw [List.length_append, h5, h6, ← Nat.add_mul]; congr 1; omega
      have hnc : n * sz + news.length ≤ (cs ++ rest).length := by
        rw [hlen, hnl, ← Nat.add_mul]; exact Nat.mul_le_mul_right _ hroom
      have hrun := run_append_room_src w t tx tt e i ht hi b 0 n cap v m news hsrc hroom (fun j hj => by
          rw [hsz, Nat.zero_add, h4.cell (List.getElem?_eq_getElem (by omega))]; rfl) (fun j hj => h4.frozen)
      rw [h2]
      refine ⟨_, _, hrun, some b, .inr ⟨b, cap, rest.drop news.length, rfl, rfl, hroom, ?_, ?_, ?_⟩, (only_setCells _ _ _).mono (fun k _ h => (congrArg some h).symm), .inl rfl⟩
      · rw [hsz, Nat.zero_add]
        have := Arr.setCells news (n * sz) _ w h4 hnc
        rw [← h5, List.take_append_of_le_length (Nat.le_refl _), List.take_length, List.drop_append] at this
        have e1 : List.drop (cs.length + news.length) cs = [] := List.drop_of_length_le (by omega)
        have e2 : cs.length + news.length - cs.length = news.length := by omega
        rw [e1, e2, List.nil_append] at this
        exact h5 ▸ this
      · rw [List.length_append, h5, hnl, Nat.add_mul]
      · rw [List.length_drop, h6, hnl, ← Nat.sub_mul]; congr 1; omega
    · refine hgrow (some ⟨b, 0, none⟩) cap h2 (by omega) ?_ h5
      have := run_loadCells_list (P := P) w.drew ⟨b, 0, none⟩ cs (fun j v hj => by
        rw [add0]
        have h7 : w.cell? ⟨b, 0 + j, none⟩ = some v := h4.cell (by rw [Nat.zero_add, List.getElem?_append_left (List.getElem?_eq_some_iff.1 hj).1]; exact hj)
        exact h7)
      rw [h5, ← hsz] at this
      exact this
end
end Go.Proofs.YtnlbekdjepkhcaaF
