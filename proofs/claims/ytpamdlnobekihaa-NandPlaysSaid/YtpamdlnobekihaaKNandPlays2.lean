/- Part of the proof of the law NandPlays, for all its inputs. -/
import Derived.Test.YtpamdlnobekihaaKNandPlays1
set_option linter.unusedVariables false
set_option linter.unusedSimpArgs false
namespace Ram
def subl (r b : List UInt8) (f : UInt8) (n k : Nat) : List UInt8 := tab r.length (fun j => if n ≤ j ∧ j < n + k then r.getD j 0 ^^^ gm f (b.getD (j - n) 0) else r.getD j 0)
structure DivInv (a b q r : List UInt8) (i : Int) : Prop where
 eq : addF (mulF q (co b)) (co r) = co a
 rz : ∀ k : Nat, i + b.length ≤ k → r.getD k 0 = 0
 qz : ∀ k : Nat, (k : Int) ≤ i → q.getD k 0 = 0
structure Div3 (a b q r : List UInt8) : Prop where
 i : DivInv a b q r ((r.length : Int) - b.length)
 t : trimL r = r
open Classical in
noncomputable def quoP (a b : List UInt8) : List UInt8 := if h : ∃ qr : List UInt8 × List UInt8, IsDiv a (trimL b) qr.1 qr.2 then h.choose.1 else []
open Classical in
noncomputable def remP (a b : List UInt8) : List UInt8 := if h : ∃ qr : List UInt8 × List UInt8, IsDiv a (trimL b) qr.1 qr.2 then h.choose.2 else []
def isP (b : List UInt8) : Bool := !decide (trimL b = [])
end Ram
namespace Ram
abbrev tG (x : UInt8) : G := x
def sqB (a : UInt8) : UInt8 := gm a a
def sqL (l : List UInt8) : List UInt8 := l.map sqB
abbrev xB (a b : UInt8) : UInt8 := a ^^^ b
def rootL (l : List Int) : List UInt8 := minL (l.map fun k => (k % 255).toNat)
def inL (l : List Int) (i : Nat) : List Bool := tab 256 (fun a => (l.take i).any (fun k => decide (exI k = UInt8.ofNat a)))
end Ram
namespace Ram
def xs : Nat → (Nat → UInt8) → UInt8
 | 0, _ => 0
 | n + 1, f => xs n f ^^^ f n
def sB (f : Nat → Bool) (n i : Nat) : UInt8 := xs n (fun k => if f k then exB (i * k) else 0)
def syn (L : List Nat) (i : Nat) : UInt8 := L.foldl (fun s k => s ^^^ exB (i * k)) 0
def tS (L : List Nat) (p : List UInt8) (j : Nat) : UInt8 := L.foldl (fun s k => s ^^^ gm (evP p (exB k)) (exB (j * k))) 0
end Ram
namespace Ram
def bt (w : List UInt8) (k : Nat) : Bool := (w.getD (k / 8) 0).toNat.testBit (k % 8)
def flip1 (w : List UInt8) (p : Nat) : List UInt8 := w.set (p / 8) (w.getD (p / 8) 0 ^^^ UInt8.ofNat (2 ^ (p % 8)))
theorem flip1_length (w : List UInt8) (p : Nat) : (flip1 w p).length = w.length := List.length_set ..
def flipL (w : List UInt8) (L : List Nat) : List UInt8 := L.foldl flip1 w
def sW (w : List UInt8) (i : Nat) : UInt8 := sB (bt w) (8 * w.length) i
def ofBits (n : Nat) (f : Nat → Bool) : List UInt8 := tab n (fun k => if f k then 1 else 0)
def polyW (w : List UInt8) : List UInt8 := ofBits (8 * w.length) (bt w)
def genP : List UInt8 := mulP (mulP (mulP (mulP [1] (minP 1)) (minP 3)) (minP 5)) (minP 7)
def genRoots : List Nat := orbit 1 ++ orbit 3 ++ orbit 5 ++ orbit 7
structure IsCode (w : List UInt8) : Prop where
 len : w.length = 28
 sums : ∀ i, 1 ≤ i → i ≤ 8 → sW w i = 0
def apL (a b : List UInt8) : List Nat := (List.range (8 * a.length)).filter (fun k => bt a k != bt b k)
def pkn (f : Nat → Bool) (s : Nat) : Nat → Nat
 | 0 => 0
 | t + 1 => (if f (s + t) then 2 ^ t else 0) + pkn f s t
def pkN (n : Nat) (f : Nat → Bool) : List UInt8 := tab n (fun j => UInt8.ofNat (pkn f (8 * j) 8))
end Ram
namespace Ram
def pad4 (d : List UInt8) : List UInt8 := List.replicate 4 0 ++ d
noncomputable def restW (d : List UInt8) : List UInt8 := remP (polyW (pad4 d)) genP
noncomputable def encW (d : List UInt8) : List UInt8 := pkN 28 (fun k => if k < 32 then decide ((restW d).getD k 0 ≠ 0) else bt (pad4 d) k)
structure Near (w : List UInt8) (L : List Nat) : Prop where
 up : L.Pairwise (· < ·)
 lt : ∀ k ∈ L, k < 224
 few : L.length ≤ 3
 eq : ∀ i, 1 ≤ i → i ≤ 8 → sW w i = syn L i
noncomputable def decL (w : List UInt8) : Option (List Nat) := open Classical in if h : ∃ L, Near w L then some h.choose else none
def upL (L : List Nat) : List Nat := (List.range 224).filter (fun k => decide (k ∈ L))
end Ram
namespace Ram
def sumsL (w : List UInt8) : List UInt8 := tab 8 (fun i => sW w (i + 1))
def whole (s : List UInt8) : Bool := s.all (fun x => decide (x = 0))
def sigL (l : List UInt8) (p : Nat) : UInt8 := 1 ^^^ xs l.length (fun i => gm (l.getD i 0) (exI ((-1 - (i : Int)) * p)))
def wrongL (l : List UInt8) : List Nat := (List.range 224).filter (fun p => decide (sigL l p = 0))
def locL (s : List UInt8) (n : Nat) : List UInt8 × Bool :=
 if n = 1 then ([s.getD 0 0], true)
 else if n = 2 then ([s.getD 0 0, gm (s.getD 2 0 ^^^ powB (s.getD 0 0) 3) (invB (s.getD 0 0))], !decide (s.getD 0 0 = 0))
 else ([s.getD 0 0, gm (gm (gm (s.getD 0 0) (s.getD 0 0)) (s.getD 2 0) ^^^ s.getD 4 0) (invB (powB (s.getD 0 0) 3 ^^^ s.getD 2 0)),
  (powB (s.getD 0 0) 3 ^^^ s.getD 2 0) ^^^ gm (s.getD 0 0) (gm (gm (gm (s.getD 0 0) (s.getD 0 0)) (s.getD 2 0) ^^^ s.getD 4 0) (invB (powB (s.getD 0 0) 3 ^^^ s.getD 2 0)))],
  !decide (powB (s.getD 0 0) 3 ^^^ s.getD 2 0 = 0))
end Ram
namespace Ram
open Go.Proofs.YtpamdlnobekihaaF (shlB shrB)
def onesTo (w : List UInt8) (n : Nat) : List Nat := (List.range n).filter (bt w)
def onesP (w : List UInt8) : List Nat := onesTo w (8 * w.length)
def polyTo (w : List UInt8) (pre : List Nat) : List UInt8 := tab (8 * w.length) (fun k => if k ∈ pre then 1 else 0)
def packTo (l : List UInt8) (i : Nat) : List UInt8 := pkN ((l.length + 7) / 8) (fun k => decide (k < i) && decide ((l.getD k 0 &&& 1) ≠ 0))
def packW (l : List UInt8) : List UInt8 := packTo l l.length
def genI : Nat → List UInt8
 | 0 => [1]
 | i + 1 => mulP (genI i) (minP ((2 * i + 1 : Nat) : Int))
noncomputable def encR (d : List UInt8) : List UInt8 := if d.length = 24 then encW d else []
def powTo (n : Nat) : List UInt8 := tab 255 (fun k => if k ≤ n then exB k else 0)
def sumMid (pre : List Nat) (x i : Nat) : List UInt8 := tab 8 (fun t => if t < i then syn (pre ++ [x]) (t + 1) else syn pre (t + 1))
def sumTo (pre : List Nat) : List UInt8 := tab 8 (fun t => syn pre (t + 1))
def synR (w : List UInt8) : List UInt8 := if w.length = 28 then sumsL w else []
end Ram
namespace Ram
open Go.Proofs.YtpamdlnobekihaaF (shlB shrB)
theorem set_tab {α : Type} {n i : Nat} {f g : Nat → α} {v : α} (hv : v = g i) (h : ∀ k, k < n → k ≠ i → f k = g k) : (tab n f).set i v = tab n g := by
 rw [tab_set]
 refine tab_ext fun k hk => ?_
 by_cases he : k = i
 ·rw [if_pos he, he]; exact hv
 ·rw [if_neg he]; exact h k hk he
def stepTo (n i : Nat) : List UInt8 := tab n (fun t => if t < i then exI (-1 - (t : Int)) else 0)
def tmAt (l : List UInt8) (p t : Nat) : UInt8 := gm (l.getD t 0) (exI ((-1 - (t : Int)) * p))
def tmL (l : List UInt8) (p : Nat) : List UInt8 := tab l.length (tmAt l p)
def tmMid (l : List UInt8) (p i : Nat) : List UInt8 := tab l.length (fun t => if t < i then tmAt l (p + 1) t else tmAt l p t)
def sgT (l : List UInt8) (p i : Nat) : UInt8 := 1 ^^^ xs i (tmAt l p)
def wrongTo (l : List UInt8) (p : Nat) : List Nat := (List.range p).filter (fun p => decide (sigL l p = 0))
theorem take_next {α : Type} {d : α} {l : List α} {i : Nat} (h : i < l.length) : l.take (i + 1) = l.take i ++ [l.getD i d] := by
 rw [List.take_succ_eq_append_getElem h]
 congr 2
 rw [List.getD_eq_getElem?_getD, List.getElem?_eq_getElem h]; rfl
theorem shl_one (p : Nat) : shlB 1 p = UInt8.ofNat (2 ^ p) := by unfold shlB; simp
noncomputable def decB (w : List UInt8) : Bool := if w.length = 28 then (decL w).isSome else false
noncomputable def decN (w : List UInt8) : Nat := if w.length = 28 then (decL w).elim 0 List.length else 0
noncomputable def decD (w : List UInt8) : List UInt8 := if w.length = 28 then (decL w).elim [] (fun L => (flipL w L).drop 4) else []
end Ram
namespace Ram
open Go.Proofs.YtpamdlnobekihaaF (shlB shrB)
def pwT (i : Nat) : List UInt8 := tab 255 (fun k => if k < i then exB k else 0)
def logT (i : Nat) : List Nat := tab 256 (fun a => if a ≠ 0 ∧ lg a < i then lg a else 0)
def lgZ (a : UInt8) : Nat := (logT 255).getD a.toNat 0
def turnTo (s : List UInt8) (k i : Nat) : List UInt8 := tab s.length (fun t => if t < i then s.getD t 0 ^^^ exB (k * (t + 1)) else s.getD t 0)
def turnL (s : List UInt8) (k : Nat) : List UInt8 := turnTo s k 8
def SynEq (s : List UInt8) (L : List Nat) : Prop := ∀ i, i < 8 → s.getD i 0 = syn L (i + 1)
def sing (s : List UInt8) : Int := if s.getD 0 0 ≠ 0 ∧ lgZ (s.getD 0 0) < 224 ∧ whole (turnL s (lgZ (s.getD 0 0))) = true then (lgZ (s.getD 0 0) : Int) else -1
def synTo (w : List UInt8) (k : Nat) : List UInt8 := tab 8 (fun t => sB (bt w) k (t + 1))
def synMid (w : List UInt8) (k i : Nat) : List UInt8 := tab 8 (fun t => if t < i then sB (bt w) (k + 1) (t + 1) else sB (bt w) k (t + 1))
def gBit (j : Nat) : Bool := decide (genP.getD j 0 ≠ 0)
def xorG (r : List UInt8) (n i : Nat) : List UInt8 := pkN 28 (fun j => bt r j != (decide (n ≤ j ∧ j < n + i) && gBit (j - n)))
structure Rest4 (d r : List UInt8) (k : Nat) : Prop where
 len : r.length = 28
 up : ∀ j, k < j → bt r j = false
 eq : ∀ i, 1 ≤ i → i ≤ 8 → sW r i = sW (pad4 d) i
def PlacesOk (s : List UInt8) (L : List Nat) (b : Bool) : Prop :=
 (b = true ∧ L.Nodup ∧ (∀ k ∈ L, k < 224) ∧ L.length ≤ 3 ∧ SynEq s L) ∨
 (b = false ∧ L = [] ∧ ∀ M : List Nat, M.Pairwise (· < ·) → (∀ k ∈ M, k < 224) → M.length ≤ 3 → ¬ SynEq s M)
end Ram
namespace Ram
open Go.Proofs.YtpamdlnobekihaaF (shlB shrB)
def dAt (b : List UInt8) (i : Nat) : UInt8 := if b.length = 0 then 0 else b.getD (i % b.length) 0 + UInt8.ofNat (i / b.length)
def dataL (b : List UInt8) (n : Nat) : List UInt8 := tab n (dAt b)
def dataTo (b : List UInt8) (n i : Nat) : List UInt8 := tab n (fun k => if k < i then dAt b k else 0)
def plStep (n most : Nat) (out : List Nat) (x : Int) : List Nat := if out.length < most then (if (x % (n : Int)).toNat ∈ out then out else out ++ [(x % (n : Int)).toNat]) else out
def plTo (l : List Int) (n most i : Nat) : List Nat := (l.take i).foldl (plStep n most) []
def placesL (l : List Int) (n most : Nat) : List Nat := plTo l n most l.length
def btN (l : List UInt8) (k : Nat) : Nat := (shrB (l.getD (k / 8) 0) (k % 8)).toNat &&& 1
def apTo (a b : List UInt8) (n : Nat) : List Nat := (List.range n).filter (fun k => bt a k != bt b k)
def apR (a b : List UInt8) : List Nat := if a.length = b.length then apL a b else []
end Ram
namespace Ram
open Go.Proofs.YtpamdlnobekihaaF (shlB shrB)
def onesN (w : List UInt8) : Nat := (onesP w).length
def flI (w : List UInt8) (x : Int) : List UInt8 := if 0 ≤ x ∧ x < 8 * (w.length : Int) then flip1 w x.toNat else w
def flipI (w : List UInt8) (l : List Int) : List UInt8 := l.foldl flI w
theorem flI_length (w : List UInt8) (x : Int) : (flI w x).length = w.length := by unfold flI; split; exact flip1_length _ _; rfl
theorem flipI_length (w : List UInt8) (l : List Int) : (flipI w l).length = w.length := by
 induction l generalizing w with
 | nil => rfl
 | cons a l ih => exact (ih _).trans (flI_length w a)
theorem flipI_next (w : List UInt8) {l : List Int} {i : Nat} (h : i < l.length) : flI (flipI w (l.take i)) (l.getD i 0) = flipI w (l.take (i + 1)) := by
 rw [take_next (d := 0) h]; unfold flipI; rw [List.foldl_append]; rfl
theorem flI_yes {w : List UInt8} {x : Int} {n : Nat} (hx : x = (n : Int)) (h : n < 8 * w.length) : w.set (n / 8) (w.getD (n / 8) 0 ^^^ shlB 1 (n % 8)) = flI w x := by
 subst hx
 unfold flI
 rw [if_pos ⟨by omega, by omega⟩, shl_one]; rfl
theorem flI_no {w : List UInt8} {x : Int} (h : ¬ (0 ≤ x ∧ x < 8 * (w.length : Int))) : flI w x = w := if_neg h
def mixAt (o n m : List UInt8) (i : Nat) : UInt8 := if m.length = 0 then o.getD i 0 else (o.getD i 0 &&& ~~~ m.getD (i % m.length) 0) ||| (n.getD i 0 &&& m.getD (i % m.length) 0)
def mixTo (o n m : List UInt8) (i : Nat) : List UInt8 := tab o.length (fun k => if k < i then mixAt o n m k else o.getD k 0)
def mixL (o n m : List UInt8) : List UInt8 := tab o.length (mixAt o n m)
def mixR (o n m : List UInt8) : List UInt8 := if o.length = n.length then mixL o n m else []
theorem mixTo_length (o n m : List UInt8) (i : Nat) : (mixTo o n m i).length = o.length := tab_length
theorem mixL_length (o n m : List UInt8) : (mixL o n m).length = o.length := tab_length
theorem mixTo_zero (o n m : List UInt8) : o = mixTo o n m 0 := (eq_tab o 0).trans (tab_ext fun k _ => by rw [if_neg (by omega)])
theorem mixTo_step (o n : List UInt8) {m : List UInt8} (i : Nat) (hm : 0 < m.length) : (mixTo o n m i).set i ((o.getD i 0 &&& ~~~ m.getD (i % m.length) 0) ||| (n.getD i 0 &&& m.getD (i % m.length) 0)) = mixTo o n m (i + 1) := by
 unfold mixTo
 refine set_tab ?_ fun k _ hk => ?_
 ·rw [if_pos (by omega)]; unfold mixAt; rw [if_neg (by omega)]
 ·by_cases h : k < i
  ·rw [if_pos h, if_pos (show k < i + 1 by omega)]
  ·rw [if_neg h, if_neg (show ¬ k < i + 1 by omega)]
theorem mixTo_none (o n : List UInt8) {m : List UInt8} (i : Nat) (hm : ¬ 0 < m.length) : mixTo o n m (i + 1) = mixTo o n m i := tab_ext fun k _ => by
 have : mixAt o n m k = o.getD k 0 := by unfold mixAt; rw [if_pos (by omega)]
 rw [this]; split <;> split <;> rfl
theorem mixTo_done {o n m : List UInt8} {i : Nat} (h : o.length ≤ i ∨ m.length = 0) : mixTo o n m i = mixL o n m := tab_ext fun k hk => by
 rcases h with h | h
 ·rw [if_pos (by omega)]
 ·have : mixAt o n m k = o.getD k 0 := by unfold mixAt; rw [if_pos h]
  rw [this]; split <;> rfl
def xorB (a b : List UInt8) (i : Nat) : List UInt8 := tab a.length (fun k => if k < i then a.getD k 0 ^^^ b.getD k 0 else a.getD k 0)
end Ram
set_option maxRecDepth 20000
set_option maxHeartbeats 4000000
namespace Go.Proofs.YtpamdlnobekihaaF
open Go Shelf YtpamdlnobekihaaS Ram
theorem cloneB_ok (la : List UInt8) (u1 : Value) (W : World) (h1 : Ps No (Seq kB la u1) W) (g1 : la.length ≤ 1048576) :
    CW Try.prog 51 #[u1] W (Rt (ROw 5 eB la W)) := by
 have oW : Only No W W := Only.refl _ _
 refine enter (al := [u1]) (k := 7) (l := ([u1] ++ (us 7))) Try.func51 rfl Try.ntmps51 rfl rfl ?_
 refine wQ (pL ?_)
 refine wI (d_assign rfl) ?_
 refine wD (tN (wQ (wQ (pL ?_))))
 refine wI (d_move rfl) ?_
 refine wO (d_eqnil Try.underlying36 rfl h1 rfl) ?_
 rintro _ _ ⟨t, rfl, ht, rfl⟩
 refine wD (tN ?_)
 refine cond_b rfl (fun c0 => ?_) (fun c0 => ?_)
 ·
  refine wQ (pL ?_)
  refine wI (d_assign rfl) ?_
  refine wD (tN ?_)
  refine wpIn_ret ?_
  refine then_r ?_
  refine leave0 (v := vN) (res1 Try.results51 rfl) ?_
  exact ROw.nil ((ht c0).symm) oW
 refine wK (tN (wQ (pL ?_)))
 refine wO (d_buildL (cs := []) Try.underlying36 s_ti5 rfl (nb rfl) parts_nil rfl) ?_
 rintro _ w12 ⟨b11, rfl, g13, a14, o15⟩
 replace a14 : Arr 5 b11 (([] : List UInt8).map eB) w12 := a14
 have l_b11 : ([] : List UInt8).length = 0 := rfl
 have g_oW_b11 : W.heap.size ≤ b11 := Nat.le_trans oW.size g13
 replace h1 := h1.new o15 g13
 replace oW := oW.tail0 o15
 refine wI (d_move rfl) ?_
 have a16 := Ow.of_map2 a14 l_b11
 have q_oW_o : Fr (some b11) none W.heap.size := Fr.new g_oW_b11
 replace h1 := h1.less (Y := (Orq (some b11) No)) (xx_br xx_id)
 refine wO (d_append Try.underlying36 Try.underlying36 s_ti5 rfl rfl rfl a16 (SrcV.of_seq h1 (fun _ => rfl)) (by simp; omega) (by simp; omega) rfl) ?_
 rintro u17 w18 ⟨bo19, a20, o21, q22⟩
 replace a20 : Ow 5 1 bo19 u17 (la).length ((la).map eB) w18 := by simpa using a20
 replace h1 := h1.gr o21 (fun k e => (.inl e)) (xx_re (Fr.of_or q22) xx_id)
 have tq := oW.size
 replace oW := oW.tailr o21 q_oW_o (fun _ e => by cases e)
 replace q_oW_o := qtr (Fr.of_or q22) q_oW_o tq
 clear tq
 refine wI (d_assign rfl) ?_
 refine wD (tN ?_)
 refine wpIn_ret ?_
 refine leave0 (v := u17) (res1 Try.results51 rfl) ?_
 exact ROw.mk_ a20 rfl q_oW_o oW
theorem cloneI_ok (la : List Int) (u1 : Value) (W : World) (h1 : Ps No (Seq kI la u1) W) (g1 : la.length ≤ 1048576) :
    CW Try.prog 45 #[u1] W (Rt (ROw 3 eI la W)) := by
 have oW : Only No W W := Only.refl _ _
 refine enter (al := [u1]) (k := 7) (l := ([u1] ++ (us 7))) Try.func45 rfl Try.ntmps45 rfl rfl ?_
 refine wQ (pL ?_)
 refine wI (d_assign rfl) ?_
 refine wD (tN (wQ (wQ (pL ?_))))
 refine wI (d_move rfl) ?_
 refine wO (d_eqnil Try.underlying37 rfl h1 rfl) ?_
 rintro _ _ ⟨t, rfl, ht, rfl⟩
 refine wD (tN ?_)
 refine cond_b rfl (fun c0 => ?_) (fun c0 => ?_)
 ·
  refine wQ (pL ?_)
  refine wI (d_assign rfl) ?_
  refine wD (tN ?_)
  refine wpIn_ret ?_
  refine then_r ?_
  refine leave0 (v := vN) (res1 Try.results45 rfl) ?_
  exact ROw.nil ((ht c0).symm) oW
 refine wK (tN (wQ (pL ?_)))
 refine wO (d_buildL (cs := []) Try.underlying37 s_ti3 rfl (nb rfl) parts_nil rfl) ?_
 rintro _ w12 ⟨b11, rfl, g13, a14, o15⟩
 replace a14 : Arr 3 b11 (([] : List Int).map eI) w12 := a14
 have l_b11 : ([] : List Int).length = 0 := rfl
 have g_oW_b11 : W.heap.size ≤ b11 := Nat.le_trans oW.size g13
 replace h1 := h1.new o15 g13
 replace oW := oW.tail0 o15
 refine wI (d_move rfl) ?_
 have a16 := Ow.of_map2 a14 l_b11
 have q_oW_o : Fr (some b11) none W.heap.size := Fr.new g_oW_b11
 replace h1 := h1.less (Y := (Orq (some b11) No)) (xx_br xx_id)
 refine wO (d_append Try.underlying37 Try.underlying37 s_ti3 rfl rfl rfl a16 (SrcV.of_seq h1 (fun _ => rfl)) (by simp; omega) (by simp; omega) rfl) ?_
 rintro u17 w18 ⟨bo19, a20, o21, q22⟩
 replace a20 : Ow 3 1 bo19 u17 (la).length ((la).map eI) w18 := by simpa using a20
 replace h1 := h1.gr o21 (fun k e => (.inl e)) (xx_re (Fr.of_or q22) xx_id)
 have tq := oW.size
 replace oW := oW.tailr o21 q_oW_o (fun _ e => by cases e)
 replace q_oW_o := qtr (Fr.of_or q22) q_oW_o tq
 clear tq
 refine wI (d_assign rfl) ?_
 refine wD (tN ?_)
 refine wpIn_ret ?_
 refine leave0 (v := u17) (res1 Try.results45 rfl) ?_
 exact ROw.mk_ a20 rfl q_oW_o oW
theorem bitsFlip_ok (la : List UInt8) (ls : List Int) (u1 u2 : Value) (W : World) (h1 : Ps No (Seq kB la u1) W) (h2 : Ps No (Seq kI ls u2) W) (g1 : la.length ≤ 1048576) (g2 : ls.length ≤ 1048576) :
    CW Try.prog 52 #[u1, u2] W (Rt (ROw 5 eB (flipI la ls) W)) := by
 have oW : Only No W W := Only.refl _ _
 refine enter (al := [u1, u2]) (k := 36) (l := ([u1, u2] ++ (us 36))) Try.func52 rfl Try.ntmps52 rfl rfl ?_
 refine wQ (pL ?_)
 refine wI (d_assign rfl) ?_
 refine wD (tN (wQ (pL ?_)))
 refine wI (d_move rfl) ?_
 refine wO (d_call (xl := [.tmp 8]) (al := [u1]) Try.func51 kr rfl rfl rfl (cloneB_ok la u1 _ (Ps.no h1) fo)) ?_
 rintro u13 w11 f14
 obtain ⟨bo15, f14, g16, o12⟩ := f14
 have q_oW_o := qnew g16 oW.size
 replace h1 := h1.newq o12 g16
 replace h2 := h2.newq o12 g16
 replace oW := oW.tail0 o12
 refine wI (d_assign rfl) ?_
 refine wD (tN (wQ (wQ (pL ?_))))
 refine wI (d_move rfl) ?_
 refine wI (d_lenS rfl Try.underlying37 rfl h2) ?_
 refine wI (d_move rfl) ?_
 refine wD (tN (wB ?_))
 refine loop2 (fun (i : (Nat)) => fun (z : Nat → Value) => (([u1, u2, undef, undef, vN, u13, undef, (z 7), u1, u13, u2, (eN ls.length), (eN i)] ++ (zs z 13 23 ++ [undef, undef])) : List Value)) (fun (i : (Nat)) => fun (w_ : World) => (i ≤ ls.length) ∧ Only (Orq bo15 No) w11 w_ ∧ Ow 5 1 bo15 u13 (flipI la (ls.take i)).length ((flipI la (ls.take i)).map eB) w_) (fun (i : (Nat)) => ls.length - i) 0 kr ?_ ?_
 ·
  refine ⟨?_, ?_, ?_⟩
  ·
   exact Nat.zero_le _
  ·
   exact Only.refl _ _
  ·
   exact f14
 rintro i z w18 ⟨hi, o17, f14⟩
 (try dsimp only)
 replace h1 := h1.step o17 (orq_mono no_any)
 replace h2 := h2.step o17 (orq_mono no_any)
 replace oW := oW.tail o17 (tl_q q_oW_o (fun _ e => by cases e) tl_no)
 have q_o17_o : Fr bo15 bo15 w11.heap.size := Fr.same
 refine wQ (pL ?_)
 refine wI (n_lss (a := i) (b := ls.length) rfl rfl rfl) ?_
 refine wD (tN (wQ ?_))
 refine cond_if rfl (fun c0 => ?_) (fun c0 => ?_)
 ·
  refine wK (tN (wQ (wB (wQ (pL ?_)))))
  refine wI (d_ix (i := i) (xs := ls) Try.underlying37 s_ti3 rfl h2 (show _ = Value.int _ (i : Int) from rfl) fo) ?_
  refine wI (d_ldx (i := i) (xs := ls) (enc := eI) (v := (ls.getD i 0)) ⟨_, Try.underlying3, rfl⟩ rfl h2 (g_at fo)) ?_
  refine wI (d_assign rfl) ?_
  refine wD (tN (wQ ?_))
  have hl_ := flipI_length la (ls.take i)
  by_cases k0 : 0 ≤ (ls.getD i 0)
  ·
   obtain ⟨n_, hn_⟩ := Int.eq_ofNat_of_zero_le k0
   refine wp_eq (l' := ([u1, u2, undef, undef, vN, u13, undef, (eI (ls.getD i 0)), u1, u13, u2, (eN ls.length), (eN i), (Value.bool (decide (i < ls.length))), (ixp u2 i), (eI (ls.getD i 0))] ++ (zs z 16 20 ++ [undef, undef]))) rfl ?_
   refine wp_eq (l' := ([u1, u2, undef, undef, vN, u13, undef, (eN n_), u1, u13, u2, (eN ls.length), (eN i), (Value.bool (decide (i < ls.length))), (ixp u2 i), (eI (ls.getD i 0))] ++ (zs z 16 20 ++ [undef, undef]))) (show (([u1, u2, undef, undef, vN, u13, undef, (eI (ls.getD i 0)), u1, u13, u2, (eN ls.length), (eN i), (Value.bool (decide (i < ls.length))), (ixp u2 i), (eI (ls.getD i 0))] ++ (zs z 16 20 ++ [undef, undef])) : List Value) = ([u1, u2, undef, undef, vN, u13, undef, (eN n_), u1, u13, u2, (eN ls.length), (eN i), (Value.bool (decide (i < ls.length))), (ixp u2 i), (eI (ls.getD i 0))] ++ (zs z 16 20 ++ [undef, undef])) from reslot ([u1, u2, undef, undef, vN, u13, undef, (eI (ls.getD i 0)), u1, u13, u2, (eN ls.length), (eN i), (Value.bool (decide (i < ls.length))), (ixp u2 i), (eI (ls.getD i 0))] ++ (zs z 16 20 ++ [undef, undef])) 7 (congrArg eI hn_)) ?_
   refine pL ?_
   refine wI (d_move rfl) ?_
   refine wI (n_geq (a := n_) (b := 0) rfl rfl (decide_eq_true oo)) ?_
   refine wI (d_move rfl) ?_
   refine wG (d_move rfl) ?_
   refine wG (d_move rfl) ?_
   refine wG (d_lenS rfl Try.underlying36 rfl (f14.seq (X := No) (fun _ _ h => h))) ?_
   refine wG (n_mul (a := 8) (b := ((flipI la (ls.take i)).length)) rfl rfl oo) ?_
   refine wF ([u1, u2, undef, undef, vN, u13, undef, (eN n_), u1, u13, u2, (eN ls.length), (eN i), (Value.bool (decide (i < ls.length))), (ixp u2 i), (eI (ls.getD i 0)), (eN n_), vT, vT, (eN n_), u13, (eN ((flipI la (ls.take i)).length)), (eN (8 * ((flipI la (ls.take i)).length)))] ++ (zs z 23 13 ++ [undef, undef])) ?_
   refine wG (n_lss (a := n_) (b := (8 * ((flipI la (ls.take i)).length))) rfl rfl rfl) ?_
   refine wI (d_pick (b := true) (v := (Value.bool (decide (n_ < (8 * ((flipI la (ls.take i)).length)))))) rfl rfl) ?_
   refine wD (tN ?_)
   refine forget (fun zf19 => ([u1, u2, undef, undef, vN, u13, undef, (eN n_), u1, u13, u2, (eN ls.length), (eN i)] ++ (zs zf19 13 11 ++ [(Value.bool (decide (n_ < (8 * ((flipI la (ls.take i)).length)))))] ++ (zs z 25 10 ++ [(zf19 35), undef, undef])))) kr (fun zf19 => ?_)
   refine cond_if rfl (fun k1 => ?_) (fun k1 => ?_)
   ·
    refine drawn_last (O := (Isq bo15)) (m := 10) (R := fun w_ => Ow 5 1 bo15 u13 ((flipI la (ls.take i)).set (n_ / 8) (((flipI la (ls.take i)).getD (n_ / 8) 0) ^^^ (shlB 1 (n_ % 8)))).length (((flipI la (ls.take i)).set (n_ / 8) (((flipI la (ls.take i)).getD (n_ / 8) 0) ^^^ (shlB 1 (n_ % 8)))).map eB) w_) [0, 0, 2, 7, 15, 0, 32, 96, 255, 511, 1023] [(0, 25), (1, 26), (2, 27), (3, 28), (4, 29), (5, 30), (6, 31), (7, 32), (8, 33), (9, 34)] [u13, (eN n_), (eN (n_ / 8)), (ixp u13 (n_ / 8)), (eB ((flipI la (ls.take i)).getD (n_ / 8) 0)), (eN n_), (eN (n_ % 8)), (eB (shlB 1 (n_ % 8))), (eB (((flipI la (ls.take i)).getD (n_ / 8) 0) ^^^ (shlB 1 (n_ % 8)))), (ixp u13 (n_ / 8))] ([u1, u2, undef, undef, vN, u13, undef, (eN n_), u1, u13, u2, (eN ls.length), (eN i)] ++ (zs zf19 13 11 ++ [(Value.bool (decide (n_ < (8 * ((flipI la (ls.take i)).length))))), u13, (eN n_), (eN (n_ / 8)), (ixp u13 (n_ / 8)), (eB ((flipI la (ls.take i)).getD (n_ / 8) 0)), (eN n_), (eN (n_ % 8)), (eB (shlB 1 (n_ % 8))), (eB (((flipI la (ls.take i)).getD (n_ / 8) 0) ^^^ (shlB 1 (n_ % 8)))), (ixp u13 (n_ / 8)), (zf19 35), undef, undef])) s_mx kr kr rfl rfl (by decide) kr kr ?_ (fun _ _ h_ ho_ => h_.step0 ho_) ⟨_, rfl, rfl, fun w_ hO_ => gd rfl ((d_stx (i := (n_ / 8)) (xs := (flipI la (ls.take i))) (enc := eB) (v := (((flipI la (ls.take i)).getD (n_ / 8) 0) ^^^ (shlB 1 (n_ % 8)))) s_ti5 rfl rfl rfl (f14.step0 hO_) (by have := flipI_length la (ls.take i); first | omega | (simp; done) | (simp; omega)) rfl).mono fun u_ w2_ h_ => ⟨h_.2, h_.1⟩)⟩ ?_
    ·
     intro w_ hO_
     refine AllG.cons (gi rfl (d_move rfl)) ?_
     refine AllG.cons (gi rfl (d_move rfl)) ?_
     refine AllG.cons (gi rfl (n_quo (a := n_) (b := 8) rfl rfl (by decide) oo)) ?_
     refine AllG.cons (gi rfl (d_ix (i := (n_ / 8)) (xs := (flipI la (ls.take i))) Try.underlying36 s_ti5 rfl ((f14.step0 hO_).seq (X := No) (fun _ _ h => h)) (show _ = Value.int _ ((n_ / 8 : Nat) : Int) from rfl) (by have := flipI_length la (ls.take i); first | omega | (simp; done) | (simp; omega)))) ?_
     refine AllG.cons (gi rfl (d_ldx (i := (n_ / 8)) (xs := (flipI la (ls.take i))) (enc := eB) (v := ((flipI la (ls.take i)).getD (n_ / 8) 0)) ⟨_, Try.underlying5, rfl⟩ rfl ((f14.step0 hO_).seq (X := No) (fun _ _ h => h)) (g_at (by have := flipI_length la (ls.take i); first | omega | (simp; done) | (simp; omega))))) ?_
     refine AllG.cons (gi rfl (d_move rfl)) ?_
     refine AllG.cons (gi rfl (n_rem (a := n_) (b := 8) rfl rfl (by decide))) ?_
     refine AllG.cons (gi rfl (b_shl (a := (n_ % 8)) rfl rfl oo)) ?_
     refine AllG.cons (gi rfl (b_xor (c := ((flipI la (ls.take i)).getD (n_ / 8) 0)) (e := (shlB 1 (n_ % 8))) rfl rfl)) ?_
     refine AllG.cons (gi rfl (d_ix (i := (n_ / 8)) (xs := (flipI la (ls.take i))) Try.underlying36 s_ti5 rfl ((f14.step0 hO_).seq (X := No) (fun _ _ h => h)) (show _ = Value.int _ ((n_ / 8 : Nat) : Int) from rfl) (by have := flipI_length la (ls.take i); first | omega | (simp; done) | (simp; omega)))) ?_
     exact AllG.nil
    intro w20 o21 a22
    replace h1 := h1.gr o21 (fun k e => (.inl e)) (xx_re Fr.same xx_id)
    replace h2 := h2.gr o21 (fun k e => (.inl e)) (xx_re Fr.same xx_id)
    have tq := oW.size
    replace oW := oW.tailr o21 q_oW_o (fun _ e => by cases e)
    replace q_oW_o := qtr Fr.same q_oW_o tq
    clear tq
    have tq := o17.size
    replace o17 := o17.tailr o21 q_o17_o (fun k e => (.inl e))
    replace q_o17_o := qtr Fr.same q_o17_o tq
    clear tq
    refine inb_n (tN ?_)
    refine pL ?_
    refine wI (n_add (a := i) (b := 1) rfl rfl oo) ?_
    refine wI (d_move rfl) ?_
    refine wD (tN ?_)
    refine ⟨_, (i + 1), rfl, kr, ⟨?_, ?_, ?_⟩, ?_⟩
    ·
     (try dsimp only)
     all_goals (omega)
    ·
     exact o17
    ·
     (try dsimp only)
     all_goals (rw [flI_yes hn_ oo, flipI_next la c0] at a22; exact a22)
    ·
     (try dsimp only)
     all_goals (omega)
   refine wK ?_
   refine inb_n (tN ?_)
   refine pL ?_
   refine wI (n_add (a := i) (b := 1) rfl rfl oo) ?_
   refine wI (d_move rfl) ?_
   refine wD (tN ?_)
   refine ⟨_, (i + 1), rfl, kr, ⟨?_, ?_, ?_⟩, ?_⟩
   ·
    (try dsimp only)
    all_goals (omega)
   ·
    exact o17
   ·
    (try dsimp only)
    all_goals (rw [← flipI_next la c0, flI_no (fun h_ => absurd h_.2 oo)]; exact f14)
   ·
    (try dsimp only)
    all_goals (omega)
  refine pL ?_
  refine wI (d_move rfl) ?_
  refine wI (d_geq (k := .i64) (m := (ls.getD i 0)) (n := 0) rfl rfl (decide_eq_false k0)) ?_
  refine wI (d_move rfl) ?_
  refine wF ([u1, u2, undef, undef, vN, u13, undef, (eI (ls.getD i 0)), u1, u13, u2, (eN ls.length), (eN i), (Value.bool (decide (i < ls.length))), (ixp u2 i), (eI (ls.getD i 0)), (eI (ls.getD i 0)), vF, vF] ++ (zs z 19 17 ++ [undef, undef])) ?_
  refine wX ?_
  refine wX ?_
  refine wX ?_
  refine wX ?_
  refine wX ?_
  refine wI (d_pick (b := false) (v := vF) rfl rfl) ?_
  refine wD (tN ?_)
  refine cond_f rfl ?_
  refine wK ?_
  refine inb_n (tN ?_)
  refine forget (fun zf23 => ([u1, u2, undef, undef, vN, u13, undef, (zf23 7), u1, u13, u2, (eN ls.length), (eN i)] ++ (zs zf23 13 12 ++ (zs z 25 10 ++ [(zf23 35), undef, undef])))) kr (fun zf23 => ?_)
  refine pL ?_
  refine wI (n_add (a := i) (b := 1) rfl rfl oo) ?_
  refine wI (d_move rfl) ?_
  refine wD (tN ?_)
  refine ⟨_, (i + 1), rfl, kr, ⟨?_, ?_, ?_⟩, ?_⟩
  ·
   (try dsimp only)
   all_goals (omega)
  ·
   exact o17
  ·
   (try dsimp only)
   all_goals (rw [← flipI_next la c0, flI_no (fun h_ => k0 h_.1)]; exact f14)
  ·
   (try dsimp only)
   all_goals (omega)
 refine wpIn_exit ?_
 refine then_x (then_x (inb_e ?_))
 refine tN ?_
 refine forget (fun zf24 => (zs zf24 0 5 ++ [u13] ++ (zs zf24 6 6 ++ [(eN i)] ++ (zs zf24 13 25)))) kr (fun zf24 => ?_)
 refine wQ (pL ?_)
 refine wI (d_move rfl) ?_
 refine wO (d_call (xl := [.tmp 36]) (al := [u13]) Try.func51 kr rfl rfl rfl (cloneB_ok (flipI la (ls.take i)) u13 _ (Ps.no (f14.seq (X := No) (fun _ _ h => h))) (by have := flipI_length la (ls.take i); first | omega | (simp; done) | (simp; omega)))) ?_
 rintro u27 w25 f28
 obtain ⟨bo29, f28, g30, o26⟩ := f28
 have nqq_o_o2 := nqq_new g30 f14.lts
 have q_oW_o2 := qnew g30 oW.size
 have q_o17_o2 := qnew g30 o17.size
 replace h1 := h1.newq o26 g30
 replace h2 := h2.newq o26 g30
 replace f14 := f14.step0 o26
 replace oW := oW.tail0 o26
 replace o17 := o17.tail0 o26
 refine wI (d_assign rfl) ?_
 refine wD (tN ?_)
 refine wpIn_ret ?_
 refine leave0 (v := u27) (res1 Try.results52 rfl) ?_
 exact ROw.mk_ f28 (by rw [show i = ls.length by omega, List.take_length]) q_oW_o2 oW
theorem bitsMix_ok (la lb lm : List UInt8) (u1 u2 u3 : Value) (W : World) (h1 : Ps No (Seq kB la u1) W) (h2 : Ps No (Seq kB lb u2) W) (h3 : Ps No (Seq kB lm u3) W) (g1 : la.length ≤ 1048576) (g2 : lb.length ≤ 1048576) (g3 : lm.length ≤ 1048576) :
    CW Try.prog 50 #[u1, u2, u3] W (Rt (ROw 5 eB (mixR la lb lm) W)) := by
 have oW : Only No W W := Only.refl _ _
 refine enter (al := [u1, u2, u3]) (k := 48) (l := ([u1, u2, u3] ++ (us 48))) Try.func50 rfl Try.ntmps50 rfl rfl ?_
 refine wQ (pL ?_)
 refine wI (d_assign rfl) ?_
 refine wD (tN (wQ (wQ (pL ?_))))
 refine wI (d_move rfl) ?_
 refine wI (d_lenS rfl Try.underlying36 rfl h1) ?_
 refine wI (d_move rfl) ?_
 refine wI (d_lenS rfl Try.underlying36 rfl h2) ?_
 refine wI (n_neq (a := la.length) (b := lb.length) rfl rfl rfl) ?_
 refine wD (tN ?_)
 refine cond_un rfl (fun c0 => ?_) (fun c0 => ?_)
 ·
  refine wQ (pL ?_)
  refine wI (d_assign rfl) ?_
  refine wD (tN ?_)
  refine forget (fun zf11 => (zs zf11 0 6 ++ [vN] ++ (zs zf11 7 12 ++ [undef] ++ (zs zf11 20 31)))) kr (fun zf11 => ?_)
  refine wpIn_ret ?_
  refine then_r ?_
  refine leave0 (v := vN) (res1 Try.results50 rfl) ?_
  exact ROw.nil ((if_neg c0).symm) oW
 refine wK (tN (wQ (pL ?_)))
 refine wI (d_move rfl) ?_
 refine wO (d_call (xl := [.tmp 15]) (al := [u1]) Try.func51 kr rfl rfl rfl (cloneB_ok la u1 _ (Ps.no h1) fo)) ?_
 rintro u14 w12 f15
 obtain ⟨bo16, f15, g17, o13⟩ := f15
 have q_oW_o := qnew g17 oW.size
 replace h1 := h1.newq o13 g17
 replace h2 := h2.newq o13 g17
 replace h3 := h3.newq o13 g17
 replace oW := oW.tail0 o13
 refine wI (d_assign rfl) ?_
 refine wF ([u1, u2, u3, undef, undef, undef, vN, u14, undef, undef, u1, (eN la.length), u2, (eN lb.length), (Value.bool (!decide (la.length = lb.length))), u1, u14] ++ (us 34)) ?_
 refine wD (tN ?_)
 refine forget (fun zf18 => ([u1, u2, u3, (zf18 3), (zf18 4), (zf18 5), (zf18 6), u14] ++ (zs zf18 8 11 ++ [undef] ++ (zs zf18 20 12 ++ (us 16 ++ [(zf18 48), (zf18 49), (zf18 50)]))))) kr (fun zf18 => ?_)
 refine wQ (wQ (pL ?_))
 refine wI (d_move rfl) ?_
 refine wI (d_lenS rfl Try.underlying36 rfl (f15.seq (X := No) (fun _ _ h => h))) ?_
 refine wI (d_move rfl) ?_
 refine wD (tN (wB ?_))
 refine loop2 (fun (i : (Nat)) => fun (z : Nat → Value) => (([u1, u2, u3, (zf18 3), (zf18 4), (zf18 5), (zf18 6), u14, (z 8), (z 9)] ++ (zs zf18 10 7 ++ [u14, (eN la.length), (eN i)] ++ (zs z 20 29 ++ [(zf18 49), (zf18 50)]))) : List Value)) (fun (i : (Nat)) => fun (w_ : World) => (i ≤ la.length) ∧ Only (Orq bo16 No) w12 w_ ∧ Ow 5 1 bo16 u14 (mixTo la lb lm i).length ((mixTo la lb lm i).map eB) w_) (fun (i : (Nat)) => la.length - i) 0 kr ?_ ?_
 ·
  refine ⟨?_, ?_, ?_⟩
  ·
   exact Nat.zero_le _
  ·
   exact Only.refl _ _
  ·
   (try dsimp only)
   all_goals (rw [← mixTo_zero]; exact f15)
 rintro i z w20 ⟨hi, o19, f15⟩
 (try dsimp only)
 replace h1 := h1.step o19 (orq_mono no_any)
 replace h2 := h2.step o19 (orq_mono no_any)
 replace h3 := h3.step o19 (orq_mono no_any)
 replace oW := oW.tail o19 (tl_q q_oW_o (fun _ e => by cases e) tl_no)
 have q_o19_o : Fr bo16 bo16 w12.heap.size := Fr.same
 refine wQ (pL ?_)
 refine wI (n_lss (a := i) (b := la.length) rfl rfl rfl) ?_
 refine wD (tN (wQ ?_))
 refine cond_if rfl (fun c1 => ?_) (fun c1 => ?_)
 ·
  refine wK (tN (wQ (wB (wQ (pL ?_)))))
  refine wI (d_move rfl) ?_
  refine wI (d_assign rfl) ?_
  refine wD (tN (wQ (pL ?_)))
  refine wI (d_move rfl) ?_
  refine wI (d_lenS rfl Try.underlying36 rfl h3) ?_
  refine wI (n_gtr (a := lm.length) (b := 0) rfl rfl rfl) ?_
  refine wD (tN ?_)
  refine cond_if rfl (fun c2 => ?_) (fun c2 => ?_)
  ·
   refine wQ (pL ?_)
   refine wI (d_move rfl) ?_
   refine wI (d_move rfl) ?_
   refine wI (d_move rfl) ?_
   refine wF ([u1, u2, u3, (zf18 3), (zf18 4), (zf18 5), (zf18 6), u14, (eN i), (z 9)] ++ (zs zf18 10 7 ++ [u14, (eN la.length), (eN i), (Value.bool (decide (i < la.length))), (eN i), u3, (eN lm.length), (Value.bool (decide (0 < lm.length))), u3, (eN i), u3] ++ (zs z 28 21 ++ [(zf18 49), (zf18 50)]))) ?_
   refine wI (d_lenS rfl Try.underlying36 rfl h3) ?_
   refine wI (n_rem (a := i) (b := lm.length) rfl rfl oo) ?_
   refine wI (d_ix (i := (i % lm.length)) (xs := lm) Try.underlying36 s_ti5 rfl h3 (show _ = Value.int _ ((i % lm.length : Nat) : Int) from rfl) (Nat.mod_lt _ oo)) ?_
   refine wI (d_ldx (i := (i % lm.length)) (xs := lm) (enc := eB) (v := (lm.getD (i % lm.length) 0)) ⟨_, Try.underlying5, rfl⟩ rfl h3 (g_at (Nat.mod_lt _ oo))) ?_
   refine wI (d_assign rfl) ?_
   refine wD (tN ?_)
   refine forget (fun zf21 => ([u1, u2, u3, (zf18 3), (zf18 4), (zf18 5), (zf18 6), u14, (eN i), (eB (lm.getD (i % lm.length) 0))] ++ (zs zf18 10 7 ++ [u14, (eN la.length), (eN i)] ++ (zs zf21 20 12 ++ (zs z 32 16 ++ [(zf21 48), (zf18 49), (zf18 50)]))))) kr (fun zf21 => ?_)
   have hl_ := mixTo_length la lb lm i
   refine drawn_last (O := (Isq bo16)) (m := 16) (R := fun w_ => Ow 5 1 bo16 u14 ((mixTo la lb lm i).set i (((la.getD i 0) &&& ~~~(lm.getD (i % lm.length) 0)) ||| ((lb.getD i 0) &&& (lm.getD (i % lm.length) 0)))).length (((mixTo la lb lm i).set i (((la.getD i 0) &&& ~~~(lm.getD (i % lm.length) 0)) ||| ((lb.getD i 0) &&& (lm.getD (i % lm.length) 0)))).map eB) w_) [0, 0, 0, 0, 12, 28, 0, 124, 0, 0, 768, 1792, 0, 7936, 16380, 32767, 65535] [(0, 32), (1, 33), (2, 34), (3, 35), (4, 36), (5, 37), (6, 38), (7, 39), (8, 40), (9, 41), (10, 42), (11, 43), (12, 44), (13, 45), (14, 46), (15, 47)] [u14, (eN i), u1, (eN i), (ixp u1 i), (eB (la.getD i 0)), (eB (lm.getD (i % lm.length) 0)), (eB ((la.getD i 0) &&& ~~~(lm.getD (i % lm.length) 0))), u2, (eN i), (ixp u2 i), (eB (lb.getD i 0)), (eB (lm.getD (i % lm.length) 0)), (eB ((lb.getD i 0) &&& (lm.getD (i % lm.length) 0))), (eB (((la.getD i 0) &&& ~~~(lm.getD (i % lm.length) 0)) ||| ((lb.getD i 0) &&& (lm.getD (i % lm.length) 0)))), (ixp u14 i)] ([u1, u2, u3, (zf18 3), (zf18 4), (zf18 5), (zf18 6), u14, (eN i), (eB (lm.getD (i % lm.length) 0))] ++ (zs zf18 10 7 ++ [u14, (eN la.length), (eN i)] ++ (zs zf21 20 12 ++ [u14, (eN i), u1, (eN i), (ixp u1 i), (eB (la.getD i 0)), (eB (lm.getD (i % lm.length) 0)), (eB ((la.getD i 0) &&& ~~~(lm.getD (i % lm.length) 0))), u2, (eN i), (ixp u2 i), (eB (lb.getD i 0)), (eB (lm.getD (i % lm.length) 0)), (eB ((lb.getD i 0) &&& (lm.getD (i % lm.length) 0))), (eB (((la.getD i 0) &&& ~~~(lm.getD (i % lm.length) 0)) ||| ((lb.getD i 0) &&& (lm.getD (i % lm.length) 0)))), (ixp u14 i), (zf21 48), (zf18 49), (zf18 50)]))) s_mx kr kr rfl rfl (by decide) kr kr ?_ (fun _ _ h_ ho_ => h_.step0 ho_) ⟨_, rfl, rfl, fun w_ hO_ => gd rfl ((d_stx (i := i) (xs := (mixTo la lb lm i)) (enc := eB) (v := (((la.getD i 0) &&& ~~~(lm.getD (i % lm.length) 0)) ||| ((lb.getD i 0) &&& (lm.getD (i % lm.length) 0)))) s_ti5 rfl rfl rfl (f15.step0 hO_) (by rw [mixTo_length]; omega) rfl).mono fun u_ w2_ h_ => ⟨h_.2, h_.1⟩)⟩ ?_
   ·
    intro w_ hO_
    refine AllG.cons (gi rfl (d_move rfl)) ?_
    refine AllG.cons (gi rfl (d_move rfl)) ?_
    refine AllG.cons (gi rfl (d_move rfl)) ?_
    refine AllG.cons (gi rfl (d_move rfl)) ?_
    refine AllG.cons (gi rfl (d_ix (i := i) (xs := la) Try.underlying36 s_ti5 rfl (h1.step0 hO_) (show _ = Value.int _ (i : Int) from rfl) fo)) ?_
    refine AllG.cons (gi rfl (d_ldx (i := i) (xs := la) (enc := eB) (v := (la.getD i 0)) ⟨_, Try.underlying5, rfl⟩ rfl (h1.step0 hO_) (g_at fo))) ?_
    refine AllG.cons (gi rfl (d_move rfl)) ?_
    refine AllG.cons (gi rfl (b_andNot (c := (la.getD i 0)) (e := (lm.getD (i % lm.length) 0)) rfl rfl)) ?_
    refine AllG.cons (gi rfl (d_move rfl)) ?_
    refine AllG.cons (gi rfl (d_move rfl)) ?_
    refine AllG.cons (gi rfl (d_ix (i := i) (xs := lb) Try.underlying36 s_ti5 rfl (h2.step0 hO_) (show _ = Value.int _ (i : Int) from rfl) fo)) ?_
    refine AllG.cons (gi rfl (d_ldx (i := i) (xs := lb) (enc := eB) (v := (lb.getD i 0)) ⟨_, Try.underlying5, rfl⟩ rfl (h2.step0 hO_) (g_at fo))) ?_
    refine AllG.cons (gi rfl (d_move rfl)) ?_
    refine AllG.cons (gi rfl (b_and (c := (lb.getD i 0)) (e := (lm.getD (i % lm.length) 0)) rfl rfl)) ?_
    refine AllG.cons (gi rfl (b_or (c := ((la.getD i 0) &&& ~~~(lm.getD (i % lm.length) 0))) (e := ((lb.getD i 0) &&& (lm.getD (i % lm.length) 0))) rfl rfl)) ?_
    refine AllG.cons (gi rfl (d_ix (i := i) (xs := (mixTo la lb lm i)) Try.underlying36 s_ti5 rfl ((f15.step0 hO_).seq (X := No) (fun _ _ h => h)) (show _ = Value.int _ (i : Int) from rfl) (by have := mixTo_length la lb lm i; first | omega | (simp; done) | (simp; omega)))) ?_
    exact AllG.nil
   intro w22 o23 a24
   replace h1 := h1.gr o23 (fun k e => (.inl e)) (xx_re Fr.same xx_id)
   replace h2 := h2.gr o23 (fun k e => (.inl e)) (xx_re Fr.same xx_id)
   replace h3 := h3.gr o23 (fun k e => (.inl e)) (xx_re Fr.same xx_id)
   have tq := oW.size
   replace oW := oW.tailr o23 q_oW_o (fun _ e => by cases e)
   replace q_oW_o := qtr Fr.same q_oW_o tq
   clear tq
   have tq := o19.size
   replace o19 := o19.tailr o23 q_o19_o (fun k e => (.inl e))
   replace q_o19_o := qtr Fr.same q_o19_o tq
   clear tq
   refine inb_n (tN ?_)
   refine pL ?_
   refine wI (n_add (a := i) (b := 1) rfl rfl oo) ?_
   refine wI (d_move rfl) ?_
   refine wD (tN ?_)
   refine ⟨_, (i + 1), rfl, kr, ⟨?_, ?_, ?_⟩, ?_⟩
   ·
    (try dsimp only)
    all_goals (omega)
   ·
    exact o19
   ·
    (try dsimp only)
    all_goals (rw [mixTo_step la lb i c2] at a24; exact a24)
   ·
    (try dsimp only)
    all_goals (omega)
  refine wK ?_
  refine inb_n (tN ?_)
  refine pL ?_
  refine wI (n_add (a := i) (b := 1) rfl rfl oo) ?_
  refine wI (d_move rfl) ?_
  refine wD (tN ?_)
  refine ⟨_, (i + 1), rfl, kr, ⟨?_, ?_, ?_⟩, ?_⟩
  ·
   (try dsimp only)
   all_goals (omega)
  ·
   exact o19
  ·
   (try dsimp only)
   all_goals (rw [mixTo_none la lb i c2]; exact f15)
  ·
   (try dsimp only)
   all_goals (omega)
 refine wpIn_exit ?_
 refine then_x (then_x (inb_e ?_))
 refine tN (wQ (pL ?_))
 refine wI (d_move rfl) ?_
 refine wO (d_call (xl := [.tmp 49]) (al := [u14]) Try.func51 kr rfl rfl rfl (cloneB_ok (mixTo la lb lm i) u14 _ (Ps.no (f15.seq (X := No) (fun _ _ h => h))) (by have := mixTo_length la lb lm i; first | omega | (simp; done) | (simp; omega)))) ?_
 rintro u27 w25 f28
 obtain ⟨bo29, f28, g30, o26⟩ := f28
 have nqq_o_o2 := nqq_new g30 f15.lts
 have q_oW_o2 := qnew g30 oW.size
 have q_o19_o2 := qnew g30 o19.size
 replace h1 := h1.newq o26 g30
 replace h2 := h2.newq o26 g30
 replace h3 := h3.newq o26 g30
 replace f15 := f15.step0 o26
 replace oW := oW.tail0 o26
 replace o19 := o19.tail0 o26
 refine wI (d_assign rfl) ?_
 refine wD (tN ?_)
 refine forget (fun zf31 => (zs zf31 0 6 ++ [u27] ++ (zs zf31 7 12 ++ [(eN i)] ++ (zs zf31 20 31)))) kr (fun zf31 => ?_)
 refine wpIn_ret ?_
 refine leave0 (v := u27) (res1 Try.results50 rfl) ?_
 exact ROw.mk_ f28 (by rw [mixTo_done (i := i) oo]; exact (if_pos c0).symm) q_oW_o2 oW
theorem ref6Mix_ok (la lb lm : List UInt8) (u1 u2 u3 : Value) (W : World) (h1 : Ps No (Seq kB la u1) W) (h2 : Ps No (Seq kB lb u2) W) (h3 : Ps No (Seq kB lm u3) W) (g1 : la.length ≤ 1048576) (g2 : lb.length ≤ 1048576) (g3 : lm.length ≤ 1048576) :
    CW Try.prog 29 #[u1, u2, u3] W (Rt (ROw 5 eB (mixR la lb lm) W)) := by
 have oW : Only No W W := Only.refl _ _
 refine enter (al := [u1, u2, u3]) (k := 50) (l := ([u1, u2, u3] ++ (us 50))) Try.func29 rfl Try.ntmps29 rfl rfl ?_
 refine wQ (pL ?_)
 refine wI (d_assign rfl) ?_
 refine wD (tN (wQ (wQ (pL ?_))))
 refine wI (d_move rfl) ?_
 refine wI (d_lenS rfl Try.underlying36 rfl h1) ?_
 refine wI (d_move rfl) ?_
 refine wI (d_lenS rfl Try.underlying36 rfl h2) ?_
 refine wI (n_neq (a := la.length) (b := lb.length) rfl rfl rfl) ?_
 refine wD (tN ?_)
 refine cond_un rfl (fun c0 => ?_) (fun c0 => ?_)
 ·
  refine wQ (pL ?_)
  refine wI (d_assign rfl) ?_
  refine wD (tN ?_)
  refine forget (fun zf11 => (zs zf11 0 6 ++ [vN, (zf11 7), undef] ++ (zs zf11 9 44))) kr (fun zf11 => ?_)
  refine wpIn_ret ?_
  refine then_r ?_
  refine leave0 (v := vN) (res1 Try.results29 rfl) ?_
  exact ROw.nil ((if_neg c0).symm) oW
 refine wK (tN (wQ (pL ?_)))
 refine wO (d_buildL (cs := []) Try.underlying36 s_ti5 rfl (nb rfl) parts_nil rfl) ?_
 rintro _ w13 ⟨b12, rfl, g14, a15, o16⟩
 replace a15 : Arr 5 b12 (([] : List UInt8).map eB) w13 := a15
 have l_b12 : ([] : List UInt8).length = 0 := rfl
 have g_oW_b12 : W.heap.size ≤ b12 := Nat.le_trans oW.size g14
 replace h1 := h1.new o16 g14
 replace h2 := h2.new o16 g14
 replace h3 := h3.new o16 g14
 replace oW := oW.tail0 o16
 refine wI (d_move rfl) ?_
 have a17 := Ow.of_map2 a15 l_b12
 have q_oW_o : Fr (some b12) none W.heap.size := Fr.new g_oW_b12
 replace h1 := h1.less (Y := (Orq (some b12) No)) (xx_br xx_id)
 replace h2 := h2.less (Y := (Orq (some b12) No)) (xx_br xx_id)
 replace h3 := h3.less (Y := (Orq (some b12) No)) (xx_br xx_id)
 refine wO (d_append Try.underlying36 Try.underlying36 s_ti5 rfl rfl rfl a17 (SrcV.of_seq h1 (fun _ => rfl)) (by simp; omega) (by simp; omega) rfl) ?_
 rintro u18 w19 ⟨bo20, a21, o22, q23⟩
 replace a21 : Ow 5 1 bo20 u18 (la).length ((la).map eB) w19 := by simpa using a21
 replace h1 := h1.gr o22 (fun k e => (.inl e)) (xx_re (Fr.of_or q23) xx_id)
 replace h2 := h2.gr o22 (fun k e => (.inl e)) (xx_re (Fr.of_or q23) xx_id)
 replace h3 := h3.gr o22 (fun k e => (.inl e)) (xx_re (Fr.of_or q23) xx_id)
 have tq := oW.size
 replace oW := oW.tailr o22 q_oW_o (fun _ e => by cases e)
 replace q_oW_o := qtr (Fr.of_or q23) q_oW_o tq
 clear tq
 refine wF ([u1, u2, u3, undef, undef, undef, vN, undef, undef, undef, u1, (eN la.length), u2, (eN lb.length), (Value.bool (!decide (la.length = lb.length))), (sli b12 0 0 0), u1, u18] ++ (us 35)) ?_
 refine wI (d_assign rfl) ?_
 refine wD (tN ?_)
 refine forget (fun zf24 => ([u1, u2, u3, (zf24 3), (zf24 4), (zf24 5), (zf24 6), u18, undef] ++ (zs zf24 9 27 ++ (us 16 ++ [(zf24 52)])))) kr (fun zf24 => ?_)
 refine wQ (wQ (pL ?_))
 refine wI (d_assign rfl) ?_
 refine wD (tN (wB ?_))
 refine loop2 (fun (i : (Nat)) => fun (z : Nat → Value) => (([u1, u2, u3, (zf24 3), (zf24 4), (zf24 5), (zf24 6), u18, (eN i), (z 9)] ++ (zs zf24 10 8 ++ (zs z 18 34 ++ [(zf24 52)]))) : List Value)) (fun (i : (Nat)) => fun (w_ : World) => (i ≤ la.length) ∧ Only (Orq bo20 No) w19 w_ ∧ Ow 5 1 bo20 u18 (mixTo la lb lm i).length ((mixTo la lb lm i).map eB) w_) (fun (i : (Nat)) => la.length - i) 0 kr ?_ ?_
 ·
  refine ⟨?_, ?_, ?_⟩
  ·
   exact Nat.zero_le _
  ·
   exact Only.refl _ _
  ·
   (try dsimp only)
   all_goals (rw [← mixTo_zero]; exact a21)
 rintro i z w26 ⟨hi, o25, a21⟩
 (try dsimp only)
 replace h1 := h1.step o25 (orq_mono no_any)
 replace h2 := h2.step o25 (orq_mono no_any)
 replace h3 := h3.step o25 (orq_mono no_any)
 replace oW := oW.tail o25 (tl_q q_oW_o (fun _ e => by cases e) tl_no)
 have q_o25_o : Fr bo20 bo20 w19.heap.size := Fr.same
 refine wQ (wQ ?_)
 have hl_ := mixTo_length la lb lm i
 by_cases k1 : i < ((mixTo la lb lm i).length)
 ·
  refine pL ?_
  refine wI (d_move rfl) ?_
  refine wI (d_move rfl) ?_
  refine wI (d_lenS rfl Try.underlying36 rfl (a21.seq (X := No) (fun _ _ h => h))) ?_
  refine wI (n_lss (a := i) (b := ((mixTo la lb lm i).length)) rfl rfl (decide_eq_true k1)) ?_
  refine wI (d_move rfl) ?_
  refine wG (d_move rfl) ?_
  refine wG (d_lenS rfl Try.underlying36 rfl h3) ?_
  refine wF ([u1, u2, u3, (zf24 3), (zf24 4), (zf24 5), (zf24 6), u18, (eN i), (z 9)] ++ (zs zf24 10 8 ++ [(eN i), u18, (eN ((mixTo la lb lm i).length)), vT, vT, u3, (eN lm.length)] ++ (zs z 25 27 ++ [(zf24 52)]))) ?_
  refine wG (n_gtr (a := lm.length) (b := 0) rfl rfl rfl) ?_
  refine wI (d_pick (b := true) (v := (Value.bool (decide (0 < lm.length)))) rfl rfl) ?_
  refine wD (tN ?_)
  refine forget (fun zf27 => ([u1, u2, u3, (zf24 3), (zf24 4), (zf24 5), (zf24 6), u18, (eN i), (zf27 9)] ++ (zs zf24 10 8 ++ (zs zf27 18 8 ++ [(Value.bool (decide (0 < lm.length)))] ++ (zs zf27 27 9 ++ (zs z 36 16 ++ [(zf24 52)])))))) kr (fun zf27 => ?_)
  refine cond_if rfl (fun c2 => ?_) (fun c2 => ?_)
  ·
   refine wK (tN (wQ (wB (wQ (pL ?_)))))
   refine wI (d_move rfl) ?_
   refine wI (d_move rfl) ?_
   refine wI (d_move rfl) ?_
   refine wI (d_lenS rfl Try.underlying36 rfl h3) ?_
   refine wI (n_rem (a := i) (b := lm.length) rfl rfl oo) ?_
   refine wI (d_ix (i := (i % lm.length)) (xs := lm) Try.underlying36 s_ti5 rfl h3 (show _ = Value.int _ ((i % lm.length : Nat) : Int) from rfl) (Nat.mod_lt _ oo)) ?_
   refine wI (d_ldx (i := (i % lm.length)) (xs := lm) (enc := eB) (v := (lm.getD (i % lm.length) 0)) ⟨_, Try.underlying5, rfl⟩ rfl h3 (g_at (Nat.mod_lt _ oo))) ?_
   refine wI (d_assign rfl) ?_
   refine wD (tN ?_)
   refine forget (fun zf28 => ([u1, u2, u3, (zf24 3), (zf24 4), (zf24 5), (zf24 6), u18, (eN i), (eB (lm.getD (i % lm.length) 0))] ++ (zs zf24 10 8 ++ (zs zf28 18 18 ++ (zs z 36 16 ++ [(zf24 52)]))))) kr (fun zf28 => ?_)
   refine drawn_last (O := (Isq bo20)) (m := 16) (R := fun w_ => Ow 5 1 bo20 u18 ((mixTo la lb lm i).set i (((la.getD i 0) &&& ~~~(lm.getD (i % lm.length) 0)) ||| ((lb.getD i 0) &&& (lm.getD (i % lm.length) 0)))).length (((mixTo la lb lm i).set i (((la.getD i 0) &&& ~~~(lm.getD (i % lm.length) 0)) ||| ((lb.getD i 0) &&& (lm.getD (i % lm.length) 0)))).map eB) w_) [0, 0, 0, 0, 12, 28, 0, 124, 0, 0, 768, 1792, 0, 7936, 16380, 32767, 65535] [(0, 36), (1, 37), (2, 38), (3, 39), (4, 40), (5, 41), (6, 42), (7, 43), (8, 44), (9, 45), (10, 46), (11, 47), (12, 48), (13, 49), (14, 50), (15, 51)] [u18, (eN i), u1, (eN i), (ixp u1 i), (eB (la.getD i 0)), (eB (lm.getD (i % lm.length) 0)), (eB ((la.getD i 0) &&& ~~~(lm.getD (i % lm.length) 0))), u2, (eN i), (ixp u2 i), (eB (lb.getD i 0)), (eB (lm.getD (i % lm.length) 0)), (eB ((lb.getD i 0) &&& (lm.getD (i % lm.length) 0))), (eB (((la.getD i 0) &&& ~~~(lm.getD (i % lm.length) 0)) ||| ((lb.getD i 0) &&& (lm.getD (i % lm.length) 0)))), (ixp u18 i)] ([u1, u2, u3, (zf24 3), (zf24 4), (zf24 5), (zf24 6), u18, (eN i), (eB (lm.getD (i % lm.length) 0))] ++ (zs zf24 10 8 ++ (zs zf28 18 18 ++ [u18, (eN i), u1, (eN i), (ixp u1 i), (eB (la.getD i 0)), (eB (lm.getD (i % lm.length) 0)), (eB ((la.getD i 0) &&& ~~~(lm.getD (i % lm.length) 0))), u2, (eN i), (ixp u2 i), (eB (lb.getD i 0)), (eB (lm.getD (i % lm.length) 0)), (eB ((lb.getD i 0) &&& (lm.getD (i % lm.length) 0))), (eB (((la.getD i 0) &&& ~~~(lm.getD (i % lm.length) 0)) ||| ((lb.getD i 0) &&& (lm.getD (i % lm.length) 0)))), (ixp u18 i), (zf24 52)]))) s_mx kr kr rfl rfl (by decide) kr kr ?_ (fun _ _ h_ ho_ => h_.step0 ho_) ⟨_, rfl, rfl, fun w_ hO_ => gd rfl ((d_stx (i := i) (xs := (mixTo la lb lm i)) (enc := eB) (v := (((la.getD i 0) &&& ~~~(lm.getD (i % lm.length) 0)) ||| ((lb.getD i 0) &&& (lm.getD (i % lm.length) 0)))) s_ti5 rfl rfl rfl (a21.step0 hO_) (by have := mixTo_length la lb lm i; first | omega | (simp; done) | (simp; omega)) rfl).mono fun u_ w2_ h_ => ⟨h_.2, h_.1⟩)⟩ ?_
   ·
    intro w_ hO_
    refine AllG.cons (gi rfl (d_move rfl)) ?_
    refine AllG.cons (gi rfl (d_move rfl)) ?_
    refine AllG.cons (gi rfl (d_move rfl)) ?_
    refine AllG.cons (gi rfl (d_move rfl)) ?_
    refine AllG.cons (gi rfl (d_ix (i := i) (xs := la) Try.underlying36 s_ti5 rfl (h1.step0 hO_) (show _ = Value.int _ (i : Int) from rfl) fo)) ?_
    refine AllG.cons (gi rfl (d_ldx (i := i) (xs := la) (enc := eB) (v := (la.getD i 0)) ⟨_, Try.underlying5, rfl⟩ rfl (h1.step0 hO_) (g_at fo))) ?_
    refine AllG.cons (gi rfl (d_move rfl)) ?_
    refine AllG.cons (gi rfl (b_andNot (c := (la.getD i 0)) (e := (lm.getD (i % lm.length) 0)) rfl rfl)) ?_
    refine AllG.cons (gi rfl (d_move rfl)) ?_
    refine AllG.cons (gi rfl (d_move rfl)) ?_
    refine AllG.cons (gi rfl (d_ix (i := i) (xs := lb) Try.underlying36 s_ti5 rfl (h2.step0 hO_) (show _ = Value.int _ (i : Int) from rfl) fo)) ?_
    refine AllG.cons (gi rfl (d_ldx (i := i) (xs := lb) (enc := eB) (v := (lb.getD i 0)) ⟨_, Try.underlying5, rfl⟩ rfl (h2.step0 hO_) (g_at fo))) ?_
    refine AllG.cons (gi rfl (d_move rfl)) ?_
    refine AllG.cons (gi rfl (b_and (c := (lb.getD i 0)) (e := (lm.getD (i % lm.length) 0)) rfl rfl)) ?_
    refine AllG.cons (gi rfl (b_or (c := ((la.getD i 0) &&& ~~~(lm.getD (i % lm.length) 0))) (e := ((lb.getD i 0) &&& (lm.getD (i % lm.length) 0))) rfl rfl)) ?_
    refine AllG.cons (gi rfl (d_ix (i := i) (xs := (mixTo la lb lm i)) Try.underlying36 s_ti5 rfl ((a21.step0 hO_).seq (X := No) (fun _ _ h => h)) (show _ = Value.int _ (i : Int) from rfl) (by have := mixTo_length la lb lm i; first | omega | (simp; done) | (simp; omega)))) ?_
    exact AllG.nil
   intro w29 o30 a31
   replace h1 := h1.gr o30 (fun k e => (.inl e)) (xx_re Fr.same xx_id)
   replace h2 := h2.gr o30 (fun k e => (.inl e)) (xx_re Fr.same xx_id)
   replace h3 := h3.gr o30 (fun k e => (.inl e)) (xx_re Fr.same xx_id)
   have tq := oW.size
   replace oW := oW.tailr o30 q_oW_o (fun _ e => by cases e)
   replace q_oW_o := qtr Fr.same q_oW_o tq
   clear tq
   have tq := o25.size
   replace o25 := o25.tailr o30 q_o25_o (fun k e => (.inl e))
   replace q_o25_o := qtr Fr.same q_o25_o tq
   clear tq
   refine inb_n (tN ?_)
   refine pL ?_
   refine wI (d_move rfl) ?_
   refine wI (n_add (a := i) (b := 1) rfl rfl oo) ?_
   refine wI (d_assign rfl) ?_
   refine wD (tN ?_)
   refine ⟨_, (i + 1), rfl, kr, ⟨?_, ?_, ?_⟩, ?_⟩
   ·
    (try dsimp only)
    all_goals (omega)
   ·
    exact o25
   ·
    (try dsimp only)
    all_goals (rw [mixTo_step la lb i c2] at a31; exact a31)
   ·
    (try dsimp only)
    all_goals (omega)
  refine wpIn_exit ?_
  refine then_x (then_x (inb_e ?_))
  refine tN (wQ (pL ?_))
  refine wI (d_move rfl) ?_
  refine wI (d_assign rfl) ?_
  refine wD (tN ?_)
  refine wpIn_ret ?_
  refine leave0 (v := u18) (res1 Try.results29 rfl) ?_
  exact ROw.mk_ a21 (by rw [mixTo_done (i := i) oo]; exact (if_pos c0).symm) q_oW_o oW
 refine pL ?_
 refine wI (d_move rfl) ?_
 refine wI (d_move rfl) ?_
 refine wI (d_lenS rfl Try.underlying36 rfl (a21.seq (X := No) (fun _ _ h => h))) ?_
 refine wI (n_lss (a := i) (b := ((mixTo la lb lm i).length)) rfl rfl (decide_eq_false k1)) ?_
 refine wI (d_move rfl) ?_
 refine wX ?_
 refine wX ?_
 refine wF ([u1, u2, u3, (zf24 3), (zf24 4), (zf24 5), (zf24 6), u18, (eN i), (z 9)] ++ (zs zf24 10 8 ++ [(eN i), u18, (eN ((mixTo la lb lm i).length)), vF, vF, undef, undef] ++ (zs z 25 27 ++ [(zf24 52)]))) ?_
 refine wX ?_
 refine wI (d_pick (b := false) (v := vF) rfl rfl) ?_
 refine wD (tN ?_)
 refine cond_f rfl ?_
 refine wpIn_exit ?_
 refine then_x (then_x (inb_e ?_))
 refine tN ?_
 refine forget (fun zf32 => (zs zf32 0 7 ++ [u18, (eN i)] ++ (zs zf32 9 44))) kr (fun zf32 => ?_)
 refine wQ (pL ?_)
 refine wI (d_move rfl) ?_
 refine wI (d_assign rfl) ?_
 refine wD (tN ?_)
 refine wpIn_ret ?_
 refine leave0 (v := u18) (res1 Try.results29 rfl) ?_
 exact ROw.mk_ a21 (by rw [mixTo_done (i := i) oo]; exact (if_pos c0).symm) q_oW_o oW
end Go.Proofs.YtpamdlnobekihaaF
namespace Go.Proofs.YtpamdlnobekihaaF
open Go Shelf YtpamdlnobekihaaS
section
variable {P : Program} {dd : Option Tmp} {tt : TypeId} {s : String} {af : Array Edge} {g : Option (Nat × Bool)} {ρ : Operand → Value} {w : World} {t e : TypeId}
theorem dv_to {o : Oper} {v v' : Value} (h : DV P o ρ w v) (e : v = v') : DV P o ρ w v' := e ▸ h
theorem run_part {cs : Array Value} {v : Value} {off : Nat} (he : P.underlying e = some (.int .i64)) (h : cs[off]? = some v) : (part e cs off).run P w = .ok v w := by
 unfold part
 simp [isAgg, run_underlying he, go_sem, h]
theorem run_equalIn_int (m : Nat) {a b : Int} (he : P.underlying e = some (.int .i64)) : (Op.equalIn (m + 1) e (.int .i64 a) (.int .i64 b)).run P w = .ok (a == b) w := by
 rw [Op.equalIn]
 simp only [Sem.run_bind, run_underlying he, Result.andThen]
 rfl
end
def eP (x : Nat × Nat) : List Value := [eN x.1, eN x.2]
def eQ (x : Int × Int) : List Value := [eI x.1, eI x.2]
section
variable {P : Program} {d : Option Tmp} {tt : TypeId} {s : String} {af : Array Edge} {g : Option (Nat × Bool)} {ρ : Operand → Value} {w : World}
theorem d_buildA {t e : TypeId} {n sz bytes bytes' : Nat} {z z' : Value} {ps : List (Nat × Operand)} {qs : List (Nat × List Value)} {zs cs : List Value} (ht : P.underlying t = some (.array n e)) (hz : TI P t sz bytes z) (he : TI P e 1 bytes' z') (hzs : z.cells.toList = zs)
  (hq : ps.map (fun x => (x.1, (ρ x.2).cells.toList)) = qs) (hf : fillP (fun i => some (i, 1)) zs qs = some cs) : DV P ⟨d, .build t ps.toArray, tt, s, af, g⟩ ρ w (.agg cs.toArray) := by
 refine Does.of_value (v := .agg cs.toArray) (w' := w) (by simp) ?_ ⟨rfl, rfl⟩
 have h3 := fill_of (pl := fun i => some (i, 1)) (ps := ps.map (fun x => (x.1, ρ x.2))) (cs := z.cells) (cs' := cs) rfl (by rw [hzs, List.map_map, ← hf, ← hq]; rfl)
 have h4 : (ps.toArray.map fun (i, x) => (i, ρ x)).toList = ps.map (fun x => (x.1, ρ x.2)) := by simp
 have h5 : (fun i : Nat => some (i * 1, 1)) = fun i => some (i, 1) := funext fun i => by rw [Nat.mul_one]
 simp only [execOp, Instr.build, Sem.run_bind, hz.zero, Result.andThen, run_underlying ht, he.size, h4, h5, h3, Sem.run_pure]
theorem d_buildL2 {t e : TypeId} {n sz bytes : Nat} {z : Value} {ps : List (Nat × Operand)} {qs : List (Nat × List Value)} {zs cs : List Value} (ht : P.underlying t = some (.slice e)) (hz : TI P e sz bytes z) (hzs : (madeCells z.cells (n * sz)).toList = zs) (hn : n * sz ≤ 16777216)
  (hq : ps.map (fun x => (x.1, (ρ x.2).cells.toList)) = qs) (hf : fillP (fun i => some (i * sz, sz)) zs qs = some cs) : Does P ⟨d, .buildSlice t n ps.toArray, tt, s, af, g⟩ ρ w (Made e w (fun b => sli b 0 n n) cs) := by
 refine d_buildSlice ht hz hn ?_
 have h3 := fill_of (pl := fun i => some (i * sz, sz)) (ps := ps.map (fun x => (x.1, ρ x.2))) (cs := madeCells z.cells (n * sz)) (cs' := cs) rfl (by rw [hzs, List.map_map, ← hf, ← hq]; rfl)
 have h4 : (ps.toArray.map fun (i, x) => (i, ρ x)).toList = ps.map (fun x => (x.1, ρ x.2)) := by simp
 rw [h4, ← h3]
theorem d_loadAtA {α : Type} {n bytes : Nat} {enc : α → List Value} {v : α} {t : TypeId} {x : Operand} {z u : Value} {X : Nat → Prop} (ht : Ag P t) (hz : TI P t n bytes z) (hx : ρ x = u) (hA : Ps X (At (kA n enc) v u) w) : DV P ⟨d, .load t x, tt, s, af, g⟩ ρ w (.agg (enc v).toArray) := by
 obtain ⟨p, hu, hl, hc⟩ := hA.now
 subst hu
 refine Does.of_value (v := .agg (enc v).toArray) (w' := w) (by simp) ?_ ⟨rfl, rfl⟩
 have h1 : (loadCells p (enc v).length).run P w = .ok (enc v).toArray w := run_loadCells_list (P := P) w _ (enc v) (fun j y hj => hc j y hj)
 rw [hl] at h1
 have h2 : (loadCellsFrom p 0 n #[]).run P w = .ok (enc v).toArray w := h1
 simp [execOp, Instr.loadAt, Instr.sureAddr, hx, loadVar, run_isAgg_agg ht, hz.size, go_sem, h2]
end
def eV (v : Value) : Value := v
theorem map_eV (l : List Value) : l.map eV = l := by
 have : eV = id := rfl
 rw [this, List.map_id]
def Fam {α : Type} (q : Kd α) (n : Nat) (f : Nat → List α) (vd : List Value) (w : World) : Prop := ∀ i, i < n → Seq q (f i) (vd.getD i undef) w
theorem fam_at {α : Type} {q : Kd α} {n i : Nat} {f : Nat → List α} {vd : List Value} {X : Nat → Prop} {w : World} (h : Ps X (Fam q n f vd) w) (hi : i < n) : Ps X (Seq q (f i) (vd.getD i undef)) w := h.imp fun w' h' => h' i hi
theorem fam_set {α : Type} {q : Kd α} {n i : Nat} {f : Nat → List α} {vd : List Value} {X : Nat → Prop} {w : World} {l : List α} {u : Value} (h : Ps X (Fam q n f vd) w) (hu : Ps X (Seq q l u) w) (hn : vd.length = n) :
  Ps X (Fam q n (fun k => if k = i then l else f k) (vd.set i u)) w := fun w' hw k hk => by
 have h1 := h w' hw k hk
 have h2 := hu w' hw
 rw [List.getD_eq_getElem?_getD] at h1 ⊢
 by_cases hki : k = i
 ·subst hki
  rw [List.getElem?_set_self (by omega)]
  show Seq q (if k = k then l else f k) _ w'
  rw [if_pos rfl]
  exact h2
 ·rw [List.getElem?_set_ne (Ne.symm hki)]
  show Seq q (if k = i then l else f k) _ w'
  rw [if_neg hki]
  exact h1
def RF.mk_ (O : Nat → Prop) (mk : Nat → Value) (e : TypeId) (cs : List Value) (n0 : Nat) (h : ∀ k, O k → k < n0) : RF O :=
 RF.mk2 (fun _ u _ _ w => ∃ b, u = mk b ∧ Arr e b cs w ∧ n0 ≤ b) (fun hp ho => by obtain ⟨b, h1, h2, h3⟩ := hp; exact ⟨b, h1, h2.step ho (fun t => by have := h b t; omega), h3⟩)
def RF.mkv_ (O : Nat → Prop) (mk : Nat → Value) (e : TypeId) (cs : (Nat → Value) → List Value) (n0 : Nat) (h : ∀ k, O k → k < n0) : RF O :=
 RF.mk2 (fun v u _ _ w => ∃ b, u = mk b ∧ Arr e b (cs v) w ∧ n0 ≤ b) (fun hp ho => by obtain ⟨b, h1, h2, h3⟩ := hp; exact ⟨b, h1, h2.step ho (fun t => by have := h b t; omega), h3⟩)
theorem arr_ne {e1 e2 : TypeId} {b1 b2 : Nat} {c1 c2 : List Value} {w : World} (h1 : Arr e1 b1 c1 w) (h2 : Arr e2 b2 c2 w) (h : e1 ≠ e2) : b1 ≠ b2 := fun e => by
 subst e
 have h3 := h1.symm.trans h2
 injection h3 with h3
 injection h3 with _ h4
 exact h h4
end Go.Proofs.YtpamdlnobekihaaF
namespace Go.Proofs.YtpamdlnobekihaaF
open Go Shelf YtpamdlnobekihaaS Ram
structure St where
 nx : Nat
 er : Int
 bad : Bool
def stC : Nat → (Nat → St) → List Value
 | 0, _ => []
 | n + 1, f => stC n f ++ [eN (f n).nx, eI (f n).er, .bool (f n).bad]
section
variable {n i v : Nat} {f : Nat → St}
theorem stC_len (n : Nat) (f : Nat → St) : (stC n f).length = n * 3 := by
 induction n with
 | zero => rfl
 | succ n ih => rw [stC, List.length_append, ih]; simp; omega
theorem stC_at (hi : i < n) : (stC n f)[i * 3]? = some (eN (f i).nx) ∧ (stC n f)[i * 3 + 1]? = some (eI (f i).er) ∧ (stC n f)[i * 3 + 2]? = some (.bool (f i).bad) := by
 induction n with
 | zero => omega
 | succ n ih =>
  unfold stC
  rcases Nat.lt_or_ge i n with h | h
  ·have hl := stC_len n f
   obtain ⟨h1, h2, h3⟩ := ih h
   rw [List.getElem?_append_left (by omega), List.getElem?_append_left (by omega), List.getElem?_append_left (by omega)]
   exact ⟨h1, h2, h3⟩
  ·have : i = n := by omega
   subst this
   have hl := stC_len i f
   rw [List.getElem?_append_right (by omega), List.getElem?_append_right (by omega), List.getElem?_append_right (by omega), hl]
   simp
theorem stC_congr {g : Nat → St} (h : ∀ j, j < n → f j = g j) : stC n f = stC n g := by
 induction n with
 | zero => rfl
 | succ n ih => unfold stC; rw [ih (fun j hj => h j (by omega)), h n (by omega)]
theorem stC_set (hi : i < n) {k : Nat} (hk : k < 3) {x : Value} {s' : St} (h : ([eN (f i).nx, eI (f i).er, .bool (f i).bad] : List Value).set k x = [eN s'.nx, eI s'.er, .bool s'.bad]) : (stC n f).set (i * 3 + k) x = stC n (fun j => if j = i then s' else f j) := by
 induction n with
 | zero => omega
 | succ n ih =>
  unfold stC
  have hl := stC_len n f
  rcases Nat.lt_or_ge i n with h1 | h1
  ·rw [List.set_append_left _ _ (by omega), ih h1]
   have e : (fun j => if j = i then s' else f j) n = f n := if_neg (by omega)
   rw [e]
  ·have : i = n := by omega
   subst this
   have e : (fun j => if j = i then s' else f j) i = s' := if_pos rfl
   rw [List.set_append_right _ _ (by omega), hl, Nat.add_sub_cancel_left, h, e]
   congr 1
   exact stC_congr fun j hj => by rw [if_neg (by omega)]
end
structure NS where
 gD : Nat
 gB : Nat
 gP : Nat
 dl : Nat → List UInt8
 nl : Nat → List Int
 bl : Nat → Nat → St
 stop : Nat
 mask : List UInt8
 dead : Bool
 ops : Int
 wrong : Int
structure NL where
 tN : TypeId
 tD : TypeId
 tZ : TypeId
 tS : TypeId
 bN : Nat
 bD : Nat
 bZ : Nat
 bU : Option Nat
 ub : Value
 bk : List Nat
def NL.bs (L : NL) : List Nat := L.bN :: L.bD :: L.bZ :: L.bk
def NL.S (L : NL) : Nat → Prop := fun k => k ∈ L.bs ∨ L.bU = some k
def NS.n (s : NS) : Nat := s.gD * s.gB * s.gP
def NS.ix (s : NS) (d b p : Nat) : Nat := (d * s.gB + b) * s.gP + p
structure NS.Ok (s : NS) : Prop where
 d : 6 ≤ s.gD ∧ s.gD ≤ 8
 b : 8 ≤ s.gB ∧ s.gB ≤ 12
 p : 4 ≤ s.gP ∧ s.gP ≤ 8
 nx : ∀ d b, (s.bl d b).nx ≤ 8
 st : s.stop < 2 ^ 62
 dl : ∀ k, (s.dl k).length = 60
 nl : ∀ k, (s.nl k).length ≤ 1048576
 ml : s.mask.length ≤ 1048576
theorem NS.Ok.n_le {s : NS} (h : s.Ok) : s.n ≤ 768 := by
 unfold NS.n
 have h1 := Nat.mul_le_mul h.d.2 h.b.2
 exact Nat.le_trans (Nat.mul_le_mul h1 h.p.2) (by decide)
theorem NS.ix_lt {s : NS} {d b p : Nat} (hd : d < s.gD) (hb : b < s.gB) (hp : p < s.gP) : s.ix d b p < s.n := by
 unfold NS.ix NS.n
 have h1 : d * s.gB + b + 1 ≤ s.gD * s.gB := by
  have := Nat.mul_le_mul_right s.gB (show d + 1 ≤ s.gD from hd)
  rw [Nat.add_mul, Nat.one_mul] at this
  omega
 have h2 := Nat.mul_le_mul_right s.gP h1
 rw [Nat.add_mul, Nat.one_mul] at h2
 omega
def eK (n : Nat) : Nat → Value := fun b => sli b 0 n n
def nandC (bD bZ : Nat) (ub vm : Value) (s : NS) : List Value :=
 [eN s.gD, eN s.gB, eN s.gP, eN s.gD, eN s.gB, eN s.gP, sli bD 0 s.n s.n, eN s.gD, eN s.gB, eN s.gP, sli bZ 0 s.n s.n, ub, eN s.stop, vm, .bool s.dead, eI s.ops, eI s.wrong]
end Go.Proofs.YtpamdlnobekihaaF
namespace Go.Proofs.YtpamdlnobekihaaF
open Go Shelf YtpamdlnobekihaaS Ram
def onesW : List UInt8 := List.replicate 60 255
namespace NS
def there (s : NS) (d b : Int) : Bool := decide (0 ≤ d ∧ d < (s.gD : Int) ∧ 0 ≤ b ∧ b < (s.gB : Int))
def pageIn (s : NS) (d b p : Int) : Bool := s.there d b && decide (0 ≤ p ∧ p < (s.gP : Int))
def isBad (s : NS) (d b : Int) : Bool := s.there d b && (s.bl d.toNat b.toNat).bad
def erases (s : NS) (d b : Int) : Int := if s.there d b then (s.bl d.toNat b.toNat).er else 0
def ask (s : NS) (fine : Bool) : NS := { s with ops := if s.dead then s.ops else if fine then IntKind.i64.wrap (s.ops + 1) else s.ops, wrong := if s.dead then s.wrong else if fine then s.wrong else IntKind.i64.wrap (s.wrong + 1) }
def askR (s : NS) (fine : Bool) : Nat := if s.dead then 8 else if fine then 0 else 1
def goes (s : NS) : NS := { s with stop := if s.stop < 1 then s.stop else s.stop - 1, dead := if s.stop < 1 then s.dead else decide (s.stop - 1 = 0) }
def goesR (s : NS) : Bool := if s.stop < 1 then false else decide (s.stop - 1 = 0)
def setD (s : NS) (i : Nat) (l : List UInt8) : NS := { s with dl := fun k => if k = i then l else s.dl k }
def setZ (s : NS) (i : Nat) (l : List Int) : NS := { s with nl := fun k => if k = i then l else s.nl k }
def setB (s : NS) (d b : Nat) (x : St) : NS := { s with bl := fun d' => if d' = d then (fun b' => if b' = b then x else s.bl d b') else s.bl d' }
def readOk (s : NS) (d b p : Int) : Bool := s.pageIn d b p && !s.isBad d b
def readL (s : NS) (d b p : Int) : List UInt8 := if s.askR (s.readOk d b p) = 0 then flipI (s.dl (s.ix d.toNat b.toNat p.toNat)) (s.nl (s.ix d.toNat b.toNat p.toNat)) else []
def progOk (s : NS) (d b p : Int) (l : List UInt8) : Bool := s.pageIn d b p && !s.isBad d b && decide (l.length = 60) && decide (((s.bl d.toNat b.toNat).nx : Int) = p)
def prog2 (s : NS) (d b : Nat) : NS := s.setB d b { s.bl d b with nx := (s.bl d b).nx + 1 }
def progA (s : NS) (d b p : Int) (l : List UInt8) : NS := ((s.ask (s.progOk d b p l)).prog2 d.toNat b.toNat).goes
def prog (s : NS) (d b p : Int) (l : List UInt8) : NS :=
 if s.askR (s.progOk d b p l) = 0 then (s.progA d b p l).setD (s.ix d.toNat b.toNat p.toNat) (if s.goesR then mixR onesW l s.mask else l)
 else s.ask (s.progOk d b p l)
def progR (s : NS) (d b p : Int) (l : List UInt8) : Nat :=
 if s.askR (s.progOk d b p l) = 0 then (if s.goesR then 8 else 0) else s.askR (s.progOk d b p l)
def eraseOk (s : NS) (d b : Int) : Bool := s.there d b && !s.isBad d b
def eraseTo (s : NS) (torn : Bool) (d b k : Nat) : NS :=
 { s with dl := fun i => if s.ix d b 0 ≤ i ∧ i < s.ix d b 0 + k then (if torn then mixR (s.dl i) onesW s.mask else onesW) else s.dl i }
def erase2 (s : NS) (d b : Nat) : NS := s.setB d b { s.bl d b with er := IntKind.i64.wrap ((s.bl d b).er + 1) }
def erase3 (s : NS) (d b : Nat) : NS := s.setB d b { s.bl d b with nx := 0 }
def eraseA (s : NS) (d b : Int) : NS := ((s.ask (s.eraseOk d b)).erase2 d.toNat b.toNat).goes
def erase (s : NS) (d b : Int) : NS :=
 if s.askR (s.eraseOk d b) = 0 then
  (if s.goesR then (s.eraseA d b).eraseTo true d.toNat b.toNat s.gP else ((s.eraseA d b).eraseTo false d.toNat b.toNat s.gP).erase3 d.toNat b.toNat)
 else s.ask (s.eraseOk d b)
def eraseR (s : NS) (d b : Int) : Nat := if s.askR (s.eraseOk d b) = 0 then (if s.goesR then 8 else 0) else s.askR (s.eraseOk d b)
def noise (s : NS) (d b p : Int) (l : List Int) : NS := if s.pageIn d b p then s.setZ (s.ix d.toNat b.toNat p.toNat) l else s
def noiseR (s : NS) (d b p : Int) : Nat := if s.pageIn d b p then 0 else 1
def stopAt (s : NS) (k : Nat) (m : List UInt8) : NS := { { s with stop := max k 0 } with mask := m }
def power (s : NS) : NS := { s with stop := 0, mask := [], dead := false }
def new (D B P : Nat) (bad : Nat → Nat → Bool) : NS := ⟨D, B, P, fun _ => onesW, fun _ => [], fun d b => ⟨0, 0, bad d b⟩, 0, [], false, 0, 0⟩
theorem there_of {s : NS} {d b : Int} (h : s.there d b = true) : 0 ≤ d ∧ d < (s.gD : Int) ∧ 0 ≤ b ∧ b < (s.gB : Int) := of_decide_eq_true h
theorem page_of {s : NS} {d b p : Int} (h : s.pageIn d b p = true) : 0 ≤ d ∧ d < (s.gD : Int) ∧ 0 ≤ b ∧ b < (s.gB : Int) ∧ 0 ≤ p ∧ p < (s.gP : Int) := by
 unfold pageIn there at h
 simp only [Bool.and_eq_true, decide_eq_true_eq] at h
 omega
theorem ask_dead {s : NS} {f : Bool} (h : s.dead = true) : s.ask f = s := by unfold ask; rw [if_pos h, if_pos h]
theorem ask_no {s : NS} (h : s.dead = false) : s.ask false = { s with wrong := IntKind.i64.wrap (s.wrong + 1) } := by unfold ask; simp [h]
theorem ask_yes {s : NS} (h : s.dead = false) : s.ask true = { s with ops := IntKind.i64.wrap (s.ops + 1) } := by unfold ask; simp [h]
theorem goes_no {s : NS} (h : s.stop < 1) : s.goes = s := by unfold goes; rw [if_pos h, if_pos h]
theorem goes_yes {s : NS} (h : ¬ s.stop < 1) : s.goes = { { s with stop := s.stop - 1 } with dead := decide (s.stop - 1 = 0) } := by unfold goes; rw [if_neg h, if_neg h]
theorem askR_no {s : NS} {f : Bool} (h : f = false) : ¬ s.askR f = 0 := by unfold askR; rw [h]; cases s.dead <;> simp
theorem askR_yes {s : NS} {f : Bool} (h : s.askR f = 0) : s.dead = false ∧ f = true := by
 unfold askR at h
 cases hd : s.dead <;> cases f <;> simp_all
theorem progOk_nx {s : NS} {d b p : Nat} {l : List UInt8} (h : s.askR (s.progOk d b p l) = 0) : (s.bl d b).nx = p ∧ l.length = 60 := by
 have h := (askR_yes h).2
 unfold progOk at h
 simp only [Bool.and_eq_true, decide_eq_true_eq] at h
 exact ⟨Int.ofNat.inj h.2, h.1.2⟩
theorem prog_no {s : NS} {d b p : Int} {l : List UInt8} (h : ¬ s.askR (s.progOk d b p l) = 0) : s.prog d b p l = s.ask (s.progOk d b p l) ∧ s.progR d b p l = s.askR (s.progOk d b p l) := ⟨if_neg h, if_neg h⟩
theorem prog_torn {s : NS} {d b p : Int} {l : List UInt8} (h : s.askR (s.progOk d b p l) = 0) (hg : s.goesR = true) : s.prog d b p l = (s.progA d b p l).setD (s.ix d.toNat b.toNat p.toNat) (mixR onesW l s.mask) ∧ s.progR d b p l = 8 := by
 unfold prog progR; rw [if_pos h, if_pos h, if_pos hg, if_pos hg]; exact ⟨rfl, rfl⟩
theorem prog_yes {s : NS} {d b p : Int} {l : List UInt8} (h : s.askR (s.progOk d b p l) = 0) (hg : s.goesR = false) : s.prog d b p l = (s.progA d b p l).setD (s.ix d.toNat b.toNat p.toNat) l ∧ s.progR d b p l = 0 := by
 have hg' : ¬ s.goesR = true := by rw [hg]; decide
 unfold prog progR; rw [if_pos h, if_pos h, if_neg hg', if_neg hg']; exact ⟨rfl, rfl⟩
theorem erase_no {s : NS} {d b : Int} (h : ¬ s.askR (s.eraseOk d b) = 0) : s.erase d b = s.ask (s.eraseOk d b) ∧ s.eraseR d b = s.askR (s.eraseOk d b) := ⟨if_neg h, if_neg h⟩
theorem erase_torn {s : NS} {d b : Int} (h : s.askR (s.eraseOk d b) = 0) (hg : s.goesR = true) : s.erase d b = (s.eraseA d b).eraseTo s.goesR d.toNat b.toNat s.gP ∧ s.eraseR d b = 8 := by
 unfold erase eraseR; rw [if_pos h, if_pos h, if_pos hg, if_pos hg, hg]; exact ⟨rfl, rfl⟩
theorem erase_yes {s : NS} {d b : Int} (h : s.askR (s.eraseOk d b) = 0) (hg : s.goesR = false) : s.erase d b = ((s.eraseA d b).eraseTo s.goesR d.toNat b.toNat s.gP).erase3 d.toNat b.toNat ∧ s.eraseR d b = 0 := by
 have hg' : ¬ s.goesR = true := by rw [hg]; decide
 unfold erase eraseR; rw [if_pos h, if_pos h, if_neg hg', if_neg hg', hg]; exact ⟨rfl, rfl⟩
theorem ix_add {s : NS} (d b k : Nat) : s.ix d b k = s.ix d b 0 + k := rfl
theorem eraseTo_zero (s : NS) (T : Bool) (d b : Nat) : s.eraseTo T d b 0 = s := by
 have : (fun i => if s.ix d b 0 ≤ i ∧ i < s.ix d b 0 + 0 then (if T then mixR (s.dl i) onesW s.mask else onesW) else s.dl i) = s.dl := funext fun i => if_neg (by omega)
 unfold eraseTo; rw [this]
theorem eraseTo_dl (s : NS) (T : Bool) (d b k : Nat) : (s.eraseTo T d b k).dl (s.ix d b k) = s.dl (s.ix d b k) := if_neg (by have := ix_add (s := s) d b k; omega)
theorem eraseTo_next (s : NS) (T : Bool) (d b k : Nat) {l : List UInt8} (h : (if T then mixR (s.dl (s.ix d b k)) onesW s.mask else onesW) = l) : (s.eraseTo T d b k).setD (s.ix d b k) l = s.eraseTo T d b (k + 1) := by
 unfold eraseTo setD
 show NS.mk _ _ _ _ _ _ _ _ _ _ _ = NS.mk _ _ _ _ _ _ _ _ _ _ _
 congr 1
 funext i
 show (if i = s.ix d b k then l else if s.ix d b 0 ≤ i ∧ i < s.ix d b 0 + k then (if T then mixR (s.dl i) onesW s.mask else onesW) else s.dl i) = if s.ix d b 0 ≤ i ∧ i < s.ix d b 0 + (k + 1) then (if T then mixR (s.dl i) onesW s.mask else onesW) else s.dl i
 have hx := ix_add (s := s) d b k
 by_cases e : i = s.ix d b k
 ·have h2 : s.ix d b 0 ≤ i ∧ i < s.ix d b 0 + (k + 1) := by omega
  rw [if_pos e, if_pos h2, ← h, e]
 ·rw [if_neg e]
  by_cases e2 : s.ix d b 0 ≤ i ∧ i < s.ix d b 0 + k
  ·have h2 : s.ix d b 0 ≤ i ∧ i < s.ix d b 0 + (k + 1) := by omega
   rw [if_pos e2, if_pos h2]
  ·have h2 : ¬ (s.ix d b 0 ≤ i ∧ i < s.ix d b 0 + (k + 1)) := by omega
   rw [if_neg e2, if_neg h2]
end NS
theorem range_pre {k n : Nat} (h : k < n) : List.range k ++ [k] <+: List.range n := by
 rw [← List.range_succ]
 exact ⟨(List.range n).drop (k + 1), by conv => rhs; rw [← List.take_append_drop (k + 1) (List.range n), List.take_range, Nat.min_eq_left (by omega)]⟩
theorem pre_range {n x : Nat} {pre : List Nat} (h : pre ++ [x] <+: List.range n) : x = pre.length ∧ pre.length < n := by
 obtain ⟨t, ht⟩ := h
 have h1 : (List.range n)[pre.length]? = some x := by rw [← ht]; simp
 have h2 := (List.getElem?_eq_some_iff.1 h1)
 obtain ⟨h3, h4⟩ := h2
 rw [List.length_range] at h3
 rw [List.getElem_range] at h4
 exact ⟨h4.symm, h3⟩
theorem onesW_len : onesW.length = 60 := List.length_replicate
theorem mixR60 {o n m : List UInt8} (ho : o.length = 60) (hn : n.length = 60) : (mixR o n m).length = 60 := by unfold mixR; rw [if_pos (ho.trans hn.symm), mixL_length]; exact ho
theorem rep_end (k : Nat) (h : 60 ≤ k ∧ k ≤ 60) : List.replicate k (255 : UInt8) ++ List.replicate (60 - k) 0 = onesW := by
 obtain rfl : k = 60 := by omega
 rfl
theorem rep_take (k : Nat) : ((List.replicate k (255 : UInt8) ++ List.replicate (60 - k) 0).drop 0).take k = List.replicate k 255 := by
 rw [List.drop_zero, List.take_left' (List.length_replicate)]
theorem rep_copy (k : Nat) (h : k ≤ 60) : (List.replicate k (255 : UInt8) ++ List.replicate (60 - k) 0).take k ++ (List.replicate k (255 : UInt8)).take (min k (60 - k)) ++ (List.replicate k (255 : UInt8) ++ List.replicate (60 - k) 0).drop (k + min k (60 - k)) = List.replicate (k + min k (60 - k)) (255 : UInt8) ++ List.replicate (60 - (k + min k (60 - k))) 0 := by
 rw [List.take_left' (List.length_replicate), List.take_replicate, List.drop_append, List.drop_replicate, List.drop_replicate, List.length_replicate]
 have e1 : k - (k + min k (60 - k)) = 0 := by omega
 have e2 : k + min k (60 - k) - k = min k (60 - k) := by omega
 have e3 : min (min k (60 - k)) k = min k (60 - k) := by omega
 rw [e1, e2, e3, List.replicate_zero, List.nil_append, List.replicate_append_replicate, Nat.sub_sub]
end Go.Proofs.YtpamdlnobekihaaF
namespace Go.Proofs.YtpamdlnobekihaaF
open Go Shelf YtpamdlnobekihaaS Ram
section
variable {P : Program} {d : Option Tmp} {tt : TypeId} {s : String} {af : Array Edge} {g : Option (Nat × Bool)} {ρ : Operand → Value} {w : World}
theorem run_equal_pnil {t e : TypeId} (ht : P.underlying t = some (.pointer e)) {A : Addr} {w : World} : (Op.equal t (.pointer (some A)) (.pointer none)).run P w = .ok false w := by
 have gen : ∀ m, (Op.equalIn (m + 1) t (.pointer (some A)) (.pointer none)).run P w = .ok false w := by
  intro m
  rw [Op.equalIn]
  simp only [Sem.run_bind, run_underlying ht, Result.andThen]
  rfl
 exact gen 9999
theorem d_peql {t t2 e : TypeId} {x y : Operand} {b o : Nat} (ht : P.underlying t = some (.pointer e)) (hx : ρ x = ptr b o) (hy : ρ y = .pointer none) : DV P ⟨d, .binOp .eql t x y t2, tt, s, af, g⟩ ρ w (.bool false) := by
 have hx' : ρ x = .pointer (some ⟨b, o, none⟩) := hx
 refine Does.of_value (v := .bool false) (w' := w) (by simp) ?_ ⟨rfl, rfl⟩
 simp [execOp, hx', hy, go_sem, eqGuard, binOp, run_equal_pnil ht]
end
def Ors (S X : Nat → Prop) : Nat → Prop := fun k => S k ∨ X k
section
variable {S S' X X' O T Y : Nat → Prop} {n m b : Nat} {bo bo' : Option Nat} {base : World}
theorem ors_mono (h : ∀ k, O k → X k) : ∀ k, Ors S O k → Ors S X k := fun k t => t.imp id (h k)
theorem xx_ors (h : ∀ k, k < n → X' k → X k) : ∀ k, k < n → Ors S X' k → Ors S X k := fun k hk t => t.imp id (h k hk)
theorem inS (h : X b) : Ors S X b := .inr h
theorem sub1 : ∀ k, S k → Ors S X k := fun _ h => .inl h
theorem sub2 (h : ∀ k, S k → X k) : ∀ k, S k → Or1 b X k := fun k t => .inr (h k t)
theorem subq (h : ∀ k, S k → X k) : ∀ k, S k → Orq bo X k := fun k t => .inr (h k t)
theorem subs (h : ∀ k, S k → X k) : ∀ k, S k → Ors S' X k := fun k t => .inr (h k t)
theorem lt_ors (h : ∀ k, S k → k < n) (hO : ∀ k, O k → k < n) : ∀ k, Ors S O k → k < n := fun k t => t.elim (h k) (hO k)
theorem ors_old (hS : ∀ k, S k → k < n) (h : ∀ k, k < m → X k → Old n k) : ∀ k, k < m → Ors S X k → Old n k := fun k hk t => t.elim (hS k) (h k hk)
theorem os_of (h : ∀ k, S k → Y k) : ∀ k, k < m → Ors S No k → Y k := fun k _ t => t.elim (h k) fun t => t.elim
theorem lt_old (h : ∀ k, X k → k < n) : ∀ k, k < m → X k → Old n k := fun k _ t => h k t
theorem tl_sin (hb : ∀ k, S k → T k) (h : ∀ k, k < n → O k → T k) : ∀ k, k < n → Ors S O k → T k := fun k hk t => t.elim (hb k) (h k hk)
theorem tl_snew (hb : ∀ k, S k → n ≤ k) (h : ∀ k, k < n → O k → T k) : ∀ k, k < n → Ors S O k → T k := fun k hk t => t.elim (fun e => by have := hb k e; omega) (h k hk)
theorem xx_news (hb : ∀ k, S k → n ≤ k) (h : ∀ k, k < n → X' k → X k) : ∀ k, k < n → Ors S X' k → X k := fun k hk t => t.elim (fun e => by have := hb k e; omega) (h k hk)
theorem nx_ors (h : ¬ S b) (hX : ∀ k, k < m → X k → k ≠ b) : ∀ k, k < m → Ors S X k → k ≠ b := fun k hk t => t.elim (fun e he => h (he ▸ e)) (hX k hk)
theorem not_ors (h : ¬ S b) (hO : ¬ O b) : ¬ Ors S O b := fun t => t.elim h hO
theorem xo_s : ∀ k, k < n → Ors S X k → X k ∨ S k := fun k _ t => t.symm
theorem xo_or1 (h : ∀ k, k < n → Y k → X k ∨ S k) : ∀ k, k < n → Or1 b Y k → Or1 b X k ∨ S k := fun k hk t => t.elim (fun e => .inl (.inl e)) (fun e => (h k hk e).imp .inr id)
theorem ox_s : ∀ k, k < n → X k ∨ S k → Ors S X k := fun k _ t => t.symm
theorem ox_or1 (h : ∀ k, k < n → X k ∨ S k → Y k) : ∀ k, k < n → Or1 b X k ∨ S k → Or1 b Y k := fun k hk t => t.elim (fun e => e.elim .inl (fun e => .inr (h k hk (.inl e)))) (fun e => .inr (h k hk (.inr e)))
end
structure NdO (L : NL) (s : NS) (vd vz : List Value) (vm : Value) (w : World) : Prop where
 n : Arr L.tN L.bN (nandC L.bD L.bZ L.ub vm s) w
 d : Arr L.tD L.bD vd w
 z : Arr L.tZ L.bZ vz w
 k : ∀ j, j < s.gD → Arr L.tS (L.bk.getD j 0) (stC s.gB (s.bl j)) w
 u : Ps (fun k => L.bU ≠ some k) (Seq (kS (eK s.gB)) L.bk L.ub) w
structure NdR (s : NS) (vd vz : List Value) (vm : Value) (w : World) : Prop where
 d : Fam kB s.n s.dl vd w
 z : Fam kI s.n s.nl vz w
 m : Seq kB s.mask vm w
structure Nd (L : NL) (s : NS) (X : Nat → Prop) (w : World) : Prop where
 ok : s.Ok
 lk : L.bk.length = s.gD
 nd : L.bs.Nodup
 nu : ∀ x, L.bU = some x → x ∉ L.bs
 lt : ∀ k, L.S k → k < w.heap.size
 dis : ∀ k, X k → ¬ L.S k
 v : ∃ vd vz vm, vd.length = s.n ∧ vz.length = s.n ∧ NdO L s vd vz vm w ∧ Ps (fun k => X k ∨ L.S k) (NdR s vd vz vm) w
section
variable {L : NL} {s s' : NS} {X X' Y O T : Nat → Prop} {w w' : World} {b : Nat} {bo bo' : Option Nat} {vd vz : List Value} {vm : Value}
theorem NL.in_n : L.bN ∈ L.bs := by simp [NL.bs]
theorem NL.in_d : L.bD ∈ L.bs := by simp [NL.bs]
theorem NL.in_z : L.bZ ∈ L.bs := by simp [NL.bs]
theorem NL.in_k {j : Nat} (h : j < L.bk.length) : L.bk.getD j 0 ∈ L.bs := by
 have : L.bk.getD j 0 ∈ L.bk := by rw [List.getD_eq_getElem?_getD, List.getElem?_eq_getElem h]; exact List.getElem_mem h
 exact List.mem_cons_of_mem _ (List.mem_cons_of_mem _ (List.mem_cons_of_mem _ this))
theorem NdO.step (h : NdO L s vd vz vm w) (hl : L.bk.length = s.gD) (hO : Only O w w') (hX : ∀ k, O k → ¬ L.S k) : NdO L s vd vz vm w' where
 n := h.n.step hO fun e => hX _ e (.inl NL.in_n)
 d := h.d.step hO fun e => hX _ e (.inl NL.in_d)
 z := h.z.step hO fun e => hX _ e (.inl NL.in_z)
 k := fun j hj => (h.k j hj).step hO fun e => hX _ e (.inl (NL.in_k (by omega)))
 u := h.u.step hO fun k hk e => hX k hk (.inr e)
theorem Nd.re (h : Nd L s X w) (hO : Only O w w') (hX : ∀ k, O k → X k) (hXX : ∀ k, k < w.heap.size → X' k → X k) : Nd L s X' w' where
 ok := h.ok
 lk := h.lk
 nd := h.nd
 nu := h.nu
 lt := fun k hk => Nat.lt_of_lt_of_le (h.lt k hk) hO.size
 dis := fun k hk hs => h.dis k (hXX k (h.lt k hs) hk) hs
 v := by
  obtain ⟨vd, vz, vm, h1, h2, h3, h4⟩ := h.v
  exact ⟨vd, vz, vm, h1, h2, h3.step h.lk hO fun k hk => h.dis k (hX k hk), h4.re hO (fun k hk => .inl (hX k hk)) fun k hk t => t.imp (hXX k hk) id⟩
theorem Nd.step (h : Nd L s X w) (hO : Only T w w') (hT : ∀ k, T k → X k) : Nd L s X w' := h.re hO hT fun _ _ t => t
theorem Nd.step0 (h : Nd L s X w) (hO : Only No w w') : Nd L s X w' := h.step hO fun _ x => x.elim
theorem Nd.less (h : Nd L s X w) (hY : ∀ k, k < w.heap.size → Y k → X k) : Nd L s Y w := h.re (Only.refl No w) (fun _ t => t.elim) hY
theorem Nd.new (h : Nd L s X w) (hO : Only No w w') (hb : w.heap.size ≤ b) : Nd L s (Or1 b X) w' := h.re hO (fun _ t => t.elim) fun k hk t => t.elim (fun e => by omega) id
theorem Nd.stepb (h : Nd L s X w) (hO : Only (Is1 b) w w') (hX : X b) : Nd L s X w' := h.step hO fun k t => by have : k = b := t; rw [this]; exact hX
theorem Nd.gr (h : Nd L s X w) (hO : Only (Isq bo) w w') (hX : ∀ k, bo = some k → X k) (hXX : ∀ k, k < w.heap.size → X' k → X k) : Nd L s X' w' := h.re hO hX hXX
theorem nd_to (h : Nd L s X w) (e : s = s') : Nd L s' X w := e ▸ h
variable {P : Program} {d : Option Tmp} {tt : TypeId} {st : String} {af : Array Edge} {g : Option (Nat × Bool)} {ρ : Operand → Value} {x y : Operand} {t e : TypeId} {bytes i j f n : Nat} {z v u : Value} {k : IntKind}
theorem nd_ld (h : Nd L s X w) (ht : Sc P t) (hx : ρ x = ptr L.bN i) (hv : ∀ vm, (nandC L.bD L.bZ L.ub vm s)[i]? = some v) : DV P ⟨d, .load t x, tt, st, af, g⟩ ρ w v := by
 obtain ⟨vd, vz, vm, _, _, h3, _⟩ := h.v
 exact d_load ht hx h3.n (hv vm)
theorem nd_ldAg {vs : List Value} (h : Nd L s X w) (ht : Ag P t) (hz : TI P t n bytes z) (hx : ρ x = ptr L.bN i) (hv : ∀ vm, ((nandC L.bD L.bZ L.ub vm s).drop i).take n = vs) (hn : vs.length = n) : DV P ⟨d, .load t x, tt, st, af, g⟩ ρ w (.agg vs.toArray) := by
 obtain ⟨vd, vz, vm, _, _, h3, _⟩ := h.v
 exact d_loadAg ht hz hx h3.n (hv vm) hn
theorem nd_ldm (h : Nd L s X w) (hY : ∀ k, k < w.heap.size → Y k → X k ∨ L.S k) (ht : Sc P t) (hx : ρ x = ptr L.bN 13) : Does P ⟨d, .load t x, tt, st, af, g⟩ ρ w fun u w' => Ps Y (Seq kB s.mask u) w ∧ w = w' := by
 obtain ⟨vd, vz, vm, _, _, h3, h4⟩ := h.v
 exact (d_load (v := vm) ht hx h3.n rfl).mono fun u w' h => by obtain ⟨rfl, rfl⟩ := h; exact ⟨(h4.imp fun _ h => h.m).less hY, rfl⟩
theorem getD_some {l : List Value} (h : i < l.length) : l[i]? = some (l.getD i undef) := by rw [List.getD_eq_getElem?_getD, List.getElem?_eq_getElem h]; rfl
theorem nd_ldD (h : Nd L s X w) (hY : ∀ k, k < w.heap.size → Y k → X k ∨ L.S k) (ht : Sc P t) (hx : ρ x = ptr L.bD i) (hi : i < s.n) : Does P ⟨d, .load t x, tt, st, af, g⟩ ρ w fun u w' => Ps Y (Seq kB (s.dl i) u) w ∧ w = w' := by
 obtain ⟨vd, vz, vm, h1, h2, h3, h4⟩ := h.v
 exact (d_load ht hx h3.d (getD_some (by omega))).mono fun u w' h => by obtain ⟨rfl, rfl⟩ := h; exact ⟨(fam_at (h4.imp fun _ h => h.d) hi).less hY, rfl⟩
theorem nd_ldZ (h : Nd L s X w) (hY : ∀ k, k < w.heap.size → Y k → X k ∨ L.S k) (ht : Sc P t) (hx : ρ x = ptr L.bZ i) (hi : i < s.n) : Does P ⟨d, .load t x, tt, st, af, g⟩ ρ w fun u w' => Ps Y (Seq kI (s.nl i) u) w ∧ w = w' := by
 obtain ⟨vd, vz, vm, h1, h2, h3, h4⟩ := h.v
 exact (d_load ht hx h3.z (getD_some (by omega))).mono fun u w' h => by obtain ⟨rfl, rfl⟩ := h; exact ⟨(fam_at (h4.imp fun _ h => h.z) hi).less hY, rfl⟩
theorem nd_ixU (h : Nd L s X w) (ht : P.underlying t = some (.slice e)) (hz : TI P e 1 bytes z) (hx : ρ x = L.ub) (hy : ρ y = .int k (i : Int)) (hi : i < s.gD) : DV P ⟨d, .indexAddr t x y, tt, st, af, g⟩ ρ w (ixp L.ub i) := by
 obtain ⟨vd, vz, vm, h1, h2, h3, h4⟩ := h.v
 exact d_ix ht hz hx h3.u hy (by have := h.lk; omega)
theorem nd_ldU (h : Nd L s X w) (ht : Sc P t) (hx : ρ x = ixp L.ub i) (hi : i < s.gD) : DV P ⟨d, .load t x, tt, st, af, g⟩ ρ w (sli (L.bk.getD i 0) 0 s.gB s.gB) := by
 obtain ⟨vd, vz, vm, h1, h2, h3, h4⟩ := h.v
 exact d_ldx ht hx h3.u (v := L.bk.getD i 0) (by rw [List.getD_eq_getElem?_getD, List.getElem?_eq_getElem (by have := h.lk; omega)]; rfl)
theorem nd_ldS (h : Nd L s X w) (ht : Sc P t) (hx : ρ x = ptr (L.bk.getD i 0) (j * 3 + f)) (hi : i < s.gD) (hj : j < s.gB) (hf : f < 3) (hv : ([eN (s.bl i j).nx, eI (s.bl i j).er, .bool (s.bl i j).bad] : List Value)[f]? = some v) : DV P ⟨d, .load t x, tt, st, af, g⟩ ρ w v := by
 obtain ⟨vd, vz, vm, h1, h2, h3, h4⟩ := h.v
 refine d_load ht hx (h3.k i hi) ?_
 obtain ⟨a1, a2, a3⟩ := stC_at (f := s.bl i) hj
 rcases f with _ | _ | _ | f
 ·rw [Nat.add_zero, a1]; simpa using hv
 ·rw [a2]; simpa using hv
 ·rw [a3]; simpa using hv
 ·omega
def NdW (L : NL) (s : NS) (X : Nat → Prop) (w : World) : Value → World → Prop := fun _ w' => Nd L s X w' ∧ Only L.S w w'
theorem Nd.mk_ (h : Nd L s X w) (ok : s'.Ok) (hg : s'.gD = s.gD) (hO : Only L.S w w') (hv : ∃ vd vz vm, vd.length = s'.n ∧ vz.length = s'.n ∧ NdO L s' vd vz vm w' ∧ Ps (fun k => X k ∨ L.S k) (NdR s' vd vz vm) w') : Nd L s' X w' where
 ok := ok
 lk := h.lk.trans hg.symm
 nd := h.nd
 nu := h.nu
 lt := fun k hk => Nat.lt_of_lt_of_le (h.lt k hk) hO.size
 dis := h.dis
 v := hv
theorem nd_ne {a c : Nat} (h : L.bs.Nodup) : L.bN ≠ L.bD ∧ L.bN ≠ L.bZ ∧ L.bD ≠ L.bZ ∧ (∀ j, j < L.bk.length → L.bk.getD j 0 ≠ L.bN ∧ L.bk.getD j 0 ≠ L.bD ∧ L.bk.getD j 0 ≠ L.bZ) ∧ (∀ i j, i < L.bk.length → j < L.bk.length → i ≠ j → L.bk.getD i 0 ≠ L.bk.getD j 0) := by
 unfold NL.bs at h
 simp only [List.nodup_cons, List.mem_cons, not_or] at h
 obtain ⟨⟨h1, h2, h3⟩, ⟨h4, h5⟩, h6, h7⟩ := h
 have hm : ∀ j, j < L.bk.length → L.bk.getD j 0 ∈ L.bk := fun j hj => by rw [List.getD_eq_getElem?_getD, List.getElem?_eq_getElem hj]; exact List.getElem_mem hj
 refine ⟨h1, h2, h4, fun j hj => ⟨fun e => h3 (e ▸ hm j hj), fun e => h5 (e ▸ hm j hj), fun e => h6 (e ▸ hm j hj)⟩, fun i j hi hj hij e => hij ?_⟩
 rw [List.getD_eq_getElem?_getD, List.getElem?_eq_getElem hi, List.getD_eq_getElem?_getD, List.getElem?_eq_getElem hj] at e
 exact (List.getElem_inj h7).1 e
theorem NdO.but (h : Nd L s X w) (h3 : NdO L s vd vz vm w) (hO : Only (Is1 b) w w') (hb : b ∈ L.bs) : (b ≠ L.bN → Arr L.tN L.bN (nandC L.bD L.bZ L.ub vm s) w') ∧ (b ≠ L.bD → Arr L.tD L.bD vd w') ∧ (b ≠ L.bZ → Arr L.tZ L.bZ vz w') ∧ (∀ j, j < s.gD → b ≠ L.bk.getD j 0 → Arr L.tS (L.bk.getD j 0) (stC s.gB (s.bl j)) w') ∧ Ps (fun k => L.bU ≠ some k) (Seq (kS (eK s.gB)) L.bk L.ub) w' ∧ Only L.S w w' :=
 ⟨fun e => h3.n.step hO (fun t => e t.symm), fun e => h3.d.step hO (fun t => e t.symm), fun e => h3.z.step hO (fun t => e t.symm), fun j hj e => (h3.k j hj).step hO (fun t => e t.symm), h3.u.step hO (fun k t e => h.nu k e (by have : k = b := t; rw [this]; exact hb)), hO.mono (fun k _ t => .inl (by have : k = b := t; rw [this]; exact hb))⟩
theorem nd_st (h : Nd L s X w) (hz : TI P t 1 bytes z) (hx : ρ x = ptr L.bN i) (hy : ρ y = v) (hv : v.oneCell' = true) (hi : i < 17) (hc : ∀ vm, (nandC L.bD L.bZ L.ub vm s).set i v = nandC L.bD L.bZ L.ub vm s') (ok : s'.Ok)
  (hs : s'.gD = s.gD ∧ s'.gB = s.gB ∧ s'.gP = s.gP ∧ s'.dl = s.dl ∧ s'.nl = s.nl ∧ s'.bl = s.bl ∧ s'.mask = s.mask) : Does P ⟨d, .store t x y, tt, st, af, g⟩ ρ w (NdW L s' X w) := by
 obtain ⟨vd, vz, vm, h1, h2, h3, h4⟩ := h.v
 obtain ⟨e1, e2, e3, e4, e5, e6, e7⟩ := hs
 refine (d_store hz hx hy hv h3.n (show i < 17 from hi) (hc vm)).mono fun u w' h' => ?_
 obtain ⟨hA, hO⟩ := h'
 obtain ⟨_, a2, a3, a4, a5, a6⟩ := h3.but h hO NL.in_n
 obtain ⟨n1, n2, n3, n4, n5⟩ := nd_ne (a := 0) (c := 0) h.nd
 refine ⟨h.mk_ ok e1 a6 ⟨vd, vz, vm, by unfold NS.n; rw [e1, e2, e3]; exact h1, by unfold NS.n; rw [e1, e2, e3]; exact h2, ⟨hA, a2 n1, a3 n2, ?_, by rw [e2]; exact a5⟩, (h4.step a6 fun k hk => .inr hk).imp fun w h => ?_⟩, a6⟩
 ·intro j hj
  rw [e2, e6]
  exact a4 j (by omega) (n4 j (by have := h.lk; omega)).1.symm
 ·exact ⟨by unfold NS.n; rw [e1, e2, e3, e4]; exact h.d, by unfold NS.n; rw [e1, e2, e3, e5]; exact h.z, by rw [e7]; exact h.m⟩
theorem nd_stm {l : List UInt8} (h : Nd L s X w) (hY : ∀ k, k < w.heap.size → X k ∨ L.S k → Y k) (hz : TI P t 1 bytes z) (hx : ρ x = ptr L.bN 13) (hy : ρ y = v) (hl : Ps Y (Seq kB l v) w) (hn : l.length ≤ 1048576) : Does P ⟨d, .store t x y, tt, st, af, g⟩ ρ w (NdW L { s with mask := l } X w) := by
 obtain ⟨vd, vz, vm, h1, h2, h3, h4⟩ := h.v
 refine (d_store hz hx hy (Seq.one hl) h3.n (show 13 < 17 by decide) rfl).mono fun u w' h' => ?_
 obtain ⟨hA, hO⟩ := h'
 obtain ⟨_, a2, a3, a4, a5, a6⟩ := h3.but h hO NL.in_n
 obtain ⟨n1, n2, n3, n4, n5⟩ := nd_ne (a := 0) (c := 0) h.nd
 exact ⟨h.mk_ ⟨h.ok.d, h.ok.b, h.ok.p, h.ok.nx, h.ok.st, h.ok.dl, h.ok.nl, hn⟩ rfl a6 ⟨vd, vz, v, h1, h2, ⟨hA, a2 n1, a3 n2, fun j hj => a4 j hj (n4 j (by have := h.lk; have : j < s.gD := hj; omega)).1.symm, a5⟩,
  ((h4.and (hl.less hY)).step a6 fun k hk => .inr hk).imp fun w h => ⟨h.1.d, h.1.z, h.2⟩⟩, a6⟩
theorem nd_stD {l : List UInt8} (h : Nd L s X w) (hY : ∀ k, k < w.heap.size → X k ∨ L.S k → Y k) (hz : TI P t 1 bytes z) (hx : ρ x = ptr L.bD i) (hy : ρ y = v) (hl : Ps Y (Seq kB l v) w) (hi : i < s.n) (hn : l.length = 60) : Does P ⟨d, .store t x y, tt, st, af, g⟩ ρ w (NdW L (s.setD i l) X w) := by
 obtain ⟨vd, vz, vm, h1, h2, h3, h4⟩ := h.v
 refine (d_store hz hx hy (Seq.one hl) h3.d (by omega) rfl).mono fun u w' h' => ?_
 obtain ⟨hA, hO⟩ := h'
 obtain ⟨a1, a2, a3, a4, a5, a6⟩ := h3.but h hO NL.in_d
 obtain ⟨n1, n2, n3, n4, n5⟩ := nd_ne (a := 0) (c := 0) h.nd
 have hf := (fam_set (h4.imp fun _ h => h.d) (hl.less hY) h1 (i := i))
 exact ⟨h.mk_ ⟨h.ok.d, h.ok.b, h.ok.p, h.ok.nx, h.ok.st, fun k => by show (if k = i then l else s.dl k).length = 60; split; exact hn; exact h.ok.dl k, h.ok.nl, h.ok.ml⟩ rfl a6 ⟨vd.set i v, vz, vm, by rw [List.length_set]; exact h1, h2, ⟨a1 n1.symm, hA, a3 n3, fun j hj => a4 j hj (n4 j (by have := h.lk; have : j < s.gD := hj; omega)).2.1.symm, a5⟩,
  ((h4.and hf).step a6 fun k hk => .inr hk).imp fun w h => ⟨h.2, h.1.z, h.1.m⟩⟩, a6⟩
theorem nd_stZ {l : List Int} (h : Nd L s X w) (hY : ∀ k, k < w.heap.size → X k ∨ L.S k → Y k) (hz : TI P t 1 bytes z) (hx : ρ x = ptr L.bZ i) (hy : ρ y = v) (hl : Ps Y (Seq kI l v) w) (hi : i < s.n) (hn : l.length ≤ 1048576) : Does P ⟨d, .store t x y, tt, st, af, g⟩ ρ w (NdW L (s.setZ i l) X w) := by
 obtain ⟨vd, vz, vm, h1, h2, h3, h4⟩ := h.v
 refine (d_store hz hx hy (Seq.one hl) h3.z (by omega) rfl).mono fun u w' h' => ?_
 obtain ⟨hA, hO⟩ := h'
 obtain ⟨a1, a2, a3, a4, a5, a6⟩ := h3.but h hO NL.in_z
 obtain ⟨n1, n2, n3, n4, n5⟩ := nd_ne (a := 0) (c := 0) h.nd
 have hf := (fam_set (h4.imp fun _ h => h.z) (hl.less hY) h2 (i := i))
 exact ⟨h.mk_ ⟨h.ok.d, h.ok.b, h.ok.p, h.ok.nx, h.ok.st, h.ok.dl, fun k => by show (if k = i then l else s.nl k).length ≤ 1048576; split; exact hn; exact h.ok.nl k, h.ok.ml⟩ rfl a6 ⟨vd, vz.set i v, vm, h1, by rw [List.length_set]; exact h2, ⟨a1 n2.symm, a2 n3.symm, hA, fun j hj => a4 j hj (n4 j (by have := h.lk; have : j < s.gD := hj; omega)).2.2.symm, a5⟩,
  ((h4.and hf).step a6 fun k hk => .inr hk).imp fun w h => ⟨h.1.d, h.2, h.1.m⟩⟩, a6⟩
theorem nd_stS {x' : St} (h : Nd L s X w) (hz : TI P t 1 bytes z) (hx : ρ x = ptr (L.bk.getD i 0) (j * 3 + f)) (hy : ρ y = v) (hv : v.oneCell' = true) (hi : i < s.gD) (hj : j < s.gB) (hf : f < 3)
  (hs : ([eN (s.bl i j).nx, eI (s.bl i j).er, .bool (s.bl i j).bad] : List Value).set f v = [eN x'.nx, eI x'.er, .bool x'.bad]) (hn : x'.nx ≤ 8) : Does P ⟨d, .store t x y, tt, st, af, g⟩ ρ w (NdW L (s.setB i j x') X w) := by
 obtain ⟨vd, vz, vm, h1, h2, h3, h4⟩ := h.v
 have hil : i < L.bk.length := by have := h.lk; omega
 refine (d_store hz hx hy hv (h3.k i hi) (by rw [stC_len]; omega) (stC_set hj hf hs)).mono fun u w' h' => ?_
 obtain ⟨hA, hO⟩ := h'
 obtain ⟨a1, a2, a3, a4, a5, a6⟩ := h3.but h hO (NL.in_k hil)
 obtain ⟨n1, n2, n3, n4, n5⟩ := nd_ne (a := 0) (c := 0) h.nd
 obtain ⟨m1, m2, m3⟩ := n4 i hil
 refine ⟨h.mk_ ⟨h.ok.d, h.ok.b, h.ok.p, ?_, h.ok.st, h.ok.dl, h.ok.nl, h.ok.ml⟩ rfl a6 ⟨vd, vz, vm, h1, h2, ⟨a1 m1, a2 m2, a3 m3, ?_, a5⟩, (h4.step a6 fun k hk => .inr hk).imp fun w h => ⟨h.d, h.z, h.m⟩⟩, a6⟩
 ·intro d' b'
  show ((if d' = i then (fun b' => if b' = j then x' else s.bl i b') else s.bl d') b').nx ≤ 8
  by_cases e : d' = i
  ·rw [if_pos e]
   show (if b' = j then x' else s.bl i b').nx ≤ 8
   by_cases e2 : b' = j
   ·rw [if_pos e2]; exact hn
   ·rw [if_neg e2]; exact h.ok.nx _ _
  ·rw [if_neg e]; exact h.ok.nx _ _
 ·intro j' hj'
  show Arr L.tS (L.bk.getD j' 0) (stC s.gB (if j' = i then (fun b' => if b' = j then x' else s.bl i b') else s.bl j')) w'
  by_cases e : j' = i
  ·rw [if_pos e, e]; exact hA
  ·rw [if_neg e]; exact a4 j' hj' (n5 i j' hil (by have := h.lk; have : j' < s.gD := hj'; omega) (Ne.symm e))
def St0 : St := ⟨0, 0, false⟩
theorem made_st (n : Nat) : (madeCells #[.int .i64 0, .int .i64 0, .bool false] (n * 3)).toList = stC n (fun _ => St0) := by
 have h : ∀ i, (#[Value.int .i64 0, .int .i64 0, .bool false] : Array Value)[i % 3]! = [eN 0, eI 0, Value.bool false].getD (i % 3) undef := by
  intro i
  have : i % 3 = 0 ∨ i % 3 = 1 ∨ i % 3 = 2 := by omega
  rcases this with h | h | h <;> rw [h] <;> rfl
 unfold madeCells
 rw [Array.toList_map, Array.toList_range]
 show (List.range (n * 3)).map (fun i => (#[Value.int .i64 0, .int .i64 0, .bool false] : Array Value)[i % 3]!) = _
 rw [List.map_congr_left (fun i _ => h i)]
 induction n with
 | zero => rfl
 | succ n ih =>
  unfold stC
  rw [← ih, Nat.add_mul, List.range_add, List.map_append]
  congr 1
  show List.map _ [n * 3 + 0, n * 3 + 1, n * 3 + 2] = _
  simp only [List.map_cons, List.map_nil]
  rw [show (n * 3 + 0) % 3 = 0 by omega, show (n * 3 + 1) % 3 = 1 by omega, show (n * 3 + 2) % 3 = 2 by omega]
  rfl
theorem fam_next {α : Type} {q : Kd α} {n : Nat} {l : List α} {vd : List Value} {X : Nat → Prop} {w : World} {u : Value} (h : Ps X (Fam q n (fun _ => l) vd) w) (hu : Ps X (Seq q l u) w) (hn : n < vd.length) : Ps X (Fam q (n + 1) (fun _ => l) (vd.set n u)) w := fun w' hw k hk => by
 rw [List.getD_eq_getElem?_getD]
 by_cases hkn : k = n
 ·subst hkn
  rw [List.getElem?_set_self hn]
  exact hu w' hw
 ·rw [List.getElem?_set_ne (Ne.symm hkn)]
  have := h w' hw k (by omega)
  rw [List.getD_eq_getElem?_getD] at this
  exact this
theorem kst_next {bk : List Nat} {b n : Nat} {tS : TypeId} {cs : List Value} {X : Nat → Prop} {w : World} (h : Ps X (fun w => ∀ q, q < n → Arr tS (bk.getD q 0) cs w) w) (hb : Ps X (fun w => Arr tS b cs w) w) (hl : bk.length = n) : Ps X (fun w => ∀ q, q < n + 1 → Arr tS ((bk ++ [b]).getD q 0) cs w) w := fun w' hw q hq => by
 rw [List.getD_eq_getElem?_getD]
 rcases Nat.lt_or_ge q n with h1 | h1
 ·rw [List.getElem?_append_left (by omega)]
  have := h w' hw q h1
  rw [List.getD_eq_getElem?_getD] at this
  exact this
 ·have : q = n := by omega
  subst this
  rw [List.getElem?_append_right (by omega), hl, Nat.sub_self]
  exact hb w' hw
theorem fam_nil {n : Nat} {X : Nat → Prop} {w : World} : Ps X (Fam kI n (fun _ => []) (List.replicate n (Value.slice none 0 0))) w := fun w' _ k hk => by
 rw [List.getD_eq_getElem?_getD, List.getElem?_replicate, if_pos hk]
 exact ⟨none, 0, rfl, Nat.le_refl _, fun i x h => by simp at h⟩
theorem nd_new {tN tD tZ tS tU : TypeId} {D B Q c d z : Nat} {bo : Option Nat} {u : Value} {bk : List Nat} {vd : List Value} {w W : World} {X : Nat → Prop} (hD : 6 ≤ D ∧ D ≤ 8) (hB : 8 ≤ B ∧ B ≤ 12) (hQ : 4 ≤ Q ∧ Q ≤ 8)
  (hc : Arr tN c [eN D, eN B, eN Q, eN D, eN B, eN Q, sli d 0 (D * B * Q) (D * B * Q), eN D, eN B, eN Q, sli z 0 (D * B * Q) (D * B * Q), u, eN 0, .slice none 0 0, .bool false, eN 0, eN 0] w)
  (hd : Arr tD d (vd.map eV) w) (hz : Arr tZ z (List.replicate (D * B * Q) (.slice none 0 0)) w) (hr : Ow tU 1 bo u bk.length (bk.map (eK B)) w) (hK : Ps X (fun w => ∀ j, j < D → Arr tS (bk.getD j 0) (stC B (fun _ => St0)) w) w)
  (hF : Ps (fun k => k = c ∨ k = d ∨ k = z ∨ k ∈ bk ∨ bo = some k ∨ Old W.heap.size k) (Fam kB (D * B * Q) (fun _ => onesW) vd) w) (hl : vd.length = D * B * Q) (hbk : bk.length = D) (hS : Only No W w)
  (n1 : c ≠ d) (n2 : c ≠ z) (n3 : d ≠ z) (hn : bk.Nodup) (hb : ∀ x ∈ bk, x ≠ c ∧ x ≠ d ∧ x ≠ z ∧ W.heap.size ≤ x ∧ x < w.heap.size) (hbo : ∀ x, bo = some x → x ≠ c ∧ x ≠ d ∧ x ≠ z ∧ x ∉ bk ∧ W.heap.size ≤ x ∧ x < w.heap.size)
  (gc : W.heap.size ≤ c) (gd_ : W.heap.size ≤ d) (gz : W.heap.size ≤ z) :
  Nd ⟨tN, tD, tZ, tS, c, d, z, bo, u, bk⟩ (NS.new D B Q (fun _ _ => false)) (Old W.heap.size) w ∧ ∀ k, (⟨tN, tD, tZ, tS, c, d, z, bo, u, bk⟩ : NL).S k → W.heap.size ≤ k := by
 have fresh : ∀ k, (⟨tN, tD, tZ, tS, c, d, z, bo, u, bk⟩ : NL).S k → W.heap.size ≤ k := by
  intro k hk
  rcases hk with hk | hk
  ·simp only [NL.bs, List.mem_cons] at hk
   rcases hk with rfl | rfl | rfl | hk
   ·exact gc
   ·exact gd_
   ·exact gz
   ·exact (hb k hk).2.2.2.1
  ·exact (hbo k hk).2.2.2.2.1
 refine ⟨⟨⟨hD, hB, hQ, fun _ _ => Nat.zero_le _, by show 0 < 2 ^ 62; decide, fun _ => onesW_len, fun _ => Nat.zero_le _, Nat.zero_le _⟩, hbk, ?_, ?_, ?_, fun k hk hs => ?_, vd, List.replicate (D * B * Q) (.slice none 0 0), .slice none 0 0, hl, by rw [List.length_replicate]; rfl, ⟨hc, by rw [map_eV] at hd; exact hd, hz, hK.now, hr.seq fun b hb' h => h hb'⟩, ?_⟩, fresh⟩
 ·simp only [NL.bs, List.nodup_cons, List.mem_cons, not_or]
  exact ⟨⟨n1, n2, fun h => (hb _ h).1 rfl⟩, ⟨n3, fun h => (hb _ h).2.1 rfl⟩, fun h => (hb _ h).2.2.1 rfl, hn⟩
 ·intro x hx
  obtain ⟨h1, h2, h3, h4, _⟩ := hbo x hx
  simp only [NL.bs, List.mem_cons, not_or]
  exact ⟨h1, h2, h3, h4⟩
 ·intro k hk
  rcases hk with hk | hk
  ·simp only [NL.bs, List.mem_cons] at hk
   rcases hk with rfl | rfl | rfl | hk
   ·exact hc.lt
   ·exact hd.lt
   ·exact hz.lt
   ·exact (hb k hk).2.2.2.2
  ·exact (hbo k hk).2.2.2.2.2
 ·have h1 := fresh k hs
  have h2 : k < W.heap.size := hk
  omega
 ·refine ((hF.less ?_).and fam_nil).imp fun w' h' => ⟨h'.1, h'.2, ⟨none, 0, rfl, Nat.le_refl _, fun i x h => by cases i <;> cases h⟩⟩
  intro k _ hk
  rcases hk with hk | hk | hk
  ·exact .inr (.inr (.inr (.inr (.inr hk))))
  ·simp only [NL.bs, List.mem_cons] at hk
   rcases hk with hk | hk | hk | hk
   ·exact .inl hk
   ·exact .inr (.inl hk)
   ·exact .inr (.inr (.inl hk))
   ·exact .inr (.inr (.inr (.inl hk)))
  ·exact .inr (.inr (.inr (.inr (.inl hk))))
end
end Go.Proofs.YtpamdlnobekihaaF
namespace Go.Proofs.YtpamdlnobekihaaF
open Go Shelf YtpamdlnobekihaaS Ram
def up1 (x : Int) : Int := IntKind.i64.wrap (x + 1)
structure Ctl (s : NS) (D B Q k : Nat) (m : List UInt8) (x : Bool) (o w : Int) : Prop where
 gD : s.gD = D
 gB : s.gB = B
 gP : s.gP = Q
 st : s.stop = k
 mk_ : s.mask = m
 dd : s.dead = x
 op : s.ops = o
 wr : s.wrong = w
structure Bv (s : NS) (d b nx : Nat) (er : Int) (bad : Bool) (f : Nat → List UInt8) (z : Nat → List Int) : Prop where
 dd : d < s.gD
 bb : b < s.gB
 nx : (s.bl d b).nx = nx
 er : (s.bl d b).er = er
 bad : (s.bl d b).bad = bad
 f : ∀ p, p < s.gP → s.dl (s.ix d b p) = f p
 z : ∀ p, p < s.gP → s.nl (s.ix d b p) = z p
section
variable {s : NS} {D B Q k d b nx p : Nat} {m : List UInt8} {x bad : Bool} {o w er : Int} {f : Nat → List UInt8} {z : Nat → List Int} {l : List UInt8} {d' b' nx' : Nat} {er' : Int} {bad' : Bool} {f' : Nat → List UInt8} {z' : Nat → List Int}
theorem ctl_new (D B Q : Nat) (g : Nat → Nat → Bool) : Ctl (NS.new D B Q g) D B Q 0 [] false 0 0 := ⟨rfl, rfl, rfl, rfl, rfl, rfl, rfl, rfl⟩
theorem bv_new {g : Nat → Nat → Bool} (hd : d < D) (hb : b < B) : Bv (NS.new D B Q g) d b 0 0 (g d b) (fun _ => onesW) (fun _ => []) := ⟨hd, hb, rfl, rfl, rfl, fun _ _ => rfl, fun _ _ => rfl⟩
theorem Ctl.ask (h : Ctl s D B Q k m x o w) (g : Bool) : Ctl (s.ask g) D B Q k m x (if x then o else if g then up1 o else o) (if x then w else if g then w else up1 w) := by
 obtain ⟨h1, h2, h3, h4, h5, h6, h7, h8⟩ := h
 exact ⟨h1, h2, h3, h4, h5, h6, by unfold NS.ask up1; simp only [h6, h7], by unfold NS.ask up1; simp only [h6, h8]⟩
theorem Bv.ask (h : Bv s d b nx er bad f z) (g : Bool) : Bv (s.ask g) d b nx er bad f z := ⟨h.dd, h.bb, h.nx, h.er, h.bad, h.f, h.z⟩
theorem askR_eq (h : Ctl s D B Q k m x o w) (g : Bool) : s.askR g = if x then 8 else if g then 0 else 1 := by unfold NS.askR; rw [h.dd]
theorem there_eq (d b : Nat) (hd : d < s.gD) (hb : b < s.gB) : s.there d b = true := by unfold NS.there; simp; omega
theorem bv_there (h : Bv s d b nx er bad f z) : s.there d b = true := there_eq d b h.dd h.bb
theorem bv_bad (h : Bv s d b nx er bad f z) : s.isBad d b = bad := by unfold NS.isBad; rw [bv_there h, Int.toNat_natCast, Int.toNat_natCast, h.bad]; rfl
theorem bv_page (h : Bv s d b nx er bad f z) (p : Nat) : s.pageIn d b p = decide (p < s.gP) := by unfold NS.pageIn; rw [bv_there h, Bool.true_and, decide_eq_decide]; omega
theorem bv_readOk (h : Bv s d b nx er bad f z) (p : Nat) : s.readOk d b p = (decide (p < s.gP) && !bad) := by unfold NS.readOk; rw [bv_page h, bv_bad h]
theorem bv_progOk (h : Bv s d b nx er bad f z) (p : Nat) (l : List UInt8) : s.progOk d b p l = (decide (p < s.gP) && !bad && decide (l.length = 60) && decide (nx = p)) := by
 unfold NS.progOk; rw [bv_page h, bv_bad h, Int.toNat_natCast, Int.toNat_natCast, h.nx]
 congr 1
 rw [decide_eq_decide]; omega
theorem readL_eq (hc : Ctl s D B Q k m false o w) (h : Bv s d b nx er false f z) (hp : p < Q) : s.readL d b p = flipI (f p) (z p) ∧ s.askR (s.readOk d b p) = 0 := by
 have hp' : p < s.gP := by rw [hc.gP]; exact hp
 have h0 : s.askR (s.readOk d b p) = 0 := by rw [askR_eq hc, bv_readOk h]; simp [hp']
 refine ⟨?_, h0⟩
 unfold NS.readL
 rw [if_pos h0, Int.toNat_natCast, Int.toNat_natCast, Int.toNat_natCast, h.f p hp', h.z p hp']
theorem read_ctl (hc : Ctl s D B Q k m false o w) (h : Bv s d b nx er false f z) (hp : p < Q) : Ctl (s.ask (s.readOk d b p)) D B Q k m false (up1 o) w := by
 have hp' : p < s.gP := by rw [hc.gP]; exact hp
 have := hc.ask (s.readOk d b p)
 rw [bv_readOk h] at this ⊢
 simpa [hp'] using this
theorem prog_refused {d b p : Int} (hc : Ctl s D B Q k m false o w) (h : s.progOk d b p l = false) : s.progR d b p l = 1 ∧ Ctl (s.prog d b p l) D B Q k m false o (up1 w) ∧ ∀ {d' b' nx er bad f z}, Bv s d' b' nx er bad f z → Bv (s.prog d b p l) d' b' nx er bad f z := by
 have h0 : s.askR (s.progOk d b p l) = 1 := by rw [askR_eq hc, h]; rfl
 have h1 : ¬ s.askR (s.progOk d b p l) = 0 := by rw [h0]; decide
 obtain ⟨e1, e2⟩ := NS.prog_no h1
 refine ⟨e2.trans h0, ?_, fun hv => ?_⟩
 ·rw [e1, h]; simpa using hc.ask false
 ·rw [e1]; exact hv.ask _
end
structure NewI (s : NS) (D B Q : Nat) (l : List (Nat × Nat)) : Prop where
 c : Ctl s D B Q 0 [] false 0 0
 v : ∀ d b, d < D → b < B → Bv s d b 0 0 (decide ((d, b) ∈ l)) (fun _ => onesW) (fun _ => [])
section
variable {s : NS} {D B Q : Nat} {l : List (Nat × Nat)}
theorem newI_nil (D B Q : Nat) : NewI (NS.new D B Q fun _ _ => false) D B Q [] := ⟨ctl_new D B Q _, fun d b hd hb => by
 have := bv_new (Q := Q) (g := fun _ _ => false) hd hb
 simpa using this⟩
theorem newI_step {i : Nat} (h : NewI s D B Q (l.take i)) (hi : i < l.length) (h1 : (l.getD i (0, 0)).1 < D) (h2 : (l.getD i (0, 0)).2 < B) :
  NewI (s.setB (l.getD i (0, 0)).1 (l.getD i (0, 0)).2 { s.bl (l.getD i (0, 0)).1 (l.getD i (0, 0)).2 with bad := true }) D B Q (l.take (i + 1)) := by
 have ht : l.take (i + 1) = l.take i ++ [l.getD i (0, 0)] := by
  rw [List.getD_eq_getElem?_getD, List.getElem?_eq_getElem hi, List.take_add_one, List.getElem?_eq_getElem hi]
  rfl
 generalize l.getD i (0, 0) = x at *
 refine ⟨⟨h.c.gD, h.c.gB, h.c.gP, h.c.st, h.c.mk_, h.c.dd, h.c.op, h.c.wr⟩, fun d b hd hb => ?_⟩
 obtain ⟨a1, a2, a3, a4, a5, a6, a7⟩ := h.v d b hd hb
 by_cases e : d = x.1 ∧ b = x.2
 ·have hbl : (s.setB x.1 x.2 { s.bl x.1 x.2 with bad := true }).bl d b = { s.bl d b with bad := true } := by
   show (if d = x.1 then (fun b' => if b' = x.2 then _ else _) else _) b = _
   rw [if_pos e.1]
   show (if b = x.2 then _ else _) = _
   rw [if_pos e.2, ← e.1, ← e.2]
  have hm : (d, b) ∈ l.take (i + 1) := by rw [ht, e.1, e.2]; exact List.mem_append_right _ (List.mem_singleton.2 rfl)
  exact ⟨a1, a2, by rw [hbl]; exact a3, by rw [hbl]; exact a4, by rw [hbl]; simp [hm], a6, a7⟩
 ·have hbl : (s.setB x.1 x.2 { s.bl x.1 x.2 with bad := true }).bl d b = s.bl d b := by
   show (if d = x.1 then (fun b' => if b' = x.2 then _ else s.bl x.1 b') else s.bl d) b = _
   by_cases e1 : d = x.1
   ·rw [if_pos e1]
    show (if b = x.2 then _ else s.bl x.1 b) = _
    rw [if_neg (fun e2 => e ⟨e1, e2⟩), e1]
   ·rw [if_neg e1]
  have hm : decide ((d, b) ∈ l.take (i + 1)) = decide ((d, b) ∈ l.take i) := by
   rw [decide_eq_decide, ht, List.mem_append, List.mem_singleton]
   constructor
   ·rintro (h | h)
    ·exact h
    ·exact absurd ⟨congrArg Prod.fst h, congrArg Prod.snd h⟩ e
   ·exact .inl
  exact ⟨a1, a2, by rw [hbl]; exact a3, by rw [hbl]; exact a4, by rw [hbl, hm]; exact a5, a6, a7⟩
end
end Go.Proofs.YtpamdlnobekihaaF
set_option maxRecDepth 20000
set_option maxHeartbeats 4000000
namespace Go.Proofs.YtpamdlnobekihaaF
open Go Shelf YtpamdlnobekihaaS Ram
theorem mul64_ok (W : World) :
    CW Try.prog 68 #[(Value.int .u64 1), (Value.int .u64 60)] W (Rt (RIs (.tuple #[.int .u64 0, .int .u64 60]) W)) := by
 have oW : Only No W W := Only.refl _ _
 refine enter (al := [(Value.int .u64 1), (Value.int .u64 60)]) (k := 49) (l := ([(Value.int .u64 1), (Value.int .u64 60)] ++ (us 49))) Try.func68 rfl Try.ntmps68 rfl rfl ?_
 refine wQ (pL ?_)
 refine wI (d_assign rfl) ?_
 refine wI (d_assign rfl) ?_
 refine wD (tN (wQ (pL ?_)))
 refine wI (d_move rfl) ?_
 refine wI (d_bits (k := .u64) (m := 1) (n := 4294967295) (r := 1) (by simp) rfl rfl (by decide)) ?_
 refine wI (d_assign rfl) ?_
 refine wD (tN (wQ (pL ?_)))
 refine wI (d_move rfl) ?_
 refine wI (d_shr (k := .u64) (yk := .u64) (m := 1) (n := 32) (r := 0) rfl rfl (by decide) (by decide)) ?_
 refine wI (d_assign rfl) ?_
 refine wD (tN (wQ (pL ?_)))
 refine wI (d_move rfl) ?_
 refine wF ([(Value.int .u64 1), (Value.int .u64 60), undef, undef, (Value.int .u64 0), (Value.int .u64 0), (Value.int .u64 1), (Value.int .u64 0)] ++ (us 6 ++ [(Value.int .u64 1), (Value.int .u64 1), (Value.int .u64 1), (Value.int .u64 0), (Value.int .u64 60)] ++ (us 32))) ?_
 refine wI (d_bits (k := .u64) (m := 60) (n := 4294967295) (r := 60) (by simp) rfl rfl (by decide)) ?_
 refine wI (d_assign rfl) ?_
 refine wD (tN ?_)
 refine forget (fun zf11 => ([(Value.int .u64 1), (Value.int .u64 60), (zf11 2), (zf11 3), (zf11 4), (zf11 5), (Value.int .u64 1), (Value.int .u64 0), (Value.int .u64 60)] ++ (zs zf11 9 42))) kr (fun zf11 => ?_)
 refine wQ (pL ?_)
 refine wI (d_move rfl) ?_
 refine wI (d_shr (k := .u64) (yk := .u64) (m := 60) (n := 32) (r := 0) rfl rfl (by decide) (by decide)) ?_
 refine wI (d_assign rfl) ?_
 refine wD (tN (wQ (pL ?_)))
 refine wI (d_move rfl) ?_
 refine wI (d_move rfl) ?_
 refine wI (d_mul (k := .u64) (m := 1) (n := 60) (r := 60) rfl rfl (by decide)) ?_
 refine wI (d_assign rfl) ?_
 refine wD (tN (wQ (pL ?_)))
 refine wI (d_move rfl) ?_
 refine wI (d_move rfl) ?_
 refine wF ([(Value.int .u64 1), (Value.int .u64 60), (zf11 2), (zf11 3), (zf11 4), (zf11 5), (Value.int .u64 1), (Value.int .u64 0), (Value.int .u64 60), (Value.int .u64 0), (Value.int .u64 60)] ++ (zs zf11 11 9 ++ [(Value.int .u64 60), (Value.int .u64 0), (Value.int .u64 1), (Value.int .u64 60), (Value.int .u64 60), (Value.int .u64 0), (Value.int .u64 60)] ++ (zs zf11 27 24))) ?_
 refine wI (d_mul (k := .u64) (m := 0) (n := 60) (r := 0) rfl rfl (by decide)) ?_
 refine wI (d_move rfl) ?_
 refine wI (d_shr (k := .u64) (yk := .u64) (m := 60) (n := 32) (r := 0) rfl rfl (by decide) (by decide)) ?_
 refine wI (d_add (k := .u64) (m := 0) (n := 0) (r := 0) rfl rfl (by decide)) ?_
 refine wI (d_assign rfl) ?_
 refine wD (tN ?_)
 refine forget (fun zf12 => ([(Value.int .u64 1), (Value.int .u64 60), (zf12 2), (zf12 3), (zf12 4), (zf12 5), (Value.int .u64 1), (Value.int .u64 0), (zf12 8), (Value.int .u64 0), (zf12 10), (Value.int .u64 0)] ++ (zs zf12 12 39))) kr (fun zf12 => ?_)
 refine wQ (pL ?_)
 refine wI (d_move rfl) ?_
 refine wI (d_bits (k := .u64) (m := 0) (n := 4294967295) (r := 0) (by simp) rfl rfl (by decide)) ?_
 refine wI (d_assign rfl) ?_
 refine wD (tN (wQ (pL ?_)))
 refine wI (d_move rfl) ?_
 refine wI (d_shr (k := .u64) (yk := .u64) (m := 0) (n := 32) (r := 0) rfl rfl (by decide) (by decide)) ?_
 refine wI (d_assign rfl) ?_
 refine wD (tN (wQ (pL ?_)))
 refine wI (d_move rfl) ?_
 refine wI (d_move rfl) ?_
 refine wI (d_move rfl) ?_
 refine wF ([(Value.int .u64 1), (Value.int .u64 60), (zf12 2), (zf12 3), (zf12 4), (zf12 5), (Value.int .u64 1), (Value.int .u64 0), (zf12 8), (Value.int .u64 0), (zf12 10), (Value.int .u64 0), (Value.int .u64 0), (Value.int .u64 0)] ++ (zs zf12 14 17 ++ [(Value.int .u64 0), (Value.int .u64 0), (Value.int .u64 0), (Value.int .u64 0), (Value.int .u64 0), (Value.int .u64 1), (Value.int .u64 0)] ++ (zs zf12 38 13))) ?_
 refine wI (d_mul (k := .u64) (m := 1) (n := 0) (r := 0) rfl rfl (by decide)) ?_
 refine wI (d_add (k := .u64) (m := 0) (n := 0) (r := 0) rfl rfl (by decide)) ?_
 refine wI (d_assign rfl) ?_
 refine wD (tN ?_)
 refine forget (fun zf13 => ([(Value.int .u64 1), (Value.int .u64 60)] ++ (zs zf13 2 5 ++ [(Value.int .u64 0), (zf13 8), (Value.int .u64 0), (zf13 10), (zf13 11), (Value.int .u64 0), (Value.int .u64 0)] ++ (zs zf13 14 37)))) kr (fun zf13 => ?_)
 refine wQ (pL ?_)
 refine wI (d_move rfl) ?_
 refine wI (d_move rfl) ?_
 refine wI (d_mul (k := .u64) (m := 0) (n := 0) (r := 0) rfl rfl (by decide)) ?_
 refine wI (d_move rfl) ?_
 refine wI (d_add (k := .u64) (m := 0) (n := 0) (r := 0) rfl rfl (by decide)) ?_
 refine wI (d_move rfl) ?_
 refine wI (d_shr (k := .u64) (yk := .u64) (m := 0) (n := 32) (r := 0) rfl rfl (by decide) (by decide)) ?_
 refine wI (d_add (k := .u64) (m := 0) (n := 0) (r := 0) rfl rfl (by decide)) ?_
 refine wI (d_assign rfl) ?_
 refine wF ([(Value.int .u64 1), (Value.int .u64 60), (zf13 2), (zf13 3), (Value.int .u64 0), (zf13 5), (zf13 6), (Value.int .u64 0), (zf13 8), (Value.int .u64 0), (zf13 10), (zf13 11), (Value.int .u64 0), (Value.int .u64 0)] ++ (zs zf13 14 26 ++ [(Value.int .u64 0), (Value.int .u64 0), (Value.int .u64 0), (Value.int .u64 0), (Value.int .u64 0), (Value.int .u64 0), (Value.int .u64 0), (Value.int .u64 0), (zf13 48), (zf13 49), (zf13 50)])) ?_
 refine wD (tN ?_)
 refine forget (fun zf14 => ([(Value.int .u64 1), (Value.int .u64 60), (zf14 2), (zf14 3), (Value.int .u64 0)] ++ (zs zf14 5 46))) kr (fun zf14 => ?_)
 refine wQ (pL ?_)
 refine wI (d_move rfl) ?_
 refine wI (d_move rfl) ?_
 refine wI (d_mul (k := .u64) (m := 1) (n := 60) (r := 60) rfl rfl (by decide)) ?_
 refine wI (d_assign rfl) ?_
 refine wD (tN ?_)
 refine wpIn_ret ?_
 refine leave0 (v := (Value.tuple #[(Value.int .u64 0), (Value.int .u64 60)])) (res2 Try.results68 rfl rfl) ?_
 exact ⟨rfl, oW⟩
theorem mulU_ok (W : World) :
    CW Try.prog 66 #[(Value.int .u64 1), (Value.int .u64 60)] W (Rt (RIs (.tuple #[.int .u64 0, .int .u64 60]) W)) := by
 have oW : Only No W W := Only.refl _ _
 refine enter (al := [(Value.int .u64 1), (Value.int .u64 60)]) (k := 28) (l := ([(Value.int .u64 1), (Value.int .u64 60)] ++ (us 28))) Try.func66 rfl Try.ntmps66 rfl rfl ?_
 refine wQ (pL ?_)
 refine wI (d_assign rfl) ?_
 refine wI (d_assign rfl) ?_
 refine wD (tN (wQ ?_))
 refine wpIn_cond_false rfl ?_
 refine wK (tN (wQ (pL ?_)))
 refine wI (d_move rfl) ?_
 refine wI (d_move rfl) ?_
 refine wO (d_call (xl := [.tmp 23, .tmp 24]) (al := [(Value.int .u64 1), (Value.int .u64 60)]) Try.func68 kr rfl rfl rfl (mul64_ok _)) ?_
 rintro _ w11 ⟨rfl, o12⟩
 replace oW := oW.tail0 o12
 refine wI (d_move rfl) ?_
 refine wI (d_extract (v := (Value.int .u64 0)) rfl rfl) ?_
 refine wI (d_extract (v := (Value.int .u64 60)) rfl rfl) ?_
 refine wI (d_assign rfl) ?_
 refine wF ([(Value.int .u64 1), (Value.int .u64 60), undef, undef, (Value.int .u64 0), (Value.int .u64 0), undef, undef, (Value.int .u64 0)] ++ (us 13 ++ [(Value.tuple #[(Value.int .u64 0), (Value.int .u64 60)]), (Value.int .u64 1), (Value.int .u64 60), (Value.tuple #[(Value.int .u64 0), (Value.int .u64 60)]), (Value.int .u64 0), (Value.int .u64 60), undef, undef])) ?_
 refine wI (d_assign rfl) ?_
 refine wD (tN ?_)
 refine forget (fun zf13 => (zs zf13 0 8 ++ [(Value.int .u64 0), (Value.int .u64 60)] ++ (zs zf13 10 20))) kr (fun zf13 => ?_)
 refine wQ (pL ?_)
 refine wI (d_move rfl) ?_
 refine wI (d_move rfl) ?_
 refine wI (d_assign rfl) ?_
 refine wI (d_assign rfl) ?_
 refine wD (tN ?_)
 refine wpIn_ret ?_
 refine leave0 (v := (Value.tuple #[(Value.int .u64 0), (Value.int .u64 60)])) (res2 Try.results66 rfl rfl) ?_
 exact ⟨rfl, oW⟩
theorem repeat_ok (u1 : Value) (W : World) (h1 : Ps No (Seq kB [255] u1) W) :
    CW Try.prog 62 #[u1, (eN 60)] W (Rt (ROw 5 eB onesW W)) := by
 have oW : Only No W W := Only.refl _ _
 refine enter (al := [u1, (eN 60)]) (k := 46) (l := ([u1, (eN 60)] ++ (us 46))) Try.func62 rfl Try.ntmps62 rfl rfl ?_
 refine wQ (pL ?_)
 refine wI (d_assign rfl) ?_
 refine wD (tN (wQ (wQ (pL ?_))))
 refine wI (d_move rfl) ?_
 refine wI (n_lss (a := 60) (b := 0) rfl rfl rfl) ?_
 refine wD (tN ?_)
 refine cond_f (congrArg Value.bool (decide_eq_false (by decide))) ?_
 refine wK (tN (wQ (pL ?_)))
 refine wI (d_move rfl) ?_
 refine wI (d_lenS rfl Try.underlying36 rfl h1) ?_
 refine wI (n_toU Try.underlying3 Try.underlying94 rfl (by decide)) ?_
 refine wI (d_move rfl) ?_
 refine wI (n_toU Try.underlying3 Try.underlying94 rfl oo) ?_
 refine wO (d_call (xl := [.tmp 15, .tmp 17]) (al := [(Value.int .u64 (([255].length : Nat) : Int)), (Value.int .u64 ((60 : Nat) : Int))]) Try.func66 kr rfl rfl rfl (mulU_ok _)) ?_
 rintro _ w11 ⟨rfl, o12⟩
 replace h1 := h1.step0 o12
 replace oW := oW.tail0 o12
 refine wF ([u1, (eN 60), undef, undef, vN, undef, undef, undef, undef, (eN 60), (Value.bool (decide (60 < 0))), undef, undef, u1, (eN ([255].length)), (Value.int .u64 (([255].length : Nat) : Int)), (eN 60), (Value.int .u64 ((60 : Nat) : Int)), (Value.tuple #[(Value.int .u64 0), (Value.int .u64 60)])] ++ (us 29)) ?_
 refine wI (d_move rfl) ?_
 refine wI (d_extract (v := (Value.int .u64 0)) rfl rfl) ?_
 refine wI (d_extract (v := (Value.int .u64 60)) rfl rfl) ?_
 refine wI (d_assign rfl) ?_
 refine wI (d_assign rfl) ?_
 refine wD (tN ?_)
 refine forget (fun zf13 => ([u1, (zf13 1), (zf13 2), (zf13 3), (zf13 4), (Value.int .u64 0), (Value.int .u64 60), (zf13 7), undef] ++ (zs zf13 9 29 ++ (us 9 ++ [(zf13 47)])))) kr (fun zf13 => ?_)
 refine wQ (wQ (pL ?_))
 refine wI (d_move rfl) ?_
 refine wI (d_gtr (k := .u64) (m := 0) (n := 0) (b := false) rfl rfl (by decide)) ?_
 refine wI (d_move rfl) ?_
 refine wG (d_move rfl) ?_
 refine wG (d_gtr (k := .u64) (m := 60) (n := 9223372036854775807) (b := false) rfl rfl (by decide)) ?_
 refine wI (d_pick (b := false) (v := vF) rfl rfl) ?_
 refine wD (tN ?_)
 refine cond_f rfl ?_
 refine wK (tN (wQ (pL ?_)))
 refine wI (d_move rfl) ?_
 refine wI (d_conv (n := 60) (r := 60) Try.underlying94 Try.underlying3 rfl (by decide)) ?_
 refine wO (d_make1 (n := 60) Try.underlying36 s_ti5 rfl rfl (by decide) (by decide) rfl) ?_
 rintro _ w14 ⟨b, rfl, g15, a16, o17⟩
 replace a16 : Arr 5 b ((List.replicate 60 0).map eB) w14 := by rw [List.map_replicate]; exact a16
 have l_b : (List.replicate 60 0 : List UInt8).length = 60 := by simp
 have g_oW_b : W.heap.size ≤ b := Nat.le_trans oW.size g15
 replace h1 := h1.new o17 g15
 replace oW := oW.tail0 o17
 refine wF ([u1, (zf13 1), (zf13 2), (zf13 3), (zf13 4), (Value.int .u64 0), (Value.int .u64 60), (zf13 7), undef] ++ (zs zf13 9 12 ++ [(Value.int .u64 0), vF, vF, (Value.int .u64 60), vF, vF, (zf13 27), (Value.int .u64 60), (eN 60), (sli b 0 60 60)] ++ (zs zf13 31 7 ++ (us 9 ++ [(zf13 47)])))) ?_
 refine wI (d_assign rfl) ?_
 refine wD (tN ?_)
 refine forget (fun zf18 => ([u1] ++ (zs zf18 1 6 ++ [(sli b 0 60 60), undef] ++ (zs zf18 9 29 ++ (us 9 ++ [(zf18 47)]))))) kr (fun zf18 => ?_)
 refine wQ (pL ?_)
 refine wI (d_move rfl) ?_
 refine wI (d_move rfl) ?_
 refine wO (d_copy (b := b) (o := 0) (n := 60) (c := 60) (zs := ([255] ++ List.replicate 59 0)) (j := 1) rfl Try.underlying36 s_ti5 rfl rfl a16 h1 (fun _ => rfl) (by decide) (by decide) (by rfl)) ?_
 rintro _ w19 ⟨rfl, a20, o21⟩
 replace h1 := h1.stepb o21 in1
 replace oW := oW.tailb o21 g_oW_b
 replace l_b : ([255] ++ List.replicate 59 0 : List UInt8).length = 60 := rfl
 refine wI (d_assign rfl) ?_
 refine wD (tN (wQ (wB ?_)))
 refine loop2 (fun (k : (Nat)) => fun (z : Nat → Value) => (([u1] ++ (zs zf18 1 6 ++ [(sli b 0 60 60), (eN k)] ++ (zs zf18 9 22 ++ [(sli b 0 60 60), u1, (eN 1)] ++ (zs z 34 13 ++ [(zf18 47)])))) : List Value)) (fun (k : (Nat)) => fun (w_ : World) => (1 ≤ k ∧ k ≤ 60) ∧ Only (Or1 b No) w19 w_ ∧ (List.replicate k (255 : UInt8) ++ List.replicate (60 - k) 0).length = 60 ∧ Arr 5 b ((List.replicate k (255 : UInt8) ++ List.replicate (60 - k) 0).map eB) w_) (fun (k : (Nat)) => 60 - k) 1 kr ?_ ?_
 ·
  refine ⟨?_, ?_, ?_, ?_⟩
  ·
   (try dsimp only)
   all_goals (decide)
  ·
   exact Only.refl _ _
  ·
   exact rfl
  ·
   exact a20
 rintro k z w23 ⟨hk, o22, l_b, a20⟩
 (try dsimp only)
 replace h1 := h1.step o22 (or1_mono no_any)
 replace oW := oW.tail o22 (tl_new g_oW_b tl_no)
 refine wQ (wQ (pL ?_))
 refine wI (d_move rfl) ?_
 refine wI (d_move rfl) ?_
 refine wI (d_len rfl Try.underlying36 rfl) ?_
 refine wI (n_lss (a := k) (b := 60) rfl rfl rfl) ?_
 refine wD (tN ?_)
 refine cond_if rfl (fun c24 => ?_) (fun c24 => ?_)
 ·
  refine wK (tN (wB ?_))
  refine wp_eq (l' := ([u1] ++ (zs zf18 1 6 ++ [(sli b 0 60 60), (eN k)] ++ (zs zf18 9 22 ++ [(sli b 0 60 60), u1, (eN 1), (eN k), (sli b 0 60 60), (eN 60), (Value.bool (decide (k < 60)))] ++ (zs z 38 9 ++ [(zf18 47)]))))) rfl ?_
  refine drawn' (O := (Or1 b No)) (n := 10) [0, 0, 0, 6, 0, 0, 48, 126, 255, 511] [(0, 38), (1, 39), (2, 40), (3, 41), (4, 42), (5, 43), (6, 44), (7, 45), (8, 46), (9, 8)] [0, 1, 2, 3, 4, 5, 6, 8, 9] [7] (fun i_ => ([RF.is (Or1 b No) (eN k), RF.is (Or1 b No) (sli b 0 60 60), RF.is (Or1 b No) (eN k), RF.is (Or1 b No) (sli b k (60 - k) (60 - k)), RF.is (Or1 b No) (sli b 0 60 60), RF.is (Or1 b No) (eN k), RF.is (Or1 b No) (sli b 0 k 60), RF.is (Or1 b No) (eN (min k (60 - k))), RF.is (Or1 b No) (eN (k + (min k (60 - k)))), RF.is (Or1 b No) (eN (k + (min k (60 - k))))] : List (RF (Or1 b No))).getD i_ (RF.any (Or1 b No))) (fun k_ w_ => match k_ with | 0 => Arr 5 b ((List.replicate k (255 : UInt8) ++ List.replicate (60 - k) 0).map eB) w_ | _ => Arr 5 b ((List.replicate (k + (min k (60 - k))) (255 : UInt8) ++ List.replicate (60 - (k + (min k (60 - k)))) 0).map eB) w_) (fun v25 => ([u1] ++ (zs zf18 1 6 ++ [(sli b 0 60 60), (v25 9)] ++ (zs zf18 9 22 ++ [(sli b 0 60 60), u1, (eN 1), (eN k), (sli b 0 60 60), (eN 60), (Value.bool (decide (k < 60))), (v25 0), (v25 1), (v25 2), (v25 3), (v25 4), (v25 5), (v25 6), (v25 7), (v25 8), (zf18 47)])))) s_mx kr rfl kr (by rfl) (fun v_ => by kernel_rfl) (fun k_ => match k_ with | 0 => fun w_ w2_ h ho => by have r_a20 := h; exact r_a20.step0 ho | (_ + 1) => fun w_ w2_ h ho => by have r_a20 := h; exact r_a20.step0 ho) a20 ?_ ?_ ?_
  ·
   refine ls_cons ?_ ?_
   ·
    intro v25 lo hi w_ k_ hO hd _ _ hk_ _ hR hold
    have eo9 : v25 9 = (eN k) := hold (9, 8) (by decide) kr
    clear hd hold
    refine ⟨_, rfl, gd rfl ?_⟩
    exact Does.is (d_move (v := (eN k)) eo9)
   refine ls_cons ?_ ?_
   ·
    intro v25 lo hi w_ k_ hO hd _ _ hk_ _ hR hold
    obtain rfl : k_ = 0 := Nat.le_zero.1 (hk_ 0 (by decide) kr)
    have r_a20 := hR
    clear hd hold
    refine ⟨_, rfl, gd rfl ?_⟩
    exact Does.is (d_move rfl)
   refine ls_cons ?_ ?_
   ·
    intro v25 lo hi w_ k_ hO hd _ _ hk_ _ hR hold
    obtain rfl : k_ = 0 := Nat.le_zero.1 (hk_ 0 (by decide) kr)
    have r_a20 := hR
    have eo9 : v25 9 = (eN k) := hold (9, 8) (by decide) kr
    clear hd hold
    refine ⟨_, rfl, gd rfl ?_⟩
    exact Does.is (d_move (v := (eN k)) eo9)
   refine ls_cons ?_ ?_
   ·
    intro v25 lo hi w_ k_ hO hd _ _ hk_ _ hR hold
    obtain rfl : k_ = 0 := Nat.le_zero.1 (hk_ 0 (by decide) kr)
    have r_a20 := hR
    have e1 : v25 1 = (sli b 0 60 60) := hd 1 kr
    have e2 : v25 2 = (eN k) := hd 2 kr
    clear hd hold
    refine ⟨_, rfl, gd rfl ?_⟩
    exact Does.is (d_slice (b := b) (o := 0) (n := 60) (c := 60) (l := k) (h := 60) Try.underlying36 s_ti5 e1 (Bd.some (l := k) (k := .i64) e2) Bd.none oo oo (by first | (simp; done) | (rw [if_neg oo]; done) | (rw [if_neg oo]; simp)))
   refine ls_cons ?_ ?_
   ·
    intro v25 lo hi w_ k_ hO hd _ _ hk_ _ hR hold
    obtain rfl : k_ = 0 := Nat.le_zero.1 (hk_ 0 (by decide) kr)
    have r_a20 := hR
    clear hd hold
    refine ⟨_, rfl, gd rfl ?_⟩
    exact Does.is (d_move rfl)
   refine ls_cons ?_ ?_
   ·
    intro v25 lo hi w_ k_ hO hd _ _ hk_ _ hR hold
    obtain rfl : k_ = 0 := Nat.le_zero.1 (hk_ 0 (by decide) kr)
    have r_a20 := hR
    have eo9 : v25 9 = (eN k) := hold (9, 8) (by decide) kr
    clear hd hold
    refine ⟨_, rfl, gd rfl ?_⟩
    exact Does.is (d_move (v := (eN k)) eo9)
   refine ls_cons ?_ ?_
   ·
    intro v25 lo hi w_ k_ hO hd _ _ hk_ _ hR hold
    obtain rfl : k_ = 0 := Nat.le_zero.1 (hk_ 0 (by decide) kr)
    have r_a20 := hR
    have e4 : v25 4 = (sli b 0 60 60) := hd 4 kr
    have e5 : v25 5 = (eN k) := hd 5 kr
    clear hd hold
    refine ⟨_, rfl, gd rfl ?_⟩
    exact Does.is (d_slice (b := b) (o := 0) (n := 60) (c := 60) (l := 0) (h := k) Try.underlying36 s_ti5 e4 Bd.none (Bd.some (l := k) (k := .i64) e5) oo oo (by simp))
   refine ls_cons ?_ ?_
   ·
    intro v25 lo hi w_ k_ hO hd _ _ hk_ _ hR hold
    have e0 : v25 0 = (eN k) := hd 0 kr
    have e7 : v25 7 = (eN (min k (60 - k))) := hd 7 kr
    clear hd hold
    refine ⟨_, rfl, gd rfl ?_⟩
    exact Does.is (n_add (a := k) (b := (min k (60 - k))) e0 e7 oo)
   refine ls_cons ?_ ?_
   ·
    intro v25 lo hi w_ k_ hO hd _ _ hk_ _ hR hold
    have e8 : v25 8 = (eN (k + (min k (60 - k)))) := hd 8 kr
    clear hd hold
    refine ⟨_, rfl, gd rfl ?_⟩
    exact Does.is (d_assign (v := (eN (k + (min k (60 - k))))) e8)
   exact ls_nil
  ·
   refine ms_one ?_
   ·
    refine ⟨by kernel_rfl, ?_⟩
    intro v25 lo hi w_ hO hd _ hR hold
    have r_a20 := hR
    have e3 : v25 3 = (sli b k (60 - k) (60 - k)) := hd 3 kr
    have e6 : v25 6 = (sli b 0 k 60) := hd 6 kr
    clear hd hold
    refine ⟨_, rfl, gd rfl ?_⟩
    refine Does.mono (d_copy (b := b) (o := k) (n := (60 - k)) (c := (60 - k)) (zs := (List.replicate (k + (min k (60 - k))) (255 : UInt8) ++ List.replicate (60 - (k + (min k (60 - k)))) 0)) (j := (min k (60 - k))) rfl Try.underlying36 s_ti5 e3 e6 r_a20 (arr_part r_a20 (rep_take k) (by simp) oo) (fun _ => rfl) (by first | (simp; done) | (simp; omega)) ((by simp)) (rep_copy k oo)) (fun u w' h => ⟨h.1, h.2.1, h.2.2.mono (fun k _ e => by have : k = b := e; rw [this]; exact in1)⟩)
  intro v25 lo_ hi_ w26 o27 hd iv_ hR
  have e0 : v25 0 = (eN k) := hd 0 (by decide)
  have e1 : v25 1 = (sli b 0 60 60) := hd 1 (by decide)
  have e2 : v25 2 = (eN k) := hd 2 (by decide)
  have e3 : v25 3 = (sli b k (60 - k) (60 - k)) := hd 3 (by decide)
  have e4 : v25 4 = (sli b 0 60 60) := hd 4 (by decide)
  have e5 : v25 5 = (eN k) := hd 5 (by decide)
  have e6 : v25 6 = (sli b 0 k 60) := hd 6 (by decide)
  have e7 : v25 7 = (eN (min k (60 - k))) := hd 7 (by decide)
  have e8 : v25 8 = (eN (k + (min k (60 - k)))) := hd 8 (by decide)
  have e9 : v25 9 = (eN (k + (min k (60 - k)))) := hd 9 (by decide)
  clear hd iv_ lo_ hi_
  refine fr_eq (l' := ([u1] ++ (zs zf18 1 6 ++ [(sli b 0 60 60), (eN (k + (min k (60 - k))))] ++ (zs zf18 9 22 ++ [(sli b 0 60 60), u1, (eN 1), (eN k), (sli b 0 60 60), (eN 60), (Value.bool (decide (k < 60))), (eN k), (sli b 0 60 60), (eN k), (sli b k (60 - k) (60 - k)), (sli b 0 60 60), (eN k), (sli b 0 k 60), (eN (min k (60 - k))), (eN (k + (min k (60 - k)))), (zf18 47)])))) (by rw [e0, e1, e2, e3, e4, e5, e6, e7, e8, e9] <;> rfl) ?_
  clear e0 e1 e2 e3 e4 e5 e6 e7 e8 e9
  replace h1 := h1.step o27 (or1_mono no_any)
  replace a20 : Arr 5 b ((List.replicate (k + (min k (60 - k))) (255 : UInt8) ++ List.replicate (60 - (k + (min k (60 - k)))) 0).map eB) w26 := hR
  clear hR
  replace l_b : (List.replicate (k + (min k (60 - k))) (255 : UInt8) ++ List.replicate (60 - (k + (min k (60 - k)))) 0).length = 60 := (by simp; omega)
  replace oW := oW.tail o27 (tl_new g_oW_b tl_no)
  replace o22 := o22.tail o27 (tl_in in1 tl_no)
  refine inb_n (tN ?_)
  refine ⟨_, (k + (min k (60 - k))), rfl, rfl, ⟨?_, ?_, ?_, ?_⟩, ?_⟩
  ·
   (try dsimp only)
   all_goals (omega)
  ·
   exact o22
  ·
   (try dsimp only)
   all_goals (simp; omega)
  ·
   exact a20
  ·
   (try dsimp only)
   all_goals (omega)
 refine wpIn_exit ?_
 refine then_x (then_x (inb_e ?_))
 refine tN ?_
 refine forget (fun zf28 => (zs zf28 0 7 ++ [(sli b 0 60 60), (eN k)] ++ (zs zf28 9 39))) kr (fun zf28 => ?_)
 refine wQ (pL ?_)
 refine wI (d_move rfl) ?_
 refine wI (d_assign rfl) ?_
 refine wD (tN ?_)
 refine wpIn_ret ?_
 refine leave0 (v := (sli b 0 60 60)) (res1 Try.results62 rfl) ?_
 exact ROw.arr a20 l_b (rep_end k oo) g_oW_b oW
theorem blank_ok (W : World) :
    CW Try.prog 39 #[] W (Rt (ROw 5 eB onesW W)) := by
 have oW : Only No W W := Only.refl _ _
 refine enter (al := []) (k := 3) (l := [undef, undef, undef]) Try.func39 rfl Try.ntmps39 rfl rfl ?_
 refine wQ (pL ?_)
 refine wI (d_assign rfl) ?_
 refine wD (tN (wQ (pL ?_)))
 refine wO (d_buildL (cs := [(eB 255)]) Try.underlying36 s_ti5 rfl (nb rfl) (parts_cons (vs := [(eB 255)]) (cells_of (v := (eB 255)) rfl rfl) parts_nil) rfl) ?_
 rintro _ w12 ⟨b11, rfl, g13, a14, o15⟩
 replace a14 : Arr 5 b11 (([255] : List UInt8).map eB) w12 := a14
 have l_b11 : ([255] : List UInt8).length = 1 := rfl
 have g_oW_b11 : W.heap.size ≤ b11 := Nat.le_trans oW.size g13
 replace oW := oW.tail0 o15
 refine wO (d_call (xl := [.tmp 1, .const (.int .i64 60)]) (al := [(sli b11 0 1 1), (eN 60)]) Try.func62 kr rfl rfl rfl (repeat_ok (sli b11 0 1 1) _ (Ps.no (arr_seq a14 l_b11 (Nat.le_refl _))))) ?_
 rintro u18 w16 f19
 obtain ⟨bo20, f19, g21, o17⟩ := f19
 have nq_o_b11 := nq_new g21 a14.lt
 have q_oW_o := qnew g21 oW.size
 replace a14 := a14.step0 o17
 replace oW := oW.tail0 o17
 refine wI (d_assign rfl) ?_
 refine wD (tN ?_)
 refine wpIn_ret ?_
 refine leave0 (v := u18) (res1 Try.results39 rfl) ?_
 exact ROw.mk_ f19 rfl q_oW_o oW
theorem atD_ok (s : NS) (b0 d b p : Nat) (W : World) (ok : s.Ok) (hd : d < s.gD) (hb : b < s.gB) (hp : p < s.gP) :
    CW Try.prog 48 #[(Value.agg #[(eN s.gD), (eN s.gB), (eN s.gP), (sli b0 0 s.n s.n)]), (eN d), (eN b), (eN p)] W (Rt (RIs (ptr b0 (s.ix d b p)) W)) := by
 have oW : Only No W W := Only.refl _ _
 refine enter (al := [(Value.agg #[(eN s.gD), (eN s.gB), (eN s.gP), (sli b0 0 s.n s.n)]), (eN d), (eN b), (eN p)]) (k := 21) (l := ([(Value.agg #[(eN s.gD), (eN s.gB), (eN s.gP), (sli b0 0 s.n s.n)]), (eN d), (eN b), (eN p)] ++ (us 21))) Try.func48 rfl Try.ntmps48 rfl rfl ?_
 have hi_ := NS.ix_lt hd hb hp
 have hn_ := ok.n_le
 unfold NS.ix at hi_
 obtain ⟨ok1, ok2, ok3, _, _, _, _, _⟩ := ok
 have m1_ : d * s.gB ≤ 7 * 12 := Nat.mul_le_mul oo oo
 have m2_ : (d * s.gB + b) * s.gP ≤ (7 * 12 + 11) * 8 := Nat.mul_le_mul oo oo
 refine wQ (pL ?_)
 refine wO (d_box rfl rfl) ?_
 rintro _ w12 ⟨b11, rfl, g13, a14, o15⟩
 have g_oW_b11 : W.heap.size ≤ b11 := Nat.le_trans oW.size g13
 replace oW := oW.tail0 o15
 refine wI (d_assign rfl) ?_
 refine wD (tN (wQ (pL ?_)))
 refine wI (d_fieldAddr (j := 3) Try.underlying65 rfl s_ti63 (by decide) rfl rfl) ?_
 refine wI (d_load (v := (sli b0 0 s.n s.n)) ⟨_, Try.underlying63, rfl⟩ rfl a14 rfl) ?_
 refine wI (d_move rfl) ?_
 refine wI (d_fieldAddr (j := 0) Try.underlying65 rfl s_ti23 (by decide) rfl rfl) ?_
 refine wI (d_fieldAddr (j := 1) Try.underlying23 rfl s_ti3 (by decide) rfl rfl) ?_
 refine wI (d_load (v := (eN s.gB)) ⟨_, Try.underlying3, rfl⟩ rfl a14 rfl) ?_
 refine wI (n_mul (a := d) (b := s.gB) rfl rfl oo) ?_
 refine wF ([(Value.agg #[(eN s.gD), (eN s.gB), (eN s.gP), (sli b0 0 s.n s.n)]), (eN d), (eN b), (eN p), (ptr b11 0), undef, undef, undef, (Value.pointer none), (ptr b11 3), (sli b0 0 s.n s.n), (eN d), (ptr b11 0), (ptr b11 1), (eN s.gB), (eN (d * s.gB))] ++ (us 9)) ?_
 refine wI (d_move rfl) ?_
 refine wI (n_add (a := (d * s.gB)) (b := b) rfl rfl oo) ?_
 refine wI (d_fieldAddr (j := 0) Try.underlying65 rfl s_ti23 (by decide) rfl rfl) ?_
 refine wI (d_fieldAddr (j := 2) Try.underlying23 rfl s_ti3 (by decide) rfl rfl) ?_
 refine wI (d_load (v := (eN s.gP)) ⟨_, Try.underlying3, rfl⟩ rfl a14 rfl) ?_
 refine wI (n_mul (a := (d * s.gB + b)) (b := s.gP) rfl rfl oo) ?_
 refine wI (d_move rfl) ?_
 refine wI (n_add (a := ((d * s.gB + b) * s.gP)) (b := p) rfl rfl oo) ?_
 refine wI (d_index1 (n := s.n) (i := ((d * s.gB + b) * s.gP + p)) Try.underlying63 s_ti36 rfl (show _ = Value.int _ (((d * s.gB + b) * s.gP + p : Nat) : Int) from rfl) oo) ?_
 refine wF [(Value.agg #[(eN s.gD), (eN s.gB), (eN s.gP), (sli b0 0 s.n s.n)]), (eN d), (eN b), (eN p), (ptr b11 0), undef, undef, undef, (Value.pointer none), (ptr b11 3), (sli b0 0 s.n s.n), (eN d), (ptr b11 0), (ptr b11 1), (eN s.gB), (eN (d * s.gB)), (eN b), (eN (d * s.gB + b)), (ptr b11 0), (ptr b11 2), (eN s.gP), (eN ((d * s.gB + b) * s.gP)), (eN p), (eN ((d * s.gB + b) * s.gP + p)), (ptr b0 ((d * s.gB + b) * s.gP + p))] ?_
 refine wI (d_assign rfl) ?_
 refine wD (tN ?_)
 refine forget (fun zf16 => (zs zf16 0 8 ++ [(ptr b0 ((d * s.gB + b) * s.gP + p))] ++ (zs zf16 9 16))) kr (fun zf16 => ?_)
 refine wpIn_ret ?_
 refine leave0 (v := (ptr b0 ((d * s.gB + b) * s.gP + p))) (res1 Try.results48 rfl) ?_
 exact ⟨rfl, oW⟩
theorem atZ_ok (s : NS) (b0 d b p : Nat) (W : World) (ok : s.Ok) (hd : d < s.gD) (hb : b < s.gB) (hp : p < s.gP) :
    CW Try.prog 46 #[(Value.agg #[(eN s.gD), (eN s.gB), (eN s.gP), (sli b0 0 s.n s.n)]), (eN d), (eN b), (eN p)] W (Rt (RIs (ptr b0 (s.ix d b p)) W)) := by
 have oW : Only No W W := Only.refl _ _
 refine enter (al := [(Value.agg #[(eN s.gD), (eN s.gB), (eN s.gP), (sli b0 0 s.n s.n)]), (eN d), (eN b), (eN p)]) (k := 21) (l := ([(Value.agg #[(eN s.gD), (eN s.gB), (eN s.gP), (sli b0 0 s.n s.n)]), (eN d), (eN b), (eN p)] ++ (us 21))) Try.func46 rfl Try.ntmps46 rfl rfl ?_
 have hi_ := NS.ix_lt hd hb hp
 have hn_ := ok.n_le
 unfold NS.ix at hi_
 obtain ⟨ok1, ok2, ok3, _, _, _, _, _⟩ := ok
 have m1_ : d * s.gB ≤ 7 * 12 := Nat.mul_le_mul oo oo
 have m2_ : (d * s.gB + b) * s.gP ≤ (7 * 12 + 11) * 8 := Nat.mul_le_mul oo oo
 refine wQ (pL ?_)
 refine wO (d_box rfl rfl) ?_
 rintro _ w12 ⟨b11, rfl, g13, a14, o15⟩
 have g_oW_b11 : W.heap.size ≤ b11 := Nat.le_trans oW.size g13
 replace oW := oW.tail0 o15
 refine wI (d_assign rfl) ?_
 refine wD (tN (wQ (pL ?_)))
 refine wI (d_fieldAddr (j := 3) Try.underlying69 rfl s_ti67 (by decide) rfl rfl) ?_
 refine wI (d_load (v := (sli b0 0 s.n s.n)) ⟨_, Try.underlying67, rfl⟩ rfl a14 rfl) ?_
 refine wI (d_move rfl) ?_
 refine wI (d_fieldAddr (j := 0) Try.underlying69 rfl s_ti23 (by decide) rfl rfl) ?_
 refine wI (d_fieldAddr (j := 1) Try.underlying23 rfl s_ti3 (by decide) rfl rfl) ?_
 refine wI (d_load (v := (eN s.gB)) ⟨_, Try.underlying3, rfl⟩ rfl a14 rfl) ?_
 refine wI (n_mul (a := d) (b := s.gB) rfl rfl oo) ?_
 refine wF ([(Value.agg #[(eN s.gD), (eN s.gB), (eN s.gP), (sli b0 0 s.n s.n)]), (eN d), (eN b), (eN p), (ptr b11 0), undef, undef, undef, (Value.pointer none), (ptr b11 3), (sli b0 0 s.n s.n), (eN d), (ptr b11 0), (ptr b11 1), (eN s.gB), (eN (d * s.gB))] ++ (us 9)) ?_
 refine wI (d_move rfl) ?_
 refine wI (n_add (a := (d * s.gB)) (b := b) rfl rfl oo) ?_
 refine wI (d_fieldAddr (j := 0) Try.underlying69 rfl s_ti23 (by decide) rfl rfl) ?_
 refine wI (d_fieldAddr (j := 2) Try.underlying23 rfl s_ti3 (by decide) rfl rfl) ?_
 refine wI (d_load (v := (eN s.gP)) ⟨_, Try.underlying3, rfl⟩ rfl a14 rfl) ?_
 refine wI (n_mul (a := (d * s.gB + b)) (b := s.gP) rfl rfl oo) ?_
 refine wI (d_move rfl) ?_
 refine wI (n_add (a := ((d * s.gB + b) * s.gP)) (b := p) rfl rfl oo) ?_
 refine wI (d_index1 (n := s.n) (i := ((d * s.gB + b) * s.gP + p)) Try.underlying67 s_ti37 rfl (show _ = Value.int _ (((d * s.gB + b) * s.gP + p : Nat) : Int) from rfl) oo) ?_
 refine wF [(Value.agg #[(eN s.gD), (eN s.gB), (eN s.gP), (sli b0 0 s.n s.n)]), (eN d), (eN b), (eN p), (ptr b11 0), undef, undef, undef, (Value.pointer none), (ptr b11 3), (sli b0 0 s.n s.n), (eN d), (ptr b11 0), (ptr b11 1), (eN s.gB), (eN (d * s.gB)), (eN b), (eN (d * s.gB + b)), (ptr b11 0), (ptr b11 2), (eN s.gP), (eN ((d * s.gB + b) * s.gP)), (eN p), (eN ((d * s.gB + b) * s.gP + p)), (ptr b0 ((d * s.gB + b) * s.gP + p))] ?_
 refine wI (d_assign rfl) ?_
 refine wD (tN ?_)
 refine forget (fun zf16 => (zs zf16 0 8 ++ [(ptr b0 ((d * s.gB + b) * s.gP + p))] ++ (zs zf16 9 16))) kr (fun zf16 => ?_)
 refine wpIn_ret ?_
 refine leave0 (v := (ptr b0 ((d * s.gB + b) * s.gP + p))) (res1 Try.results46 rfl) ?_
 exact ⟨rfl, oW⟩
theorem there_ok (L : NL) (s : NS) {X : Nat → Prop} (W : World) (hN : Nd L s X W) {r : Bool} (d : Int) (b : Int) (hr : s.there d b = r) :
    CW Try.prog 40 #[(ptr L.bN 0), (eI d), (eI b)] W (Rt (RIs (.bool r) W)) := by
 have oW : Only No W W := Only.refl _ _
 refine enter (al := [(ptr L.bN 0), (eI d), (eI b)]) (k := 28) (l := ([(ptr L.bN 0), (eI d), (eI b)] ++ (us 28))) Try.func40 rfl Try.ntmps40 rfl rfl ?_
 refine wQ (pL ?_)
 refine wI (d_assign rfl) ?_
 refine wD (tN (wQ ?_))
 by_cases k0 : 0 ≤ d
 ·
  by_cases k1 : d < (s.gD : Int)
  ·
   by_cases k2 : 0 ≤ b
   ·
    by_cases k3 : b < (s.gB : Int)
    ·
     refine pL ?_
     refine wI (d_move rfl) ?_
     refine wI (d_geq (k := .i64) (m := d) (n := 0) rfl rfl (decide_eq_true k0)) ?_
     refine wI (d_move rfl) ?_
     refine wG (d_move rfl) ?_
     refine wG (d_move rfl) ?_
     refine wG (d_nilCheck (b := L.bN) (o := 0) rfl) ?_
     refine wF ([(ptr L.bN 0), (eI d), (eI b), undef, undef, undef, vF, (eI d), vT, vT, (eI d), (ptr L.bN 0), (ptr L.bN 0)] ++ (us 18)) ?_
     refine wG (d_fieldAddr (j := 0) Try.underlying73 rfl s_ti23 (by decide) rfl rfl) ?_
     refine wG (d_fieldAddr (j := 0) Try.underlying23 rfl s_ti3 (by decide) rfl rfl) ?_
     refine wG (nd_ld (v := (eN s.gD)) hN ⟨_, Try.underlying3, rfl⟩ rfl (fun _ => rfl)) ?_
     refine wG (d_lss (k := .i64) (m := d) (n := (s.gD : Int)) rfl rfl (decide_eq_true k1)) ?_
     refine wI (d_pick (b := true) (v := vT) rfl rfl) ?_
     refine wI (d_move rfl) ?_
     refine wG (d_move rfl) ?_
     refine wF ([(ptr L.bN 0), (eI d), (eI b), undef, undef, undef, vF, (eI d), vT, vT, (eI d), (ptr L.bN 0), (ptr L.bN 0), (ptr L.bN 0), (ptr L.bN 0), (eN s.gD), vT, vT, vT, (eI b)] ++ (us 11)) ?_
     refine wG (d_geq (k := .i64) (m := b) (n := 0) rfl rfl (decide_eq_true k2)) ?_
     refine wI (d_pick (b := true) (v := vT) rfl rfl) ?_
     refine wI (d_move rfl) ?_
     refine wG (d_move rfl) ?_
     refine wG (d_move rfl) ?_
     refine wG (d_nilCheck (b := L.bN) (o := 0) rfl) ?_
     refine wG (d_fieldAddr (j := 0) Try.underlying73 rfl s_ti23 (by decide) rfl rfl) ?_
     refine wF [(ptr L.bN 0), (eI d), (eI b), undef, undef, undef, vF, (eI d), vT, vT, (eI d), (ptr L.bN 0), (ptr L.bN 0), (ptr L.bN 0), (ptr L.bN 0), (eN s.gD), vT, vT, vT, (eI b), vT, vT, vT, (eI b), (ptr L.bN 0), (ptr L.bN 0), (ptr L.bN 0), undef, undef, undef, undef] ?_
     refine wG (d_fieldAddr (j := 1) Try.underlying23 rfl s_ti3 (by decide) rfl rfl) ?_
     refine wG (nd_ld (v := (eN s.gB)) hN ⟨_, Try.underlying3, rfl⟩ rfl (fun _ => rfl)) ?_
     refine wG (d_lss (k := .i64) (m := b) (n := (s.gB : Int)) rfl rfl (decide_eq_true k3)) ?_
     refine wI (d_pick (b := true) (v := vT) rfl rfl) ?_
     refine wI (d_assign rfl) ?_
     refine wD (tN ?_)
     refine wpIn_ret ?_
     refine leave0 (v := vT) (res1 Try.results40 rfl) ?_
     exact ⟨congrArg Value.bool (by rw [← hr]; simp [NS.there, *]; try omega), oW⟩
    refine pL ?_
    refine wI (d_move rfl) ?_
    refine wI (d_geq (k := .i64) (m := d) (n := 0) rfl rfl (decide_eq_true k0)) ?_
    refine wI (d_move rfl) ?_
    refine wG (d_move rfl) ?_
    refine wG (d_move rfl) ?_
    refine wG (d_nilCheck (b := L.bN) (o := 0) rfl) ?_
    refine wF ([(ptr L.bN 0), (eI d), (eI b), undef, undef, undef, vF, (eI d), vT, vT, (eI d), (ptr L.bN 0), (ptr L.bN 0)] ++ (us 18)) ?_
    refine wG (d_fieldAddr (j := 0) Try.underlying73 rfl s_ti23 (by decide) rfl rfl) ?_
    refine wG (d_fieldAddr (j := 0) Try.underlying23 rfl s_ti3 (by decide) rfl rfl) ?_
    refine wG (nd_ld (v := (eN s.gD)) hN ⟨_, Try.underlying3, rfl⟩ rfl (fun _ => rfl)) ?_
    refine wG (d_lss (k := .i64) (m := d) (n := (s.gD : Int)) rfl rfl (decide_eq_true k1)) ?_
    refine wI (d_pick (b := true) (v := vT) rfl rfl) ?_
    refine wI (d_move rfl) ?_
    refine wG (d_move rfl) ?_
    refine wF ([(ptr L.bN 0), (eI d), (eI b), undef, undef, undef, vF, (eI d), vT, vT, (eI d), (ptr L.bN 0), (ptr L.bN 0), (ptr L.bN 0), (ptr L.bN 0), (eN s.gD), vT, vT, vT, (eI b)] ++ (us 11)) ?_
    refine wG (d_geq (k := .i64) (m := b) (n := 0) rfl rfl (decide_eq_true k2)) ?_
    refine wI (d_pick (b := true) (v := vT) rfl rfl) ?_
    refine wI (d_move rfl) ?_
    refine wG (d_move rfl) ?_
    refine wG (d_move rfl) ?_
    refine wG (d_nilCheck (b := L.bN) (o := 0) rfl) ?_
    refine wG (d_fieldAddr (j := 0) Try.underlying73 rfl s_ti23 (by decide) rfl rfl) ?_
    refine wF [(ptr L.bN 0), (eI d), (eI b), undef, undef, undef, vF, (eI d), vT, vT, (eI d), (ptr L.bN 0), (ptr L.bN 0), (ptr L.bN 0), (ptr L.bN 0), (eN s.gD), vT, vT, vT, (eI b), vT, vT, vT, (eI b), (ptr L.bN 0), (ptr L.bN 0), (ptr L.bN 0), undef, undef, undef, undef] ?_
    refine wG (d_fieldAddr (j := 1) Try.underlying23 rfl s_ti3 (by decide) rfl rfl) ?_
    refine wG (nd_ld (v := (eN s.gB)) hN ⟨_, Try.underlying3, rfl⟩ rfl (fun _ => rfl)) ?_
    refine wG (d_lss (k := .i64) (m := b) (n := (s.gB : Int)) rfl rfl (decide_eq_false k3)) ?_
    refine wI (d_pick (b := true) (v := vF) rfl rfl) ?_
    refine wI (d_assign rfl) ?_
    refine wD (tN ?_)
    refine wpIn_ret ?_
    refine leave0 (v := vF) (res1 Try.results40 rfl) ?_
    exact ⟨congrArg Value.bool (by rw [← hr]; simp [NS.there, *]; try omega), oW⟩
   refine pL ?_
   refine wI (d_move rfl) ?_
   refine wI (d_geq (k := .i64) (m := d) (n := 0) rfl rfl (decide_eq_true k0)) ?_
   refine wI (d_move rfl) ?_
   refine wG (d_move rfl) ?_
   refine wG (d_move rfl) ?_
   refine wG (d_nilCheck (b := L.bN) (o := 0) rfl) ?_
   refine wF ([(ptr L.bN 0), (eI d), (eI b), undef, undef, undef, vF, (eI d), vT, vT, (eI d), (ptr L.bN 0), (ptr L.bN 0)] ++ (us 18)) ?_
   refine wG (d_fieldAddr (j := 0) Try.underlying73 rfl s_ti23 (by decide) rfl rfl) ?_
   refine wG (d_fieldAddr (j := 0) Try.underlying23 rfl s_ti3 (by decide) rfl rfl) ?_
   refine wG (nd_ld (v := (eN s.gD)) hN ⟨_, Try.underlying3, rfl⟩ rfl (fun _ => rfl)) ?_
   refine wG (d_lss (k := .i64) (m := d) (n := (s.gD : Int)) rfl rfl (decide_eq_true k1)) ?_
   refine wI (d_pick (b := true) (v := vT) rfl rfl) ?_
   refine wI (d_move rfl) ?_
   refine wG (d_move rfl) ?_
   refine wF ([(ptr L.bN 0), (eI d), (eI b), undef, undef, undef, vF, (eI d), vT, vT, (eI d), (ptr L.bN 0), (ptr L.bN 0), (ptr L.bN 0), (ptr L.bN 0), (eN s.gD), vT, vT, vT, (eI b)] ++ (us 11)) ?_
   refine wG (d_geq (k := .i64) (m := b) (n := 0) rfl rfl (decide_eq_false k2)) ?_
   refine wI (d_pick (b := true) (v := vF) rfl rfl) ?_
   refine wI (d_move rfl) ?_
   refine wX ?_
   refine wX ?_
   refine wX ?_
   refine wX ?_
   refine wF ([(ptr L.bN 0), (eI d), (eI b), undef, undef, undef, vF, (eI d), vT, vT, (eI d), (ptr L.bN 0), (ptr L.bN 0), (ptr L.bN 0), (ptr L.bN 0), (eN s.gD), vT, vT, vT, (eI b), vF, vF, vF] ++ (us 8)) ?_
   refine wX ?_
   refine wX ?_
   refine wX ?_
   refine wI (d_pick (b := false) (v := vF) rfl rfl) ?_
   refine wI (d_assign rfl) ?_
   refine wD (tN ?_)
   refine wpIn_ret ?_
   refine leave0 (v := vF) (res1 Try.results40 rfl) ?_
   exact ⟨congrArg Value.bool (by rw [← hr]; simp [NS.there, *]; try omega), oW⟩
  refine pL ?_
  refine wI (d_move rfl) ?_
  refine wI (d_geq (k := .i64) (m := d) (n := 0) rfl rfl (decide_eq_true k0)) ?_
  refine wI (d_move rfl) ?_
  refine wG (d_move rfl) ?_
  refine wG (d_move rfl) ?_
  refine wG (d_nilCheck (b := L.bN) (o := 0) rfl) ?_
  refine wF ([(ptr L.bN 0), (eI d), (eI b), undef, undef, undef, vF, (eI d), vT, vT, (eI d), (ptr L.bN 0), (ptr L.bN 0)] ++ (us 18)) ?_
  refine wG (d_fieldAddr (j := 0) Try.underlying73 rfl s_ti23 (by decide) rfl rfl) ?_
  refine wG (d_fieldAddr (j := 0) Try.underlying23 rfl s_ti3 (by decide) rfl rfl) ?_
  refine wG (nd_ld (v := (eN s.gD)) hN ⟨_, Try.underlying3, rfl⟩ rfl (fun _ => rfl)) ?_
  refine wG (d_lss (k := .i64) (m := d) (n := (s.gD : Int)) rfl rfl (decide_eq_false k1)) ?_
  refine wI (d_pick (b := true) (v := vF) rfl rfl) ?_
  refine wI (d_move rfl) ?_
  refine wX ?_
  refine wF ([(ptr L.bN 0), (eI d), (eI b), undef, undef, undef, vF, (eI d), vT, vT, (eI d), (ptr L.bN 0), (ptr L.bN 0), (ptr L.bN 0), (ptr L.bN 0), (eN s.gD), vF, vF, vF] ++ (us 12)) ?_
  refine wX ?_
  refine wI (d_pick (b := false) (v := vF) rfl rfl) ?_
  refine wI (d_move rfl) ?_
  refine wX ?_
  refine wX ?_
  refine wX ?_
  refine wX ?_
  refine wF ([(ptr L.bN 0), (eI d), (eI b), undef, undef, undef, vF, (eI d), vT, vT, (eI d), (ptr L.bN 0), (ptr L.bN 0), (ptr L.bN 0), (ptr L.bN 0), (eN s.gD), vF, vF, vF, undef, undef, vF, vF] ++ (us 8)) ?_
  refine wX ?_
  refine wX ?_
  refine wX ?_
  refine wI (d_pick (b := false) (v := vF) rfl rfl) ?_
  refine wI (d_assign rfl) ?_
  refine wD (tN ?_)
  refine wpIn_ret ?_
  refine leave0 (v := vF) (res1 Try.results40 rfl) ?_
  exact ⟨congrArg Value.bool (by rw [← hr]; simp [NS.there, *]; try omega), oW⟩
 refine pL ?_
 refine wI (d_move rfl) ?_
 refine wI (d_geq (k := .i64) (m := d) (n := 0) rfl rfl (decide_eq_false k0)) ?_
 refine wI (d_move rfl) ?_
 refine wX ?_
 refine wX ?_
 refine wX ?_
 refine wF ([(ptr L.bN 0), (eI d), (eI b), undef, undef, undef, vF, (eI d), vF, vF] ++ (us 21)) ?_
 refine wX ?_
 refine wX ?_
 refine wX ?_
 refine wX ?_
 refine wI (d_pick (b := false) (v := vF) rfl rfl) ?_
 refine wI (d_move rfl) ?_
 refine wX ?_
 refine wF ([(ptr L.bN 0), (eI d), (eI b), undef, undef, undef, vF, (eI d), vF, vF] ++ (us 7 ++ [vF, vF] ++ (us 12))) ?_
 refine wX ?_
 refine wI (d_pick (b := false) (v := vF) rfl rfl) ?_
 refine wI (d_move rfl) ?_
 refine wX ?_
 refine wX ?_
 refine wX ?_
 refine wX ?_
 refine wF ([(ptr L.bN 0), (eI d), (eI b), undef, undef, undef, vF, (eI d), vF, vF] ++ (us 7 ++ [vF, vF, undef, undef, vF, vF] ++ (us 8))) ?_
 refine wX ?_
 refine wX ?_
 refine wX ?_
 refine wI (d_pick (b := false) (v := vF) rfl rfl) ?_
 refine wI (d_assign rfl) ?_
 refine wD (tN ?_)
 refine wpIn_ret ?_
 refine leave0 (v := vF) (res1 Try.results40 rfl) ?_
 exact ⟨congrArg Value.bool (by rw [← hr]; simp [NS.there, *]; try omega), oW⟩
theorem pageq_ok (L : NL) (s : NS) {X : Nat → Prop} (W : World) (hN : Nd L s X W) {r : Bool} (d : Int) (b : Int) (p : Int) (hr : s.pageIn d b p = r) :
    CW Try.prog 44 #[(ptr L.bN 0), (eI d), (eI b), (eI p)] W (Rt (RIs (.bool r) W)) := by
 have oW : Only No W W := Only.refl _ _
 refine enter (al := [(ptr L.bN 0), (eI d), (eI b), (eI p)]) (k := 22) (l := ([(ptr L.bN 0), (eI d), (eI b), (eI p)] ++ (us 22))) Try.func44 rfl Try.ntmps44 rfl rfl ?_
 refine wQ (pL ?_)
 refine wI (d_assign rfl) ?_
 refine wD (tN (wQ ?_))
 by_cases k0 : (s.there d b) = true
 ·
  by_cases k1 : 0 ≤ p
  ·
   by_cases k2 : p < (s.gP : Int)
   ·
    refine pL ?_
    refine wI (d_move rfl) ?_
    refine wI (d_move rfl) ?_
    refine wI (d_move rfl) ?_
    refine wO (d_call (xl := [.tmp 9, .tmp 10, .tmp 11]) (al := [(ptr L.bN 0), (eI d), (eI b)]) Try.func40 kr rfl rfl rfl (there_ok L s _ hN (r := true) d b k0)) ?_
    rintro _ w11 ⟨rfl, o12⟩
    replace hN := hN.step0 o12
    replace oW := oW.tail0 o12
    refine wI (d_move rfl) ?_
    refine wG (d_move rfl) ?_
    refine wF ([(ptr L.bN 0), (eI d), (eI b), (eI p), undef, undef, undef, undef, vF, (ptr L.bN 0), (eI d), (eI b), vT, vT, (eI p)] ++ (us 11)) ?_
    refine wG (d_geq (k := .i64) (m := p) (n := 0) rfl rfl (decide_eq_true k1)) ?_
    refine wI (d_pick (b := true) (v := vT) rfl rfl) ?_
    refine wI (d_move rfl) ?_
    refine wG (d_move rfl) ?_
    refine wG (d_move rfl) ?_
    refine wG (d_nilCheck (b := L.bN) (o := 0) rfl) ?_
    refine wG (d_fieldAddr (j := 0) Try.underlying73 rfl s_ti23 (by decide) rfl rfl) ?_
    refine wF [(ptr L.bN 0), (eI d), (eI b), (eI p), undef, undef, undef, undef, vF, (ptr L.bN 0), (eI d), (eI b), vT, vT, (eI p), vT, vT, vT, (eI p), (ptr L.bN 0), (ptr L.bN 0), (ptr L.bN 0), undef, undef, undef, undef] ?_
    refine wG (d_fieldAddr (j := 2) Try.underlying23 rfl s_ti3 (by decide) rfl rfl) ?_
    refine wG (nd_ld (v := (eN s.gP)) hN ⟨_, Try.underlying3, rfl⟩ rfl (fun _ => rfl)) ?_
    refine wG (d_lss (k := .i64) (m := p) (n := (s.gP : Int)) rfl rfl (decide_eq_true k2)) ?_
    refine wI (d_pick (b := true) (v := vT) rfl rfl) ?_
    refine wI (d_assign rfl) ?_
    refine wD (tN ?_)
    refine wpIn_ret ?_
    refine leave0 (v := vT) (res1 Try.results44 rfl) ?_
    exact ⟨congrArg Value.bool (by rw [← hr]; simp [NS.pageIn, *]; try omega), oW⟩
   refine pL ?_
   refine wI (d_move rfl) ?_
   refine wI (d_move rfl) ?_
   refine wI (d_move rfl) ?_
   refine wO (d_call (xl := [.tmp 9, .tmp 10, .tmp 11]) (al := [(ptr L.bN 0), (eI d), (eI b)]) Try.func40 kr rfl rfl rfl (there_ok L s _ hN (r := true) d b k0)) ?_
   rintro _ w13 ⟨rfl, o14⟩
   replace hN := hN.step0 o14
   replace oW := oW.tail0 o14
   refine wI (d_move rfl) ?_
   refine wG (d_move rfl) ?_
   refine wF ([(ptr L.bN 0), (eI d), (eI b), (eI p), undef, undef, undef, undef, vF, (ptr L.bN 0), (eI d), (eI b), vT, vT, (eI p)] ++ (us 11)) ?_
   refine wG (d_geq (k := .i64) (m := p) (n := 0) rfl rfl (decide_eq_true k1)) ?_
   refine wI (d_pick (b := true) (v := vT) rfl rfl) ?_
   refine wI (d_move rfl) ?_
   refine wG (d_move rfl) ?_
   refine wG (d_move rfl) ?_
   refine wG (d_nilCheck (b := L.bN) (o := 0) rfl) ?_
   refine wG (d_fieldAddr (j := 0) Try.underlying73 rfl s_ti23 (by decide) rfl rfl) ?_
   refine wF [(ptr L.bN 0), (eI d), (eI b), (eI p), undef, undef, undef, undef, vF, (ptr L.bN 0), (eI d), (eI b), vT, vT, (eI p), vT, vT, vT, (eI p), (ptr L.bN 0), (ptr L.bN 0), (ptr L.bN 0), undef, undef, undef, undef] ?_
   refine wG (d_fieldAddr (j := 2) Try.underlying23 rfl s_ti3 (by decide) rfl rfl) ?_
   refine wG (nd_ld (v := (eN s.gP)) hN ⟨_, Try.underlying3, rfl⟩ rfl (fun _ => rfl)) ?_
   refine wG (d_lss (k := .i64) (m := p) (n := (s.gP : Int)) rfl rfl (decide_eq_false k2)) ?_
   refine wI (d_pick (b := true) (v := vF) rfl rfl) ?_
   refine wI (d_assign rfl) ?_
   refine wD (tN ?_)
   refine wpIn_ret ?_
   refine leave0 (v := vF) (res1 Try.results44 rfl) ?_
   exact ⟨congrArg Value.bool (by rw [← hr]; simp [NS.pageIn, *]; try omega), oW⟩
  refine pL ?_
  refine wI (d_move rfl) ?_
  refine wI (d_move rfl) ?_
  refine wI (d_move rfl) ?_
  refine wO (d_call (xl := [.tmp 9, .tmp 10, .tmp 11]) (al := [(ptr L.bN 0), (eI d), (eI b)]) Try.func40 kr rfl rfl rfl (there_ok L s _ hN (r := true) d b k0)) ?_
  rintro _ w15 ⟨rfl, o16⟩
  replace hN := hN.step0 o16
  replace oW := oW.tail0 o16
  refine wI (d_move rfl) ?_
  refine wG (d_move rfl) ?_
  refine wF ([(ptr L.bN 0), (eI d), (eI b), (eI p), undef, undef, undef, undef, vF, (ptr L.bN 0), (eI d), (eI b), vT, vT, (eI p)] ++ (us 11)) ?_
  refine wG (d_geq (k := .i64) (m := p) (n := 0) rfl rfl (decide_eq_false k1)) ?_
  refine wI (d_pick (b := true) (v := vF) rfl rfl) ?_
  refine wI (d_move rfl) ?_
  refine wX ?_
  refine wX ?_
  refine wX ?_
  refine wX ?_
  refine wF ([(ptr L.bN 0), (eI d), (eI b), (eI p), undef, undef, undef, undef, vF, (ptr L.bN 0), (eI d), (eI b), vT, vT, (eI p), vF, vF, vF] ++ (us 8)) ?_
  refine wX ?_
  refine wX ?_
  refine wX ?_
  refine wI (d_pick (b := false) (v := vF) rfl rfl) ?_
  refine wI (d_assign rfl) ?_
  refine wD (tN ?_)
  refine wpIn_ret ?_
  refine leave0 (v := vF) (res1 Try.results44 rfl) ?_
  exact ⟨congrArg Value.bool (by rw [← hr]; simp [NS.pageIn, *]; try omega), oW⟩
 refine pL ?_
 refine wI (d_move rfl) ?_
 refine wI (d_move rfl) ?_
 refine wI (d_move rfl) ?_
 refine wO (d_call (xl := [.tmp 9, .tmp 10, .tmp 11]) (al := [(ptr L.bN 0), (eI d), (eI b)]) Try.func40 kr rfl rfl rfl (there_ok L s _ hN (r := false) d b (Bool.eq_false_iff.2 k0))) ?_
 rintro _ w17 ⟨rfl, o18⟩
 replace hN := hN.step0 o18
 replace oW := oW.tail0 o18
 refine wI (d_move rfl) ?_
 refine wX ?_
 refine wF ([(ptr L.bN 0), (eI d), (eI b), (eI p), undef, undef, undef, undef, vF, (ptr L.bN 0), (eI d), (eI b), vF, vF] ++ (us 12)) ?_
 refine wX ?_
 refine wI (d_pick (b := false) (v := vF) rfl rfl) ?_
 refine wI (d_move rfl) ?_
 refine wX ?_
 refine wX ?_
 refine wX ?_
 refine wX ?_
 refine wF ([(ptr L.bN 0), (eI d), (eI b), (eI p), undef, undef, undef, undef, vF, (ptr L.bN 0), (eI d), (eI b), vF, vF, undef, undef, vF, vF] ++ (us 8)) ?_
 refine wX ?_
 refine wX ?_
 refine wX ?_
 refine wI (d_pick (b := false) (v := vF) rfl rfl) ?_
 refine wI (d_assign rfl) ?_
 refine wD (tN ?_)
 refine wpIn_ret ?_
 refine leave0 (v := vF) (res1 Try.results44 rfl) ?_
 exact ⟨congrArg Value.bool (by rw [← hr]; simp [NS.pageIn, *]; try omega), oW⟩
theorem isBad_ok (L : NL) (s : NS) {X : Nat → Prop} (W : World) (hN : Nd L s X W) {r : Bool} (d : Int) (b : Int) (hr : s.isBad d b = r) :
    CW Try.prog 27 #[(ptr L.bN 0), (eI d), (eI b)] W (Rt (RIs (.bool r) W)) := by
 have oW : Only No W W := Only.refl _ _
 refine enter (al := [(ptr L.bN 0), (eI d), (eI b)]) (k := 21) (l := ([(ptr L.bN 0), (eI d), (eI b)] ++ (us 21))) Try.func27 rfl Try.ntmps27 rfl rfl ?_
 refine wQ (pL ?_)
 refine wI (d_assign rfl) ?_
 refine wD (tN (wQ ?_))
 by_cases k0 : (s.there d b) = true
 ·
  obtain ⟨hd0, hd1, hb0, hb1⟩ := NS.there_of k0
  obtain ⟨dn, rfl⟩ := Int.eq_ofNat_of_zero_le hd0
  replace hd1 : dn < s.gD := Int.ofNat_lt.1 hd1
  refine wp_eq (l' := ([(ptr L.bN 0), (eN dn), (eI b), undef, undef, undef, vF] ++ (us 17))) rfl ?_
  obtain ⟨bn, rfl⟩ := Int.eq_ofNat_of_zero_le hb0
  replace hb1 : bn < s.gB := Int.ofNat_lt.1 hb1
  refine wp_eq (l' := ([(ptr L.bN 0), (eN dn), (eN bn), undef, undef, undef, vF] ++ (us 17))) rfl ?_
  refine pL ?_
  refine wI (d_move rfl) ?_
  refine wI (d_move rfl) ?_
  refine wI (d_move rfl) ?_
  refine wO (d_call (xl := [.tmp 7, .tmp 8, .tmp 9]) (al := [(ptr L.bN 0), (eN dn), (eN bn)]) Try.func40 kr rfl rfl rfl (there_ok L s _ hN (r := true) (dn : Int) (bn : Int) k0)) ?_
  rintro _ w11 ⟨rfl, o12⟩
  replace hN := hN.step0 o12
  replace oW := oW.tail0 o12
  refine wI (d_move rfl) ?_
  refine wG (d_move rfl) ?_
  refine wG (d_nilCheck (b := L.bN) (o := 0) rfl) ?_
  refine wF ([(ptr L.bN 0), (eN dn), (eN bn), undef, undef, undef, vF, (ptr L.bN 0), (eN dn), (eN bn), vT, vT, (ptr L.bN 0), (ptr L.bN 0)] ++ (us 10)) ?_
  refine wG (d_fieldAddr (j := 11) Try.underlying73 rfl s_ti71 (by decide) rfl rfl) ?_
  refine wG (nd_ld (v := L.ub) hN ⟨_, Try.underlying71, rfl⟩ rfl (fun _ => rfl)) ?_
  refine wG (d_move rfl) ?_
  refine wG (nd_ixU (i := dn) hN Try.underlying71 s_ti75 rfl (show _ = Value.int _ (dn : Int) from rfl) hd1) ?_
  refine wG (nd_ldU (i := dn) hN ⟨_, Try.underlying75, rfl⟩ rfl hd1) ?_
  refine wG (d_move rfl) ?_
  refine wG (d_index (b := (L.bk.getD dn 0)) (o := 0) (n := s.gB) (c := s.gB) (j := (bn * 3)) Try.underlying75 s_ti77 rfl (show _ = Value.int _ (bn : Int) from rfl) oo oo (by simp)) ?_
  refine wF [(ptr L.bN 0), (eN dn), (eN bn), undef, undef, undef, vF, (ptr L.bN 0), (eN dn), (eN bn), vT, vT, (ptr L.bN 0), (ptr L.bN 0), (ptr L.bN 11), L.ub, (eN dn), (ixp L.ub dn), (sli (L.bk.getD dn 0) 0 s.gB s.gB), (eN bn), (ptr (L.bk.getD dn 0) (bn * 3)), undef, undef, undef] ?_
  refine wG (d_fieldAddr (j := bn * 3 + 2) Try.underlying77 rfl s_ti4 (by decide) rfl rfl) ?_
  refine wG (nd_ldS (i := dn) (j := bn) (f := 2) hN ⟨_, Try.underlying4, rfl⟩ rfl hd1 hb1 (by decide) rfl) ?_
  refine wI (d_pick (b := true) (v := (Value.bool ((s.bl dn bn).bad))) rfl rfl) ?_
  refine wI (d_assign rfl) ?_
  refine wD (tN ?_)
  refine wpIn_ret ?_
  refine leave0 (v := (Value.bool ((s.bl dn bn).bad))) (res1 Try.results27 rfl) ?_
  exact ⟨congrArg Value.bool (by rw [← hr]; simp [NS.isBad, *]), oW⟩
 refine pL ?_
 refine wI (d_move rfl) ?_
 refine wI (d_move rfl) ?_
 refine wI (d_move rfl) ?_
 refine wO (d_call (xl := [.tmp 7, .tmp 8, .tmp 9]) (al := [(ptr L.bN 0), (eI d), (eI b)]) Try.func40 kr rfl rfl rfl (there_ok L s _ hN (r := false) d b (Bool.eq_false_iff.2 k0))) ?_
 rintro _ w13 ⟨rfl, o14⟩
 replace hN := hN.step0 o14
 replace oW := oW.tail0 o14
 refine wI (d_move rfl) ?_
 refine wX ?_
 refine wF ([(ptr L.bN 0), (eI d), (eI b), undef, undef, undef, vF, (ptr L.bN 0), (eI d), (eI b), vF, vF] ++ (us 12)) ?_
 refine wX ?_
 refine wX ?_
 refine wX ?_
 refine wX ?_
 refine wX ?_
 refine wX ?_
 refine wX ?_
 refine wF ([(ptr L.bN 0), (eI d), (eI b), undef, undef, undef, vF, (ptr L.bN 0), (eI d), (eI b), vF, vF] ++ (us 12)) ?_
 refine wX ?_
 refine wX ?_
 refine wX ?_
 refine wI (d_pick (b := false) (v := vF) rfl rfl) ?_
 refine wI (d_assign rfl) ?_
 refine wD (tN ?_)
 refine wpIn_ret ?_
 refine leave0 (v := vF) (res1 Try.results27 rfl) ?_
 exact ⟨congrArg Value.bool (by rw [← hr]; simp [NS.isBad, *]), oW⟩
theorem ask_ok (L : NL) (s : NS) {X : Nat → Prop} (W : World) (hN : Nd L s X W) {g : Bool} (fine : Bool) (hg : g = fine) :
    CW Try.prog 47 #[(ptr L.bN 0), (Value.bool fine)] W (Rt (fun u w => u = eN (s.askR g) ∧ Nd L (s.ask g) X w ∧ Only L.S W w)) := by
 have oW : Only L.S W W := Only.refl _ _
 refine enter (al := [(ptr L.bN 0), (Value.bool fine)]) (k := 25) (l := ([(ptr L.bN 0), (Value.bool fine)] ++ (us 25))) Try.func47 rfl Try.ntmps47 rfl rfl ?_
 refine wQ (pL ?_)
 refine wI (d_assign rfl) ?_
 refine wD (tN (wQ (wB (wQ (pL ?_)))))
 refine wI (d_move rfl) ?_
 refine wI (d_nilCheck (b := L.bN) (o := 0) rfl) ?_
 refine wI (d_fieldAddr (j := 14) Try.underlying73 rfl s_ti4 (by decide) rfl rfl) ?_
 refine wI (nd_ld (v := (Value.bool s.dead)) hN ⟨_, Try.underlying4, rfl⟩ rfl (fun _ => rfl)) ?_
 refine wI (d_assign rfl) ?_
 refine wD (tN ?_)
 refine cond_b rfl (fun c0 => ?_) (fun c0 => ?_)
 ·
  refine wQ (pL ?_)
  refine wI (d_assign rfl) ?_
  refine wD (tN ?_)
  refine wpIn_ret ?_
  refine inb_r (then_r ?_)
  refine leave0 (v := (eN 8)) (res1 Try.results47 rfl) ?_
  subst hg
  exact ⟨congrArg eN (by simp [NS.askR, c0]), by rw [NS.ask_dead c0]; exact hN, oW⟩
 refine wQ (pL ?_)
 refine wI (d_move rfl) ?_
 refine wI (d_not rfl rfl) ?_
 refine wI (d_assign rfl) ?_
 refine wF ([(ptr L.bN 0), (Value.bool fine), undef, undef, (eN 0), (Value.bool s.dead), (ptr L.bN 0), (ptr L.bN 0), (ptr L.bN 14), (Value.bool s.dead), (Value.bool (!fine)), (Value.bool fine), (Value.bool (!fine))] ++ (us 14)) ?_
 refine wD (tN ?_)
 refine forget (fun zf11 => ([(ptr L.bN 0)] ++ (zs zf11 1 9 ++ [(Value.bool (!fine))] ++ (zs zf11 11 16)))) kr (fun zf11 => ?_)
 refine cond_b rfl (fun c1 => ?_) (fun c1 => ?_)
 ·
  refine wQ (pL ?_)
  refine wI (d_move rfl) ?_
  refine wI (d_nilCheck (b := L.bN) (o := 0) rfl) ?_
  refine wI (d_fieldAddr (j := 16) Try.underlying73 rfl s_ti3 (by decide) rfl rfl) ?_
  refine wI (nd_ld (v := (eI s.wrong)) hN ⟨_, Try.underlying3, rfl⟩ rfl (fun _ => rfl)) ?_
  refine wI (d_add (k := .i64) (m := s.wrong) (n := 1) rfl rfl rfl) ?_
  refine wI (d_nilCheck (b := L.bN) (o := 0) rfl) ?_
  refine wI (d_fieldAddr (j := 16) Try.underlying73 rfl s_ti3 (by decide) rfl rfl) ?_
  refine wO (nd_st (s' := { s with wrong := IntKind.i64.wrap (s.wrong + 1) }) (i := 16) (v := (eI (IntKind.i64.wrap (s.wrong + 1)))) hN s_ti3 rfl rfl rfl (by decide) (fun _ => rfl) ⟨hN.ok.d, hN.ok.b, hN.ok.p, hN.ok.nx, hN.ok.st, hN.ok.dl, hN.ok.nl, hN.ok.ml⟩ ⟨rfl, rfl, rfl, rfl, rfl, rfl, rfl⟩) ?_
  rintro _ w12 ⟨a13, o14⟩
  replace oW := oW.tail o14 (fun k _ e => (fun k h => h) k e)
  replace hN := a13
  refine wD (tN ?_)
  refine forget (fun zf15 => (zs zf15 0 27)) kr (fun zf15 => ?_)
  refine wQ (pL ?_)
  refine wI (d_assign rfl) ?_
  refine wD (tN ?_)
  refine wpIn_ret ?_
  refine inb_r (then_r ?_)
  refine leave0 (v := (eN 1)) (res1 Try.results47 rfl) ?_
  subst hg
  simp at c1
  subst c1
  exact ⟨congrArg eN (by simp [NS.askR, c0]), by rw [NS.ask_no c0]; exact hN, oW⟩
 refine wK ?_
 refine inb_n (tN ?_)
 refine wQ (pL ?_)
 refine wI (d_move rfl) ?_
 refine wI (d_nilCheck (b := L.bN) (o := 0) rfl) ?_
 refine wI (d_fieldAddr (j := 15) Try.underlying73 rfl s_ti3 (by decide) rfl rfl) ?_
 refine wI (nd_ld (v := (eI s.ops)) hN ⟨_, Try.underlying3, rfl⟩ rfl (fun _ => rfl)) ?_
 refine wI (d_add (k := .i64) (m := s.ops) (n := 1) rfl rfl rfl) ?_
 refine wI (d_nilCheck (b := L.bN) (o := 0) rfl) ?_
 refine wI (d_fieldAddr (j := 15) Try.underlying73 rfl s_ti3 (by decide) rfl rfl) ?_
 refine wO (nd_st (s' := { s with ops := IntKind.i64.wrap (s.ops + 1) }) (i := 15) (v := (eI (IntKind.i64.wrap (s.ops + 1)))) hN s_ti3 rfl rfl rfl (by decide) (fun _ => rfl) ⟨hN.ok.d, hN.ok.b, hN.ok.p, hN.ok.nx, hN.ok.st, hN.ok.dl, hN.ok.nl, hN.ok.ml⟩ ⟨rfl, rfl, rfl, rfl, rfl, rfl, rfl⟩) ?_
 rintro _ w16 ⟨a17, o18⟩
 replace oW := oW.tail o18 (fun k _ e => (fun k h => h) k e)
 replace hN := a17
 refine wD (tN ?_)
 refine forget (fun zf19 => (zs zf19 0 27)) kr (fun zf19 => ?_)
 refine wQ (pL ?_)
 refine wI (d_assign rfl) ?_
 refine wD (tN ?_)
 refine wpIn_ret ?_
 refine leave0 (v := (eN 0)) (res1 Try.results47 rfl) ?_
 subst hg
 simp at c1
 subst c1
 exact ⟨congrArg eN (by simp [NS.askR, c0]), by rw [NS.ask_yes c0]; exact hN, oW⟩
theorem goes_ok (L : NL) (s : NS) {X : Nat → Prop} (W : World) (hN : Nd L s X W) :
    CW Try.prog 49 #[(ptr L.bN 0)] W (Rt (fun u w => u = .bool s.goesR ∧ Nd L s.goes X w ∧ Only L.S W w)) := by
 have oW : Only L.S W W := Only.refl _ _
 refine enter (al := [(ptr L.bN 0)]) (k := 26) (l := ([(ptr L.bN 0)] ++ (us 26))) Try.func49 rfl Try.ntmps49 rfl rfl ?_
 refine wQ (pL ?_)
 refine wI (d_assign rfl) ?_
 refine wD (tN (wQ (wQ (pL ?_))))
 refine wI (d_move rfl) ?_
 refine wI (d_nilCheck (b := L.bN) (o := 0) rfl) ?_
 refine wI (d_fieldAddr (j := 12) Try.underlying73 rfl s_ti3 (by decide) rfl rfl) ?_
 refine wI (nd_ld (v := (eN s.stop)) hN ⟨_, Try.underlying3, rfl⟩ rfl (fun _ => rfl)) ?_
 refine wI (n_lss (a := s.stop) (b := 1) rfl rfl rfl) ?_
 refine wD (tN ?_)
 refine cond_if rfl (fun c0 => ?_) (fun c0 => ?_)
 ·
  refine wQ (pL ?_)
  refine wI (d_assign rfl) ?_
  refine wD (tN ?_)
  refine wpIn_ret ?_
  refine then_r ?_
  refine leave0 (v := vF) (res1 Try.results49 rfl) ?_
  exact ⟨congrArg Value.bool (by simp [NS.goesR, c0]), by rw [NS.goes_no c0]; exact hN, oW⟩
 refine wK (tN (wQ ?_))
 have st_ := hN.ok.st
 refine pL ?_
 refine wI (d_move rfl) ?_
 refine wI (d_nilCheck (b := L.bN) (o := 0) rfl) ?_
 refine wI (d_fieldAddr (j := 12) Try.underlying73 rfl s_ti3 (by decide) rfl rfl) ?_
 refine wF ([(ptr L.bN 0), undef, vF, (ptr L.bN 0), (ptr L.bN 0), (ptr L.bN 12), (eN s.stop), (Value.bool (decide (s.stop < 1))), (ptr L.bN 0), (ptr L.bN 0), (ptr L.bN 12)] ++ (us 16)) ?_
 refine wI (nd_ld (v := (eN s.stop)) hN ⟨_, Try.underlying3, rfl⟩ rfl (fun _ => rfl)) ?_
 refine wI (n_sub (a := s.stop) (b := 1) rfl rfl oo oo) ?_
 refine wI (d_nilCheck (b := L.bN) (o := 0) rfl) ?_
 refine wI (d_fieldAddr (j := 12) Try.underlying73 rfl s_ti3 (by decide) rfl rfl) ?_
 refine wO (nd_st (s' := { s with stop := s.stop - 1 }) (i := 12) (v := (eN (s.stop - 1))) hN s_ti3 rfl rfl rfl (by decide) (fun _ => rfl) ⟨hN.ok.d, hN.ok.b, hN.ok.p, hN.ok.nx, (by have := hN.ok.st; show s.stop - 1 < 2 ^ 62; omega), hN.ok.dl, hN.ok.nl, hN.ok.ml⟩ ⟨rfl, rfl, rfl, rfl, rfl, rfl, rfl⟩) ?_
 rintro _ w11 ⟨a12, o13⟩
 replace oW := oW.tail o13 (fun k _ e => (fun k h => h) k e)
 replace hN := a12
 refine wD (tN ?_)
 refine forget (fun zf14 => ([(ptr L.bN 0)] ++ (zs zf14 1 26))) kr (fun zf14 => ?_)
 refine wQ (pL ?_)
 refine wI (d_move rfl) ?_
 refine wI (d_move rfl) ?_
 refine wI (d_nilCheck (b := L.bN) (o := 0) rfl) ?_
 refine wI (d_fieldAddr (j := 12) Try.underlying73 rfl s_ti3 (by decide) rfl rfl) ?_
 refine wI (nd_ld (v := (eN (({ s with stop := s.stop - 1 }).stop))) hN ⟨_, Try.underlying3, rfl⟩ rfl (fun _ => rfl)) ?_
 refine wI (n_eql (a := (({ s with stop := s.stop - 1 }).stop)) (b := 0) rfl rfl rfl) ?_
 refine wI (d_nilCheck (b := L.bN) (o := 0) rfl) ?_
 refine wI (d_fieldAddr (j := 14) Try.underlying73 rfl s_ti4 (by decide) rfl rfl) ?_
 refine wO (nd_st (s' := { { s with stop := s.stop - 1 } with dead := decide ((({ s with stop := s.stop - 1 }).stop) = 0) }) (i := 14) (v := (Value.bool (decide ((({ s with stop := s.stop - 1 }).stop) = 0)))) hN s_ti4 rfl rfl rfl (by decide) (fun _ => rfl) ⟨hN.ok.d, hN.ok.b, hN.ok.p, hN.ok.nx, hN.ok.st, hN.ok.dl, hN.ok.nl, hN.ok.ml⟩ ⟨rfl, rfl, rfl, rfl, rfl, rfl, rfl⟩) ?_
 rintro _ w15 ⟨a16, o17⟩
 replace oW := oW.tail o17 (fun k _ e => (fun k h => h) k e)
 replace hN := a16
 refine wF ([(ptr L.bN 0)] ++ (zs zf14 1 14 ++ [(ptr L.bN 0), (ptr L.bN 0), (ptr L.bN 0), (ptr L.bN 12), (eN (({ s with stop := s.stop - 1 }).stop)), (Value.bool (decide ((({ s with stop := s.stop - 1 }).stop) = 0))), (ptr L.bN 0), (ptr L.bN 14), (zf14 23), (zf14 24), (zf14 25), (zf14 26)])) ?_
 refine wD (tN ?_)
 refine forget (fun zf18 => ([(ptr L.bN 0)] ++ (zs zf18 1 26))) kr (fun zf18 => ?_)
 refine wQ (pL ?_)
 refine wI (d_move rfl) ?_
 refine wI (d_nilCheck (b := L.bN) (o := 0) rfl) ?_
 refine wI (d_fieldAddr (j := 14) Try.underlying73 rfl s_ti4 (by decide) rfl rfl) ?_
 refine wI (nd_ld (v := (Value.bool (({ { s with stop := s.stop - 1 } with dead := decide ((({ s with stop := s.stop - 1 }).stop) = 0) }).dead))) hN ⟨_, Try.underlying4, rfl⟩ rfl (fun _ => rfl)) ?_
 refine wI (d_assign rfl) ?_
 refine wD (tN ?_)
 refine wpIn_ret ?_
 refine leave0 (v := (Value.bool (({ { s with stop := s.stop - 1 } with dead := decide ((({ s with stop := s.stop - 1 }).stop) = 0) }).dead))) (res1 Try.results49 rfl) ?_
 exact ⟨congrArg Value.bool (by simp [NS.goesR, c0]), by rw [NS.goes_yes c0]; exact hN, oW⟩
theorem nandDead_ok (L : NL) (s : NS) {X : Nat → Prop} (W : World) (hN : Nd L s X W) :
    CW Try.prog 25 #[(ptr L.bN 0)] W (Rt (RIs (Value.bool s.dead) W)) := by
 have oW : Only No W W := Only.refl _ _
 refine enter (al := [(ptr L.bN 0)]) (k := 6) (l := ([(ptr L.bN 0)] ++ (us 6))) Try.func25 rfl Try.ntmps25 rfl rfl ?_
 refine wQ (pL ?_)
 refine wI (d_assign rfl) ?_
 refine wD (tN (wQ (pL ?_)))
 refine wI (d_move rfl) ?_
 refine wI (d_nilCheck (b := L.bN) (o := 0) rfl) ?_
 refine wI (d_fieldAddr (j := 14) Try.underlying73 rfl s_ti4 (by decide) rfl rfl) ?_
 refine wI (nd_ld (v := (Value.bool s.dead)) hN ⟨_, Try.underlying4, rfl⟩ rfl (fun _ => rfl)) ?_
 refine wI (d_assign rfl) ?_
 refine wD (tN ?_)
 refine wpIn_ret ?_
 refine leave0 (v := (Value.bool s.dead)) (res1 Try.results25 rfl) ?_
 exact ⟨rfl, oW⟩
theorem nandOps_ok (L : NL) (s : NS) {X : Nat → Prop} (W : World) (hN : Nd L s X W) :
    CW Try.prog 19 #[(ptr L.bN 0)] W (Rt (RIs (eI s.ops) W)) := by
 have oW : Only No W W := Only.refl _ _
 refine enter (al := [(ptr L.bN 0)]) (k := 6) (l := ([(ptr L.bN 0)] ++ (us 6))) Try.func19 rfl Try.ntmps19 rfl rfl ?_
 refine wQ (pL ?_)
 refine wI (d_assign rfl) ?_
 refine wD (tN (wQ (pL ?_)))
 refine wI (d_move rfl) ?_
 refine wI (d_nilCheck (b := L.bN) (o := 0) rfl) ?_
 refine wI (d_fieldAddr (j := 15) Try.underlying73 rfl s_ti3 (by decide) rfl rfl) ?_
 refine wI (nd_ld (v := (eI s.ops)) hN ⟨_, Try.underlying3, rfl⟩ rfl (fun _ => rfl)) ?_
 refine wI (d_assign rfl) ?_
 refine wD (tN ?_)
 refine wpIn_ret ?_
 refine leave0 (v := (eI s.ops)) (res1 Try.results19 rfl) ?_
 exact ⟨rfl, oW⟩
theorem nandWrong_ok (L : NL) (s : NS) {X : Nat → Prop} (W : World) (hN : Nd L s X W) :
    CW Try.prog 18 #[(ptr L.bN 0)] W (Rt (RIs (eI s.wrong) W)) := by
 have oW : Only No W W := Only.refl _ _
 refine enter (al := [(ptr L.bN 0)]) (k := 6) (l := ([(ptr L.bN 0)] ++ (us 6))) Try.func18 rfl Try.ntmps18 rfl rfl ?_
 refine wQ (pL ?_)
 refine wI (d_assign rfl) ?_
 refine wD (tN (wQ (pL ?_)))
 refine wI (d_move rfl) ?_
 refine wI (d_nilCheck (b := L.bN) (o := 0) rfl) ?_
 refine wI (d_fieldAddr (j := 16) Try.underlying73 rfl s_ti3 (by decide) rfl rfl) ?_
 refine wI (nd_ld (v := (eI s.wrong)) hN ⟨_, Try.underlying3, rfl⟩ rfl (fun _ => rfl)) ?_
 refine wI (d_assign rfl) ?_
 refine wD (tN ?_)
 refine wpIn_ret ?_
 refine leave0 (v := (eI s.wrong)) (res1 Try.results18 rfl) ?_
 exact ⟨rfl, oW⟩
theorem nandErases_ok (L : NL) (s : NS) {X : Nat → Prop} (W : World) (hN : Nd L s X W) (d b : Int) :
    CW Try.prog 28 #[(ptr L.bN 0), (eI d), (eI b)] W (Rt (RIs (eI (s.erases d b)) W)) := by
 have oW : Only No W W := Only.refl _ _
 refine enter (al := [(ptr L.bN 0), (eI d), (eI b)]) (k := 20) (l := ([(ptr L.bN 0), (eI d), (eI b)] ++ (us 20))) Try.func28 rfl Try.ntmps28 rfl rfl ?_
 refine wQ (pL ?_)
 refine wI (d_assign rfl) ?_
 refine wD (tN (wQ (wQ ?_)))
 by_cases k0 : (s.there d b) = true
 ·
  refine pL ?_
  refine wI (d_move rfl) ?_
  refine wI (d_move rfl) ?_
  refine wI (d_move rfl) ?_
  refine wO (d_call (xl := [.tmp 7, .tmp 8, .tmp 9]) (al := [(ptr L.bN 0), (eI d), (eI b)]) Try.func40 kr rfl rfl rfl (there_ok L s _ hN (r := true) d b k0)) ?_
  rintro _ w11 ⟨rfl, o12⟩
  replace hN := hN.step0 o12
  replace oW := oW.tail0 o12
  refine wI (d_not rfl rfl) ?_
  refine wD (tN ?_)
  refine cond_f rfl ?_
  refine wK (tN (wQ ?_))
  obtain ⟨hd0, hd1, hb0, hb1⟩ := NS.there_of k0
  obtain ⟨dn, rfl⟩ := Int.eq_ofNat_of_zero_le hd0
  replace hd1 : dn < s.gD := Int.ofNat_lt.1 hd1
  refine wp_eq (l' := ([(ptr L.bN 0), (eN dn), (eI b), undef, undef, undef, (eN 0), (ptr L.bN 0), (eN dn), (eI b), vT, vF] ++ (us 11))) rfl ?_
  obtain ⟨bn, rfl⟩ := Int.eq_ofNat_of_zero_le hb0
  replace hb1 : bn < s.gB := Int.ofNat_lt.1 hb1
  refine wp_eq (l' := ([(ptr L.bN 0), (eN dn), (eN bn), undef, undef, undef, (eN 0), (ptr L.bN 0), (eN dn), (eN bn), vT, vF] ++ (us 11))) rfl ?_
  refine pL ?_
  refine wI (d_move rfl) ?_
  refine wI (d_nilCheck (b := L.bN) (o := 0) rfl) ?_
  refine wI (d_fieldAddr (j := 11) Try.underlying73 rfl s_ti71 (by decide) rfl rfl) ?_
  refine wI (nd_ld (v := L.ub) hN ⟨_, Try.underlying71, rfl⟩ rfl (fun _ => rfl)) ?_
  refine wI (d_move rfl) ?_
  refine wI (nd_ixU (i := dn) hN Try.underlying71 s_ti75 rfl (show _ = Value.int _ (dn : Int) from rfl) hd1) ?_
  refine wI (nd_ldU (i := dn) hN ⟨_, Try.underlying75, rfl⟩ rfl hd1) ?_
  refine wI (d_move rfl) ?_
  refine wI (d_index (b := (L.bk.getD dn 0)) (o := 0) (n := s.gB) (c := s.gB) (j := (bn * 3)) Try.underlying75 s_ti77 rfl (show _ = Value.int _ (bn : Int) from rfl) oo oo (by simp)) ?_
  refine wF [(ptr L.bN 0), (eN dn), (eN bn), undef, undef, undef, (eN 0), (ptr L.bN 0), (eN dn), (eN bn), vT, vF, (ptr L.bN 0), (ptr L.bN 0), (ptr L.bN 11), L.ub, (eN dn), (ixp L.ub dn), (sli (L.bk.getD dn 0) 0 s.gB s.gB), (eN bn), (ptr (L.bk.getD dn 0) (bn * 3)), undef, undef] ?_
  refine wI (d_fieldAddr (j := bn * 3 + 1) Try.underlying77 rfl s_ti3 (by decide) rfl rfl) ?_
  refine wI (nd_ldS (i := dn) (j := bn) (f := 1) hN ⟨_, Try.underlying3, rfl⟩ rfl hd1 hb1 (by decide) rfl) ?_
  refine wI (d_assign rfl) ?_
  refine wD (tN ?_)
  refine forget (fun zf13 => (zs zf13 0 6 ++ [(eI ((s.bl dn bn).er))] ++ (zs zf13 7 16))) kr (fun zf13 => ?_)
  refine wpIn_ret ?_
  refine leave0 (v := (eI ((s.bl dn bn).er))) (res1 Try.results28 rfl) ?_
  exact ⟨congrArg eI (by unfold NS.erases; rw [if_pos k0]; rfl), oW⟩
 refine pL ?_
 refine wI (d_move rfl) ?_
 refine wI (d_move rfl) ?_
 refine wI (d_move rfl) ?_
 refine wO (d_call (xl := [.tmp 7, .tmp 8, .tmp 9]) (al := [(ptr L.bN 0), (eI d), (eI b)]) Try.func40 kr rfl rfl rfl (there_ok L s _ hN (r := false) d b (Bool.eq_false_iff.2 k0))) ?_
 rintro _ w14 ⟨rfl, o15⟩
 replace hN := hN.step0 o15
 replace oW := oW.tail0 o15
 refine wI (d_not rfl rfl) ?_
 refine wD (tN ?_)
 refine cond_t rfl ?_
 refine wQ (pL ?_)
 refine wI (d_assign rfl) ?_
 refine wD (tN ?_)
 refine forget (fun zf16 => (zs zf16 0 6 ++ [(eN 0)] ++ (zs zf16 7 16))) kr (fun zf16 => ?_)
 refine wpIn_ret ?_
 refine then_r ?_
 refine leave0 (v := (eN 0)) (res1 Try.results28 rfl) ?_
 exact ⟨congrArg eI (by unfold NS.erases; rw [if_neg k0]; rfl), oW⟩
theorem read_ok (L : NL) (s : NS) {X : Nat → Prop} (W : World) (hN : Nd L s X W) (d b p : Int) (hX : ∀ k, X k → k < W.heap.size) :
    CW Try.prog 21 #[(ptr L.bN 0), (eI d), (eI b), (eI p)] W (Rt (fun u w => ∃ v, u = .tuple #[v, eN (s.askR (s.readOk d b p))] ∧ Ps (Old W.heap.size) (Seq kB (s.readL d b p) v) w ∧ Nd L (s.ask (s.readOk d b p)) X w ∧ Only L.S W w)) := by
 have oW : Only L.S W W := Only.refl _ _
 refine enter (al := [(ptr L.bN 0), (eI d), (eI b), (eI p)]) (k := 45) (l := ([(ptr L.bN 0), (eI d), (eI b), (eI p)] ++ (us 45))) Try.func21 rfl Try.ntmps21 rfl rfl ?_
 refine wQ (pL ?_)
 refine wI (d_assign rfl) ?_
 refine wI (d_assign rfl) ?_
 refine wD (tN (wQ (wQ ?_)))
 by_cases k0 : (s.pageIn d b p) = true
 ·
  obtain ⟨hd0, hd1, hb0, hb1, hp0, hp1⟩ := NS.page_of k0
  obtain ⟨dn, rfl⟩ := Int.eq_ofNat_of_zero_le hd0
  replace hd1 : dn < s.gD := Int.ofNat_lt.1 hd1
  refine wp_eq (l' := ([(ptr L.bN 0), (eN dn), (eI b), (eI p), undef, undef, undef, undef, vN, (eN 0)] ++ (us 39))) rfl ?_
  obtain ⟨bn, rfl⟩ := Int.eq_ofNat_of_zero_le hb0
  replace hb1 : bn < s.gB := Int.ofNat_lt.1 hb1
  refine wp_eq (l' := ([(ptr L.bN 0), (eN dn), (eN bn), (eI p), undef, undef, undef, undef, vN, (eN 0)] ++ (us 39))) rfl ?_
  obtain ⟨pn, rfl⟩ := Int.eq_ofNat_of_zero_le hp0
  replace hp1 : pn < s.gP := Int.ofNat_lt.1 hp1
  refine wp_eq (l' := ([(ptr L.bN 0), (eN dn), (eN bn), (eN pn), undef, undef, undef, undef, vN, (eN 0)] ++ (us 39))) rfl ?_
  by_cases k1 : (s.isBad ↑dn ↑bn) = true
  ·
   refine pL ?_
   refine wI (d_move rfl) ?_
   refine wI (d_move rfl) ?_
   refine wI (d_move rfl) ?_
   refine wI (d_move rfl) ?_
   refine wI (d_move rfl) ?_
   refine wO (d_call (xl := [.tmp 12, .tmp 13, .tmp 14, .tmp 15]) (al := [(ptr L.bN 0), (eN dn), (eN bn), (eN pn)]) Try.func44 kr rfl rfl rfl (pageq_ok L s _ hN (r := true) (dn : Int) (bn : Int) (pn : Int) k0)) ?_
   rintro _ w11 ⟨rfl, o12⟩
   replace hN := hN.step0 o12
   replace oW := oW.tail0 o12
   refine wI (d_move rfl) ?_
   refine wF ([(ptr L.bN 0), (eN dn), (eN bn), (eN pn), undef, undef, undef, undef, vN, (eN 0), undef, (ptr L.bN 0), (ptr L.bN 0), (eN dn), (eN bn), (eN pn), vT, vT] ++ (us 31)) ?_
   refine wG (d_move rfl) ?_
   refine wG (d_move rfl) ?_
   refine wG (d_move rfl) ?_
   refine wpL.on rfl rfl rfl (nb rfl) rfl (d_call (xl := [.tmp 18, .tmp 19, .tmp 20]) (al := [(ptr L.bN 0), (eN dn), (eN bn)]) Try.func27 kr rfl rfl rfl (isBad_ok L s _ hN (r := true) (dn : Int) (bn : Int) k1)) ?_
   rintro _ w13 ⟨rfl, o14⟩
   replace hN := hN.step0 o14
   replace oW := oW.tail0 o14
   refine wG (d_not rfl rfl) ?_
   refine wI (d_pick (b := true) (v := vF) rfl rfl) ?_
   refine wO (d_call (xl := [.tmp 11, .tmp 23]) (al := [(ptr L.bN 0), vF]) Try.func47 kr rfl rfl rfl (ask_ok L s _ hN (g := (s.readOk ↑dn ↑bn ↑pn)) false (by simp [NS.readOk, *]))) ?_
   rintro _ w15 ⟨rfl, a17, o16⟩
   replace oW := oW.tail o16 (fun k _ e => (fun k h => h) k e)
   replace hN := a17
   refine wF ([(ptr L.bN 0), (eN dn), (eN bn), (eN pn), undef, undef, undef, undef, vN, (eN 0), undef, (ptr L.bN 0), (ptr L.bN 0), (eN dn), (eN bn), (eN pn), vT, vT, (ptr L.bN 0), (eN dn), (eN bn), vT, vF, vF, (eN (s.askR (s.readOk ↑dn ↑bn ↑pn)))] ++ (us 24)) ?_
   refine wI (d_assign rfl) ?_
   refine wD (tN ?_)
   refine forget (fun zf18 => ([(ptr L.bN 0), (eN dn), (eN bn), (eN pn)] ++ (zs zf18 4 6 ++ [(eN (s.askR (s.readOk ↑dn ↑bn ↑pn)))] ++ (zs zf18 11 17 ++ (us 21))))) kr (fun zf18 => ?_)
   refine wQ (pL ?_)
   refine wI (d_move rfl) ?_
   refine wI (n_neq (a := (s.askR (s.readOk ↑dn ↑bn ↑pn))) (b := 0) rfl rfl rfl) ?_
   refine wD (tN ?_)
   refine cond_un rfl (fun c0 => ?_) (fun c0 => ?_)
   ·
    refine wQ (pL ?_)
    refine wI (d_move rfl) ?_
    refine wI (d_assign rfl) ?_
    refine wI (d_assign rfl) ?_
    refine wD (tN ?_)
    refine forget (fun zf19 => (zs zf19 0 8 ++ [vN, (eN (s.askR (s.readOk ↑dn ↑bn ↑pn)))] ++ (zs zf19 10 39))) kr (fun zf19 => ?_)
    refine wpIn_ret ?_
    refine then_r ?_
    refine leave0 (v := (Value.tuple #[vN, (eN (s.askR (s.readOk ↑dn ↑bn ↑pn)))])) (res2 Try.results21 rfl rfl) ?_
    exact ⟨_, rfl, by unfold NS.readL; rw [if_neg c0]; exact seq_nil, hN, oW⟩
   exact absurd c0 (NS.askR_no (by simp [NS.readOk, *]))
  refine pL ?_
  refine wI (d_move rfl) ?_
  refine wI (d_move rfl) ?_
  refine wI (d_move rfl) ?_
  refine wI (d_move rfl) ?_
  refine wI (d_move rfl) ?_
  refine wO (d_call (xl := [.tmp 12, .tmp 13, .tmp 14, .tmp 15]) (al := [(ptr L.bN 0), (eN dn), (eN bn), (eN pn)]) Try.func44 kr rfl rfl rfl (pageq_ok L s _ hN (r := true) (dn : Int) (bn : Int) (pn : Int) k0)) ?_
  rintro _ w20 ⟨rfl, o21⟩
  replace hN := hN.step0 o21
  replace oW := oW.tail0 o21
  refine wI (d_move rfl) ?_
  refine wF ([(ptr L.bN 0), (eN dn), (eN bn), (eN pn), undef, undef, undef, undef, vN, (eN 0), undef, (ptr L.bN 0), (ptr L.bN 0), (eN dn), (eN bn), (eN pn), vT, vT] ++ (us 31)) ?_
  refine wG (d_move rfl) ?_
  refine wG (d_move rfl) ?_
  refine wG (d_move rfl) ?_
  refine wpL.on rfl rfl rfl (nb rfl) rfl (d_call (xl := [.tmp 18, .tmp 19, .tmp 20]) (al := [(ptr L.bN 0), (eN dn), (eN bn)]) Try.func27 kr rfl rfl rfl (isBad_ok L s _ hN (r := false) (dn : Int) (bn : Int) (Bool.eq_false_iff.2 k1))) ?_
  rintro _ w22 ⟨rfl, o23⟩
  replace hN := hN.step0 o23
  replace oW := oW.tail0 o23
  refine wG (d_not rfl rfl) ?_
  refine wI (d_pick (b := true) (v := vT) rfl rfl) ?_
  refine wO (d_call (xl := [.tmp 11, .tmp 23]) (al := [(ptr L.bN 0), vT]) Try.func47 kr rfl rfl rfl (ask_ok L s _ hN (g := (s.readOk ↑dn ↑bn ↑pn)) true (by simp [NS.readOk, *]))) ?_
  rintro _ w24 ⟨rfl, a26, o25⟩
  replace oW := oW.tail o25 (fun k _ e => (fun k h => h) k e)
  replace hN := a26
  refine wF ([(ptr L.bN 0), (eN dn), (eN bn), (eN pn), undef, undef, undef, undef, vN, (eN 0), undef, (ptr L.bN 0), (ptr L.bN 0), (eN dn), (eN bn), (eN pn), vT, vT, (ptr L.bN 0), (eN dn), (eN bn), vF, vT, vT, (eN (s.askR (s.readOk ↑dn ↑bn ↑pn)))] ++ (us 24)) ?_
  refine wI (d_assign rfl) ?_
  refine wD (tN ?_)
  refine forget (fun zf27 => ([(ptr L.bN 0), (eN dn), (eN bn), (eN pn)] ++ (zs zf27 4 6 ++ [(eN (s.askR (s.readOk ↑dn ↑bn ↑pn)))] ++ (zs zf27 11 17 ++ (us 21))))) kr (fun zf27 => ?_)
  refine wQ (pL ?_)
  refine wI (d_move rfl) ?_
  refine wI (n_neq (a := (s.askR (s.readOk ↑dn ↑bn ↑pn))) (b := 0) rfl rfl rfl) ?_
  refine wD (tN ?_)
  refine cond_un rfl (fun c0 => ?_) (fun c0 => ?_)
  ·
   refine wQ (pL ?_)
   refine wI (d_move rfl) ?_
   refine wI (d_assign rfl) ?_
   refine wI (d_assign rfl) ?_
   refine wD (tN ?_)
   refine forget (fun zf28 => (zs zf28 0 8 ++ [vN, (eN (s.askR (s.readOk ↑dn ↑bn ↑pn)))] ++ (zs zf28 10 39))) kr (fun zf28 => ?_)
   refine wpIn_ret ?_
   refine then_r ?_
   refine leave0 (v := (Value.tuple #[vN, (eN (s.askR (s.readOk ↑dn ↑bn ↑pn)))])) (res2 Try.results21 rfl rfl) ?_
   exact ⟨_, rfl, by unfold NS.readL; rw [if_neg c0]; exact seq_nil, hN, oW⟩
  refine wK (tN (wQ ?_))
  have l1_ : ((s.ask (s.readOk ↑dn ↑bn ↑pn)).dl ((s.ask (s.readOk ↑dn ↑bn ↑pn)).ix dn bn pn)).length = 60 := hN.ok.dl _
  have l2_ : ((s.ask (s.readOk ↑dn ↑bn ↑pn)).nl ((s.ask (s.readOk ↑dn ↑bn ↑pn)).ix dn bn pn)).length ≤ 1048576 := hN.ok.nl _
  have l3_ : (s.ask (s.readOk ↑dn ↑bn ↑pn)).mask.length ≤ 1048576 := hN.ok.ml
  refine wp_eq (l' := ([(ptr L.bN 0), (eN dn), (eN bn), (eN pn)] ++ (zs zf27 4 6 ++ [(eN (s.askR (s.readOk ↑dn ↑bn ↑pn)))] ++ (zs zf27 11 14 ++ [(eN (s.askR (s.readOk ↑dn ↑bn ↑pn))), (Value.bool (!decide ((s.askR (s.readOk ↑dn ↑bn ↑pn)) = 0))), (zf27 27)] ++ (us 21))))) rfl ?_
  refine drawn' (O := (Ors L.S No)) (n := 23) [0, 1, 3, 7, 0, 0, 0, 127, 255, 511, 0, 1024, 3072, 7168, 0, 0, 0, 130303, 261375, 523519, 1048575, 2097151, 4194303] [(0, 28), (1, 29), (2, 30), (3, 31), (4, 32), (5, 33), (6, 34), (7, 35), (8, 36), (9, 37), (10, 38), (11, 39), (12, 40), (13, 41), (14, 42), (15, 43), (16, 44), (17, 45), (18, 46), (19, 47), (20, 48), (21, 8), (22, 9)] [0, 1, 2, 3, 4, 5, 6, 7, 8, 9, 10, 11, 12, 13, 14, 15, 16, 17, 18, 19, 20, 21, 22] [] (fun i_ => ([RF.is (Ors L.S No) (ptr L.bN 0), RF.is (Ors L.S No) (ptr L.bN 0), RF.is (Ors L.S No) (ptr L.bN 3), RF.is (Ors L.S No) (Value.agg #[(eN ((s.ask (s.readOk ↑dn ↑bn ↑pn)).gD)), (eN ((s.ask (s.readOk ↑dn ↑bn ↑pn)).gB)), (eN ((s.ask (s.readOk ↑dn ↑bn ↑pn)).gP)), (sli L.bD 0 ((s.ask (s.readOk ↑dn ↑bn ↑pn)).n) ((s.ask (s.readOk ↑dn ↑bn ↑pn)).n))]), RF.is (Ors L.S No) (eN dn), RF.is (Ors L.S No) (eN bn), RF.is (Ors L.S No) (eN pn), RF.is (Ors L.S No) (ptr L.bD ((s.ask (s.readOk ↑dn ↑bn ↑pn)).ix dn bn pn)), RF.is (Ors L.S No) (ptr L.bD ((s.ask (s.readOk ↑dn ↑bn ↑pn)).ix dn bn pn)), RF.ps (Ors L.S No) (Ors L.S X) (Seq kB ((s.ask (s.readOk ↑dn ↑bn ↑pn)).dl ((s.ask (s.readOk ↑dn ↑bn ↑pn)).ix dn bn pn))) (ors_mono no_any), RF.is (Ors L.S No) (ptr L.bN 0), RF.is (Ors L.S No) (ptr L.bN 0), RF.is (Ors L.S No) (ptr L.bN 7), RF.is (Ors L.S No) (Value.agg #[(eN ((s.ask (s.readOk ↑dn ↑bn ↑pn)).gD)), (eN ((s.ask (s.readOk ↑dn ↑bn ↑pn)).gB)), (eN ((s.ask (s.readOk ↑dn ↑bn ↑pn)).gP)), (sli L.bZ 0 ((s.ask (s.readOk ↑dn ↑bn ↑pn)).n) ((s.ask (s.readOk ↑dn ↑bn ↑pn)).n))]), RF.is (Ors L.S No) (eN dn), RF.is (Ors L.S No) (eN bn), RF.is (Ors L.S No) (eN pn), RF.is (Ors L.S No) (ptr L.bZ ((s.ask (s.readOk ↑dn ↑bn ↑pn)).ix dn bn pn)), RF.is (Ors L.S No) (ptr L.bZ ((s.ask (s.readOk ↑dn ↑bn ↑pn)).ix dn bn pn)), RF.ps (Ors L.S No) (Ors L.S X) (Seq kI ((s.ask (s.readOk ↑dn ↑bn ↑pn)).nl ((s.ask (s.readOk ↑dn ↑bn ↑pn)).ix dn bn pn))) (ors_mono no_any), RF.ps (Ors L.S No) (Ors L.S (Old W.heap.size)) (Seq kB (flipI ((s.ask (s.readOk ↑dn ↑bn ↑pn)).dl ((s.ask (s.readOk ↑dn ↑bn ↑pn)).ix dn bn pn)) ((s.ask (s.readOk ↑dn ↑bn ↑pn)).nl ((s.ask (s.readOk ↑dn ↑bn ↑pn)).ix dn bn pn)))) (ors_mono no_any), RF.ps (Ors L.S No) (Ors L.S (Old W.heap.size)) (Seq kB (flipI ((s.ask (s.readOk ↑dn ↑bn ↑pn)).dl ((s.ask (s.readOk ↑dn ↑bn ↑pn)).ix dn bn pn)) ((s.ask (s.readOk ↑dn ↑bn ↑pn)).nl ((s.ask (s.readOk ↑dn ↑bn ↑pn)).ix dn bn pn)))) (ors_mono no_any), RF.is (Ors L.S No) (eN 0)] : List (RF (Ors L.S No))).getD i_ (RF.any (Ors L.S No))) (fun _ w_ => Nd L (s.ask (s.readOk ↑dn ↑bn ↑pn)) X w_) (fun v29 => ([(ptr L.bN 0), (eN dn), (eN bn), (eN pn), (zf27 4), (zf27 5), (zf27 6), (zf27 7), (v29 21), (v29 22), (eN (s.askR (s.readOk ↑dn ↑bn ↑pn)))] ++ (zs zf27 11 14 ++ [(eN (s.askR (s.readOk ↑dn ↑bn ↑pn))), (Value.bool (!decide ((s.askR (s.readOk ↑dn ↑bn ↑pn)) = 0))), (zf27 27), (v29 0), (v29 1), (v29 2), (v29 3), (v29 4), (v29 5), (v29 6), (v29 7), (v29 8), (v29 9), (v29 10), (v29 11), (v29 12), (v29 13), (v29 14), (v29 15), (v29 16), (v29 17), (v29 18), (v29 19), (v29 20)]))) s_mx kr rfl kr (by rfl) (fun v_ => by kernel_rfl) (fun _ => fun w_ w2_ h ho => by have r_hN := h; exact r_hN.step0 ho) hN ?_ ?_ ?_
  ·
   refine ls_cons ?_ ?_
   ·
    intro v29 lo hi w_ k_ hO hd _ _ hk_ _ hR hold
    have r_hN := hR
    clear hd hold
    refine ⟨_, rfl, gd rfl ?_⟩
    exact Does.is (d_move rfl)
   refine ls_cons ?_ ?_
   ·
    intro v29 lo hi w_ k_ hO hd _ _ hk_ _ hR hold
    have r_hN := hR
    have e0 : v29 0 = (ptr L.bN 0) := hd 0 kr
    clear hd hold
    refine ⟨_, rfl, gd rfl ?_⟩
    exact Does.is (d_nilCheck (b := L.bN) (o := 0) e0)
   refine ls_cons ?_ ?_
   ·
    intro v29 lo hi w_ k_ hO hd _ _ hk_ _ hR hold
    have r_hN := hR
    have e1 : v29 1 = (ptr L.bN 0) := hd 1 kr
    clear hd hold
    refine ⟨_, rfl, gd rfl ?_⟩
    exact Does.is (d_fieldAddr (j := 3) Try.underlying73 rfl s_ti65 (by decide) e1 rfl)
   refine ls_cons ?_ ?_
   ·
    intro v29 lo hi w_ k_ hO hd _ _ hk_ _ hR hold
    have r_hN := hR
    have e2 : v29 2 = (ptr L.bN 3) := hd 2 kr
    clear hd hold
    refine ⟨_, rfl, gd rfl ?_⟩
    exact Does.is (nd_ldAg (vs := [(eN ((s.ask (s.readOk ↑dn ↑bn ↑pn)).gD)), (eN ((s.ask (s.readOk ↑dn ↑bn ↑pn)).gB)), (eN ((s.ask (s.readOk ↑dn ↑bn ↑pn)).gP)), (sli L.bD 0 ((s.ask (s.readOk ↑dn ↑bn ↑pn)).n) ((s.ask (s.readOk ↑dn ↑bn ↑pn)).n))]) r_hN ⟨_, Try.underlying65, rfl⟩ s_ti65 e2 (fun _ => rfl) rfl)
   refine ls_cons ?_ ?_
   ·
    intro v29 lo hi w_ k_ hO hd _ _ hk_ _ hR hold
    have r_hN := hR
    clear hd hold
    refine ⟨_, rfl, gd rfl ?_⟩
    exact Does.is (d_move rfl)
   refine ls_cons ?_ ?_
   ·
    intro v29 lo hi w_ k_ hO hd _ _ hk_ _ hR hold
    have r_hN := hR
    clear hd hold
    refine ⟨_, rfl, gd rfl ?_⟩
    exact Does.is (d_move rfl)
   refine ls_cons ?_ ?_
   ·
    intro v29 lo hi w_ k_ hO hd _ _ hk_ _ hR hold
    have r_hN := hR
    clear hd hold
    refine ⟨_, rfl, gd rfl ?_⟩
    exact Does.is (d_move rfl)
   refine ls_cons ?_ ?_
   ·
    intro v29 lo hi w_ k_ hO hd _ _ hk_ _ hR hold
    have r_hN := hR
    have e3 : v29 3 = (Value.agg #[(eN ((s.ask (s.readOk ↑dn ↑bn ↑pn)).gD)), (eN ((s.ask (s.readOk ↑dn ↑bn ↑pn)).gB)), (eN ((s.ask (s.readOk ↑dn ↑bn ↑pn)).gP)), (sli L.bD 0 ((s.ask (s.readOk ↑dn ↑bn ↑pn)).n) ((s.ask (s.readOk ↑dn ↑bn ↑pn)).n))]) := hd 3 kr
    have e4 : v29 4 = (eN dn) := hd 4 kr
    have e5 : v29 5 = (eN bn) := hd 5 kr
    have e6 : v29 6 = (eN pn) := hd 6 kr
    clear hd hold
    refine ⟨_, rfl, gd rfl ?_⟩
    exact d_call (xl := [.tmp 31, .tmp 32, .tmp 33, .tmp 34]) (al := [(Value.agg #[(eN ((s.ask (s.readOk ↑dn ↑bn ↑pn)).gD)), (eN ((s.ask (s.readOk ↑dn ↑bn ↑pn)).gB)), (eN ((s.ask (s.readOk ↑dn ↑bn ↑pn)).gP)), (sli L.bD 0 ((s.ask (s.readOk ↑dn ↑bn ↑pn)).n) ((s.ask (s.readOk ↑dn ↑bn ↑pn)).n))]), (eN dn), (eN bn), (eN pn)]) Try.func48 kr rfl (show ([(v29 3), (v29 4), (v29 5), (v29 6)] : List Value) = [(Value.agg #[(eN ((s.ask (s.readOk ↑dn ↑bn ↑pn)).gD)), (eN ((s.ask (s.readOk ↑dn ↑bn ↑pn)).gB)), (eN ((s.ask (s.readOk ↑dn ↑bn ↑pn)).gP)), (sli L.bD 0 ((s.ask (s.readOk ↑dn ↑bn ↑pn)).n) ((s.ask (s.readOk ↑dn ↑bn ↑pn)).n))]), (eN dn), (eN bn), (eN pn)] from by rw [e3, e4, e5, e6]) rfl (atD_ok (s.ask (s.readOk ↑dn ↑bn ↑pn)) L.bD dn bn pn _ r_hN.ok (by first | assumption | omega) (by first | assumption | omega) (by first | assumption | omega))
   refine ls_cons ?_ ?_
   ·
    intro v29 lo hi w_ k_ hO hd _ _ hk_ _ hR hold
    have r_hN := hR
    have e7 : v29 7 = (ptr L.bD ((s.ask (s.readOk ↑dn ↑bn ↑pn)).ix dn bn pn)) := hd 7 kr
    clear hd hold
    refine ⟨_, rfl, gd rfl ?_⟩
    exact Does.is (d_nilCheck (b := L.bD) (o := ((s.ask (s.readOk ↑dn ↑bn ↑pn)).ix dn bn pn)) e7)
   refine ls_cons ?_ ?_
   ·
    intro v29 lo hi w_ k_ hO hd _ _ hk_ _ hR hold
    have r_hN := hR
    have e8 : v29 8 = (ptr L.bD ((s.ask (s.readOk ↑dn ↑bn ↑pn)).ix dn bn pn)) := hd 8 kr
    clear hd hold
    refine ⟨_, rfl, gd rfl ?_⟩
    refine Does.mono (nd_ldD (i := ((s.ask (s.readOk ↑dn ↑bn ↑pn)).ix dn bn pn)) (Y := (Ors L.S X)) r_hN xo_s ⟨_, Try.underlying36, rfl⟩ e8 (NS.ix_lt (by first | assumption | omega) (by first | assumption | omega) (by first | assumption | omega))) (fun u w' h => ⟨h.2 ▸ h.1, h.2 ▸ Only.refl _ _⟩)
   refine ls_cons ?_ ?_
   ·
    intro v29 lo hi w_ k_ hO hd _ _ hk_ _ hR hold
    have r_hN := hR
    clear hd hold
    refine ⟨_, rfl, gd rfl ?_⟩
    exact Does.is (d_move rfl)
   refine ls_cons ?_ ?_
   ·
    intro v29 lo hi w_ k_ hO hd _ _ hk_ _ hR hold
    have r_hN := hR
    have e10 : v29 10 = (ptr L.bN 0) := hd 10 kr
    clear hd hold
    refine ⟨_, rfl, gd rfl ?_⟩
    exact Does.is (d_nilCheck (b := L.bN) (o := 0) e10)
   refine ls_cons ?_ ?_
   ·
    intro v29 lo hi w_ k_ hO hd _ _ hk_ _ hR hold
    have r_hN := hR
    have e11 : v29 11 = (ptr L.bN 0) := hd 11 kr
    clear hd hold
    refine ⟨_, rfl, gd rfl ?_⟩
    exact Does.is (d_fieldAddr (j := 7) Try.underlying73 rfl s_ti69 (by decide) e11 rfl)
   refine ls_cons ?_ ?_
   ·
    intro v29 lo hi w_ k_ hO hd _ _ hk_ _ hR hold
    have r_hN := hR
    have e12 : v29 12 = (ptr L.bN 7) := hd 12 kr
    clear hd hold
    refine ⟨_, rfl, gd rfl ?_⟩
    exact Does.is (nd_ldAg (vs := [(eN ((s.ask (s.readOk ↑dn ↑bn ↑pn)).gD)), (eN ((s.ask (s.readOk ↑dn ↑bn ↑pn)).gB)), (eN ((s.ask (s.readOk ↑dn ↑bn ↑pn)).gP)), (sli L.bZ 0 ((s.ask (s.readOk ↑dn ↑bn ↑pn)).n) ((s.ask (s.readOk ↑dn ↑bn ↑pn)).n))]) r_hN ⟨_, Try.underlying69, rfl⟩ s_ti69 e12 (fun _ => rfl) rfl)
   refine ls_cons ?_ ?_
   ·
    intro v29 lo hi w_ k_ hO hd _ _ hk_ _ hR hold
    have r_hN := hR
    clear hd hold
    refine ⟨_, rfl, gd rfl ?_⟩
    exact Does.is (d_move rfl)
   refine ls_cons ?_ ?_
   ·
    intro v29 lo hi w_ k_ hO hd _ _ hk_ _ hR hold
    have r_hN := hR
    clear hd hold
    refine ⟨_, rfl, gd rfl ?_⟩
    exact Does.is (d_move rfl)
   refine ls_cons ?_ ?_
   ·
    intro v29 lo hi w_ k_ hO hd _ _ hk_ _ hR hold
    have r_hN := hR
    clear hd hold
    refine ⟨_, rfl, gd rfl ?_⟩
    exact Does.is (d_move rfl)
   refine ls_cons ?_ ?_
   ·
    intro v29 lo hi w_ k_ hO hd _ _ hk_ _ hR hold
    have r_hN := hR
    have e13 : v29 13 = (Value.agg #[(eN ((s.ask (s.readOk ↑dn ↑bn ↑pn)).gD)), (eN ((s.ask (s.readOk ↑dn ↑bn ↑pn)).gB)), (eN ((s.ask (s.readOk ↑dn ↑bn ↑pn)).gP)), (sli L.bZ 0 ((s.ask (s.readOk ↑dn ↑bn ↑pn)).n) ((s.ask (s.readOk ↑dn ↑bn ↑pn)).n))]) := hd 13 kr
    have e14 : v29 14 = (eN dn) := hd 14 kr
    have e15 : v29 15 = (eN bn) := hd 15 kr
    have e16 : v29 16 = (eN pn) := hd 16 kr
    clear hd hold
    refine ⟨_, rfl, gd rfl ?_⟩
    exact d_call (xl := [.tmp 41, .tmp 42, .tmp 43, .tmp 44]) (al := [(Value.agg #[(eN ((s.ask (s.readOk ↑dn ↑bn ↑pn)).gD)), (eN ((s.ask (s.readOk ↑dn ↑bn ↑pn)).gB)), (eN ((s.ask (s.readOk ↑dn ↑bn ↑pn)).gP)), (sli L.bZ 0 ((s.ask (s.readOk ↑dn ↑bn ↑pn)).n) ((s.ask (s.readOk ↑dn ↑bn ↑pn)).n))]), (eN dn), (eN bn), (eN pn)]) Try.func46 kr rfl (show ([(v29 13), (v29 14), (v29 15), (v29 16)] : List Value) = [(Value.agg #[(eN ((s.ask (s.readOk ↑dn ↑bn ↑pn)).gD)), (eN ((s.ask (s.readOk ↑dn ↑bn ↑pn)).gB)), (eN ((s.ask (s.readOk ↑dn ↑bn ↑pn)).gP)), (sli L.bZ 0 ((s.ask (s.readOk ↑dn ↑bn ↑pn)).n) ((s.ask (s.readOk ↑dn ↑bn ↑pn)).n))]), (eN dn), (eN bn), (eN pn)] from by rw [e13, e14, e15, e16]) rfl (atZ_ok (s.ask (s.readOk ↑dn ↑bn ↑pn)) L.bZ dn bn pn _ r_hN.ok (by first | assumption | omega) (by first | assumption | omega) (by first | assumption | omega))
   refine ls_cons ?_ ?_
   ·
    intro v29 lo hi w_ k_ hO hd _ _ hk_ _ hR hold
    have r_hN := hR
    have e17 : v29 17 = (ptr L.bZ ((s.ask (s.readOk ↑dn ↑bn ↑pn)).ix dn bn pn)) := hd 17 kr
    clear hd hold
    refine ⟨_, rfl, gd rfl ?_⟩
    exact Does.is (d_nilCheck (b := L.bZ) (o := ((s.ask (s.readOk ↑dn ↑bn ↑pn)).ix dn bn pn)) e17)
   refine ls_cons ?_ ?_
   ·
    intro v29 lo hi w_ k_ hO hd _ _ hk_ _ hR hold
    have r_hN := hR
    have e18 : v29 18 = (ptr L.bZ ((s.ask (s.readOk ↑dn ↑bn ↑pn)).ix dn bn pn)) := hd 18 kr
    clear hd hold
    refine ⟨_, rfl, gd rfl ?_⟩
    refine Does.mono (nd_ldZ (i := ((s.ask (s.readOk ↑dn ↑bn ↑pn)).ix dn bn pn)) (Y := (Ors L.S X)) r_hN xo_s ⟨_, Try.underlying37, rfl⟩ e18 (NS.ix_lt (by first | assumption | omega) (by first | assumption | omega) (by first | assumption | omega))) (fun u w' h => ⟨h.2 ▸ h.1, h.2 ▸ Only.refl _ _⟩)
   refine ls_cons ?_ ?_
   ·
    intro v29 lo hi w_ k_ hO hd _ _ hk_ _ hR hold
    have r_hN := hR
    have d19 : Ps (Ors L.S X) (Seq kI ((s.ask (s.readOk ↑dn ↑bn ↑pn)).nl ((s.ask (s.readOk ↑dn ↑bn ↑pn)).ix dn bn pn)) (v29 19)) w_ := hd 19 kr
    have d9 : Ps (Ors L.S X) (Seq kB ((s.ask (s.readOk ↑dn ↑bn ↑pn)).dl ((s.ask (s.readOk ↑dn ↑bn ↑pn)).ix dn bn pn)) (v29 9)) w_ := hd 9 kr
    clear hd hold
    refine ⟨_, rfl, gd rfl ?_⟩
    refine Does.mono (R := ROw 5 eB (flipI ((s.ask (s.readOk ↑dn ↑bn ↑pn)).dl ((s.ask (s.readOk ↑dn ↑bn ↑pn)).ix dn bn pn)) ((s.ask (s.readOk ↑dn ↑bn ↑pn)).nl ((s.ask (s.readOk ↑dn ↑bn ↑pn)).ix dn bn pn))) w_) ?_ (fun u w' h => ⟨(h.ps).1.less (ors_old r_hN.lt (old_old (Nat.le_trans oW.size hO.size))), (h.ps).2⟩)
    exact d_call (xl := [.tmp 37, .tmp 47]) (al := [(v29 9), (v29 19)]) Try.func52 kr rfl rfl rfl (bitsFlip_ok ((s.ask (s.readOk ↑dn ↑bn ↑pn)).dl ((s.ask (s.readOk ↑dn ↑bn ↑pn)).ix dn bn pn)) ((s.ask (s.readOk ↑dn ↑bn ↑pn)).nl ((s.ask (s.readOk ↑dn ↑bn ↑pn)).ix dn bn pn)) (v29 9) (v29 19) _ (Ps.no d9) (Ps.no d19) fo fo)
   refine ls_cons ?_ ?_
   ·
    intro v29 lo hi w_ k_ hO hd _ _ hk_ _ hR hold
    have r_hN := hR
    have d20 : Ps (Ors L.S (Old W.heap.size)) (Seq kB (flipI ((s.ask (s.readOk ↑dn ↑bn ↑pn)).dl ((s.ask (s.readOk ↑dn ↑bn ↑pn)).ix dn bn pn)) ((s.ask (s.readOk ↑dn ↑bn ↑pn)).nl ((s.ask (s.readOk ↑dn ↑bn ↑pn)).ix dn bn pn))) (v29 20)) w_ := hd 20 kr
    clear hd hold
    refine ⟨_, rfl, gd rfl ?_⟩
    refine Does.mono (d_assign rfl) (fun u w' h => by obtain ⟨rfl, rfl⟩ := h; exact ⟨d20, Only.refl _ _⟩)
   refine ls_cons ?_ ?_
   ·
    intro v29 lo hi w_ k_ hO hd _ _ hk_ _ hR hold
    have r_hN := hR
    clear hd hold
    refine ⟨_, rfl, gd rfl ?_⟩
    exact Does.is (d_assign rfl)
   exact ls_nil
  ·
   exact ms_nil
  intro v29 lo_ hi_ w30 o31 hd iv_ hR
  have e0 : v29 0 = (ptr L.bN 0) := hd 0 (by decide)
  have e1 : v29 1 = (ptr L.bN 0) := hd 1 (by decide)
  have e2 : v29 2 = (ptr L.bN 3) := hd 2 (by decide)
  have e3 : v29 3 = (Value.agg #[(eN ((s.ask (s.readOk ↑dn ↑bn ↑pn)).gD)), (eN ((s.ask (s.readOk ↑dn ↑bn ↑pn)).gB)), (eN ((s.ask (s.readOk ↑dn ↑bn ↑pn)).gP)), (sli L.bD 0 ((s.ask (s.readOk ↑dn ↑bn ↑pn)).n) ((s.ask (s.readOk ↑dn ↑bn ↑pn)).n))]) := hd 3 (by decide)
  have e4 : v29 4 = (eN dn) := hd 4 (by decide)
  have e5 : v29 5 = (eN bn) := hd 5 (by decide)
  have e6 : v29 6 = (eN pn) := hd 6 (by decide)
  have e7 : v29 7 = (ptr L.bD ((s.ask (s.readOk ↑dn ↑bn ↑pn)).ix dn bn pn)) := hd 7 (by decide)
  have e8 : v29 8 = (ptr L.bD ((s.ask (s.readOk ↑dn ↑bn ↑pn)).ix dn bn pn)) := hd 8 (by decide)
  have e10 : v29 10 = (ptr L.bN 0) := hd 10 (by decide)
  have e11 : v29 11 = (ptr L.bN 0) := hd 11 (by decide)
  have e12 : v29 12 = (ptr L.bN 7) := hd 12 (by decide)
  have e13 : v29 13 = (Value.agg #[(eN ((s.ask (s.readOk ↑dn ↑bn ↑pn)).gD)), (eN ((s.ask (s.readOk ↑dn ↑bn ↑pn)).gB)), (eN ((s.ask (s.readOk ↑dn ↑bn ↑pn)).gP)), (sli L.bZ 0 ((s.ask (s.readOk ↑dn ↑bn ↑pn)).n) ((s.ask (s.readOk ↑dn ↑bn ↑pn)).n))]) := hd 13 (by decide)
  have e14 : v29 14 = (eN dn) := hd 14 (by decide)
  have e15 : v29 15 = (eN bn) := hd 15 (by decide)
  have e16 : v29 16 = (eN pn) := hd 16 (by decide)
  have e17 : v29 17 = (ptr L.bZ ((s.ask (s.readOk ↑dn ↑bn ↑pn)).ix dn bn pn)) := hd 17 (by decide)
  have e18 : v29 18 = (ptr L.bZ ((s.ask (s.readOk ↑dn ↑bn ↑pn)).ix dn bn pn)) := hd 18 (by decide)
  have e22 : v29 22 = (eN 0) := hd 22 (by decide)
  have f_v29_9 : Ps (Ors L.S X) (Seq kB ((s.ask (s.readOk ↑dn ↑bn ↑pn)).dl ((s.ask (s.readOk ↑dn ↑bn ↑pn)).ix dn bn pn)) (v29 9)) w30 := hd 9 (by decide)
  have f_v29_19 : Ps (Ors L.S X) (Seq kI ((s.ask (s.readOk ↑dn ↑bn ↑pn)).nl ((s.ask (s.readOk ↑dn ↑bn ↑pn)).ix dn bn pn)) (v29 19)) w30 := hd 19 (by decide)
  have f_v29_20 : Ps (Ors L.S (Old W.heap.size)) (Seq kB (flipI ((s.ask (s.readOk ↑dn ↑bn ↑pn)).dl ((s.ask (s.readOk ↑dn ↑bn ↑pn)).ix dn bn pn)) ((s.ask (s.readOk ↑dn ↑bn ↑pn)).nl ((s.ask (s.readOk ↑dn ↑bn ↑pn)).ix dn bn pn))) (v29 20)) w30 := hd 20 (by decide)
  have f_v29_21 : Ps (Ors L.S (Old W.heap.size)) (Seq kB (flipI ((s.ask (s.readOk ↑dn ↑bn ↑pn)).dl ((s.ask (s.readOk ↑dn ↑bn ↑pn)).ix dn bn pn)) ((s.ask (s.readOk ↑dn ↑bn ↑pn)).nl ((s.ask (s.readOk ↑dn ↑bn ↑pn)).ix dn bn pn))) (v29 21)) w30 := hd 21 (by decide)
  clear hd iv_ lo_ hi_
  refine fr_eq (l' := ([(ptr L.bN 0), (eN dn), (eN bn), (eN pn), (zf27 4), (zf27 5), (zf27 6), (zf27 7), (v29 21), (eN 0), (eN (s.askR (s.readOk ↑dn ↑bn ↑pn)))] ++ (zs zf27 11 14 ++ [(eN (s.askR (s.readOk ↑dn ↑bn ↑pn))), (Value.bool (!decide ((s.askR (s.readOk ↑dn ↑bn ↑pn)) = 0))), (zf27 27), (ptr L.bN 0), (ptr L.bN 0), (ptr L.bN 3), (Value.agg #[(eN ((s.ask (s.readOk ↑dn ↑bn ↑pn)).gD)), (eN ((s.ask (s.readOk ↑dn ↑bn ↑pn)).gB)), (eN ((s.ask (s.readOk ↑dn ↑bn ↑pn)).gP)), (sli L.bD 0 ((s.ask (s.readOk ↑dn ↑bn ↑pn)).n) ((s.ask (s.readOk ↑dn ↑bn ↑pn)).n))]), (eN dn), (eN bn), (eN pn), (ptr L.bD ((s.ask (s.readOk ↑dn ↑bn ↑pn)).ix dn bn pn)), (ptr L.bD ((s.ask (s.readOk ↑dn ↑bn ↑pn)).ix dn bn pn)), (v29 9), (ptr L.bN 0), (ptr L.bN 0), (ptr L.bN 7), (Value.agg #[(eN ((s.ask (s.readOk ↑dn ↑bn ↑pn)).gD)), (eN ((s.ask (s.readOk ↑dn ↑bn ↑pn)).gB)), (eN ((s.ask (s.readOk ↑dn ↑bn ↑pn)).gP)), (sli L.bZ 0 ((s.ask (s.readOk ↑dn ↑bn ↑pn)).n) ((s.ask (s.readOk ↑dn ↑bn ↑pn)).n))]), (eN dn), (eN bn), (eN pn), (ptr L.bZ ((s.ask (s.readOk ↑dn ↑bn ↑pn)).ix dn bn pn)), (ptr L.bZ ((s.ask (s.readOk ↑dn ↑bn ↑pn)).ix dn bn pn)), (v29 19), (v29 20)]))) (by rw [e0, e1, e2, e3, e4, e5, e6, e7, e8, e10, e11, e12, e13, e14, e15, e16, e17, e18, e22] <;> rfl) ?_
  clear e0 e1 e2 e3 e4 e5 e6 e7 e8 e10 e11 e12 e13 e14 e15 e16 e17 e18 e22
  replace hN := hR
  clear hR
  replace oW := oW.tail o31 (tl_sin (fun k h => h) tl_no)
  refine tN ?_
  refine forget (fun zf32 => (zs zf32 0 8 ++ [(v29 21), (eN 0)] ++ (zs zf32 10 39))) kr (fun zf32 => ?_)
  refine wpIn_ret ?_
  refine leave0 (v := (Value.tuple #[(v29 21), (eN 0)])) (res2 Try.results21 rfl rfl) ?_
  exact ⟨_, congrArg (fun x_ => Value.tuple #[_, eN x_]) c0.symm, by unfold NS.readL; rw [if_pos c0]; exact (f_v29_21.less (xx_skip xx_id)), hN, oW⟩
 refine pL ?_
 refine wI (d_move rfl) ?_
 refine wI (d_move rfl) ?_
 refine wI (d_move rfl) ?_
 refine wI (d_move rfl) ?_
 refine wI (d_move rfl) ?_
 refine wF ([(ptr L.bN 0), (eI d), (eI b), (eI p), undef, undef, undef, undef, vN, (eN 0), undef, (ptr L.bN 0), (ptr L.bN 0), (eI d), (eI b), (eI p)] ++ (us 33)) ?_
 refine wO (d_call (xl := [.tmp 12, .tmp 13, .tmp 14, .tmp 15]) (al := [(ptr L.bN 0), (eI d), (eI b), (eI p)]) Try.func44 kr rfl rfl rfl (pageq_ok L s _ hN (r := false) d b p (Bool.eq_false_iff.2 k0))) ?_
 rintro _ w33 ⟨rfl, o34⟩
 replace hN := hN.step0 o34
 replace oW := oW.tail0 o34
 refine wI (d_move rfl) ?_
 refine wX ?_
 refine wX ?_
 refine wX ?_
 refine wX ?_
 refine wX ?_
 refine wI (d_pick (b := false) (v := vF) rfl rfl) ?_
 refine wF ([(ptr L.bN 0), (eI d), (eI b), (eI p), undef, undef, undef, undef, vN, (eN 0), undef, (ptr L.bN 0), (ptr L.bN 0), (eI d), (eI b), (eI p), vF, vF] ++ (us 5 ++ [vF] ++ (us 25))) ?_
 refine wO (d_call (xl := [.tmp 11, .tmp 23]) (al := [(ptr L.bN 0), vF]) Try.func47 kr rfl rfl rfl (ask_ok L s _ hN (g := (s.readOk d b p)) false (by simp [NS.readOk, *]))) ?_
 rintro _ w35 ⟨rfl, a37, o36⟩
 replace oW := oW.tail o36 (fun k _ e => (fun k h => h) k e)
 replace hN := a37
 refine wI (d_assign rfl) ?_
 refine wD (tN ?_)
 refine forget (fun zf38 => ([(ptr L.bN 0), (eI d), (eI b), (eI p)] ++ (zs zf38 4 6 ++ [(eN (s.askR (s.readOk d b p)))] ++ (zs zf38 11 17 ++ (us 21))))) kr (fun zf38 => ?_)
 refine wQ (pL ?_)
 refine wI (d_move rfl) ?_
 refine wI (n_neq (a := (s.askR (s.readOk d b p))) (b := 0) rfl rfl rfl) ?_
 refine wD (tN ?_)
 refine cond_un rfl (fun c0 => ?_) (fun c0 => ?_)
 ·
  refine wQ (pL ?_)
  refine wI (d_move rfl) ?_
  refine wI (d_assign rfl) ?_
  refine wI (d_assign rfl) ?_
  refine wD (tN ?_)
  refine forget (fun zf39 => (zs zf39 0 8 ++ [vN, (eN (s.askR (s.readOk d b p)))] ++ (zs zf39 10 39))) kr (fun zf39 => ?_)
  refine wpIn_ret ?_
  refine then_r ?_
  refine leave0 (v := (Value.tuple #[vN, (eN (s.askR (s.readOk d b p)))])) (res2 Try.results21 rfl rfl) ?_
  exact ⟨_, rfl, by unfold NS.readL; rw [if_neg c0]; exact seq_nil, hN, oW⟩
 exact absurd c0 (NS.askR_no (by simp [NS.readOk, *]))
theorem prog_ok (L : NL) (s : NS) {X : Nat → Prop} (W : World) (hN : Nd L s X W) (d b p : Int) (l : List UInt8) (ul : Value) (hX : ∀ k, X k → k < W.heap.size) (hl : Ps (Ors L.S No) (Seq kB l ul) W) (gl : l.length ≤ 1048576) :
    CW Try.prog 20 #[(ptr L.bN 0), (eI d), (eI b), (eI p), ul] W (Rt (fun u w => u = eN (s.progR d b p l) ∧ Nd L (s.prog d b p l) X w ∧ Only L.S W w)) := by
 have oW : Only L.S W W := Only.refl _ _
 refine enter (al := [(ptr L.bN 0), (eI d), (eI b), (eI p), ul]) (k := 84) (l := ([(ptr L.bN 0), (eI d), (eI b), (eI p), ul] ++ (us 84))) Try.func20 rfl Try.ntmps20 rfl rfl ?_
 refine wQ (pL ?_)
 refine wI (d_assign rfl) ?_
 refine wD (tN (wQ ?_))
 by_cases k0 : (s.pageIn d b p) = true
 ·
  obtain ⟨hd0, hd1, hb0, hb1, hp0, hp1⟩ := NS.page_of k0
  obtain ⟨dn, rfl⟩ := Int.eq_ofNat_of_zero_le hd0
  replace hd1 : dn < s.gD := Int.ofNat_lt.1 hd1
  refine wp_eq (l' := ([(ptr L.bN 0), (eN dn), (eI b), (eI p), ul] ++ (us 5 ++ [(eN 0)] ++ (us 78)))) rfl ?_
  obtain ⟨bn, rfl⟩ := Int.eq_ofNat_of_zero_le hb0
  replace hb1 : bn < s.gB := Int.ofNat_lt.1 hb1
  refine wp_eq (l' := ([(ptr L.bN 0), (eN dn), (eN bn), (eI p), ul] ++ (us 5 ++ [(eN 0)] ++ (us 78)))) rfl ?_
  obtain ⟨pn, rfl⟩ := Int.eq_ofNat_of_zero_le hp0
  replace hp1 : pn < s.gP := Int.ofNat_lt.1 hp1
  refine wp_eq (l' := ([(ptr L.bN 0), (eN dn), (eN bn), (eN pn), ul] ++ (us 5 ++ [(eN 0)] ++ (us 78)))) rfl ?_
  by_cases k1 : (s.isBad ↑dn ↑bn) = true
  ·
   refine pL ?_
   refine wI (d_move rfl) ?_
   refine wI (d_move rfl) ?_
   refine wI (d_move rfl) ?_
   refine wI (d_move rfl) ?_
   refine wO (d_call (xl := [.tmp 14, .tmp 15, .tmp 16, .tmp 17]) (al := [(ptr L.bN 0), (eN dn), (eN bn), (eN pn)]) Try.func44 kr rfl rfl rfl (pageq_ok L s _ hN (r := true) (dn : Int) (bn : Int) (pn : Int) k0)) ?_
   rintro _ w11 ⟨rfl, o12⟩
   replace hl := hl.step0 o12
   replace hN := hN.step0 o12
   replace oW := oW.tail0 o12
   refine wI (d_move rfl) ?_
   refine wG (d_move rfl) ?_
   refine wF ([(ptr L.bN 0), (eN dn), (eN bn), (eN pn), ul] ++ (us 5 ++ [(eN 0), undef, undef, undef, (ptr L.bN 0), (eN dn), (eN bn), (eN pn), vT, vT, (ptr L.bN 0)] ++ (us 68))) ?_
   refine wG (d_move rfl) ?_
   refine wG (d_move rfl) ?_
   refine wpL.on rfl rfl rfl (nb rfl) rfl (d_call (xl := [.tmp 20, .tmp 21, .tmp 22]) (al := [(ptr L.bN 0), (eN dn), (eN bn)]) Try.func27 kr rfl rfl rfl (isBad_ok L s _ hN (r := true) (dn : Int) (bn : Int) k1)) ?_
   rintro _ w13 ⟨rfl, o14⟩
   replace hl := hl.step0 o14
   replace hN := hN.step0 o14
   replace oW := oW.tail0 o14
   refine wG (d_not rfl rfl) ?_
   refine wI (d_pick (b := true) (v := vF) rfl rfl) ?_
   refine wI (d_move rfl) ?_
   refine wX ?_
   refine wF ([(ptr L.bN 0), (eN dn), (eN bn), (eN pn), ul] ++ (us 5 ++ [(eN 0), undef, undef, undef, (ptr L.bN 0), (eN dn), (eN bn), (eN pn), vT, vT, (ptr L.bN 0), (eN dn), (eN bn), vT, vF, vF, vF] ++ (us 62))) ?_
   refine wX ?_
   refine wX ?_
   refine wI (d_pick (b := false) (v := vF) rfl rfl) ?_
   refine wI (d_move rfl) ?_
   refine wX ?_
   refine wX ?_
   refine wX ?_
   refine wF ([(ptr L.bN 0), (eN dn), (eN bn), (eN pn), ul] ++ (us 5 ++ [(eN 0), undef, undef, undef, (ptr L.bN 0), (eN dn), (eN bn), (eN pn), vT, vT, (ptr L.bN 0), (eN dn), (eN bn), vT, vF, vF, vF, undef, undef, undef, vF, vF] ++ (us 57))) ?_
   refine wX ?_
   refine wX ?_
   refine wX ?_
   refine wX ?_
   refine wX ?_
   refine wX ?_
   refine wX ?_
   refine wF ([(ptr L.bN 0), (eN dn), (eN bn), (eN pn), ul] ++ (us 5 ++ [(eN 0), undef, undef, undef, (ptr L.bN 0), (eN dn), (eN bn), (eN pn), vT, vT, (ptr L.bN 0), (eN dn), (eN bn), vT, vF, vF, vF, undef, undef, undef, vF, vF] ++ (us 57))) ?_
   refine wX ?_
   refine wX ?_
   refine wX ?_
   refine wI (d_pick (b := false) (v := vF) rfl rfl) ?_
   refine wI (d_assign rfl) ?_
   refine wD (tN ?_)
   refine forget (fun zf15 => ([(ptr L.bN 0), (eN dn), (eN bn), (eN pn), ul] ++ (zs zf15 5 6 ++ [vF] ++ (zs zf15 12 64 ++ (us 9 ++ [(zf15 85), (zf15 86), (zf15 87), (zf15 88)]))))) kr (fun zf15 => ?_)
   refine wQ (wQ (pL ?_))
   refine wI (d_move rfl) ?_
   refine wI (d_move rfl) ?_
   refine wO (d_call (xl := [.tmp 46, .tmp 47]) (al := [(ptr L.bN 0), vF]) Try.func47 kr rfl rfl rfl (ask_ok L s _ hN (g := (s.progOk ↑dn ↑bn ↑pn l)) false (by simp [NS.progOk, *] <;> omega))) ?_
   rintro _ w16 ⟨rfl, a18, o17⟩
   replace hl := hl.step o17 sub1
   replace oW := oW.tail o17 (fun k _ e => (fun k h => h) k e)
   replace hN := a18
   refine wI (d_assign rfl) ?_
   refine wD (tN (wQ (pL ?_)))
   refine wI (d_move rfl) ?_
   refine wI (n_neq (a := (s.askR (s.progOk ↑dn ↑bn ↑pn l))) (b := 0) rfl rfl rfl) ?_
   refine wD (tN ?_)
   refine cond_un rfl (fun c0 => ?_) (fun c0 => ?_)
   ·
    refine wQ (pL ?_)
    refine wI (d_move rfl) ?_
    refine wI (d_assign rfl) ?_
    refine wD (tN ?_)
    refine forget (fun zf19 => (zs zf19 0 10 ++ [(eN (s.askR (s.progOk ↑dn ↑bn ↑pn l)))] ++ (zs zf19 11 78))) kr (fun zf19 => ?_)
    refine wpIn_ret ?_
    refine then_r ?_
    refine leave0 (v := (eN (s.askR (s.progOk ↑dn ↑bn ↑pn l)))) (res1 Try.results20 rfl) ?_
    obtain ⟨e1_, e2_⟩ := NS.prog_no c0; exact ⟨congrArg eN e2_.symm, e1_ ▸ hN, oW⟩
   exact absurd c0 (NS.askR_no (by simp [NS.progOk, *]))
  by_cases k2 : l.length = 60
  ·
   refine pL ?_
   refine wI (d_move rfl) ?_
   refine wI (d_move rfl) ?_
   refine wI (d_move rfl) ?_
   refine wI (d_move rfl) ?_
   refine wO (d_call (xl := [.tmp 14, .tmp 15, .tmp 16, .tmp 17]) (al := [(ptr L.bN 0), (eN dn), (eN bn), (eN pn)]) Try.func44 kr rfl rfl rfl (pageq_ok L s _ hN (r := true) (dn : Int) (bn : Int) (pn : Int) k0)) ?_
   rintro _ w20 ⟨rfl, o21⟩
   replace hl := hl.step0 o21
   replace hN := hN.step0 o21
   replace oW := oW.tail0 o21
   refine wI (d_move rfl) ?_
   refine wG (d_move rfl) ?_
   refine wF ([(ptr L.bN 0), (eN dn), (eN bn), (eN pn), ul] ++ (us 5 ++ [(eN 0), undef, undef, undef, (ptr L.bN 0), (eN dn), (eN bn), (eN pn), vT, vT, (ptr L.bN 0)] ++ (us 68))) ?_
   refine wG (d_move rfl) ?_
   refine wG (d_move rfl) ?_
   refine wpL.on rfl rfl rfl (nb rfl) rfl (d_call (xl := [.tmp 20, .tmp 21, .tmp 22]) (al := [(ptr L.bN 0), (eN dn), (eN bn)]) Try.func27 kr rfl rfl rfl (isBad_ok L s _ hN (r := false) (dn : Int) (bn : Int) (Bool.eq_false_iff.2 k1))) ?_
   rintro _ w22 ⟨rfl, o23⟩
   replace hl := hl.step0 o23
   replace hN := hN.step0 o23
   replace oW := oW.tail0 o23
   refine wG (d_not rfl rfl) ?_
   refine wI (d_pick (b := true) (v := vT) rfl rfl) ?_
   refine wI (d_move rfl) ?_
   refine wG (d_move rfl) ?_
   refine wF ([(ptr L.bN 0), (eN dn), (eN bn), (eN pn), ul] ++ (us 5 ++ [(eN 0), undef, undef, undef, (ptr L.bN 0), (eN dn), (eN bn), (eN pn), vT, vT, (ptr L.bN 0), (eN dn), (eN bn), vF, vT, vT, vT, ul] ++ (us 61))) ?_
   refine wG (d_lenS rfl Try.underlying36 rfl hl) ?_
   refine wG (n_eql (a := l.length) (b := 60) rfl rfl (decide_eq_true k2)) ?_
   refine wI (d_pick (b := true) (v := vT) rfl rfl) ?_
   refine wI (d_move rfl) ?_
   refine wG (d_move rfl) ?_
   refine wG (d_nilCheck (b := L.bN) (o := 0) rfl) ?_
   refine wG (d_fieldAddr (j := 11) Try.underlying73 rfl s_ti71 (by decide) rfl rfl) ?_
   refine wF ([(ptr L.bN 0), (eN dn), (eN bn), (eN pn), ul] ++ (us 5 ++ [(eN 0), undef, undef, undef, (ptr L.bN 0), (eN dn), (eN bn), (eN pn), vT, vT, (ptr L.bN 0), (eN dn), (eN bn), vF, vT, vT, vT, ul, (eN l.length), vT, vT, vT, (ptr L.bN 0), (ptr L.bN 0), (ptr L.bN 11)] ++ (us 54))) ?_
   refine wG (nd_ld (v := L.ub) hN ⟨_, Try.underlying71, rfl⟩ rfl (fun _ => rfl)) ?_
   refine wG (d_move rfl) ?_
   refine wG (nd_ixU (i := dn) hN Try.underlying71 s_ti75 rfl (show _ = Value.int _ (dn : Int) from rfl) hd1) ?_
   refine wG (nd_ldU (i := dn) hN ⟨_, Try.underlying75, rfl⟩ rfl hd1) ?_
   refine wG (d_move rfl) ?_
   refine wG (d_index (b := (L.bk.getD dn 0)) (o := 0) (n := s.gB) (c := s.gB) (j := (bn * 3)) Try.underlying75 s_ti77 rfl (show _ = Value.int _ (bn : Int) from rfl) oo (Int.ofNat_lt.2 hb1) (by simp)) ?_
   refine wG (d_fieldAddr (j := bn * 3) Try.underlying77 rfl s_ti3 (by decide) rfl rfl) ?_
   refine wF ([(ptr L.bN 0), (eN dn), (eN bn), (eN pn), ul] ++ (us 5 ++ [(eN 0), undef, undef, undef, (ptr L.bN 0), (eN dn), (eN bn), (eN pn), vT, vT, (ptr L.bN 0), (eN dn), (eN bn), vF, vT, vT, vT, ul, (eN l.length), vT, vT, vT, (ptr L.bN 0), (ptr L.bN 0), (ptr L.bN 11), L.ub, (eN dn), (ixp L.ub dn), (sli (L.bk.getD dn 0) 0 s.gB s.gB), (eN bn), (ptr (L.bk.getD dn 0) (bn * 3)), (ptr (L.bk.getD dn 0) (bn * 3))] ++ (us 47))) ?_
   refine wG (nd_ldS (i := dn) (j := bn) (f := 0) hN ⟨_, Try.underlying3, rfl⟩ rfl hd1 hb1 (by decide) rfl) ?_
   refine wG (d_move rfl) ?_
   refine wG (n_eql (a := ((s.bl dn bn).nx)) (b := pn) rfl rfl rfl) ?_
   refine wI (d_pick (b := true) (v := (Value.bool (decide (((s.bl dn bn).nx) = pn)))) rfl rfl) ?_
   refine wI (d_assign rfl) ?_
   refine wD (tN ?_)
   refine forget (fun zf24 => ([(ptr L.bN 0), (eN dn), (eN bn), (eN pn), ul] ++ (zs zf24 5 6 ++ [(Value.bool (decide (((s.bl dn bn).nx) = pn)))] ++ (zs zf24 12 64 ++ (us 9 ++ [(zf24 85), (zf24 86), (zf24 87), (zf24 88)]))))) kr (fun zf24 => ?_)
   refine wQ (wQ (pL ?_))
   refine wI (d_move rfl) ?_
   refine wI (d_move rfl) ?_
   refine wO (d_call (xl := [.tmp 46, .tmp 47]) (al := [(ptr L.bN 0), (Value.bool (decide (((s.bl dn bn).nx) = pn)))]) Try.func47 kr rfl rfl rfl (ask_ok L s _ hN (g := (s.progOk ↑dn ↑bn ↑pn l)) (decide (((s.bl dn bn).nx) = pn)) (by simp [NS.progOk, *] <;> omega))) ?_
   rintro _ w25 ⟨rfl, a27, o26⟩
   replace hl := hl.step o26 sub1
   replace oW := oW.tail o26 (fun k _ e => (fun k h => h) k e)
   replace hN := a27
   refine wI (d_assign rfl) ?_
   refine wD (tN (wQ (pL ?_)))
   refine wI (d_move rfl) ?_
   refine wI (n_neq (a := (s.askR (s.progOk ↑dn ↑bn ↑pn l))) (b := 0) rfl rfl rfl) ?_
   refine wD (tN ?_)
   refine cond_un rfl (fun c0 => ?_) (fun c0 => ?_)
   ·
    refine wQ (pL ?_)
    refine wI (d_move rfl) ?_
    refine wI (d_assign rfl) ?_
    refine wD (tN ?_)
    refine forget (fun zf28 => (zs zf28 0 10 ++ [(eN (s.askR (s.progOk ↑dn ↑bn ↑pn l)))] ++ (zs zf28 11 78))) kr (fun zf28 => ?_)
    refine wpIn_ret ?_
    refine then_r ?_
    refine leave0 (v := (eN (s.askR (s.progOk ↑dn ↑bn ↑pn l)))) (res1 Try.results20 rfl) ?_
    obtain ⟨e1_, e2_⟩ := NS.prog_no c0; exact ⟨congrArg eN e2_.symm, e1_ ▸ hN, oW⟩
   refine wK (tN (wQ ?_))
   obtain ⟨hnx_, hl6_⟩ := NS.progOk_nx c0
   have okp_ : 4 ≤ s.gP ∧ s.gP ≤ 8 := hN.ok.p
   have okn_ := hN.ok.nx
   refine pL ?_
   refine wI (d_move rfl) ?_
   refine wI (d_nilCheck (b := L.bN) (o := 0) rfl) ?_
   refine wI (d_fieldAddr (j := 11) Try.underlying73 rfl s_ti71 (by decide) rfl rfl) ?_
   refine wF ([(ptr L.bN 0), (eN dn), (eN bn), (eN pn), ul] ++ (zs zf24 5 6 ++ [(Value.bool (decide (((s.bl dn bn).nx) = pn))), (eN (s.askR (s.progOk ↑dn ↑bn ↑pn l)))] ++ (zs zf24 13 33 ++ [(ptr L.bN 0), (Value.bool (decide (((s.bl dn bn).nx) = pn))), (eN (s.askR (s.progOk ↑dn ↑bn ↑pn l))), (eN (s.askR (s.progOk ↑dn ↑bn ↑pn l))), (Value.bool (!decide ((s.askR (s.progOk ↑dn ↑bn ↑pn l)) = 0))), (zf24 51), (ptr L.bN 0), (ptr L.bN 0), (ptr L.bN 11)] ++ (zs zf24 55 21 ++ (us 9 ++ [(zf24 85), (zf24 86), (zf24 87), (zf24 88)]))))) ?_
   refine wI (nd_ld (v := L.ub) hN ⟨_, Try.underlying71, rfl⟩ rfl (fun _ => rfl)) ?_
   refine wI (d_move rfl) ?_
   refine wI (nd_ixU (i := dn) hN Try.underlying71 s_ti75 rfl (show _ = Value.int _ (dn : Int) from rfl) hd1) ?_
   refine wI (nd_ldU (i := dn) hN ⟨_, Try.underlying75, rfl⟩ rfl hd1) ?_
   refine wI (d_move rfl) ?_
   refine wI (d_index (b := (L.bk.getD dn 0)) (o := 0) (n := ((s.ask (s.progOk ↑dn ↑bn ↑pn l)).gB)) (c := ((s.ask (s.progOk ↑dn ↑bn ↑pn l)).gB)) (j := (bn * 3)) Try.underlying75 s_ti77 rfl (show _ = Value.int _ (bn : Int) from rfl) oo (Int.ofNat_lt.2 hb1) (by simp)) ?_
   refine wI (d_fieldAddr (j := bn * 3) Try.underlying77 rfl s_ti3 (by decide) rfl rfl) ?_
   refine wI (nd_ldS (i := dn) (j := bn) (f := 0) hN ⟨_, Try.underlying3, rfl⟩ rfl hd1 hb1 (by decide) rfl) ?_
   refine wI (n_add (a := (((s.ask (s.progOk ↑dn ↑bn ↑pn l)).bl dn bn).nx)) (b := 1) rfl rfl (by show (s.bl dn bn).nx + 1 < _; omega)) ?_
   refine wF ([(ptr L.bN 0), (eN dn), (eN bn), (eN pn), ul] ++ (zs zf24 5 6 ++ [(Value.bool (decide (((s.bl dn bn).nx) = pn))), (eN (s.askR (s.progOk ↑dn ↑bn ↑pn l)))] ++ (zs zf24 13 33 ++ [(ptr L.bN 0), (Value.bool (decide (((s.bl dn bn).nx) = pn))), (eN (s.askR (s.progOk ↑dn ↑bn ↑pn l))), (eN (s.askR (s.progOk ↑dn ↑bn ↑pn l))), (Value.bool (!decide ((s.askR (s.progOk ↑dn ↑bn ↑pn l)) = 0))), (zf24 51), (ptr L.bN 0), (ptr L.bN 0), (ptr L.bN 11), L.ub, (eN dn), (ixp L.ub dn), (sli (L.bk.getD dn 0) 0 ((s.ask (s.progOk ↑dn ↑bn ↑pn l)).gB) ((s.ask (s.progOk ↑dn ↑bn ↑pn l)).gB)), (eN bn), (ptr (L.bk.getD dn 0) (bn * 3)), (ptr (L.bk.getD dn 0) (bn * 3)), (eN (((s.ask (s.progOk ↑dn ↑bn ↑pn l)).bl dn bn).nx)), (eN (((s.ask (s.progOk ↑dn ↑bn ↑pn l)).bl dn bn).nx + 1))] ++ (zs zf24 64 12 ++ (us 9 ++ [(zf24 85), (zf24 86), (zf24 87), (zf24 88)]))))) ?_
   refine wI (d_index (b := (L.bk.getD dn 0)) (o := 0) (n := ((s.ask (s.progOk ↑dn ↑bn ↑pn l)).gB)) (c := ((s.ask (s.progOk ↑dn ↑bn ↑pn l)).gB)) (j := (bn * 3)) Try.underlying75 s_ti77 rfl (show _ = Value.int _ (bn : Int) from rfl) oo (Int.ofNat_lt.2 hb1) (by simp)) ?_
   refine wI (d_fieldAddr (j := bn * 3) Try.underlying77 rfl s_ti3 (by decide) rfl rfl) ?_
   refine wO (nd_stS (i := dn) (j := bn) (f := 0) (x' := { (s.ask (s.progOk ↑dn ↑bn ↑pn l)).bl dn bn with nx := ((s.ask (s.progOk ↑dn ↑bn ↑pn l)).bl dn bn).nx + 1 }) hN s_ti3 rfl rfl rfl hd1 hb1 (by decide) rfl (by show (s.bl dn bn).nx + 1 ≤ 8; omega)) ?_
   rintro _ w29 ⟨a30, o31⟩
   replace hl := hl.step o31 sub1
   replace oW := oW.tail o31 (fun k _ e => (fun k h => h) k e)
   replace hN := a30
   refine wD (tN ?_)
   refine forget (fun zf32 => ([(ptr L.bN 0), (eN dn), (eN bn), (eN pn), ul] ++ (zs zf32 5 71 ++ (us 9 ++ [(zf32 85), (zf32 86), (zf32 87), (zf32 88)])))) kr (fun zf32 => ?_)
   refine wQ (pL ?_)
   refine wI (d_move rfl) ?_
   refine wI (d_nilCheck (b := L.bN) (o := 0) rfl) ?_
   refine wI (d_fieldAddr (j := 3) Try.underlying73 rfl s_ti65 (by decide) rfl rfl) ?_
   refine wI (nd_ldAg (vs := [(eN (((s.ask (s.progOk ↑dn ↑bn ↑pn l)).setB dn bn { (s.ask (s.progOk ↑dn ↑bn ↑pn l)).bl dn bn with nx := ((s.ask (s.progOk ↑dn ↑bn ↑pn l)).bl dn bn).nx + 1 }).gD)), (eN (((s.ask (s.progOk ↑dn ↑bn ↑pn l)).setB dn bn { (s.ask (s.progOk ↑dn ↑bn ↑pn l)).bl dn bn with nx := ((s.ask (s.progOk ↑dn ↑bn ↑pn l)).bl dn bn).nx + 1 }).gB)), (eN (((s.ask (s.progOk ↑dn ↑bn ↑pn l)).setB dn bn { (s.ask (s.progOk ↑dn ↑bn ↑pn l)).bl dn bn with nx := ((s.ask (s.progOk ↑dn ↑bn ↑pn l)).bl dn bn).nx + 1 }).gP)), (sli L.bD 0 (((s.ask (s.progOk ↑dn ↑bn ↑pn l)).setB dn bn { (s.ask (s.progOk ↑dn ↑bn ↑pn l)).bl dn bn with nx := ((s.ask (s.progOk ↑dn ↑bn ↑pn l)).bl dn bn).nx + 1 }).n) (((s.ask (s.progOk ↑dn ↑bn ↑pn l)).setB dn bn { (s.ask (s.progOk ↑dn ↑bn ↑pn l)).bl dn bn with nx := ((s.ask (s.progOk ↑dn ↑bn ↑pn l)).bl dn bn).nx + 1 }).n))]) hN ⟨_, Try.underlying65, rfl⟩ s_ti65 rfl (fun _ => rfl) rfl) ?_
   refine wI (d_move rfl) ?_
   refine wI (d_move rfl) ?_
   refine wI (d_move rfl) ?_
   refine wO (d_call (xl := [.tmp 69, .tmp 70, .tmp 71, .tmp 72]) (al := [(Value.agg #[(eN (((s.ask (s.progOk ↑dn ↑bn ↑pn l)).setB dn bn { (s.ask (s.progOk ↑dn ↑bn ↑pn l)).bl dn bn with nx := ((s.ask (s.progOk ↑dn ↑bn ↑pn l)).bl dn bn).nx + 1 }).gD)), (eN (((s.ask (s.progOk ↑dn ↑bn ↑pn l)).setB dn bn { (s.ask (s.progOk ↑dn ↑bn ↑pn l)).bl dn bn with nx := ((s.ask (s.progOk ↑dn ↑bn ↑pn l)).bl dn bn).nx + 1 }).gB)), (eN (((s.ask (s.progOk ↑dn ↑bn ↑pn l)).setB dn bn { (s.ask (s.progOk ↑dn ↑bn ↑pn l)).bl dn bn with nx := ((s.ask (s.progOk ↑dn ↑bn ↑pn l)).bl dn bn).nx + 1 }).gP)), (sli L.bD 0 (((s.ask (s.progOk ↑dn ↑bn ↑pn l)).setB dn bn { (s.ask (s.progOk ↑dn ↑bn ↑pn l)).bl dn bn with nx := ((s.ask (s.progOk ↑dn ↑bn ↑pn l)).bl dn bn).nx + 1 }).n) (((s.ask (s.progOk ↑dn ↑bn ↑pn l)).setB dn bn { (s.ask (s.progOk ↑dn ↑bn ↑pn l)).bl dn bn with nx := ((s.ask (s.progOk ↑dn ↑bn ↑pn l)).bl dn bn).nx + 1 }).n))]), (eN dn), (eN bn), (eN pn)]) Try.func48 kr rfl rfl rfl (atD_ok ((s.ask (s.progOk ↑dn ↑bn ↑pn l)).setB dn bn { (s.ask (s.progOk ↑dn ↑bn ↑pn l)).bl dn bn with nx := ((s.ask (s.progOk ↑dn ↑bn ↑pn l)).bl dn bn).nx + 1 }) L.bD dn bn pn _ hN.ok (by first | assumption | omega) (by first | assumption | omega) (by first | assumption | omega))) ?_
   rintro _ w33 ⟨rfl, o34⟩
   replace hl := hl.step0 o34
   replace hN := hN.step0 o34
   replace oW := oW.tail0 o34
   refine wI (d_assign rfl) ?_
   refine wF ([(ptr L.bN 0), (eN dn), (eN bn), (eN pn), ul] ++ (zs zf32 5 8 ++ [(ptr L.bD (((s.ask (s.progOk ↑dn ↑bn ↑pn l)).setB dn bn { (s.ask (s.progOk ↑dn ↑bn ↑pn l)).bl dn bn with nx := ((s.ask (s.progOk ↑dn ↑bn ↑pn l)).bl dn bn).nx + 1 }).ix dn bn pn))] ++ (zs zf32 14 52 ++ [(ptr L.bN 0), (ptr L.bN 0), (ptr L.bN 3), (Value.agg #[(eN (((s.ask (s.progOk ↑dn ↑bn ↑pn l)).setB dn bn { (s.ask (s.progOk ↑dn ↑bn ↑pn l)).bl dn bn with nx := ((s.ask (s.progOk ↑dn ↑bn ↑pn l)).bl dn bn).nx + 1 }).gD)), (eN (((s.ask (s.progOk ↑dn ↑bn ↑pn l)).setB dn bn { (s.ask (s.progOk ↑dn ↑bn ↑pn l)).bl dn bn with nx := ((s.ask (s.progOk ↑dn ↑bn ↑pn l)).bl dn bn).nx + 1 }).gB)), (eN (((s.ask (s.progOk ↑dn ↑bn ↑pn l)).setB dn bn { (s.ask (s.progOk ↑dn ↑bn ↑pn l)).bl dn bn with nx := ((s.ask (s.progOk ↑dn ↑bn ↑pn l)).bl dn bn).nx + 1 }).gP)), (sli L.bD 0 (((s.ask (s.progOk ↑dn ↑bn ↑pn l)).setB dn bn { (s.ask (s.progOk ↑dn ↑bn ↑pn l)).bl dn bn with nx := ((s.ask (s.progOk ↑dn ↑bn ↑pn l)).bl dn bn).nx + 1 }).n) (((s.ask (s.progOk ↑dn ↑bn ↑pn l)).setB dn bn { (s.ask (s.progOk ↑dn ↑bn ↑pn l)).bl dn bn with nx := ((s.ask (s.progOk ↑dn ↑bn ↑pn l)).bl dn bn).nx + 1 }).n))]), (eN dn), (eN bn), (eN pn), (ptr L.bD (((s.ask (s.progOk ↑dn ↑bn ↑pn l)).setB dn bn { (s.ask (s.progOk ↑dn ↑bn ↑pn l)).bl dn bn with nx := ((s.ask (s.progOk ↑dn ↑bn ↑pn l)).bl dn bn).nx + 1 }).ix dn bn pn)), (zf32 74), (zf32 75)] ++ (us 9 ++ [(zf32 85), (zf32 86), (zf32 87), (zf32 88)])))) ?_
   refine wD (tN ?_)
   refine forget (fun zf35 => ([(ptr L.bN 0), (zf35 1), (zf35 2), (zf35 3), ul] ++ (zs zf35 5 8 ++ [(ptr L.bD (((s.ask (s.progOk ↑dn ↑bn ↑pn l)).setB dn bn { (s.ask (s.progOk ↑dn ↑bn ↑pn l)).bl dn bn with nx := ((s.ask (s.progOk ↑dn ↑bn ↑pn l)).bl dn bn).nx + 1 }).ix dn bn pn))] ++ (zs zf35 14 62 ++ (us 9 ++ [(zf35 85), (zf35 86), (zf35 87), (zf35 88)]))))) kr (fun zf35 => ?_)
   refine wQ (wQ (pL ?_))
   refine wI (d_move rfl) ?_
   refine wO (d_call (xl := [.tmp 74]) (al := [(ptr L.bN 0)]) Try.func49 kr rfl rfl rfl (goes_ok L ((s.ask (s.progOk ↑dn ↑bn ↑pn l)).setB dn bn { (s.ask (s.progOk ↑dn ↑bn ↑pn l)).bl dn bn with nx := ((s.ask (s.progOk ↑dn ↑bn ↑pn l)).bl dn bn).nx + 1 }) _ hN)) ?_
   rintro _ w36 ⟨rfl, a38, o37⟩
   replace hl := hl.step o37 sub1
   replace oW := oW.tail o37 (fun k _ e => (fun k h => h) k e)
   replace hN := a38
   refine wD (tN ?_)
   refine cond_b rfl (fun c1 => ?_) (fun c1 => ?_)
   ·
    refine wQ ?_
    have l3_ : (((s.ask (s.progOk ↑dn ↑bn ↑pn l)).setB dn bn { (s.ask (s.progOk ↑dn ↑bn ↑pn l)).bl dn bn with nx := ((s.ask (s.progOk ↑dn ↑bn ↑pn l)).bl dn bn).nx + 1 }).goes).mask.length ≤ 1048576 := hN.ok.ml
    refine wp_eq (l' := ([(ptr L.bN 0), (zf35 1), (zf35 2), (zf35 3), ul] ++ (zs zf35 5 8 ++ [(ptr L.bD (((s.ask (s.progOk ↑dn ↑bn ↑pn l)).setB dn bn { (s.ask (s.progOk ↑dn ↑bn ↑pn l)).bl dn bn with nx := ((s.ask (s.progOk ↑dn ↑bn ↑pn l)).bl dn bn).nx + 1 }).ix dn bn pn))] ++ (zs zf35 14 60 ++ [(ptr L.bN 0), (Value.bool (((s.ask (s.progOk ↑dn ↑bn ↑pn l)).setB dn bn { (s.ask (s.progOk ↑dn ↑bn ↑pn l)).bl dn bn with nx := ((s.ask (s.progOk ↑dn ↑bn ↑pn l)).bl dn bn).nx + 1 }).goesR))] ++ (us 9 ++ [(zf35 85), (zf35 86), (zf35 87), (zf35 88)]))))) rfl ?_
    refine drawnT (O := (Ors L.S No)) (n := 10) 8 [0, 0, 0, 0, 8, 24, 56, 126, 255, 511] [(0, 76), (1, 77), (2, 78), (3, 79), (4, 80), (5, 81), (6, 82), (7, 83), (8, 84)] [(0, 76), (1, 77), (2, 78), (3, 79), (4, 80), (5, 81), (6, 82), (7, 83)] [0, 1, 2, 3, 4, 5, 6, 7] [] (fun i_ => ([RF.is (Ors L.S No) (ptr L.bD (((s.ask (s.progOk ↑dn ↑bn ↑pn l)).setB dn bn { (s.ask (s.progOk ↑dn ↑bn ↑pn l)).bl dn bn with nx := ((s.ask (s.progOk ↑dn ↑bn ↑pn l)).bl dn bn).nx + 1 }).ix dn bn pn)), RF.ps (Ors L.S No) (Ors L.S (Old W.heap.size)) (Seq kB onesW) (ors_mono no_any), RF.is (Ors L.S No) ul, RF.is (Ors L.S No) (ptr L.bN 0), RF.is (Ors L.S No) (ptr L.bN 0), RF.is (Ors L.S No) (ptr L.bN 13), RF.ps (Ors L.S No) (Ors L.S X) (Seq kB ((((s.ask (s.progOk ↑dn ↑bn ↑pn l)).setB dn bn { (s.ask (s.progOk ↑dn ↑bn ↑pn l)).bl dn bn with nx := ((s.ask (s.progOk ↑dn ↑bn ↑pn l)).bl dn bn).nx + 1 }).goes).mask)) (ors_mono no_any), RF.ps (Ors L.S No) (Ors L.S (Old W.heap.size)) (Seq kB (mixR onesW l ((((s.ask (s.progOk ↑dn ↑bn ↑pn l)).setB dn bn { (s.ask (s.progOk ↑dn ↑bn ↑pn l)).bl dn bn with nx := ((s.ask (s.progOk ↑dn ↑bn ↑pn l)).bl dn bn).nx + 1 }).goes).mask))) (ors_mono no_any)] : List (RF (Ors L.S No))).getD i_ (RF.any (Ors L.S No))) (fun _ w_ => Nd L (((s.ask (s.progOk ↑dn ↑bn ↑pn l)).setB dn bn { (s.ask (s.progOk ↑dn ↑bn ↑pn l)).bl dn bn with nx := ((s.ask (s.progOk ↑dn ↑bn ↑pn l)).bl dn bn).nx + 1 }).goes) X w_) (fun v39 => ([(ptr L.bN 0), (zf35 1), (zf35 2), (zf35 3), ul] ++ (zs zf35 5 8 ++ [(ptr L.bD (((s.ask (s.progOk ↑dn ↑bn ↑pn l)).setB dn bn { (s.ask (s.progOk ↑dn ↑bn ↑pn l)).bl dn bn with nx := ((s.ask (s.progOk ↑dn ↑bn ↑pn l)).bl dn bn).nx + 1 }).ix dn bn pn))] ++ (zs zf35 14 60 ++ [(ptr L.bN 0), (Value.bool (((s.ask (s.progOk ↑dn ↑bn ↑pn l)).setB dn bn { (s.ask (s.progOk ↑dn ↑bn ↑pn l)).bl dn bn with nx := ((s.ask (s.progOk ↑dn ↑bn ↑pn l)).bl dn bn).nx + 1 }).goesR)), (v39 0), (v39 1), (v39 2), (v39 3), (v39 4), (v39 5), (v39 6), (v39 7), (v39 8), (zf35 85), (zf35 86), (zf35 87), (zf35 88)])))) (fun v39 => ([(ptr L.bN 0), (zf35 1), (zf35 2), (zf35 3), ul] ++ (zs zf35 5 8 ++ [(ptr L.bD (((s.ask (s.progOk ↑dn ↑bn ↑pn l)).setB dn bn { (s.ask (s.progOk ↑dn ↑bn ↑pn l)).bl dn bn with nx := ((s.ask (s.progOk ↑dn ↑bn ↑pn l)).bl dn bn).nx + 1 }).ix dn bn pn))] ++ (zs zf35 14 60 ++ [(ptr L.bN 0), (Value.bool (((s.ask (s.progOk ↑dn ↑bn ↑pn l)).setB dn bn { (s.ask (s.progOk ↑dn ↑bn ↑pn l)).bl dn bn with nx := ((s.ask (s.progOk ↑dn ↑bn ↑pn l)).bl dn bn).nx + 1 }).goesR)), (v39 0), (v39 1), (v39 2), (v39 3), (v39 4), (v39 5), (v39 6), (v39 7), undef, (zf35 85), (zf35 86), (zf35 87), (zf35 88)])))) s_mx kr rfl (by decide) (by rfl) kr kr kr (by rfl) (fun v_ => by kernel_rfl) (fun v_ => by kernel_rfl) (fun _ => fun w_ w2_ h ho => by have r_hN := h; exact r_hN.step0 ho) hN ?_ ?_ ?_
    ·
     refine ls_cons ?_ ?_
     ·
      intro v39 lo hi w_ k_ hO hd _ _ hk_ _ hR hold
      have r_hN := hR
      clear hd hold
      refine ⟨_, rfl, gd rfl ?_⟩
      exact Does.is (d_move rfl)
     refine ls_cons ?_ ?_
     ·
      intro v39 lo hi w_ k_ hO hd _ _ hk_ _ hR hold
      have r_hN := hR
      clear hd hold
      refine ⟨_, rfl, gd rfl ?_⟩
      refine Does.mono (R := ROw 5 eB onesW w_) ?_ (fun u w' h => ⟨(h.ps).1.less (ors_old r_hN.lt (old_old (Nat.le_trans oW.size hO.size))), (h.ps).2⟩)
      exact d_call (xl := []) (al := []) Try.func39 kr rfl rfl rfl (blank_ok _)
     refine ls_cons ?_ ?_
     ·
      intro v39 lo hi w_ k_ hO hd _ _ hk_ _ hR hold
      have r_hN := hR
      clear hd hold
      refine ⟨_, rfl, gd rfl ?_⟩
      exact Does.is (d_move rfl)
     refine ls_cons ?_ ?_
     ·
      intro v39 lo hi w_ k_ hO hd _ _ hk_ _ hR hold
      have r_hN := hR
      clear hd hold
      refine ⟨_, rfl, gd rfl ?_⟩
      exact Does.is (d_move rfl)
     refine ls_cons ?_ ?_
     ·
      intro v39 lo hi w_ k_ hO hd _ _ hk_ _ hR hold
      have r_hN := hR
      have e3 : v39 3 = (ptr L.bN 0) := hd 3 kr
      clear hd hold
      refine ⟨_, rfl, gd rfl ?_⟩
      exact Does.is (d_nilCheck (b := L.bN) (o := 0) e3)
     refine ls_cons ?_ ?_
     ·
      intro v39 lo hi w_ k_ hO hd _ _ hk_ _ hR hold
      have r_hN := hR
      have e4 : v39 4 = (ptr L.bN 0) := hd 4 kr
      clear hd hold
      refine ⟨_, rfl, gd rfl ?_⟩
      exact Does.is (d_fieldAddr (j := 13) Try.underlying73 rfl s_ti36 (by decide) e4 rfl)
     refine ls_cons ?_ ?_
     ·
      intro v39 lo hi w_ k_ hO hd _ _ hk_ _ hR hold
      have r_hN := hR
      have e5 : v39 5 = (ptr L.bN 13) := hd 5 kr
      clear hd hold
      refine ⟨_, rfl, gd rfl ?_⟩
      refine Does.mono (nd_ldm (Y := (Ors L.S X)) r_hN xo_s ⟨_, Try.underlying36, rfl⟩ e5) (fun u w' h => ⟨h.2 ▸ h.1, h.2 ▸ Only.refl _ _⟩)
     refine ls_cons ?_ ?_
     ·
      intro v39 lo hi w_ k_ hO hd _ _ hk_ _ hR hold
      have r_hN := hR
      have d1 : Ps (Ors L.S (Old W.heap.size)) (Seq kB onesW (v39 1)) w_ := hd 1 kr
      have e2 : v39 2 = ul := hd 2 kr
      have d6 : Ps (Ors L.S X) (Seq kB ((((s.ask (s.progOk ↑dn ↑bn ↑pn l)).setB dn bn { (s.ask (s.progOk ↑dn ↑bn ↑pn l)).bl dn bn with nx := ((s.ask (s.progOk ↑dn ↑bn ↑pn l)).bl dn bn).nx + 1 }).goes).mask) (v39 6)) w_ := hd 6 kr
      clear hd hold
      refine ⟨_, rfl, gd rfl ?_⟩
      refine Does.mono (R := ROw 5 eB (mixR onesW l ((((s.ask (s.progOk ↑dn ↑bn ↑pn l)).setB dn bn { (s.ask (s.progOk ↑dn ↑bn ↑pn l)).bl dn bn with nx := ((s.ask (s.progOk ↑dn ↑bn ↑pn l)).bl dn bn).nx + 1 }).goes).mask)) w_) ?_ (fun u w' h => ⟨(h.ps).1.less (ors_old r_hN.lt (old_old (Nat.le_trans oW.size hO.size))), (h.ps).2⟩)
      exact d_call (xl := [.tmp 77, .tmp 78, .tmp 82]) (al := [(v39 1), ul, (v39 6)]) Try.func50 kr rfl (show ([(v39 1), (v39 2), (v39 6)] : List Value) = [(v39 1), ul, (v39 6)] from by rw [e2]) rfl (bitsMix_ok onesW l ((((s.ask (s.progOk ↑dn ↑bn ↑pn l)).setB dn bn { (s.ask (s.progOk ↑dn ↑bn ↑pn l)).bl dn bn with nx := ((s.ask (s.progOk ↑dn ↑bn ↑pn l)).bl dn bn).nx + 1 }).goes).mask) (v39 1) ul (v39 6) _ (Ps.no d1) (Ps.no (hl.step hO (ors_mono no_any))) (Ps.no d6) (by have := onesW_len; first | omega | (simp; done) | (simp; omega)) fo fo)
     exact ls_nil
    ·
     exact ms_nil
    intro v39 lo_ hi_ w40 o41 hd iv_ hR
    have e0 : v39 0 = (ptr L.bD (((s.ask (s.progOk ↑dn ↑bn ↑pn l)).setB dn bn { (s.ask (s.progOk ↑dn ↑bn ↑pn l)).bl dn bn with nx := ((s.ask (s.progOk ↑dn ↑bn ↑pn l)).bl dn bn).nx + 1 }).ix dn bn pn)) := hd 0 (by decide)
    have e2 : v39 2 = ul := hd 2 (by decide)
    have e3 : v39 3 = (ptr L.bN 0) := hd 3 (by decide)
    have e4 : v39 4 = (ptr L.bN 0) := hd 4 (by decide)
    have e5 : v39 5 = (ptr L.bN 13) := hd 5 (by decide)
    have f_v39_1 : Ps (Ors L.S (Old W.heap.size)) (Seq kB onesW (v39 1)) w40 := hd 1 (by decide)
    have f_v39_6 : Ps (Ors L.S X) (Seq kB ((((s.ask (s.progOk ↑dn ↑bn ↑pn l)).setB dn bn { (s.ask (s.progOk ↑dn ↑bn ↑pn l)).bl dn bn with nx := ((s.ask (s.progOk ↑dn ↑bn ↑pn l)).bl dn bn).nx + 1 }).goes).mask) (v39 6)) w40 := hd 6 (by decide)
    have f_v39_7 : Ps (Ors L.S (Old W.heap.size)) (Seq kB (mixR onesW l ((((s.ask (s.progOk ↑dn ↑bn ↑pn l)).setB dn bn { (s.ask (s.progOk ↑dn ↑bn ↑pn l)).bl dn bn with nx := ((s.ask (s.progOk ↑dn ↑bn ↑pn l)).bl dn bn).nx + 1 }).goes).mask)) (v39 7)) w40 := hd 7 (by decide)
    clear hd iv_ lo_ hi_
    refine wpL.flat ([(ptr L.bN 0), (zf35 1), (zf35 2), (zf35 3), ul] ++ (zs zf35 5 8 ++ [(ptr L.bD (((s.ask (s.progOk ↑dn ↑bn ↑pn l)).setB dn bn { (s.ask (s.progOk ↑dn ↑bn ↑pn l)).bl dn bn with nx := ((s.ask (s.progOk ↑dn ↑bn ↑pn l)).bl dn bn).nx + 1 }).ix dn bn pn))] ++ (zs zf35 14 60 ++ [(ptr L.bN 0), (Value.bool (((s.ask (s.progOk ↑dn ↑bn ↑pn l)).setB dn bn { (s.ask (s.progOk ↑dn ↑bn ↑pn l)).bl dn bn with nx := ((s.ask (s.progOk ↑dn ↑bn ↑pn l)).bl dn bn).nx + 1 }).goesR)), (ptr L.bD (((s.ask (s.progOk ↑dn ↑bn ↑pn l)).setB dn bn { (s.ask (s.progOk ↑dn ↑bn ↑pn l)).bl dn bn with nx := ((s.ask (s.progOk ↑dn ↑bn ↑pn l)).bl dn bn).nx + 1 }).ix dn bn pn)), (v39 1), ul, (ptr L.bN 0), (ptr L.bN 0), (ptr L.bN 13), (v39 6), (v39 7), undef, (zf35 85), (zf35 86), (zf35 87), (zf35 88)]))) (by rw [e0, e2, e3, e4, e5] <;> rfl) ?_
    clear e0 e2 e3 e4 e5
    replace hl := hl.step o41 (ors_mono no_any)
    replace hN := hR
    clear hR
    replace oW := oW.tail o41 (tl_sin (fun k h => h) tl_no)
    refine wI (d_nilCheck (b := L.bD) (o := (((s.ask (s.progOk ↑dn ↑bn ↑pn l)).setB dn bn { (s.ask (s.progOk ↑dn ↑bn ↑pn l)).bl dn bn with nx := ((s.ask (s.progOk ↑dn ↑bn ↑pn l)).bl dn bn).nx + 1 }).ix dn bn pn)) rfl) ?_
    refine wF ([(ptr L.bN 0), (zf35 1), (zf35 2), (zf35 3), ul] ++ (zs zf35 5 8 ++ [(ptr L.bD (((s.ask (s.progOk ↑dn ↑bn ↑pn l)).setB dn bn { (s.ask (s.progOk ↑dn ↑bn ↑pn l)).bl dn bn with nx := ((s.ask (s.progOk ↑dn ↑bn ↑pn l)).bl dn bn).nx + 1 }).ix dn bn pn))] ++ (zs zf35 14 60 ++ [(ptr L.bN 0), (Value.bool (((s.ask (s.progOk ↑dn ↑bn ↑pn l)).setB dn bn { (s.ask (s.progOk ↑dn ↑bn ↑pn l)).bl dn bn with nx := ((s.ask (s.progOk ↑dn ↑bn ↑pn l)).bl dn bn).nx + 1 }).goesR)), (ptr L.bD (((s.ask (s.progOk ↑dn ↑bn ↑pn l)).setB dn bn { (s.ask (s.progOk ↑dn ↑bn ↑pn l)).bl dn bn with nx := ((s.ask (s.progOk ↑dn ↑bn ↑pn l)).bl dn bn).nx + 1 }).ix dn bn pn)), (v39 1), ul, (ptr L.bN 0), (ptr L.bN 0), (ptr L.bN 13), (v39 6), (v39 7), (ptr L.bD (((s.ask (s.progOk ↑dn ↑bn ↑pn l)).setB dn bn { (s.ask (s.progOk ↑dn ↑bn ↑pn l)).bl dn bn with nx := ((s.ask (s.progOk ↑dn ↑bn ↑pn l)).bl dn bn).nx + 1 }).ix dn bn pn)), (zf35 85), (zf35 86), (zf35 87), (zf35 88)]))) ?_
    refine wO (nd_stD (i := (((s.ask (s.progOk ↑dn ↑bn ↑pn l)).setB dn bn { (s.ask (s.progOk ↑dn ↑bn ↑pn l)).bl dn bn with nx := ((s.ask (s.progOk ↑dn ↑bn ↑pn l)).bl dn bn).nx + 1 }).ix dn bn pn)) (Y := (Ors L.S X)) (l := (mixR onesW l ((((s.ask (s.progOk ↑dn ↑bn ↑pn l)).setB dn bn { (s.ask (s.progOk ↑dn ↑bn ↑pn l)).bl dn bn with nx := ((s.ask (s.progOk ↑dn ↑bn ↑pn l)).bl dn bn).nx + 1 }).goes).mask))) hN ox_s s_ti36 rfl rfl (f_v39_7.less (Y := (Ors L.S X)) (xx_ors (lt_old hX))) (NS.ix_lt (by first | assumption | omega) (by first | assumption | omega) (by first | assumption | omega)) (mixR60 onesW_len hl6_)) ?_
    rintro _ w42 ⟨a43, o44⟩
    replace hl := hl.step o44 sub1
    replace f_v39_1 := f_v39_1.step o44 sub1
    replace f_v39_6 := f_v39_6.step o44 sub1
    replace f_v39_7 := f_v39_7.step o44 sub1
    replace oW := oW.tail o44 (fun k _ e => (fun k h => h) k e)
    replace hN := a43
    refine wF ([(ptr L.bN 0), (zf35 1), (zf35 2), (zf35 3), ul] ++ (zs zf35 5 8 ++ [(ptr L.bD (((s.ask (s.progOk ↑dn ↑bn ↑pn l)).setB dn bn { (s.ask (s.progOk ↑dn ↑bn ↑pn l)).bl dn bn with nx := ((s.ask (s.progOk ↑dn ↑bn ↑pn l)).bl dn bn).nx + 1 }).ix dn bn pn))] ++ (zs zf35 14 60 ++ [(ptr L.bN 0), (Value.bool (((s.ask (s.progOk ↑dn ↑bn ↑pn l)).setB dn bn { (s.ask (s.progOk ↑dn ↑bn ↑pn l)).bl dn bn with nx := ((s.ask (s.progOk ↑dn ↑bn ↑pn l)).bl dn bn).nx + 1 }).goesR)), (ptr L.bD (((s.ask (s.progOk ↑dn ↑bn ↑pn l)).setB dn bn { (s.ask (s.progOk ↑dn ↑bn ↑pn l)).bl dn bn with nx := ((s.ask (s.progOk ↑dn ↑bn ↑pn l)).bl dn bn).nx + 1 }).ix dn bn pn)), (v39 1), ul, (ptr L.bN 0), (ptr L.bN 0), (ptr L.bN 13), (v39 6), (v39 7), (ptr L.bD (((s.ask (s.progOk ↑dn ↑bn ↑pn l)).setB dn bn { (s.ask (s.progOk ↑dn ↑bn ↑pn l)).bl dn bn with nx := ((s.ask (s.progOk ↑dn ↑bn ↑pn l)).bl dn bn).nx + 1 }).ix dn bn pn)), (zf35 85), (zf35 86), (zf35 87), (zf35 88)]))) ?_
    refine wD (tN ?_)
    refine forget (fun zf45 => (zs zf45 0 89)) kr (fun zf45 => ?_)
    refine wQ (pL ?_)
    refine wI (d_assign rfl) ?_
    refine wD (tN ?_)
    refine wpIn_ret ?_
    refine then_r ?_
    refine leave0 (v := (eN 8)) (res1 Try.results20 rfl) ?_
    obtain ⟨e1_, e2_⟩ := NS.prog_torn c0 c1; exact ⟨congrArg eN e2_.symm, by rw [e1_]; exact hN, oW⟩
   refine wK (tN (wQ (pL ?_)))
   refine wI (d_move rfl) ?_
   refine wI (d_move rfl) ?_
   refine wO (d_call (xl := [.tmp 86]) (al := [ul]) Try.func51 kr rfl rfl rfl (cloneB_ok l ul _ (Ps.no hl) fo)) ?_
   rintro u48 w46 f49
   replace f49 := f49.ps
   obtain ⟨f49, o47⟩ := f49
   replace f49 := f49.less (Y := (Ors L.S (Old W.heap.size))) (ors_old hN.lt (old_old oW.size))
   replace hl := hl.step0 o47
   replace hN := hN.step0 o47
   replace oW := oW.tail0 o47
   refine wI (d_nilCheck (b := L.bD) (o := (((s.ask (s.progOk ↑dn ↑bn ↑pn l)).setB dn bn { (s.ask (s.progOk ↑dn ↑bn ↑pn l)).bl dn bn with nx := ((s.ask (s.progOk ↑dn ↑bn ↑pn l)).bl dn bn).nx + 1 }).ix dn bn pn)) rfl) ?_
   refine wO (nd_stD (i := (((s.ask (s.progOk ↑dn ↑bn ↑pn l)).setB dn bn { (s.ask (s.progOk ↑dn ↑bn ↑pn l)).bl dn bn with nx := ((s.ask (s.progOk ↑dn ↑bn ↑pn l)).bl dn bn).nx + 1 }).ix dn bn pn)) (Y := (Ors L.S X)) (l := l) hN ox_s s_ti36 rfl rfl (f49.less (Y := (Ors L.S X)) (xx_ors (lt_old hX))) (NS.ix_lt (by first | assumption | omega) (by first | assumption | omega) (by first | assumption | omega)) hl6_) ?_
   rintro _ w50 ⟨a51, o52⟩
   replace hl := hl.step o52 sub1
   replace f49 := f49.step o52 sub1
   replace oW := oW.tail o52 (fun k _ e => (fun k h => h) k e)
   replace hN := a51
   refine wD (tN ?_)
   refine forget (fun zf53 => (zs zf53 0 89)) kr (fun zf53 => ?_)
   refine wQ (pL ?_)
   refine wI (d_assign rfl) ?_
   refine wD (tN ?_)
   refine wpIn_ret ?_
   refine leave0 (v := (eN 0)) (res1 Try.results20 rfl) ?_
   obtain ⟨e1_, e2_⟩ := NS.prog_yes c0 c1; exact ⟨congrArg eN e2_.symm, by rw [e1_]; exact hN, oW⟩
  refine pL ?_
  refine wI (d_move rfl) ?_
  refine wI (d_move rfl) ?_
  refine wI (d_move rfl) ?_
  refine wI (d_move rfl) ?_
  refine wO (d_call (xl := [.tmp 14, .tmp 15, .tmp 16, .tmp 17]) (al := [(ptr L.bN 0), (eN dn), (eN bn), (eN pn)]) Try.func44 kr rfl rfl rfl (pageq_ok L s _ hN (r := true) (dn : Int) (bn : Int) (pn : Int) k0)) ?_
  rintro _ w54 ⟨rfl, o55⟩
  replace hl := hl.step0 o55
  replace hN := hN.step0 o55
  replace oW := oW.tail0 o55
  refine wI (d_move rfl) ?_
  refine wG (d_move rfl) ?_
  refine wF ([(ptr L.bN 0), (eN dn), (eN bn), (eN pn), ul] ++ (us 5 ++ [(eN 0), undef, undef, undef, (ptr L.bN 0), (eN dn), (eN bn), (eN pn), vT, vT, (ptr L.bN 0)] ++ (us 68))) ?_
  refine wG (d_move rfl) ?_
  refine wG (d_move rfl) ?_
  refine wpL.on rfl rfl rfl (nb rfl) rfl (d_call (xl := [.tmp 20, .tmp 21, .tmp 22]) (al := [(ptr L.bN 0), (eN dn), (eN bn)]) Try.func27 kr rfl rfl rfl (isBad_ok L s _ hN (r := false) (dn : Int) (bn : Int) (Bool.eq_false_iff.2 k1))) ?_
  rintro _ w56 ⟨rfl, o57⟩
  replace hl := hl.step0 o57
  replace hN := hN.step0 o57
  replace oW := oW.tail0 o57
  refine wG (d_not rfl rfl) ?_
  refine wI (d_pick (b := true) (v := vT) rfl rfl) ?_
  refine wI (d_move rfl) ?_
  refine wG (d_move rfl) ?_
  refine wF ([(ptr L.bN 0), (eN dn), (eN bn), (eN pn), ul] ++ (us 5 ++ [(eN 0), undef, undef, undef, (ptr L.bN 0), (eN dn), (eN bn), (eN pn), vT, vT, (ptr L.bN 0), (eN dn), (eN bn), vF, vT, vT, vT, ul] ++ (us 61))) ?_
  refine wG (d_lenS rfl Try.underlying36 rfl hl) ?_
  refine wG (n_eql (a := l.length) (b := 60) rfl rfl (decide_eq_false k2)) ?_
  refine wI (d_pick (b := true) (v := vF) rfl rfl) ?_
  refine wI (d_move rfl) ?_
  refine wX ?_
  refine wX ?_
  refine wX ?_
  refine wF ([(ptr L.bN 0), (eN dn), (eN bn), (eN pn), ul] ++ (us 5 ++ [(eN 0), undef, undef, undef, (ptr L.bN 0), (eN dn), (eN bn), (eN pn), vT, vT, (ptr L.bN 0), (eN dn), (eN bn), vF, vT, vT, vT, ul, (eN l.length), vF, vF, vF] ++ (us 57))) ?_
  refine wX ?_
  refine wX ?_
  refine wX ?_
  refine wX ?_
  refine wX ?_
  refine wX ?_
  refine wX ?_
  refine wF ([(ptr L.bN 0), (eN dn), (eN bn), (eN pn), ul] ++ (us 5 ++ [(eN 0), undef, undef, undef, (ptr L.bN 0), (eN dn), (eN bn), (eN pn), vT, vT, (ptr L.bN 0), (eN dn), (eN bn), vF, vT, vT, vT, ul, (eN l.length), vF, vF, vF] ++ (us 57))) ?_
  refine wX ?_
  refine wX ?_
  refine wX ?_
  refine wI (d_pick (b := false) (v := vF) rfl rfl) ?_
  refine wI (d_assign rfl) ?_
  refine wD (tN ?_)
  refine forget (fun zf58 => ([(ptr L.bN 0), (eN dn), (eN bn), (eN pn), ul] ++ (zs zf58 5 6 ++ [vF] ++ (zs zf58 12 64 ++ (us 9 ++ [(zf58 85), (zf58 86), (zf58 87), (zf58 88)]))))) kr (fun zf58 => ?_)
  refine wQ (wQ (pL ?_))
  refine wI (d_move rfl) ?_
  refine wI (d_move rfl) ?_
  refine wO (d_call (xl := [.tmp 46, .tmp 47]) (al := [(ptr L.bN 0), vF]) Try.func47 kr rfl rfl rfl (ask_ok L s _ hN (g := (s.progOk ↑dn ↑bn ↑pn l)) false (by simp [NS.progOk, *] <;> omega))) ?_
  rintro _ w59 ⟨rfl, a61, o60⟩
  replace hl := hl.step o60 sub1
  replace oW := oW.tail o60 (fun k _ e => (fun k h => h) k e)
  replace hN := a61
  refine wI (d_assign rfl) ?_
  refine wD (tN (wQ (pL ?_)))
  refine wI (d_move rfl) ?_
  refine wI (n_neq (a := (s.askR (s.progOk ↑dn ↑bn ↑pn l))) (b := 0) rfl rfl rfl) ?_
  refine wD (tN ?_)
  refine cond_un rfl (fun c0 => ?_) (fun c0 => ?_)
  ·
   refine wQ (pL ?_)
   refine wI (d_move rfl) ?_
   refine wI (d_assign rfl) ?_
   refine wD (tN ?_)
   refine forget (fun zf62 => (zs zf62 0 10 ++ [(eN (s.askR (s.progOk ↑dn ↑bn ↑pn l)))] ++ (zs zf62 11 78))) kr (fun zf62 => ?_)
   refine wpIn_ret ?_
   refine then_r ?_
   refine leave0 (v := (eN (s.askR (s.progOk ↑dn ↑bn ↑pn l)))) (res1 Try.results20 rfl) ?_
   obtain ⟨e1_, e2_⟩ := NS.prog_no c0; exact ⟨congrArg eN e2_.symm, e1_ ▸ hN, oW⟩
  exact absurd c0 (NS.askR_no (by simp [NS.progOk, *]))
 refine pL ?_
 refine wI (d_move rfl) ?_
 refine wI (d_move rfl) ?_
 refine wI (d_move rfl) ?_
 refine wI (d_move rfl) ?_
 refine wO (d_call (xl := [.tmp 14, .tmp 15, .tmp 16, .tmp 17]) (al := [(ptr L.bN 0), (eI d), (eI b), (eI p)]) Try.func44 kr rfl rfl rfl (pageq_ok L s _ hN (r := false) d b p (Bool.eq_false_iff.2 k0))) ?_
 rintro _ w63 ⟨rfl, o64⟩
 replace hl := hl.step0 o64
 replace hN := hN.step0 o64
 replace oW := oW.tail0 o64
 refine wI (d_move rfl) ?_
 refine wF ([(ptr L.bN 0), (eI d), (eI b), (eI p), ul] ++ (us 5 ++ [(eN 0), undef, undef, undef, (ptr L.bN 0), (eI d), (eI b), (eI p), vF, vF] ++ (us 69))) ?_
 refine wX ?_
 refine wX ?_
 refine wX ?_
 refine wX ?_
 refine wX ?_
 refine wI (d_pick (b := false) (v := vF) rfl rfl) ?_
 refine wI (d_move rfl) ?_
 refine wF ([(ptr L.bN 0), (eI d), (eI b), (eI p), ul] ++ (us 5 ++ [(eN 0), undef, undef, undef, (ptr L.bN 0), (eI d), (eI b), (eI p), vF, vF] ++ (us 5 ++ [vF, vF] ++ (us 62)))) ?_
 refine wX ?_
 refine wX ?_
 refine wX ?_
 refine wI (d_pick (b := false) (v := vF) rfl rfl) ?_
 refine wI (d_move rfl) ?_
 refine wX ?_
 refine wX ?_
 refine wF ([(ptr L.bN 0), (eI d), (eI b), (eI p), ul] ++ (us 5 ++ [(eN 0), undef, undef, undef, (ptr L.bN 0), (eI d), (eI b), (eI p), vF, vF] ++ (us 5 ++ [vF, vF, undef, undef, undef, vF, vF] ++ (us 57)))) ?_
 refine wX ?_
 refine wX ?_
 refine wX ?_
 refine wX ?_
 refine wX ?_
 refine wX ?_
 refine wX ?_
 refine wF ([(ptr L.bN 0), (eI d), (eI b), (eI p), ul] ++ (us 5 ++ [(eN 0), undef, undef, undef, (ptr L.bN 0), (eI d), (eI b), (eI p), vF, vF] ++ (us 5 ++ [vF, vF, undef, undef, undef, vF, vF] ++ (us 57)))) ?_
 refine wX ?_
 refine wX ?_
 refine wX ?_
 refine wX ?_
 refine wI (d_pick (b := false) (v := vF) rfl rfl) ?_
 refine wI (d_assign rfl) ?_
 refine wD (tN ?_)
 refine forget (fun zf65 => ([(ptr L.bN 0), (eI d), (eI b), (eI p), ul] ++ (zs zf65 5 6 ++ [vF] ++ (zs zf65 12 64 ++ (us 9 ++ [(zf65 85), (zf65 86), (zf65 87), (zf65 88)]))))) kr (fun zf65 => ?_)
 refine wQ (wQ (pL ?_))
 refine wI (d_move rfl) ?_
 refine wI (d_move rfl) ?_
 refine wO (d_call (xl := [.tmp 46, .tmp 47]) (al := [(ptr L.bN 0), vF]) Try.func47 kr rfl rfl rfl (ask_ok L s _ hN (g := (s.progOk d b p l)) false (by simp [NS.progOk, *] <;> omega))) ?_
 rintro _ w66 ⟨rfl, a68, o67⟩
 replace hl := hl.step o67 sub1
 replace oW := oW.tail o67 (fun k _ e => (fun k h => h) k e)
 replace hN := a68
 refine wI (d_assign rfl) ?_
 refine wD (tN (wQ (pL ?_)))
 refine wI (d_move rfl) ?_
 refine wI (n_neq (a := (s.askR (s.progOk d b p l))) (b := 0) rfl rfl rfl) ?_
 refine wD (tN ?_)
 refine cond_un rfl (fun c0 => ?_) (fun c0 => ?_)
 ·
  refine wQ (pL ?_)
  refine wI (d_move rfl) ?_
  refine wI (d_assign rfl) ?_
  refine wD (tN ?_)
  refine forget (fun zf69 => (zs zf69 0 10 ++ [(eN (s.askR (s.progOk d b p l)))] ++ (zs zf69 11 78))) kr (fun zf69 => ?_)
  refine wpIn_ret ?_
  refine then_r ?_
  refine leave0 (v := (eN (s.askR (s.progOk d b p l)))) (res1 Try.results20 rfl) ?_
  obtain ⟨e1_, e2_⟩ := NS.prog_no c0; exact ⟨congrArg eN e2_.symm, e1_ ▸ hN, oW⟩
 exact absurd c0 (NS.askR_no (by simp [NS.progOk, *]))
theorem blockI_ok (s : NS) (b0 d b : Nat) (W : World) :
    CW Try.prog 53 #[(Value.agg #[(eN s.gD), (eN s.gB), (eN s.gP), (sli b0 0 s.n s.n)]), (eN d), (eN b)] W (Rt (fun u w => ∃ x y z, u = .func (.func 63) #[] #[ptr x 0, ptr y 0, ptr z 0] ∧ W.heap.size ≤ x ∧ W.heap.size ≤ y ∧ W.heap.size ≤ z ∧ x ≠ y ∧ x ≠ z ∧ y ≠ z ∧ Arr 65 x [eN s.gD, eN s.gB, eN s.gP, sli b0 0 s.n s.n] w ∧ Arr 3 y [eN d] w ∧ Arr 3 z [eN b] w ∧ Only No W w)) := by
 have oW : Only No W W := Only.refl _ _
 refine enter (al := [(Value.agg #[(eN s.gD), (eN s.gB), (eN s.gP), (sli b0 0 s.n s.n)]), (eN d), (eN b)]) (k := 5) (l := ([(Value.agg #[(eN s.gD), (eN s.gB), (eN s.gP), (sli b0 0 s.n s.n)]), (eN d), (eN b)] ++ (us 5))) Try.func53 rfl Try.ntmps53 rfl rfl ?_
 refine wQ (pL ?_)
 refine wO (d_box rfl rfl) ?_
 rintro _ w11 ⟨x, rfl, g12, a13, o14⟩
 have g_oW_x : W.heap.size ≤ x := Nat.le_trans oW.size g12
 replace oW := oW.tail0 o14
 refine wO (d_box rfl rfl) ?_
 rintro _ w15 ⟨y, rfl, g16, a17, o18⟩
 have n_x_y : x ≠ y := a13.ne g16
 have g_oW_y : W.heap.size ≤ y := Nat.le_trans oW.size g16
 replace a13 := a13.step0 o18
 replace oW := oW.tail0 o18
 refine wO (d_box rfl rfl) ?_
 rintro _ w19 ⟨z, rfl, g20, a21, o22⟩
 have n_x_z : x ≠ z := a13.ne g20
 have n_y_z : y ≠ z := a17.ne g20
 have g_oW_z : W.heap.size ≤ z := Nat.le_trans oW.size g20
 replace a13 := a13.step0 o22
 replace a17 := a17.step0 o22
 replace oW := oW.tail0 o22
 refine wI (d_assign rfl) ?_
 refine wD (tN (wQ (pL ?_)))
 refine wI (d_funcL (yl := [.tmp 3, .tmp 4, .tmp 5]) (ys := [(ptr x 0), (ptr y 0), (ptr z 0)]) rfl) ?_
 refine wI (d_assign rfl) ?_
 refine wD (tN ?_)
 refine wpIn_ret ?_
 refine leave0 (v := (Value.func (.func 63) #[] #[(ptr x 0), (ptr y 0), (ptr z 0)])) (res1 Try.results53 rfl) ?_
 exact ⟨x, y, z, rfl, g_oW_x, g_oW_y, g_oW_z, n_x_y, n_x_z, n_y_z, a13, a17, a21, oW⟩
theorem blockI1_ok {O : Nat → Prop} {w0 : World} (s : NS) (ok : s.Ok) (b0 d b : Nat) (hd : d < s.gD) (hb : b < s.gB) (xb yb zb l : Nat) (J Jx : List Nat → World → Prop) (W : World) (hxb : Arr 65 xb [eN s.gD, eN s.gB, eN s.gP, sli b0 0 s.n s.n] W) (hyb : Arr 3 yb [eN d] W) (hzb : Arr 3 zb [eN b] W) (n_xb_yb : xb ≠ yb) (n_xb_zb : xb ≠ zb) (n_yb_zb : yb ≠ zb) (kxb : Kp O w0.heap.size xb) (kyb : Kp O w0.heap.size yb) (kzb : Kp O w0.heap.size zb) (SJ : ∀ pre W W', J pre W → Only No W W' → J pre W') (hy : ∀ pre k, pre ++ [k] <+: List.range s.gP → ∀ W1, J pre W1 → YieldAt Fence.wide 0 Try.prog l #[eN k, ptr b0 (s.ix d b k)] W1 fun e W' => ∃ u, e = .returned u ∧ YR J Jx (Kp O w0.heap.size) (pre ++ [k]) W1 u W') (hJ : J [] W) :
    CW Try.prog 63 #[(Value.func (.yield l) #[] #[]), (ptr xb 0), (ptr yb 0), (ptr zb 0)] W (Rt (fun _ W' => J (List.range s.gP) W' ∨ ∃ pre, pre <+: List.range s.gP ∧ Jx pre W')) := by
 refine enter (al := [(Value.func (.yield l) #[] #[]), (ptr xb 0), (ptr yb 0), (ptr zb 0)]) (k := 18) (l := ([(Value.func (.yield l) #[] #[]), (ptr xb 0), (ptr yb 0), (ptr zb 0)] ++ (us 18))) Try.func63 rfl Try.ntmps63 rfl rfl ?_
 have okp_ := ok.p
 refine wQ (pL ?_)
 refine wI (d_fieldAddr (j := 0) Try.underlying65 rfl s_ti23 (by decide) rfl rfl) ?_
 refine wI (d_fieldAddr (j := 2) Try.underlying23 rfl s_ti3 (by decide) rfl rfl) ?_
 refine wI (d_load (v := (eN s.gP)) ⟨_, Try.underlying3, rfl⟩ rfl hxb rfl) ?_
 refine wI (d_move rfl) ?_
 refine wD (tN (wB ?_))
 refine loop2 (fun (k : (Nat)) => fun (z : Nat → Value) => (([(Value.func (.yield l) #[] #[]), (ptr xb 0), (ptr yb 0), (ptr zb 0), undef, (z 5), (ptr xb 0), (ptr xb 2), (eN s.gP), (eN k)] ++ (zs z 10 12)) : List Value)) (fun (k : (Nat)) => fun (w_ : World) => (k ≤ s.gP) ∧ (J (List.range k) w_) ∧ Arr 65 xb [(eN s.gD), (eN s.gB), (eN s.gP), (sli b0 0 s.n s.n)] w_ ∧ Arr 3 yb [(eN d)] w_ ∧ Arr 3 zb [(eN b)] w_) (fun (k : (Nat)) => s.gP - k) 0 kr ?_ ?_
 ·
  refine ⟨?_, ?_, ?_, ?_, ?_⟩
  ·
   exact Nat.zero_le _
  ·
   exact hJ
  ·
   exact hxb
  ·
   exact hyb
  ·
   exact hzb
 rintro k z w12 ⟨hk, hJ, hxb, hyb, hzb⟩
 (try dsimp only)
 refine wQ (pL ?_)
 refine wI (n_lss (a := k) (b := s.gP) rfl rfl rfl) ?_
 refine wD (tN (wQ ?_))
 refine cond_if rfl (fun c1_ => ?_) (fun c1_ => ?_)
 ·
  refine wK (tN (wQ (wB (wQ (pL ?_)))))
  refine wI (d_move rfl) ?_
  refine wI (d_assign rfl) ?_
  refine wD (tN (wQ (pL ?_)))
  refine wI (d_move rfl) ?_
  refine wI (d_move rfl) ?_
  refine wI (d_loadAg (vs := [(eN s.gD), (eN s.gB), (eN s.gP), (sli b0 0 s.n s.n)]) ⟨_, Try.underlying65, rfl⟩ s_ti65 rfl hxb rfl rfl) ?_
  refine wI (d_load (v := (eN d)) ⟨_, Try.underlying3, rfl⟩ rfl hyb rfl) ?_
  refine wI (d_load (v := (eN b)) ⟨_, Try.underlying3, rfl⟩ rfl hzb rfl) ?_
  refine wI (d_move rfl) ?_
  refine wF [(Value.func (.yield l) #[] #[]), (ptr xb 0), (ptr yb 0), (ptr zb 0), undef, (eN k), (ptr xb 0), (ptr xb 2), (eN s.gP), (eN k), (Value.bool (decide (k < s.gP))), (eN k), (Value.func (.yield l) #[] #[]), (eN k), (Value.agg #[(eN s.gD), (eN s.gB), (eN s.gP), (sli b0 0 s.n s.n)]), (eN d), (eN b), (eN k), (z 18), (z 19), (z 20), (z 21)] ?_
  refine wO (d_call (xl := [.tmp 14, .tmp 15, .tmp 16, .tmp 17]) (al := [(Value.agg #[(eN s.gD), (eN s.gB), (eN s.gP), (sli b0 0 s.n s.n)]), (eN d), (eN b), (eN k)]) Try.func48 kr rfl rfl rfl (atD_ok s b0 d b k _ ok (by first | assumption | omega) (by first | assumption | omega) (by first | assumption | omega))) ?_
  rintro _ w13 ⟨rfl, o14⟩
  replace hxb := hxb.step0 o14
  replace hyb := hyb.step0 o14
  replace hzb := hzb.step0 o14
  replace hJ := SJ _ _ _ hJ o14
  refine wO (d_yield (xl := [.tmp 13, .tmp 18]) (al := [(eN k), (ptr b0 (s.ix d b k))]) rfl rfl (hy _ _ (range_pre c1_) _ hJ)) ?_
  rintro _ w15 ⟨t, rfl, hT, hF⟩
  refine wI (d_not rfl rfl) ?_
  refine wD (tN ?_)
  refine forget (fun zf16 => ([(Value.func (.yield l) #[] #[]), (ptr xb 0), (ptr yb 0), (ptr zb 0), undef, (zf16 5), (ptr xb 0), (ptr xb 2), (eN s.gP), (eN k)] ++ (zs zf16 10 10 ++ [(Value.bool (!t)), (zf16 21)]))) kr (fun zf16 => ?_)
  refine cond_b rfl (fun c0_ => ?_) (fun c0_ => ?_)
  ·
   refine wpIn_ret ?_
   refine inb_r (then_r (then_r (inb_r ?_)))
   refine leave0 (v := (Value.tuple #[])) (res0 Try.results63) ?_
   exact .inr ⟨_, range_pre c1_, hF (by simpa using c0_)⟩
  obtain ⟨hJ3, oY⟩ := hT (by simpa using c0_)
  rw [← List.range_succ] at hJ3
  replace hxb := hxb.step oY (fun h => h kxb)
  replace hyb := hyb.step oY (fun h => h kyb)
  replace hzb := hzb.step oY (fun h => h kzb)
  refine wK ?_
  refine inb_n (tN ?_)
  refine pL ?_
  refine wI (n_add (a := k) (b := 1) rfl rfl oo) ?_
  refine wI (d_move rfl) ?_
  refine wD (tN ?_)
  refine ⟨_, (k + 1), rfl, kr, ⟨?_, ?_, ?_, ?_, ?_⟩, ?_⟩
  ·
   (try dsimp only)
   all_goals (omega)
  ·
   exact hJ3
  ·
   exact hxb
  ·
   exact hyb
  ·
   exact hzb
  ·
   (try dsimp only)
   all_goals (omega)
 refine wpIn_exit ?_
 refine then_x (then_x (inb_e ?_))
 refine to_ret ?_
 refine leave0 (v := (Value.tuple #[])) (res0 Try.results63) ?_
 exact .inl (by rw [show k = s.gP by omega] at hJ; exact hJ)
theorem iter_block {O : Nat → Prop} {w0 : World} (s : NS) (ok : s.Ok) (b0 d b : Nat) (hd : d < s.gD) (hb : b < s.gB) (x y z : Nat) (hx : Arr 65 x [eN s.gD, eN s.gB, eN s.gP, sli b0 0 s.n s.n] w0) (hy : Arr 3 y [eN d] w0) (hz : Arr 3 z [eN b] w0) (n_x_y : x ≠ y) (n_x_z : x ≠ z) (n_y_z : y ≠ z) (nx : ¬ O x) (ny : ¬ O y) (nz : ¬ O z) : Iter Try.prog 63 [ptr x 0, ptr y 0, ptr z 0].toArray (fun k => [eN k, ptr b0 (s.ix d b k)].toArray) No (Kp O w0.heap.size) (List.range s.gP) w0 :=
  iter_of (encs := fun k => [eN k, ptr b0 (s.ix d b k)]) fun l J Jx W hO SJ SJx hyy hJ => blockI1_ok s ok b0 d b hd hb x y z l J Jx W (hx.step hO (fun h => h ⟨hx.lt, nx⟩)) (hy.step hO (fun h => h ⟨hy.lt, ny⟩)) (hz.step hO (fun h => h ⟨hz.lt, nz⟩)) n_x_y n_x_z n_y_z ⟨hx.lt, nx⟩ ⟨hy.lt, ny⟩ ⟨hz.lt, nz⟩ SJ hyy hJ
theorem power_ok (L : NL) (s : NS) {X : Nat → Prop} (W : World) (hN : Nd L s X W) :
    CW Try.prog 26 #[(ptr L.bN 0)] W (Rt (fun u w => Nd L s.power X w ∧ Only L.S W w)) := by
 have oW : Only L.S W W := Only.refl _ _
 refine enter (al := [(ptr L.bN 0)]) (k := 10) (l := ([(ptr L.bN 0)] ++ (us 10))) Try.func26 rfl Try.ntmps26 rfl rfl ?_
 refine pL ?_
 refine wI (d_move rfl) ?_
 refine wI (d_move rfl) ?_
 refine wI (d_move rfl) ?_
 refine wI (d_nilCheck (b := L.bN) (o := 0) rfl) ?_
 refine wI (d_fieldAddr (j := 12) Try.underlying73 rfl s_ti3 (by decide) rfl rfl) ?_
 refine wO (nd_st (s' := { s with stop := 0 }) (i := 12) (v := (eN 0)) hN s_ti3 rfl rfl rfl (by decide) (fun _ => rfl) ⟨hN.ok.d, hN.ok.b, hN.ok.p, hN.ok.nx, by show 0 < 2 ^ 62; decide, hN.ok.dl, hN.ok.nl, hN.ok.ml⟩ ⟨rfl, rfl, rfl, rfl, rfl, rfl, rfl⟩) ?_
 rintro _ w11 ⟨a12, o13⟩
 replace oW := oW.tail o13 (fun k _ e => (fun k h => h) k e)
 replace hN := a12
 refine wI (d_nilCheck (b := L.bN) (o := 0) rfl) ?_
 refine wI (d_fieldAddr (j := 13) Try.underlying73 rfl s_ti36 (by decide) rfl rfl) ?_
 refine wO (nd_stm (Y := (Ors L.S X)) (l := []) hN ox_s s_ti36 rfl rfl (seq_nil (X := (Ors L.S X))) (Nat.zero_le _)) ?_
 rintro _ w14 ⟨a15, o16⟩
 replace oW := oW.tail o16 (fun k _ e => (fun k h => h) k e)
 replace hN := a15
 refine wF [(ptr L.bN 0), undef, (ptr L.bN 0), (ptr L.bN 0), (ptr L.bN 0), (ptr L.bN 0), (ptr L.bN 12), (ptr L.bN 0), (ptr L.bN 13), undef, undef] ?_
 refine wI (d_nilCheck (b := L.bN) (o := 0) rfl) ?_
 refine wI (d_fieldAddr (j := 14) Try.underlying73 rfl s_ti4 (by decide) rfl rfl) ?_
 refine wO (nd_st (s' := { { { s with stop := 0 } with mask := [] } with dead := false }) (i := 14) (v := vF) hN s_ti4 rfl rfl rfl (by decide) (fun _ => rfl) ⟨hN.ok.d, hN.ok.b, hN.ok.p, hN.ok.nx, hN.ok.st, hN.ok.dl, hN.ok.nl, hN.ok.ml⟩ ⟨rfl, rfl, rfl, rfl, rfl, rfl, rfl⟩) ?_
 rintro _ w17 ⟨a18, o19⟩
 replace oW := oW.tail o19 (fun k _ e => (fun k h => h) k e)
 replace hN := a18
 refine wD ?_
 refine to_ret ?_
 refine leave0 (v := (Value.tuple #[])) (res0 Try.results26) ?_
 exact ⟨hN, oW⟩
theorem stop_ok (L : NL) (s : NS) {X : Nat → Prop} (W : World) (hN : Nd L s X W) (k : Nat) (l : List UInt8) (ul : Value) (hX : ∀ k, X k → k < W.heap.size) (hl : Ps (Ors L.S No) (Seq kB l ul) W) (gl : l.length ≤ 1048576) (gk : k < 2 ^ 62) :
    CW Try.prog 24 #[(ptr L.bN 0), (eN k), ul] W (Rt (fun u w => Nd L (s.stopAt k l) X w ∧ Only L.S W w)) := by
 have oW : Only L.S W W := Only.refl _ _
 refine enter (al := [(ptr L.bN 0), (eN k), ul]) (k := 13) (l := ([(ptr L.bN 0), (eN k), ul] ++ (us 13))) Try.func24 rfl Try.ntmps24 rfl rfl ?_
 refine pL ?_
 refine wI (d_move rfl) ?_
 refine wI (d_move rfl) ?_
 refine wI (d_move rfl) ?_
 refine wI (n_max rfl rfl) ?_
 refine wI (d_move rfl) ?_
 refine wO (d_call (xl := [.tmp 10]) (al := [ul]) Try.func51 kr rfl rfl rfl (cloneB_ok l ul _ (Ps.no hl) fo)) ?_
 rintro u13 w11 f14
 replace f14 := f14.ps
 obtain ⟨f14, o12⟩ := f14
 replace f14 := f14.less (Y := (Ors L.S (Old W.heap.size))) (ors_old hN.lt (old_old oW.size))
 replace hl := hl.step0 o12
 replace hN := hN.step0 o12
 replace oW := oW.tail0 o12
 refine wI (d_nilCheck (b := L.bN) (o := 0) rfl) ?_
 refine wI (d_fieldAddr (j := 12) Try.underlying73 rfl s_ti3 (by decide) rfl rfl) ?_
 refine wO (nd_st (s' := { s with stop := max k 0 }) (i := 12) (v := (eN (max k 0))) hN s_ti3 rfl rfl rfl (by decide) (fun _ => rfl) ⟨hN.ok.d, hN.ok.b, hN.ok.p, hN.ok.nx, (by have := hN.ok.st; show max k 0 < 2 ^ 62; omega), hN.ok.dl, hN.ok.nl, hN.ok.ml⟩ ⟨rfl, rfl, rfl, rfl, rfl, rfl, rfl⟩) ?_
 rintro _ w15 ⟨a16, o17⟩
 replace hl := hl.step o17 sub1
 replace f14 := f14.step o17 sub1
 replace oW := oW.tail o17 (fun k _ e => (fun k h => h) k e)
 replace hN := a16
 refine wF [(ptr L.bN 0), (eN k), ul, undef, undef, undef, (ptr L.bN 0), (ptr L.bN 0), (eN k), (eN (max k 0)), ul, u13, (ptr L.bN 0), (ptr L.bN 12), undef, undef] ?_
 refine wI (d_nilCheck (b := L.bN) (o := 0) rfl) ?_
 refine wI (d_fieldAddr (j := 13) Try.underlying73 rfl s_ti36 (by decide) rfl rfl) ?_
 refine wO (nd_stm (Y := (Ors L.S X)) (l := l) hN ox_s s_ti36 rfl rfl (f14.less (Y := (Ors L.S X)) (xx_ors (lt_old hX))) gl) ?_
 rintro _ w18 ⟨a19, o20⟩
 replace hl := hl.step o20 sub1
 replace f14 := f14.step o20 sub1
 replace oW := oW.tail o20 (fun k _ e => (fun k h => h) k e)
 replace hN := a19
 refine wD ?_
 refine to_ret ?_
 refine leave0 (v := (Value.tuple #[])) (res0 Try.results24) ?_
 exact ⟨hN, oW⟩
theorem noise_ok (L : NL) (s : NS) {X : Nat → Prop} (W : World) (hN : Nd L s X W) (d b p : Int) (l : List Int) (ul : Value) (hX : ∀ k, X k → k < W.heap.size) (hl : Ps (Ors L.S No) (Seq kI l ul) W) (gl : l.length ≤ 1048576) :
    CW Try.prog 17 #[(ptr L.bN 0), (eI d), (eI b), (eI p), ul] W (Rt (fun u w => u = eN (s.noiseR d b p) ∧ Nd L (s.noise d b p l) X w ∧ Only L.S W w)) := by
 have oW : Only L.S W W := Only.refl _ _
 refine enter (al := [(ptr L.bN 0), (eI d), (eI b), (eI p), ul]) (k := 23) (l := ([(ptr L.bN 0), (eI d), (eI b), (eI p), ul] ++ (us 23))) Try.func17 rfl Try.ntmps17 rfl rfl ?_
 refine wQ (pL ?_)
 refine wI (d_assign rfl) ?_
 refine wD (tN (wQ (wQ ?_)))
 by_cases k0 : (s.pageIn d b p) = true
 ·
  obtain ⟨hd0, hd1, hb0, hb1, hp0, hp1⟩ := NS.page_of k0
  obtain ⟨dn, rfl⟩ := Int.eq_ofNat_of_zero_le hd0
  replace hd1 : dn < s.gD := Int.ofNat_lt.1 hd1
  refine wp_eq (l' := ([(ptr L.bN 0), (eN dn), (eI b), (eI p), ul] ++ (us 5 ++ [(eN 0)] ++ (us 17)))) rfl ?_
  obtain ⟨bn, rfl⟩ := Int.eq_ofNat_of_zero_le hb0
  replace hb1 : bn < s.gB := Int.ofNat_lt.1 hb1
  refine wp_eq (l' := ([(ptr L.bN 0), (eN dn), (eN bn), (eI p), ul] ++ (us 5 ++ [(eN 0)] ++ (us 17)))) rfl ?_
  obtain ⟨pn, rfl⟩ := Int.eq_ofNat_of_zero_le hp0
  replace hp1 : pn < s.gP := Int.ofNat_lt.1 hp1
  refine wp_eq (l' := ([(ptr L.bN 0), (eN dn), (eN bn), (eN pn), ul] ++ (us 5 ++ [(eN 0)] ++ (us 17)))) rfl ?_
  refine pL ?_
  refine wI (d_move rfl) ?_
  refine wI (d_move rfl) ?_
  refine wI (d_move rfl) ?_
  refine wI (d_move rfl) ?_
  refine wO (d_call (xl := [.tmp 11, .tmp 12, .tmp 13, .tmp 14]) (al := [(ptr L.bN 0), (eN dn), (eN bn), (eN pn)]) Try.func44 kr rfl rfl rfl (pageq_ok L s _ hN (r := true) (dn : Int) (bn : Int) (pn : Int) k0)) ?_
  rintro _ w11 ⟨rfl, o12⟩
  replace hl := hl.step0 o12
  replace hN := hN.step0 o12
  replace oW := oW.tail0 o12
  refine wI (d_not rfl rfl) ?_
  refine wD (tN ?_)
  refine cond_f rfl ?_
  refine wK (tN (wQ (pL ?_)))
  refine wI (d_move rfl) ?_
  refine wI (d_nilCheck (b := L.bN) (o := 0) rfl) ?_
  refine wI (d_fieldAddr (j := 7) Try.underlying73 rfl s_ti69 (by decide) rfl rfl) ?_
  refine wF ([(ptr L.bN 0), (eN dn), (eN bn), (eN pn), ul] ++ (us 5 ++ [(eN 0), (ptr L.bN 0), (eN dn), (eN bn), (eN pn), vT, vF, (ptr L.bN 0), (ptr L.bN 0), (ptr L.bN 7)] ++ (us 8))) ?_
  refine wI (nd_ldAg (vs := [(eN s.gD), (eN s.gB), (eN s.gP), (sli L.bZ 0 s.n s.n)]) hN ⟨_, Try.underlying69, rfl⟩ s_ti69 rfl (fun _ => rfl) rfl) ?_
  refine wI (d_move rfl) ?_
  refine wI (d_move rfl) ?_
  refine wI (d_move rfl) ?_
  refine wO (d_call (xl := [.tmp 20, .tmp 21, .tmp 22, .tmp 23]) (al := [(Value.agg #[(eN s.gD), (eN s.gB), (eN s.gP), (sli L.bZ 0 s.n s.n)]), (eN dn), (eN bn), (eN pn)]) Try.func46 kr rfl rfl rfl (atZ_ok s L.bZ dn bn pn _ hN.ok (by first | assumption | omega) (by first | assumption | omega) (by first | assumption | omega))) ?_
  rintro _ w13 ⟨rfl, o14⟩
  replace hl := hl.step0 o14
  replace hN := hN.step0 o14
  replace oW := oW.tail0 o14
  refine wI (d_move rfl) ?_
  refine wO (d_call (xl := [.tmp 25]) (al := [ul]) Try.func45 kr rfl rfl rfl (cloneI_ok l ul _ (Ps.no hl) fo)) ?_
  rintro u17 w15 f18
  replace f18 := f18.ps
  obtain ⟨f18, o16⟩ := f18
  replace f18 := f18.less (Y := (Ors L.S (Old W.heap.size))) (ors_old hN.lt (old_old oW.size))
  replace hl := hl.step0 o16
  replace hN := hN.step0 o16
  replace oW := oW.tail0 o16
  refine wI (d_nilCheck (b := L.bZ) (o := (s.ix dn bn pn)) rfl) ?_
  refine wO (nd_stZ (i := (s.ix dn bn pn)) (Y := (Ors L.S X)) (l := l) hN ox_s s_ti37 rfl rfl (f18.less (Y := (Ors L.S X)) (xx_ors (lt_old hX))) (NS.ix_lt (by first | assumption | omega) (by first | assumption | omega) (by first | assumption | omega)) gl) ?_
  rintro _ w19 ⟨a20, o21⟩
  replace hl := hl.step o21 sub1
  replace f18 := f18.step o21 sub1
  replace oW := oW.tail o21 (fun k _ e => (fun k h => h) k e)
  replace hN := a20
  refine wF ([(ptr L.bN 0), (eN dn), (eN bn), (eN pn), ul] ++ (us 5 ++ [(eN 0), (ptr L.bN 0), (eN dn), (eN bn), (eN pn), vT, vF, (ptr L.bN 0), (ptr L.bN 0), (ptr L.bN 7), (Value.agg #[(eN s.gD), (eN s.gB), (eN s.gP), (sli L.bZ 0 s.n s.n)]), (eN dn), (eN bn), (eN pn), (ptr L.bZ (s.ix dn bn pn)), ul, u17, (ptr L.bZ (s.ix dn bn pn))])) ?_
  refine wD (tN ?_)
  refine forget (fun zf22 => (zs zf22 0 28)) kr (fun zf22 => ?_)
  refine wQ (pL ?_)
  refine wI (d_assign rfl) ?_
  refine wD (tN ?_)
  refine wpIn_ret ?_
  refine leave0 (v := (eN 0)) (res1 Try.results17 rfl) ?_
  exact ⟨congrArg eN (by unfold NS.noiseR; rw [if_pos k0]), by unfold NS.noise; rw [if_pos k0]; exact hN, oW⟩
 refine pL ?_
 refine wI (d_move rfl) ?_
 refine wI (d_move rfl) ?_
 refine wI (d_move rfl) ?_
 refine wI (d_move rfl) ?_
 refine wO (d_call (xl := [.tmp 11, .tmp 12, .tmp 13, .tmp 14]) (al := [(ptr L.bN 0), (eI d), (eI b), (eI p)]) Try.func44 kr rfl rfl rfl (pageq_ok L s _ hN (r := false) d b p (Bool.eq_false_iff.2 k0))) ?_
 rintro _ w23 ⟨rfl, o24⟩
 replace hl := hl.step0 o24
 replace hN := hN.step0 o24
 replace oW := oW.tail0 o24
 refine wI (d_not rfl rfl) ?_
 refine wD (tN ?_)
 refine cond_t rfl ?_
 refine wQ (pL ?_)
 refine wI (d_assign rfl) ?_
 refine wD (tN ?_)
 refine forget (fun zf25 => (zs zf25 0 10 ++ [(eN 1)] ++ (zs zf25 11 17))) kr (fun zf25 => ?_)
 refine wpIn_ret ?_
 refine then_r ?_
 refine leave0 (v := (eN 1)) (res1 Try.results17 rfl) ?_
 exact ⟨congrArg eN (by unfold NS.noiseR; rw [if_neg k0]), by unfold NS.noise; rw [if_neg k0]; exact hN, oW⟩
theorem geometry_ok (L : NL) (s : NS) {X : Nat → Prop} (W : World) (hN : Nd L s X W) :
    CW Try.prog 59 #[(ptr L.bN 0)] W (Rt (RIs (.agg #[eN s.gD, eN s.gB, eN s.gP]) W)) := by
 have oW : Only No W W := Only.refl _ _
 refine enter (al := [(ptr L.bN 0)]) (k := 6) (l := ([(ptr L.bN 0)] ++ (us 6))) Try.func59 rfl Try.ntmps59 rfl rfl ?_
 refine wQ (pL ?_)
 refine wO (d_alloc s_ti23 rfl) ?_
 rintro _ w11 ⟨r, rfl, g12, a13, o14⟩
 have g_oW_r : W.heap.size ≤ r := Nat.le_trans oW.size g12
 replace hN := hN.new o14 g12
 replace oW := oW.tail0 o14
 refine wD (tN (wQ (pL ?_)))
 refine wI (d_move rfl) ?_
 refine wI (d_nilCheck (b := L.bN) (o := 0) rfl) ?_
 refine wI (d_fieldAddr (j := 0) Try.underlying73 rfl s_ti23 (by decide) rfl rfl) ?_
 refine wI (nd_ldAg (vs := [(eN s.gD), (eN s.gB), (eN s.gP)]) hN ⟨_, Try.underlying23, rfl⟩ s_ti23 rfl (fun _ => rfl) rfl) ?_
 refine wO (d_storeAg (cs' := [(eN s.gD), (eN s.gB), (eN s.gP)]) s_ti23 rfl rfl rfl (oc_cons rfl (oc_cons rfl (oc_cons rfl oc_nil))) a13 (by decide) rfl) ?_
 rintro _ w15 ⟨a16, o17⟩
 replace hN := hN.stepb o17 in1
 replace oW := oW.tailb o17 g_oW_r
 refine wD (tN ?_)
 refine wpIn_ret ?_
 refine leave0 (v := (Value.agg #[(eN s.gD), (eN s.gB), (eN s.gP)])) (resC Try.results59 ⟨_, Try.underlying23, rfl⟩ s_ti23 rfl a16 rfl) ?_
 exact ⟨rfl, oW⟩
end Go.Proofs.YtpamdlnobekihaaF
