/- Stable sorting, seen as a change of places. Plain Lean. -/
import Derived.Test.YtmdhggfehknjjaaGreatL1
import Derived.Lib.AppendZeros
import Derived.Laws.Small
import Derived.RangeFuncLeaves
import Derived.RangeFuncNested
import Derived.WalkKit
import Derived.ProofKit
import Derived.OpenShut
import Derived.ChangeSlices
import Derived.Below
import Derived.Carry
set_option linter.unusedVariables false
set_option linter.unusedSimpArgs false
set_option linter.unusedSectionVars false
namespace Go.K
open Rep
section
variable {α : Type} {ys zs us : List α} {σ τ : Nat → Nat} {a b i j n : Nat}
structure PL (ys : List α) (σ : Nat → Nat) (zs : List α) : Prop where
  len : zs.length = ys.length
  at_ : ∀ i, i < ys.length → σ i < ys.length ∧ zs[i]? = ys[σ i]?
theorem PL.id (ys : List α) : PL ys (fun i => i) ys := ⟨rfl, fun i h => ⟨h, rfl⟩⟩
theorem PL.get (h : PL ys σ zs) (hi : i < ys.length) : zs[i]'(by rw [h.len]; exact hi) = ys[σ i]'(h.at_ i hi).1 := by
  have := (h.at_ i hi).2
  rw [List.getElem?_eq_getElem (by rw [h.len]; exact hi), List.getElem?_eq_getElem (h.at_ i hi).1] at this
  exact Option.some.inj this
def swF (σ : Nat → Nat) (i j : Nat) : Nat → Nat := fun k => if k = i then σ j else if k = j then σ i else σ k
theorem PL.swap (h : PL ys σ zs) (hi : i < ys.length) (hj : j < ys.length) {x y : α} (hx : x = zs[j]'(by rw [h.len]; exact hj)) (hy : y = zs[i]'(by rw [h.len]; exact hi)) : PL ys (swF σ i j) ((zs.set i x).set j y) := by
  subst hx hy
  have hl := h.len
  refine ⟨by simp [h.len], fun k hk => ?_⟩
  have hki := h.at_ i hi; have hkj := h.at_ j hj; have hkk := h.at_ k hk
  unfold swF
  rw [List.getElem?_set, List.getElem?_set]
  by_cases e1 : k = i
  · subst e1
    rw [if_pos rfl]
    refine ⟨hkj.1, ?_⟩
    by_cases e2 : j = k
    · subst e2; simp [hl, hk, ← hkk.2, List.getElem?_eq_getElem (show j < zs.length by omega)]
    · rw [if_neg e2]
      simp [hl, hk, ← hkj.2, List.getElem?_eq_getElem (show j < zs.length by omega)]
  · rw [if_neg e1]
    by_cases e2 : k = j
    · subst e2
      rw [if_pos rfl]
      refine ⟨hki.1, ?_⟩
      simp [hl, hk, ← hki.2, List.getElem?_eq_getElem (show i < zs.length by omega)]
    · rw [if_neg e2]
      refine ⟨hkk.1, ?_⟩
      simp [Ne.symm e1, Ne.symm e2, hkk.2]
structure Within (σ : Nat → Nat) (a b : Nat) : Prop where
  out : ∀ i, ¬ (a ≤ i ∧ i < b) → σ i = i
  in_ : ∀ i, a ≤ i → i < b → a ≤ σ i ∧ σ i < b
  inj : ∀ i j, σ i = σ j → i = j
theorem Within.id (a b : Nat) : Within (fun i => i) a b := ⟨fun _ _ => rfl, fun _ h1 h2 => ⟨h1, h2⟩, fun _ _ h => h⟩
theorem Within.swap (h : Within σ a b) (hi : a ≤ i ∧ i < b) (hj : a ≤ j ∧ j < b) : Within (swF σ i j) a b := by
  refine ⟨fun k hk => ?_, fun k h1 h2 => ?_, fun k k' e => ?_⟩
  · unfold swF; rw [if_neg (by intro e; subst e; exact hk hi), if_neg (by intro e; subst e; exact hk hj)]; exact h.out k hk
  · unfold swF; split
    · exact h.in_ j hj.1 hj.2
    · split
      · exact h.in_ i hi.1 hi.2
      · exact h.in_ k h1 h2
  · unfold swF at e
    by_cases e1 : k = i
    · by_cases e2 : k' = i
      · omega
      · rw [if_pos e1, if_neg e2] at e
        by_cases e3 : k' = j
        · rw [if_pos e3] at e; have := h.inj _ _ e; omega
        · rw [if_neg e3] at e; have := h.inj _ _ e; omega
    · rw [if_neg e1] at e
      by_cases e4 : k = j
      · rw [if_pos e4] at e
        by_cases e2 : k' = i
        · rw [if_pos e2] at e; have := h.inj _ _ e; omega
        · rw [if_neg e2] at e
          by_cases e3 : k' = j
          · omega
          · rw [if_neg e3] at e; have := h.inj _ _ e; omega
      · rw [if_neg e4] at e
        by_cases e2 : k' = i
        · rw [if_pos e2] at e; have := h.inj _ _ e; omega
        · rw [if_neg e2] at e
          by_cases e3 : k' = j
          · rw [if_pos e3] at e; have := h.inj _ _ e; omega
          · rw [if_neg e3] at e; exact h.inj _ _ e
theorem Within.mono {a' b' : Nat} (h : Within σ a b) (ha : a' ≤ a) (hb : b ≤ b') : Within σ a' b' := ⟨fun i hi => h.out i (fun e => hi ⟨by omega, by omega⟩), fun i h1 h2 => by
  by_cases e : a ≤ i ∧ i < b
  · have := h.in_ i e.1 e.2; omega
  · rw [h.out i e]; exact ⟨h1, h2⟩, h.inj⟩
theorem Within.comp {τ : Nat → Nat} (h : Within σ a b) (h' : Within τ a b) : Within (fun i => σ (τ i)) a b := ⟨fun i hi => by show σ (τ i) = i; rw [h'.out i hi, h.out i hi], fun i h1 h2 => by
  have := h'.in_ i h1 h2; exact h.in_ _ this.1 this.2, fun i j e => h'.inj _ _ (h.inj _ _ e)⟩
def Asc (T : Nat → Nat → Prop) (σ : Nat → Nat) (a b : Nat) : Prop := ∀ i j, a ≤ i → i < j → j < b → T (σ i) (σ j)
def ordT (c : α → α → Int) (ys : List α) (i j : Nat) : Prop := ∃ (hi : i < ys.length) (hj : j < ys.length), c ys[i] ys[j] < 0 ∨ c ys[i] ys[j] = 0 ∧ i < j
structure Cmp3 (c : α → α → Int) (P : α → Prop) : Prop where
  anti : ∀ x y, P x → P y → (c x y < 0 ↔ 0 < c y x)
  trans : ∀ x y z, P x → P y → P z → c x y ≤ 0 → c y z ≤ 0 → c x z ≤ 0
theorem Cmp3.eq {c : α → α → Int} {P : α → Prop} (h : Cmp3 c P) {x y : α} (hx : P x) (hy : P y) : c x y = 0 ↔ c y x = 0 := by
  have h1 := h.anti x y hx hy; have h2 := h.anti y x hy hx; omega
theorem Cmp3.lt_le {c : α → α → Int} {P : α → Prop} (h : Cmp3 c P) {x y z : α} (hx : P x) (hy : P y) (hz : P z) (h1 : c x y < 0) (h2 : c y z ≤ 0) : c x z < 0 := by
  have h3 := h.trans x y z hx hy hz (by omega) h2
  have h4 := h.anti x y hx hy
  apply Classical.byContradiction
  intro hn
  have e : c x z = 0 := by omega
  have e2 := (h.eq hx hz).1 e
  have := h.trans y z x hy hz hx h2 (by omega)
  omega
theorem Cmp3.le_lt {c : α → α → Int} {P : α → Prop} (h : Cmp3 c P) {x y z : α} (hx : P x) (hy : P y) (hz : P z) (h1 : c x y ≤ 0) (h2 : c y z < 0) : c x z < 0 := by
  have h3 := h.trans x y z hx hy hz h1 (by omega)
  have h4 := h.anti y z hy hz
  apply Classical.byContradiction
  intro hn
  have e : c x z = 0 := by omega
  have e2 := (h.eq hx hz).1 e
  have := h.trans z x y hz hx hy (by omega) h1
  omega
theorem ordT_trans {c : α → α → Int} {P : α → Prop} (h : Cmp3 c P) (hP : ∀ x ∈ ys, P x) {i j k : Nat} (h1 : ordT c ys i j) (h2 : ordT c ys j k) : ordT c ys i k := by
  obtain ⟨hi, hj, h1⟩ := h1
  obtain ⟨_, hk, h2⟩ := h2
  have p1 := hP _ (List.getElem_mem hi); have p2 := hP _ (List.getElem_mem hj); have p3 := hP _ (List.getElem_mem hk)
  refine ⟨hi, hk, ?_⟩
  rcases h1 with h1 | ⟨h1, e1⟩
  · exact .inl (h.lt_le p1 p2 p3 h1 (by rcases h2 with h2 | h2 <;> omega))
  · rcases h2 with h2 | ⟨h2, e2⟩
    · exact .inl (h.le_lt p1 p2 p3 (by omega) h2)
    · refine .inr ⟨?_, by omega⟩
      have a := h.trans _ _ _ p1 p2 p3 (by omega) (by omega)
      have b := h.trans _ _ _ p3 p2 p1 (by rw [(h.eq p3 p2).2 h2]; omega) (by rw [(h.eq p2 p1).2 h1]; omega)
      have := h.anti _ _ p1 p3; have := h.anti _ _ p3 p1
      omega
theorem ordT_total {c : α → α → Int} {P : α → Prop} (h : Cmp3 c P) (hP : ∀ x ∈ ys, P x) {i j : Nat} (hi : i < ys.length) (hj : j < ys.length) (hne : i ≠ j) : ordT c ys i j ∨ ordT c ys j i := by
  have p1 := hP _ (List.getElem_mem hi); have p2 := hP _ (List.getElem_mem hj)
  have h1 := h.anti _ _ p1 p2; have h2 := h.anti _ _ p2 p1
  by_cases e1 : c ys[i] ys[j] < 0
  · exact .inl ⟨hi, hj, .inl e1⟩
  · by_cases e2 : c ys[j] ys[i] < 0
    · exact .inr ⟨hj, hi, .inl e2⟩
    · have e3 : c ys[i] ys[j] = 0 := by omega
      have e4 : c ys[j] ys[i] = 0 := by omega
      rcases Nat.lt_or_gt_of_ne hne with h | h
      · exact .inl ⟨hi, hj, .inr ⟨e3, h⟩⟩
      · exact .inr ⟨hj, hi, .inr ⟨e4, h⟩⟩
theorem ordT_asym {c : α → α → Int} {P : α → Prop} (h : Cmp3 c P) (hP : ∀ x ∈ ys, P x) {i j : Nat} (h1 : ordT c ys i j) (h2 : ordT c ys j i) : False := by
  obtain ⟨hi, hj, h1⟩ := h1
  obtain ⟨_, _, h2⟩ := h2
  have p1 := hP _ (List.getElem_mem hi); have p2 := hP _ (List.getElem_mem hj)
  have := h.anti _ _ p1 p2; have := h.anti _ _ p2 p1
  rcases h1 with h1 | h1 <;> rcases h2 with h2 | h2 <;> omega
theorem ordT_lt {c : α → α → Int} {P : α → Prop} (h : Cmp3 c P) (hP : ∀ x ∈ ys, P x) {i j : Nat} (hi : i < ys.length) (hj : j < ys.length) (hij : i < j) : ordT c ys j i ↔ c ys[j] ys[i] < 0 := by
  constructor
  · rintro ⟨_, _, h1 | h1⟩
    · exact h1
    · omega
  · intro h1; exact ⟨hj, hi, .inl h1⟩
structure InsI (c : α → α → Int) (ys : List α) (σ : Nat → Nat) (a i j : Nat) : Prop where
  within : Within σ a (i + 1)
  le : a ≤ j ∧ j ≤ i
  me : σ j = i
  asc : ∀ p q, a ≤ p → p < q → q ≤ i → p ≠ j → q ≠ j → ordT c ys (σ p) (σ q)
  aft : ∀ q, j < q → q ≤ i → ordT c ys i (σ q)
theorem InsI.start {c : α → α → Int} (h : Within σ a i) (ha : a ≤ i) (hs : Asc (ordT c ys) σ a i) : InsI c ys σ a i i :=
  ⟨h.mono (Nat.le_refl _) (by omega), ⟨ha, Nat.le_refl _⟩, h.out i (by omega), fun p q h1 h2 h3 h4 h5 => hs p q h1 h2 (by omega), fun q h1 h2 => by omega⟩
theorem InsI.step {c : α → α → Int} (h : InsI c ys σ a i j) (hj : a < j) (hlt : ordT c ys i (σ (j - 1))) : InsI c ys (swF σ j (j - 1)) a i (j - 1) := by
  have e0 : swF σ j (j - 1) (j - 1) = i := by unfold swF; rw [if_neg (by omega), if_pos rfl]; exact h.me
  have e1 : swF σ j (j - 1) j = σ (j - 1) := by unfold swF; rw [if_pos rfl]
  have e2 : ∀ k, k ≠ j → k ≠ j - 1 → swF σ j (j - 1) k = σ k := fun k h1 h2 => by unfold swF; rw [if_neg h1, if_neg h2]
  have hle := h.le
  refine ⟨h.within.swap ⟨by omega, by omega⟩ ⟨by omega, by omega⟩, ⟨by omega, by omega⟩, e0, fun p q h1 h2 h3 h4 h5 => ?_, fun q h1 h2 => ?_⟩
  · by_cases ep : p = j
    · subst ep; rw [e1, e2 q (by omega) (by omega)]; exact h.asc (p - 1) q (by omega) (by omega) h3 (by omega) (by omega)
    · by_cases eq : q = j
      · subst eq; rw [e1, e2 p (by omega) (by omega)]; exact h.asc p (q - 1) h1 (by omega) (by omega) (by omega) (by omega)
      · rw [e2 p ep h4, e2 q eq h5]; exact h.asc p q h1 h2 h3 ep eq
  · by_cases eq : q = j
    · subst eq; rw [e1]; exact hlt
    · rw [e2 q eq (by omega)]; exact h.aft q (by omega) h2
theorem InsI.done {c : α → α → Int} {P : α → Prop} (hc : Cmp3 c P) (hP : ∀ x ∈ ys, P x) (h : InsI c ys σ a i j) (hi : i < ys.length) (hj : j = a ∨ ¬ ordT c ys i (σ (j - 1))) : Within σ a (i + 1) ∧ Asc (ordT c ys) σ a (i + 1) := by
  have hle := h.le
  refine ⟨h.within, fun p q h1 h2 h3 => ?_⟩
  by_cases ep : p = j
  · subst ep; rw [h.me]; exact h.aft q h2 (by omega)
  · by_cases eq : q = j
    · subst eq
      rw [h.me]
      rcases hj with hj | hj
      · omega
      · have hw := h.within.in_ (q - 1) (by omega) (by omega)
        have hne : σ (q - 1) ≠ i := fun e => by have := h.within.inj (q - 1) q (by rw [e, h.me]); omega
        have hl : ordT c ys (σ (q - 1)) i := (ordT_total hc hP (by omega) hi hne).resolve_right hj
        by_cases e : p = q - 1
        · rw [e]; exact hl
        · exact ordT_trans hc hP (h.asc p (q - 1) h1 (by omega) (by omega) (by omega) (by omega)) hl
    · exact h.asc p q h1 h2 (by omega) ep eq
end
end Go.K

/- The search for prices, row by row: what holds at each step. Plain Lean. -/
namespace Go.K
theorem pigeon : ∀ (m n : Nat) (f : Nat → Nat), (∀ i, i < m → f i < n) → (∀ i i', i < m → i' < m → f i = f i' → i = i') → m ≤ n
  | 0, _, _, _, _ => Nat.zero_le _
  | m + 1, 0, f, h, _ => by have := h 0 (Nat.succ_pos _); omega
  | m + 1, n + 1, f, h, hi => by
    have := pigeon m n (fun i => if f i = n then f m else f i) (fun i hm => by
      have h1 := h i (by omega)
      have h2 := h m (by omega)
      split
      · rename_i e
        have : f m ≠ n := fun e2 => by have := hi i m (by omega) (by omega) (e.trans e2.symm); omega
        omega
      · omega) (fun i i' hm hm' e => by
      split at e <;> split at e
      · rename_i e1 e2; exact hi i i' (by omega) (by omega) (e1.trans e2.symm)
      · have := hi m i' (by omega) (by omega) e; omega
      · have := hi i m (by omega) (by omega) e; omega
      · exact hi i i' (by omega) (by omega) e)
    omega
section
variable {k : Nat} {c : Nat → Nat → Int} {W far : Int} {n at_ T : Nat} {u v u2 v2 : Nat → Int} {row way way2 : Nat → Nat} {least least2 : Nat → Int} {cl : Nat → Bool} {rk : Nat → Nat}
end
end Go.K

/- Choices of edges between two sides: prices that prove them best, beginnings that can go on, columns for rows that need one. Plain Lean. -/
namespace Go.K
section
variable {N M : Nat} {wt : Nat → Nat → Int} {U V : Nat → Int} {f : Nat → Nat}
end
end Go.K

/- Beginnings of choices that can go on; columns for rows that need one. Plain Lean. -/
namespace Go.K
end Go.K

/- What the loops of package tight keep. Plain Lean, and what reads as an edge. -/
namespace Go.K
open Rep
theorem getD_in {α : Type} {l : List α} {i : Nat} {d : α} (h : i < l.length) : l.getD i d = l[i] := by rw [List.getD_eq_getElem?_getD, List.getElem?_eq_getElem h]; rfl
section
variable {P : Program} {N : Nat} {env : Env} {w : World} {x y : Operand} {t u : TypeId} {m n : Int}
end
section
variable {c : Nat → Nat → Int} {u v : Nat → Int} {cl : Nat → Bool} {least least' least2 : Nat → Int} {way way' way2 : Nat → Nat} {i a k j : Nat} {l1 : Nat → Int} {far delta : Int} {next : Nat}
variable {row : Nat → Nat} {u' v' u2 v2 l l' l2 : Nat → Int}
end
structure Edge where
  a : Int
  b : Int
  w : Int
  deriving DecidableEq
instance : Rep Edge := Rep.via (fun x : Edge => (x.a, (x.b, x.w)))
instance : Inhabited Edge := ⟨⟨0, 0, 0⟩⟩
section
variable {w : World} {M : Nat → Prop} {b o : Nat} {v : Value}
end
end Go.K

/- A region in which several operations make something new, in whatever order. -/
namespace Go.K
open Rep
section
variable {P : Program} {ops : Array Oper} {Q : Exit → Act → World → Prop}
end
theorem run_join {P : Program} {f : FuncId} {N : Nat} {k k' : List Item} {env : Env} {w : World} {R : Value → World → Prop} {ι : Type} (I : ι → World → Prop) (e : ι → Env)
    (hr : ∀ x w, I x w → Run P f N k (e x) w R) (hm : (∀ x w, I x w → Run P f N k (e x) w R) → Run P f N k' env w R) : Run P f N k' env w R := hm hr
end Go.K

/- Graphs of package tight: what reads as one, and what their weights and prices are. -/
namespace Go.K
open Rep
structure Gr where
  n : Int
  m : Int
  U : List Int
  V : List Int
  tot : Int
  edge : List (List Bool)
instance : Rep Gr := Rep.via (fun x : Gr => (x.n, (x.m, (x.U, (x.V, (x.tot, x.edge))))))
section
variable {w w' w₀ : World} {M : Nat → Prop} {b o : Nat} {v : Value} {x : Gr}
end
section
variable {n m : Nat} {wt : Nat → Nat → Int} {W : Int}
end
end Go.K

/- Arrays: an element's address. -/
namespace Go.K
open Rep
section
variable {P : Program} {N : Nat} {env : Env} {y z : Operand} {t e : TypeId} {b o o' n len : Nat} {k : IntKind} {i : Int} {w : World}
end
end Go.K

/- Drawn regions whose orders branch: a tree of orders. -/
namespace Go.K
open Rep
inductive Tr where
  | run (L : List (Nat × Bool))
  | one (A : List Nat) (i : Nat) (t : Tr)
  | fork (A : List Nat) (i : Nat) (t : Tr) (i' : Nat) (t' : Tr)
  | fork3 (A : List Nat) (i : Nat) (t : Tr) (i' : Nat) (t' : Tr) (i2 : Nat) (t2 : Tr)
def QT (Q : Exit → Act → World → Prop) (K : Act → World → Prop) : Exit → Act → World → Prop
  | .normal, a, w => K a w
  | e, a, w => Q e a w
def GoT (P : Program) (ops : Array Oper) (S : World → Prop) (Q : Exit → Act → World → Prop) : Tr → Act → World → Prop
  | .run L, a, w => GoL P ops S Q L a w
  | .one A i t, a, w => GoL P ops S (QT Q fun a w => wpOp P ops Q i (fun a' w' => S w' ∧ GoT P ops S Q t a' w') a w) (A.map fun j => (j, true)) a w
  | .fork A i t i' t', a, w => GoL P ops S (QT Q fun a w => wpOp P ops Q i (fun a' w' => S w' ∧ GoT P ops S Q t a' w') a w ∧ wpOp P ops Q i' (fun a' w' => S w' ∧ GoT P ops S Q t' a' w') a w) (A.map fun j => (j, true)) a w
  | .fork3 A i t i' t' i2 t2, a, w => GoL P ops S (QT Q fun a w => wpOp P ops Q i (fun a' w' => S w' ∧ GoT P ops S Q t a' w') a w ∧ wpOp P ops Q i' (fun a' w' => S w' ∧ GoT P ops S Q t' a' w') a w ∧ wpOp P ops Q i2 (fun a' w' => S w' ∧ GoT P ops S Q t2 a' w') a w) (A.map fun j => (j, true)) a w
def chkY (ops : Array Oper) (jb : Nat) (k : Nat → Array Bool → Bool) : Nat → Array Bool → List Nat → Bool
  | n, listed, [] => k n listed
  | 0, _, _ :: _ => false
  | n + 1, listed, j :: A => !Nat.beq j jb && (Nat.ble ops.size jb || needs ops 8 jb j) && Region.free .any ops listed j && (Region.ready .any ops listed).contains j && chkY ops jb k n (listed.setIfInBounds j true) A
def chkT (ops : Array Oper) (jb : Nat) : Tr → Nat → Array Bool → Bool
  | .run L, n, listed => chkB ops jb n listed L
  | .one A i t, n, listed => chkY ops jb (fun n l => match n with | 0 => false | n + 1 => (Region.ready .any ops l == [i]) && chkT ops jb t n (l.setIfInBounds i true)) n listed A
  | .fork A i t i' t', n, listed => chkY ops jb (fun n l => match n with
    | 0 => false
    | n + 1 => ((Region.ready .any ops l == [i, i']) || (Region.ready .any ops l == [i', i])) && chkT ops jb t n (l.setIfInBounds i true) && chkT ops jb t' n (l.setIfInBounds i' true)) n listed A
  | .fork3 A i t i' t' i2 t2, n, listed => chkY ops jb (fun n l => match n with
    | 0 => false
    | n + 1 => (Region.ready .any ops l).all (fun j => Nat.beq j i || Nat.beq j i' || Nat.beq j i2) && (Region.ready .any ops l).contains i && (Region.ready .any ops l).contains i' && (Region.ready .any ops l).contains i2 && chkT ops jb t n (l.setIfInBounds i true) && chkT ops jb t' n (l.setIfInBounds i' true) && chkT ops jb t2 n (l.setIfInBounds i2 true)) n listed A
section
variable {P : Program} {ops : Array Oper} {S : World → Prop} {Q : Exit → Act → World → Prop}
theorem gol_yes (hs : Region.noSelect ops = true) (hQ : ∀ c a d v w, Q (.panic c) (Act.put a d v) w → Q (.panic c) a w) {jb : Nat} {k : Nat → Array Bool → Bool} {K : Act → World → Prop}
    (hk : ∀ n listed a w, k n listed = true → Closed ops listed → S w → K a w → wpAnyB P ops Q S jb n listed a w) :
    ∀ (n : Nat) (listed : Array Bool) (A : List Nat) (a : Act) (w : World), chkY ops jb k n listed A = true → Closed ops listed → S w →
      GoL P ops S (QT Q K) (A.map fun j => (j, true)) a w → wpAnyB P ops Q S jb n listed a w
  | n, listed, [], a, w, hc, hcl, hS, h => by
    unfold chkY at hc
    exact hk n listed a w hc hcl hS h
  | 0, listed, _ :: _, a, w, hc, _, _, _ => by simp [chkY] at hc
  | n + 1, listed, j :: A, a, w, hc, hcl, hS, h => by
    simp only [chkY, Bool.and_eq_true] at hc
    obtain ⟨⟨⟨⟨h1, h2⟩, h3⟩, h4⟩, h5⟩ := hc
    obtain ⟨o, v, hi, hy, h⟩ := h
    have hr : j ∈ Region.ready .any ops listed := by simpa using h4
    exact wpAnyB_first hi (Region.noSelect_spec hs) (fun c a w hq => hQ c a _ _ w hq) (fun e => by subst e; simp at h1) (hneed_of h2) n listed a w hcl (Region.free_spec hi h3) hr hy hS (gol_yes hs hQ hk n _ A _ w h5 (closed_set hcl hr) hS h)
theorem gol_tree (hs : Region.noSelect ops = true) (hQ : ∀ c a d v w, Q (.panic c) (Act.put a d v) w → Q (.panic c) a w) {jb : Nat} :
    ∀ (t : Tr) (n : Nat) (listed : Array Bool) (a : Act) (w : World), chkT ops jb t n listed = true → Closed ops listed → S w → GoT P ops S Q t a w → wpAnyB P ops Q S jb n listed a w
  | .run L, n, listed, a, w, hc, hcl, hS, h => gol_drawn hs hQ n listed L a w hc hcl (fun _ => hS) h
  | .one A i t, n, listed, a, w, hc, hcl, hS, h => by
    refine gol_yes hs hQ (fun n listed a w hk hcl hS h => ?_) n listed A a w hc hcl hS h
    cases n with
    | zero => cases hk
    | succ n =>
      simp only [Bool.and_eq_true, beq_iff_eq] at hk
      obtain ⟨h0, h1⟩ := hk
      have hr : i ∈ Region.ready .any ops listed := by rw [h0]; simp
      refine ⟨fun h0' => (by rw [h0'] at h0; cases h0), fun j hj => ?_⟩
      rw [h0, List.mem_singleton] at hj
      subst hj
      exact wpOp_mono (fun a' w' g => ⟨fun _ => g.1, gol_tree hs hQ t n _ a' w' h1 (closed_set hcl hr) g.1 g.2⟩) h
  | .fork A i t i' t', n, listed, a, w, hc, hcl, hS, h => by
    refine gol_yes hs hQ (fun n listed a w hk hcl hS h => ?_) n listed A a w hc hcl hS h
    cases n with
    | zero => cases hk
    | succ n =>
      simp only [Bool.and_eq_true, Bool.or_eq_true, beq_iff_eq] at hk
      obtain ⟨⟨h0, h1⟩, h2⟩ := hk
      have hm : ∀ j, j ∈ Region.ready .any ops listed ↔ j = i ∨ j = i' := fun j => by
        rcases h0 with e | e <;> rw [e] <;> simp [or_comm]
      have hr : i ∈ Region.ready .any ops listed := (hm i).2 (.inl rfl)
      have hr' : i' ∈ Region.ready .any ops listed := (hm i').2 (.inr rfl)
      refine ⟨fun h0' => (by rw [h0'] at hr; cases hr), fun j hj => ?_⟩
      rcases (hm j).1 hj with rfl | rfl
      · exact wpOp_mono (fun a' w' g => ⟨fun _ => g.1, gol_tree hs hQ t n _ a' w' h1 (closed_set hcl hr) g.1 g.2⟩) h.1
      · exact wpOp_mono (fun a' w' g => ⟨fun _ => g.1, gol_tree hs hQ t' n _ a' w' h2 (closed_set hcl hr') g.1 g.2⟩) h.2
  | .fork3 A i t i' t' i2 t2, n, listed, a, w, hc, hcl, hS, h => by
    refine gol_yes hs hQ (fun n listed a w hk hcl hS h => ?_) n listed A a w hc hcl hS h
    cases n with
    | zero => cases hk
    | succ n =>
      simp only [Bool.and_eq_true] at hk
      obtain ⟨⟨⟨⟨⟨⟨h0, r1⟩, r2⟩, r3⟩, h1⟩, h2⟩, h3⟩ := hk
      have hr : i ∈ Region.ready .any ops listed := by simpa using r1
      have hr' : i' ∈ Region.ready .any ops listed := by simpa using r2
      have hr2 : i2 ∈ Region.ready .any ops listed := by simpa using r3
      refine ⟨fun h0' => (by rw [h0'] at hr; cases hr), fun j hj => ?_⟩
      have hj2 := List.all_eq_true.1 h0 j hj
      simp only [Bool.or_eq_true] at hj2
      rcases hj2 with (e | e) | e <;> have e := Nat.eq_of_beq_eq_true e <;> subst e
      · exact wpOp_mono (fun a' w' g => ⟨fun _ => g.1, gol_tree hs hQ t n _ a' w' h1 (closed_set hcl hr) g.1 g.2⟩) h.1
      · exact wpOp_mono (fun a' w' g => ⟨fun _ => g.1, gol_tree hs hQ t' n _ a' w' h2 (closed_set hcl hr') g.1 g.2⟩) h.2.1
      · exact wpOp_mono (fun a' w' g => ⟨fun _ => g.1, gol_tree hs hQ t2 n _ a' w' h3 (closed_set hcl hr2) g.1 g.2⟩) h.2.2
theorem lets_QT {K : Act → World → Prop} (h : LetsOut (QT Q K)) : LetsOut Q := h
theorem wpOp_QT {i : Nat} {a : Act} {w : World} {K X : Act → World → Prop} (h : wpOp P ops (QT Q K) i X a w) : wpOp P ops Q i X a w := by
  unfold wpOp at *
  cases ho : ops[i]? with
  | none => rw [ho] at h; exact h
  | some o =>
    rw [ho] at h
    simp only at h ⊢
    split at h
    · rename_i hw
      rw [if_pos hw]
      refine h.imp (fun h => ?_) (fun h => ⟨h.1, lets_QT h.2⟩)
      unfold Oper.wp at *
      generalize (execOp a.eval o).run P w = r at *
      cases r with
      | ok n w' =>
        cases n <;> simp only [Oper.upon] at h ⊢ <;> first | exact h | exact Calls.mono h (fun e w'' he => by cases e <;> first | exact he | exact lets_QT he)
      | halt x w' => cases x <;> simp only [Oper.upon] at h ⊢ <;> exact h
    · rename_i hw; rw [if_neg hw]; exact h
end
def SchT (P : Program) (N : Nat) (Q : Exit → Act → World → Prop) (ops : Array Oper) (S : World → Prop) (t : Tr) (env : Env) (w : World) : Prop := ∀ a, St N env a → GoT P ops S Q t a w
section
variable {P : Program} {N : Nat} {Q : Exit → Act → World → Prop} {ops : Array Oper} {S S' : World → Prop} {A : List Nat} {i i' i2 : Nat} {t t' t2 : Tr} {L : List (Nat × Bool)} {env : Env} {w : World}
theorem tr_run (h : SchQ P N Q ops S L env w) : SchT P N Q ops S (.run L) env w := h
theorem tr_fork (h : SchQ P N (QT Q fun a w => wpOp P ops Q i (fun a' w' => S w' ∧ GoT P ops S Q t a' w') a w ∧ wpOp P ops Q i' (fun a' w' => S w' ∧ GoT P ops S Q t' a' w') a w) ops S (A.map fun j => (j, true)) env w) : SchT P N Q ops S (.fork A i t i' t') env w := h
theorem tr_do2 (h : SchQ P N (QT Q fun a w => S w ∧ GoT P ops S Q t a w) ops S [(i, false)] env w) (h' : SchQ P N (QT Q fun a w => S w ∧ GoT P ops S Q t' a w) ops S [(i', false)] env w) :
    SchQ P N (QT Q fun a w => wpOp P ops Q i (fun a' w' => S w' ∧ GoT P ops S Q t a' w') a w ∧ wpOp P ops Q i' (fun a' w' => S w' ∧ GoT P ops S Q t' a' w') a w) ops S [] env w := fun a ha => by
  show wpOp P ops Q i (fun a' w' => S w' ∧ GoT P ops S Q t a' w') a w ∧ wpOp P ops Q i' (fun a' w' => S w' ∧ GoT P ops S Q t' a' w') a w
  exact ⟨wpOp_mono (fun a' w' g => g.2) (wpOp_QT (h a ha)), wpOp_mono (fun a' w' g => g.2) (wpOp_QT (h' a ha))⟩
theorem tr_next (hS : S w) (h : SchT P N Q ops S t env w) : SchQ P N (QT Q fun a w => S w ∧ GoT P ops S Q t a w) ops S' [] env w := fun a ha => ⟨hS, h a ha⟩
variable {f : FuncId} {k : List Item} {R : Value → World → Prop}
theorem run_tree {c : Code} {id : Nat} (I : List Nat) (C : Nat → Nat) (jb : Nat) (t : Tr) (hm : P.follows .mixedOrders = true) (hc : c = .region id ops true)
    (hn : Region.noSelect ops = true) (hk : chkT ops jb t ops.size (Array.replicate ops.size false) = true)
    (h : ∀ w₁, Stp [] w C w₁ C → SchT P N (QK P f k R) ops (fun w' => Ext (fun b => C b ∈ I) w₁ w') t env w₁) : Run P f N (.code c :: k) env w R := fun a ha => by
  subst hc
  exact runs_of_wp (wp_region_any hm (wpAny_of_bar _ _ _ _ (gol_tree hn (fun c a d v w h => h.elim) t _ _ a _ hk (closed_none ops) (Ext.refl _ _) (h _ (Stp.drew [] w C) a ha))))
end
end Go.K

/- Drawn regions with a bar: an operation that waits for all that comes before it in the order; behind it nothing is asked for any more. -/
namespace Go.K
open Rep
section
variable {P : Program} {ops : Array Oper} {S : World → Prop} {Q : Exit → Act → World → Prop}
end
section
variable {P : Program} {N : Nat} {Q : Exit → Act → World → Prop} {ops : Array Oper} {S S' : World → Prop} {jb : Nat} {L2 : List (Nat × Bool)} {env : Env} {w : World}
variable {f : FuncId} {k : List Item} {R : Value → World → Prop}
end
end Go.K

/- Reviews: what reads as weights, records, reviews; the plain law of scores. -/
namespace Go.K
open Rep
structure Wt where
  pr : Int
  ag : List Int
  df : List Int
instance : Rep Wt := Rep.via (fun x : Wt => (x.pr, (x.ag, x.df)))
section
variable {P : Program} {N : Nat} {env : Env} {y z : Operand} {t e : TypeId} {b o o' n len : Nat} {k : IntKind} {i : Int} {w : World} {v : Value} {M : Nat → Prop}
end
def fitW (x : Int) : Prop := -65536 ≤ x ∧ x ≤ 65536
instance (x : Int) : Decidable (fitW x) := by unfold fitW; infer_instance
section
variable {P : Program} {f : FuncId} {N : Nat} {k : List Item} {env : Env} {w : World} {R : Value → World → Prop}
end
end Go.K

/- Insertion sort of lists, and what stable sorting yields. Plain. -/
namespace Go.K
open Rep
section
variable {α : Type} {ys zs : List α} {σ : Nat → Nat} {a b i j : Nat} {c : α → α → Int} {P : α → Prop}
theorem Within.thin (h : Within σ a (a + 1)) (hb : a ≤ b) : Within σ a b := by
  have hid : ∀ i, σ i = i := fun i => by
    by_cases e : a ≤ i ∧ i < a + 1
    · have := h.in_ i e.1 e.2; omega
    · exact h.out i e
  exact ⟨fun i _ => hid i, fun i h1 h2 => by rw [hid i]; exact ⟨h1, h2⟩, h.inj⟩
theorem InsI.lt (h : InsI c ys σ a i j) (hj : a < j) : σ (j - 1) < i := by
  have hl := h.le
  have h1 := h.within.in_ (j - 1) (by omega) (by omega)
  have h2 : σ (j - 1) ≠ i := fun e => by have := h.within.inj (j - 1) j (by rw [e, h.me]); omega
  omega
theorem InsI.ord (hc : Cmp3 c P) (hP : ∀ x ∈ ys, P x) (hL : PL ys σ zs) (h : InsI c ys σ a i j) (hj : a < j) (hi : i < ys.length) (h1 : j < zs.length) (h2 : j - 1 < zs.length) : ordT c ys i (σ (j - 1)) ↔ c zs[j] zs[j - 1] < 0 := by
  have hl := h.le
  have e1 := hL.get (show j < ys.length by omega)
  have e2 := hL.get (show j - 1 < ys.length by omega)
  have hlt := h.lt hj
  rw [e1, e2, ordT_lt hc hP (by omega) hi hlt]
  simp only [h.me]
end
theorem cmpI_lt {x y : Int} : cmpI x y < 0 ↔ x < y := by unfold cmpI; split <;> (try split) <;> omega
theorem wrap_u8n {n : Nat} (h : n ≤ 12) : IntKind.u8.wrap ((n : Nat) : Int) = n := by
  unfold IntKind.wrap
  simp [IntKind.signed, IntKind.bits]
  omega
theorem wrap_u64n {n : Nat} (h : n ≤ 12) : IntKind.u64.wrap ((n : Nat) : Int) = n := by
  unfold IntKind.wrap
  simp [IntKind.signed, IntKind.bits]
  omega
theorem tabN {s : ByteArray} {n : Nat} (h : n < s.size) : ∃ b : UInt8, s[((n : Nat) : Int).toNat]? = some b := ⟨_, by rw [Int.toNat_natCast]; exact getElem?_pos s n h⟩
section
variable {P : Program} {N : Nat} {env : Env} {y z : Operand} {t : TypeId} {k : IntKind} {n : Nat} {s : ByteArray} {b : UInt8} {w : World}
theorem val_idxS (hy : ev env y = some (.string s)) (hz : ev env z = some (.int k n)) (hu : P.underlying t = some .string) (hb : s[((n : Nat) : Int).toNat]? = some b) : Val P N env (.index t y z) w (.int .u8 (b.toNat : Nat)) := mk' fun ρ hρ oo ho => by
  rw [Int.toNat_natCast] at hb
  unfold execOp; rw [ho]
  simp [hρ _ _ hy, hρ _ _ hz, go_sem, Instr.index, asIntOf, run_underlying hu, hb]
end
def isCk (c : Code) (b : Bool) : Bool := match c with | .cond (.const (.bool b')) _ _ => b == b' | _ => false
theorem isCk_eq {c : Code} {b : Bool} (h : isCk c b = true) : c = .cond (.const (.bool b)) (cl c) (cr c) := by
  unfold isCk at h
  split at h
  · rw [beq_iff_eq] at h; subst h; rfl
  · cases h
section
variable {P : Program} {f : FuncId} {N : Nat} {k : List Item} {env : Env} {w : World} {R : Value → World → Prop}
theorem run_ckF {c : Code} (hc : isCk c false = true) (h : Run P f N (.code (cr c) :: k) env w R) : Run P f N (.code c :: k) env w R :=
  run_cond (isCk_eq hc) rfl (fun h => by cases h) (fun _ => h)
end
section
variable {α : Type} {ys zs us : List α} {σ τ : Nat → Nat} {c : α → α → Int} {P : α → Prop}
def StS (c : α → α → Int) (ys zs : List α) : Prop := ∃ σ, PL ys σ zs ∧ Within σ 0 ys.length ∧ Asc (ordT c ys) σ 0 ys.length
theorem asc_inj {n : Nat} (hc : Cmp3 c P) (hP : ∀ x ∈ ys, P x) (hn : n = ys.length) (h1 : Within σ 0 n) (h2 : Asc (ordT c ys) σ 0 n) (t1 : Within τ 0 n) (t2 : Asc (ordT c ys) τ 0 n) : ∀ i, i < n → σ i = τ i := by
  -- the least place where they differ
  intro i
  induction i using Nat.strongRecOn with
  | ind i ih =>
    intro hi
    apply Classical.byContradiction
    intro hne
    -- σ i stands somewhere under τ, and τ i under σ, both behind i
    have key : ∀ (ρ π : Nat → Nat), Within ρ 0 n → Asc (ordT c ys) ρ 0 n → Within π 0 n → (∀ k, k < i → ρ k = π k) → ρ i ≠ π i → ordT c ys (ρ i) (π i) := by
      intro ρ π r1 r2 p1 hk hne
      -- π i = ρ m for some m
      have hsur : ∃ m, m < n ∧ ρ m = π i := by
        apply Classical.byContradiction
        intro hno
        have h1 := p1.in_ i (by omega) hi
        have := pigeon n (n - 1) (fun m => if ρ m < π i then ρ m else ρ m - 1) (fun m hm => by
          have h2 := r1.in_ m (by omega) hm
          have h3 : ρ m ≠ π i := fun e => hno ⟨m, hm, e⟩
          split <;> omega) (fun m m' hm hm' e => by
          have h3 : ρ m ≠ π i := fun e => hno ⟨m, hm, e⟩
          have h4 : ρ m' ≠ π i := fun e => hno ⟨m', hm', e⟩
          refine r1.inj _ _ ?_
          split at e <;> split at e <;> omega)
        omega
      obtain ⟨m, hm, e⟩ := hsur
      have hmi : i < m := by
        rcases Nat.lt_trichotomy m i with h | h | h
        · have := hk m h; rw [e] at this; have := p1.inj _ _ this; omega
        · subst h; exact absurd e hne
        · exact h
      rw [← e]
      exact r2 i m (by omega) hmi hm
    have a := key σ τ h1 h2 t1 (fun k hk => ih k hk (by omega)) hne
    have b := key τ σ t1 t2 h1 (fun k hk => (ih k hk (by omega)).symm) (Ne.symm hne)
    exact ordT_asym hc hP a b
theorem StS.uniq (hc : Cmp3 c P) (hP : ∀ x ∈ ys, P x) (h : StS c ys zs) (h' : StS c ys us) : zs = us := by
  obtain ⟨σ, a1, a2, a3⟩ := h
  obtain ⟨τ, b1, b2, b3⟩ := h'
  have he := asc_inj hc hP rfl a2 a3 b2 b3
  apply List.ext_getElem?
  intro i
  by_cases hi : i < ys.length
  · rw [(a1.at_ i hi).2, (b1.at_ i hi).2, he i hi]
  · rw [List.getElem?_eq_none (by rw [a1.len]; omega), List.getElem?_eq_none (by rw [b1.len]; omega)]
noncomputable def stS (c : α → α → Int) (ys : List α) : List α := open Classical in if h : ∃ zs, StS c ys zs then h.choose else ys
theorem StS.eq (hc : Cmp3 c P) (hP : ∀ x ∈ ys, P x) (h : StS c ys zs) : zs = stS c ys := by
  have he : ∃ zs, StS c ys zs := ⟨zs, h⟩
  unfold stS
  rw [dif_pos he]
  exact h.uniq hc hP he.choose_spec
end
end Go.K

/- The fields that decide: plain. -/
namespace Go.K
open Rep
section
variable {α : Type} {ys zs : List α} {c : α → α → Int}
theorem StS.len (h : StS c ys zs) : zs.length = ys.length := by obtain ⟨σ, h1, _⟩ := h; exact h1.len
theorem StS.sub (h : StS c ys zs) : ∀ x ∈ zs, x ∈ ys := fun x hx => by
  obtain ⟨σ, h1, _⟩ := h
  obtain ⟨i, hi, rfl⟩ := List.getElem_of_mem hx
  rw [h1.get (by rw [← h1.len]; exact hi)]
  exact List.getElem_mem _
end
end Go.K

/- What was shown, decisions, reviews: what reads as such, and what is valid. -/
namespace Go.K
open Rep
structure Shw where
  r : Couple
  ver : Int
  fld : Int
  ch : Int
  deriving DecidableEq
instance : Rep Shw := Rep.via (fun x : Shw => (x.r, (x.ver, (x.fld, x.ch))))
instance : Inhabited Shw := ⟨⟨⟨0, 0⟩, 0, 0, 0⟩⟩
structure Dcs where
  A : Couple
  B : Couple
  va : Int
  vb : Int
  same : Bool
  deriving DecidableEq
instance : Rep Dcs := Rep.via (fun x : Dcs => (x.A, (x.B, (x.va, (x.vb, x.same)))))
instance : Inhabited Dcs := ⟨⟨⟨0, 0⟩, ⟨0, 0⟩, 0, 0, false⟩⟩
abbrev encD (x : Dcs) : List Value := [.int .i64 x.A.a, .int .i64 x.A.b, .int .i64 x.B.a, .int .i64 x.B.b, .int .i64 x.va, .int .i64 x.vb, .bool x.same]
section
variable {w : World} {M : Nat → Prop} {b o : Nat} {v : Value}
theorem rep_dcs {h : Array Obj} {x : Dcs} {vs : List Value} : rep h M x vs ↔ vs = encD x :=
  ⟨fun hr => by
    obtain ⟨us, ws, rfl, h1, us2, ws2, rfl, h2, us3, ws3, rfl, h3, us4, ws4, rfl, h4, h5⟩ := hr
    have e1 := (rep_couple (M := M) (h := h) (x := x.A)).1 h1
    have e2 := (rep_couple (M := M) (h := h) (x := x.B)).1 h2
    have e3 : us3 = [.int .i64 x.va] := h3
    have e4 : us4 = [.int .i64 x.vb] := h4
    have e5 : ws4 = [.bool x.same] := h5
    subst e1 e2 e3 e4 e5; rfl,
   fun hr => by
    subst hr
    exact ⟨encR x.A, encR x.B ++ [.int .i64 x.va, .int .i64 x.vb, .bool x.same], rfl, (rep_couple (M := M)).2 rfl, encR x.B, [_, _, _], rfl, (rep_couple (M := M)).2 rfl, [_], [_, _], rfl, rfl, [_], [_], rfl, rfl, rfl⟩⟩
theorem rv_dcs {x : Dcs} : RV w M x v ↔ v = .agg (encD x).toArray :=
  ⟨fun h => by obtain ⟨vs, h1, h2⟩ := h; rw [rep_dcs.1 h1] at h2; exact h2, fun h => ⟨_, rep_dcs.2 rfl, h⟩⟩
end
def cmpD (x y : Dcs) : Int := orL [cmp2 x.A x.B y.A y.B, cmpI x.va y.va, cmpI x.vb y.vb]
def verOK (n : Int) : Bool := decide (1 ≤ n ∧ n ≤ 1048576)
def dcsOK (x : Dcs) : Prop := cplOK x.A x.B = true ∧ verOK x.va = true ∧ verOK x.vb = true
end Go.K

/- append(s[:len(s):len(s)], list...): a list that others read is never written; the colours inside a function that may write what bears the colours 3 to 6. -/
namespace Go.K
open Rep
section
variable {α : Type} [Rep α] {P : Program} {N : Nat} {env : Env} {w : World} {M : Nat → Prop} {t e e' : TypeId} {v s : Value} {x y z q : Operand} {xs ys zs : List α}
theorem cells_of {zs : List α} {sb so : Nat} {scs : Array Value} {sty : TypeId} {sfz : Nat × Nat} (hsc : w.heap[sb]? = some (.cells scs sty sfz)) (hsl : so + zs.length * sz α ≤ scs.size)
    (hsr : ∀ k (hk : k < zs.length), rep w.heap M zs[k] (cellsAt scs (so + k * sz α) (sz α))) :
    ∃ news : List Value, news.length = zs.length * sz α ∧ (∀ j v, news[j]? = some v → w.cell? ((⟨sb, so, none⟩ : Addr).add j) = some v) ∧ ∀ k (hk : k < zs.length), rep w.heap M zs[k] (cellsAt news.toArray (k * sz α) (sz α)) := by
  obtain ⟨news, hnews_def⟩ : ∃ news, news = cellsAt scs so (zs.length * sz α) := ⟨_, rfl⟩
  have hnl : news.length = zs.length * sz α := by
    rw [hnews_def]; simp only [cellsAt, List.length_take, List.length_drop, Array.length_toList]; omega
  have hget : ∀ j, j < zs.length * sz α → news[j]? = scs[so + j]? := fun j hj => by
    rw [hnews_def]; simp only [cellsAt, List.getElem?_take, if_pos hj, List.getElem?_drop]; simp
  refine ⟨news, hnl, fun j v hv => ?_, fun k hk => ?_⟩
  · have hj : j < zs.length * sz α := by rw [← hnl]; exact (List.getElem?_eq_some_iff.1 hv).1
    rw [addr_add, cell_of_row w sb (so + j) scs sty sfz hsc, ← hget j hj, hv]
  · have := hsr k hk
    rwa [show cellsAt scs (so + k * sz α) (sz α) = cellsAt news.toArray (k * sz α) (sz α) from cellsAt_ext (fun j hj => by
      have hb : k * sz α + j < zs.length * sz α := by
        have := Nat.mul_le_mul_right (sz α) (show k + 1 ≤ zs.length from hk); rw [Nat.succ_mul] at this; omega
      rw [show ∀ m, news.toArray[m]? = news[m]? from fun m => by simp, hget _ hb, Nat.add_assoc])] at this
theorem acts_appendR {bytes : Nat} {a : Option Addr} (hx : ev env x = some (.slice a ys.length ys.length)) (hy : ev env y = some s) (hrow : rowB P t e (sz α) bytes = true) (hsz : 0 < sz α)
    (hown : RV w M ys (.slice a ys.length ys.length)) (hsrc : RV w M zs s) (hz0 : zs ≠ []) (hlen : (ys.length + zs.length) * bytes ≤ 140737488355328) (h63 : ys.length + zs.length ≤ 140737488355328) :
    Acts P N env (.call { callee := .builtin .append, args := #[x, y], argTypes := #[t, t] }) w (fun v' w' =>
      OwnS w' (fun b => Ob v' b ∨ M b) e v' (ys ++ zs) ∧ Ext (fun _ => False) w w' ∧ (∀ b, Ob v' b → w.heap.size ≤ b)) := acts' fun ρ hρ oo hoo => by
  obtain ⟨i, z, hu, hi, rfl0, hby, hz, hzs⟩ := rowB_spec hrow
  obtain ⟨a2, c, rfl, hcap, hl0, hseg⟩ := rv_list.1 hsrc
  have key : ∃ v' w', (Builtin.append_ #[t, t] oo.type #[.slice a ys.length ys.length, .slice a2 zs.length c]).run P w = .ok v' w' ∧
      OwnS w' (fun b => Ob v' b ∨ M b) e v' (ys ++ zs) ∧ Ext (fun _ => False) w w' ∧ (∀ b, Ob v' b → w.heap.size ≤ b) := by
    rcases hseg with h | ⟨sb, so, rfl, hsb, scs, sty, sfz, hsc, hsl, hsr⟩
    · exact absurd h hz0
    · have hm0 : 0 < zs.length := List.length_pos_iff.2 hz0
      obtain ⟨news, hnl, hnews, hrepn⟩ := cells_of (w := w) (M := M) hsc hsl hsr
      have hnl' : news.length = zs.length * i.size := by rw [hnl, rfl0]
      have fresh : ∀ (olds : List Value) (cap : Nat) (o : Obj), olds.length = ys.length * sz α → (∀ k (hk : k < ys.length), rep w.heap M ys[k] (cellsAt olds.toArray (k * sz α) (sz α))) →
          o = .cells (olds.toArray ++ news.toArray ++ Builtin.zeroCells z.cells (cap - (ys.length + zs.length))) e (0, 0) → ys.length + zs.length ≤ cap →
          OwnS (w.drew.alloc o) (fun b => Ob (.slice (some ⟨w.heap.size, 0, none⟩) (ys.length + zs.length) cap) b ∨ M b) e (.slice (some ⟨w.heap.size, 0, none⟩) (ys.length + zs.length) cap) (ys ++ zs) := by
        intro olds cap o holds hrepo ho hcap'
        subst ho
        have hnew := new_alloc_drew w (.cells (olds.toArray ++ news.toArray ++ Builtin.zeroCells z.cells (cap - (ys.length + zs.length))) e (0, 0))
        refine .inr ⟨w.heap.size, cap, _, by rw [List.length_append], .inl rfl, hnew.at_, by rw [List.length_append]; exact hcap', ?_, ?_⟩
        · simp only [Array.size_append, List.size_toArray, size_zeroCells, hzs, holds, hnl, ← Nat.add_mul]
          congr 1; omega
        · intro k hk
          rw [List.length_append] at hk
          have hkeep : ∀ (x : α) (vs : List Value), rep w.heap M x vs → rep (w.drew.alloc (.cells (olds.toArray ++ news.toArray ++ Builtin.zeroCells z.cells (cap - (ys.length + zs.length))) e (0, 0))).heap
              (fun b => Ob (.slice (some ⟨w.heap.size, 0, none⟩) (ys.length + zs.length) cap) b ∨ M b) x vs := fun x vs hr =>
            Rep.keep (Rep.sub hr (fun b hb h => h.elim (fun e => by simp only [Ob, Value.ownBlock, Option.some.injEq] at e; omega) id)) (fun b hb _ => hnew.ext.block b hb (fun h => h))
          by_cases hky : k < ys.length
          · rw [List.getElem_append_left hky]
            have := hrepo k hky
            rw [show cellsAt olds.toArray (k * sz α) (sz α) = cellsAt (olds.toArray ++ news.toArray ++ Builtin.zeroCells z.cells (cap - (ys.length + zs.length))) (k * sz α) (sz α) from cellsAt_ext (fun j hj => by
              have hb : k * sz α + j < ys.length * sz α := by
                have := Nat.mul_le_mul_right (sz α) (show k + 1 ≤ ys.length from hky); rw [Nat.succ_mul] at this; omega
              rw [Array.append_assoc, Array.getElem?_append_left (by simpa [holds] using hb)])] at this
            exact hkeep _ _ this
          · rw [List.getElem_append_right (by omega)]
            have hkz : k - ys.length < zs.length := by omega
            have := hrepn (k - ys.length) hkz
            rw [show cellsAt news.toArray ((k - ys.length) * sz α) (sz α) = cellsAt (olds.toArray ++ news.toArray ++ Builtin.zeroCells z.cells (cap - (ys.length + zs.length))) (k * sz α) (sz α) from cellsAt_ext (fun j hj => by
              have hb : (k - ys.length) * sz α + j < zs.length * sz α := by
                have := Nat.mul_le_mul_right (sz α) (show k - ys.length + 1 ≤ zs.length from hkz); rw [Nat.succ_mul] at this; omega
              have he : k * sz α = ys.length * sz α + (k - ys.length) * sz α := by rw [← Nat.add_mul]; congr 1; omega
              rw [Array.getElem?_append_left (by simp only [Array.size_append, List.size_toArray, holds, hnl]; omega), Array.getElem?_append_right (by simp only [List.size_toArray, holds]; omega)]
              congr 1
              simp only [List.size_toArray, holds]; omega)] at this
            exact hkeep _ _ this
      by_cases hys : ys = []
      · subst hys
        rcases a with _ | ab
        case' some =>
          have hr := run_append_grow (P := P) w t oo.type e i z hu hi hz ab 0 0 [] (by simp) (fun j v hv => by simp at hv) ⟨sb, so, none⟩ zs.length c news hnl' hnews (by omega) (by omega)
            (growslice_fits (by omega) (by rw [hby]; exact hlen))
          have hfr := fresh [] (grownCap w (0 + zs.length) 0 e) _ (by simp) (fun k hk => by simp at hk) rfl (grownCap_ge w _ _ e)
          refine ⟨_, _, hr, hfr, ?_, ?_⟩
          · exact (new_alloc_drew w _).ext.mono (fun b hb h => h.elim)
          · intro b hb; simp only [Ob, Value.ownBlock, Option.some.injEq] at hb; omega
        have hr := run_append_nil (P := P) w t oo.type e i z hu hi hz ⟨sb, so, none⟩ zs.length c news hnl' hnews hm0 (by omega)
          (by rw [hby]; simp only [List.length_nil, Nat.zero_add] at hlen; omega)
        have hfr := fresh [] (grownCap w zs.length 0 e) _ (by simp) (fun k hk => by simp at hk) rfl (by simpa using grownCap_ge w zs.length 0 e)
        simp only [List.length_nil, Nat.zero_add, List.nil_append] at hfr
        refine ⟨_, _, hr, ?_, ?_, ?_⟩
        · simpa using hfr
        · exact (new_alloc_drew w _).ext.mono (fun b hb h => h.elim)
        · intro b hb; simp only [Ob, Value.ownBlock, Option.some.injEq] at hb; omega
      · obtain ⟨a3, c3, he3, _, _, hseg3⟩ := rv_list.1 hown
        injection he3 with h1 h2 h3
        subst h1
        rcases hseg3 with h | ⟨ob, oo', ha3, hob, ocs, oty, ofz, hoc, hol, hor⟩
        · exact absurd h hys
        · subst ha3
          obtain ⟨olds, hll, holds, hrepo⟩ := cells_of (w := w) (M := M) hoc hol hor
          have hr := run_append_grow (P := P) w t oo.type e i z hu hi hz ⟨ob, oo', none⟩ ys.length ys.length olds (by rw [rfl0]; exact hll) holds ⟨sb, so, none⟩ zs.length c news hnl' hnews (by omega) (by omega)
            (growslice_fits (by omega) (by rw [hby]; exact hlen))
          have hfr := fresh _ (grownCap w (ys.length + zs.length) ys.length e) _ hll hrepo rfl (grownCap_ge w _ _ e)
          refine ⟨_, _, hr, hfr, ?_, ?_⟩
          · exact (new_alloc_drew w _).ext.mono (fun b hb h => h.elim)
          · intro b hb; simp only [Ob, Value.ownBlock, Option.some.injEq] at hb; omega
  obtain ⟨v', w', hrun, hpost⟩ := key
  refine ⟨v', w', .inl ?_, hpost⟩
  unfold execOp; rw [hoo]
  simp [hρ _ _ hx, hρ _ _ hy, resolve, invoke, builtin, hrun]
end
section
variable {α : Type} [Rep α] {P : Program} {N : Nat} {env : Env} {w w' : World} {C C' : Nat → Nat} {I : List Nat} {t e e' : TypeId} {v s : Value} {y z : Operand} {xs ys zs : List α} {j b n ty : Nat} {ob ob0 : Obj}
theorem a_appendR {bytes : Nat} {a : Option Addr} (hF : Lim w C) (hj : j ≠ 0) (hx : ev env y = some (.slice a ys.length ys.length)) (hy : ev env z = some s) (hrow : rowB P t e (sz α) bytes = true) (hsz : 0 < sz α)
    (hown : RV w (Mc C) ys (.slice a ys.length ys.length)) (hsrc : RV w (Mc C) zs s) (hz0 : zs ≠ []) (hlen : (ys.length + zs.length) * bytes ≤ 140737488355328) (h63 : ys.length + zs.length ≤ 140737488355328) :
    Acts P N env (.call { callee := .builtin .append, args := #[y, z], argTypes := #[t, t] }) w (fun v' w' => ∃ C', Stp [] w C w' C' ∧ OwnL w' C' j e v' (ys ++ zs) ∧ Lim w' C') := fun a' ha' oo hoo => by
  obtain ⟨v', w', h1, h2, h3, h4⟩ := acts_appendR (P := P) (N := N) hx hy hrow hsz hown hsrc hz0 hlen h63 a' ha' oo hoo
  have hcol : ∀ b, b < w.heap.size → setB C v' j b = C b := fun b hb => by
    unfold setB
    split
    · rename_i e; have := h4 b e; omega
    · rfl
  refine ⟨v', w', h1, setB C v' j, ⟨h3.mono (fun b _ hb => hb.elim), hcol⟩, ⟨h2.sub (fun b hb hc => ?_) (fun b hb => ?_), fun b hb => ?_⟩, fun b hb => ?_⟩
  · by_cases ho : Ob v' b
    · exact .inl ho
    · right
      unfold Mc setB at hc
      rw [if_neg (show ¬ v'.ownBlock = some b from ho)] at hc
      exact hc
  · unfold Mc setB; rw [if_pos (show v'.ownBlock = some b from hb)]; exact hj
  · unfold setB; rw [if_pos (show v'.ownBlock = some b from hb)]
  · by_cases ho : Ob v' b
    · exact (h2.ob b ho).2
    · unfold setB at hb
      rw [if_neg (show ¬ v'.ownBlock = some b from ho)] at hb
      exact Nat.lt_of_lt_of_le (hF b hb) h3.size
end
end Go.K
namespace Go.K
open Rep
section
variable {α : Type} [Rep α] {w : World} {C : Nat → Nat} {P : Program} {f : FuncId} {N : Nat} {k : List Item} {R : Value → World → Prop} {Q : Exit → Act → World → Prop} {env : Env} {ops : Array Oper} {S : World → Prop} {i t : Nat} {L : List (Nat × Bool)} {v : Value} {y z q : Operand} {gd : Option (Nat × Bool)} {ty e e' : TypeId} {xs : List α} {kd kd2 : IntKind}
end
end Go.K

/- What is missing of a record: plain. -/
namespace Go.K
open Rep
end Go.K

/- Copies of lists that may be nil or empty. -/
namespace Go.K
open Rep
section
variable {α : Type} [Rep α] {P : Program} {N : Nat} {env : Env} {w w' : World} {C C' : Nat → Nat} {t e u : TypeId} {v s : Value} {x y z : Operand} {a b : Addr} {l c n : Nat} {M : Nat → Prop}
theorem val_eqNilX (hx : ev env x = some (.slice (some b) l c)) (ht : P.underlying t = some (.slice e)) : Val P N env (.binOp .eql t x (.const (.slice none 0 0)) u) w (.bool false) := mk' fun ρ hρ o ho => by
  unfold execOp; rw [ho]
  have hc : ρ (.const (.slice none 0 0)) = .slice none 0 0 := hρ _ _ rfl
  have h1 : (Op.equalIn Op.maxDepth t (.slice (some b) l c) (.slice none 0 0)).run P w = .ok false w := by rw [show Op.maxDepth = 9999 + 1 from rfl, Op.equalIn]; simp [run_underlying ht]
  simp [hρ _ _ hx, hc, go_sem, eqGuard, binOp, Op.equal, h1]
theorem val_eqNilN (hx : ev env x = some (.slice none l c)) (ht : P.underlying t = some (.slice e)) : Val P N env (.binOp .eql t x (.const (.slice none 0 0)) u) w (.bool true) := mk' fun ρ hρ o ho => by
  unfold execOp; rw [ho]
  have hc : ρ (.const (.slice none 0 0)) = .slice none 0 0 := hρ _ _ rfl
  have h1 : (Op.equalIn Op.maxDepth t (.slice none l c) (.slice none 0 0)).run P w = .ok true w := by rw [show Op.maxDepth = 9999 + 1 from rfl, Op.equalIn]; simp [run_underlying ht]
  simp [hρ _ _ hx, hc, go_sem, eqGuard, binOp, Op.equal, h1]
theorem a_buildEmptyX {bytes : Nat} (hF : Lim w C) (hrow : rowB P t e n bytes = true) : Acts P N env (.buildSlice t 0 #[]) w (fun v w' => (∃ a, v = .slice (some a) 0 0) ∧ Stp [] w C w' C ∧ Lim w' C) := acts' fun ρ hρ oo hoo => by
  obtain ⟨i, z, hu, hi, hsi, hby, hz, hzs⟩ := rowB_spec hrow
  have hsz' : (sizeOf e).run P w = .ok n w := by simp [sizeOf, typeInfo, hi, hsi]
  have hnew := new_alloc w (.cells #[] e)
  have hrun : (Instr.buildSlice t 0 #[]).run P w = .ok (.slice (some ⟨w.heap.size, 0, none⟩) 0 0) (w.alloc (.cells #[] e)) := by
    unfold Instr.buildSlice
    simp [run_underlying hu, hsz', Instr.fill, newRow, show Array.range 0 = (#[] : Array Nat) from by simp [Array.range]]
  refine ⟨.slice (some ⟨w.heap.size, 0, none⟩) 0 0, w.alloc (.cells #[] e), .inl ?_, ⟨_, rfl⟩, hnew.st C, hF.st (hnew.st C)⟩
  unfold execOp; rw [hoo]
  simp only [Sem.run_bind]
  rw [show Array.map (fun x : Nat × Operand => (x.fst, ρ x.snd)) #[] = #[] from by simp, hrun]
  rfl
theorem a_appendE {bytes : Nat} (hx : ev env x = some (.slice (some a) 0 0)) (hy : ev env y = some s) (hrow : rowB P t e (sz α) bytes = true) (hsrc : RV w M ([] : List α) s) :
    Acts P N env (.call { callee := .builtin .append, args := #[x, y], argTypes := #[t, t] }) w (fun v' w' => v' = .slice (some a) 0 0 ∧ Stp [] w C w' C) := acts' fun ρ hρ oo hoo => by
  obtain ⟨i, z, hu, hi, rfl0, hby, hz, hzs⟩ := rowB_spec hrow
  obtain ⟨a2, c, rfl, hcap, hl0, hseg⟩ := rv_list.1 hsrc
  have hf : (Builtin.firstCells i.size 0 (.slice a2 0 c)).run P w = .ok #[] w := by cases a2 <;> simp [Builtin.firstCells, loadCells, loadCellsFrom]
  have hrun : (Builtin.append_ #[t, t] oo.type #[.slice (some a) 0 0, .slice a2 0 c]).run P w = .ok (.slice (some a) 0 0) w := by
    simp [Builtin.append_, run_underlying hu, sizeOf, typeInfo, hi, Builtin.lenOf, hf, storeCells]
  refine ⟨_, w, .inl ?_, rfl, Stp.refl _ _ _⟩
  unfold execOp; rw [hoo]
  simp [hρ _ _ hx, hρ _ _ hy, resolve, invoke, builtin, hrun]
theorem rv_empX {a : Addr} : RV w M ([] : List α) (.slice (some a) 0 0) := rv_list.2 ⟨_, 0, rfl, Nat.le_refl _, by simp, .inl rfl⟩
end
section
variable {α : Type} [Rep α] {P : Program} {N : Nat} {env : Env} {w : World} {C : Nat → Nat} {t ti e j n l c : Nat} {y z : Operand} {a : Addr}
theorem a_appendZ0 {bytes : Nat} (hF : Lim w C) (hj : j ≠ 0) (hy : ev env y = some (.slice none 0 0)) (hz : ev env z = some (.int .i64 n)) (hrow : rowB P t e (sz α) bytes = true) (hsz : 0 < sz α) (hby : bytes ≤ 100000)
    (hti : P.underlying ti = some (.int .i64)) (h0 : 0 < n) (hn : n ≤ 1000000) :
    Acts P N env (.call { callee := .builtin .append, args := #[y, z], argTypes := #[t, ti] }) w (fun v w' => ∃ C' g cap, v = .slice (some ⟨g, 0, none⟩) n cap ∧ Stp [] w C w' C' ∧ OwnL w' C' j e (.slice (some ⟨g, 0, none⟩) 0 cap) ([] : List α) ∧ Lim w' C') := acts' fun ρ hρ oo hoo => by
  obtain ⟨i, zv, hu, hi, hsi, hb, hzi, hzs⟩ := rowB_spec hrow
  have hr := Lib.run_append_nil_zeros (P := P) w t ti oo.type e i zv .i64 .i64 hu hti hi hzi n h0 (by rw [hsi]; exact hsz) (by omega) (by rw [hb]; have := Nat.mul_le_mul hn hby; omega)
  have hge := grownCap_ge w n 0 e
  obtain ⟨cap, hcap⟩ : ∃ cap, cap = grownCap w n 0 e := ⟨_, rfl⟩
  rw [← hcap] at hr hge
  have hnw := new_alloc_drew w (.cells (Builtin.zeroCells zv.cells n ++ Builtin.zeroCells zv.cells (cap - n)) e (0, 0))
  obtain ⟨C', h1, h2, h3⟩ := hnw.own hF j
  refine ⟨_, _, .inl ?_, C', _, cap, rfl, h1, ⟨.inr ⟨w.heap.size, cap, _, rfl, ?_, h2.at_, Nat.zero_le _, ?_, fun k hk => by simp at hk⟩, fun b hb => ?_⟩, h3⟩
  · unfold execOp; rw [hoo]
    simp [hρ _ _ hy, hρ _ _ hz, resolve, invoke, builtin, hr]
  · unfold Mc; rw [h2.col]; exact hj
  · rw [Array.size_append, size_zeroCells, size_zeroCells, hzs, ← Nat.add_mul]
    congr 1; omega
  · simp only [Ob, Value.ownBlock, Option.some.injEq] at hb
    subst hb; exact h2.col
theorem val_capX {b : Option Addr} (hx : ev env y = some (.slice b l c)) (ht : P.underlying t = some (.slice e)) :
    Val P N env (.call { callee := .builtin .cap, args := #[y], argTypes := #[t] }) w (.int .i64 c) := mk' fun ρ hρ o ho => by
  unfold execOp; rw [ho]; simp [hρ _ _ hx, go_sem, resolve, invoke, builtin, Builtin.cap_, run_underlying ht, goInt]
theorem val_slNil (hx : ev env y = some (.slice none 0 0)) (hz : ev env z = some (.int .i64 0)) (hu : P.underlying t = some (.slice e)) (hi : (P.info? e).isSome = true) : Val P N env (.slice t y none (some z) none) w (.slice none 0 0) := mk' fun ρ hρ o ho => by
  obtain ⟨i, hi⟩ := Option.isSome_iff_exists.1 hi
  unfold execOp; rw [ho]
  simp [hρ _ _ hx, hρ _ _ hz, Instr.sliceAt, Instr.slice, run_underlying hu, Instr.sliceBounds, Instr.sliceBound, asIntOf, sizeOf, typeInfo, hi]
theorem val_sl0 {g : Nat} (hx : ev env y = some (.slice (some ⟨g, 0, none⟩) l c)) (hz : ev env z = some (.int .i64 0)) (hu : P.underlying t = some (.slice e)) (hi : (P.info? e).isSome = true) : Val P N env (.slice t y none (some z) none) w (.slice (some ⟨g, 0, none⟩) 0 c) := mk' fun ρ hρ o ho => by
  obtain ⟨i, hi⟩ := Option.isSome_iff_exists.1 hi
  unfold execOp; rw [ho]
  simp [hρ _ _ hx, hρ _ _ hz, Instr.sliceAt, Instr.slice, run_underlying hu, Instr.sliceBounds, Instr.sliceBound, asIntOf, sizeOf, typeInfo, hi]
  exact fun _ => rfl
end
section
variable {α : Type}
theorem flat_takeA {ll : List (List α)} {k : Nat} (h : k < ll.length) : (ll.take (k + 1)).flatten = (ll.take k).flatten ++ ll[k] := by
  rw [List.take_succ_eq_append_getElem h, List.flatten_append]; simp
theorem flat_leA {ll : List (List α)} (k : Nat) : (ll.take k).flatten.length ≤ ll.flatten.length := by
  have : ll.flatten.length = (ll.take k).flatten.length + (ll.drop k).flatten.length := by rw [← List.length_append, ← List.flatten_append, List.take_append_drop]
  omega
end
end Go.K

/- The order of what was shown. Plain. -/
namespace Go.K
open Rep
theorem cmpI_z {x y : Int} : cmpI x y = 0 ↔ x = y := by unfold cmpI; split <;> (try split) <;> omega
theorem cmpI_gt {x y : Int} : 0 < cmpI x y ↔ y < x := by unfold cmpI; split <;> (try split) <;> omega
theorem orL2 (a b : Int) : orL [a, b] = if a ≠ 0 then a else b := by
  unfold orL; by_cases h : a = 0
  · simp [h, orL]; exact fun e => e.symm
  · simp [h]
section
variable {P : Program} {f : FuncId} {N : Nat} {k : List Item} {env : Env} {w : World} {R : Value → World → Prop}
theorem run_retCTT {c : Code} {fn : Func} {a ty b u u2 : Nat} {x x2 : Value} {ty0 : Nat} {cs : List Value} {fz : Nat × Nat} {n : Nat} (hc : c = .ret) (hf : P.funcs[f]? = some fn) (hres : fn.results = #[.cell a ty, .tmp u, .tmp u2]) (hv : look env a = some (.pointer (some ⟨b, 0, none⟩)))
    (hx : look env u = some x) (hx2 : look env u2 = some x2) (hb : w.heap[b]? = some (.cells cs.toArray ty0 fz)) (ha : aggB P ty = some true) (hs : szB P ty = some n) (hl : cs.length = n)
    (hR : R (.tuple #[.agg cs.toArray, x, x2]) w) : Run P f N (.code c :: k) env w R := fun a' ha' => by
  subst hc
  refine runs_ret hf ha'.defers ?_ hR
  have h1 := ha'.slot a _ hv
  have h3 := ha'.slot u _ hx
  have h4 := ha'.slot u2 _ hx2
  have h2 := run_cellAgg hb ha hs hl
  simp only [results, hres]
  simp [h1, h3, h4, Array.getD_eq_getD_getElem?, asAddr, h2]
end
end Go.K

/- The order of decisions, and their search. Plain. -/
namespace Go.K
open Rep
def ltC2 (x y : Couple) : Prop := x.a < y.a ∨ (x.a = y.a ∧ x.b < y.b)
def eqC2 (x y : Couple) : Prop := x.a = y.a ∧ x.b = y.b
theorem cmpC_3 {x y : Couple} : (cmpC x y < 0 ↔ ltC2 x y) ∧ (cmpC x y = 0 ↔ eqC2 x y) ∧ (0 < cmpC x y ↔ ltC2 y x) := by
  unfold cmpC ltC2 eqC2
  rw [orL2]
  have a1 := @cmpI_lt x.a y.a; have a2 := @cmpI_z x.a y.a; have a3 := @cmpI_gt x.a y.a
  have b1 := @cmpI_lt x.b y.b; have b2 := @cmpI_z x.b y.b; have b3 := @cmpI_gt x.b y.b
  by_cases h1 : cmpI x.a y.a = 0
  · rw [if_neg (by omega)]; refine ⟨?_, ?_, ?_⟩ <;> omega
  · rw [if_pos h1]; refine ⟨?_, ?_, ?_⟩ <;> omega
end Go.K

/- Operations that chapter 30 needs: bools compared, entries of a map that is spelt, fields of elements of own lists. -/
namespace Go.K
open Rep
section
variable {P : Program} {N : Nat} {env : Env} {x y : Operand} {t u : TypeId} {a b : Bool} {w : World}
end
section
variable {κ β : Type} [DecidableEq κ] {kv : κ → Value} {vv : β → Value} {m : List (κ × β)} {w : World} {C : Nat → Nat} {j b : Nat}
variable {P : Program} {N : Nat} {env : Env} {x y z : Operand} {t kt et : TypeId}
end
section
variable {α : Type} [Rep α] {w : World} {C : Nat → Nat} {j : Nat} {xs : List α} {v : Value} {e : TypeId} {g i off k : Nat}
variable {P : Program} {N : Nat} {env : Env} {y z : Operand} {t : TypeId} {u : Value} {us : List Value}
end
section
variable {P : Program} {t tr ti : TypeId} {n0 n1 n2 tg0 tg1 tg2 pk0 pk1 pk2 : String} {e0 e1 e2 : Bool} {y0 y1 y2 : Nat} {N : Nat} {env : Env} {x y : Operand} {u : TypeId} {w : World}
theorem run_eq_bond (h : P.underlying t = some (.struct #[⟨n0, tr, 0, e0, tg0, pk0, y0⟩, ⟨n1, tr, 2, e1, tg1, pk1, y1⟩, ⟨n2, ti, 4, e2, tg2, pk2, y2⟩])) (h0 : n0 ≠ "_") (h1 : n1 ≠ "_") (h2 : n2 ≠ "_") (hS : P.stoodInHeld t = false)
    (hE : EqOK P tr kvC) (hi : P.underlying ti = some (.int .i64)) (ha : aggB P tr = some true) (hs : szB P tr = some 2) (a b : Bond) :
    (Op.equalIn 10000 t (.agg (encB a).toArray) (.agg (encB b).toArray)).run P w = .ok (decide (a = b)) w := by
  have hf : P.fieldsOf t = #[⟨n0, tr, 0, e0, tg0, pk0, y0⟩, ⟨n1, tr, 2, e1, tg1, pk1, y1⟩, ⟨n2, ti, 4, e2, tg2, pk2, y2⟩] := by simp [Program.fieldsOf, h]
  have p0 : ∀ c : Bond, (part tr (encB c).toArray 0).run P w = .ok (kvC c.A) w := fun c => by
    unfold part; simp only [Sem.run_bind, run_isAggB ha, Result.andThen_ok, if_true, run_sizeOfB hs, Sem.run_pure]; rfl
  have p1 : ∀ c : Bond, (part tr (encB c).toArray 2).run P w = .ok (kvC c.B) w := fun c => by
    unfold part; simp only [Sem.run_bind, run_isAggB ha, Result.andThen_ok, if_true, run_sizeOfB hs, Sem.run_pure]; rfl
  have p2 : ∀ c : Bond, (part ti (encB c).toArray 4).run P w = .ok (.int .i64 c.w) w := fun c => run_part_plain w (by simp [Program.plainKey, hi]) rfl
  have he : ∀ a b : Couple, (Op.equalIn 9999 tr (kvC a) (kvC b)).run P w = .ok (decide (a = b)) w := fun (a b : Couple) => hE 9991 a b w
  have hn : ∀ x y : Int, (Op.equalIn 9999 ti (.int .i64 x) (.int .i64 y)).run P w = .ok (x == y) w := fun (x y : Int) => run_equalIn_int (P := P) w 9998 ti .i64 .i64 x y hi
  rw [show (10000 : Nat) = 9999 + 1 from rfl, run_equalIn_struct w 9999 t _ _ (by rw [hf]; exact h) hS, hf]
  have hd : (decide (a = b)) = ((decide (a.A = b.A) && decide (a.B = b.B)) && (a.w == b.w)) := by
    cases a; cases b; simp only [Bond.mk.injEq, Bool.decide_and, Bool.and_assoc]; rfl
  simp only [Op.eqFields, Sem.run_bind, Sem.run_ite, h0, h1, h2, ne_eq, not_false_eq_true, if_true, p0, p1, p2, Result.andThen_ok, hd, he, hn]
  cases decide (a.A = b.A) <;> cases decide (a.B = b.B) <;> cases (a.w == b.w) <;> simp [p0, p1, p2, he, hn]
theorem val_neBond (h : P.underlying t = some (.struct #[⟨n0, tr, 0, e0, tg0, pk0, y0⟩, ⟨n1, tr, 2, e1, tg1, pk1, y1⟩, ⟨n2, ti, 4, e2, tg2, pk2, y2⟩])) (h0 : n0 ≠ "_") (h1 : n1 ≠ "_") (h2 : n2 ≠ "_") (hS : P.stoodInHeld t = false)
    (hE : EqOK P tr kvC) (hi : P.underlying ti = some (.int .i64)) (ha : aggB P tr = some true) (hs : szB P tr = some 2) (hg : P.eqGuardType P.depth t = false) {a b : Bond} (hx : ev env x = some (.agg (encB a).toArray)) (hy : ev env y = some (.agg (encB b).toArray)) :
    Val P N env (.binOp .neq t x y u) w (.bool (decide (a ≠ b))) := mk' fun ρ hρ o ho => by
  unfold execOp; rw [ho]
  simp only [hρ _ _ hx, hρ _ _ hy, Sem.run_bind, run_eqGuard_agg _ _ _ _ _ _ _ hg, Result.andThen_ok, run_neq_struct, run_eq_bond h h0 h1 h2 hS hE hi ha hs, Sem.run_pure]
  simp
end
end Go.K

/- Persons: partitions of refs, the search through them. Plain. -/
namespace Go.K
open Rep
def apB (ds : List Dcs) (a b : Couple) : Bool := ds.any fun d => !d.same && decide (d.A = a ∧ d.B = b)
def barB (ds : List Dcs) (a b : Couple) : Bool := decide (a.a = b.a) || apB ds a b || apB ds b a
theorem barB_symm (ds : List Dcs) (a b : Couple) : barB ds a b = barB ds b a := by
  unfold barB
  rw [show decide (a.a = b.a) = decide (b.a = a.a) from decide_eq_decide.2 ⟨Eq.symm, Eq.symm⟩, Bool.or_assoc, Bool.or_assoc, Bool.or_comm (apB ds a b)]
theorem barB_self (ds : List Dcs) (a : Couple) : barB ds a a = true := by unfold barB; simp
def withinB (l : List Bond) (s : List Couple) : List Bond := l.filter fun x => decide (x.A ∈ s ∧ x.B ∈ s)
theorem withinB_congr {l : List Bond} {s s' : List Couple} (h : ∀ r, r ∈ s ↔ r ∈ s') : withinB l s = withinB l s' := by
  unfold withinB
  refine List.filter_congr fun x _ => ?_
  rw [decide_eq_decide, h, h]
def Joined (l : List Bond) (s : List Couple) : Prop := ∀ x ∈ s, ∀ y ∈ s, rhoS (withinB l s) x = rhoS (withinB l s) y
theorem Joined.congr {l : List Bond} {s s' : List Couple} (h : ∀ r, r ∈ s ↔ r ∈ s') (hj : Joined l s) : Joined l s' := fun x hx y hy => by
  rw [← withinB_congr (l := l) h]; exact hj x ((h x).2 hx) y ((h y).2 hy)
def joinB (l : List Bond) (s : List Couple) : Bool := s.all fun x => decide (rhoS (withinB l s) x = rhoS (withinB l s) (s.headD ⟨0, 0⟩))
theorem joinB_iff {l : List Bond} {s : List Couple} : joinB l s = true ↔ Joined l s := by
  unfold joinB Joined
  rw [List.all_eq_true]
  constructor
  · intro h x hx y hy
    have h1 := of_decide_eq_true (h x hx); have h2 := of_decide_eq_true (h y hy)
    rw [h1, h2]
  · intro h x hx
    rw [decide_eq_true_eq]
    refine h x hx _ ?_
    cases s with
    | nil => simp at hx
    | cons a s => simp
def insideB (x : Bond) (p : List Couple) : Bool := decide (x.A ∈ p ∧ x.B ∈ p)
def valueB (l : List Bond) (ps : List (List Couple)) : Int := ((l.filter fun x => ps.any (insideB x)).map (·.w)).sum
def bigs (sets : List (List Couple)) : List (List Couple) := sets.filter fun s => decide (2 ≤ s.length)
def okSet (ds : List Dcs) (s : List Couple) (r : Couple) : Bool := !(s.any fun b => barB ds b r)
def allP (ds : List Dcs) : List Couple → List (List Couple) → List (List (List Couple))
  | [], sets => [sets]
  | r :: rs, sets => ((List.range sets.length).flatMap fun k => if okSet ds (sets.getD k []) r then allP ds rs (sets.set k (sets.getD k [] ++ [r])) else []) ++ allP ds rs (sets ++ [[r]])
structure BestSt where
  found : Bool
  best : List (List Couple)
  val : Int
def finOK (l : List Bond) (sets : List (List Couple)) : Bool := (bigs sets).all (joinB l)
def finF (l : List Bond) (st : BestSt) (sets : List (List Couple)) : BestSt :=
  if finOK l sets = true ∧ (st.found = false ∨ st.val < valueB l (bigs sets)) then ⟨true, bigs sets, valueB l (bigs sets)⟩ else st
def placeF (l : List Bond) (ds : List Dcs) (rs : List Couple) (sets : List (List Couple)) (st : BestSt) : BestSt := (allP ds rs sets).foldl (finF l) st
def st0 : BestSt := ⟨false, [], 0⟩
def exactF (l : List Bond) (ds : List Dcs) : List (List Couple) := (placeF l ds (refsS l) [] st0).best
def placeK (l : List Bond) (ds : List Dcs) (r : Couple) (rs : List Couple) (sets : List (List Couple)) (st : BestSt) : Nat → BestSt
  | 0 => st
  | k + 1 => if okSet ds (sets.getD k []) r then placeF l ds rs (sets.set k (sets.getD k [] ++ [r])) (placeK l ds r rs sets st k) else placeK l ds r rs sets st k
theorem placeK_eq (l : List Bond) (ds : List Dcs) (r : Couple) (rs : List Couple) (sets : List (List Couple)) (st : BestSt) : ∀ k, placeK l ds r rs sets st k = ((List.range k).flatMap fun k => if okSet ds (sets.getD k []) r then allP ds rs (sets.set k (sets.getD k [] ++ [r])) else []).foldl (finF l) st
  | 0 => rfl
  | k + 1 => by
    rw [List.range_succ, List.flatMap_append, List.foldl_append, ← placeK_eq l ds r rs sets st k, placeK]
    simp only [List.flatMap_cons, List.flatMap_nil, List.append_nil]
    split
    · rfl
    · rfl
theorem placeF_cons (l : List Bond) (ds : List Dcs) (r : Couple) (rs : List Couple) (sets : List (List Couple)) (st : BestSt) : placeF l ds (r :: rs) sets st = placeF l ds rs (sets ++ [[r]]) (placeK l ds r rs sets st sets.length) := by
  unfold placeF
  rw [allP, List.foldl_append, ← placeK_eq]
theorem placeF_nil (l : List Bond) (ds : List Dcs) (sets : List (List Couple)) (st : BestSt) : placeF l ds [] sets st = finF l st sets := rfl
section
variable {l : List Bond} {ds : List Dcs} {rs xs : List Couple} {sets out : List (List Couple)} {st : BestSt}
structure PI (ds : List Dcs) (xs : List Couple) (sets : List (List Couple)) : Prop where
  perm : sets.flatten.Perm xs
  ne : ∀ s ∈ sets, s ≠ []
  sub : ∀ s ∈ sets, s.Sublist xs
  bar : ∀ s ∈ sets, s.Pairwise fun a b => barB ds a b = false
  heads : (sets.map fun s => s.headD ⟨0, 0⟩).Sublist xs
theorem PI.nil : PI ds [] [] := ⟨List.Perm.refl _, by simp, by simp, by simp, by simp⟩
theorem flatten_set : ∀ {sets : List (List Couple)} {k : Nat} {r : Couple}, k < sets.length → (sets.set k (sets.getD k [] ++ [r])).flatten.Perm (sets.flatten ++ [r])
  | [], k, r, h => by simp at h
  | s :: ss, 0, r, _ => by
    simp only [List.set_cons_zero, List.getD_cons_zero, List.flatten_cons, List.append_assoc]
    exact List.Perm.append_left s (List.perm_append_comm)
  | s :: ss, k + 1, r, h => by
    simp only [List.set_cons_succ, List.getD_cons_succ, List.flatten_cons, List.append_assoc]
    exact List.Perm.append_left s (flatten_set (by simpa using h))
theorem okSet_iff {s : List Couple} {r : Couple} : okSet ds s r = true ↔ ∀ b ∈ s, barB ds b r = false := by
  unfold okSet
  rw [Bool.not_eq_true', List.any_eq_false]
  exact ⟨fun h b hb => by simpa using h b hb, fun h b hb => by rw [h b hb]; decide⟩
theorem PI.put (h : PI ds xs sets) {k : Nat} {r : Couple} (hk : k < sets.length) (hok : okSet ds (sets.getD k []) r = true) : PI ds (xs ++ [r]) (sets.set k (sets.getD k [] ++ [r])) := by
  have hm : sets.getD k [] ∈ sets := by rw [getD_at hk]; exact List.getElem_mem _
  have hin : ∀ s ∈ sets.set k (sets.getD k [] ++ [r]), s ∈ sets ∨ s = sets.getD k [] ++ [r] := fun s hs => by
    rcases List.mem_or_eq_of_mem_set hs with h | h
    · exact .inl h
    · exact .inr h
  refine ⟨(flatten_set hk).trans (h.perm.append_right _), fun s hs => ?_, fun s hs => ?_, fun s hs => ?_, ?_⟩
  · rcases hin s hs with h1 | rfl
    · exact h.ne s h1
    · simp
  · rcases hin s hs with h1 | rfl
    · exact (h.sub s h1).trans (List.sublist_append_left _ _)
    · exact (h.sub _ hm).append (List.Sublist.refl _)
  · rcases hin s hs with h1 | rfl
    · exact h.bar s h1
    · refine List.pairwise_append.2 ⟨h.bar _ hm, List.pairwise_singleton _ _, fun a ha b hb => ?_⟩
      rw [List.mem_singleton] at hb; subst hb
      exact okSet_iff.1 hok a ha
  · have e : ((sets.set k (sets.getD k [] ++ [r])).map fun s => s.headD ⟨0, 0⟩) = sets.map fun s => s.headD ⟨0, 0⟩ := by
      apply List.ext_getElem?
      intro i
      rw [List.getElem?_map, List.getElem?_map, List.getElem?_set]
      by_cases e : k = i
      · subst e
        rw [if_pos rfl, if_pos hk, List.getElem?_eq_getElem hk]
        have hne := h.ne _ hm
        rw [getD_at hk] at hne ⊢
        cases e2 : sets[k] with
        | nil => exact absurd e2 hne
        | cons a t => simp
      · rw [if_neg e]
    rw [e]; exact h.heads.trans (List.sublist_append_left _ _)
theorem PI.new (h : PI ds xs sets) (r : Couple) : PI ds (xs ++ [r]) (sets ++ [[r]]) := by
  have hin : ∀ s ∈ sets ++ [[r]], s ∈ sets ∨ s = [r] := fun s hs => by
    rcases List.mem_append.1 hs with h | h
    · exact .inl h
    · exact .inr (List.mem_singleton.1 h)
  refine ⟨by rw [List.flatten_append]; simpa using h.perm.append_right [r], fun s hs => ?_, fun s hs => ?_, fun s hs => ?_, ?_⟩
  · rcases hin s hs with h1 | rfl
    · exact h.ne s h1
    · simp
  · rcases hin s hs with h1 | rfl
    · exact (h.sub s h1).trans (List.sublist_append_left _ _)
    · exact List.sublist_append_right _ _
  · rcases hin s hs with h1 | rfl
    · exact h.bar s h1
    · exact List.pairwise_singleton _ _
  · rw [List.map_append]; exact h.heads.append (List.Sublist.refl _)
theorem allP_inv : ∀ {rs xs : List Couple} {sets : List (List Couple)}, PI ds xs sets → ∀ out ∈ allP ds rs sets, PI ds (xs ++ rs) out
  | [], xs, sets, h, out, ho => by
    rw [allP, List.mem_singleton] at ho; subst ho
    rw [List.append_nil]; exact h
  | r :: rs, xs, sets, h, out, ho => by
    rw [allP, List.mem_append, List.mem_flatMap] at ho
    have e : xs ++ r :: rs = (xs ++ [r]) ++ rs := by simp
    rw [e]
    rcases ho with ⟨k, hk, ho⟩ | ho
    · split at ho
      · rename_i hok; exact allP_inv (h.put (List.mem_range.1 hk) hok) out ho
      · simp at ho
    · exact allP_inv (h.new r) out ho
theorem modify_set {sets : List (List Couple)} {i : Nat} {r : Couple} (h : i < sets.length) : sets.modify i (· ++ [r]) = sets.set i (sets.getD i [] ++ [r]) := by
  apply List.ext_getElem?
  intro j
  rw [List.getElem?_modify, List.getElem?_set, getD_at h]
  by_cases e : i = j
  · subst e; simp [h]
  · simp [e]
theorem allP_mem {κ : Type} [DecidableEq κ] (f : Couple → κ) : ∀ (rs xs : List Couple), (∀ a ∈ xs ++ rs, ∀ b ∈ xs ++ rs, a ≠ b → f a = f b → barB ds a b = false) → (xs ++ rs).Nodup → groupS f (xs ++ rs) ∈ allP ds rs (groupS f xs)
  | [], xs, _, _ => by rw [List.append_nil, allP, List.mem_singleton]
  | r :: rs, xs, hb, hn => by
    have e : xs ++ r :: rs = (xs ++ [r]) ++ rs := by simp
    rw [e] at hb hn ⊢
    have ih := allP_mem f rs (xs ++ [r]) hb hn
    rw [allP, List.mem_append, List.mem_flatMap]
    by_cases hq : ∃ q ∈ firstsS f xs, f q = f r
    · obtain ⟨q, hq, hqr⟩ := hq
      obtain ⟨i, hi, rfl⟩ := List.getElem_of_mem hq
      left
      refine ⟨i, List.mem_range.2 (by rw [groupS_length]; exact hi), ?_⟩
      have hlt : i < (groupS f xs).length := by rw [groupS_length]; exact hi
      rw [if_pos]
      · have h2 := groupS_old (xs := xs) (r := r) hi hqr
        rw [h2.2, modify_set hlt] at ih
        exact ih
      · rw [okSet_iff]
        intro b hbm
        rw [getD_at hlt, groupS_get hlt, List.mem_filter, decide_eq_true_eq] at hbm
        refine hb b (by simp [hbm.1]) r (by simp) (fun e => ?_) (by rw [hbm.2, hqr])
        subst e
        have := (List.nodup_append.1 (List.nodup_append.1 hn).1).2.2 b hbm.1 b (by simp)
        exact this rfl
    · right
      have h2 := groupS_new (xs := xs) (r := r) (f := f) (fun q hqm e => hq ⟨q, hqm, e⟩)
      rw [h2.2] at ih
      exact ih
end
end Go.K

/- Persons: the best partition of a component, and of all. Plain. -/
namespace Go.K
open Rep
section
variable {l : List Bond} {ds : List Dcs} {rs xs : List Couple} {sets out ps : List (List Couple)} {st : BestSt}
structure Good (l : List Bond) (L : List (List (List Couple))) (st : BestSt) : Prop where
  no : st.found = false → ∀ s ∈ L, finOK l s = false
  yes : st.found = true → (∃ s ∈ L, finOK l s = true ∧ st.best = bigs s ∧ st.val = valueB l (bigs s)) ∧ ∀ s ∈ L, finOK l s = true → valueB l (bigs s) ≤ st.val
theorem Good.step {L : List (List (List Couple))} (h : Good l L st) (s : List (List Couple)) : Good l (L ++ [s]) (finF l st s) := by
  unfold finF
  by_cases hc : finOK l s = true ∧ (st.found = false ∨ st.val < valueB l (bigs s))
  · rw [if_pos hc]
    refine ⟨fun e => (by cases e), fun _ => ⟨⟨s, by simp, hc.1, rfl, rfl⟩, fun s' hs' hf => ?_⟩⟩
    rcases List.mem_append.1 hs' with h1 | h1
    · show valueB l (bigs s') ≤ valueB l (bigs s)
      cases e : st.found with
      | false => rw [h.no e s' h1] at hf; cases hf
      | true =>
        have h2 := (h.yes e).2 s' h1 hf
        have h3 := hc.2.resolve_left (by rw [e]; decide)
        omega
    · rw [List.mem_singleton] at h1; subst h1; exact Int.le_refl _
  · rw [if_neg hc]
    refine ⟨fun e s' hs' => ?_, fun e => ⟨?_, fun s' hs' hf => ?_⟩⟩
    · rcases List.mem_append.1 hs' with h1 | h1
      · exact h.no e s' h1
      · rw [List.mem_singleton] at h1; subst h1
        rw [Bool.eq_false_iff]; intro hf; exact hc ⟨hf, .inl e⟩
    · obtain ⟨⟨q, h1, h2⟩, _⟩ := h.yes e
      exact ⟨q, by simp [h1], h2⟩
    · rcases List.mem_append.1 hs' with h1 | h1
      · exact (h.yes e).2 s' h1 hf
      · rw [List.mem_singleton] at h1; subst h1
        apply Classical.byContradiction
        intro hn
        exact hc ⟨hf, .inr (by omega)⟩
theorem Good.fold {L0 : List (List (List Couple))} : ∀ (L : List (List (List Couple))) {st : BestSt} {L0 : List (List (List Couple))}, Good l L0 st → Good l (L0 ++ L) (L.foldl (finF l) st)
  | [], st, L0, h => by rw [List.append_nil]; exact h
  | s :: L, st, L0, h => by
    have := Good.fold (L0 := L0) L (h.step s)
    rw [List.append_assoc] at this
    exact this
theorem Good.start : Good l [] st0 := ⟨fun _ s h => by simp at h, fun e => by cases e⟩
theorem bigs_single (f : Couple → Couple) (hf : ∀ a b, f a = f b → a = b) (hn : xs.Nodup) : bigs (groupS f xs) = [] := by
  unfold bigs
  rw [List.filter_eq_nil_iff]
  intro s hs
  obtain ⟨i, hi, rfl⟩ := List.getElem_of_mem hs
  rw [groupS_get hi]
  simp only [decide_eq_true_eq]
  intro h2
  have hnd := hn.sublist (List.filter_sublist (p := fun r => decide (f r = f ((firstsS f xs)[i]'(by rwa [groupS_length] at hi)))))
  generalize hL : List.filter (fun r => decide (f r = f ((firstsS f xs)[i]'(by rwa [groupS_length] at hi)))) xs = L at *
  have h0 : L[0] ∈ L := List.getElem_mem _
  have h1 : L[1] ∈ L := List.getElem_mem _
  have e0 : f L[0] = f L[1] := by
    have a : ∀ z ∈ L, f z = f ((firstsS f xs)[i]'(by rwa [groupS_length] at hi)) := fun z hz => by
      rw [← hL, List.mem_filter] at hz; exact of_decide_eq_true hz.2
    rw [a _ h0, a _ h1]
  have := List.pairwise_iff_getElem.1 (List.nodup_iff_pairwise_ne.1 hnd) 0 1 (by omega) (by omega) (by omega)
  exact this (hf _ _ e0)
theorem exact_best (l : List Bond) (ds : List Dcs) : ∃ s, PI ds (refsS l) s ∧ finOK l s = true ∧ exactF l ds = bigs s ∧
    (placeF l ds (refsS l) [] st0).val = valueB l (exactF l ds) ∧
    ∀ {κ : Type} [DecidableEq κ] (f : Couple → κ), (∀ a ∈ refsS l, ∀ b ∈ refsS l, a ≠ b → f a = f b → barB ds a b = false) → finOK l (groupS f (refsS l)) = true → valueB l (bigs (groupS f (refsS l))) ≤ valueB l (exactF l ds) := by
  have hG : Good l (allP ds (refsS l) []) (placeF l ds (refsS l) [] st0) := by
    have := Good.fold (L0 := []) (allP ds (refsS l) []) (Good.start (l := l))
    exact this
  have hn := refsS_nodup l
  have hid : groupS (id : Couple → Couple) (refsS l) ∈ allP ds (refsS l) [] := by
    have := allP_mem (ds := ds) (id : Couple → Couple) (refsS l) [] (fun a _ b _ hne e => absurd e hne) (by simpa using hn)
    exact this
  have hf0 : finOK l (groupS (id : Couple → Couple) (refsS l)) = true := by
    unfold finOK; rw [bigs_single id (fun a b e => e) hn]; rfl
  have hfound : (placeF l ds (refsS l) [] st0).found = true := by
    cases e : (placeF l ds (refsS l) [] st0).found with
    | true => rfl
    | false => have := hG.no e _ hid; rw [hf0] at this; cases this
  obtain ⟨⟨s, h1, h2, h3, h4⟩, h5⟩ := hG.yes hfound
  refine ⟨s, by have := allP_inv PI.nil s h1; simpa using this, h2, h3, by rw [h4]; unfold exactF; rw [h3], fun f hb hfin => ?_⟩
  have := allP_mem (ds := ds) f (refsS l) [] (by simpa using hb) (by simpa using hn)
  have h6 := h5 _ this hfin
  rw [h4] at h6
  unfold exactF
  rw [h3]
  exact h6
structure PV (l : List Bond) (ds : List Dcs) (ps : List (List Couple)) : Prop where
  asc : ∀ p ∈ ps, p.Pairwise ltP
  len : ∀ p ∈ ps, 2 ≤ p.length
  bar : ∀ p ∈ ps, p.Pairwise fun a b => barB ds a b = false
  join : ∀ p ∈ ps, Joined l p
  disj : ps.flatten.Nodup
  heads : ps.Pairwise fun p q => ltP (p.headD ⟨0, 0⟩) (q.headD ⟨0, 0⟩)
theorem joined_refs {s : List Couple} (h : Joined l s) (h2 : 2 ≤ s.length) (hn : s.Nodup) {r : Couple} (hr : r ∈ s) : r ∈ refsS l := by
  apply Classical.byContradiction
  intro hno
  have hno2 : r ∉ refsS (withinB l s) := fun hm => by
    obtain ⟨x, hx, e⟩ := mem_refsS.1 hm
    exact hno (mem_refsS.2 ⟨x, (List.mem_filter.1 hx).1, e⟩)
  obtain ⟨q, hq, hne⟩ : ∃ q ∈ s, q ≠ r := by
    have h0 := List.getElem_mem (l := s) (n := 0) (by omega); have h1 := List.getElem_mem (l := s) (n := 1) (by omega)
    have hne := List.pairwise_iff_getElem.1 (List.nodup_iff_pairwise_ne.1 hn) 0 1 (by omega) (by omega) (by omega)
    by_cases e : s[0] = r
    · exact ⟨_, h1, fun e2 => hne (by rw [e, e2])⟩
    · exact ⟨_, h0, e⟩
  have e1 := h q hq r hr
  rw [rho_out hno2] at e1
  by_cases hq2 : q ∈ refsS (withinB l s)
  · have := rho_mem.2 hq2; rw [e1] at this; exact hno2 this
  · rw [rho_out hq2] at e1; exact hne e1
theorem PV.nodup (h : PV l ds ps) {p : List Couple} (hp : p ∈ ps) : p.Nodup := sorted_nodup (h.asc p hp)
theorem PV.refs (h : PV l ds ps) {p : List Couple} (hp : p ∈ ps) {r : Couple} (hr : r ∈ p) : r ∈ refsS l := joined_refs (h.join p hp) (h.len p hp) (h.nodup hp) hr
end
end Go.K

/- Persons of all components. Plain. -/
namespace Go.K
open Rep
section
variable {l : List Bond} {ds : List Dcs} {ps E : List (List Couple)}
theorem flatten_sub {α : Type} : ∀ {a b : List (List α)}, a.Sublist b → a.flatten.Sublist b.flatten
  | _, _, .slnil => List.Sublist.refl _
  | _, _, .cons x h => by rw [List.flatten_cons]; exact (flatten_sub h).trans (List.sublist_append_right _ _)
  | _, _, .cons_cons x h => by rw [List.flatten_cons, List.flatten_cons]; exact (List.Sublist.refl _).append (flatten_sub h)
theorem exact_PV (l : List Bond) (ds : List Dcs) : PV l ds (exactF l ds) := by
  obtain ⟨s, hI, hf, he, _, _⟩ := exact_best l ds
  rw [he]
  have hsub : (bigs s).Sublist s := List.filter_sublist
  have hm : ∀ p ∈ bigs s, p ∈ s ∧ 2 ≤ p.length := fun p hp => by
    have := List.mem_filter.1 hp; exact ⟨this.1, of_decide_eq_true this.2⟩
  refine ⟨fun p hp => (refsS_sorted l).sublist (hI.sub p (hm p hp).1), fun p hp => (hm p hp).2, fun p hp => hI.bar p (hm p hp).1, fun p hp => ?_, ?_, ?_⟩
  · exact joinB_iff.1 (List.all_eq_true.1 hf p hp)
  · exact (hI.perm.nodup_iff.2 (refsS_nodup l)).sublist (flatten_sub hsub)
  · have h1 : (s.map fun p => p.headD ⟨0, 0⟩).Pairwise ltP := (refsS_sorted l).sublist hI.heads
    rw [List.pairwise_map] at h1
    exact h1.sublist hsub
theorem split_lt {i : Nat} (h : i < (splitS l).length) : i < (firstsS (rhoS l) (refsS l)).length := by simpa [splitS] using h
theorem split_parts {i : Nat} (h : i < (splitS l).length) : i < (partsS l).length := by unfold partsS; rw [groupS_length]; exact split_lt h
theorem split_mem {i : Nat} (h : i < (splitS l).length) {r : Couple} : r ∈ refsS (splitS l)[i] ↔ r ∈ refsS l ∧ rhoS l r = rhoS l ((firstsS (rhoS l) (refsS l))[i]'(split_lt h)) := by
  rw [split_refs h (split_parts h), partsS_get (split_parts h), List.mem_filter, decide_eq_true_eq]
theorem split_bond {i : Nat} (h : i < (splitS l).length) {x : Bond} : x ∈ (splitS l)[i] ↔ x ∈ l ∧ rhoS l x.A = rhoS l ((firstsS (rhoS l) (refsS l))[i]'(split_lt h)) := by
  rw [splitS_get h, List.mem_filter, decide_eq_true_eq]
theorem split_uniq {i j : Nat} (hi : i < (splitS l).length) (hj : j < (splitS l).length) {r : Couple} (h1 : r ∈ refsS (splitS l)[i]) (h2 : r ∈ refsS (splitS l)[j]) : i = j := by
  have a := (split_mem hi).1 h1; have b := (split_mem hj).1 h2
  exact firsts_uniq (split_lt hi) (split_lt hj) (by rw [← a.2, b.2])
theorem split_has {r : Couple} (h : r ∈ refsS l) : ∃ i, ∃ hi : i < (splitS l).length, r ∈ refsS (splitS l)[i] := by
  obtain ⟨q, hq, e⟩ := firsts_cover (f := rhoS l) h
  obtain ⟨i, hi, rfl⟩ := List.getElem_of_mem hq
  have hi2 : i < (splitS l).length := by simpa [splitS] using hi
  exact ⟨i, hi2, (split_mem hi2).2 ⟨h, e.symm⟩⟩
theorem joined_mono {l l' : List Bond} {s : List Couple} (h : ∀ x ∈ l, x ∈ l') (hj : Joined l s) : Joined l' s := fun x hx y hy =>
  rho_ker (l := withinB l s) (l' := withinB l' s) (fun z hz => by
    have := List.mem_filter.1 hz
    exact List.mem_filter.2 ⟨h z this.1, this.2⟩) (hj x hx y hy)
theorem all_PV {Q : Nat → List (List Couple)} (hQ : ∀ i (h : i < (splitS l).length), PV (splitS l)[i] ds (Q i)) (hp : E.Perm ((List.range (splitS l).length).flatMap Q)) (hs : E.Pairwise fun p q => ltP (p.headD ⟨0, 0⟩) (q.headD ⟨0, 0⟩)) :
    PV l ds E ∧ ∀ i (h : i < (splitS l).length), valueB (splitS l)[i] E = valueB (splitS l)[i] (Q i) := by
  have hm : ∀ p, p ∈ E ↔ ∃ i, ∃ h : i < (splitS l).length, p ∈ Q i := fun p => by
    rw [hp.mem_iff, List.mem_flatMap]
    exact ⟨fun ⟨i, h1, h2⟩ => ⟨i, List.mem_range.1 h1, h2⟩, fun ⟨i, h1, h2⟩ => ⟨i, List.mem_range.2 h1, h2⟩⟩
  refine ⟨⟨fun p hp => ?_, fun p hp => ?_, fun p hp => ?_, fun p hp => ?_, ?_, hs⟩, fun i h => ?_⟩
  · obtain ⟨i, h, h2⟩ := (hm p).1 hp; exact (hQ i h).asc p h2
  · obtain ⟨i, h, h2⟩ := (hm p).1 hp; exact (hQ i h).len p h2
  · obtain ⟨i, h, h2⟩ := (hm p).1 hp; exact (hQ i h).bar p h2
  · obtain ⟨i, h, h2⟩ := (hm p).1 hp
    exact joined_mono (fun x hx => ((split_bond h).1 hx).1) ((hQ i h).join p h2)
  · rw [hp.flatten.nodup_iff]
    have key : ∀ k, k ≤ (splitS l).length → ((List.range k).flatMap Q).flatten.Nodup ∧ ∀ r ∈ ((List.range k).flatMap Q).flatten, ∃ i, ∃ h : i < (splitS l).length, i < k ∧ r ∈ refsS (splitS l)[i] := by
      intro k
      induction k with
      | zero => intro _; simp
      | succ k ih =>
        intro hk
        obtain ⟨h1, h2⟩ := ih (by omega)
        have hkl : k < (splitS l).length := by omega
        have e : ((List.range (k + 1)).flatMap Q).flatten = ((List.range k).flatMap Q).flatten ++ (Q k).flatten := by
          rw [List.range_succ, List.flatMap_append, List.flatten_append]; simp
        have hin : ∀ r ∈ (Q k).flatten, r ∈ refsS (splitS l)[k] := fun r hr => by
          obtain ⟨p, hp, hr⟩ := List.mem_flatten.1 hr
          exact (hQ k hkl).refs hp hr
        rw [e]
        refine ⟨List.nodup_append.2 ⟨h1, (hQ k hkl).disj, fun a ha b hb e2 => ?_⟩, fun r hr => ?_⟩
        · subst e2
          obtain ⟨i, hi, hik, h3⟩ := h2 a ha
          have := split_uniq hi hkl h3 (hin a hb)
          omega
        · rcases List.mem_append.1 hr with h3 | h3
          · obtain ⟨i, hi, hik, h4⟩ := h2 r h3; exact ⟨i, hi, by omega, h4⟩
          · exact ⟨k, hkl, by omega, hin r h3⟩
    exact (key _ (Nat.le_refl _)).1
  · unfold valueB
    congr 2
    refine List.filter_congr fun x hx => ?_
    rw [Bool.eq_iff_iff, List.any_eq_true, List.any_eq_true]
    constructor
    · rintro ⟨p, hp, h2⟩
      obtain ⟨j, hj, h3⟩ := (hm p).1 hp
      have hin := h2
      unfold insideB at hin
      rw [decide_eq_true_eq] at hin
      have h4 := (hQ j hj).refs h3 hin.1
      have h5 : x.A ∈ refsS (splitS l)[i] := mem_refsS.2 ⟨x, hx, .inl rfl⟩
      have := split_uniq hj h h4 h5
      subst this
      exact ⟨p, h3, h2⟩
    · rintro ⟨p, hp, h2⟩
      exact ⟨p, (hm p).2 ⟨i, h, hp⟩, h2⟩
end
end Go.K

/- Persons that bonds make, the heaviest first. Plain. -/
namespace Go.K
open Rep
def cmpW (x y : Bond) : Int := cmpI y.w x.w
theorem cmpW_3 : Cmp3 cmpW (fun _ => True) := ⟨fun x y _ _ => by unfold cmpW cmpI; split <;> split <;> (try split) <;> (try split) <;> omega, fun x y z _ _ _ => by unfold cmpW cmpI; split <;> split <;> (try split) <;> (try split) <;> (try split) <;> omega⟩
def sepB (ds : List Dcs) (p q : List Couple) : Bool := p.any fun r => q.any (barB ds r)
def grStep (ds : List Dcs) (g : Couple → List Couple) (b : Bond) : Couple → List Couple :=
  if b.B ∈ g b.A ∨ sepB ds (g b.A) (g b.B) = true then g else fun r => if r ∈ g b.A ++ g b.B then g b.A ++ g b.B else g r
def grG (ds : List Dcs) (ord : List Bond) : Couple → List Couple := ord.foldl (grStep ds) fun r => [r]
def grKeep (g : Couple → List Couple) (r : Couple) : Bool := decide (1 < (sortC (g r)).length ∧ (sortC (g r)).head? = some r)
def grOut (refs : List Couple) (g : Couple → List Couple) : List (List Couple) := (refs.filter (grKeep g)).map fun r => sortC (g r)
noncomputable def greedyF (l : List Bond) (ds : List Dcs) : List (List Couple) := grOut (refsS l) (grG ds (stS cmpW l))
section
variable {l : List Bond} {ds : List Dcs} {g : Couple → List Couple} {refs : List Couple}
theorem sepB_iff {p q : List Couple} : sepB ds p q = false ↔ ∀ r ∈ p, ∀ o ∈ q, barB ds r o = false := by
  unfold sepB
  rw [List.any_eq_false]
  constructor
  · intro h r hr o ho
    have := h r hr
    rw [Bool.not_eq_true, List.any_eq_false] at this
    simpa using this o ho
  · intro h r hr
    rw [Bool.not_eq_true, List.any_eq_false]
    intro o ho
    simp [h r hr o ho]
structure GI (l : List Bond) (ds : List Dcs) (g : Couple → List Couple) : Prop where
  self : ∀ r, r ∈ g r
  same : ∀ r, ∀ q ∈ g r, g q = g r
  nd : ∀ r, (g r).Nodup
  bar : ∀ r, ∀ a ∈ g r, ∀ b ∈ g r, a ≠ b → barB ds a b = false
  join : ∀ r, Joined l (g r)
theorem GI.start : GI l ds (fun r => [r]) :=
  ⟨fun r => by simp, fun r q hq => by rw [List.mem_singleton.1 hq], fun r => by simp, fun r a ha b hb hne => absurd (by rw [List.mem_singleton.1 ha, List.mem_singleton.1 hb]) hne, fun r x hx y hy => by rw [List.mem_singleton.1 hx, List.mem_singleton.1 hy]⟩
theorem GI.apart (h : GI l ds g) {a b : Couple} (hab : b ∉ g a) : ∀ r ∈ g a, r ∉ g b := fun r h1 h2 => by
  have e1 := h.same a r h1; have e2 := h.same b r h2
  exact hab (by rw [← e1, e2]; exact h.self b)
theorem GI.step (h : GI l ds g) {b : Bond} (hb : b ∈ l) : GI l ds (grStep ds g b) := by
  unfold grStep
  split
  · exact h
  · rename_i hn
    have h1 : b.B ∉ g b.A := fun e => hn (.inl e)
    have h2 : sepB ds (g b.A) (g b.B) = false := Bool.eq_false_iff.2 fun e => hn (.inr e)
    have hap := h.apart h1
    have hin : ∀ r q, r ∈ g b.A ++ g b.B → (q ∈ g r → q ∈ g b.A ++ g b.B) := fun r q hr hq => by
      rcases List.mem_append.1 hr with h3 | h3
      · rw [h.same _ r h3] at hq; exact List.mem_append.2 (.inl hq)
      · rw [h.same _ r h3] at hq; exact List.mem_append.2 (.inr hq)
    have hJ : Joined l (g b.A ++ g b.B) := by
      have ka : ∀ x ∈ g b.A, ∀ y ∈ g b.A, rhoS (withinB l (g b.A ++ g b.B)) x = rhoS (withinB l (g b.A ++ g b.B)) y := fun x hx y hy =>
        rho_ker (l := withinB l (g b.A)) (fun z hz => by
          obtain ⟨a1, a2⟩ := List.mem_filter.1 hz; rw [decide_eq_true_eq] at a2
          exact List.mem_filter.2 ⟨a1, by rw [decide_eq_true_eq]; exact ⟨List.mem_append.2 (.inl a2.1), List.mem_append.2 (.inl a2.2)⟩⟩) (h.join _ x hx y hy)
      have kb : ∀ x ∈ g b.B, ∀ y ∈ g b.B, rhoS (withinB l (g b.A ++ g b.B)) x = rhoS (withinB l (g b.A ++ g b.B)) y := fun x hx y hy =>
        rho_ker (l := withinB l (g b.B)) (fun z hz => by
          obtain ⟨a1, a2⟩ := List.mem_filter.1 hz; rw [decide_eq_true_eq] at a2
          exact List.mem_filter.2 ⟨a1, by rw [decide_eq_true_eq]; exact ⟨List.mem_append.2 (.inr a2.1), List.mem_append.2 (.inr a2.2)⟩⟩) (h.join _ x hx y hy)
      have kab : rhoS (withinB l (g b.A ++ g b.B)) b.A = rhoS (withinB l (g b.A ++ g b.B)) b.B :=
        rho_edge (List.mem_filter.2 ⟨hb, by rw [decide_eq_true_eq]; exact ⟨List.mem_append.2 (.inl (h.self _)), List.mem_append.2 (.inr (h.self _))⟩⟩)
      have all : ∀ x ∈ g b.A ++ g b.B, rhoS (withinB l (g b.A ++ g b.B)) x = rhoS (withinB l (g b.A ++ g b.B)) b.A := fun x hx => by
        rcases List.mem_append.1 hx with h3 | h3
        · exact ka x h3 _ (h.self _)
        · rw [kb x h3 _ (h.self _), kab]
      exact fun x hx y hy => by rw [all x hx, all y hy]
    refine ⟨fun r => ?_, fun r q hq => ?_, fun r => ?_, fun r a ha c hc hne => ?_, fun r => ?_⟩
    · show r ∈ (if r ∈ g b.A ++ g b.B then g b.A ++ g b.B else g r)
      split
      · rename_i h3; exact h3
      · exact h.self r
    · split at hq
      · rename_i h3; rw [if_pos hq, if_pos h3]
      · rename_i h3
        have h4 : q ∉ g b.A ++ g b.B := fun e => by
          have := hin q r e (by rw [h.same r q hq]; exact h.self r)
          exact h3 this
        rw [if_neg h3, if_neg h4]; exact h.same r q hq
    · split
      · exact List.nodup_append.2 ⟨h.nd _, h.nd _, fun a ha c hc e => hap a ha (e ▸ hc)⟩
      · exact h.nd r
    · split at ha
      · rename_i h3
        rw [if_pos h3] at hc
        rcases List.mem_append.1 ha with h4 | h4
        · rcases List.mem_append.1 hc with h5 | h5
          · exact h.bar _ a h4 c h5 hne
          · exact sepB_iff.1 h2 a h4 c h5
        · rcases List.mem_append.1 hc with h5 | h5
          · rw [barB_symm]; exact sepB_iff.1 h2 c h5 a h4
          · exact h.bar _ a h4 c h5 hne
      · rename_i h3; rw [if_neg h3] at hc; exact h.bar r a ha c hc hne
    · split
      · exact hJ
      · exact h.join r
theorem GI.fold : ∀ (ord : List Bond) {g : Couple → List Couple}, GI l ds g → (∀ b ∈ ord, b ∈ l) → GI l ds (ord.foldl (grStep ds) g)
  | [], g, h, _ => h
  | b :: ord, g, h, hm => GI.fold ord (h.step (hm b (by simp))) fun c hc => hm c (by simp [hc])
theorem sortC_mem {s : List Couple} {r : Couple} : r ∈ sortC s ↔ r ∈ s := (sortC_perm s).mem_iff
theorem sortC_pw (s : List Couple) (hn : s.Nodup) : (sortC s).Pairwise ltP := by
  have h1 := sortC_sorted s
  have h2 : (sortC s).Nodup := (sortC_perm s).nodup_iff.2 hn
  refine (h1.and (List.nodup_iff_pairwise_ne.1 h2)).imp fun {a b} ⟨h3, h4⟩ => ?_
  rcases ltP_tri a b with h | h | h
  · exact h
  · exact absurd h h4
  · exact absurd h (ltP_le.1 h3)
theorem GI.out (h : GI l ds g) (hr : refs.Pairwise ltP) : PV l ds (grOut refs g) := by
  have hm : ∀ p ∈ grOut refs g, ∃ r ∈ refs, p = sortC (g r) ∧ 1 < (sortC (g r)).length ∧ (sortC (g r)).head? = some r := fun p hp => by
    obtain ⟨r, hr, rfl⟩ := List.mem_map.1 hp
    obtain ⟨h1, h2⟩ := List.mem_filter.1 hr
    exact ⟨r, h1, rfl, of_decide_eq_true h2⟩
  have hhead : ∀ r, (sortC (g r)).head? = some r → (sortC (g r)).headD ⟨0, 0⟩ = r := fun r e => by rw [List.headD_eq_head?_getD, e]; rfl
  refine ⟨fun p hp => ?_, fun p hp => ?_, fun p hp => ?_, fun p hp => ?_, ?_, ?_⟩
  · obtain ⟨r, _, rfl, _⟩ := hm p hp; exact sortC_pw _ (h.nd r)
  · obtain ⟨r, _, rfl, h2, _⟩ := hm p hp; exact h2
  · obtain ⟨r, _, rfl, _⟩ := hm p hp
    exact List.pairwise_iff_getElem.2 fun i j hi hj hij => h.bar r _ (sortC_mem.1 (List.getElem_mem _)) _ (sortC_mem.1 (List.getElem_mem _)) (fun e => by
      have := List.pairwise_iff_getElem.1 (sortC_pw _ (h.nd r)) i j hi hj hij
      rw [e] at this; exact ltP_irrefl _ this)
  · obtain ⟨r, _, rfl, _⟩ := hm p hp
    exact Joined.congr (fun q => sortC_mem.symm) (h.join r)
  · have key : ∀ rs : List Couple, rs.Nodup → (∀ r ∈ rs, (sortC (g r)).head? = some r) → (rs.map fun r => sortC (g r)).flatten.Nodup := by
      intro rs
      induction rs with
      | nil => intro _ _; simp
      | cons a t ih =>
        intro hn hh
        have hn2 := List.nodup_cons.1 hn
        rw [List.map_cons, List.flatten_cons]
        refine List.nodup_append.2 ⟨(sortC_perm _).nodup_iff.2 (h.nd a), ih hn2.2 fun r hr => hh r (by simp [hr]), fun x hx y hy e => ?_⟩
        subst e
        obtain ⟨p, hp, hxp⟩ := List.mem_flatten.1 hy
        obtain ⟨r, hr, rfl⟩ := List.mem_map.1 hp
        have e1 := h.same a x (sortC_mem.1 hx); have e2 := h.same r x (sortC_mem.1 hxp)
        have h3 := hh a (by simp); have h4 := hh r (by simp [hr])
        rw [← e1, e2, h4] at h3
        injection h3 with h3
        subst h3
        exact hn2.1 hr
    refine key _ ((sorted_nodup hr).sublist List.filter_sublist) fun r hr => ?_
    exact (of_decide_eq_true (List.mem_filter.1 hr).2).2
  · unfold grOut
    rw [List.pairwise_map]
    refine List.Pairwise.imp_of_mem ?_ (hr.sublist List.filter_sublist)
    intro a b ha hb hab
    rw [hhead a (of_decide_eq_true (List.mem_filter.1 ha).2).2, hhead b (of_decide_eq_true (List.mem_filter.1 hb).2).2]
    exact hab
theorem greedy_PV (l : List Bond) (ds : List Dcs) {ord : List Bond} (ho : ∀ b ∈ ord, b ∈ l) : PV l ds (grOut (refsS l) (grG ds ord)) := (GI.fold ord GI.start ho).out (refsS_sorted l)
end
end Go.K

/- Couples of refs as keys of maps; what is set apart, as a map. -/
namespace Go.K
open Rep
abbrev kvP : Couple × Couple → Value := fun p => .agg #[.int .i64 p.1.a, .int .i64 p.1.b, .int .i64 p.2.a, .int .i64 p.2.b]
section
variable {P : Program} {t tr ti : TypeId} {n0 n1 m0 m1 tg0 tg1 th0 th1 pk0 pk1 pl0 pl1 : String} {e0 e1 f0 f1 : Bool} {y0 y1 x0 x1 : Nat}
theorem run_eq_cpl (h : P.underlying tr = some (.struct #[⟨n0, ti, 0, e0, tg0, pk0, y0⟩, ⟨n1, ti, 1, e1, tg1, pk1, y1⟩])) (h0 : n0 ≠ "_") (h1 : n1 ≠ "_") (hS : P.stoodInHeld tr = false)
    (hi : P.underlying ti = some (.int .i64)) (d : Nat) (a b : Couple) (w : World) : (Op.equalIn (d + 2) tr (kvC a) (kvC b)).run P w = .ok (decide (a = b)) w := by
  have hpt := fun a b i v w => part_couple (P := P) hi a b i v w
  have hf : P.fieldsOf tr = #[⟨n0, ti, 0, e0, tg0, pk0, y0⟩, ⟨n1, ti, 1, e1, tg1, pk1, y1⟩] := by simp [Program.fieldsOf, h]
  have he := fun (x y : Int) => run_equalIn_int (P := P) w d ti .i64 .i64 x y hi
  rw [show d + 2 = (d + 1) + 1 from rfl, run_equalIn_struct w (d + 1) tr _ _ (by rw [hf]; exact h) hS, hf]
  have p0 : ∀ c : Couple, (part ti #[.int .i64 c.a, .int .i64 c.b] 0).run P w = .ok (.int .i64 c.a) w := fun c => hpt _ _ 0 _ w rfl
  have p1 : ∀ c : Couple, (part ti #[.int .i64 c.a, .int .i64 c.b] 1).run P w = .ok (.int .i64 c.b) w := fun c => hpt _ _ 1 _ w rfl
  have hd : (decide (a = b)) = ((a.a == b.a) && (a.b == b.b)) := by
    cases a; cases b; simp only [Couple.mk.injEq, Bool.decide_and]; rfl
  simp only [Op.eqFields, Sem.run_bind, Sem.run_ite, h0, h1, ne_eq, not_false_eq_true, if_true, p0, p1, Result.andThen_ok, he, hd]
  cases (a.a == b.a) <;> cases (a.b == b.b) <;> simp
theorem keyOK_pair (h : P.underlying t = some (.struct #[⟨m0, tr, 0, f0, th0, pl0, x0⟩, ⟨m1, tr, 2, f1, th1, pl1, x1⟩])) (g0 : m0 ≠ "_") (g1 : m1 ≠ "_") (hS : P.stoodInHeld t = false)
    (hr : P.underlying tr = some (.struct #[⟨n0, ti, 0, e0, tg0, pk0, y0⟩, ⟨n1, ti, 1, e1, tg1, pk1, y1⟩])) (h0 : n0 ≠ "_") (h1 : n1 ≠ "_") (hSr : P.stoodInHeld tr = false)
    (hi : P.underlying ti = some (.int .i64)) (ha : aggB P tr = some true) (hs : szB P tr = some 2) : KeyOK P t kvP := by
  have hf : P.fieldsOf t = #[⟨m0, tr, 0, f0, th0, pl0, x0⟩, ⟨m1, tr, 2, f1, th1, pl1, x1⟩] := by simp [Program.fieldsOf, h]
  have p0 : ∀ (c : Couple × Couple) w, (part tr #[.int .i64 c.1.a, .int .i64 c.1.b, .int .i64 c.2.a, .int .i64 c.2.b] 0).run P w = .ok (kvC c.1) w := fun c w => by
    unfold part; simp only [Sem.run_bind, run_isAggB ha, Result.andThen_ok, if_true, run_sizeOfB hs, Sem.run_pure]; rfl
  have p1 : ∀ (c : Couple × Couple) w, (part tr #[.int .i64 c.1.a, .int .i64 c.1.b, .int .i64 c.2.a, .int .i64 c.2.b] 2).run P w = .ok (kvC c.2) w := fun c w => by
    unfold part; simp only [Sem.run_bind, run_isAggB ha, Result.andThen_ok, if_true, run_sizeOfB hs, Sem.run_pure]; rfl
  refine keyOK_struct h (fun d a b w => ?_) (fun e k w => ?_) (fun k => by simp [Instr.sameBits]) (fun a b hab => ?_)
  · have he := fun (x y : Couple) => run_eq_cpl hr h0 h1 hSr hi (d + 5) x y w
    rw [show d + 8 = (d + 7) + 1 from rfl, run_equalIn_struct w (d + 7) t _ _ (by rw [hf]; exact h) hS, hf]
    have hd : (decide (a = b)) = (decide (a.1 = b.1) && decide (a.2 = b.2)) := by
      cases a; cases b; simp only [Prod.mk.injEq, Bool.decide_and]
    simp only [Op.eqFields, Sem.run_bind, Sem.run_ite, g0, g1, ne_eq, not_false_eq_true, if_true, p0, p1, Result.andThen_ok, he, hd, show d + 7 = d + 5 + 2 from rfl]
    cases decide (a.1 = b.1) <;> cases decide (a.2 = b.2) <;> simp [he, show d + 7 = d + 5 + 2 from rfl, p0, p1]
  · have q : ∀ (x : Int), (Instr.checkKey e 9998 ti (.int .i64 x)).run P w = .ok () w := fun x => by unfold Instr.checkKey; simp [run_underlying hi]
    have hpt := fun a b i v w => part_couple (P := P) hi a b i v w
    have r0 : ∀ c : Couple, (part ti #[.int .i64 c.a, .int .i64 c.b] 0).run P w = .ok (.int .i64 c.a) w := fun c => hpt _ _ 0 _ w rfl
    have r1 : ∀ c : Couple, (part ti #[.int .i64 c.a, .int .i64 c.b] 1).run P w = .ok (.int .i64 c.b) w := fun c => hpt _ _ 1 _ w rfl
    have qc : ∀ c : Couple, (Instr.checkKey e 9999 tr (kvC c)).run P w = .ok () w := fun c => by
      rw [show (9999 : Nat) = 9998 + 1 from rfl, Instr.checkKey]
      simp only [Sem.run_bind, run_underlying hr, Result.andThen_ok]
      rw [← Array.forIn_toList]
      simp only [List.forIn_cons, List.forIn_nil, Sem.run_bind, Sem.run_ite, h0, h1, ne_eq, not_false_eq_true, if_true, r0, r1, q, Result.andThen_ok, Sem.run_pure]
    rw [show (10000 : Nat) = 9999 + 1 from rfl, Instr.checkKey]
    simp only [Sem.run_bind, run_underlying h, Result.andThen_ok]
    rw [← Array.forIn_toList]
    simp only [List.forIn_cons, List.forIn_nil, Sem.run_bind, Sem.run_ite, g0, g1, ne_eq, not_false_eq_true, if_true, p0, p1, qc, Result.andThen_ok, Sem.run_pure]
  · obtain ⟨⟨a1, a2⟩, ⟨a3, a4⟩⟩ := a; obtain ⟨⟨b1, b2⟩, ⟨b3, b4⟩⟩ := b; simp at hab; simp [hab]
end
def ApM (w : World) (M : Nat → Prop) (ds : List Dcs) (v : Value) : Prop := ∃ m : List ((Couple × Couple) × Bool), RM w M kvP (fun b : Bool => .bool b) m v ∧ ∀ a b, (mget m (a, b)).getD false = apB ds a b
section
variable {w w' w₀ : World} {C C' C₀ D : Nat → Nat} {I : List Nat} {ds : List Dcs} {v : Value}
theorem ApM.st (h : ApM w (Mc C) ds v) (hs : Stp I w C w' C') (h0 : 0 ∉ I) : ApM w' (Mc C') ds v := let ⟨m, h1, h2⟩ := h; ⟨m, h1.st hs h0, h2⟩
theorem ApM.t (h : ApM w (Mc C) ds v) (hs : Stp I w C w' C') (h0 : 0 ∉ I := by first | decide | (simp <;> omega)) : ApM w' (Mc C') ds v := h.st hs h0
theorem ApM.sub {M M' : Nat → Prop} (h : ApM w M ds v) (hM : ∀ b, M' b → M b) : ApM w M' ds v := let ⟨m, ⟨b, h1, h3, h4⟩, h2⟩ := h; ⟨m, ⟨b, h1, fun e => h3 (hM b e), h4⟩, h2⟩
theorem ApM.one {M : Nat → Prop} (h : ApM w M ds v) : v.cells = #[v] ∧ v.oneCell' = true := by obtain ⟨m, ⟨b, rfl, _⟩, _⟩ := h; exact ⟨rfl, rfl⟩
end
theorem apB_take {ds : List Dcs} {k : Nat} (h : k < ds.length) (a b : Couple) : apB (ds.take (k + 1)) a b = (apB (ds.take k) a b || (!ds[k].same && decide (ds[k].A = a ∧ ds[k].B = b))) := by
  unfold apB
  rw [List.take_succ_eq_append_getElem h, List.any_append]; simp
end Go.K

/- Lists that can be appended to: own ones, or read ones without room. -/
namespace Go.K
open Rep
abbrev C0 : Nat → Nat := fun _ => 0
theorem lim00 (w : World) : Lim w C0 := fun b hb => absurd rfl hb
section
variable {w w' : World} {C D : Nat → Nat}
theorem Stp.re (h : Stp [] w D w' D) (C : Nat → Nat) : Stp [] w C w' C := ⟨h.ext.mono (fun b _ hb => by cases hb), fun _ _ => rfl⟩
end
section
variable {α : Type} [Rep α] {P : Program} {N : Nat} {env : Env} {w w' : World} {C C' D : Nat → Nat} {I : List Nat} {t e : TypeId} {v s : Value} {x y z q : Operand} {xs ys zs : List α} {j n : Nat}
theorem OwnL.rv0 (h : OwnL w C j e v ys) (hl : ys.length ≤ 9223372036854775807) : RV w (Mc C0) ys v := h.own.read (fun b _ hb => absurd rfl hb) hl
theorem RV.c0 {M : Nat → Prop} (h : RV w M ys v) : RV w (Mc C0) ys v := h.sub (fun b _ hb => absurd rfl hb)
def AppF (w : World) (C : Nat → Nat) (j : Nat) (e : TypeId) (v : Value) (ys : List α) : Prop := OwnL w C j e v ys ∨ ∃ a, v = .slice a ys.length ys.length ∧ RV w (Mc C) ys v
theorem AppF.st (h : AppF w C j e v ys) (hs : Stp I w C w' C') (h0 : 0 ∉ I) (hj : j ∉ I) : AppF w' C' j e v ys := h.imp (fun h => h.st hs h0 hj) (fun ⟨a, h1, h2⟩ => ⟨a, h1, h2.st hs h0⟩)
theorem AppF.rv0 (h : AppF w C j e v ys) (hl : ys.length ≤ 9223372036854775807) : RV w (Mc C0) ys v := by
  rcases h with h | ⟨a, _, h⟩
  · exact h.rv0 hl
  · exact h.c0
theorem AppF.lenV (h : AppF w C j e v ys) (hy : ev env y = some v) {d : TypeId} (ht : P.underlying t = some (.slice d)) :
    ∀ w', Val P N env (.call { callee := .builtin .len, args := #[y], argTypes := #[t] }) w' (.int .i64 ys.length) := fun w' => by
  rcases h with h | ⟨a, rfl, _⟩
  · exact h.lenV hy ht w'
  · exact val_len_slice hy ht
theorem a_appendF {bytes : Nat} (hF : Lim w C) (hj : j ≠ 0) (hx : ev env y = some v) (hy : ev env z = some s) (hrow : rowB P t e (sz α) bytes = true) (hsz : 0 < sz α)
    (hown : AppF w C j e v ys) (hsrc : RV w (Mc C) zs s) (hz0 : zs ≠ []) (hlen : (ys.length + zs.length) * bytes ≤ 140737488355328) (h63 : ys.length + zs.length ≤ 140737488355328) :
    Acts P N env (.call { callee := .builtin .append, args := #[y, z], argTypes := #[t, t] }) w (fun v' w' => ∃ C', Stp [j] w C w' C' ∧ OwnL w' C' j e v' (ys ++ zs) ∧ Lim w' C') := by
  rcases hown with h | ⟨a, rfl, h⟩
  · exact a_append hF hj hx hy hrow hsz h hsrc hlen h63
  · intro a' ha' oo hoo
    obtain ⟨v', w', h1, C', h2, h3, h4⟩ := a_appendR (j := j) (P := P) (N := N) (a := a) hF hj hx hy hrow hsz h hsrc hz0 hlen h63 a' ha' oo hoo
    exact ⟨v', w', h1, C', h2.mono (fun c hc => by cases hc), h3, h4⟩
theorem RV.fullK {M : Nat → Prop} {e' : TypeId} {k : Nat} (h : RV w M xs v) (hy : ev env y = some v) {kd kd2 : IntKind} (hf : elemB P t = some (e', sz α)) (hz : ev env z = some (.int kd k)) (hq : ev env q = some (.int kd2 k)) (hk : k ≤ xs.length) :
    ∃ a, RV w M (xs.take k) (.slice a k k) ∧ ∀ w', Val P N env (.slice t y none (some z) (some q)) w' (.slice a k k) := by
  obtain ⟨a, c, rfl, hc, hm, hs⟩ := rv_list.1 h
  have htl : (xs.take k).length = k := by rw [List.length_take]; omega
  refine ⟨a, ?_, fun w' => mk' fun ρ hρ oo ho => ?_⟩
  · refine rv_list.2 ⟨a, k, by rw [htl], by omega, by omega, ?_⟩
    rcases hs with h | ⟨b, o, rfl, hb, cs, ty, fz, hcs, hsz, hr⟩
    · left; rw [h]; simp
    · right
      refine ⟨b, o, rfl, hb, cs, ty, fz, hcs, ?_, fun i hi => ?_⟩
      · rw [htl]; have := Nat.mul_le_mul_right (sz α) hk; omega
      · rw [List.getElem_take]; exact hr i (by omega)
  · unfold elemB at hf
    split at hf
    · rename_i e1 hu
      split at hf
      · rename_i n' hn
        have hb := run_sliceBound_ok (P := P) (kd := kd2) (y := c) (code := .slice3Acap) (w := w') (i := (k : Int)) (by omega) (by omega)
        have hb2 := run_sliceBound_ok (P := P) (kd := kd) (y := k) (code := .slice3B) (w := w') (i := (k : Int)) (by omega) (by omega)
        have ha' : a.map (·.add 0) = a := by
          cases a with
          | none => simp
          | some a => simp [Addr.add]
        simp only [Int.toNat_natCast] at hb hb2
        unfold execOp; rw [ho]
        simp [hρ _ _ hy, hρ _ _ hz, hρ _ _ hq, Instr.sliceAt, Instr.slice, Instr.sliceBounds, run_underlying hu, run_sizeOfB hn, hb, hb2, ha']
      · cases hf
    · cases hf
end
section
variable {α : Type} [Rep α] {w w' : World} {C C' : Nat → Nat} {I : List Nat} {e : TypeId} {v : Value} {ys : List α} {j : Nat}
theorem AppF.t (h : AppF w C j e v ys) (hs : Stp I w C w' C') (h0 : 0 ∉ I := by first | decide | (simp <;> omega)) (hj : j ∉ I := by first | decide | (simp <;> omega)) : AppF w' C' j e v ys := h.st hs h0 hj
end
section
variable {α : Type} [Rep α] {w : World} {C : Nat → Nat} {P : Program} {f : FuncId} {N : Nat} {k : List Item} {R : Value → World → Prop} {Q : Exit → Act → World → Prop} {env : Env} {ops : Array Oper} {S : World → Prop} {i t : Nat} {L : List (Nat × Bool)} {v : Value} {y z q : Operand} {gd : Option (Nat × Bool)} {ty e e' : TypeId} {xs : List α} {kd kd2 : IntKind} {m : Nat}
theorem sFullK {M : Nat → Prop} (hop : opAt ops i = some (some t, .slice ty y none (some z) (some q), gd)) (hw : wantedE ops env gd = some true) (ht : Nat.blt t N = true) (hl : RV w M xs v) (hy : ev env y = some v)
    (hf : elemB P ty = some (e', sz α)) (hz : ev env z = some (.int kd m)) (hq : ev env q = some (.int kd2 m)) (hk : m ≤ xs.length)
    (h : ∀ a, RV w M (xs.take m) (.slice a m m) → SchQ P N Q ops S L ((t, .slice a m m) :: env) w) : SchQ P N Q ops S ((i, true) :: L) env w := by
  obtain ⟨a, h2, h3⟩ := hl.fullK (P := P) (N := N) hy hf hz hq hk
  exact yS hop hw ht (fun w' _ => h3 w') (h a h2)
end
structure Rch (l : List Bond) (s ys : List Couple) : Prop where
  nd : ys.Nodup
  sub : ∀ r ∈ ys, r ∈ s
  first : s.headD ⟨0, 0⟩ ∈ ys
  same : ∀ r ∈ ys, rhoS (withinB l s) r = rhoS (withinB l s) (s.headD ⟨0, 0⟩)
section
variable {l : List Bond} {s ys : List Couple}
theorem Rch.start (h : 1 ≤ s.length) : Rch l s (s.take 1) := by
  cases s with
  | nil => simp at h
  | cons a t => exact ⟨by simp, by simp, by simp, by simp⟩
theorem Rch.len (h : Rch l s ys) : ys.length ≤ s.length := h.nd.length_le_of_subset h.sub
theorem Rch.add (h : Rch l s ys) {x : Bond} (hx : x ∈ l) (hA : x.A ∈ s) (hB : x.B ∈ s) {r : Couple} (hr : (r = x.A ∧ x.B ∈ ys) ∨ (r = x.B ∧ x.A ∈ ys)) (hn : r ∉ ys) : Rch l s (ys ++ [r]) := by
  have he : rhoS (withinB l s) x.A = rhoS (withinB l s) x.B := rho_edge (List.mem_filter.2 ⟨hx, by rw [decide_eq_true_eq]; exact ⟨hA, hB⟩⟩)
  have hrs : r ∈ s := by rcases hr with ⟨rfl, _⟩ | ⟨rfl, _⟩ <;> assumption
  have hsame : rhoS (withinB l s) r = rhoS (withinB l s) (s.headD ⟨0, 0⟩) := by
    rcases hr with ⟨rfl, h1⟩ | ⟨rfl, h1⟩
    · rw [he]; exact h.same _ h1
    · rw [← he]; exact h.same _ h1
  refine ⟨List.nodup_append.2 ⟨h.nd, by simp, fun a ha b hb e => ?_⟩, fun q hq => ?_, List.mem_append.2 (.inl h.first), fun q hq => ?_⟩
  · rw [List.mem_singleton] at hb; subst hb; subst e; exact hn ha
  · rcases List.mem_append.1 hq with h1 | h1
    · exact h.sub q h1
    · rw [List.mem_singleton.1 h1]; exact hrs
  · rcases List.mem_append.1 hq with h1 | h1
    · exact h.same q h1
    · rw [List.mem_singleton.1 h1]; exact hsame
theorem Rch.fin (h : Rch l s ys) (hn : s.Nodup) (hc : ∀ x ∈ l, x.A ∈ s → x.B ∈ s → (x.A ∈ ys ↔ x.B ∈ ys)) : (ys.length : Int) = s.length ↔ joinB l s = true := by
  have hall : ∀ r, rhoS (withinB l s) r = rhoS (withinB l s) (s.headD ⟨0, 0⟩) → r ∈ ys := fun r e => by
    have hinv : ∀ x ∈ withinB l s, decide (x.A ∈ ys) = decide (x.B ∈ ys) := fun x hx => by
      obtain ⟨h1, h2⟩ := List.mem_filter.1 hx
      rw [decide_eq_true_eq] at h2
      exact decide_eq_decide.2 (hc x h1 h2.1 h2.2)
    have e1 := rho_inv (p := fun r => decide (r ∈ ys)) hinv r
    have e2 := rho_inv (p := fun r => decide (r ∈ ys)) hinv (s.headD ⟨0, 0⟩)
    have e3 : decide (r ∈ ys) = decide (s.headD ⟨0, 0⟩ ∈ ys) := by rw [← e1, ← e2, e]
    rw [decide_eq_true h.first] at e3
    exact of_decide_eq_true e3
  unfold joinB
  rw [List.all_eq_true]
  constructor
  · intro e r hr
    rw [decide_eq_true_eq]
    refine h.same r ?_
    -- as many, all of them
    apply Classical.byContradiction
    intro hno
    have h1 : (r :: ys).Nodup := List.nodup_cons.2 ⟨hno, h.nd⟩
    have h2 := h1.length_le_of_subset (l₂ := s) (fun q hq => by
      rcases List.mem_cons.1 hq with rfl | hq
      · exact hr
      · exact h.sub q hq)
    simp only [List.length_cons] at h2
    omega
  · intro hall2
    have h2 := hn.length_le_of_subset (l₂ := ys) (fun q hq => hall q (of_decide_eq_true (hall2 q hq)))
    have := h.len
    omega
end
end Go.K

/- What a closure has captured: blocks that lay there when it was called. -/
namespace Go.K
open Rep
def Low (w : World) (C : Nat → Nat) (b : Nat) (o : Obj) : Prop := C b < 2 ∧ w.heap[b]? = some o
section
variable {w w' : World} {I : List Nat} {C C' : Nat → Nat} {b : Nat} {o : Obj}
theorem Low.at_ (h : Low w C b o) : w.heap[b]? = some o := h.2
theorem Low.st (h : Low w C b o) (hs : Stp I w C w' C') (hI : ∀ c ∈ I, 2 ≤ c) : Low w' C' b o :=
  ⟨by rw [hs.col b (lt_of_at h.2)]; exact h.1, by rw [hs.ext.at' h.2 (fun hm => by have := hI _ hm; have := h.1; omega)]⟩
theorem Low.t (h : Low w C b o) (hs : Stp I w C w' C') (hI : ∀ c ∈ I, 2 ≤ c := by decide) : Low w' C' b o := h.st hs hI
theorem Low.stay (h : Low w C b o) (hS : Ext (fun b => C b ∈ I) w w') (hI : ∀ c ∈ I, 2 ≤ c) : w'.heap[b]? = some o := hS.at' h.2 (fun hm => by have := hI _ hm; have := h.1; omega)
theorem Low.sy (h : Low w C b o) (hS : Ext (fun b => C b ∈ I) w w') (hI : ∀ c ∈ I, 2 ≤ c := by decide) : w'.heap[b]? = some o := h.stay hS hI
theorem Low.of (h : w.heap[b]? = some o) (C : Nat → Nat) : Low w (col1 C) b o := ⟨by unfold col1; split <;> omega, h⟩
theorem Stp.same {D D' : Nat → Nat} (hs : Stp [] w D w' D') (h : w.heap[b]? = some o) : w'.heap[b]? = some o := hs.ext.at' h (fun hm => by cases hm)
end
def pwB (ds : List Dcs) (s : List Couple) : Bool := (List.range s.length).all fun i => !((s.take i).any fun b => barB ds b (s.getD i ⟨0, 0⟩))
def personB (l : List Bond) (ds : List Dcs) (s : List Couple) : Bool := decide (2 ≤ s.length) && pwB ds s && joinB l s
theorem pwB_iff {ds : List Dcs} {s : List Couple} : pwB ds s = true ↔ s.Pairwise fun a b => barB ds a b = false := by
  unfold pwB
  rw [List.all_eq_true, List.pairwise_iff_getElem]
  constructor
  · intro h i j hi hj hij
    have h1 := h j (List.mem_range.2 hj)
    rw [Bool.not_eq_true', List.any_eq_false] at h1
    have h2 := h1 s[i] (by rw [List.mem_take_iff_getElem]; exact ⟨i, by omega, rfl⟩)
    rw [getD_in hj] at h2
    simpa using h2
  · intro h j hj
    have hj := List.mem_range.1 hj
    rw [Bool.not_eq_true', List.any_eq_false]
    intro b hb
    obtain ⟨i, hi, rfl⟩ := List.mem_take_iff_getElem.1 hb
    rw [getD_in hj, h i j (by omega) hj (by omega)]; decide
theorem pw_nodup {ds : List Dcs} {s : List Couple} (h : s.Pairwise fun a b => barB ds a b = false) : s.Nodup := List.nodup_iff_pairwise_ne.2 (h.imp fun {a b} h e => by subst e; rw [barB_self] at h; cases h)
theorem pwB_upto {ds : List Dcs} {s : List Couple} (h : ∀ i (hi : i < s.length), (s.take i).any (fun b => barB ds b s[i]) = false) : pwB ds s = true := by
  unfold pwB
  rw [List.all_eq_true]
  intro i hi
  have hi := List.mem_range.1 hi
  rw [getD_in hi, h i hi]; rfl
theorem pwB_not {ds : List Dcs} {s : List Couple} {i : Nat} (hi : i < s.length) (h : (s.take i).any (fun b => barB ds b s[i]) = true) : pwB ds s = false := by
  unfold pwB
  rw [List.all_eq_false]
  exact ⟨i, List.mem_range.2 hi, by rw [getD_in hi, h]; decide⟩
theorem PV.person {l : List Bond} {ds : List Dcs} {ps : List (List Couple)} (h : PV l ds ps) {p : List Couple} (hp : p ∈ ps) : personB l ds p = true := by
  unfold personB
  rw [decide_eq_true (h.len p hp), pwB_iff.2 (h.bar p hp), joinB_iff.2 (h.join p hp)]; rfl
end Go.K

/- Values and the check of partitions, step by step. Plain. -/
namespace Go.K
open Rep
section
variable {l : List Bond} {ds : List Dcs} {ps : List (List Couple)}
theorem valueB_take {k : Nat} (h : k < l.length) (ps : List (List Couple)) : valueB (l.take (k + 1)) ps = if ps.any (insideB l[k]) = true then valueB (l.take k) ps + l[k].w else valueB (l.take k) ps := by
  unfold valueB
  rw [List.take_succ_eq_append_getElem h, List.filter_append, List.map_append, List.sum_append]
  by_cases e : ps.any (insideB l[k]) = true
  · rw [if_pos e, List.filter_cons_of_pos (p := fun x => ps.any (insideB x)) e]; simp
  · rw [if_neg e, List.filter_cons_of_neg (p := fun x => ps.any (insideB x)) e]; simp
theorem valueB_b (hw : ∀ x ∈ l, 1 ≤ x.w ∧ x.w ≤ 1048576) (ps : List (List Couple)) : ∀ k, k ≤ l.length → 0 ≤ valueB (l.take k) ps ∧ valueB (l.take k) ps ≤ 1048576 * (k : Int)
  | 0, _ => by simp [valueB]
  | k + 1, hk => by
    have h1 := valueB_b hw ps k (by omega)
    have h2 := hw _ (List.getElem_mem (show k < l.length by omega))
    rw [valueB_take (by omega)]
    split <;> omega
theorem valueB_all (ps : List (List Couple)) : valueB (l.take l.length) ps = valueB l ps := by rw [List.take_length]
theorem insideB_and (x : Bond) (p : List Couple) : insideB x p = (decide (x.A ∈ p) && decide (x.B ∈ p)) := by unfold insideB; rw [Bool.decide_and]
def Seen (m : List (Couple × Bool)) (rs : List Couple) : Prop := ∀ r, (mget m r).getD false = true ↔ r ∈ rs
theorem Seen.nil : Seen [] [] := fun r => by simp [mget]
theorem Seen.put {m : List (Couple × Bool)} {rs : List Couple} (h : Seen m rs) (r : Couple) : Seen (mput m r true) (rs ++ [r]) := fun q => by
  rw [mget_mput, List.mem_append, List.mem_singleton]
  by_cases e : r = q
  · rw [if_pos e]; simp [e]
  · rw [if_neg e, h q]
    exact ⟨.inl, fun h => h.resolve_right (fun e2 => e e2.symm)⟩
theorem Seen.not {m : List (Couple × Bool)} {rs : List Couple} (h : Seen m rs) {r : Couple} (hr : r ∉ rs) : (mget m r).getD false = false := Bool.eq_false_iff.2 fun e => hr ((h r).1 e)
theorem PV.fresh (h : PV l ds ps) {i j : Nat} (hi : i < ps.length) (hj : j < ps[i].length) : ps[i][j] ∉ (ps.take i).flatten ++ ps[i].take j := fun hm => by
  have hn := h.disj
  have e : ps = ps.take i ++ ps[i] :: ps.drop (i + 1) := by rw [← List.drop_eq_getElem_cons hi, List.take_append_drop]
  rw [e, List.flatten_append, List.flatten_cons, ← List.append_assoc] at hn
  have hn2 := (List.nodup_append.1 hn).1
  have e2 : ps[i] = ps[i].take j ++ ps[i][j] :: ps[i].drop (j + 1) := by rw [← List.drop_eq_getElem_cons hj, List.take_append_drop]
  rcases List.mem_append.1 hm with h1 | h1
  · exact (List.nodup_append.1 hn2).2.2 _ h1 _ (List.getElem_mem hj) rfl
  · have hn3 := (List.nodup_append.1 hn2).2.1
    rw [e2] at hn3
    exact (List.nodup_append.1 hn3).2.2 _ h1 _ List.mem_cons_self rfl
theorem flat_next {i : Nat} (hi : i < ps.length) : (ps.take (i + 1)).flatten = (ps.take i).flatten ++ ps[i].take ps[i].length := by
  rw [List.take_succ_eq_append_getElem hi, List.flatten_append, List.take_length]; simp
theorem PV.plen (h : PV l ds ps) {p : List Couple} (hp : p ∈ ps) : p.length ≤ 2 * l.length := by
  have h1 := (h.nodup hp).length_le_of_subset (l₂ := refsS l) (fun r hr => h.refs hp hr)
  have := refsS_len l
  omega
theorem PV.head_lt (h : PV l ds ps) {i : Nat} (h0 : 0 < i) (hi : i < ps.length) (h1 : 0 < (ps[i - 1]'(by omega)).length) (h2 : 0 < ps[i].length) : cmpC ((ps[i - 1]'(by omega))[0]) ps[i][0] < 0 := by
  have := List.pairwise_iff_getElem.1 h.heads (i - 1) i (by omega) hi (by omega)
  rw [List.headD_eq_head?_getD, List.headD_eq_head?_getD, List.head?_eq_getElem?, List.head?_eq_getElem?, List.getElem?_eq_getElem h1, List.getElem?_eq_getElem h2] at this
  exact cmpC_neg.2 this
theorem bigs_len (rows : List (List Couple)) : (bigs rows).length ≤ rows.length := List.length_filter_le _ _
theorem bigs_take {rows : List (List Couple)} {i : Nat} (h : i < rows.length) : bigs (rows.take (i + 1)) = if 2 ≤ rows[i].length then bigs (rows.take i) ++ [rows[i]] else bigs (rows.take i) := by
  unfold bigs
  rw [List.take_succ_eq_append_getElem h, List.filter_append]
  by_cases e : 2 ≤ rows[i].length
  · rw [if_pos e, List.filter_cons_of_pos (by rw [decide_eq_true_eq]; exact e)]; rfl
  · rw [if_neg e, List.filter_cons_of_neg (by rw [decide_eq_true_eq]; exact e)]; simp
theorem finOK_of {rows : List (List Couple)} (h : ∀ q (hq : q < rows.length), 2 ≤ rows[q].length → joinB l rows[q] = true) : finOK l rows = true := by
  unfold finOK
  rw [List.all_eq_true]
  intro s hs
  obtain ⟨h1, h2⟩ := List.mem_filter.1 hs
  obtain ⟨q, hq, rfl⟩ := List.getElem_of_mem h1
  exact h q hq (of_decide_eq_true h2)
theorem finOK_not {rows : List (List Couple)} {q : Nat} (hq : q < rows.length) (h2 : 2 ≤ rows[q].length) (h : joinB l rows[q] = false) : finOK l rows = false := by
  unfold finOK
  rw [List.all_eq_false]
  exact ⟨_, List.mem_filter.2 ⟨List.getElem_mem hq, by rw [decide_eq_true_eq]; exact h2⟩, by rw [h]; decide⟩
theorem finF_no {rows : List (List Couple)} {st : BestSt} (h : finOK l rows = false) : finF l st rows = st := by unfold finF; rw [if_neg (by rw [h]; rintro ⟨h, _⟩; cases h)]
theorem finF_less {rows : List (List Couple)} {st : BestSt} (h : st.found = true) (h2 : valueB l (bigs rows) ≤ st.val) : finF l st rows = st := by
  unfold finF; rw [if_neg]
  rintro ⟨_, h3 | h3⟩
  · rw [h] at h3; cases h3
  · omega
theorem finF_new {rows : List (List Couple)} {st : BestSt} (h : finOK l rows = true) (h2 : st.found = false ∨ st.val < valueB l (bigs rows)) : finF l st rows = ⟨true, bigs rows, valueB l (bigs rows)⟩ := by unfold finF; rw [if_pos ⟨h, h2⟩]
end
end Go.K

/- RwS that are each a list of its own. -/
namespace Go.K
open Rep
structure RwS {α : Type} [Rep α] (w : World) (C : Nat → Nat) (j : Nat) (e : TypeId) (us : List Value) (rows : List (List α)) : Prop where
  len : us.length = rows.length
  own : ∀ k (h : k < us.length) (h' : k < rows.length), OwnL w C j e us[k] rows[k]
  dist : ∀ k l (h : k < us.length) (h' : l < us.length), k ≠ l → ∀ b, Ob us[k] b → ¬ Ob us[l] b
section
variable {α : Type} [Rep α] {P : Program} {N : Nat} {env : Env} {w w' : World} {C C' D : Nat → Nat} {I : List Nat} {t e : TypeId} {v s : Value} {x y z : Operand} {xs ys zs : List α} {us : List Value} {rows : List (List α)} {j k n : Nat}
theorem RwS.nil : RwS w C j e [] ([] : List (List α)) := ⟨rfl, fun k h => by simp at h, fun k l h => by simp at h⟩
theorem RwS.st (h : RwS w C j e us rows) (hs : Stp I w C w' C') (h0 : 0 ∉ I) (hj : j ∉ I) : RwS w' C' j e us rows := ⟨h.len, fun k h1 h2 => (h.own k h1 h2).st hs h0 hj, h.dist⟩
theorem RwS.rv0 (h : RwS w C j e us rows) (hk : k < us.length) (hk' : k < rows.length) (hl : rows[k].length ≤ 9223372036854775807) : RV w (Mc C0) rows[k] us[k] := (h.own k hk hk').rv0 hl
theorem RwS.append {bytes : Nat} (h : RwS w C j e us rows) (hF : Lim w C) (hj : j ≠ 0) (hk : k < us.length) (hk' : k < rows.length) (hx : ev env y = some us[k]) (hy : ev env z = some s) (hrow : rowB P t e (sz α) bytes = true) (hsz : 0 < sz α)
    (hsrc : RV w (Mc C) zs s) (hlen : (rows[k].length + zs.length) * bytes ≤ 140737488355328) (h63 : rows[k].length + zs.length ≤ 140737488355328) :
    Acts P N env (.call { callee := .builtin .append, args := #[y, z], argTypes := #[t, t] }) w (fun v' w' => ∃ C', Stp [j] w C w' C' ∧ Lim w' C' ∧ RwS w' C' j e (us.set k v') (rows.set k (rows[k] ++ zs))) := fun a ha oo hoo => by
  have hown := h.own k hk hk'
  obtain ⟨v', w', h1, h2, h3, h4⟩ := acts_append (P := P) (N := N) hx hy hrow hsz hown.own hsrc hlen h63 a ha oo hoo
  have hcol : ∀ b, b < w.heap.size → setB C v' j b = C b := fun b hb => by
    unfold setB
    split
    · rename_i e
      rcases h4 b e with h | h
      · exact (hown.col b h).symm
      · omega
    · rfl
  have hS : Stp [j] w C w' (setB C v' j) := ⟨h3.mono (fun b _ hb => by rw [hown.col b hb]; simp), hcol⟩
  have hL : Lim w' (setB C v' j) := fun b hb => by
    by_cases ho : Ob v' b
    · exact (h2.ob b ho).2
    · unfold setB at hb
      rw [if_neg (show ¬ v'.ownBlock = some b from ho)] at hb
      exact Nat.lt_of_lt_of_le (hF b hb) h3.size
  have hn : OwnL w' (setB C v' j) j e v' (rows[k] ++ zs) := ⟨h2.sub (fun b hb hc => by
    by_cases ho : Ob v' b
    · exact .inl ho
    · right
      unfold Mc setB at hc
      rw [if_neg (show ¬ v'.ownBlock = some b from ho)] at hc
      exact hc) (fun b hb => by unfold Mc setB; rw [if_pos (show v'.ownBlock = some b from hb)]; exact hj), fun b hb => by unfold setB; rw [if_pos (show v'.ownBlock = some b from hb)]⟩
  have hoth : ∀ l (hl : l < us.length) (hl' : l < rows.length), l ≠ k → OwnL w' (setB C v' j) j e us[l] rows[l] ∧ ∀ b, Ob us[l] b → ¬ Ob v' b := fun l hl hl' hlk => by
    have ho := h.own l hl hl'
    have hne : ∀ b, Ob us[l] b → ¬ Ob us[k] b := h.dist l k hl hk hlk
    have hv : ∀ b, Ob us[l] b → ¬ Ob v' b := fun b hb hv => by
      rcases h4 b hv with h5 | h5
      · exact hne b hb h5
      · have := (ho.own.ob b hb).2; omega
    have hold : ∀ b, b < w.heap.size → Ob v' b → Mc C b := fun b hb hvb => by
      rcases h4 b hvb with h6 | h6
      · unfold Mc; rw [hown.col b h6]; exact hj
      · omega
    have h50 : OwnS w (fun b => Ob v' b ∨ Mc C b) e us[l] rows[l] := ho.own.sub (fun b hb hM => hM.elim (hold b hb) id) (fun b hb => .inr (by unfold Mc; rw [ho.col b hb]; exact hj))
    have h5 : OwnS w' (fun b => Ob v' b ∨ Mc C b) e us[l] rows[l] := h50.ext h3 (fun b hb hA => .inr (by unfold Mc; rw [hown.col b hA]; exact hj)) hne
    refine ⟨⟨h5.sub (fun b hb hc => ?_) (fun b hb => ?_), fun b hb => ?_⟩, hv⟩
    · by_cases hvb : Ob v' b
      · exact .inl hvb
      · right
        unfold Mc setB at hc
        rw [if_neg (show ¬ v'.ownBlock = some b from hvb)] at hc
        exact hc
    · unfold Mc setB; rw [if_neg (show ¬ v'.ownBlock = some b from hv b hb), ho.col b hb]; exact hj
    · unfold setB; rw [if_neg (show ¬ v'.ownBlock = some b from hv b hb)]; exact ho.col b hb
  refine ⟨v', w', h1, setB C v' j, hS, hL, ⟨by simp [h.len], fun l h5 h6 => ?_, fun l m h5 h6 hlm b hb hb2 => ?_⟩⟩
  · simp only [List.length_set] at h5 h6
    rw [List.getElem_set, List.getElem_set]
    by_cases e : k = l
    · subst e; rw [if_pos rfl, if_pos rfl]; exact hn
    · rw [if_neg e, if_neg e]; exact (hoth l h5 h6 (Ne.symm e)).1
  · simp only [List.length_set] at h5 h6
    rw [List.getElem_set] at hb hb2
    by_cases e1 : k = l
    · by_cases e2 : k = m
      · omega
      · rw [if_pos e1] at hb; rw [if_neg e2] at hb2
        exact (hoth m h6 (by rw [← h.len]; exact h6) (Ne.symm e2)).2 b hb2 hb
    · by_cases e2 : k = m
      · rw [if_neg e1] at hb; rw [if_pos e2] at hb2
        exact (hoth l h5 (by rw [← h.len]; exact h5) (Ne.symm e1)).2 b hb hb2
      · rw [if_neg e1] at hb; rw [if_neg e2] at hb2
        exact h.dist l m h5 h6 hlm b hb hb2
theorem a_buildOwn {n bytes : Nat} {parts : Array (Nat × Operand)} {ys : List α} (hF : Lim w C) (hj : j ≠ 0) (hrow : rowB P t e (sz α) bytes = true) (hn : n = ys.length) (hsm : n * sz α ≤ 16777216) (hsz : 0 < sz α)
    (hp : Elems env w (Mc C) 0 parts.toList ys) :
    Acts P N env (.buildSlice t n parts) w (fun v w' => ∃ C', Stp [] w C w' C' ∧ OwnL w' C' j e v ys ∧ Lim w' C' ∧ ∀ b, Ob v b → w.heap.size ≤ b) := acts' fun ρ hρ oo hoo => by
  subst hn
  obtain ⟨i, z, hu, hi, hsi, hby, hz, hzs⟩ := rowB_spec hrow
  let zs : List Value := ((Array.range (ys.length * sz α)).map fun j => (if ys.length * sz α = 0 then (#[] : Array Value) else z.cells)[j % (if ys.length * sz α = 0 then (#[] : Array Value) else z.cells).size]!).toList
  obtain ⟨qs, news, h1, h2, h3, h4⟩ := elems_fill (k := 0) [] zs hp (by simp) (by simp [zs])
  simp only [List.nil_append] at h2
  have hmap := Parts.map hρ h1
  have hfill := fill_eq _ (parts.toList.map fun p => (p.1, ρ p.2)) qs zs news (by rw [← hmap]) h2
  have hnew := new_alloc w (.cells news.toArray e)
  have hrun : (Instr.buildSlice t ys.length (parts.map fun x => (x.1, ρ x.2))).run P w = .ok (.slice (some ⟨w.heap.size, 0, none⟩) ys.length ys.length) (w.alloc (.cells news.toArray e)) := by
    have hle : ¬ (ys.length * sz α > 2 ^ 24) := by omega
    have hpl : (parts.map fun x => (x.1, ρ x.2)).toList = parts.toList.map fun p => (p.1, ρ p.2) := by simp
    have hsz' : (sizeOf e).run P w = .ok (sz α) w := by simp [sizeOf, typeInfo, hi, hsi]
    unfold Instr.buildSlice
    simp only [Sem.run_bind, run_underlying hu, Result.andThen_ok, hsz', if_neg hle, Sem.run_pure, hpl]
    by_cases h0 : ys.length * sz α = 0
    · have hzs0 : zs = ((Array.range (ys.length * sz α)).map fun j => (#[] : Array Value)[j % (#[] : Array Value).size]!).toList := by simp only [zs, h0, if_true]
      rw [hzs0] at hfill
      simp only [h0, if_true, Sem.run_bind, Sem.run_pure, Result.andThen_ok] at hfill ⊢
      simp only [Array.toArray_toList] at hfill
      rw [hfill]
      simp [newRow]
    · have hzs0 : zs = ((Array.range (ys.length * sz α)).map fun j => z.cells[j % z.cells.size]!).toList := by simp only [zs, h0, if_false]
      rw [hzs0] at hfill
      have hzv : (zeroValue e).run P w = .ok z w := by simp [zeroValue, typeInfo, hi, hz]
      simp only [h0, if_false, Sem.run_bind, hzv, Sem.run_pure, Result.andThen_ok]
      simp only [Array.toArray_toList] at hfill
      rw [hfill]
      simp [newRow]
  obtain ⟨C', a1, a2, a3⟩ := hnew.own hF j
  refine ⟨.slice (some ⟨w.heap.size, 0, none⟩) ys.length ys.length, w.alloc (.cells news.toArray e), .inl ?_, C', a1, ⟨.inr ⟨w.heap.size, ys.length, news.toArray, rfl, ?_, a2.at_, Nat.le_refl _, ?_, fun i hi => ?_⟩, fun b hb => ?_⟩, a3, fun b hb => ?_⟩
  · unfold execOp; rw [hoo]
    simp only [Sem.run_bind]
    rw [show (parts.map fun x => match x with | (i, x) => (i, ρ x)) = (parts.map fun x => (x.1, ρ x.2)) from rfl, hrun]
    rfl
  · unfold Mc; rw [a2.col]; exact hj
  · simp only [List.size_toArray, h3]
  · have h5 := h4 i hi
    refine Rep.keep (Rep.sub h5 (fun b hb hm => ?_)) (fun b hb hm => hnew.ext.block b hb (fun h => h))
    unfold Mc at hm ⊢; rw [a1.col b hb] at hm; exact hm
  · simp only [Ob, Value.ownBlock, Option.some.injEq] at hb; subst hb; exact a2.col
  · simp only [Ob, Value.ownBlock, Option.some.injEq] at hb; omega
theorem RwS.snoc (h : RwS w C j e us rows) (hj : j ≠ 0) {ys : List α} (ho : OwnL w C j e v ys) (hd : ∀ k (hk : k < us.length), ∀ b, Ob us[k] b → ¬ Ob v b) : RwS w C j e (us ++ [v]) (rows ++ [ys]) := by
  have hl := h.len
  have hi : ∀ k (hk : k < (us ++ [v]).length), k < us.length ∨ k = us.length := fun k hk => by simp at hk; omega
  refine ⟨by simp [h.len], fun k h1 h2 => ?_, fun k l h1 h2 hkl b hb hb2 => ?_⟩
  · rcases hi k h1 with h3 | h3
    · rw [List.getElem_append_left h3, List.getElem_append_left (by omega)]; exact h.own k h3 (by omega)
    · subst h3
      rw [List.getElem_append_right (by omega), List.getElem_append_right (by omega)]
      simp only [Nat.sub_self, hl]
      simpa using ho
  · rcases hi k h1 with h3 | h3
    · rw [List.getElem_append_left h3] at hb
      rcases hi l h2 with h4 | h4
      · rw [List.getElem_append_left h4] at hb2
        exact h.dist k l h3 h4 hkl b hb hb2
      · subst h4
        rw [List.getElem_append_right (by omega)] at hb2
        exact hd k h3 b hb (by simpa using hb2)
    · subst h3
      rw [List.getElem_append_right (by omega)] at hb
      rcases hi l h2 with h4 | h4
      · rw [List.getElem_append_left h4] at hb2
        exact hd l h4 b hb2 (by simpa using hb)
      · omega
theorem RwS.fresh (h : RwS w C j e us rows) {w0 : World} (hb : ∀ b, Ob v b → w0.heap.size ≤ b) (hs : ∀ k (hk : k < us.length), ∀ b, Ob us[k] b → b < w0.heap.size) : ∀ k (hk : k < us.length), ∀ b, Ob us[k] b → ¬ Ob v b := fun k hk b h1 h2 => by
  have := hb b h2; have := hs k hk b h1; omega
theorem RwS.lt (h : RwS w C j e us rows) : ∀ k (hk : k < us.length), ∀ b, Ob us[k] b → b < w.heap.size := fun k hk b hb => ((h.own k hk (by rw [← h.len]; exact hk)).own.ob b hb).2
theorem RwS.pop (h : RwS w C j e (us ++ [v]) (rows ++ [xs])) (hl : us.length = rows.length) : RwS w C j e us rows :=
  ⟨hl, fun k h1 h2 => by
    have := h.own k (by simp; omega) (by simp; omega)
    rwa [List.getElem_append_left h1, List.getElem_append_left h2] at this, fun k l h1 h2 hkl b hb => by
    have := h.dist k l (by simp; omega) (by simp; omega) hkl b
    rw [List.getElem_append_left h1, List.getElem_append_left h2] at this
    exact this hb⟩
theorem OwnL.to2 {e' : TypeId} (h : OwnL w C j e v xs) (hy : ev env y = some v) {kd : IntKind} {i : Int} (hf : elemB P t = some (e', sz α)) (hz : ev env z = some (.int kd i)) (h0 : 0 ≤ i) (h1 : i ≤ xs.length) (hne : 0 < xs.length) :
    ∃ v2, (∀ b, Ob v2 b → Ob v b) ∧ OwnL w C j e v2 (xs.take i.toNat) ∧ ∀ w', Val P N env (.slice t y none (some z) none) w' v2 := by
  obtain ⟨g, cap, cs, rfl, hcol, hM, hc, hle, hsz, hr⟩ := h.at_own hne
  have hl : (xs.take i.toNat).length = i.toNat := by rw [List.length_take]; omega
  refine ⟨.slice (some ⟨g, 0, none⟩) (xs.take i.toNat).length cap, fun b hb => hb, ⟨.inr ⟨g, cap, cs, rfl, hM, hc, by omega, hsz, fun k hk => ?_⟩, h.col⟩, fun w' => mk' fun ρ hρ oo ho => ?_⟩
  · rw [List.getElem_take]; exact hr k (by omega)
  · unfold elemB at hf
    split at hf
    · rename_i e1 hu
      split at hf
      · rename_i n' hn
        simp only [Option.some.injEq, Prod.mk.injEq] at hf
        obtain ⟨rfl, rfl⟩ := hf
        have hb := run_sliceBound_ok (P := P) (kd := kd) (y := cap) (code := .sliceAcap) (w := w') h0 (by omega)
        unfold execOp; rw [ho]
        rw [hl]
        simp [hρ _ _ hy, hρ _ _ hz, Instr.sliceAt, Instr.slice, Instr.sliceBounds, run_underlying hu, run_sizeOfB hn, hb, addr_add]
      · cases hf
    · cases hf
theorem RwS.cut {e' : TypeId} (h : RwS w C j e us rows) (hk : k < us.length) (hk' : k < rows.length) (hy : ev env y = some us[k]) {kd : IntKind} {i : Int} (hf : elemB P t = some (e', sz α)) (hz : ev env z = some (.int kd i)) (h0 : 0 ≤ i) (h1 : i ≤ rows[k].length) (hne : 0 < rows[k].length) :
    ∃ v2, RwS w C j e (us.set k v2) (rows.set k (rows[k].take i.toNat)) ∧ ∀ w', Val P N env (.slice t y none (some z) none) w' v2 := by
  obtain ⟨v2, h2, h3, h4⟩ := (h.own k hk hk').to2 (P := P) (N := N) hy hf hz h0 h1 hne
  refine ⟨v2, ⟨by simp [h.len], fun l h5 h6 => ?_, fun l m h5 h6 hlm b hb hb2 => ?_⟩, h4⟩
  · simp only [List.length_set] at h5 h6
    rw [List.getElem_set, List.getElem_set]
    by_cases e : k = l
    · subst e; rw [if_pos rfl, if_pos rfl]; exact h3
    · rw [if_neg e, if_neg e]; exact h.own l h5 h6
  · simp only [List.length_set] at h5 h6
    rw [List.getElem_set] at hb hb2
    by_cases e1 : k = l
    · by_cases e2 : k = m
      · omega
      · rw [if_pos e1] at hb; rw [if_neg e2] at hb2
        exact h.dist k m hk h6 e2 b (h2 b hb) hb2
    · by_cases e2 : k = m
      · rw [if_neg e1] at hb; rw [if_pos e2] at hb2
        exact h.dist l k h5 hk (Ne.symm e1) b hb (h2 b hb2)
      · rw [if_neg e1] at hb; rw [if_neg e2] at hb2
        exact h.dist l m h5 h6 hlm b hb hb2
end
end Go.K

/- The search's state in memory, and the colours inside the search. -/
namespace Go.K
open Rep
def colP (C : Nat → Nat) : Nat → Nat := fun b => if C b = 3 ∨ C b = 4 ∨ C b = 5 then C b else if C b = 0 then 0 else 1
def outP (n : Nat) (C C' : Nat → Nat) : Nat → Nat := fun b => if b < n then C b else if C' b = 3 ∨ C' b = 4 ∨ C' b = 5 then C' b else 0
section
variable {α : Type} [Rep α] {w w' w0 : World} {C C' D : Nat → Nat} {I : List Nat} {e : TypeId} {v : Value} {ys : List α} {x : α} {us : List Value} {rows : List (List α)} {j b n : Nat} {o : Obj}
theorem colP_ne (C : Nat → Nat) (b : Nat) : colP C b ≠ 0 ↔ C b ≠ 0 := by unfold colP; split <;> (try split) <;> omega
theorem Mc_colP (C : Nat → Nat) : Mc (colP C) = Mc C := by funext b; exact propext (colP_ne C b)
theorem Lim.colP (h : Lim w C) : Lim w (K.colP C) := fun b hb => h b ((colP_ne C b).1 hb)
theorem colP_lt (C : Nat → Nat) (b : Nat) : colP C b < 6 := by unfold colP; split <;> (try split) <;> omega
theorem colP_at {j : Nat} (h : C b = j) (hj : j = 3 ∨ j = 4 ∨ j = 5) : colP C b = j := by unfold colP; rw [h, if_pos hj]
theorem OwnB.colP (h : OwnB w C j b o) (hj : j = 3 ∨ j = 4 ∨ j = 5) : OwnB w (K.colP C) j b o := ⟨colP_at h.col hj, h.at_⟩
theorem OwnL.colP (h : OwnL w C j e v ys) (hj : j = 3 ∨ j = 4 ∨ j = 5) : OwnL w (K.colP C) j e v ys := ⟨by rw [Mc_colP]; exact h.own, fun b hb => colP_at (h.col b hb) hj⟩
theorem RwS.colP (h : RwS w C j e us rows) (hj : j = 3 ∨ j = 4 ∨ j = 5) : RwS w (K.colP C) j e us rows := ⟨h.len, fun k h1 h2 => (h.own k h1 h2).colP hj, h.dist⟩
theorem Stp.outP (h : Stp [3, 4, 5, 6, 7] w (colP C) w' C') : Stp [3, 4, 5] w C w' (K.outP w.heap.size C C') :=
  ⟨h.ext.mono (fun b _ hc => by
    simp only [List.mem_cons, List.not_mem_nil, or_false] at hc ⊢
    unfold K.colP at hc
    split at hc <;> (try split at hc) <;> omega), fun b hb => by unfold K.outP; rw [if_pos hb]⟩
theorem outP_sub (h : Stp I w (colP C) w' C') (hF : Lim w C) : ∀ b, Mc (outP w.heap.size C C') b → Mc C' b := fun b hb => by
  unfold Mc outP at *
  by_cases hlt : b < w.heap.size
  · rw [if_pos hlt] at hb
    rw [h.col b hlt]; exact (colP_ne C b).2 hb
  · rw [if_neg hlt] at hb
    split at hb <;> omega
theorem outP_lim (h : Stp I w (colP C) w' C') (hF : Lim w C) (hF' : Lim w' C') : Lim w' (outP w.heap.size C C') := fun b hb => hF' b (outP_sub h hF b hb)
theorem outP_at (h : Stp I w (colP C) w' C') {j : Nat} (hj : j = 3 ∨ j = 4 ∨ j = 5) (hb : C' b = j) : outP w.heap.size C C' b = j := by
  unfold outP
  by_cases hlt : b < w.heap.size
  · rw [if_pos hlt]
    have h1 := h.col b hlt
    rw [hb] at h1
    unfold colP at h1
    split at h1
    · exact h1.symm
    · split at h1 <;> omega
  · rw [if_neg hlt, hb, if_pos hj]
theorem OwnB.outP (ho : OwnB w' C' j b o) (h : Stp I w (K.colP C) w' C') (hj : j = 3 ∨ j = 4 ∨ j = 5) : OwnB w' (K.outP w.heap.size C C') j b o := ⟨outP_at h hj ho.col, ho.at_⟩
theorem OwnL.outP (ho : OwnL w' C' j e v ys) (h : Stp I w (K.colP C) w' C') (hF : Lim w C) (hj : j = 3 ∨ j = 4 ∨ j = 5) : OwnL w' (K.outP w.heap.size C C') j e v ys :=
  ⟨ho.own.sub (fun b _ hb => outP_sub h hF b hb) (fun b hb => by unfold Mc; rw [outP_at h hj (ho.col b hb)]; omega), fun b hb => outP_at h hj (ho.col b hb)⟩
theorem RwS.outP (hr : RwS w' C' j e us rows) (h : Stp I w (K.colP C) w' C') (hF : Lim w C) (hj : j = 3 ∨ j = 4 ∨ j = 5) : RwS w' (K.outP w.heap.size C C') j e us rows := ⟨hr.len, fun k h1 h2 => (hr.own k h1 h2).outP h hF hj, hr.dist⟩
theorem RV.outP (hr : RV w' (Mc C') x v) (h : Stp I w (K.colP C) w' C') (hF : Lim w C) : RV w' (Mc (K.outP w.heap.size C C')) x v := hr.give (outP_sub h hF)
theorem RV.colP (hr : RV w (Mc C) x v) : RV w (Mc (K.colP C)) x v := by rw [Mc_colP]; exact hr
theorem ApM.colP {ds : List Dcs} (h : ApM w (Mc C) ds v) : ApM w (Mc (K.colP C)) ds v := by rw [Mc_colP]; exact h
theorem OwnL.fresh0 {xs : List Couple} (h : OwnL w' C' j e v xs) (hs : Stp [] w C0 w' C') (hj : j ≠ 0) (hF : Lim w D) (hl : xs.length ≤ 9223372036854775807) : RV w' (Mc D) xs v := by
  rcases h.own with ⟨rfl, rfl⟩ | ⟨g, cap, cs, hv, hg, hc, h1, h2, h3⟩
  · exact rv_nil
  · subst hv
    have hcol := h.col g rfl
    have hn : ¬ Mc D g := fun hD => by
      have := hs.col g (hF g hD)
      rw [hcol] at this
      exact hj this
    exact rv_list.2 ⟨_, cap, rfl, h1, hl, .inr ⟨g, 0, rfl, hn, cs, e, _, hc, by rw [Nat.zero_add, h2]; exact Nat.mul_le_mul_right _ h1, fun i hi => by rw [Nat.zero_add]; exact rep_couple.2 (rep_couple.1 (h3 i hi))⟩⟩
theorem OwnL.outR (ho : OwnL w' C' j e v ys) (h : Stp I w (K.colP C) w' C') (hF : Lim w C) (hj : 6 ≤ j) (hl : ys.length ≤ 9223372036854775807) : RV w' (Mc (K.outP w.heap.size C C')) ys v :=
  ho.own.read (fun b _ hb => ⟨outP_sub h hF b hb, fun hob => by
    have hc := ho.col b hob
    unfold Mc K.outP at hb
    by_cases hlt : b < w.heap.size
    · have := h.col b hlt; have h2 := colP_lt C b; omega
    · rw [if_neg hlt] at hb; split at hb <;> omega⟩) hl
end
def SAt (TS TL TF : Nat) (w : World) (C : Nat → Nat) (b : Nat) (vb vm vr : Value) (rows : List (List Couple)) (st : BestSt) : Prop :=
  ∃ vs us vbest, OwnB w C 3 b (.cells [vb, vm, vr, vs, .bool st.found, vbest, .int .i64 st.val].toArray TS) ∧ OwnL w C 4 TL vs (us.map Sv.mk) ∧ RwS w C 5 TF us rows ∧ RV w (Mc C) st.best vbest
section
variable {w w' : World} {C C' : Nat → Nat} {us : List Value} {rows : List (List Couple)} {TF : Nat}
theorem RwS.one (h : RwS w C 5 TF us rows) : ∀ k (hk : k < us.length), us[k].oneCell' = true := fun k hk => ((h.own k hk (by rw [← h.len]; exact hk)).one).2
end
end Go.K

/- Appending to a clone: a list of its own, or empty but not nil; what 'Decide' answers. -/
namespace Go.K
open Rep
section
variable {α : Type} [Rep α] {P : Program} {N : Nat} {env : Env} {w w' : World} {C C' C1 D : Nat → Nat} {I : List Nat} {t e : TypeId} {v s : Value} {x y z : Operand} {xs ys zs : List α} {j j1 n : Nat}
end
section
variable {α : Type} [Rep α] {w : World} {C : Nat → Nat} {P : Program} {f : FuncId} {N : Nat} {k : List Item} {R : Value → World → Prop} {Q : Exit → Act → World → Prop} {env : Env} {ops : Array Oper} {S : World → Prop} {i t : Nat} {L : List (Nat × Bool)} {v v2 : Value} {y z : Operand} {gd : Option (Nat × Bool)} {ty e e' : TypeId} {xs : List α} {j g : Nat} {kd : IntKind} {n : Int}
end
section
variable {α : Type} [Rep α] {w w' : World} {C C' : Nat → Nat} {I : List Nat} {e : TypeId} {v : Value} {ys : List α} {j : Nat}
end
end Go.K

/- One step of the search. Plain. -/
namespace Go.K
open Rep
theorem ApM.c0 {w : World} {M : Nat → Prop} {ds : List Dcs} {v : Value} (h : ApM w M ds v) : ApM w (Mc C0) ds v := h.sub (fun b hb => absurd rfl hb)
section
variable {l : List Bond} {ds : List Dcs} {rows : List (List Couple)} {refs : List Couple} {r : Couple} {i k : Nat} {st : BestSt} {C : Nat → Nat} {w : World} {us : List Value} {TF j : Nat} {xs : List Couple}
theorem okSet_any {s : List Couple} {r : Couple} : okSet ds s r = !(s.any fun x => barB ds x r) := rfl
theorem row_back (hk : k < rows.length) (hk2 : k < (rows.set k (rows[k] ++ [r])).length) {i : Int} (hi : i = (((rows.set k (rows[k] ++ [r]))[k]'hk2).length : Int) - 1) : (rows.set k (rows[k] ++ [r])).set k (((rows.set k (rows[k] ++ [r]))[k]'hk2).take i.toNat) = rows := by
  have e : (rows.set k (rows[k] ++ [r]))[k]'hk2 = rows[k] ++ [r] := by rw [List.getElem_set]; simp
  rw [e] at hi ⊢
  have : i.toNat = rows[k].length := by simp at hi; omega
  rw [this, List.set_set, List.take_left']
  · simp
  · rfl
theorem PI.rows_len (h : PI ds xs rows) : rows.length ≤ xs.length := by
  have := h.heads.length_le
  rwa [List.length_map] at this
theorem take_next (hi : i < refs.length) : refs.take (i + 1) = refs.take i ++ [refs[i]] := List.take_succ_eq_append_getElem hi
theorem placeK_yes (hk : k < rows.length) (h : okSet ds rows[k] r = true) (rs : List Couple) : placeK l ds r rs rows st (k + 1) = placeF l ds rs (rows.set k (rows[k] ++ [r])) (placeK l ds r rs rows st k) := by
  rw [placeK, getD_at hk, if_pos h]
theorem placeK_no (hk : k < rows.length) (h : okSet ds rows[k] r = false) (rs : List Couple) : placeK l ds r rs rows st (k + 1) = placeK l ds r rs rows st k := by
  rw [placeK, getD_at hk, if_neg (by rw [h]; decide)]
theorem PI.put' (h : PI ds (refs.take i) rows) (hi : i < refs.length) (hk : k < rows.length) (hok : okSet ds rows[k] refs[i] = true) : PI ds (refs.take (i + 1)) (rows.set k (rows[k] ++ [refs[i]])) := by
  rw [take_next hi]
  have := h.put hk (r := refs[i]) (by rw [getD_at hk]; exact hok)
  rwa [getD_at hk] at this
theorem PI.new' (h : PI ds (refs.take i) rows) (hi : i < refs.length) : PI ds (refs.take (i + 1)) (rows ++ [[refs[i]]]) := by
  rw [take_next hi]; exact h.new _
theorem RwS.popT {rows : List (List Couple)} (h : RwS w C j TF us (rows ++ [xs])) {n : Nat} (hn : n = rows.length) : RwS w C j TF (us.take n) rows := by
  have hl := h.len
  simp only [List.length_append, List.length_cons, List.length_nil] at hl
  have e : us = us.take n ++ [us[n]'(by omega)] := by
    rw [← List.take_succ_eq_append_getElem]
    exact (List.take_of_length_le (by omega)).symm
  rw [e] at h
  exact h.pop (by rw [List.length_take]; omega)
end
section
variable {α : Type} [Rep α] {w : World} {C : Nat → Nat} {P : Program} {f : FuncId} {N : Nat} {Q : Exit → Act → World → Prop} {env : Env} {ops : Array Oper} {S : World → Prop} {i t : Nat} {L : List (Nat × Bool)} {y z : Operand} {gd : Option (Nat × Bool)} {ty e e' : TypeId} {us : List Value} {rows : List (List α)} {j k : Nat} {kd : IntKind} {n : Int}
theorem RwS.cutY (h : RwS w C j e us rows) (hop : opAt ops i = some (some t, .slice ty y none (some z) none, gd)) (hw : wantedE ops env gd = some true) (ht : Nat.blt t N = true) (hk : k < us.length) (hk' : k < rows.length) (hy : ev env y = some us[k])
    (hf : elemB P ty = some (e', sz α)) (hz : ev env z = some (.int kd n)) (h0 : 0 ≤ n) (h1 : n ≤ rows[k].length) (hne : 0 < rows[k].length)
    (hn : ∀ v2, RwS w C j e (us.set k v2) (rows.set k (rows[k].take n.toNat)) → SchQ P N Q ops S L ((t, v2) :: env) w) : SchQ P N Q ops S ((i, true) :: L) env w := by
  obtain ⟨v2, h2, h3⟩ := h.cut (P := P) (N := N) hk hk' hy hf hz h0 h1 hne
  exact yS hop hw ht (fun w' _ => h3 w') (hn v2 h2)
end
end Go.K

/- A range over a function: regions that call yield, rounds, the statement. -/
namespace Go.K
open Rep Go.RowKit
def StD (N : Nat) (env : Env) (a : Act) : Prop := St N env { a with defers := [] }
theorem StD.of {N : Nat} {env : Env} {a : Act} (h : St N env a) : StD N env a := by
  obtain ⟨t, d⟩ := a
  have := h.defers
  simp only at this
  subst this; exact h
theorem StD.back {N : Nat} {env : Env} {a : Act} (h : StD N env a) (hd : a.defers = []) : St N env a := by
  obtain ⟨t, d⟩ := a
  simp only at hd
  subst hd; exact h
theorem StD.put {N : Nat} {env : Env} {a : Act} (h : StD N env a) {d : Option Nat} (hd : dOk N d = true) (v : Value) : StD N (putE d v env) (a.put d v) := by
  have := St.put h hd v
  cases d <;> exact this
theorem put_defers (a : Act) (d : Option Nat) (v : Value) : (a.put d v).defers = a.defers := by cases d <;> rfl
def WIn (F : Fence) (n : Nat) (P : Program) (N : Nat) (Q : Exit → Act → World → Prop) (ops : Array Oper) (D : List Deferred) (is : List Nat) (env : Env) (w : World) : Prop :=
  ∀ a, StD N env a → a.defers = D → wpOpsIn F n P ops Q is a w
section
variable {F : Fence} {n : Nat} {P : Program} {N : Nat} {Q : Exit → Act → World → Prop} {ops : Array Oper} {D : List Deferred} {is : List Nat} {env : Env} {w w' : World} {i t : Nat} {d : Option Nat} {op : Op} {v : Value}
theorem wi_nil (h : ∀ a, StD N env a → a.defers = D → Q .normal a w) : WIn F n P N Q ops D [] env w := h
theorem wi_act {T : Value → World → Prop} (hF : ∀ f, F.fn f) (hop : opAt ops i = some (d, op, none)) (hnd : ∀ c, op ≠ .defer c) (hd : dOk N d = true)
    (hy : Acts P N env op w T) (h : ∀ v w', T v w' → WIn F n P N Q ops D is (putE d v env) w') : WIn F n P N Q ops D (i :: is) env w := fun a ha hD => by
  obtain ⟨o, ho, rfl, rfl, hg⟩ := opAt_spec hop
  obtain ⟨v, w', hrun, hT⟩ := hy _ ha o rfl
  have e : execOp a.eval o = execOp ({ a with defers := [] } : Act).eval o := rfl
  simp only [wpOpsIn, ho, Region.wanted, hg, if_true]
  unfold Oper.wpIn
  rw [Oper.semAt_eq _ _ _ hnd, e]
  refine ⟨fun f _ => hF f, ?_⟩
  rcases hrun with hrun | ⟨hrun, rfl⟩
  · rw [hrun]; exact h v w' hT _ (ha.put hd v) (by rw [put_defers]; exact hD)
  · rw [hrun]; exact h undef w' hT _ (ha.put hd undef) (by rw [put_defers]; exact hD)
theorem wi_val (hF : ∀ f, F.fn f) (hop : opAt ops i = some (some t, op, none)) (hnd : ∀ c, op ≠ .defer c) (ht : Nat.blt t N = true)
    (hv : Val P N env op w v) (h : WIn F n P N Q ops D is ((t, v) :: env) w) : WIn F n P N Q ops D (i :: is) env w :=
  wi_act hF hop hnd ht (T := fun u w' => u = v ∧ w' = w) (fun a ha o ho => ⟨v, w, .inl (hv a ha o ho), rfl, rfl⟩) (fun u w' hT => by obtain ⟨rfl, rfl⟩ := hT; exact h)
theorem wi_yield {l : Nat} {y z : Operand} {tys : Array TypeId} {zv : Value} {T : Ending → World → Prop} (hF : ∀ f, F.fn f) (hdep : F.depth = none) (hop : opAt ops i = some (some t, .call { callee := .value y, args := #[z], argTypes := tys }, none)) (ht : Nat.blt t N = true)
    (hy : ev env y = some (.func (.yield l) #[] #[])) (hz : ev env z = some zv) (hY : YieldAt F (n - 1) P l #[zv] w T)
    (h : ∀ e w', T e w' → ∃ v, e = .returned v ∧ WIn F n P N Q ops D is ((t, v) :: env) w') : WIn F n P N Q ops D (i :: is) env w := fun a ha hD => by
  obtain ⟨o, ho, hd1, hop1, hg⟩ := opAt_spec hop
  obtain ⟨fn, tmps, assign, body, hrun, hround⟩ := hY
  have e : execOp a.eval o = execOp ({ a with defers := [] } : Act).eval o := rfl
  have hy' := St.ev ha hy; have hz' := St.ev ha hz
  have hex : (execOp ({ a with defers := [] } : Act).eval o).run P w = .ok (.round l fn tmps assign body) w := by
    unfold execOp; rw [hop1]
    simp [hy', hz', resolve, invoke, Deferred.ofValue, Sem.run_bind, Sem.run_pure, Result.andThen, hrun]
  simp only [wpOpsIn, ho, Region.wanted, hg, if_true]
  unfold Oper.wpIn
  rw [Oper.semAt_eq _ _ _ (by rw [hop1]; intro c e; cases e), e, hex]
  refine ⟨fun f _ => hF f, (fun hs => by rw [hdep] at hs; cases hs), hround.mono fun e w' hT => ?_⟩
  obtain ⟨v, rfl, hW⟩ := h e w' hT
  rw [hd1]
  exact hW _ (ha.put (d := some t) ht v) (by rw [put_defers]; exact hD)
end
section
variable {P : Program} {f : FuncId} {N : Nat} {k : List Item} {env : Env} {w : World} {R : Value → World → Prop}
theorem run_plW {c : Code} (n : Nat) (h : WIn Fence.wide n P N (QK P f k R) (rops c) [] (List.range (rops c).size) env w) (hc : isReg c false = true := by kernel_rfl) : Run P f N (.code c :: k) env w R := fun a ha => by
  obtain ⟨id, e⟩ := isReg_eq hc
  rw [e]
  exact runs_of_wp (wpIn_wide.1 (wpIn_region (h a (.of ha) ha.defers)))
theorem wi_end {n : Nat} {ops : Array Oper} (h : Run P f N k env w R) : WIn Fence.wide n P N (QK P f k R) ops [] [] env w := fun a ha hd => h a (ha.back hd)
end
def isRf (c : Code) (t : Nat) : Bool := match c with | .rangeFunc (.tmp j) _ _ _ => Nat.beq j t | _ => false
def rfP (c : Code) : Array Tmp := match c with | .rangeFunc _ ps _ _ => ps | _ => #[]
def rfA (c : Code) : Code := match c with | .rangeFunc _ _ a _ => a | _ => .skip
def rfB (c : Code) : Code := match c with | .rangeFunc _ _ _ b => b | _ => .skip
theorem isRf_eq {c : Code} {t : Nat} (h : isRf c t = true) : c = .rangeFunc (.tmp t) (rfP c) (rfA c) (rfB c) := by
  cases c with
  | rangeFunc g ps a b => cases g with
    | tmp j => simp only [isRf] at h; rw [Nat.eq_of_beq_eq_true h]; rfl
    | _ => cases h
  | _ => cases h
def Turn (n0 : Nat) (A B : World) : Prop := ∃ l o o', n0 ≤ l ∧ A.heap[l]? = some o ∧ o.isCells = false ∧ B = A.putObj l o'
def KO (n0 : Nat) (A B : World) : Prop := ∀ b o, n0 ≤ b → A.heap[b]? = some o → o.isCells = false → B.heap[b]? = some o
theorem lt_at {W : World} {b : Nat} {o : Obj} (h : W.heap[b]? = some o) : b < W.heap.size := (Array.getElem?_eq_some_iff.1 h).1
theorem at_alloc {W : World} {b : Nat} {o o' : Obj} (h : W.heap[b]? = some o) : (W.alloc o').heap[b]? = some o := (Below.heap_alloc W o' b (lt_at h)).trans h
theorem at_ext {A B : World} {b : Nat} {o : Obj} (h : A.heap[b]? = some o) (hE : Ext No A B) : B.heap[b]? = some o := (hE.block b (lt_at h) (fun h => h)).trans h
theorem at_put {W : World} {l b : Nat} {o o' : Obj} (h : W.heap[b]? = some o) (hne : b ≠ l) : (W.putObj l o').heap[b]? = some o := (World.putObj_heap_other hne).trans h
theorem rf_all {P : Program} {n : Nat} {c : Code} {Q : Exit → Act → World → Prop} {a : Act} {w : World} {t gf : Nat} {lb : Array Value} {α : Type} {encs : α → Array Value} {xs : List α} {I : List α → World → Prop}
    (hc : isRf c t = true) (hev : a.eval (.tmp t) = .func (.func gf) #[] lb) (eg : ∀ args w, (callFunc gf args).run P w = .ok (.enter gf args) w) (hps : ∀ x, (encs x).size = (rfP c).size)
    (hIe : ∀ pre A B, I pre A → Ext No A B → I pre B) (hIt : ∀ pre A B, I pre A → Turn w.heap.size A B → I pre B) (h0 : I [] w)
    (hround : ∀ l k (hk : k < xs.length) A, I (xs.take k) A → (rfA c).wpIn (Fence.wide.inRound l) 0 P
      (Exit.then (fun a1 A1 => KO w.heap.size A A1 ∧ I (xs.take k) A1 ∧ ∀ A2, Turn w.heap.size A1 A2 → I (xs.take k) A2 → (rfB c).wpIn (Fence.wide.inRound l) 0 P (fun e _ A3 => e = .normal ∧ KO w.heap.size A2 A3 ∧ I (xs.take (k + 1)) A3) a1 A2) (fun _ _ _ => False))
      { tmps := ((rfP c).zip (encs xs[k])).foldl (fun t (p, v) => t.setIfInBounds p v) a.tmps, defers := [] } A)
    (hseq : ∀ l W1 (J : List α → World → Prop), (∀ pre A B, J pre A → Ext No A B → J pre B) → (∀ pre A, J pre A → I pre A) →
      (∀ k (hk : k < xs.length) A, J (xs.take k) A → YieldAt Fence.wide 0 P l (encs xs[k]) A (fun e W' => e = .returned (.bool true) ∧ J (xs.take (k + 1)) W')) → J [] W1 → Calls P gf (#[.func (.yield l) #[] #[]] ++ lb) W1 (Ret fun _ w' => J xs w'))
    (hdone : ∀ D W, w.heap.size ≤ D → I xs W → W.heap[D]? = some (.deferred (some [])) → Q .normal { a with defers := { target := .collected D, args := #[] } :: a.defers } W) : c.wpIn Fence.wide n P Q a w := by
  rw [isRf_eq hc]
  refine wpIn_rangeFunc fun fn _ => ?_
  obtain ⟨rec, hrec⟩ : ∃ rec : LoopState → Option Code → Loop, rec = fun st pe => { state := st, pending := pe, fn := fn, tmps := a.tmps, params := rfP c, assign := rfA c, body := rfB c, defers := w.heap.size } := ⟨_, rfl⟩
  obtain ⟨W1, hW1⟩ : ∃ W1, (w.alloc (.deferred (some []))).alloc (.loop (rec .ready none)) = W1 := ⟨_, rfl⟩
  have hL1 : W1.heap[w.heap.size + 1]? = some (.loop (rec .ready none)) := by
    rw [← hW1]; have := World.alloc_heap_new (w.alloc (.deferred (some []))) (.loop (rec .ready none)); rwa [World.size_alloc] at this
  have hK1 : W1.heap[w.heap.size]? = some (.deferred (some [])) := by
    rw [← hW1]; exact at_alloc (World.alloc_heap_new w _)
  have hI1 : I [] W1 := by rw [← hW1]; exact hIe _ _ _ (hIe _ _ _ h0 (new_alloc _ _).ext) (new_alloc _ _).ext
  obtain ⟨J, hJ⟩ : ∃ J : List α → World → Prop, J = fun pre W => I pre W ∧ W.heap[w.heap.size + 1]? = some (.loop (rec .ready none)) ∧ W.heap[w.heap.size]? = some (.deferred (some [])) := ⟨_, rfl⟩
  have hJd : ∀ pre A, J pre A ↔ (I pre A ∧ A.heap[w.heap.size + 1]? = some (.loop (rec .ready none)) ∧ A.heap[w.heap.size]? = some (.deferred (some []))) := fun pre A => by rw [hJ]
  have hyield : ∀ k (hk : k < xs.length) A, J (xs.take k) A → YieldAt Fence.wide 0 P (w.heap.size + 1) (encs xs[k]) A (fun e W' => e = .returned (.bool true) ∧ J (xs.take (k + 1)) W') := fun k hk A h => by
    obtain ⟨hi, hl, hkk⟩ := (hJd _ _).1 h
    have hy := run_yield (P := P) (args := encs xs[k]) hl (by rw [hrec]; exact hps _)
    have e1 : (rec .ready none).fn = fn ∧ (rec .ready none).tmps = a.tmps ∧ (rec .ready none).params = rfP c ∧ (rec .ready none).assign = rfA c ∧ (rec .ready none).body = rfB c := by rw [hrec]; exact ⟨rfl, rfl, rfl, rfl, rfl⟩
    rw [e1.1, e1.2.1, e1.2.2.1, e1.2.2.2.1, e1.2.2.2.2] at hy
    refine ⟨fn, _, rfA c, rfB c, hy, roundIn_of_wpIn (n := 0) trivial (wpIn_mono (hround (w.heap.size + 1) k hk A hi) ?_)⟩
    intro e a1 A1 hq
    cases e with
    | normal =>
      obtain ⟨hko, hi1, hbody⟩ := hq
      have hl1 := hko _ _ (by omega) hl rfl
      have hk1 := hko _ _ (Nat.le_refl _) hkk rfl
      obtain ⟨o2, ho2⟩ : ∃ o2 : Loop, o2 = { rec .ready none with state := .busy } := ⟨_, rfl⟩
      have hbr := run_beginRound (P := P) hl1 (by rw [hrec])
      rw [← ho2] at hbr
      refine ⟨_, hbr, ?_⟩
      have hT : Turn w.heap.size A1 (A1.putObj (w.heap.size + 1) (.loop o2)) := ⟨_, _, _, by omega, hl1, rfl, rfl⟩
      have hl2 : (A1.putObj (w.heap.size + 1) (.loop o2)).heap[w.heap.size + 1]? = some (.loop o2) := World.putObj_heap_same (lt_at hl1)
      have hk2 := at_put (o' := .loop o2) hk1 (show w.heap.size ≠ w.heap.size + 1 by omega)
      refine wpIn_mono (hbody _ hT (hIt _ _ _ hi1 hT)) ?_
      intro e a3 A3 hp
      obtain ⟨rfl, hko3, hi3⟩ := hp
      have hl3 := hko3 _ _ (by omega) hl2 rfl
      have hk3 := hko3 _ _ (Nat.le_refl _) hk2 rfl
      have hend := run_endRound (P := P) none hl3
      have e3 : ({ o2 with state := if (none : Option Code).isNone then .ready else .done, pending := none } : Loop) = rec .ready none := by rw [ho2, hrec]; rfl
      rw [e3] at hend
      refine ⟨_, _, hend, rfl, (hJd _ _).2 ⟨hIt _ _ _ hi3 ⟨_, _, _, by omega, hl3, rfl, rfl⟩, World.putObj_heap_same (lt_at hl3), at_put hk3 (by omega)⟩⟩
    | exit id => exact hq.elim
    | ret => exact hq.elim
    | goto t => exact hq.elim
    | panic ch => exact hq.elim
    | outgrown => exact hq.elim
  have hcall := hseq (w.heap.size + 1) W1 J (fun pre A B h hE => (hJd _ _).2 ⟨hIe _ _ _ ((hJd _ _).1 h).1 hE, at_ext ((hJd _ _).1 h).2.1 hE, at_ext ((hJd _ _).1 h).2.2 hE⟩) (fun pre A h => ((hJd _ _).1 h).1) hyield ((hJd _ _).2 ⟨hI1, hL1, hK1⟩)
  refine ⟨w.heap.size + 1, [{ target := .collected w.heap.size, args := #[] }], W1, { target := .fn (.func gf) lb, args := #[.func (.yield (w.heap.size + 1)) #[] #[]] }, W1, gf,
    #[.func (.yield (w.heap.size + 1)) #[] #[]] ++ lb, W1, ?_, ?_, ?_, ?_, ?_, ?_⟩
  · rw [← hW1, hrec]; exact run_enterLoop_outer _ _ _ _ _
  · simp only [resolve, hev]; simp [go_sem]
  · intro _ _; trivial
  · simp [invoke, go_sem, eg]
  · intro h; simp [Fence.wide] at h
  · refine callsIn_wide.2 (hcall.mono ?_)
    rintro e W2 ⟨v, rfl, hj⟩
    obtain ⟨hi, hl, hk⟩ := (hJd _ _).1 hj
    have := run_endLoop (P := P) hl (by rw [hrec]; simp)
    rw [hrec] at this
    exact ⟨none, _, this, hdone _ _ (Nat.le_refl _) (hIt _ _ _ hi ⟨_, _, _, by omega, hl, rfl, rfl⟩) (at_put hk (by omega))⟩
end Go.K

/- What a loop over a function collects. -/
namespace Go.K
open Rep Go.RowKit
section
variable {F : Fence} {n : Nat} {P : Program} {N : Nat} {Q : Exit → Act → World → Prop} {D : List Deferred} {env : Env} {w : World} {a : Act} {c : Code}
theorem wi_sq (h : (cl c).wpIn F n P (Exit.then ((cr c).wpIn F n P Q) Q) a w) (hc : isSq c = true := by kernel_rfl) : c.wpIn F n P Q a w := by
  have e : c = .seq (cl c) (cr c) := by cases c with | seq a b => rfl | _ => cases hc
  rw [e]; exact wpIn_seq h
theorem wi_bk (id : Nat) (h : (cl c).wpIn F n P (Exit.inBlock id Q) a w) (hc : isBk c id = true := by kernel_rfl) : c.wpIn F n P Q a w := by
  have e : c = .block id (cl c) := by cases c with | block a b => simp only [isBk] at hc; rw [Nat.eq_of_beq_eq_true hc]; rfl | _ => cases hc
  rw [e]; exact wpIn_block h
theorem wi_reg (ha : StD N env a) (hD : a.defers = D) (h : WIn F n P N Q (rops c) D (List.range (rops c).size) env w) (hc : isReg c false = true := by kernel_rfl) : c.wpIn F n P Q a w := by
  obtain ⟨id, e⟩ := isReg_eq hc
  rw [e]
  exact wpIn_region (h a ha hD)
def isRt (c : Code) : Bool := match c with | .ret => true | _ => false
theorem wi_rt (h : Q .ret a w) (hc : isRt c = true := by kernel_rfl) : c.wpIn F n P Q a w := by
  have e : c = .ret := by cases c with | ret => rfl | _ => cases hc
  rw [e]; exact wpIn_ret h
end
theorem callsW_start {P : Program} {f : FuncId} {fn : Func} {c : Code} (args : List Value) {N n : Nat} {w : World} {R : Value → World → Prop}
    (hf : P.funcs[f]? = some fn) (hb : fn.body = some c) (hN : fn.ntmps = N) (hsz : Nat.ble args.length N = true)
    (h : ∀ a, StD N (argEnv 0 args) a → a.defers = [] → c.wpIn Fence.wide n P (bodyPostM Fence.wide n P fn (Ret R)) a w) : Calls P f args.toArray w (Ret R) := by
  refine callsIn_wide.1 (callsIn_of_wp_marks (n := n) hf hb trivial (h _ ⟨?_, rfl, fun t v ht => ?_⟩ rfl) rfl)
  · have := Nat.le_of_ble_eq_true hsz
    simp [hN]; omega
  · have h1 := (look_argEnv args 0 t v ht).2
    simp only [Nat.sub_zero] at h1
    have h2 : t < args.length := by
      rcases Nat.lt_or_ge t args.length with h | h
      · exact h
      · rw [List.getElem?_eq_none h] at h1; cases h1
    simp only
    rw [Array.getElem?_append_left (by simpa using h2)]
    simpa using h1
theorem StD.ev {N : Nat} {env : Env} {a : Act} (h : StD N env a) {x : Operand} {v : Value} (hx : K.ev env x = some v) : a.eval x = v := by
  have := St.ev h hx
  cases x <;> exact this
theorem StD.yield {N : Nat} {env : Env} {a : Act} (h : StD N env a) {t : Nat} (ht : Nat.blt t N = true) (v : Value) : StD N ((t, v) :: env) { tmps := ((#[t] : Array Tmp).zip #[v]).foldl (fun t (p, v) => t.setIfInBounds p v) a.tmps, defers := [] } := by
  have := StD.put h (d := some t) ht v
  unfold StD at this ⊢
  simpa [Act.put, putE] using this
def kol (bo : Nat) (v : Value) : Nat → Nat := fun b => if b = bo then 2 else if v.ownBlock = some b then 5 else 0
def AS (TL TF : Nat) (w₀ : World) (n1 bo : Nat) (pre : List Couple) (W : World) : Prop :=
  ∃ v, Ext No w₀ W ∧ W.heap[bo]? = some (.cells [v].toArray TL) ∧ OwnL W (kol bo v) 5 TF v pre ∧ ∀ b, Ob v b → n1 ≤ b
section
variable {w w' w₀ W A B : World} {C C' : Nat → Nat} {j j' e TL TF n0 n1 bo : Nat} {v : Value} {ys pre : List Couple}
theorem OwnL.any (h : OwnL W C j e v ys) (hh : ∀ b, Ob v b → w'.heap[b]? = W.heap[b]?) (hc : ∀ b, Ob v b → C' b = j') (hj : j' ≠ 0) : OwnL w' C' j' e v ys := by
  refine ⟨?_, hc⟩
  rcases h.own with ⟨rfl, rfl⟩ | ⟨g, cap, cs, hv, hM, hcs, h1, h2, h3⟩
  · exact .inl ⟨rfl, rfl⟩
  · subst hv
    exact .inr ⟨g, cap, cs, rfl, by unfold Mc; rw [hc g rfl]; exact hj, (hh g rfl).trans hcs, h1, h2, fun i hi => rep_couple.2 (rep_couple.1 (h3 i hi))⟩
theorem OwnL.cells (h : OwnL W C j e v ys) {b : Nat} (hb : Ob v b) : ∃ cs, W.heap[b]? = some (.cells cs e) := by
  rcases h.own with ⟨rfl, rfl⟩ | ⟨g, cap, cs, hv, hM, hcs, h1, h2, h3⟩
  · cases hb
  · subst hv
    cases hb
    exact ⟨cs, hcs⟩
theorem ext_put {l : Nat} {o : Obj} (h : Ext No w₀ A) (hl : w₀.heap.size ≤ l) : Ext No w₀ (A.putObj l o) :=
  ⟨h.os, h.tape, h.output, by simpa using h.size, fun b hb hn => (World.putObj_heap_other (by omega)).trans (h.block b hb hn), h.drawn⟩
theorem AS.ext (h : AS TL TF w₀ n1 bo pre A) (hE : Ext No A B) : AS TL TF w₀ n1 bo pre B := by
  obtain ⟨v, h1, h2, h3, h4⟩ := h
  exact ⟨v, h1.trans hE (fun _ _ h => h), at_ext h2 hE, h3.any (fun b hb => hE.block b (h3.own.ob b hb).2 (fun h => h)) h3.col (by decide), h4⟩
theorem AS.turn (h : AS TL TF w₀ n1 bo pre A) (hn : w₀.heap.size ≤ n0) (hT : Turn n0 A B) : AS TL TF w₀ n1 bo pre B := by
  obtain ⟨v, h1, h2, h3, h4⟩ := h
  obtain ⟨l, o, o', hl, ho, hc, rfl⟩ := hT
  refine ⟨v, ext_put h1 (by omega), at_put h2 (fun e => ?_), h3.any (fun b hb => World.putObj_heap_other (fun e => ?_)) h3.col (by decide), h4⟩
  · subst e; rw [h2] at ho; cases ho; cases hc
  · subst e
    obtain ⟨cs, hcs⟩ := h3.cells hb
    rw [hcs] at ho; cases ho; cases hc
theorem AS.lim {v : Value} (h2 : W.heap[bo]? = some (.cells [v].toArray TL)) (h3 : OwnL W (kol bo v) 5 TF v pre) : Lim W (kol bo v) := fun b hb => by
  unfold kol at hb
  split at hb
  · rename_i e; subst e; exact lt_at h2
  · split at hb
    · rename_i e; exact (h3.own.ob b e).2
    · exact absurd rfl hb
theorem AS.close {v v' : Value} {C' : Nat → Nat} {ys : List Couple} (h1 : Ext No w₀ A) (h2 : A.heap[bo]? = some (.cells [v].toArray TL)) (h3 : OwnL A (kol bo v) 5 TF v pre) (h4 : ∀ b, Ob v b → n1 ≤ b) (hbo : w₀.heap.size ≤ bo) (hn : w₀.heap.size ≤ n1) (hA : n1 ≤ A.heap.size)
    (hs : Stp [2, 5] A (kol bo v) B C') (g2 : OwnB B C' 2 bo (.cells [v'].toArray TL)) (g3 : OwnL B C' 5 TF v' ys) : KO n0 A B ∧ AS TL TF w₀ n1 bo ys B := by
  have hkol : ∀ b, kol bo v b ∈ [2, 5] → b = bo ∨ Ob v b := fun b hb => by
    unfold kol at hb
    split at hb
    · left; assumption
    · split at hb
      · right; assumption
      · simp at hb
  refine ⟨fun b o hb ho hc => (hs.ext.block b (lt_at ho) (fun hm => ?_)).trans ho, v', ⟨hs.ext.os.trans h1.os, hs.ext.tape.trans h1.tape, hs.ext.output.trans h1.output, Nat.le_trans h1.size hs.ext.size, fun b hb _ => ?_, ((Ext.mono (A' := fun b => kol bo v b ∈ [2, 5]) h1 (fun b _ hb => hb.elim)).trans hs.ext (fun b _ h => h) |>.drawn)⟩, g2.at_, g3.any (fun _ _ => rfl) (fun b hb => ?_) (by decide), fun b hb => ?_⟩
  · rcases hkol b hm with rfl | h
    · rw [h2] at ho; cases ho; cases hc
    · obtain ⟨cs, hcs⟩ := h3.cells h
      rw [hcs] at ho; cases ho; cases hc
  · refine (hs.ext.block b (Nat.lt_of_lt_of_le hb h1.size) (fun hm => ?_)).trans (h1.block b hb (fun h => h))
    rcases hkol b hm with rfl | h
    · omega
    · have := h4 b h; omega
  · have := g3.col b hb
    unfold kol
    rw [if_neg (fun e => by subst e; rw [g2.col] at this; cases this), if_pos (show v'.ownBlock = some b from hb)]
  · have hc := g3.col b hb
    rcases Nat.lt_or_ge b A.heap.size with hlt | hge
    · rw [hs.col b hlt] at hc
      rcases hkol b (by rw [hc]; simp) with rfl | h
      · have := g2.col; rw [hs.col b hlt] at this; omega
      · exact h4 b h
    · omega
end
end Go.K

/- Merging in place: what swapRange, rotate and symMerge do to places; stable sorting by blocks. Plain. -/
namespace Go.K
open Rep
section
variable {α : Type} {ys zs us : List α} {σ τ ρ : Nat → Nat} {a b m i j k n x s r d : Nat} {c : α → α → Int} {P : α → Prop} {T : Nat → Nat → Prop}
theorem PL.comp (h : PL ys σ zs) (h' : PL zs τ us) : PL ys (fun i => σ (τ i)) us :=
  ⟨by rw [h'.len, h.len], fun i hi => by
    have h1 := h'.at_ i (by rw [h.len]; exact hi)
    have h2 := h.at_ (τ i) (by rw [← h.len]; exact h1.1)
    exact ⟨h2.1, h1.2.trans h2.2⟩⟩
theorem PL.congr (h : PL ys σ zs) (e : ∀ x, σ x = τ x) : PL ys τ zs := (funext e : σ = τ) ▸ h
def swR (a b k : Nat) : Nat → Nat := fun x => if a ≤ x ∧ x < a + k then x - a + b else if b ≤ x ∧ x < b + k then x - b + a else x
theorem swR_1 (h : a ≤ x) (h2 : x < a + k) : swR a b k x = x - a + b := by unfold swR; rw [if_pos ⟨h, h2⟩]
theorem swR_2 (h : b ≤ x) (h2 : x < b + k) (h3 : a + k ≤ b) : swR a b k x = x - b + a := by unfold swR; rw [if_neg (by omega), if_pos ⟨h, h2⟩]
theorem swR_3 (h : ¬ (a ≤ x ∧ x < a + k)) (h2 : ¬ (b ≤ x ∧ x < b + k)) : swR a b k x = x := by unfold swR; rw [if_neg h, if_neg h2]
theorem swR_zero : swR a b 0 x = x := swR_3 (by omega) (by omega)
theorem swR_step (h : a + k < b) : swF (swR a b k) (a + k) (b + k) x = swR a b (k + 1) x := by
  unfold swF
  by_cases e1 : x = a + k
  · rw [if_pos e1, swR_3 (by omega) (by omega), swR_1 (by omega) (by omega)]; omega
  · rw [if_neg e1]
    by_cases e2 : x = b + k
    · rw [if_pos e2, swR_3 (by omega) (by omega), swR_2 (by omega) (by omega) (by omega)]; omega
    · rw [if_neg e2]
      by_cases e3 : a ≤ x ∧ x < a + k
      · rw [swR_1 e3.1 e3.2, swR_1 e3.1 (by omega)]
      · by_cases e4 : b ≤ x ∧ x < b + k
        · rw [swR_2 e4.1 e4.2 (by omega), swR_2 e4.1 (by omega) (by omega)]
        · rw [swR_3 e3 e4, swR_3 (by omega) (by omega)]
def ro (a m b : Nat) : Nat → Nat := fun x => if a ≤ x ∧ x < a + (b - m) then x + (m - a) else if a + (b - m) ≤ x ∧ x < b then x - (b - m) else x
theorem ro_1 (h : a ≤ x) (h2 : x < a + (b - m)) : ro a m b x = x + (m - a) := by unfold ro; rw [if_pos ⟨h, h2⟩]
theorem ro_2 (h : a + (b - m) ≤ x) (h2 : x < b) : ro a m b x = x - (b - m) := by unfold ro; rw [if_neg (by omega), if_pos ⟨h, h2⟩]
theorem ro_3 (h : ¬ (a ≤ x ∧ x < b)) (hm : a ≤ m) (h2 : m ≤ b) : ro a m b x = x := by unfold ro; rw [if_neg (by omega), if_neg (by omega)]
theorem ro_id (h : a ≤ m) (h2 : m ≤ b) (h3 : a = m ∨ m = b) : ro a m b x = x := by
  by_cases e : a ≤ x ∧ x < b
  · by_cases e2 : x < a + (b - m)
    · rw [ro_1 e.1 e2]; omega
    · rw [ro_2 (by omega) e.2]; omega
  · exact ro_3 e h h2
theorem ro_within (h : a ≤ m) (h2 : m ≤ b) : Within (ro a m b) a b := by
  refine ⟨fun i hi => ro_3 hi h h2, fun i h3 h4 => ?_, fun i j e => ?_⟩
  · by_cases e2 : i < a + (b - m)
    · rw [ro_1 h3 e2]; omega
    · rw [ro_2 (by omega) h4]; omega
  · have hx : ∀ x, (a ≤ x ∧ x < a + (b - m) ∧ ro a m b x = x + (m - a)) ∨ (a + (b - m) ≤ x ∧ x < b ∧ ro a m b x = x - (b - m)) ∨ (¬ (a ≤ x ∧ x < b) ∧ ro a m b x = x) := fun x => by
      by_cases e : a ≤ x ∧ x < b
      · by_cases e2 : x < a + (b - m)
        · exact .inl ⟨e.1, e2, ro_1 e.1 e2⟩
        · exact .inr (.inl ⟨by omega, e.2, ro_2 (by omega) e.2⟩)
      · exact .inr (.inr ⟨e, ro_3 e h h2⟩)
    have h5 := hx i; have h6 := hx j
    omega
theorem rot_more (hj : j < i) (hi : i ≤ m) : swR (m - i) m j (ro (m - i + j) m (m + j) x) = ro (m - i) m (m + j) x := by
  by_cases e1 : m - i ≤ x ∧ x < m - i + j
  · rw [ro_1 (a := m - i) e1.1 (by omega), ro_3 (by omega) (by omega) (by omega), swR_1 e1.1 e1.2]; omega
  · by_cases e2 : m - i + j ≤ x ∧ x < m + j
    · rw [ro_2 (a := m - i) (by omega) e2.2]
      by_cases e3 : x < m - i + j + j
      · rw [ro_1 e2.1 (by omega), swR_2 (by omega) (by omega) (by omega)]; omega
      · rw [ro_2 (by omega) e2.2, swR_3 (by omega) (by omega)]
    · rw [ro_3 (a := m - i + j) (by omega) (by omega) (by omega), ro_3 (a := m - i) (by omega) (by omega) (by omega), swR_3 (by omega) (by omega)]
theorem rot_less (hj : i < j) (hi : i ≤ m) : swR (m - i) (m + j - i) i (ro (m - i) m (m + (j - i)) x) = ro (m - i) m (m + j) x := by
  by_cases e1 : m - i ≤ x ∧ x < m - i + j
  · rw [ro_1 (b := m + j) e1.1 (by omega)]
    by_cases e2 : x < m - i + (j - i)
    · rw [ro_1 e1.1 (by omega), swR_3 (by omega) (by omega)]
    · rw [ro_2 (by omega) (by omega), swR_1 (by omega) (by omega)]; omega
  · by_cases e2 : m - i + j ≤ x ∧ x < m + j
    · rw [ro_2 (b := m + j) (by omega) e2.2, ro_3 (by omega) (by omega) (by omega), swR_2 (by omega) (by omega) (by omega)]; omega
    · rw [ro_3 (b := m + (j - i)) (by omega) (by omega) (by omega), ro_3 (b := m + j) (by omega) (by omega) (by omega), swR_3 (by omega) (by omega)]
theorem rot_same (hi : i ≤ m) : swR (m - i) m i x = ro (m - i) m (m + i) x := by
  by_cases e1 : m - i ≤ x ∧ x < m
  · rw [swR_1 e1.1 (by omega), ro_1 e1.1 (by omega)]; omega
  · by_cases e2 : m ≤ x ∧ x < m + i
    · rw [swR_2 e2.1 e2.2 (by omega), ro_2 (by omega) e2.2]; omega
    · rw [swR_3 (by omega) (by omega), ro_3 (by omega) (by omega) (by omega)]
structure RotI (zs us : List α) (a m b i j : Nat) : Prop where
  ex : ∃ τ, PL zs τ us ∧ ∀ x, τ (ro (m - i) m (m + j) x) = ro a m b x
  b1 : 1 ≤ i ∧ i ≤ m - a
  b2 : 1 ≤ j ∧ j ≤ b - m
theorem RotI.start (h1 : a < m) (h2 : m < b) : RotI zs zs a m b (m - a) (b - m) := by
  refine ⟨⟨fun x => x, PL.id _, fun x => ?_⟩, by omega, by omega⟩
  rw [show m - (m - a) = a by omega, show m + (b - m) = b by omega]
theorem RotI.more {vs : List α} (h : RotI zs us a m b i j) (hj : j < i) (hv : PL us (swR (m - i) m j) vs) : RotI zs vs a m b (i - j) j := by
  obtain ⟨⟨τ, h1, h2⟩, h3, h4⟩ := h
  refine ⟨⟨_, h1.comp hv, fun x => ?_⟩, by omega, h4⟩
  rw [show m - (i - j) = m - i + j by omega, rot_more hj (by omega)]
  exact h2 x
theorem RotI.less {vs : List α} (h : RotI zs us a m b i j) (hj : i < j) (hv : PL us (swR (m - i) (m + j - i) i) vs) : RotI zs vs a m b i (j - i) := by
  obtain ⟨⟨τ, h1, h2⟩, h3, h4⟩ := h
  refine ⟨⟨_, h1.comp hv, fun x => ?_⟩, h3, by omega⟩
  show τ (swR (m - i) (m + j - i) i (ro (m - i) m (m + (j - i)) x)) = _
  rw [rot_less hj (by omega)]
  exact h2 x
theorem RotI.done {vs : List α} (h : RotI zs us a m b i i) (hv : PL us (swR (m - i) m i) vs) : PL zs (ro a m b) vs := by
  obtain ⟨⟨τ, h1, h2⟩, h3, h4⟩ := h
  refine (h1.comp hv).congr fun x => ?_
  show τ (swR (m - i) m i x) = _
  rw [rot_same (by omega)]
  exact h2 x
def shU (a k : Nat) : Nat → Nat := fun x => if a ≤ x ∧ x < k then x + 1 else if x = k then a else x
def shD (m k : Nat) : Nat → Nat := fun x => if x = k then m else if k < x ∧ x ≤ m then x - 1 else x
theorem shU_1 (h : a ≤ x) (h2 : x < k) : shU a k x = x + 1 := by unfold shU; rw [if_pos ⟨h, h2⟩]
theorem shU_2 : shU a k k = a := by unfold shU; rw [if_neg (by omega), if_pos rfl]
theorem shU_3 (h : x < a ∨ k < x) (hk : a ≤ k) : shU a k x = x := by unfold shU; rw [if_neg (by omega), if_neg (by omega)]
theorem shD_1 : shD m k k = m := by unfold shD; rw [if_pos rfl]
theorem shD_2 (h : k < x) (h2 : x ≤ m) : shD m k x = x - 1 := by unfold shD; rw [if_neg (by omega), if_pos ⟨h, h2⟩]
theorem shD_3 (h : x < k ∨ m < x) (hk : k ≤ m) : shD m k x = x := by unfold shD; rw [if_neg (by omega), if_neg (by omega)]
theorem shU_zero : shU a a x = x := by
  by_cases e : x = a
  · rw [e, shU_2]
  · exact shU_3 (by omega) (Nat.le_refl _)
theorem shD_zero : shD m m x = x := by
  by_cases e : x = m
  · rw [e, shD_1]
  · exact shD_3 (by omega) (Nat.le_refl _)
theorem shU_step (h : a ≤ k) : swF (fun x => σ (shU a k x)) k (k + 1) x = σ (shU a (k + 1) x) := by
  unfold swF
  by_cases e1 : x = k
  · rw [if_pos e1, e1]; show σ (shU a k (k + 1)) = _; rw [shU_3 (by omega) h, shU_1 (by omega) (by omega)]
  · rw [if_neg e1]
    by_cases e2 : x = k + 1
    · rw [if_pos e2, e2]; show σ (shU a k k) = _; rw [shU_2, shU_2]
    · rw [if_neg e2]
      show σ (shU a k x) = _
      by_cases e3 : a ≤ x ∧ x < k
      · rw [shU_1 e3.1 e3.2, shU_1 e3.1 (by omega)]
      · rw [shU_3 (by omega) h, shU_3 (by omega) (by omega)]
theorem shD_step (h : k ≤ m) (h1 : 1 ≤ k) : swF (fun x => σ (shD m k x)) k (k - 1) x = σ (shD m (k - 1) x) := by
  unfold swF
  by_cases e1 : x = k
  · rw [if_pos e1, e1]; show σ (shD m k (k - 1)) = _; rw [shD_3 (by omega) h, shD_2 (by omega) h]
  · rw [if_neg e1]
    by_cases e2 : x = k - 1
    · rw [if_pos e2, e2]; show σ (shD m k k) = _; rw [shD_1, shD_1]
    · rw [if_neg e2]
      show σ (shD m k x) = _
      by_cases e3 : k < x ∧ x ≤ m
      · rw [shD_2 e3.1 e3.2, shD_2 (by omega) e3.2]
      · rw [shD_3 (by omega) h, shD_3 (by omega) (by omega)]
theorem shU_within (h : a ≤ k) (h2 : k < b) : Within (shU a k) a b := by
  have hx : ∀ x, (a ≤ x ∧ x < k ∧ shU a k x = x + 1) ∨ (x = k ∧ shU a k x = a) ∨ ((x < a ∨ k < x) ∧ shU a k x = x) := fun x => by
    by_cases e : x = k
    · subst e; exact .inr (.inl ⟨rfl, shU_2⟩)
    · by_cases e2 : a ≤ x ∧ x < k
      · exact .inl ⟨e2.1, e2.2, shU_1 e2.1 e2.2⟩
      · exact .inr (.inr ⟨by omega, shU_3 (by omega) h⟩)
  exact ⟨fun i hi => by have := hx i; omega, fun i h3 h4 => by have := hx i; omega, fun i j e => by have := hx i; have := hx j; omega⟩
theorem shD_within (h : a ≤ k) (h2 : k ≤ m) (h3 : m < b) : Within (shD m k) a b := by
  have hx : ∀ x, (x = k ∧ shD m k x = m) ∨ (k < x ∧ x ≤ m ∧ shD m k x = x - 1) ∨ ((x < k ∨ m < x) ∧ shD m k x = x) := fun x => by
    by_cases e : x = k
    · subst e; exact .inl ⟨rfl, shD_1⟩
    · by_cases e2 : k < x ∧ x ≤ m
      · exact .inr (.inl ⟨e2.1, e2.2, shD_2 e2.1 e2.2⟩)
      · exact .inr (.inr ⟨by omega, shD_3 (by omega) h2⟩)
  exact ⟨fun i hi => by have := hx i; omega, fun i h3 h4 => by have := hx i; omega, fun i j e => by have := hx i; have := hx j; omega⟩
structure SymP (c : α → α → Int) (ys : List α) (σ : Nat → Nat) (a m b : Nat) : Prop where
  lt : a < m ∧ m < b ∧ b ≤ ys.length
  l : Asc (ordT c ys) σ a m
  r : Asc (ordT c ys) σ m b
  d : ∀ p q, a ≤ p → p < m → m ≤ q → q < b → ordT c ys (σ p) (σ q) ∨ ∃ (hq : σ q < ys.length) (hp : σ p < ys.length), c ys[σ q] ys[σ p] < 0
theorem SymP.yes (h : SymP c ys σ a m b) (hL : PL ys σ zs) {p q : Nat} (hp : p < zs.length) (hq : q < zs.length) (hc : c zs[q] zs[p] < 0) : ordT c ys (σ q) (σ p) := by
  have hl := hL.len
  refine ⟨(hL.at_ q (by omega)).1, (hL.at_ p (by omega)).1, .inl ?_⟩
  rw [← hL.get (by omega : q < ys.length), ← hL.get (by omega : p < ys.length)]
  exact hc
theorem SymP.no (h : SymP c ys σ a m b) (hL : PL ys σ zs) {p q : Nat} (h1 : a ≤ p) (h2 : p < m) (h3 : m ≤ q) (h4 : q < b) (hp : p < zs.length) (hq : q < zs.length) (hc : ¬ c zs[q] zs[p] < 0) : ordT c ys (σ p) (σ q) := by
  have hl := hL.len
  rcases h.d p q h1 h2 h3 h4 with h5 | ⟨hq', hp', h5⟩
  · exact h5
  · rw [← hL.get (by omega : q < ys.length), ← hL.get (by omega : p < ys.length)] at h5
    exact absurd h5 hc
abbrev TrT (T : Nat → Nat → Prop) : Prop := ∀ x y z, T x y → T y z → T x z
structure B1 (T : Nat → Nat → Prop) (σ : Nat → Nat) (a m b i j : Nat) : Prop where
  le : m ≤ i ∧ i ≤ j ∧ j ≤ b
  lo : ∀ q, m ≤ q → q < i → T (σ q) (σ a)
  hi : ∀ q, j ≤ q → q < b → T (σ a) (σ q)
theorem B1.start (h : m ≤ b) : B1 T σ a m b m b := ⟨by omega, fun q h1 h2 => by omega, fun q h1 h2 => by omega⟩
theorem B1.up {h : Nat} (ht : TrT T) (hA : Asc T σ m b) (hB : B1 T σ a m b i j) (h1 : i ≤ h) (h2 : h < j) (hT : T (σ h) (σ a)) : B1 T σ a m b (h + 1) j := by
  have hl := hB.le
  refine ⟨by omega, fun q h3 h4 => ?_, hB.hi⟩
  by_cases e : q = h
  · rw [e]; exact hT
  · exact ht _ _ _ (hA q h h3 (by omega) (by omega)) hT
theorem B1.down {h : Nat} (ht : TrT T) (hA : Asc T σ m b) (hB : B1 T σ a m b i j) (h1 : i ≤ h) (h2 : h < j) (hT : T (σ a) (σ h)) : B1 T σ a m b i h := by
  have hl := hB.le
  refine ⟨by omega, hB.lo, fun q h3 h4 => ?_⟩
  by_cases e : q = h
  · rw [e]; exact hT
  · exact ht _ _ _ hT (hA h q (by omega) (by omega) (by omega))
theorem B1.done (hB : B1 T σ a m b i i) (hm : m = a + 1) (hA : Asc T σ m b) : Asc T (fun x => σ (shU a (i - 1) x)) a b := by
  have hl := hB.le
  intro p q h1 h2 h3
  show T (σ (shU a (i - 1) p)) (σ (shU a (i - 1) q))
  rcases Nat.lt_trichotomy p (i - 1) with e | e | e
  · rw [shU_1 h1 e]
    rcases Nat.lt_trichotomy q (i - 1) with f | f | f
    · rw [shU_1 (by omega) f]; exact hA _ _ (by omega) (by omega) (by omega)
    · rw [f, shU_2]; exact hB.lo _ (by omega) (by omega)
    · rw [shU_3 (by omega) (by omega)]; exact hA _ _ (by omega) (by omega) (by omega)
  · rw [e, shU_2, shU_3 (by omega) (by omega)]; exact hB.hi _ (by omega) (by omega)
  · rw [shU_3 (by omega) (by omega), shU_3 (by omega) (by omega)]; exact hA _ _ (by omega) (by omega) (by omega)
structure B2 (T : Nat → Nat → Prop) (σ : Nat → Nat) (a m i j : Nat) : Prop where
  le : a ≤ i ∧ i ≤ j ∧ j ≤ m
  lo : ∀ q, a ≤ q → q < i → T (σ q) (σ m)
  hi : ∀ q, j ≤ q → q < m → T (σ m) (σ q)
theorem B2.start (h : a ≤ m) : B2 T σ a m a m := ⟨by omega, fun q h1 h2 => by omega, fun q h1 h2 => by omega⟩
theorem B2.up {h : Nat} (ht : TrT T) (hA : Asc T σ a m) (hB : B2 T σ a m i j) (h1 : i ≤ h) (h2 : h < j) (hT : T (σ h) (σ m)) : B2 T σ a m (h + 1) j := by
  have hl := hB.le
  refine ⟨by omega, fun q h3 h4 => ?_, hB.hi⟩
  by_cases e : q = h
  · rw [e]; exact hT
  · exact ht _ _ _ (hA q h h3 (by omega) (by omega)) hT
theorem B2.down {h : Nat} (ht : TrT T) (hA : Asc T σ a m) (hB : B2 T σ a m i j) (h1 : i ≤ h) (h2 : h < j) (hT : T (σ m) (σ h)) : B2 T σ a m i h := by
  have hl := hB.le
  refine ⟨by omega, hB.lo, fun q h3 h4 => ?_⟩
  by_cases e : q = h
  · rw [e]; exact hT
  · exact ht _ _ _ hT (hA h q (by omega) (by omega) (by omega))
theorem B2.done (hB : B2 T σ a m i i) (hm : b = m + 1) (hA : Asc T σ a m) : Asc T (fun x => σ (shD m i x)) a b := by
  have hl := hB.le
  intro p q h1 h2 h3
  show T (σ (shD m i p)) (σ (shD m i q))
  rcases Nat.lt_trichotomy p i with e | e | e
  · rw [shD_3 (.inl e) (by omega)]
    rcases Nat.lt_trichotomy q i with f | f | f
    · rw [shD_3 (.inl f) (by omega)]; exact hA _ _ (by omega) (by omega) (by omega)
    · rw [f, shD_1]; exact hB.lo _ (by omega) (by omega)
    · rw [shD_2 (by omega) (by omega)]; exact hA _ _ (by omega) (by omega) (by omega)
  · rw [e, shD_1, shD_2 (by omega) (by omega)]; exact hB.hi _ (by omega) (by omega)
  · rw [shD_2 (by omega) (by omega), shD_2 (by omega) (by omega)]; exact hA _ _ (by omega) (by omega) (by omega)
structure B3 (T : Nat → Nat → Prop) (σ : Nat → Nat) (a m b d s r : Nat) : Prop where
  mid : a < d ∧ d < b ∧ 2 * d ≤ a + b ∧ a + b ≤ 2 * d + 1 ∧ a < m ∧ m < b
  le : s ≤ r
  lo : (m ≤ d → a ≤ s) ∧ (d < m → d + m - b ≤ s)
  hi : (m ≤ d → r ≤ m) ∧ (d < m → r ≤ d)
  vl : ((m ≤ d ∧ s = a) ∨ (d < m ∧ s = d + m - b)) ∨ (1 ≤ s ∧ T (σ (s - 1)) (σ (d + m - s)))
  vr : ((m ≤ d ∧ r = m) ∨ (d < m ∧ r = d)) ∨ T (σ (d + m - 1 - r)) (σ r)
theorem B3.startR (h : a < d ∧ d < b ∧ 2 * d ≤ a + b ∧ a + b ≤ 2 * d + 1 ∧ a < m ∧ m < b) (h2 : d < m) : B3 T σ a m b d (d + m - b) d :=
  ⟨h, by omega, ⟨fun e => by omega, fun _ => Nat.le_refl _⟩, ⟨fun e => by omega, fun _ => Nat.le_refl _⟩, .inl (.inr ⟨h2, rfl⟩), .inl (.inr ⟨h2, rfl⟩)⟩
theorem B3.startL (h : a < d ∧ d < b ∧ 2 * d ≤ a + b ∧ a + b ≤ 2 * d + 1 ∧ a < m ∧ m < b) (h2 : m ≤ d) : B3 T σ a m b d a m :=
  ⟨h, by omega, ⟨fun _ => Nat.le_refl _, fun e => by omega⟩, ⟨fun _ => Nat.le_refl _, fun e => by omega⟩, .inl (.inl ⟨h2, rfl⟩), .inl (.inl ⟨h2, rfl⟩)⟩
theorem B3.rng (h : B3 T σ a m b d s r) {q : Nat} (h1 : s ≤ q) (h2 : q < r) : a ≤ q ∧ q < m ∧ m ≤ d + m - 1 - q ∧ d + m - 1 - q < b ∧ q ≤ d + m - 1 := by
  obtain ⟨h3, h4, ⟨h5, h6⟩, ⟨h7, h8⟩, _, _⟩ := h
  omega
theorem B3.up (h : B3 T σ a m b d s r) {q : Nat} (h1 : s ≤ q) (h2 : q < r) (hT : T (σ q) (σ (d + m - 1 - q))) : B3 T σ a m b d (q + 1) r := by
  obtain ⟨h3, h4, ⟨h5, h6⟩, ⟨h7, h8⟩, h9, h10⟩ := h
  exact ⟨h3, by omega, by omega, by omega, .inr ⟨by omega, by rw [show q + 1 - 1 = q by omega, show d + m - (q + 1) = d + m - 1 - q by omega]; exact hT⟩, h10⟩
theorem B3.down (h : B3 T σ a m b d s r) {q : Nat} (h1 : s ≤ q) (h2 : q < r) (hT : T (σ (d + m - 1 - q)) (σ q)) : B3 T σ a m b d s q := by
  obtain ⟨h3, h4, ⟨h5, h6⟩, ⟨h7, h8⟩, h9, h10⟩ := h
  exact ⟨h3, by omega, by omega, by omega, h9, .inr hT⟩
theorem B3.ends (h : B3 T σ a m b d s s) : a ≤ s ∧ s ≤ m ∧ s ≤ d ∧ m ≤ d + m - s ∧ d ≤ d + m - s ∧ d + m - s ≤ b ∧ s + (d + m - s - m) = d := by
  obtain ⟨h3, h4, ⟨h5, h6⟩, ⟨h7, h8⟩, h9, h10⟩ := h
  omega
theorem B3.at_ (h : B3 T σ a m b d s s) (x : Nat) : (a ≤ x → x < s → ro s m (d + m - s) x = x) ∧ (s ≤ x → x < d → ro s m (d + m - s) x = x + (m - s)) ∧ (d ≤ x → x < d + m - s → ro s m (d + m - s) x = x - (d - s)) ∧ (d + m - s ≤ x → ro s m (d + m - s) x = x) := by
  have he := h.ends
  refine ⟨fun h1 h2 => ro_3 (by omega) (by omega) (by omega), fun h1 h2 => ro_1 (by omega) (by omega), fun h1 h2 => ?_, fun h1 => ro_3 (by omega) (by omega) (by omega)⟩
  rw [ro_2 (by omega) (by omega)]; omega
theorem B3.cross (ht : TrT T) (h : B3 T σ a m b d s s) (hl : Asc T σ a m) (hr : Asc T σ m b) : ∀ p q, a ≤ p → p < d → d ≤ q → q < b → T (σ (ro s m (d + m - s) p)) (σ (ro s m (d + m - s) q)) := by
  have he := h.ends
  have hm := h.mid
  have asL : ∀ p q, a ≤ p → p < q → q < m → T (σ p) (σ q) := hl
  have asR : ∀ p q, m ≤ p → p < q → q < b → T (σ p) (σ q) := hr
  have lL : ∀ p q, a ≤ p → p < s → d + m - s ≤ q → q < b → T (σ p) (σ q) := fun p q h1 h2 h3 h4 => by
    rcases h.vl with h5 | ⟨_, h5⟩
    · exfalso; omega
    · have h6 : T (σ (s - 1)) (σ q) := by
        by_cases e : q = d + m - s
        · rw [e]; exact h5
        · exact ht _ _ _ h5 (asR _ _ (by omega) (by omega) h4)
      by_cases e : p = s - 1
      · rw [e]; exact h6
      · exact ht _ _ _ (asL p (s - 1) h1 (by omega) (by omega)) h6
  have rR : ∀ p q, s ≤ p → p < m → m ≤ q → q < d + m - s → T (σ q) (σ p) := fun p q h1 h2 h3 h4 => by
    rcases h.vr with h5 | h5
    · exfalso; omega
    · have h6 : T (σ q) (σ s) := by
        by_cases e : q = d + m - 1 - s
        · rw [e]; exact h5
        · exact ht _ _ _ (asR q (d + m - 1 - s) h3 (by omega) (by omega)) h5
      by_cases e : p = s
      · rw [e]; exact h6
      · exact ht _ _ _ h6 (asL s p (by omega) (by omega) h2)
  intro p q h1 h2 h3 h4
  have hp := h.at_ p; have hq := h.at_ q
  by_cases e : p < s
  · rw [hp.1 h1 e]
    by_cases f : q < d + m - s
    · rw [hq.2.2.1 h3 f]; exact asL _ _ h1 (by omega) (by omega)
    · rw [hq.2.2.2 (by omega)]; exact lL _ _ h1 e (by omega) h4
  · rw [hp.2.1 (by omega) h2]
    by_cases f : q < d + m - s
    · rw [hq.2.2.1 h3 f]; exact rR _ _ (by omega) (by omega) (by omega) (by omega)
    · rw [hq.2.2.2 (by omega)]; exact asR _ _ (by omega) (by omega) h4
theorem B3.left (h : B3 (ordT c ys) σ a m b d s s) (hS : SymP c ys σ a m b) (h1 : a < s) (h2 : s < d) : SymP c ys (fun x => σ (ro s m (d + m - s) x)) a s d := by
  have he := h.ends
  have hlt := hS.lt
  refine ⟨⟨h1, h2, by omega⟩, fun p q h3 h4 h5 => ?_, fun p q h3 h4 h5 => ?_, fun p q h3 h4 h5 h6 => ?_⟩
  · try simp only
    rw [(h.at_ p).1 h3 (by omega), (h.at_ q).1 (by omega) h5]; exact hS.l _ _ h3 h4 (by omega)
  · try simp only
    rw [(h.at_ p).2.1 h3 (by omega), (h.at_ q).2.1 (by omega) h5]; exact hS.r _ _ (by omega) (by omega) (by omega)
  · try simp only
    rw [(h.at_ p).1 h3 h4, (h.at_ q).2.1 h5 h6]; exact hS.d _ _ h3 (by omega) (by omega) (by omega)
theorem B3.leftAsc (h : B3 (ordT c ys) σ a m b d s s) (hS : SymP c ys σ a m b) (h1 : ¬ (a < s ∧ s < d)) : Asc (ordT c ys) (fun x => σ (ro s m (d + m - s) x)) a d := by
  have he := h.ends
  intro p q h3 h4 h5
  try simp only
  by_cases e : s = a
  · rw [(h.at_ p).2.1 (by omega) (by omega), (h.at_ q).2.1 (by omega) h5]; exact hS.r _ _ (by omega) (by omega) (by omega)
  · rw [(h.at_ p).1 h3 (by omega), (h.at_ q).1 (by omega) (by omega)]; exact hS.l _ _ h3 h4 (by omega)
theorem B3.right (h : B3 (ordT c ys) σ a m b d s s) (hS : SymP c ys σ a m b) (h1 : d < d + m - s) (h2 : d + m - s < b) : SymP c ys (fun x => σ (ro s m (d + m - s) x)) d (d + m - s) b := by
  have he := h.ends
  have hlt := hS.lt
  refine ⟨⟨h1, h2, by omega⟩, fun p q h3 h4 h5 => ?_, fun p q h3 h4 h5 => ?_, fun p q h3 h4 h5 h6 => ?_⟩
  · try simp only
    rw [(h.at_ p).2.2.1 h3 (by omega), (h.at_ q).2.2.1 (by omega) h5]; exact hS.l _ _ (by omega) (by omega) (by omega)
  · try simp only
    rw [(h.at_ p).2.2.2 h3, (h.at_ q).2.2.2 (by omega)]; exact hS.r _ _ (by omega) h4 h5
  · try simp only
    rw [(h.at_ p).2.2.1 h3 h4, (h.at_ q).2.2.2 h5]; exact hS.d _ _ (by omega) (by omega) (by omega) h6
theorem B3.rightAsc (h : B3 (ordT c ys) σ a m b d s s) (hS : SymP c ys σ a m b) (h1 : ¬ (d < d + m - s ∧ d + m - s < b)) : Asc (ordT c ys) (fun x => σ (ro s m (d + m - s) x)) d b := by
  have he := h.ends
  intro p q h3 h4 h5
  try simp only
  by_cases e : d + m - s = b
  · rw [(h.at_ p).2.2.1 h3 (by omega), (h.at_ q).2.2.1 (by omega) (by omega)]; exact hS.l _ _ (by omega) (by omega) (by omega)
  · rw [(h.at_ p).2.2.2 (by omega), (h.at_ q).2.2.2 (by omega)]; exact hS.r _ _ (by omega) h4 h5
theorem SymP.keep (h : SymP c ys σ a m b) (e : ∀ x, a ≤ x → x < b → τ x = σ x) : SymP c ys τ a m b := by
  have hlt := h.lt
  refine ⟨hlt, fun p q h3 h4 h5 => ?_, fun p q h3 h4 h5 => ?_, fun p q h3 h4 h5 h6 => ?_⟩
  · rw [e p (by omega) (by omega), e q (by omega) (by omega)]; exact h.l _ _ h3 h4 h5
  · rw [e p (by omega) (by omega), e q (by omega) (by omega)]; exact h.r _ _ h3 h4 h5
  · have e1 := e p (by omega) (by omega); have e2 := e q (by omega) (by omega)
    rw [e1, e2]; exact h.d _ _ h3 h4 h5 h6
structure SymQ (c : α → α → Int) (ys : List α) (σ : Nat → Nat) (a b : Nat) (us : List α) (τ : Nat → Nat) : Prop where
  pl : PL ys (fun x => σ (τ x)) us
  wi : Within τ a b
  asc : Asc (ordT c ys) (fun x => σ (τ x)) a b
theorem B3.merge {ρ1 ρ2 : Nat → Nat} (hT : TrT (ordT c ys)) (h : B3 (ordT c ys) σ a m b d s s) (hS : SymP c ys σ a m b) (h1 : Within ρ1 a d) (h1a : Asc (ordT c ys) (fun x => σ (ro s m (d + m - s) (ρ1 x))) a d) (h2 : Within ρ2 d b) (h2a : Asc (ordT c ys) (fun x => σ (ro s m (d + m - s) (ρ1 (ρ2 x)))) d b) (hp : PL ys (fun x => σ (ro s m (d + m - s) (ρ1 (ρ2 x)))) us) :
    SymQ c ys σ a b us (fun x => ro s m (d + m - s) (ρ1 (ρ2 x))) := by
  have he := h.ends
  have hm := h.mid
  refine ⟨hp, ?_, fun p q h3 h4 h5 => ?_⟩
  · exact ((ro_within (by omega) (by omega)).mono he.1 he.2.2.2.2.2.1).comp ((h1.mono (Nat.le_refl _) (by omega)).comp (h2.mono (by omega) (Nat.le_refl _)))
  · try simp only
    by_cases e : q < d
    · rw [h2.out p (by omega), h2.out q (by omega)]; exact h1a p q h3 h4 e
    · by_cases f : p < d
      · rw [h2.out p (by omega)]
        have i1 := h1.in_ p h3 f
        have i2 := h2.in_ q (by omega) h5
        rw [h1.out (ρ2 q) (by omega)]
        exact h.cross hT hS.l hS.r _ _ i1.1 i1.2 i2.1 i2.2
      · exact h2a p q (by omega) h4 h5
theorem ordT_tr (hc : Cmp3 c P) (hP : ∀ x ∈ ys, P x) : TrT (ordT c ys) := fun _ _ _ h1 h2 => ordT_trans hc hP h1 h2
structure Sgm (c : α → α → Int) (ys : List α) (σ : Nat → Nat) (a e : Nat) : Prop where
  in_ : ∀ x, a ≤ x → x < e → a ≤ σ x ∧ σ x < e
  asc : Asc (ordT c ys) σ a e
theorem Sgm.nil (h : b ≤ a) : Sgm c ys σ a b := ⟨fun x h1 h2 => by omega, fun p q h1 h2 h3 => by omega⟩
theorem Sgm.keep (h : Sgm c ys σ a b) (e : ∀ x, a ≤ x → x < b → τ x = x) : Sgm c ys (fun x => σ (τ x)) a b :=
  ⟨fun x h1 h2 => by show a ≤ σ (τ x) ∧ σ (τ x) < b; rw [e x h1 h2]; exact h.in_ x h1 h2, fun p q h1 h2 h3 => by
    show ordT c ys (σ (τ p)) (σ (τ q))
    rw [e p h1 (by omega), e q (by omega) h3]; exact h.asc p q h1 h2 h3⟩
theorem SymP.ofSeg (hc : Cmp3 c P) (hP : ∀ x ∈ ys, P x) (hL : PL ys σ zs) (h1 : Sgm c ys σ a m) (h2 : Sgm c ys σ m b) (hl : a < m) (hr : m < b) (hb : b ≤ ys.length) : SymP c ys σ a m b := by
  refine ⟨⟨hl, hr, hb⟩, h1.asc, h2.asc, fun p q h3 h4 h5 h6 => ?_⟩
  have i1 := h1.in_ p h3 h4; have i2 := h2.in_ q h5 h6
  have b1 := (hL.at_ p (by omega)).1; have b2 := (hL.at_ q (by omega)).1
  have p1 := hP _ (List.getElem_mem b1); have p2 := hP _ (List.getElem_mem b2)
  by_cases e : c ys[σ q] ys[σ p] < 0
  · exact .inr ⟨b2, b1, e⟩
  · have a1 := hc.anti _ _ p1 p2; have a2 := hc.anti _ _ p2 p1
    refine .inl ⟨b1, b2, ?_⟩
    by_cases f : c ys[σ p] ys[σ q] < 0
    · exact .inl f
    · exact .inr ⟨by omega, by omega⟩
theorem SymQ.seg (h : SymQ c ys σ a b us τ) (h1 : Sgm c ys σ a m) (h2 : Sgm c ys σ m b) (hm : a ≤ m ∧ m ≤ b) : Sgm c ys (fun x => σ (τ x)) a b := by
  refine ⟨fun x h3 h4 => ?_, h.asc⟩
  have h5 := h.wi.in_ x h3 h4
  show a ≤ σ (τ x) ∧ σ (τ x) < b
  by_cases e : τ x < m
  · have := h1.in_ _ h5.1 e; omega
  · have := h2.in_ _ (by omega) h5.2; omega
theorem Sgm.ofIns (hL : PL ys σ zs) (hid : ∀ x, a ≤ x → σ x = x) (hw : Within τ a b) (ha : Asc (ordT c zs) τ a b) (hb : b ≤ ys.length) : Sgm c ys (fun x => σ (τ x)) a b := by
  refine ⟨fun x h1 h2 => ?_, fun p q h1 h2 h3 => ?_⟩
  · have := hw.in_ x h1 h2
    show a ≤ σ (τ x) ∧ σ (τ x) < b
    rw [hid _ this.1]; exact this
  · have i1 := hw.in_ p h1 (by omega); have i2 := hw.in_ q (by omega) h3
    show ordT c ys (σ (τ p)) (σ (τ q))
    rw [hid _ i1.1, hid _ i2.1]
    obtain ⟨e1, e2, e3⟩ := ha p q h1 h2 h3
    have g1 := hL.get (show τ p < ys.length by omega); have g2 := hL.get (show τ q < ys.length by omega)
    simp only [hid _ i1.1] at g1; simp only [hid _ i2.1] at g2
    rw [g1, g2] at e3
    exact ⟨by omega, by omega, e3⟩
def Blk (c : α → α → Int) (ys : List α) (σ : Nat → Nat) (k : Nat) : Prop := ∀ k', k' < k → Sgm c ys σ (k' * 20) (k' * 20 + 20)
def AllB (c : α → α → Int) (ys : List α) (σ : Nat → Nat) (d n : Nat) : Prop := ∀ k', Sgm c ys σ (k' * d) (min (k' * d + d) n)
def Mix (c : α → α → Int) (ys : List α) (σ : Nat → Nat) (d n k : Nat) : Prop := (∀ k', k' < k → Sgm c ys σ (k' * (2 * d)) (k' * (2 * d) + 2 * d)) ∧ ∀ k', 2 * k ≤ k' → Sgm c ys σ (k' * d) (min (k' * d + d) n)
theorem Blk.zero : Blk c ys σ 0 := fun k' h => by omega
theorem Blk.next (h : Blk c ys σ k) (ha : a = k * 20) (hL : PL ys σ zs) (hW : Within σ 0 a) (hw : Within τ a (a + 20)) (hA : Asc (ordT c zs) τ a (a + 20)) (hb : a + 20 ≤ ys.length) : Blk c ys (fun x => σ (τ x)) (k + 1) := by
  intro k' hk
  by_cases e : k' = k
  · subst e; rw [← ha]; exact Sgm.ofIns hL (fun x hx => hW.out x (by omega)) hw hA hb
  · exact (h k' (by omega)).keep fun x h1 h2 => hw.out x (by omega)
theorem Blk.all (h : Blk c ys σ k) (ha : a = k * 20) (hL : PL ys σ zs) (hW : Within σ 0 a) (hn : n = ys.length) (hw : Within τ a n) (hA : Asc (ordT c zs) τ a n) (h1 : a ≤ n) (h2 : n < a + 20) : AllB c ys (fun x => σ (τ x)) 20 n := by
  intro k'
  rcases Nat.lt_trichotomy k' k with e | e | e
  · rw [show min (k' * 20 + 20) n = k' * 20 + 20 by omega]
    exact (h k' e).keep fun x h1 h2 => hw.out x (by omega)
  · subst e; rw [← ha, show min (a + 20) n = n by omega]; exact Sgm.ofIns hL (fun x hx => hW.out x (by omega)) hw hA (by omega)
  · exact Sgm.nil (by omega)
theorem AllB.mix (h : AllB c ys σ d n) : Mix c ys σ d n 0 := ⟨fun k' hk => by omega, fun k' _ => h k'⟩
theorem AllB.done (h : AllB c ys σ d n) (hn : n ≤ d) : Asc (ordT c ys) σ 0 n := by
  have := h 0
  rw [Nat.zero_mul, show min (0 + d) n = n by omega] at this
  exact this.asc
theorem mul2 (k d : Nat) : 2 * k * d = k * (2 * d) := by rw [Nat.mul_comm 2 k, Nat.mul_assoc]
theorem Mix.fst (h : Mix c ys σ d n k) (ha : a = k * (2 * d)) (hn : a + d ≤ n) : Sgm c ys σ a (a + d) := by
  have := h.2 (2 * k) (Nat.le_refl _)
  rw [mul2, ← ha, show min (a + d) n = a + d by omega] at this
  exact this
theorem Mix.snd (h : Mix c ys σ d n k) (ha : a = k * (2 * d)) : Sgm c ys σ (a + d) (min (a + 2 * d) n) := by
  have := h.2 (2 * k + 1) (by omega)
  rw [Nat.succ_mul, mul2, ← ha, show a + d + d = a + 2 * d by omega] at this
  exact this
theorem Mix.next (h : Mix c ys σ d n k) (ha : a = k * (2 * d)) (hn : a + 2 * d ≤ n) (hq : SymQ c ys σ a (a + 2 * d) us τ) : Mix c ys (fun x => σ (τ x)) d n (k + 1) := by
  have h1 := h.fst ha (by omega)
  have h2 := h.snd ha
  rw [show min (a + 2 * d) n = a + 2 * d by omega] at h2
  refine ⟨fun k' hk => ?_, fun k' hk => ?_⟩
  · by_cases e : k' = k
    · subst e; rw [← ha]; exact hq.seg h1 h2 (by omega)
    · have : (k' + 1) * (2 * d) ≤ k * (2 * d) := Nat.mul_le_mul_right _ (by omega)
      rw [Nat.succ_mul] at this
      exact (h.1 k' (by omega)).keep fun x h3 h4 => hq.wi.out x (by omega)
  · have : (2 * k + 2) * d ≤ k' * d := Nat.mul_le_mul_right _ (by omega)
    rw [Nat.add_mul, mul2] at this
    exact (h.2 k' (by omega)).keep fun x h3 h4 => hq.wi.out x (by omega)
theorem Mix.beyond (ha : a = k * (2 * d)) (hn : n < a + 2 * d) {k' : Nat} (hk : k < k') : n ≤ k' * (2 * d) := by
  have : (k + 1) * (2 * d) ≤ k' * (2 * d) := Nat.mul_le_mul_right _ (by omega)
  rw [Nat.succ_mul] at this
  omega
theorem Mix.last (h : Mix c ys σ d n k) (ha : a = k * (2 * d)) (hn : a + d < n) (hn2 : n < a + 2 * d) (hq : SymQ c ys σ a n us τ) : AllB c ys (fun x => σ (τ x)) (2 * d) n := by
  have h1 := h.fst ha (by omega)
  have h2 := h.snd ha
  rw [show min (a + 2 * d) n = n by omega] at h2
  intro k'
  rcases Nat.lt_trichotomy k' k with e | e | e
  · have : (k' + 1) * (2 * d) ≤ k * (2 * d) := Nat.mul_le_mul_right _ (by omega)
    rw [Nat.succ_mul] at this
    rw [show min (k' * (2 * d) + 2 * d) n = k' * (2 * d) + 2 * d by omega]
    exact (h.1 k' e).keep fun x h3 h4 => hq.wi.out x (by omega)
  · subst e; rw [← ha, show min (a + 2 * d) n = n by omega]; exact hq.seg h1 h2 (by omega)
  · have := Mix.beyond ha hn2 e
    exact Sgm.nil (by omega)
theorem Mix.rest (h : Mix c ys σ d n k) (ha : a = k * (2 * d)) (hn : n ≤ a + d) (ha2 : a ≤ n) : AllB c ys σ (2 * d) n := by
  have h1 := h.2 (2 * k) (Nat.le_refl _)
  rw [mul2, ← ha, show min (a + d) n = n by omega] at h1
  intro k'
  rcases Nat.lt_trichotomy k' k with e | e | e
  · have : (k' + 1) * (2 * d) ≤ k * (2 * d) := Nat.mul_le_mul_right _ (by omega)
    rw [Nat.succ_mul] at this
    rw [show min (k' * (2 * d) + 2 * d) n = k' * (2 * d) + 2 * d by omega]
    exact h.1 k' e
  · subst e; rw [← ha, show min (a + 2 * d) n = n by omega]; exact h1
  · have : (k + 1) * (2 * d) ≤ k' * (2 * d) := Nat.mul_le_mul_right _ (by omega)
    rw [Nat.succ_mul] at this
    exact Sgm.nil (by omega)
end
end Go.K

/- The greedy way, in memory. -/
namespace Go.K
open Rep
def GM (w : World) (C : Nat → Nat) (m : List (Couple × Sv)) (rs : List Couple) (g : Couple → List Couple) : Prop := ∀ r ∈ rs, ∃ s : Sv, mget m r = some s ∧ RV w (Mc C) (g r) s.v
section
variable {w w' : World} {C C' : Nat → Nat} {I : List Nat} {m : List (Couple × Sv)} {rs : List Couple} {g g' : Couple → List Couple} {l : List Bond} {ds : List Dcs} {v : Value} {both : List Couple} {b : Bond}
theorem GM.st (h : GM w C m rs g) (hs : Stp I w C w' C') (h0 : 0 ∉ I) : GM w' C' m rs g := fun r hr => let ⟨s, h1, h2⟩ := h r hr; ⟨s, h1, h2.st hs h0⟩
theorem GM.t (h : GM w C m rs g) (hs : Stp I w C w' C') (h0 : 0 ∉ I := by first | decide | (simp <;> omega)) : GM w' C' m rs g := h.st hs h0
theorem GM.nil : GM w C m [] g := fun r hr => by cases hr
theorem GM.look (h : GM w C m rs g) {r : Couple} (hr : r ∈ rs) : ∃ v, ((mget m r).getD ⟨.slice none 0 0⟩).v = v ∧ RV w (Mc C) (g r) v := by
  obtain ⟨s, h1, h2⟩ := h r hr
  exact ⟨s.v, by rw [h1]; rfl, h2⟩
theorem GM.put (h : GM w C m rs g) {q : Couple} (hv : RV w (Mc C) both v) (hg : ∀ r ∈ rs, g' r = if q = r then both else g r) : GM w C (mput m q ⟨v⟩) rs g' := fun r hr => by
  rw [mget_mput, hg r hr]
  by_cases e : q = r
  · rw [if_pos e, if_pos e]; exact ⟨⟨v⟩, rfl, hv⟩
  · rw [if_neg e, if_neg e]; exact h r hr
theorem GM.add (h : GM w C m rs fun r => [r]) {q : Couple} (hv : RV w (Mc C) [q] v) : GM w C (mput m q ⟨v⟩) (rs ++ [q]) fun r => [r] := fun r hr => by
  rw [mget_mput]
  by_cases e : q = r
  · subst e; rw [if_pos rfl]; exact ⟨⟨v⟩, rfl, hv⟩
  · rw [if_neg e]
    rcases List.mem_append.1 hr with h1 | h1
    · exact h r h1
    · exact absurd (List.mem_singleton.1 h1).symm e
theorem GI.sub (h : GI l ds g) {r : Couple} (hr : r ∈ refsS l) : ∀ q ∈ g r, q ∈ refsS l := fun q hq => by
  by_cases h2 : 2 ≤ (g r).length
  · exact joined_refs (h.join r) h2 (h.nd r) hq
  · have hs := h.self r
    match hg : g r, h2, hs, hq with
    | [x], _, hs, hq => rw [List.mem_singleton] at hs hq; rw [hq, ← hs]; exact hr
    | [], _, hs, _ => cases hs
    | x :: y :: t, h2, _, _ => simp at h2
theorem GI.len (h : GI l ds g) {r : Couple} (hr : r ∈ refsS l) : (g r).length ≤ 2 * l.length := by
  have h1 := (h.nd r).length_le_of_subset (h.sub hr)
  have := refsS_len l
  omega
def grMid (g : Couple → List Couple) (both : List Couple) (j : Nat) : Couple → List Couple := fun r => if r ∈ both.take j then both else g r
theorem grMid_zero : grMid g both 0 = g := by funext r; unfold grMid; rw [if_neg (by simp)]
theorem grMid_next {j : Nat} (hj : j < both.length) (r : Couple) : grMid g both (j + 1) r = if both[j] = r then both else grMid g both j r := by
  unfold grMid
  rw [List.take_succ_eq_append_getElem hj]
  by_cases e : both[j] = r
  · rw [if_pos e, if_pos (by rw [List.mem_append, List.mem_singleton]; exact .inr e.symm)]
  · rw [if_neg e]
    by_cases h : r ∈ both.take j
    · rw [if_pos h, if_pos (List.mem_append.2 (.inl h))]
    · rw [if_neg h, if_neg (fun h2 => (List.mem_append.1 h2).elim h (fun h3 => e (List.mem_singleton.1 h3).symm))]
theorem grStep_no (h : b.B ∈ g b.A ∨ sepB ds (g b.A) (g b.B) = true) : grStep ds g b = g := by unfold grStep; rw [if_pos h]
theorem grStep_yes (h1 : b.B ∉ g b.A) (h2 : sepB ds (g b.A) (g b.B) = false) : grStep ds g b = grMid g (g b.A ++ g b.B) (g b.A ++ g b.B).length := by
  unfold grStep grMid
  rw [if_neg (fun h => h.elim h1 (fun e => by rw [h2] at e; cases e)), List.take_length]
theorem grG_next {ord : List Bond} {k : Nat} (h : k < ord.length) : grG ds (ord.take (k + 1)) = grStep ds (grG ds (ord.take k)) ord[k] := by
  unfold grG
  rw [List.take_succ_eq_append_getElem h, List.foldl_append]; rfl
theorem grOut_next {refs : List Couple} {i : Nat} (h : i < refs.length) : grOut (refs.take (i + 1)) g = if grKeep g refs[i] = true then grOut (refs.take i) g ++ [sortC (g refs[i])] else grOut (refs.take i) g := by
  unfold grOut
  rw [List.take_succ_eq_append_getElem h, List.filter_append]
  by_cases e : grKeep g refs[i] = true
  · rw [if_pos e, List.filter_cons_of_pos e]; simp
  · rw [if_neg e, List.filter_cons_of_neg e]; simp
theorem grOut_len (refs : List Couple) : (grOut refs g).length ≤ refs.length := by
  unfold grOut; rw [List.length_map]; exact List.length_filter_le _ _
end
end Go.K

/- Persons by their first refs. -/
namespace Go.K
open Rep
def cmpH (x y : List Couple) : Int := cmpC (x.headD ⟨0, 0⟩) (y.headD ⟨0, 0⟩)
theorem cmpH_at {x y : List Couple} (hx : 0 < x.length) (hy : 0 < y.length) : cmpH x y = cmpC x[0] y[0] := by
  unfold cmpH
  rw [List.headD_eq_head?_getD, List.headD_eq_head?_getD, List.head?_eq_getElem?, List.head?_eq_getElem?, List.getElem?_eq_getElem hx, List.getElem?_eq_getElem hy]; rfl
theorem cmpC_c3 : Cmp3 cmpC (fun _ => True) := ⟨fun x y _ _ => by
  rw [(cmpC_3 (x := x) (y := y)).1, (cmpC_3 (x := y) (y := x)).2.2], fun x y z _ _ _ h1 h2 => by
  have a := (cmpC_3 (x := x) (y := y)).2.2; have b := (cmpC_3 (x := y) (y := z)).2.2; have c := (cmpC_3 (x := x) (y := z)).2.2
  have h1' : ¬ ltC2 y x := fun h => by have := a.2 h; omega
  have h2' : ¬ ltC2 z y := fun h => by have := b.2 h; omega
  refine Int.not_lt.1 fun h => ?_
  have h3 := c.1 h
  unfold ltC2 at h1' h2' h3
  omega⟩
theorem cmpH_3 : Cmp3 cmpH (fun _ => True) := ⟨fun x y _ _ => by unfold cmpH; exact cmpC_c3.1 _ _ trivial trivial, fun x y z _ _ _ => by unfold cmpH; exact cmpC_c3.2 _ _ _ trivial trivial trivial⟩
section
variable {α : Type} {ys zs : List α} {σ : Nat → Nat}
theorem PL.sub (h : PL ys σ zs) : ∀ x ∈ zs, x ∈ ys := fun x hx => by
  obtain ⟨i, hi, rfl⟩ := List.getElem_of_mem hx
  have hi' : i < ys.length := by rw [← h.len]; exact hi
  rw [h.get hi']; exact List.getElem_mem _
end
end Go.K

/- The ways of solving, and what all of them make. Plain. -/
namespace Go.K
open Rep
noncomputable def wayS (ds : List Dcs) (l : List Bond) : List (List Couple) × Int := if ((refsS l).length : Int) ≤ 8 then (exactF l ds, 0) else (greedyF l ds, 0)
def WayOK (P : Program) (g : Nat) (l : List Bond) (ds : List Dcs) (wf : List Bond → List (List Couple) × Int) : Prop :=
  ∀ (w1 : World) (C1 : Nat → Nat) (i : Nat) (hi : i < (splitS l).length) (vpart vb vm : Value), Lim w1 C1 → RV w1 (Mc C1) (splitS l)[i] vpart → ApM w1 (Mc C1) ds vm →
    Calls P g #[.agg #[vb, vm], vpart] w1 (Ret fun v w' => ∃ vp, v = .tuple #[vp, .int .i64 (wf (splitS l)[i]).2] ∧ Stp [] w1 C1 w' C1 ∧ RV w' (Mc C1) (wf (splitS l)[i]).1 vp)
def allW (wf : List Bond → List (List Couple) × Int) (ps : List (List Bond)) : List (List Couple) := ps.flatMap fun p => (wf p).1
theorem allW_next {wf : List Bond → List (List Couple) × Int} {ps : List (List Bond)} {k : Nat} (h : k < ps.length) : allW wf (ps.take (k + 1)) = allW wf (ps.take k) ++ (wf ps[k]).1 := by
  unfold allW
  rw [List.take_succ_eq_append_getElem h, List.flatMap_append]; simp
theorem allW_le {wf : List Bond → List (List Couple) × Int} {ps : List (List Bond)} (k : Nat) : (allW wf (ps.take k)).length ≤ (allW wf ps).length := by
  have : allW wf ps = allW wf (ps.take k) ++ allW wf (ps.drop k) := by unfold allW; rw [← List.flatMap_append, List.take_append_drop]
  rw [this, List.length_append]; omega
end Go.K

/- What the search for partners keeps; cells that hold one value. Plain Lean. -/
namespace Go.K
open Rep
section
variable {P : Program} {N : Nat} {env : Env} {w : World} {x : Operand} {t u : TypeId}
end
section
variable {n m k : Nat} {wt : Nat → Nat → Int} {U V : Nat → Int} {st : Nat → Int} {us : List Bool}
end
end Go.K

/- Edges: valid ones, and the graph of them. Plain Lean; arrays of two ints as keys. -/
namespace Go.K
open Rep
theorem run_ret3 {P : Program} {f : FuncId} {N : Nat} {k : List Item} {env : Env} {w : World} {R : Value → World → Prop} {c : Code} {fn : Func} {t u r : Nat} {v x y : Value} (hc : c = .ret) (hf : P.funcs[f]? = some fn) (hres : fn.results = #[.tmp t, .tmp u, .tmp r]) (hv : look env t = some v) (hx : look env u = some x) (hy : look env r = some y)
    (hR : R (.tuple #[v, x, y]) w) : Run P f N (.code c :: k) env w R := fun a ha => by
  subst hc
  refine runs_ret hf ha.defers ?_ hR
  have h1 := ha.slot t v hv
  have h2 := ha.slot u x hx
  have h3 := ha.slot r y hy
  simp only [results, hres]
  simp [h1, h2, h3, Sem.run, pure, Array.getD_eq_getD_getElem?]
section
variable {P : Program} {t ti : TypeId}
end
section
variable {n m : Int} {l : List Edge}
end
end Go.K

/- The plain law of reviews: what is shown and asked again. -/
namespace Go.K
open Rep
section
variable {α : Type} {ys zs us : List α} {σ τ : Nat → Nat} {c : α → α → Int} {P : α → Prop}
theorem range_perm {n : Nat} (h : Within σ 0 n) : ((List.range n).map σ).Perm (List.range n) := by
  have hnd : ((List.range n).map σ).Nodup := by
    rw [List.nodup_iff_pairwise_ne, List.pairwise_map]
    exact (List.nodup_iff_pairwise_ne.1 List.nodup_range).imp (fun hne e => hne (h.inj _ _ e))
  have hsub : (List.range n).map σ ⊆ List.range n := fun x hx => by
    obtain ⟨i, hi, rfl⟩ := List.mem_map.1 hx
    exact List.mem_range.2 (h.in_ i (by omega) (List.mem_range.1 hi)).2
  refine (List.perm_ext_iff_of_nodup hnd List.nodup_range).2 fun a => ⟨fun ha => hsub ha, fun ha => ?_⟩
  apply Classical.byContradiction
  intro hn
  have h1 : (a :: (List.range n).map σ).Nodup := List.nodup_cons.2 ⟨hn, hnd⟩
  have h2 := h1.length_le_of_subset (l₂ := List.range n) (fun x hx => by
    rcases List.mem_cons.1 hx with rfl | hx
    · exact ha
    · exact hsub hx)
  simp at h2
  omega
theorem StS.perm (h : StS c ys zs) : zs.Perm ys := by
  obtain ⟨σ, h1, h2, h3⟩ := h
  have e1 : zs.map some = ((List.range ys.length).map σ).map (fun i => ys[i]?) := by
    apply List.ext_getElem
    · simp [h1.len]
    · intro i hi hj
      have hlt : i < ys.length := by simpa [h1.len] using hi
      simp only [List.getElem_map, List.getElem_range]
      rw [← (h1.at_ i hlt).2, List.getElem?_eq_getElem (by rw [h1.len]; exact hlt)]
  have e2 : ys.map some = (List.range ys.length).map (fun i => ys[i]?) := by
    apply List.ext_getElem
    · simp
    · intro i hi hj
      simp only [List.getElem_map, List.getElem_range]
      rw [List.getElem?_eq_getElem (by simpa using hi)]
  have e3 : (zs.map some).Perm (ys.map some) := by rw [e1, e2]; exact (range_perm h2).map _
  have e4 := e3.filterMap id
  simpa using e4
theorem StS.le (h : StS c ys zs) {i j : Nat} (hij : i < j) (hj : j < zs.length) : c (zs[i]'(by omega)) zs[j] ≤ 0 := by
  obtain ⟨σ, h1, h2, h3⟩ := h
  have hl := h1.len
  rw [h1.get (show i < ys.length by omega), h1.get (show j < ys.length by omega)]
  obtain ⟨_, _, h4⟩ := h3 i j (by omega) hij (by omega)
  omega
theorem StS.self (h : ∀ i j (hij : i < j) (hj : j < ys.length), c (ys[i]'(by omega)) ys[j] < 0) : StS c ys ys :=
  ⟨fun i => i, PL.id ys, Within.id _ _, fun i j h1 h2 h3 => ⟨Nat.lt_trans h2 h3, h3, .inl (h i j h2 h3)⟩⟩
end
section
variable {sh z : List Shw} {r r2 : Couple} {ver ver2 : Int} {vals : List ByteArray} {fl : List Int} {k : Nat}
end
section
variable {pr : Int} {ag df : List Int} {lo hi : Int} {p : Nat} {fl fl' : List Int} {ok ok' : Bool}
end
section
variable {pr : Int} {ag df : List Int} {lo hh : Int} {p : Nat} {bud : Int} {sh : List Shw} {ds : List Dcs} {A B : Couple} {vals1 vals2 : List ByteArray} {ver1 ver2 bud' e : Int} {sh' now : List Shw}
end
end Go.K

/- What the ways make is valid. Plain. -/
namespace Go.K
open Rep
section
variable {l : List Bond} {ds : List Dcs} {wf : List Bond → List (List Couple) × Int} {zs : List (List Couple)}
theorem list_range {α : Type} (d : α) (ps : List α) : ps = (List.range ps.length).map fun i => ps.getD i d := by
  apply List.ext_getElem
  · simp
  · intro i h1 h2
    simp [List.getD_eq_getElem?_getD, h1]
def partOf (wf : List Bond → List (List Couple) × Int) (l : List Bond) (i : Nat) : List (List Couple) := (wf ((splitS l).getD i [])).1
theorem partOf_at {i : Nat} (h : i < (splitS l).length) : partOf wf l i = (wf (splitS l)[i]).1 := by unfold partOf; rw [List.getD_eq_getElem?_getD, List.getElem?_eq_getElem h]; rfl
theorem allW_range : allW wf (splitS l) = (List.range (splitS l).length).flatMap (partOf wf l) := by
  unfold allW
  rw [list_range [] (splitS l), List.flatMap_map]
  simp only [List.length_map, List.length_range]
  congr 1
theorem allW_nodup (hQ : ∀ i (h : i < (splitS l).length), PV (splitS l)[i] ds (wf (splitS l)[i]).1) : (allW wf (splitS l)).flatten.Nodup := by
  rw [allW_range]
  have hQ' : ∀ i (h : i < (splitS l).length), PV (splitS l)[i] ds (partOf wf l i) := fun i h => by rw [partOf_at h]; exact hQ i h
  have key : ∀ k, k ≤ (splitS l).length → ((List.range k).flatMap (partOf wf l)).flatten.Nodup ∧ ∀ r ∈ ((List.range k).flatMap (partOf wf l)).flatten, ∃ i, ∃ h : i < (splitS l).length, i < k ∧ r ∈ refsS (splitS l)[i] := by
    intro k
    induction k with
    | zero => intro _; simp
    | succ k ih =>
      intro hk
      obtain ⟨h1, h2⟩ := ih (by omega)
      have hkl : k < (splitS l).length := by omega
      have e : ((List.range (k + 1)).flatMap (partOf wf l)).flatten = ((List.range k).flatMap (partOf wf l)).flatten ++ (partOf wf l k).flatten := by
        rw [List.range_succ, List.flatMap_append, List.flatten_append]; simp
      have hin : ∀ r ∈ (partOf wf l k).flatten, r ∈ refsS (splitS l)[k] := fun r hr => by
        obtain ⟨p, hp, hr⟩ := List.mem_flatten.1 hr
        exact (hQ' k hkl).refs hp hr
      rw [e]
      refine ⟨List.nodup_append.2 ⟨h1, (hQ' k hkl).disj, fun a ha b hb e2 => ?_⟩, fun r hr => ?_⟩
      · subst e2
        obtain ⟨i, hi, hik, h3⟩ := h2 a ha
        have := split_uniq hi hkl h3 (hin a hb)
        omega
      · rcases List.mem_append.1 hr with h3 | h3
        · obtain ⟨i, hi, hik, h4⟩ := h2 r h3; exact ⟨i, hi, by omega, h4⟩
        · exact ⟨k, hkl, by omega, hin r h3⟩
  exact (key _ (Nat.le_refl _)).1
theorem allW_mem {p : List Couple} (hp : p ∈ allW wf (splitS l)) : ∃ i, ∃ h : i < (splitS l).length, p ∈ (wf (splitS l)[i]).1 := by
  unfold allW at hp
  obtain ⟨q, hq, h2⟩ := List.mem_flatMap.1 hp
  obtain ⟨i, hi, rfl⟩ := List.getElem_of_mem hq
  exact ⟨i, hi, h2⟩
theorem allW_len2 (hQ : ∀ i (h : i < (splitS l).length), PV (splitS l)[i] ds (wf (splitS l)[i]).1) : ∀ p ∈ allW wf (splitS l), 2 ≤ p.length := fun p hp => by
  obtain ⟨i, h, h2⟩ := allW_mem hp
  exact (hQ i h).len p h2
theorem len_flat : ∀ {ps : List (List Couple)}, (∀ p ∈ ps, 2 ≤ p.length) → 2 * ps.length ≤ ps.flatten.length
  | [], _ => by simp
  | p :: ps, h => by
    have h1 := h p List.mem_cons_self
    have h2 := len_flat (ps := ps) (fun q hq => h q (List.mem_cons_of_mem _ hq))
    simp only [List.flatten_cons, List.length_append, List.length_cons]
    omega
theorem allW_few (hQ : ∀ i (h : i < (splitS l).length), PV (splitS l)[i] ds (wf (splitS l)[i]).1) : 2 * (allW wf (splitS l)).length ≤ (refsS l).length := by
  refine Nat.le_trans (len_flat (allW_len2 hQ)) ((allW_nodup hQ).length_le_of_subset fun r hr => ?_)
  obtain ⟨p, hp, hr⟩ := List.mem_flatten.1 hr
  obtain ⟨i, h, h2⟩ := allW_mem hp
  exact ((split_mem h).1 ((hQ i h).refs h2 hr)).1
theorem flat_apart : ∀ {ps : List (List Couple)}, ps.flatten.Nodup → ps.Pairwise fun p q => ∀ x ∈ p, x ∉ q
  | [], _ => List.Pairwise.nil
  | p :: ps, h => by
    rw [List.flatten_cons, List.nodup_append] at h
    exact List.pairwise_cons.2 ⟨fun q hq x hx hx2 => h.2.2 x hx x (List.mem_flatten.2 ⟨q, hq, hx2⟩) rfl, flat_apart h.2.1⟩
theorem heads_sorted (hQ : ∀ i (h : i < (splitS l).length), PV (splitS l)[i] ds (wf (splitS l)[i]).1) (h : StS cmpH (allW wf (splitS l)) zs) : zs.Pairwise fun p q => ltP (p.headD ⟨0, 0⟩) (q.headD ⟨0, 0⟩) := by
  have hn : zs.flatten.Nodup := (h.perm.flatten.nodup_iff).2 (allW_nodup hQ)
  have hd := flat_apart hn
  rw [List.pairwise_iff_getElem] at hd ⊢
  intro i j hi hj hij
  have h1 := h.le hij hj
  have h2 := hd i j hi hj hij
  have l1 := allW_len2 hQ _ (h.perm.mem_iff.1 (List.getElem_mem hi)); have l2 := allW_len2 hQ _ (h.perm.mem_iff.1 (List.getElem_mem hj))
  have hm : ∀ {s : List Couple}, 2 ≤ s.length → s.headD ⟨0, 0⟩ ∈ s := fun {s} h => by cases s with | nil => simp at h | cons a t => simp
  refine cmpC_neg.1 ?_
  unfold cmpH at h1
  rcases Int.lt_or_eq_of_le h1 with h3 | h3
  · exact h3
  · have h4 := (cmpC_3 (x := zs[i].headD ⟨0, 0⟩) (y := zs[j].headD ⟨0, 0⟩)).2.1.1 h3
    have h5 : zs[i].headD ⟨0, 0⟩ = zs[j].headD ⟨0, 0⟩ := by
      generalize zs[i].headD ⟨0, 0⟩ = a at h4; generalize zs[j].headD ⟨0, 0⟩ = b at h4
      obtain ⟨a1, a2⟩ := a; obtain ⟨b1, b2⟩ := b
      obtain ⟨e1, e2⟩ := h4
      simp only at e1 e2
      subst e1 e2; rfl
    exact absurd (h5 ▸ hm l2 : zs[i].headD ⟨0, 0⟩ ∈ zs[j]) (h2 _ (hm l1))
theorem sol_PV (hQ : ∀ i (h : i < (splitS l).length), PV (splitS l)[i] ds (wf (splitS l)[i]).1) (h : StS cmpH (allW wf (splitS l)) zs) :
    PV l ds zs ∧ ∀ i (h : i < (splitS l).length), valueB (splitS l)[i] zs = valueB (splitS l)[i] (wf (splitS l)[i]).1 := by
  obtain ⟨h1, h2⟩ := all_PV (Q := partOf wf l) (fun i hi => by rw [partOf_at hi]; exact hQ i hi) (by rw [← allW_range]; exact h.perm) (heads_sorted hQ h)
  exact ⟨h1, fun i hi => by rw [h2 i hi, partOf_at hi]⟩
theorem stS_sub {α : Type} {c : α → α → Int} {ys : List α} : ∀ x ∈ stS c ys, x ∈ ys := fun x hx => by
  unfold stS at hx
  split at hx
  · rename_i h; exact h.choose_spec.sub x hx
  · exact hx
theorem greedyF_PV (l : List Bond) (ds : List Dcs) : PV l ds (greedyF l ds) := greedy_PV l ds stS_sub
theorem wayS_PV (ds : List Dcs) (l : List Bond) : PV l ds (wayS ds l).1 := by
  unfold wayS; split
  · exact exact_PV l ds
  · exact greedyF_PV l ds
theorem split_some {i : Nat} (h : i < (splitS l).length) : (splitS l)[i] ≠ [] := fun e => by
  have hq := List.getElem_mem (split_lt h)
  have hr : (firstsS (rhoS l) (refsS l))[i]'(split_lt h) ∈ refsS l := (firsts_sub _ _).subset hq
  have := (split_mem h).2 ⟨hr, rfl⟩
  rw [e] at this
  obtain ⟨x, hx, _⟩ := mem_refsS.1 this
  cases hx
theorem split_short {i : Nat} (h : i < (splitS l).length) : (splitS l)[i].length ≤ l.length := by
  rw [splitS_get]; exact List.length_filter_le _ _
theorem split_refsl {i : Nat} (h : i < (splitS l).length) : (refsS (splitS l)[i]).length ≤ (refsS l).length :=
  (refsS_nodup _).length_le_of_subset fun r hr => ((split_mem h).1 hr).1
end
end Go.K

/- The laws of persons: apart, best, large, scaled. Plain. -/
namespace Go.K
open Rep
section
variable {l l' : List Bond} {ds ds' : List Dcs} {ps zs us : List (List Couple)}
theorem idx_mem {l : List Couple} {c : Couple} : 0 ≤ idxOf (fun x => decide (c = x)) l ↔ c ∈ l := by
  have h := idxOf_ge (p := fun x => decide (c = x)) (l := l)
  rw [show (l.any fun x => decide (c = x)) = decide (c ∈ l) from by rw [Bool.eq_iff_iff, List.any_eq_true, decide_eq_true_eq]; simp] at h
  exact decide_eq_decide.1 h
end
end Go.K

/- The bonds of a chain, and decisions that a deck deals. Plain. -/
namespace Go.K
open Rep
section
variable {p : Nat} {l : List Bond}
theorem refs_few {R I : Nat} {s : List Couple} (hn : s.Nodup) (h : ∀ r ∈ s, 0 ≤ r.a ∧ r.a < R ∧ 1 ≤ r.b ∧ r.b ≤ I) : s.length ≤ R * I := by
  have := hn.length_le_of_subset (l₂ := (List.range R).flatMap fun a : Nat => (List.range I).map fun b : Nat => (⟨(a : Int), (b : Int) + 1⟩ : Couple)) fun r hr => by
    have h1 := h r hr
    obtain ⟨a, b⟩ := r
    simp only at h1
    refine List.mem_flatMap.2 ⟨a.toNat, List.mem_range.2 (by omega), List.mem_map.2 ⟨(b - 1).toNat, List.mem_range.2 (by omega), ?_⟩⟩
    rw [Int.toNat_of_nonneg (by omega), Int.toNat_of_nonneg (by omega)]
    congr 1; omega
  refine Nat.le_trans this (Nat.le_of_eq ?_)
  rw [List.length_flatMap]
  simp only [List.length_map, List.length_range]
  have key : ∀ L : List Nat, (L.map fun _ => I).sum = L.length * I := by
    intro L
    induction L with
    | nil => simp
    | cons a t ih => rw [List.map_cons, List.sum_cons, ih, List.length_cons, Nat.succ_mul, Nat.add_comm]
  rw [key, List.length_range]
theorem Dlt.few {R I : Nat} (h : Dlt R I l) : (refsS l).length ≤ R * I := refs_few (refsS_nodup l) fun r hr => by
  obtain ⟨x, hx, e⟩ := mem_refsS.1 hr
  have h1 := h.1 x hx
  unfold okR at h1
  rcases e with rfl | rfl <;> omega
end
end Go.K

/- Further laws of persons: parts by themselves, the exact way within limits. Plain. -/
namespace Go.K
open Rep
section
variable {l l' : List Bond} {ds : List Dcs} {zs us ps : List (List Couple)}
theorem part_conn {i : Nat} (h : i < (splitS l).length) : ∀ a ∈ refsS (splitS l)[i], ∀ b ∈ refsS (splitS l)[i], rhoS (splitS l)[i] a = rhoS (splitS l)[i] b := fun a ha b hb => by
  have key := fun r => rho_inv (p := fun r => if r ∈ refsS (splitS l)[i] then some (rhoS (splitS l)[i] r) else none) (l := l) (fun x hx => by
    by_cases hp : x ∈ (splitS l)[i]
    · rw [if_pos (mem_refsS.2 ⟨x, hp, .inl rfl⟩), if_pos (mem_refsS.2 ⟨x, hp, .inr rfl⟩), rho_edge hp]
    · rw [if_neg (fun hm => hp ((split_bond h).2 ⟨hx, ((split_mem h).1 hm).2⟩)), if_neg (fun hm => hp ((split_bond h).2 ⟨hx, by rw [rho_edge hx]; exact ((split_mem h).1 hm).2⟩))]) r
  have e : rhoS l a = rhoS l b := ((split_mem h).1 ha).2.trans ((split_mem h).1 hb).2.symm
  have h1 := key a; have h2 := key b
  rw [e] at h1
  have h3 := h1.symm.trans h2
  rw [if_pos ha, if_pos hb] at h3
  exact Option.some.inj h3
theorem split_one (hne : l ≠ []) (hc : ∀ a ∈ refsS l, ∀ b ∈ refsS l, rhoS l a = rhoS l b) : splitS l = [l] := by
  obtain ⟨x, hx⟩ : ∃ x, x ∈ l := List.exists_mem_of_ne_nil _ hne
  have hr : x.A ∈ refsS l := mem_refsS.2 ⟨x, hx, .inl rfl⟩
  obtain ⟨q, hq, _⟩ := firsts_cover (f := rhoS l) hr
  have hn := firsts_nodup (rhoS l) (refsS l)
  have hs := (firsts_sub (rhoS l) (refsS l)).subset
  have hf : firstsS (rhoS l) (refsS l) = [q] := by
    generalize firstsS (rhoS l) (refsS l) = fs at *
    match fs, hq, hn, hs with
    | [a], hq, _, _ => rw [List.mem_singleton.1 hq]
    | a :: b :: t, _, hn, hs =>
      have := hc a (hs (by simp)) b (hs (by simp))
      simp [this] at hn
  unfold splitS
  rw [hf, List.map_cons, List.map_nil]
  congr 1
  refine List.filter_eq_self.2 fun y hy => decide_eq_true ?_
  exact hc _ (mem_refsS.2 ⟨y, hy, .inl rfl⟩) _ (hs (by rw [hf]; simp))
theorem split_part {i : Nat} (h : i < (splitS l).length) : splitS (splitS l)[i] = [(splitS l)[i]] := split_one (split_some h) (part_conn h)
end
end Go.K

/- Solving again what is touched. Plain. -/
namespace Go.K
open Rep
section
variable {l : List Bond} {ds ds' : List Dcs} {R : List Couple}
theorem barB_on (h : ∀ a ∈ R, ∀ b ∈ R, apB ds a b = apB ds' a b) {a b : Couple} (ha : a ∈ R) (hb : b ∈ R) : barB ds a b = barB ds' a b := by unfold barB; rw [h a ha b hb, h b hb a ha]
theorem any_congr {α : Type} {p q : α → Bool} : ∀ {s : List α}, (∀ x ∈ s, p x = q x) → s.any p = s.any q
  | [], _ => rfl
  | a :: t, h => by rw [List.any_cons, List.any_cons, h a (by simp), any_congr fun x hx => h x (by simp [hx])]
theorem okSet_on (h : ∀ a ∈ R, ∀ b ∈ R, apB ds a b = apB ds' a b) {s : List Couple} {r : Couple} (hs : ∀ x ∈ s, x ∈ R) (hr : r ∈ R) : okSet ds s r = okSet ds' s r := by
  unfold okSet; rw [any_congr fun x hx => barB_on h (hs x hx) hr]
theorem getD_sub {sets : List (List Couple)} (hs : ∀ s ∈ sets, ∀ x ∈ s, x ∈ R) (k : Nat) : ∀ x ∈ sets.getD k [], x ∈ R := fun x hx => by
  have hk := getD_lt hx
  rw [getD_at hk] at hx
  exact hs _ (List.getElem_mem hk) x hx
theorem allP_on (h : ∀ a ∈ R, ∀ b ∈ R, apB ds a b = apB ds' a b) : ∀ (rs : List Couple) (sets : List (List Couple)), (∀ r ∈ rs, r ∈ R) → (∀ s ∈ sets, ∀ x ∈ s, x ∈ R) → allP ds rs sets = allP ds' rs sets
  | [], _, _, _ => rfl
  | r :: rs, sets, hr, hs => by
    have hr0 := hr r (by simp)
    have hrs : ∀ x ∈ rs, x ∈ R := fun x hx => hr x (by simp [hx])
    rw [allP, allP, allP_on h rs (sets ++ [[r]]) hrs (fun s hm x hx => by
      rcases List.mem_append.1 hm with hm | hm
      · exact hs s hm x hx
      · rw [List.mem_singleton] at hm; subst hm; rw [List.mem_singleton] at hx; subst hx; exact hr0)]
    congr 2
    funext k
    rw [okSet_on h (getD_sub hs k) hr0]
    split
    · refine allP_on h rs _ hrs fun s hm x hx => ?_
      rcases List.mem_or_eq_of_mem_set hm with hm | hm
      · exact hs s hm x hx
      · subst hm
        rcases List.mem_append.1 hx with hx | hx
        · exact getD_sub hs k x hx
        · rw [List.mem_singleton] at hx; subst hx; exact hr0
    · rfl
theorem exactF_on (h : ∀ a ∈ refsS l, ∀ b ∈ refsS l, apB ds a b = apB ds' a b) : exactF l ds = exactF l ds' := by
  unfold exactF placeF; rw [allP_on h _ _ (fun r hr => hr) (by simp)]
theorem grStep_on (h : ∀ a ∈ R, ∀ b ∈ R, apB ds a b = apB ds' a b) {g : Couple → List Couple} (hg : ∀ r ∈ R, ∀ x ∈ g r, x ∈ R) {b : Bond} (hA : b.A ∈ R) (hB : b.B ∈ R) :
    grStep ds g b = grStep ds' g b ∧ ∀ r ∈ R, ∀ x ∈ grStep ds g b r, x ∈ R := by
  have e : sepB ds (g b.A) (g b.B) = sepB ds' (g b.A) (g b.B) := by
    unfold sepB; exact any_congr fun x hx => any_congr fun y hy => barB_on h (hg _ hA x hx) (hg _ hB y hy)
  refine ⟨by unfold grStep; rw [e], fun r hr x hx => ?_⟩
  unfold grStep at hx
  split at hx
  · exact hg r hr x hx
  · simp only at hx
    split at hx
    · rcases List.mem_append.1 hx with hx | hx
      · exact hg _ hA x hx
      · exact hg _ hB x hx
    · exact hg r hr x hx
theorem grG_on (h : ∀ a ∈ R, ∀ b ∈ R, apB ds a b = apB ds' a b) : ∀ (ord : List Bond) (g : Couple → List Couple), (∀ r ∈ R, ∀ x ∈ g r, x ∈ R) → (∀ b ∈ ord, b.A ∈ R ∧ b.B ∈ R) → ord.foldl (grStep ds) g = ord.foldl (grStep ds') g
  | [], _, _, _ => rfl
  | b :: ord, g, hg, hb => by
    obtain ⟨e, hg2⟩ := grStep_on h hg (hb b (by simp)).1 (hb b (by simp)).2
    rw [List.foldl_cons, List.foldl_cons, ← e]
    exact grG_on h ord _ hg2 fun c hc => hb c (by simp [hc])
theorem greedyF_on (h : ∀ a ∈ refsS l, ∀ b ∈ refsS l, apB ds a b = apB ds' a b) : greedyF l ds = greedyF l ds' := by
  unfold greedyF grG
  rw [grG_on h _ _ (fun r hr x hx => by rw [List.mem_singleton] at hx; subst hx; exact hr) fun b hb => ⟨mem_refsS.2 ⟨b, stS_sub b hb, .inl rfl⟩, mem_refsS.2 ⟨b, stS_sub b hb, .inr rfl⟩⟩]
theorem wayS_on (h : ∀ a ∈ refsS l, ∀ b ∈ refsS l, apB ds a b = apB ds' a b) : wayS ds l = wayS ds' l := by unfold wayS; rw [exactF_on h, greedyF_on h]
end
def endsL (s : List Couple) (l : List Bond) : List Bond := l.filter fun x => decide (x.A ∈ s ∨ x.B ∈ s)
def sameAp (d1 d2 : List Dcs) (s : List Couple) : Prop := ∀ a ∈ s, ∀ b ∈ s, apB d1 a b = apB d2 a b
instance (d1 d2 : List Dcs) (s : List Couple) : Decidable (sameAp d1 d2 s) := by unfold sameAp; exact inferInstance
def keptB (old : List Bond) (d1 d2 : List Dcs) (s : List Couple) (bs : List Bond) : Bool := decide (endsL s old = bs ∧ sameAp d1 d2 s)
section
variable {old nw : List Bond} {d1 d2 : List Dcs} {zs us ys out : List (List Couple)}
theorem endsL_mem {s : List Couple} {l : List Bond} {x : Bond} : x ∈ endsL s l ↔ x ∈ l ∧ (x.A ∈ s ∨ x.B ∈ s) := by unfold endsL; rw [List.mem_filter, decide_eq_true_eq]
theorem kept_part {i : Nat} (h : i < (splitS nw).length) (hk : endsL (refsS (splitS nw)[i]) old = (splitS nw)[i]) : ∃ j, ∃ hj : j < (splitS old).length, (splitS old)[j] = (splitS nw)[i] := by
  obtain ⟨P, hP⟩ : ∃ P, P = (splitS nw)[i] := ⟨_, rfl⟩
  have hne : P ≠ [] := by rw [hP]; exact split_some h
  have hc : ∀ a ∈ refsS P, ∀ b ∈ refsS P, rhoS P a = rhoS P b := by rw [hP]; exact part_conn h
  rw [← hP] at hk ⊢
  obtain ⟨x, hx⟩ : ∃ x, x ∈ P := List.exists_mem_of_ne_nil _ hne
  have hPo : ∀ y ∈ P, y ∈ old := fun y hy => by rw [← hk] at hy; exact (endsL_mem.1 hy).1
  have hxR : x.A ∈ refsS P := mem_refsS.2 ⟨x, hx, .inl rfl⟩
  obtain ⟨j, hj, hjx⟩ := split_has (mem_refsS.2 ⟨x, hPo x hx, .inl rfl⟩ : x.A ∈ refsS old)
  refine ⟨j, hj, ?_⟩
  have hq := ((split_mem hj).1 hjx).2
  have hinv := fun r => rho_inv (p := fun r => decide (r ∈ refsS P)) (l := old) (fun y hy => by
    refine decide_eq_decide.2 ⟨fun hm => ?_, fun hm => ?_⟩
    · have : y ∈ P := by rw [← hk]; exact endsL_mem.2 ⟨hy, .inl hm⟩
      exact mem_refsS.2 ⟨y, this, .inr rfl⟩
    · have : y ∈ P := by rw [← hk]; exact endsL_mem.2 ⟨hy, .inr hm⟩
      exact mem_refsS.2 ⟨y, this, .inl rfl⟩) r
  rw [← hk]
  rw [splitS_get]
  unfold endsL
  refine List.filter_congr fun y hy => ?_
  rw [← hq]
  refine decide_eq_decide.2 ⟨fun e => .inl ?_, fun e => ?_⟩
  · have h1 := hinv y.A; have h2 := hinv x.A
    rw [e] at h1
    have h3 := h1.symm.trans h2
    rw [decide_eq_true hxR] at h3
    exact of_decide_eq_true h3
  · have hy2 : y ∈ P := by rw [← hk]; exact endsL_mem.2 ⟨hy, e⟩
    exact rho_ker hPo (hc _ (mem_refsS.2 ⟨y, hy2, .inl rfl⟩) _ hxR)
theorem perm_pw {α : Type} {r : α → α → Prop} (hr : ∀ x y, r x y → r y x → False) : ∀ {a b : List α}, a.Perm b → a.Pairwise r → b.Pairwise r → a = b
  | [], b, hp, _, _ => hp.nil_eq
  | x :: a, b, hp, ha, hb => by
    cases b with
    | nil => exact absurd hp.length_eq (by simp)
    | cons y b =>
      have hxy : x = y := by
        rcases List.mem_cons.1 (hp.mem_iff.1 (List.mem_cons_self : x ∈ x :: a)) with e | hx
        · exact e
        · rcases List.mem_cons.1 (hp.mem_iff.2 (List.mem_cons_self : y ∈ y :: b)) with e | hy
          · exact e.symm
          · exact (hr x y ((List.pairwise_cons.1 ha).1 y hy) ((List.pairwise_cons.1 hb).1 x hx)).elim
      subst hxy
      rw [perm_pw hr (List.Perm.cons_inv hp) (List.pairwise_cons.1 ha).2 (List.pairwise_cons.1 hb).2]
theorem heads_pw {A : List (List Couple)} (hl : ∀ p ∈ A, 2 ≤ p.length) (hd : A.flatten.Nodup) (h : StS cmpH A zs) : zs.Pairwise fun p q => ltP (p.headD ⟨0, 0⟩) (q.headD ⟨0, 0⟩) := by
  have hn : zs.flatten.Nodup := (h.perm.flatten.nodup_iff).2 hd
  have hd := flat_apart hn
  rw [List.pairwise_iff_getElem] at hd ⊢
  intro i j hi hj hij
  have h1 := h.le hij hj
  have h2 := hd i j hi hj hij
  have l1 := hl _ (h.perm.mem_iff.1 (List.getElem_mem hi)); have l2 := hl _ (h.perm.mem_iff.1 (List.getElem_mem hj))
  have hm : ∀ {s : List Couple}, 2 ≤ s.length → s.headD ⟨0, 0⟩ ∈ s := fun {s} h => by cases s with | nil => simp at h | cons a t => simp
  refine cmpC_neg.1 ?_
  unfold cmpH at h1
  rcases Int.lt_or_eq_of_le h1 with h3 | h3
  · exact h3
  · have h5 := cmpC_zero.1 h3
    exact absurd (h5 ▸ hm l2 : zs[i].headD ⟨0, 0⟩ ∈ zs[j]) (h2 _ (hm l1))
theorem sts_perm {A B : List (List Couple)} (hp : A.Perm B) (hl : ∀ p ∈ B, 2 ≤ p.length) (hd : B.flatten.Nodup) (h1 : StS cmpH A us) (h2 : StS cmpH B ys) : us = ys := by
  have hA : ∀ p ∈ A, 2 ≤ p.length := fun p hm => hl p (hp.mem_iff.1 hm)
  have hdA : A.flatten.Nodup := (hp.flatten.nodup_iff).2 hd
  refine perm_pw (r := fun p q => ltP (p.headD ⟨0, 0⟩) (q.headD ⟨0, 0⟩)) (fun x y a b => ltP_irrefl _ (ltP_trans a b)) (h1.perm.trans (hp.trans h2.perm.symm)) (heads_pw hA hdA h1) (heads_pw hl hd h2)
theorem flatMap_one {α β : Type} {f : α → List β} {L : List α} {j : Nat} (hj : j < L.length) (h : ∀ i (hi : i < L.length), i ≠ j → f L[i] = []) : L.flatMap f = f L[j] := by
  have e : L = L.take j ++ L[j] :: L.drop (j + 1) := by rw [← List.drop_eq_getElem_cons hj, List.take_append_drop]
  have h1 : (L.take j).flatMap f = [] := List.flatMap_eq_nil_iff.2 fun x hx => by
    obtain ⟨i, hi, rfl⟩ := List.getElem_of_mem hx
    rw [List.length_take] at hi
    rw [List.getElem_take]
    exact h i (by omega) (by omega)
  have h2 : (L.drop (j + 1)).flatMap f = [] := List.flatMap_eq_nil_iff.2 fun x hx => by
    obtain ⟨i, hi, rfl⟩ := List.getElem_of_mem hx
    rw [List.length_drop] at hi
    rw [List.getElem_drop]
    exact h _ (by omega) (by omega)
  conv => lhs; rw [e]
  rw [List.flatMap_append, List.flatMap_cons, h1, h2]; simp
theorem head_mem2 {s : List Couple} (h : 2 ≤ s.length) : s.headD ⟨0, 0⟩ ∈ s := by cases s with | nil => simp at h | cons a t => simp
theorem kept_perm (hS : StS cmpH (allW (wayS d1) (splitS old)) zs) {i : Nat} (h : i < (splitS nw).length) (hk : keptB old d1 d2 (refsS (splitS nw)[i]) (splitS nw)[i] = true) :
    (zs.filter fun p => decide (p.headD ⟨0, 0⟩ ∈ refsS (splitS nw)[i])).Perm (wayS d2 (splitS nw)[i]).1 := by
  obtain ⟨hk1, hk2⟩ := of_decide_eq_true hk
  obtain ⟨j, hj, e⟩ := kept_part h hk1
  rw [← wayS_on hk2, ← e]
  refine (hS.perm.filter _).trans (List.Perm.of_eq ?_)
  unfold allW
  rw [List.filter_flatMap, flatMap_one hj]
  · refine List.filter_eq_self.2 fun p hp => decide_eq_true ?_
    have hP := wayS_PV d1 (splitS old)[j]
    exact hP.refs hp (head_mem2 (hP.len p hp))
  · intro k hkl hne
    refine List.filter_eq_nil_iff.2 fun p hp hm => hne ?_
    have hP := wayS_PV d1 (splitS old)[k]
    exact split_uniq hkl hj (hP.refs hp (head_mem2 (hP.len p hp))) (of_decide_eq_true hm)
theorem anew_perm {i : Nat} (h : i < (splitS nw).length) (hS : StS cmpH (allW (wayS d2) (splitS (splitS nw)[i])) us) : us.Perm (wayS d2 (splitS nw)[i]).1 := by
  have := hS.perm
  rw [split_part h] at this
  simpa [allW] using this
def unkept (old : List Bond) (d1 d2 : List Dcs) (nw : List Bond) (k : Nat) : List (List Couple) := (((splitS nw).take k).filter fun p => !keptB old d1 d2 (refsS p) p).map refsS
theorem unkept_next {k : Nat} (h : k < (splitS nw).length) : unkept old d1 d2 nw (k + 1) = if keptB old d1 d2 (refsS (splitS nw)[k]) (splitS nw)[k] = true then unkept old d1 d2 nw k else unkept old d1 d2 nw k ++ [refsS (splitS nw)[k]] := by
  unfold unkept
  rw [List.take_succ_eq_append_getElem h, List.filter_append, List.map_append]
  by_cases e : keptB old d1 d2 (refsS (splitS nw)[k]) (splitS nw)[k] = true
  · rw [if_pos e, List.filter_cons_of_neg (by simp [e])]; simp
  · rw [if_neg e, List.filter_cons_of_pos (by simpa using e)]; simp
theorem unkept_le (k : Nat) : (unkept old d1 d2 nw k).length ≤ (splitS nw).length := by
  unfold unkept
  rw [List.length_map]
  exact Nat.le_trans (List.length_filter_le _ _) (by rw [List.length_take]; omega)
theorem again_same (hp : out.Perm (allW (wayS d2) (splitS nw))) (h1 : StS cmpH out us) (h2 : StS cmpH (allW (wayS d2) (splitS nw)) ys) : us = ys :=
  sts_perm hp (allW_len2 fun i hi => wayS_PV d2 _) (allW_nodup fun i hi => wayS_PV d2 _) h1 h2
end
end Go.K

/- Bonds that are changed, and what is touched. Plain. -/
namespace Go.K
open Rep
def okG (m : Int) (x : Bond) : Prop := 0 ≤ x.A.a ∧ x.A.a < x.B.a ∧ x.B.a < 3 ∧ 1 ≤ x.A.b ∧ x.A.b ≤ 4 ∧ 1 ≤ x.B.b ∧ x.B.b ≤ 4 ∧ 1 ≤ x.w ∧ x.w ≤ m
def Gd (m : Int) (l : List Bond) : Prop := (∀ x ∈ l, okG m x) ∧ l.Pairwise lt2
section
variable {m : Int} {l sl : List Bond}
theorem Gd.of (h : Dlt 3 3 l) : Gd 9 l := ⟨fun x hx => by have := h.1 x hx; unfold okR at this; unfold okG; omega, h.2.1⟩
theorem Gd.nil : Gd m [] := ⟨by simp, List.Pairwise.nil⟩
theorem Gd.len (h : Gd m l) : l.length ≤ 256 := by
  have := asc_len (fun x : Bond => (x.A.a * 64 + (x.A.b - 1) * 16 + x.B.a * 4 + (x.B.b - 1)).toNat) 256 l 0 (h.2.imp_of_mem fun {x y} hx hy hxy => by
    have h1 := h.1 x hx; have h2 := h.1 y hy
    unfold okG at h1 h2
    have e : ltP x.A y.A ∨ (x.A.a = y.A.a ∧ x.A.b = y.A.b) ∧ ltP x.B y.B := by
      rcases hxy with e | ⟨e1, e2⟩
      · exact .inl e
      · exact .inr ⟨by rw [e1]; exact ⟨rfl, rfl⟩, e2⟩
    unfold ltP at e
    show (x.A.a * 64 + (x.A.b - 1) * 16 + x.B.a * 4 + (x.B.b - 1)).toNat < (y.A.a * 64 + (y.A.b - 1) * 16 + y.B.a * 4 + (y.B.b - 1)).toNat
    omega) (fun x hx => by
    have h1 := h.1 x hx
    unfold okG at h1
    show 0 ≤ _ ∧ (x.A.a * 64 + (x.A.b - 1) * 16 + x.B.a * 4 + (x.B.b - 1)).toNat < 256
    omega)
  simpa using this
theorem Gd.vld (h : Gd m l) (hm : m ≤ 1048576) : Vld l := ⟨by have := h.len; omega, fun x hx => by
  have h1 := h.1 x hx
  unfold okG at h1
  refine ⟨?_, by omega, by omega⟩
  unfold cplOK refOK
  simp only [Bool.and_eq_true, decide_eq_true_eq]
  omega, h.2⟩
theorem Gd.few (h : Gd m l) : (refsS l).length ≤ 12 := refs_few (R := 3) (I := 4) (refsS_nodup l) fun r hr => by
  obtain ⟨x, hx, e⟩ := mem_refsS.1 hr
  have h1 := h.1 x hx
  unfold okG at h1
  rcases e with rfl | rfl <;> omega
structure SubW (m : Int) (l sl : List Bond) (i : Nat) : Prop where
  gd : Gd m sl
  from_ : ∀ x ∈ sl, ∃ y ∈ l.take i, y.A = x.A ∧ y.B = x.B
  len : sl.length ≤ i
theorem SubW.nil (m : Int) (l : List Bond) : SubW m l [] 0 := ⟨Gd.nil, by simp, by simp⟩
theorem SubW.skip {i : Nat} (h : SubW m l sl i) (hi : i < l.length) : SubW m l sl (i + 1) := ⟨h.gd, fun x hx => by
  obtain ⟨y, hy, e⟩ := h.from_ x hx
  exact ⟨y, by rw [List.take_succ_eq_append_getElem hi]; exact List.mem_append.2 (.inl hy), e⟩, by have := h.len; omega⟩
theorem SubW.push {i : Nat} (h : SubW m l sl i) (hi : i < l.length) (hp : l.Pairwise lt2) {x : Bond} (hx : okG m x) (hA : (l[i]'hi).A = x.A) (hB : (l[i]'hi).B = x.B) : SubW m l (sl ++ [x]) (i + 1) := by
  refine ⟨⟨fun y hy => ?_, ?_⟩, fun y hy => ?_, by have := h.len; simp only [List.length_append, List.length_cons, List.length_nil]; omega⟩
  · rcases List.mem_append.1 hy with hy | hy
    · exact h.gd.1 y hy
    · rw [List.mem_singleton] at hy; subst hy; exact hx
  · refine List.pairwise_append.2 ⟨h.gd.2, by simp, fun y hy z hz => ?_⟩
    rw [List.mem_singleton] at hz; subst hz
    obtain ⟨u, hu, e1, e2⟩ := h.from_ y hy
    obtain ⟨k, hk, rfl⟩ := List.getElem_of_mem hu
    rw [List.length_take] at hk
    rw [List.getElem_take] at e1 e2
    have := List.pairwise_iff_getElem.1 hp k i (by omega) hi (by omega)
    unfold lt2 at this ⊢
    rw [← e1, ← e2, ← hA, ← hB]; exact this
  · rw [List.take_succ_eq_append_getElem hi]
    rcases List.mem_append.1 hy with hy | hy
    · obtain ⟨u, hu, e⟩ := h.from_ y hy
      exact ⟨u, List.mem_append.2 (.inl hu), e⟩
    · rw [List.mem_singleton] at hy; subst hy
      exact ⟨l[i], List.mem_append.2 (.inr (by simp)), hA, hB⟩
end
section
variable {old nw : List Bond}
theorem touch_law {r : Couple} (ho : old.Pairwise lt2) (hn : nw.Pairwise lt2) (h1 : ∀ x, x.A ≠ r → x.B ≠ r → (x ∈ old ↔ x ∈ nw)) {i : Nat} (h : i < (splitS nw).length)
    (hb : ∀ y ∈ refsS (splitS nw)[i], ¬ (y ∈ refsS old ∧ rhoS old y = rhoS old r)) (hr : r ∈ refsS old) (hnr : r ∉ refsS (splitS nw)[i]) : keptB old [] [] (refsS (splitS nw)[i]) (splitS nw)[i] = true := by
  refine decide_eq_true ⟨?_, fun a _ b _ => rfl⟩
  have hsub : ((splitS nw)[i]).Pairwise lt2 := by rw [splitS_get]; exact hn.sublist List.filter_sublist
  have hend : (endsL (refsS (splitS nw)[i]) old).Pairwise lt2 := ho.sublist List.filter_sublist
  have irr : ∀ x y : Bond, lt2 x y → lt2 y x → False := fun x y a b => by
    unfold lt2 at a b
    rcases a with a | ⟨a1, a2⟩
    · rcases b with b | ⟨b1, b2⟩
      · exact ltP_irrefl _ (ltP_trans a b)
      · rw [b1] at a; exact ltP_irrefl _ a
    · rcases b with b | ⟨b1, b2⟩
      · rw [a1] at b; exact ltP_irrefl _ b
      · exact ltP_irrefl _ (ltP_trans a2 b2)
  refine perm_pw irr ((List.perm_ext_iff_of_nodup ?_ ?_).2 fun x => ?_) hend hsub
  · exact List.nodup_iff_pairwise_ne.2 (hend.imp fun {x y} hxy e => by subst e; exact irr _ _ hxy hxy)
  · exact List.nodup_iff_pairwise_ne.2 (hsub.imp fun {x y} hxy e => by subst e; exact irr _ _ hxy hxy)
  · rw [endsL_mem]
    constructor
    · rintro ⟨hx, he⟩
      have hA : x.A ≠ r := fun e => by
        rcases he with he | he
        · rw [e] at he; exact hnr he
        · exact hb _ he ⟨mem_refsS.2 ⟨x, hx, .inr rfl⟩, by rw [← rho_edge hx, e]⟩
      have hB : x.B ≠ r := fun e => by
        rcases he with he | he
        · exact hb _ he ⟨mem_refsS.2 ⟨x, hx, .inl rfl⟩, by rw [rho_edge hx, e]⟩
        · rw [e] at he; exact hnr he
      have hxn := (h1 x hA hB).1 hx
      refine (split_bond h).2 ⟨hxn, ?_⟩
      rcases he with he | he
      · exact ((split_mem h).1 he).2
      · rw [rho_edge hxn]; exact ((split_mem h).1 he).2
    · intro hx
      have hA : x.A ∈ refsS (splitS nw)[i] := mem_refsS.2 ⟨x, hx, .inl rfl⟩
      have hB : x.B ∈ refsS (splitS nw)[i] := mem_refsS.2 ⟨x, hx, .inr rfl⟩
      exact ⟨(h1 x (fun e => hnr (e ▸ hA)) (fun e => hnr (e ▸ hB))).2 ((split_bond h).1 hx).1, .inl hA⟩
end
end Go.K

/- Couples that are set apart within some refs, sorted, each once. Plain. -/
namespace Go.K
open Rep
abbrev CC := Couple × Couple
def encCC (x : CC) : List Value := [.int .i64 x.1.a, .int .i64 x.1.b, .int .i64 x.2.a, .int .i64 x.2.b]
theorem rep_cc {h : Array Obj} {M : Nat → Prop} {x : CC} {vs : List Value} : rep h M x vs ↔ vs = encCC x := by
  constructor
  · rintro ⟨us, ws, rfl, h1, h2⟩
    have h1 := rep_couple.1 h1; have h2 := rep_couple.1 h2
    subst h1 h2; rfl
  · intro e; exact ⟨encR x.1, encR x.2, e, rep_couple.2 rfl, rep_couple.2 rfl⟩
theorem rv_cc {w : World} {M : Nat → Prop} {x : CC} {v : Value} : RV w M x v ↔ v = .agg (encCC x).toArray := by
  constructor
  · rintro ⟨vs, h, e⟩; rw [rep_cc.1 h] at e; exact e
  · intro e; exact ⟨_, rep_cc.2 rfl, e⟩
def cmpCC (x y : CC) : Int := orL [cmpC x.1 y.1, cmpC x.2 y.2]
def ltCC (x y : CC) : Prop := ltP x.1 y.1 ∨ x.1 = y.1 ∧ ltP x.2 y.2
theorem cmpCC_neg {x y : CC} : cmpCC x y < 0 ↔ ltCC x y := by
  have := cmp2_ge (x := ⟨x.1, x.2, 0⟩) (y := ⟨y.1, y.2, 0⟩)
  unfold cmp2 lt2 at this
  unfold cmpCC ltCC
  simp only at this
  constructor
  · intro h; exact Classical.not_not.1 fun hn => absurd (this.2 hn) (by omega)
  · intro h; exact Int.not_le.1 fun hn => this.1 hn h
theorem ltCC_irrefl (x : CC) : ¬ ltCC x x := by unfold ltCC; rintro (h | ⟨_, h⟩) <;> exact ltP_irrefl _ h
theorem ltCC_trans {x y z : CC} (h1 : ltCC x y) (h2 : ltCC y z) : ltCC x z := by
  unfold ltCC at *
  rcases h1 with a | ⟨a1, a2⟩
  · rcases h2 with b | ⟨b1, _⟩
    · exact .inl (ltP_trans a b)
    · exact .inl (by rw [← b1]; exact a)
  · rcases h2 with b | ⟨b1, b2⟩
    · exact .inl (by rw [a1]; exact b)
    · exact .inr ⟨a1.trans b1, ltP_trans a2 b2⟩
theorem ltCC_tri (x y : CC) : ltCC x y ∨ x = y ∨ ltCC y x := by
  obtain ⟨a, b⟩ := x; obtain ⟨c, d⟩ := y
  unfold ltCC
  simp only [Prod.mk.injEq]
  rcases ltP_tri a c with h | h | h
  · exact .inl (.inl h)
  · rcases ltP_tri b d with g | g | g
    · exact .inl (.inr ⟨h, g⟩)
    · exact .inr (.inl ⟨h, g⟩)
    · exact .inr (.inr (.inr ⟨h.symm, g⟩))
  · exact .inr (.inr (.inl h))
def leCC (x y : CC) : Bool := !decide (cmpCC y x < 0)
theorem leCC_iff {x y : CC} : leCC x y = true ↔ ¬ ltCC y x := by unfold leCC; rw [← cmpCC_neg]; simp
theorem leCC_anti (x y : CC) (h : leCC x y = true) (h' : leCC y x = true) : x = y := by
  rcases ltCC_tri x y with g | g | g
  · exact absurd g (leCC_iff.1 h')
  · exact g
  · exact absurd g (leCC_iff.1 h)
theorem leCC_trans (x y z : CC) (h : leCC x y = true) (h' : leCC y z = true) : leCC x z = true := leCC_iff.2 fun g => by
  rcases ltCC_tri x y with a | a | a
  · exact leCC_iff.1 h' (ltCC_trans g a)
  · subst a; exact leCC_iff.1 h' g
  · exact leCC_iff.1 h a
theorem leCC_total (x y : CC) : (leCC x y || leCC y x) = true := by
  rw [Bool.or_eq_true, leCC_iff, leCC_iff]
  rcases ltCC_tri x y with a | a | a
  · exact .inl fun h => ltCC_irrefl _ (ltCC_trans a h)
  · subst a; exact .inl (ltCC_irrefl _)
  · exact .inr fun h => ltCC_irrefl _ (ltCC_trans a h)
def sortCC (l : List CC) : List CC := l.mergeSort leCC
theorem sortCC_sorted (l : List CC) : (sortCC l).Pairwise (fun x y => leCC x y = true) := List.pairwise_mergeSort leCC_trans leCC_total l
theorem sortCC_perm (l : List CC) : (sortCC l).Perm l := List.mergeSort_perm l leCC
theorem sortCC_len (l : List CC) : (sortCC l).length = l.length := (sortCC_perm l).length_eq
def capB (s : List Couple) (d : Dcs) : Bool := !d.same && decide (d.A ∈ s) && decide (d.B ∈ s)
def capL (s : List Couple) (ds : List Dcs) : List CC := (ds.filter (capB s)).map fun d => (d.A, d.B)
def withinC (s : List Couple) (ds : List Dcs) : List CC := compactS (sortCC (capL s ds))
section
variable {s : List Couple} {ds d1 d2 : List Dcs}
theorem capL_next {k : Nat} (h : k < ds.length) : capL s (ds.take (k + 1)) = if capB s ds[k] = true then capL s (ds.take k) ++ [(ds[k].A, ds[k].B)] else capL s (ds.take k) := by
  unfold capL
  rw [List.take_succ_eq_append_getElem h, List.filter_append, List.map_append]
  by_cases e : capB s ds[k] = true
  · rw [if_pos e, List.filter_cons_of_pos e]; simp
  · rw [if_neg e, List.filter_cons_of_neg e]; simp
theorem capL_len (k : Nat) : (capL s (ds.take k)).length ≤ ds.length := by
  unfold capL
  rw [List.length_map]
  exact Nat.le_trans (List.length_filter_le _ _) (by rw [List.length_take]; omega)
theorem withinC_len : (withinC s ds).length ≤ ds.length := by
  unfold withinC
  have h1 := (compactS_sub (sortCC (capL s ds))).length_le
  rw [sortCC_len] at h1
  have := capL_len (s := s) (ds := ds) ds.length
  rw [List.take_length] at this
  omega
theorem withinC_mem {p : CC} : p ∈ withinC s ds ↔ p.1 ∈ s ∧ p.2 ∈ s ∧ apB ds p.1 p.2 = true := by
  unfold withinC
  rw [compactS_mem, (sortCC_perm _).mem_iff]
  unfold capL apB capB
  rw [List.mem_map, List.any_eq_true]
  constructor
  · rintro ⟨d, hd, rfl⟩
    obtain ⟨hm, hc⟩ := List.mem_filter.1 hd
    simp only [Bool.and_eq_true, Bool.not_eq_true', decide_eq_true_eq] at hc
    exact ⟨hc.1.2, hc.2, d, hm, by simp [hc.1.1]⟩
  · rintro ⟨h1, h2, d, hm, hc⟩
    simp only [Bool.and_eq_true, Bool.not_eq_true', decide_eq_true_eq] at hc
    obtain ⟨hs, hA, hB⟩ := hc
    refine ⟨d, List.mem_filter.2 ⟨hm, ?_⟩, ?_⟩
    · simp only [Bool.and_eq_true, Bool.not_eq_true', decide_eq_true_eq]
      exact ⟨⟨hs, hA ▸ h1⟩, hB ▸ h2⟩
    · obtain ⟨a, b⟩ := p; simp only at hA hB; rw [hA, hB]
theorem withinC_pw : (withinC s ds).Pairwise ltCC := by
  unfold withinC
  have h1 := sortCC_sorted (capL s ds)
  have h2 := compactS_nodup (le := fun x y => leCC x y = true) leCC_anti h1
  have h3 := h1.sublist (compactS_sub _)
  refine (h3.and h2).imp fun {x y} ⟨h4, h5⟩ => ?_
  rcases ltCC_tri x y with h | h | h
  · exact h
  · exact absurd h h5
  · exact absurd h (leCC_iff.1 h4)
theorem withinC_eq : withinC s d1 = withinC s d2 ↔ sameAp d1 d2 s := by
  constructor
  · intro h a ha b hb
    have h1 := withinC_mem (s := s) (ds := d1) (p := (a, b)); have h2 := withinC_mem (s := s) (ds := d2) (p := (a, b))
    rw [h] at h1
    have h3 := h1.symm.trans h2
    rw [Bool.eq_iff_iff]
    exact ⟨fun g => (h3.1 ⟨ha, hb, g⟩).2.2, fun g => (h3.2 ⟨ha, hb, g⟩).2.2⟩
  · intro h
    have nd : ∀ {l : List CC}, l.Pairwise ltCC → l.Nodup := fun h => h.imp fun {x y} hxy e => by subst e; exact ltCC_irrefl _ hxy
    refine perm_pw (fun x y a b => ltCC_irrefl _ (ltCC_trans a b)) ((List.perm_ext_iff_of_nodup (nd withinC_pw) (nd withinC_pw)).2 fun p => ?_) withinC_pw withinC_pw
    rw [withinC_mem, withinC_mem]
    constructor
    · rintro ⟨h1, h2, h3⟩; exact ⟨h1, h2, by rw [← h _ h1 _ h2]; exact h3⟩
    · rintro ⟨h1, h2, h3⟩; exact ⟨h1, h2, by rw [h _ h1 _ h2]; exact h3⟩
theorem endsL_next {l : List Bond} {k : Nat} (h : k < l.length) : endsL s (l.take (k + 1)) = if l[k].A ∈ s ∨ l[k].B ∈ s then endsL s (l.take k) ++ [l[k]] else endsL s (l.take k) := by
  unfold endsL
  rw [List.take_succ_eq_append_getElem h, List.filter_append]
  by_cases e : l[k].A ∈ s ∨ l[k].B ∈ s
  · rw [if_pos e]; simp [List.filter_cons, e]
  · rw [if_neg e]; simp [List.filter_cons, e]
theorem endsL_len {l : List Bond} (k : Nat) : (endsL s (l.take k)).length ≤ l.length := by
  unfold endsL
  exact Nat.le_trans (List.length_filter_le _ _) (by rw [List.length_take]; omega)
end
end Go.K

/- The deciding fields are the fewest; a higher threshold takes at least as many. Plain. -/
namespace Go.K
open Rep
section
variable {pr : Int} {ag df : List Int} {lo hi hi' : Int} {p : Nat} {fl fl' : List Int} {ok : Bool}
end
section
variable {ag df : List Int} {p n k st : Nat} {s t hi : Int} {gs l m : List Couple}
end
section
variable {pr : Int} {ag df : List Int} {lo hi : Int} {p n : Nat} {fl : List Int} {ok : Bool} {s : Int}
end
section
variable {pr : Int} {ag df : List Int} {lo hi : Int} {p n : Nat} {fl : List Int} {s : Int}
end
end Go.K

/- A list can be sorted stably; taking the greatest gain again and again takes the first of the sorted gains. Plain. -/
namespace Go.K
open Rep
section
variable {α : Type} {c : α → α → Int}
theorem StS.of_fin {ys : List α} {L : List (Fin ys.length)} (hperm : L.Perm (List.finRange ys.length)) (hpw : L.Pairwise fun i j => ordT c ys i.val j.val) : StS c ys (L.map fun i => ys[i.val]) := by
  have hlen : L.length = ys.length := by rw [hperm.length_eq, List.length_finRange]
  have hnd : L.Nodup := hperm.nodup_iff.2 (List.nodup_finRange _)
  refine ⟨fun i => if h : i < L.length then L[i].val else i, ⟨by rw [List.length_map, hlen], fun i hi => ?_⟩, ⟨fun i hi => ?_, fun i h1 h2 => ?_, fun i j e => ?_⟩, fun i j h1 h2 h3 => ?_⟩
  · have hi2 : i < L.length := by omega
    rw [dif_pos hi2]
    refine ⟨L[i].isLt, ?_⟩
    rw [List.getElem?_map, List.getElem?_eq_getElem hi2, List.getElem?_eq_getElem L[i].isLt]
    rfl
  · rw [dif_neg (by omega)]
  · rw [dif_pos (show i < L.length by omega)]
    exact ⟨Nat.zero_le _, L[i].isLt⟩
  · by_cases hi : i < L.length
    · by_cases hj : j < L.length
      · simp only [dif_pos hi, dif_pos hj] at e
        rcases Nat.lt_trichotomy i j with h | h | h
        · exact absurd (Fin.ext e) (List.pairwise_iff_getElem.1 (List.nodup_iff_pairwise_ne.1 hnd) i j hi hj h)
        · exact h
        · exact absurd (Fin.ext e.symm) (List.pairwise_iff_getElem.1 (List.nodup_iff_pairwise_ne.1 hnd) j i hj hi h)
      · simp only [dif_pos hi, dif_neg hj] at e
        have := L[i].isLt; omega
    · by_cases hj : j < L.length
      · simp only [dif_neg hi, dif_pos hj] at e
        have := L[j].isLt; omega
      · simp only [dif_neg hi, dif_neg hj] at e; exact e
  · simp only [dif_pos (show i < L.length by omega), dif_pos (show j < L.length by omega)]
    exact List.pairwise_iff_getElem.1 hpw i j (by omega) (by omega) h2
theorem StS.ex (hc : Cmp3 c (fun _ => True)) (ys : List α) : ∃ zs, StS c ys zs := by
  classical
  have hP : ∀ x ∈ ys, (fun _ : α => True) x := fun _ _ => trivial
  obtain ⟨L, hL⟩ : ∃ L, L = (List.finRange ys.length).mergeSort (fun i j => decide (¬ ordT c ys j.val i.val)) := ⟨_, rfl⟩
  have hperm : L.Perm (List.finRange ys.length) := by rw [hL]; exact List.mergeSort_perm _ _
  have hnd : L.Nodup := hperm.nodup_iff.2 (List.nodup_finRange _)
  have hpw : L.Pairwise fun i j => ordT c ys i.val j.val := by
    have h1 : L.Pairwise fun i j => (decide (¬ ordT c ys j.val i.val)) = true := by
      rw [hL]
      refine List.pairwise_mergeSort (fun i j k h1 h2 => ?_) (fun i j => ?_) _
      · simp only [decide_eq_true_eq] at *
        intro h3
        by_cases e1 : i = j
        · subst e1; exact h2 h3
        · have h4 := (ordT_total hc hP i.isLt j.isLt (fun e => e1 (Fin.ext e))).resolve_right h1
          exact h2 (ordT_trans hc hP h3 h4)
      · simp only [Bool.or_eq_true, decide_eq_true_eq]
        by_cases h : ordT c ys j.val i.val
        · exact .inr (fun h' => ordT_asym hc hP h h')
        · exact .inl h
    refine (h1.and (List.nodup_iff_pairwise_ne.1 hnd)).imp fun {i j} ⟨h2, h3⟩ => ?_
    simp only [decide_eq_true_eq] at h2
    exact (ordT_total hc hP i.isLt j.isLt (fun e => h3 (Fin.ext e))).resolve_right h2
  exact ⟨_, StS.of_fin hperm hpw⟩
end
section
variable {ag df : List Int} {p n : Nat} {gs : List Couple}
end
end Go.K

/- Couples of refs, compared as structs. -/
namespace Go.K
open Rep
section
variable {P : Program} {t : TypeId} {N : Nat} {env : Env} {x y : Operand} {u : TypeId} {w : World}
theorem eqOK_pair {tr ti : TypeId} {n0 n1 m0 m1 tg0 tg1 th0 th1 pk0 pk1 pl0 pl1 : String} {e0 e1 f0 f1 : Bool} {y0 y1 x0 x1 : Nat} (h : P.underlying t = some (.struct #[⟨m0, tr, 0, f0, th0, pl0, x0⟩, ⟨m1, tr, 2, f1, th1, pl1, x1⟩])) (g0 : m0 ≠ "_") (g1 : m1 ≠ "_") (hS : P.stoodInHeld t = false)
    (hr : P.underlying tr = some (.struct #[⟨n0, ti, 0, e0, tg0, pk0, y0⟩, ⟨n1, ti, 1, e1, tg1, pk1, y1⟩])) (h0 : n0 ≠ "_") (h1 : n1 ≠ "_") (hSr : P.stoodInHeld tr = false)
    (hi : P.underlying ti = some (.int .i64)) (ha : aggB P tr = some true) (hs : szB P tr = some 2) : EqOK P t kvP := fun d a b w => by
  have hf : P.fieldsOf t = #[⟨m0, tr, 0, f0, th0, pl0, x0⟩, ⟨m1, tr, 2, f1, th1, pl1, x1⟩] := by simp [Program.fieldsOf, h]
  have p0 : ∀ (c : Couple × Couple) w, (part tr #[.int .i64 c.1.a, .int .i64 c.1.b, .int .i64 c.2.a, .int .i64 c.2.b] 0).run P w = .ok (kvC c.1) w := fun c w => by
    unfold part; simp only [Sem.run_bind, run_isAggB ha, Result.andThen_ok, if_true, run_sizeOfB hs, Sem.run_pure]; rfl
  have p1 : ∀ (c : Couple × Couple) w, (part tr #[.int .i64 c.1.a, .int .i64 c.1.b, .int .i64 c.2.a, .int .i64 c.2.b] 2).run P w = .ok (kvC c.2) w := fun c w => by
    unfold part; simp only [Sem.run_bind, run_isAggB ha, Result.andThen_ok, if_true, run_sizeOfB hs, Sem.run_pure]; rfl
  have he := fun (x y : Couple) => run_eq_cpl hr h0 h1 hSr hi (d + 5) x y w
  rw [show d + 8 = (d + 7) + 1 from rfl, run_equalIn_struct w (d + 7) t _ _ (by rw [hf]; exact h) hS, hf]
  have hd : (decide (a = b)) = (decide (a.1 = b.1) && decide (a.2 = b.2)) := by
    cases a; cases b; simp only [Prod.mk.injEq, Bool.decide_and]
  simp only [Op.eqFields, Sem.run_bind, Sem.run_ite, g0, g1, ne_eq, not_false_eq_true, if_true, p0, p1, Result.andThen_ok, he, hd, show d + 7 = d + 5 + 2 from rfl]
  cases decide (a.1 = b.1) <;> cases decide (a.2 = b.2) <;> simp [he, show d + 7 = d + 5 + 2 from rfl, p0, p1]
theorem run_eq_cc (hK : EqOK P t kvP) (a b : CC) : (Op.equalIn 10000 t (.agg (encCC a).toArray) (.agg (encCC b).toArray)).run P w = .ok (decide (a = b)) w := hK 9992 a b w
theorem val_neCC (hK : EqOK P t kvP) (hg : P.eqGuardType P.depth t = false) {a b : CC} (hx : ev env x = some (.agg (encCC a).toArray)) (hy : ev env y = some (.agg (encCC b).toArray)) :
    Val P N env (.binOp .neq t x y u) w (.bool (decide (a ≠ b))) := mk' fun ρ hρ o ho => by
  unfold execOp; rw [ho]
  simp only [hρ _ _ hx, hρ _ _ hy, Sem.run_bind, run_eqGuard_agg _ _ _ _ _ _ _ hg, Result.andThen_ok, run_neq_struct, run_eq_cc hK, Sem.run_pure]
  simp
theorem val_eqCC (hK : EqOK P t kvP) (hg : P.eqGuardType P.depth t = false) {a b : CC} (hx : ev env x = some (.agg (encCC a).toArray)) (hy : ev env y = some (.agg (encCC b).toArray)) :
    Val P N env (.binOp .eql t x y u) w (.bool (decide (a = b))) := mk' fun ρ hρ o ho => by
  unfold execOp; rw [ho]
  simp only [hρ _ _ hx, hρ _ _ hy, Sem.run_bind, run_eqGuard_agg _ _ _ _ _ _ _ hg, Result.andThen_ok, run_eql_struct, run_eq_cc hK, Sem.run_pure]
end
theorem zero_cc {h : Array Obj} {M : Nat → Prop} : rep h M (⟨⟨0, 0⟩, ⟨0, 0⟩⟩ : CC) [.int .i64 0, .int .i64 0, .int .i64 0, .int .i64 0] := rep_cc.2 rfl
theorem list_eq_all {α : Type} [DecidableEq α] {l m : List α} (hl : l.length = m.length) (h : ∀ i (h1 : i < l.length) (h2 : i < m.length), l[i] = m[i]) : l = m := List.ext_getElem hl h
section
variable {old nw : List Bond} {d1 d2 : List Dcs} {zs : List (List Couple)}
def keptL (old : List Bond) (d1 d2 : List Dcs) (nw : List Bond) (k : Nat) : List Bool := ((splitS nw).take k).map fun p => keptB old d1 d2 (refsS p) p
theorem keptL_next {k : Nat} (h : k < (splitS nw).length) : keptL old d1 d2 nw (k + 1) = keptL old d1 d2 nw k ++ [keptB old d1 d2 (refsS (splitS nw)[k]) (splitS nw)[k]] := by
  unfold keptL; rw [List.take_succ_eq_append_getElem h, List.map_append]; rfl
theorem keptL_len (k : Nat) : (keptL old d1 d2 nw k).length ≤ (splitS nw).length := by unfold keptL; rw [List.length_map, List.length_take]; omega
theorem keptL_all_len : (keptL old d1 d2 nw (splitS nw).length).length = (splitS nw).length := by unfold keptL; rw [List.length_map, List.length_take]; omega
theorem keptL_at {k : Nat} (h : k < (splitS nw).length) (h' : k < (keptL old d1 d2 nw (splitS nw).length).length) : (keptL old d1 d2 nw (splitS nw).length)[k] = keptB old d1 d2 (refsS (splitS nw)[k]) (splitS nw)[k] := by
  unfold keptL; simp
theorem keptB_y {s : List Couple} {bs : List Bond} (h : endsL s old = bs) : decide (withinC s d1 = withinC s d2) = keptB old d1 d2 s bs := by
  unfold keptB; exact decide_eq_decide.2 ⟨fun e => ⟨h, withinC_eq.1 e⟩, fun e => withinC_eq.2 e.2⟩
theorem keptB_n {s : List Couple} {bs : List Bond} (h : ¬ endsL s old = bs) : false = keptB old d1 d2 s bs := by
  unfold keptB; exact (decide_eq_false fun e => h e.1).symm
def oldIn (zs : List (List Couple)) (s : List Couple) : List (List Couple) := zs.filter fun p => decide (p.headD ⟨0, 0⟩ ∈ s)
theorem oldIn_next {s : List Couple} {k : Nat} (h : k < zs.length) : oldIn (zs.take (k + 1)) s = if zs[k].headD ⟨0, 0⟩ ∈ s then oldIn (zs.take k) s ++ [zs[k]] else oldIn (zs.take k) s := by
  unfold oldIn
  rw [List.take_succ_eq_append_getElem h, List.filter_append]
  by_cases e : zs[k].headD ⟨0, 0⟩ ∈ s
  · rw [if_pos e, List.filter_cons, if_pos (decide_eq_true e), List.filter_nil]
  · rw [if_neg e, List.filter_cons, if_neg (by rw [decide_eq_true_eq]; exact e), List.filter_nil, List.append_nil]
theorem oldIn_len {s : List Couple} (k : Nat) : (oldIn (zs.take k) s).length ≤ zs.length := by
  unfold oldIn
  exact Nat.le_trans (List.length_filter_le _ _) (by rw [List.length_take]; omega)
theorem head_at {p : List Couple} (h : 0 < p.length) : p.headD ⟨0, 0⟩ = p[0] := by cases p with | nil => simp at h | cons a t => rfl
theorem gather {wf : List Bond → List (List Couple) × Int} {out us : List (List Couple)} {k : Nat} (h : k < (splitS nw).length) (hp : out.Perm (allW wf ((splitS nw).take k))) (hu : us.Perm (wf (splitS nw)[k]).1) : (out ++ us).Perm (allW wf ((splitS nw).take (k + 1))) := by
  rw [allW_next h]; exact hp.append hu
end
section
variable {l : List Bond} {ds : List Dcs} {out us zs : List (List Couple)}
theorem allW_plen {p : List Couple} (hp : p ∈ allW (wayS ds) (splitS l)) : p.length ≤ (refsS l).length := by
  obtain ⟨i, h, h2⟩ := allW_mem hp
  have hP := wayS_PV ds (splitS l)[i]
  exact (hP.nodup h2).length_le_of_subset fun r hr => ((split_mem h).1 (hP.refs h2 hr)).1
theorem sol_few (h : StS cmpH (allW (wayS ds) (splitS l)) zs) : 2 * zs.length ≤ (refsS l).length := by rw [h.len]; exact allW_few fun i hi => wayS_PV ds _
theorem again_sts (hp : out.Perm (allW (wayS ds) (splitS l))) (h : StS cmpH out us) : StS cmpH (allW (wayS ds) (splitS l)) us := by
  obtain ⟨ys, hy⟩ := StS.ex cmpH_3 (allW (wayS ds) (splitS l))
  rw [again_same hp h hy]; exact hy
end
end Go.K

/- The sanity check of chapter 37: reckoned. Plain. -/
set_option maxRecDepth 100000
namespace Go.K
open Rep
def ab1 : Bond := ⟨⟨0, 1⟩, ⟨1, 1⟩, 3⟩
def ab2 : Bond := ⟨⟨0, 2⟩, ⟨1, 2⟩, 4⟩
def aaL : List Bond := [ab1, ab2]
def abL : List Bond := [ab1]
def aaP : List (List Couple) := [[⟨0, 1⟩, ⟨1, 1⟩], [⟨0, 2⟩, ⟨1, 2⟩]]
def abP : List (List Couple) := [[⟨0, 1⟩, ⟨1, 1⟩]]
theorem pw_lt {s : List Couple} (h : (s.Pairwise fun a b => cmpC a b < 0)) : s.Pairwise ltP := h.imp fun h => cmpC_neg.1 h
theorem refs_eq {l : List Bond} {s : List Couple} (h1 : s.Pairwise fun a b => cmpC a b < 0) (h2 : ∀ x ∈ l, x.A ∈ s ∧ x.B ∈ s) (h3 : ∀ r ∈ s, ∃ x ∈ l, r = x.A ∨ r = x.B) : refsS l = s :=
  sorted_ext (refsS_sorted l) (pw_lt h1) fun r => by
    rw [mem_refsS]
    exact ⟨fun ⟨x, hx, e⟩ => e.elim (fun e => e ▸ (h2 x hx).1) (fun e => e ▸ (h2 x hx).2), h3 r⟩
theorem aa_refs : refsS aaL = [⟨0, 1⟩, ⟨0, 2⟩, ⟨1, 1⟩, ⟨1, 2⟩] := refs_eq (by decide +kernel) (by decide +kernel) (by decide +kernel)
theorem ab_refs : refsS abL = [⟨0, 1⟩, ⟨1, 1⟩] := refs_eq (by decide +kernel) (by decide +kernel) (by decide +kernel)
theorem ac_refs : refsS [ab2] = [⟨0, 2⟩, ⟨1, 2⟩] := refs_eq (by decide +kernel) (by decide +kernel) (by decide +kernel)
theorem aa_split : splitS aaL = [abL, [ab2]] := by unfold splitS; rw [aa_refs]; decide +kernel
theorem ab_split : splitS abL = [abL] := by unfold splitS; rw [ab_refs]; decide +kernel
theorem ab_exact : exactF abL [] = [[⟨0, 1⟩, ⟨1, 1⟩]] := by unfold exactF; rw [ab_refs]; decide +kernel
theorem ac_exact : exactF [ab2] [] = [[⟨0, 2⟩, ⟨1, 2⟩]] := by unfold exactF; rw [ac_refs]; decide +kernel
theorem ab_wayS : wayS [] abL = ([[⟨0, 1⟩, ⟨1, 1⟩]], 0) := by unfold wayS; rw [ab_refs, if_pos (by decide), ab_exact]
theorem ac_wayS : wayS [] [ab2] = ([[⟨0, 2⟩, ⟨1, 2⟩]], 0) := by unfold wayS; rw [ac_refs, if_pos (by decide), ac_exact]
theorem aa_way : allW (wayS []) (splitS aaL) = aaP := by
  rw [aa_split]; unfold allW
  simp only [List.flatMap_cons, List.flatMap_nil, List.append_nil, ab_wayS, ac_wayS]; rfl
theorem ab_way : allW (wayS []) (splitS abL) = abP := by
  rw [ab_split]; unfold allW
  simp only [List.flatMap_cons, List.flatMap_nil, List.append_nil, ab_wayS]; rfl
theorem aa_sorted : StS cmpH aaP aaP := StS.self fun i j hij hj => by
  have hj : j < 2 := hj
  obtain ⟨rfl, rfl⟩ : i = 0 ∧ j = 1 := by omega
  exact (show cmpH [⟨0, 1⟩, ⟨1, 1⟩] [⟨0, 2⟩, ⟨1, 2⟩] < 0 by decide +kernel)
theorem ab_sorted : StS cmpH abP abP := StS.self fun i j hij hj => by
  have hj : j < 1 := hj
  omega
theorem aa_zs {zs : List (List Couple)} (h : StS cmpH (allW (wayS []) (splitS aaL)) zs) : zs = aaP := by rw [aa_way] at h; exact h.uniq cmpH_3 (fun _ _ => trivial) aa_sorted
theorem ab_zs {zs : List (List Couple)} (h : StS cmpH (allW (wayS []) (splitS abL)) zs) : zs = abP := by rw [ab_way] at h; exact h.uniq cmpH_3 (fun _ _ => trivial) ab_sorted
theorem aa_sts : StS cmpH (allW (wayS []) (splitS aaL)) aaP := by rw [aa_way]; exact aa_sorted
theorem ab_sts : StS cmpH (allW (wayS []) (splitS abL)) abP := by rw [ab_way]; exact ab_sorted
theorem aa_value : valueB aaL aaP = 7 := by decide +kernel
theorem ab_value : valueB abL abP = 3 := by decide +kernel
theorem aa_vld : Vld aaL := by
  refine ⟨by decide, fun x hx => ?_, ?_⟩
  · simp only [aaL, List.mem_cons, List.not_mem_nil, or_false] at hx
    rcases hx with rfl | rfl <;> exact ⟨by decide, by decide, by decide⟩
  · unfold aaL ab1 ab2 lt2 ltP; decide
theorem ab_vld : Vld abL := aa_vld.sub (by unfold aaL abL; exact List.Sublist.cons_cons _ (List.nil_sublist _))
theorem ab_unk : (((unkept aaL [] [] abL (splitS abL).length).length : Nat) : Int) = 0 := by
  unfold unkept
  rw [ab_split]
  simp only [List.length_cons, List.length_nil, List.take_succ_cons, List.take_zero]
  rw [List.filter_cons, if_neg (by unfold keptB; rw [ab_refs]; decide +kernel)]; rfl
theorem aa_unk : (((unkept abL [] [] aaL (splitS aaL).length).length : Nat) : Int) = 1 := by
  unfold unkept
  rw [aa_split]
  simp only [List.length_cons, List.length_nil, List.take_succ_cons, List.take_zero]
  rw [List.filter_cons, if_neg (by unfold keptB; rw [ab_refs]; decide +kernel), List.filter_cons, if_pos (by unfold keptB; rw [ac_refs]; decide +kernel)]; rfl
end Go.K

/- Refs put into their place. Plain. -/
namespace Go.K
open Rep
def ltB (x y : Couple) : Bool := decide (x.a < y.a) || (decide (x.a = y.a) && decide (x.b < y.b))
theorem ltB_iff {x y : Couple} : ltB x y = true ↔ x.a < y.a ∨ (x.a = y.a ∧ x.b < y.b) := by unfold ltB; simp
def insC : List Couple → Couple → List Couple
  | [], c => [c]
  | x :: l, c => if ltB x c = true then x :: insC l c else if x = c then x :: l else c :: x :: l
theorem insC_at {c : Couple} : ∀ {l : List Couple} {k : Nat}, k ≤ l.length → (∀ i (hi : i < k) (h : i < l.length), ltB l[i] c = true) → (∀ h : k < l.length, ltB l[k] c = false) →
    insC l c = if h : k < l.length then (if l[k] = c then l else l.take k ++ c :: l.drop k) else l ++ [c]
  | [], k, hk, _, _ => by simp at hk; subst hk; simp [insC]
  | x :: l, 0, _, _, h2 => by
    have := h2 (by simp)
    simp only [List.getElem_cons_zero] at this
    simp only [insC, this, Bool.false_eq_true, if_false]
    simp
  | x :: l, k + 1, hk, h1, h2 => by
    have h0 := h1 0 (by omega) (by simp)
    simp only [List.getElem_cons_zero] at h0
    have ih := insC_at (c := c) (l := l) (k := k) (by simpa using hk) (fun i hi h => by have := h1 (i + 1) (by omega) (by simpa using h); simpa using this) (fun h => by have := h2 (by simpa using h); simpa using this)
    simp only [insC, h0, if_true, ih, List.length_cons, Nat.add_lt_add_iff_right, List.getElem_cons_succ, List.take_succ_cons, List.drop_succ_cons]
    split
    · split <;> simp
    · simp
theorem insC_mem {c x : Couple} : ∀ {l : List Couple}, x ∈ insC l c ↔ x = c ∨ x ∈ l
  | [] => by simp [insC]
  | y :: l => by
    have ih := insC_mem (c := c) (x := x) (l := l)
    unfold insC
    split
    · simp only [List.mem_cons, ih]
      constructor
      · rintro (h | h | h) <;> simp [h]
      · rintro (h | h | h) <;> simp [h]
    · split
      · rename_i e; subst e; simp
      · simp
theorem insC_sorted {c : Couple} : ∀ {l : List Couple}, l.Pairwise (fun x y => ltB x y = true) → (insC l c).Pairwise (fun x y => ltB x y = true)
  | [], _ => by simp [insC]
  | y :: l, h => by
    obtain ⟨h1, h2⟩ := List.pairwise_cons.1 h
    unfold insC
    split
    · rename_i hy
      refine List.pairwise_cons.2 ⟨fun z hz => ?_, insC_sorted h2⟩
      rcases insC_mem.1 hz with e | hz
      · rw [e]; exact hy
      · exact h1 z hz
    · split
      · exact h
      · rename_i hn he
        have hcy : ltB c y = true := by
          rw [ltB_iff] at hn ⊢
          by_cases ea : y.a = c.a
          · by_cases eb : y.b = c.b
            · exact absurd (by cases y; cases c; simp only at ea eb; rw [ea, eb]) he
            · omega
          · omega
        refine List.pairwise_cons.2 ⟨fun z hz => ?_, h⟩
        rcases List.mem_cons.1 hz with e | hz
        · rw [e]; exact hcy
        · have := h1 z hz
          rw [ltB_iff] at this hcy ⊢; omega
def refA (l : List Couple) : List Couple := l.foldl insC []
theorem refA_snoc (l : List Couple) (c : Couple) : refA (l ++ [c]) = insC (refA l) c := by unfold refA; rw [List.foldl_append]; rfl
theorem refA_spec : ∀ (l : List Couple) (a : List Couple), a.Pairwise (fun x y => ltB x y = true) → (l.foldl insC a).Pairwise (fun x y => ltB x y = true) ∧ ∀ x, x ∈ l.foldl insC a ↔ x ∈ a ∨ x ∈ l
  | [], a, h => ⟨h, fun x => by simp⟩
  | c :: l, a, h => by
    obtain ⟨h1, h2⟩ := refA_spec l (insC a c) (insC_sorted h)
    refine ⟨h1, fun x => ?_⟩
    rw [List.foldl_cons, h2, insC_mem, List.mem_cons]
    constructor
    · rintro ((h | h) | h) <;> simp [h]
    · rintro (h | h | h) <;> simp [h]
theorem insC_len (c : Couple) : ∀ a : List Couple, (insC a c).length ≤ a.length + 1
  | [] => by simp [insC]
  | y :: a => by
    have := insC_len c a
    unfold insC; split
    · simp only [List.length_cons]; omega
    · split <;> simp
theorem refA_len (l : List Couple) : (refA l).length ≤ l.length := by
  have : ∀ (l a : List Couple), (l.foldl insC a).length ≤ a.length + l.length := by
    intro l; induction l with
    | nil => intro a; simp
    | cons c l ih =>
      intro a
      have h1 := ih (insC a c)
      have h2 := insC_len c a
      rw [List.foldl_cons, List.length_cons]; omega
  have := this l []
  simpa [refA] using this
end Go.K

/- The document's components: insertion, labels that sink; they are those of the forest. -/
namespace Go.K
theorem ltB_ltP {x y : Couple} : ltB x y = decide (ltP x y) := by rw [Bool.eq_iff_iff, decide_eq_true_iff, ltB_iff]; rfl
theorem mem_endsS {l : List Bond} {r : Couple} : r ∈ endsS l ↔ r ∈ refsS l := by
  rw [mem_refsS]; unfold endsS; simp only [List.mem_flatMap, List.mem_cons, List.not_mem_nil, or_false]
theorem refA_ends (l : List Bond) : refA (endsS l) = refsS l := by
  obtain ⟨h1, h2⟩ := refA_spec (endsS l) [] List.Pairwise.nil
  refine sorted_ext (h1.imp fun {x y} h => by rw [ltB_ltP] at h; exact of_decide_eq_true h) (refsS_sorted l) fun r => ?_
  have := h2 r
  unfold refA
  rw [this]; simp [mem_endsS]
theorem refA_take2 {l : List Bond} {i : Nat} (h : i < l.length) : refA (endsS (l.take (i + 1))) = insC (insC (refA (endsS (l.take i))) l[i].A) l[i].B := by
  rw [endsS_take h, show [l[i].A, l[i].B] = [l[i].A] ++ [l[i].B] from rfl, ← List.append_assoc, refA_snoc, refA_snoc]
structure Lw (l : List Bond) (low : List Nat) : Prop where
  len : low.length = (refsS l).length
  le : ∀ i (h : i < low.length), low[i] ≤ i
  same : ∀ i (h : i < low.length) (h1 : i < (refsS l).length) (h2 : low[i] < (refsS l).length), rhoS l (refsS l)[low[i]] = rhoS l (refsS l)[i]
theorem Lw.start (l : List Bond) : Lw l (List.range (refsS l).length) := ⟨List.length_range, fun i h => by simp, fun i h h1 h2 => by simp⟩
theorem Lw.put {l : List Bond} {low : List Nat} (h : Lw l low) {a b : Nat} {y : Bond} (hy : y ∈ l) (ha : a < (refsS l).length) (hb : b < (refsS l).length) (ea : (refsS l)[a] = y.A) (eb : (refsS l)[b] = y.B) (ha' : a < low.length) (hb' : b < low.length) (hne : low[a] ≠ low[b]) :
    Lw l ((low.set a (min low[a] low[b])).set b (min low[a] low[b])) ∧ ((low.set a (min low[a] low[b])).set b (min low[a] low[b])).sum < low.sum := by
  have hl := h.len
  have la := h.le a ha'
  have lb := h.le b hb'
  have hs : rhoS l (refsS l)[a] = rhoS l (refsS l)[b] := by rw [ea, eb]; exact rho_edge hy
  have sa := h.same a ha' ha (by omega)
  have sb := h.same b hb' hb (by omega)
  have hab : a ≠ b := fun e => by subst e; exact hne rfl
  refine ⟨⟨by simp only [List.length_set]; exact hl, fun i hi => ?_, fun i hi h1 h2 => ?_⟩, ?_⟩
  · simp only [List.length_set] at hi
    simp only [List.getElem_set]
    split
    · subst i; exact Nat.le_trans (Nat.min_le_right _ _) lb
    · split
      · subst i; exact Nat.le_trans (Nat.min_le_left _ _) la
      · exact h.le i hi
  · simp only [List.length_set] at hi
    have hm : ∀ (h3 : min low[a] low[b] < (refsS l).length), rhoS l (refsS l)[min low[a] low[b]] = rhoS l (refsS l)[a] := fun h3 => by
      rcases Nat.le_total low[a] low[b] with e | e
      · simp only [Nat.min_eq_left e]; exact sa
      · simp only [Nat.min_eq_right e]; rw [sb, hs]
    have key : ∀ (n : Nat) (h3 : n < (refsS l).length), n = (if b = i then min low[a] low[b] else if a = i then min low[a] low[b] else low[i]) → rhoS l (refsS l)[n] = rhoS l (refsS l)[i] := fun n h3 e => by
      split at e
      · rename_i e2; subst e2; subst e; rw [hm h3, hs]
      · split at e
        · rename_i e2; subst e2; subst e; exact hm h3
        · subst e; exact h.same i hi h1 h3
    exact key _ h2 (by simp only [List.getElem_set])
  · have hset : ∀ (l : List Nat) (i v : Nat) (hi : i < l.length), (l.set i v).sum + l[i] = l.sum + v := by
      intro l
      induction l with
      | nil => intro i v hi; simp at hi
      | cons x l ih =>
        intro i v hi
        cases i with
        | zero => simp; omega
        | succ i => simp only [List.set_cons_succ, List.sum_cons, List.getElem_cons_succ]; have := ih i v (by simpa using hi); omega
    have e1 := hset low a (min low[a] low[b]) ha'
    have e2 := hset (low.set a (min low[a] low[b])) b (min low[a] low[b]) (by simpa using hb')
    rw [List.getElem_set, if_neg hab] at e2
    have := Nat.min_le_left low[a] low[b]
    have := Nat.min_le_right low[a] low[b]
    rcases Nat.lt_or_gt_of_ne hne with e | e
    · rw [Nat.min_eq_left (Nat.le_of_lt e)] at *; omega
    · rw [Nat.min_eq_right (Nat.le_of_lt e)] at *; omega
def Fix (l ys : List Bond) (low : List Nat) : Prop := ∀ y ∈ ys, ∀ a b (ha : a < (refsS l).length) (hb : b < (refsS l).length), (refsS l)[a] = y.A → (refsS l)[b] = y.B → low.getD a 0 = low.getD b 0
theorem ref_at {l : List Bond} {r : Couple} (h : r ∈ refsS l) : ∃ a, ∃ ha : a < (refsS l).length, (refsS l)[a] = r := by
  obtain ⟨a, ha, e⟩ := List.mem_iff_getElem.1 h; exact ⟨a, ha, e⟩
theorem nodup_inj {α : Type} {l : List α} (h : l.Nodup) {i j : Nat} (hi : i < l.length) (hj : j < l.length) (e : l[i] = l[j]) : i = j := by
  rcases Nat.lt_trichotomy i j with h1 | h1 | h1
  · exact absurd e (List.pairwise_iff_getElem.1 h i j hi hj h1)
  · exact h1
  · exact absurd e.symm (List.pairwise_iff_getElem.1 h j i hj hi h1)
open Classical in
theorem Fix.all {l : List Bond} {low : List Nat} (h : Fix l l low) {i k : Nat} (hi : i < (refsS l).length) (hk : k < (refsS l).length) (e : rhoS l (refsS l)[i] = rhoS l (refsS l)[k]) : low.getD i 0 = low.getD k 0 := by
  let p : Couple → Nat := fun r => if h : ∃ a, ∃ ha : a < (refsS l).length, (refsS l)[a] = r then low.getD (Classical.choose h) 0 else 0
  have hp : ∀ a (ha : a < (refsS l).length), p (refsS l)[a] = low.getD a 0 := fun a ha => by
    have hx : ∃ a', ∃ ha' : a' < (refsS l).length, (refsS l)[a'] = (refsS l)[a] := ⟨a, ha, rfl⟩
    show (if h : _ then _ else 0) = _
    rw [dif_pos hx]
    obtain ⟨h1, h2⟩ := Classical.choose_spec hx
    rw [nodup_inj (refsS_nodup l) h1 ha h2]
  have hb : ∀ x ∈ l, p x.A = p x.B := fun x hx => by
    obtain ⟨a, ha, ea⟩ := ref_at (l := l) (r := x.A) (mem_refsS.2 ⟨x, hx, .inl rfl⟩)
    obtain ⟨b, hb, eb⟩ := ref_at (l := l) (r := x.B) (mem_refsS.2 ⟨x, hx, .inr rfl⟩)
    rw [← ea, ← eb, hp a ha, hp b hb]
    exact h x hx a b ha hb ea eb
  rw [← hp i hi, ← hp k hk, ← rho_inv hb (refsS l)[i], e, rho_inv hb]
theorem low_first {l : List Bond} {low : List Nat} (hw : Lw l low) (hx : Fix l l low) {i : Nat} (hi : i < (refsS l).length) (hil : i < low.length) : low[i] = i ↔ ∀ q ∈ (refsS l).take i, rhoS l q ≠ rhoS l (refsS l)[i] := by
  have gd : ∀ k (hk : k < low.length), low.getD k 0 = low[k] := fun k hk => by rw [List.getD_eq_getElem?_getD, List.getElem?_eq_getElem hk]; rfl
  have hl := hw.len
  constructor
  · intro e q hq hr
    obtain ⟨k, hk, rfl⟩ := List.mem_iff_getElem.1 hq
    rw [List.length_take] at hk
    rw [List.getElem_take] at hr
    have h1 := hx.all (by omega) hi hr
    rw [gd k (by omega), gd i hil, e] at h1
    have := hw.le k (by omega)
    omega
  · intro h
    have h1 := hw.le i hil
    have h2 := hw.same i hil hi (by omega)
    rcases Nat.lt_or_eq_of_le h1 with h3 | h3
    · exact absurd h2 (h _ (by rw [List.mem_iff_getElem]; exact ⟨low[i], by rw [List.length_take]; omega, by rw [List.getElem_take]⟩))
    · exact h3
theorem low_is {l : List Bond} {low : List Nat} (hw : Lw l low) (hx : Fix l l low) {i k : Nat} (hi : i < (refsS l).length) (hk : k < (refsS l).length) (hil : i < low.length) (hkl : k < low.length) (e : low[i] = i) : low[k] = i ↔ rhoS l (refsS l)[k] = rhoS l (refsS l)[i] := by
  have gd : ∀ k (hk : k < low.length), low.getD k 0 = low[k] := fun k hk => by rw [List.getD_eq_getElem?_getD, List.getElem?_eq_getElem hk]; rfl
  constructor
  · intro h
    have := hw.same k hkl hk (by omega)
    simp only [h] at this
    exact this.symm
  · intro h
    have := hx.all hk hi h
    rw [gd k hkl, gd i hil, e] at this
    exact this
def outS (l : List Bond) (i : Nat) : List (List Couple) := (firstsS (rhoS l) ((refsS l).take i)).map fun q => (refsS l).filter fun r => decide (rhoS l r = rhoS l q)
theorem outS_all (l : List Bond) : outS l (refsS l).length = partsS l := by unfold outS; rw [List.take_length]; rfl
theorem outS_zero (l : List Bond) : outS l 0 = [] := by unfold outS; simp [firstsS]
theorem outS_len (l : List Bond) (i : Nat) : (outS l i).length ≤ (refsS l).length := by
  unfold outS
  rw [List.length_map]
  exact Nat.le_trans (firsts_sub _ _).length_le (by rw [List.length_take]; omega)
theorem outS_step {l : List Bond} {low : List Nat} (hw : Lw l low) (hx : Fix l l low) {i : Nat} (hi : i < (refsS l).length) (hil : i < low.length) :
    outS l (i + 1) = if low[i] = i then outS l i ++ [(refsS l).filter fun r => decide (rhoS l r = rhoS l (refsS l)[i])] else outS l i := by
  unfold outS
  rw [List.take_succ_eq_append_getElem hi, firstsS_snoc]
  by_cases h : low[i] = i
  · rw [if_pos h, if_neg]
    · simp
    · intro ha
      obtain ⟨q, hq, e⟩ := firsts_any.1 ha
      exact (low_first hw hx hi hil).1 h q hq e
  · rw [if_neg h, if_pos]
    apply Classical.byContradiction
    intro hn
    exact h ((low_first hw hx hi hil).2 fun q hq e => hn (firsts_any.2 ⟨q, hq, e⟩))
theorem filter_take {α : Type} (p : α → Bool) {l : List α} {k : Nat} (h : k < l.length) : (l.take (k + 1)).filter p = if p l[k] = true then (l.take k).filter p ++ [l[k]] else (l.take k).filter p := by
  rw [List.take_succ_eq_append_getElem h, List.filter_append]
  by_cases e : p l[k] = true <;> simp [e]
end Go.K

/- What is touched is near. Plain. -/
namespace Go.K
open Rep
def Tch (r : Couple) (l sl : List Bond) (k : Nat) : Prop := ∀ x : Bond, x.A ≠ r → x.B ≠ r → (x ∈ l.take k ↔ x ∈ sl)
section
variable {r : Couple} {l sl : List Bond} {k : Nat}
theorem Tch.nil (r : Couple) (l : List Bond) : Tch r l [] 0 := fun x _ _ => by simp
theorem Tch.skip (h : Tch r l sl k) (hk : k < l.length) (hr : l[k].A = r ∨ l[k].B = r) : Tch r l sl (k + 1) := fun x hA hB => by
  rw [List.take_succ_eq_append_getElem hk, List.mem_append, List.mem_singleton, ← h x hA hB]
  exact ⟨fun e => e.elim id (fun e => by subst e; exact absurd hr (fun e => e.elim hA hB)), .inl⟩
theorem Tch.push (h : Tch r l sl k) (hk : k < l.length) {z : Bond} (hz : z = l[k] ∨ ((l[k].A = r ∨ l[k].B = r) ∧ z.A = l[k].A ∧ z.B = l[k].B)) : Tch r l (sl ++ [z]) (k + 1) := fun x hA hB => by
  rw [List.take_succ_eq_append_getElem hk, List.mem_append, List.mem_singleton, List.mem_append, List.mem_singleton, ← h x hA hB]
  rcases hz with rfl | ⟨hr, e1, e2⟩
  · exact Iff.rfl
  · constructor
    · rintro (e | rfl)
      · exact .inl e
      · exact absurd hr (fun e => e.elim hA hB)
    · rintro (e | rfl)
      · exact .inl e
      · rw [e1] at hA; rw [e2] at hB; exact absurd hr (fun e => e.elim hA hB)
end
def nearB (bo nn : List Couple) (y : Couple) : Bool := decide (y ∈ bo) || decide (y ∈ nn)
section
variable {old nw : List Bond} {r : Couple} {bo nn X : List Couple}
theorem unkept_mem {k : Nat} (h : X ∈ unkept old [] [] nw k) : ∃ i, ∃ hi : i < (splitS nw).length, X = refsS (splitS nw)[i] ∧ keptB old [] [] (refsS (splitS nw)[i]) (splitS nw)[i] = false := by
  unfold unkept at h
  obtain ⟨p, hp, rfl⟩ := List.mem_map.1 h
  obtain ⟨hp1, hp2⟩ := List.mem_filter.1 hp
  obtain ⟨i, hi, rfl⟩ := List.getElem_of_mem (List.mem_of_mem_take hp1)
  exact ⟨i, hi, rfl, by simpa using hp2⟩
theorem near_law (ho : old.Pairwise lt2) (hn : nw.Pairwise lt2) (h1 : Tch r old nw old.length) (hr : r ∈ refsS old) (hbo : ∀ y, y ∈ refsS old → rhoS old y = rhoS old r → y ∈ bo) (hnn : r ∈ refsS nw → r ∈ nn) {k : Nat} (hX : X ∈ unkept old [] [] nw k) : X.any (nearB bo nn) = true := by
  obtain ⟨i, hi, rfl, hk⟩ := unkept_mem hX
  apply Classical.byContradiction
  intro hne
  have hno : ∀ y ∈ refsS (splitS nw)[i], nearB bo nn y = false := fun y hy => Bool.eq_false_iff.2 fun e => hne (List.any_eq_true.2 ⟨y, hy, e⟩)
  have hno2 : ∀ y ∈ refsS (splitS nw)[i], y ∉ bo ∧ y ∉ nn := fun y hy => by
    have := hno y hy
    unfold nearB at this
    simp only [Bool.or_eq_false_iff, decide_eq_false_iff_not] at this
    exact this
  have hnr : r ∉ refsS (splitS nw)[i] := fun hm => (hno2 r hm).2 (hnn ((split_mem hi).1 hm).1)
  have := touch_law ho hn (fun x hA hB => by have := h1 x hA hB; rwa [List.take_length] at this) hi (fun y hy e => (hno2 y hy).1 (hbo y e.1 e.2)) hr hnr
  rw [hk] at this; cases this
theorem find_in (h : r ∈ refsS old) : ∃ o, ∃ ho : o < (partsS old).length, findS (partsS old) r = (o : Int) ∧ ∀ y, y ∈ refsS old → rhoS old y = rhoS old r → y ∈ (partsS old)[o] := by
  obtain ⟨o, ho⟩ := parts_cover h
  have hl := getD_lt ho
  refine ⟨o, hl, find_part ho, fun y hy e => ?_⟩
  obtain ⟨j, hj⟩ := parts_cover hy
  have e2 := (find_same h hy).2 e.symm
  rw [find_part ho, find_part hj] at e2
  obtain rfl : o = j := by omega
  rw [getD_at hl] at hj; exact hj
theorem find_there (nw : List Bond) (r : Couple) : ∃ nf, nf = findS (partsS nw) r ∧ nf < (partsS nw).length ∧ (r ∈ refsS nw → 0 ≤ nf ∧ r ∈ (partsS nw).getD nf.toNat []) := by
  by_cases h : r ∈ refsS nw
  · obtain ⟨o, ho⟩ := parts_cover h
    have hl := getD_lt ho
    refine ⟨_, rfl, by rw [find_part ho]; omega, fun _ => ?_⟩
    rw [find_part ho]
    exact ⟨by omega, by simpa using ho⟩
  · refine ⟨_, rfl, ?_, fun e => absurd e h⟩
    unfold findS idxOf
    split
    · rename_i hp
      have := List.findIdx_lt_length.2 (List.any_eq_true.1 hp)
      omega
    · omega
end
end Go.K

/- From the row's reading of an argument to what the steps ask. -/
namespace Go.K
open Rep
def Cn0 : Nat → Nat := fun _ => 0
theorem lim0 (w : World) : Lim w Cn0 := fun b h => absurd rfl h
theorem Stp.below {w w' : World} (h : Stp [] w Cn0 w' Cn0) : Go.RowKit.Below w.heap.size w w' := h.ext.below (Nat.le_refl _) (fun b hb => by simp at hb)
end Go.K
