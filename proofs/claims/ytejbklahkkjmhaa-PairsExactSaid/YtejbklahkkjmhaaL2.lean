/- The specification of chapter 21: further plain lemmas, and couples that differ. -/
import Derived.Test.YtejbklahkkjmhaaL1
import Derived.Shelf.SlSortCmp.NoneTotal
import Derived.WalkKit
import Derived.ProofKit
import Derived.OpenShut
import Derived.ChangeSlices
import Derived.Below
import Derived.Carry
import Derived.Deep.Slices
import Derived.WideShapes
import Derived.ChangeArms
import Derived.SizedLaws
set_option linter.unusedVariables false
set_option linter.unusedSimpArgs false
namespace Go.K
open Rep

section
variable {P : Program} {t ti : TypeId} {n0 n1 tg0 tg1 pk0 pk1 : String} {e0 e1 : Bool} {y0 y1 : Nat}
variable {N : Nat} {env : Env} {x y : Operand} {u : TypeId} {a b : Couple} {w : World}
theorem val_neC (h : P.underlying t = some (.struct #[⟨n0, ti, 0, e0, tg0, pk0, y0⟩, ⟨n1, ti, 1, e1, tg1, pk1, y1⟩])) (h0 : n0 ≠ "_") (h1 : n1 ≠ "_") (hS : P.stoodInHeld t = false)
    (hi : P.underlying ti = some (.int .i64)) (hx : ev env x = some (kvC a)) (hy : ev env y = some (kvC b)) : Val P N env (.binOp .neq t x y u) w (.bool (decide (a ≠ b))) := mk' fun ρ hρ o ho => by
  have h5 := eqOK_couple h h0 h1 hS hi (Op.maxDepth - 8) a b w
  have h6 := eqGuard_couple h h0 h1 hi (Op.maxDepth - 2) a b w
  have h7 : (Op.equal t (kvC a) (kvC b)).run P w = .ok (decide (a = b)) w := h5
  have h8 : (Op.eqGuardIn Op.maxDepth t (kvC a) (kvC b)).run P w = .ok false w := h6
  have h9 : (eqGuard .neq t x y (kvC a) (kvC b)).run P w = .ok () w := by
    unfold eqGuard
    simp only [Sem.run_bind, Sem.run_pure, Sem.run_ite, run_program, Result.andThen_ok, h8, Bool.not_true, Bool.false_eq_true, if_false]
    cases P.eqGuardType P.depth t <;> simp [h8]
  have h10 : (binOp .neq t (kvC a) (kvC b)).run P w = .ok (.bool (decide (a ≠ b))) w := by
    show (Op.equal t (kvC a) (kvC b) >>= fun z => pure (Value.bool (!z))).run P w = _
    rw [Sem.run_bind, h7]; simp
  unfold execOp; rw [ho]
  simp only [hρ _ _ hx, hρ _ _ hy]
  simp [Sem.run_bind, h9, h10]
end
/-- The first error of lists of blocks. -/
def chkL (a b : List (List Block)) : Int := if a.length ≠ b.length ∨ 8 < a.length then 8 else checkF a b
theorem chkL_zero {a b : List (List Block)} (h : chkL a b = 0) : a.length = b.length ∧ a.length ≤ 8 ∧ checkF a b = 0 := by
  unfold chkL at h
  by_cases h1 : a.length ≠ b.length ∨ 8 < a.length
  · rw [if_pos h1] at h; omega
  · rw [if_neg h1] at h; exact ⟨by omega, by omega, h⟩
theorem chkM_err {a b : List (List Block)} (h : chkL a b ≠ 0) (mask : Int) : checkM a b mask = chkL a b := by
  unfold chkL at h ⊢
  unfold checkM
  by_cases h1 : a.length ≠ b.length ∨ 8 < a.length
  · rw [if_pos h1, if_pos h1]
  · rw [if_neg h1] at h ⊢
    rw [if_neg h1]
    simp only [if_pos h]
theorem chkM_ok {a b : List (List Block)} (h : chkL a b = 0) (mask : Int) : checkM a b mask = if mask < 0 ∨ (2 : Int) ^ a.length ≤ mask then 2 else 0 := by
  obtain ⟨h1, h2, h3⟩ := chkL_zero h
  unfold checkM
  rw [if_neg (by omega)]
  simp only [h3, ne_eq, not_true_eq_false, if_false]
theorem chkM_0 (a b : List (List Block)) : checkM a b 0 = chkL a b := by
  by_cases h : chkL a b = 0
  · rw [chkM_ok h, h, if_neg]
    have hp : (2 : Int) ^ a.length = ((2 ^ a.length : Nat) : Int) := by simp
    have := Nat.one_le_two_pow (n := a.length)
    rw [hp]; omega
  · exact chkM_err h 0
theorem checkF_nil (z : List (List Block)) : checkF [] z = 0 := by cases z <;> rfl
theorem checkF_all {a b : List (List Block)} (h : checkF a b = 0) (hl : a.length = b.length) : (∀ l ∈ a, checkS l = 0) ∧ (∀ l ∈ b, checkS l = 0) :=
  ⟨fun l hm => by obtain ⟨i, hi, rfl⟩ := List.getElem_of_mem hm; exact (checkF_zero h i hi (by omega)).1, fun l hm => by obtain ⟨i, hi, rfl⟩ := List.getElem_of_mem hm; exact (checkF_zero h i (by omega) hi).2⟩
theorem orL2_a {x y : Int} (h : x ≠ 0) : orL [x, y] = x := by simp [orL, h]
theorem orL2_b {x y : Int} (h : x = 0) : orL [x, y] = y := by
  by_cases h2 : y = 0 <;> simp [orL, h, h2]
theorem cplS_small {a b : List (List Block)} (h8 : a.length ≤ 8) {p : Couple × Nat} (h : p ∈ cplS a b) : p.2 < 256 := by
  obtain ⟨_, _, h3, _⟩ := mem_cplS.1 h
  have h1 := agN_lt a b p.1.a p.1.b a.length
  have h2 : 2 ^ a.length ≤ 2 ^ 8 := Nat.pow_le_pow_right (by decide) h8
  omega
theorem filter_takeS {γ : Type} (f : γ → Bool) {l : List γ} {i : Nat} (h : i < l.length) : (l.take (i + 1)).filter f = (l.take i).filter f ++ if f l[i] = true then [l[i]] else [] := by
  rw [List.take_succ_eq_append_getElem h, List.filter_append]
  by_cases hf : f l[i] = true <;> simp [hf]
theorem filter_takeL {γ : Type} (f : γ → Bool) (l : List γ) (i : Nat) : ((l.take i).filter f).length ≤ i := by
  have h1 := List.length_filter_le f (l.take i)
  have h2 := List.length_take_le i l
  omega
theorem cplS_agree' {a b : List (List Block)} {mask : Int} (hz : checkM a b mask = 0) : (∀ l ∈ a, checkS l = 0) ∧ (∀ l ∈ b, checkS l = 0) ∧ a.length = b.length ∧ a.length ≤ 8 ∧ (∀ l ∈ a, totalN l ≤ 64) ∧ (∀ l ∈ b, totalN l ≤ 64) := by
  obtain ⟨h1, h2, _⟩ := checkM_zero hz
  obtain ⟨h3, h4⟩ := checkF_all (checkM_valid hz) h1
  exact ⟨h3, h4, h1, h2, fun l h => checkS_total (h3 l h), fun l h => checkS_total (h4 l h)⟩
/-! ### Small lists of blocks -/
def minW (r : List Block) : Nat := (r.map fun b => min b.ids.length 1000).sum
def sizeW (l : List (List Block)) : Nat := (l.map fun r => r.length + minW r).sum
def smallP (l : List (List Block)) : Prop := sizeW l ≤ 300 ∧ l.length ≤ 12
instance (l : List (List Block)) : Decidable (smallP l) := by unfold smallP; infer_instance
theorem minW_take {r : List Block} {k : Nat} (h : k < r.length) : minW (r.take (k + 1)) = minW (r.take k) + min r[k].ids.length 1000 := by
  unfold minW; rw [List.take_succ_eq_append_getElem h, List.map_append, List.sum_append]; simp
theorem minW_le (r : List Block) : minW r ≤ r.length * 1000 := by
  induction r with
  | nil => simp [minW]
  | cons b r ih =>
    have e : minW (b :: r) = min b.ids.length 1000 + minW r := by simp [minW]
    rw [e, List.length_cons, Nat.succ_mul]; omega
theorem sizeW_take {l : List (List Block)} {i : Nat} (h : i < l.length) : sizeW (l.take (i + 1)) = sizeW (l.take i) + (l[i].length + minW l[i]) := by
  unfold sizeW; rw [List.take_succ_eq_append_getElem h, List.map_append, List.sum_append]; simp
theorem sizeW_le (l : List (List Block)) (i : Nat) : sizeW (l.take i) ≤ sizeW l := by
  have e : sizeW (l.take i) + sizeW (l.drop i) = sizeW l := by
    unfold sizeW; rw [← List.sum_append, ← List.map_append, List.take_append_drop]
  omega
theorem minW_total : ∀ {r : List Block}, minW r ≤ 300 → totalN r = minW r
  | [], _ => rfl
  | b :: r, h => by
    have e : minW (b :: r) = min b.ids.length 1000 + minW r := by simp [minW]
    have e2 : totalN (b :: r) = b.ids.length + totalN r := by simp [totalN]
    rw [e] at h
    have := minW_total (r := r) (by omega)
    rw [e, e2, this]; omega
theorem small_total {l : List (List Block)} (h : smallP l) : ∀ r ∈ l, total r ≤ 4611686018427387904 := fun r hr => by
  obtain ⟨i, hi, rfl⟩ := List.getElem_of_mem hr
  have h1 := sizeW_take hi
  have h2 := sizeW_le l (i + 1)
  have h3 := h.1
  rw [total_nat, minW_total (by omega)]; omega

/-! ### Arrays of two slices -/
section
variable {P : Program} {N : Nat} {env : Env} {y z : Operand} {t e : TypeId} {b o o' n len : Nat} {k : IntKind} {i : Int} {w : World}
theorem val_indexArr (hu : P.underlying t = some (.array len e)) (hn : szB P e = some n) (hy : ev env y = some (.pointer (some ⟨b, o, none⟩))) (hz : ev env z = some (.int k i))
    (h0 : 0 ≤ i) (h1 : i < len) (ho' : o' = o + i.toNat * n) : Val P N env (.indexAddr t y z) w (.pointer (some ⟨b, o', none⟩)) := mk' fun ρ hρ oo ho => by
  subst ho'
  unfold execOp; rw [ho]
  simp only [hρ _ _ hy, hρ _ _ hz]
  simp [go_sem, Instr.indexAt, run_underlying hu, asIntOf, run_sizeOfB hn, h0, h1, addr_add, Instr.sureAddr]
theorem val_buildArr {parts : Array (Nat × Operand)} {zs cs : List Value} {qs : List (Nat × List Value)} (hu : P.underlying t = some (.array len e)) (hn : szB P e = some n) (hz : zeroB P t = some zs)
    (hq : Parts env parts.toList qs) (hf : fillL (fun i => some (i * n, n)) zs qs = some cs) : Val P N env (.build t parts) w (.agg cs.toArray) := mk' fun ρ hρ o ho => by
  obtain ⟨z, h1, h2⟩ := run_zeroB hz w
  have hmap := Parts.map hρ hq
  have hfill := fill_eq (fun i => some (i * n, n)) (parts.toList.map fun p => (p.1, ρ p.2)) qs zs cs (by rw [← hmap]) hf
  have hfill' : Instr.fill (fun i => some (i * n, n)) z.cells (parts.map fun x => (x.1, ρ x.2)).toList = some cs.toArray := by
    rw [h2]
    have : (parts.map fun x => (x.1, ρ x.2)).toList = parts.toList.map fun p => (p.1, ρ p.2) := by simp
    rw [this, ← hfill]
  unfold execOp; rw [ho]
  simp only [Instr.build, Sem.run_bind, h1, Result.andThen_ok, run_underlying hu, run_sizeOfB hn]
  rw [show (parts.map fun x => match x with | (i, x) => (i, ρ x)).toList = (parts.map fun x => (x.1, ρ x.2)).toList from rfl, hfill']
  rfl
end
section
variable {γ δ : Type} [Rep γ] [Rep δ] {w : World} {M : Nat → Prop}
theorem rv2 {a : List γ} {b : List δ} {u v : Value} (h1 : RV w M a u) (h2 : RV w M b v) : RV w M (a, b) (.agg #[u, v]) :=
  ⟨[u, v], rv_pair (p := (a, b)) (us := [u]) (ws := [v]) (h1.rep1 rfl) (h2.rep1 rfl), rfl⟩
theorem rv2' {p : List γ × List δ} {v : Value} (h : RV w M p v) : ∃ u1 u2, v = .agg #[u1, u2] ∧ RV w M p.1 u1 ∧ RV w M p.2 u2 := by
  obtain ⟨vs, ⟨us, ws, rfl, h1, h2⟩, hv⟩ := h
  obtain ⟨u, rfl⟩ := List.length_eq_one_iff.1 (Rep.len h1)
  obtain ⟨u', rfl⟩ := List.length_eq_one_iff.1 (Rep.len h2)
  exact ⟨u, u', hv, rep1_rv h1 rfl, rep1_rv h2 rfl⟩
end
end Go.K

/- 'slices.SortFunc' on an own list. -/
set_option linter.unusedVariables false
set_option linter.unusedSimpArgs false
set_option linter.unusedSectionVars false
namespace Go.K
open Rep Go.Proofs Go.Shelf Go.Sort

theorem ext_grow {W w' : World} (h : Ext (fun _ => False) W w') : ∃ q os', w' = grow (W.drewN q) os' := by
  refine ⟨w'.drawn - W.drawn, w'.heap.extract W.heap.size w'.heap.size, ?_⟩
  obtain ⟨h1, h2, h3, h4, h5, h6⟩ := h
  obtain ⟨hp, tp, dr, os, out⟩ := w'
  simp only at h1 h2 h3 h4 h5 h6
  unfold Dr at h6
  simp only at h6
  subst h1 h2 h3
  simp only [grow, World.drewN, World.mk.injEq, and_true, true_and]
  refine ⟨?_, by omega⟩
  apply Array.ext_getElem?
  intro b
  rw [Array.getElem?_append]
  split
  · rename_i hb; exact h5 b hb (fun h => h)
  · rename_i hb
    rw [Array.getElem?_extract]
    simp only [Nat.min_self]
    split
    · congr 1; omega
    · rw [Array.getElem?_eq_none (by omega)]

section
variable {P : Program} {ρ : Ren} {α : Type} [Inhabited α] [Rep α] {enc : α → List Value} {cf : α → α → Int} {w : World} {C : Nat → Nat} {j g0 : Nat} {e : TypeId} {v : Value} {ys : List α}
/-- The order of the sort. -/
def leOf (cf : α → α → Int) : α → α → Bool := fun x y => !(ltOf cf) y x

theorem putCells_get {F cs : Array Value} (h : F.size ≤ cs.size) (t : Nat) : (putCells id 0 F cs)[t]? = if t < F.size then F[t]? else cs[t]? := by
  unfold putCells
  rw [Array.getElem?_mapIdx]
  by_cases ht : t < cs.size
  · rw [Array.getElem?_eq_getElem ht]
    simp only [Option.map_some, Nat.zero_le, true_and, Nat.zero_add, Nat.sub_zero, id]
    split
    · rename_i h1; rw [Array.getElem?_eq_getElem h1, getElem!_pos F t h1]
    · rfl
  · rw [Array.getElem?_eq_none (by omega), if_neg (by omega)]; rfl
theorem flatK_get {k : Nat} (hk : ∀ x, (enc x).length = k) (d : Array α) {i r : Nat} (hi : i < d.size) (hr : r < k) : (flatK enc k d)[i * k + r]? = (enc d[i])[r]? := by
  have hlt : i * k + r < d.size * k := by
    have := Nat.mul_le_mul_right k (show i + 1 ≤ d.size from hi)
    rw [Nat.succ_mul] at this; omega
  have hdiv : (i * k + r) / k = i := by rw [Nat.mul_comm, Nat.mul_add_div (by omega), Nat.div_eq_of_lt hr]; rfl
  have hmod : (i * k + r) % k = r := by rw [Nat.mul_comm, Nat.mul_add_mod, Nat.mod_eq_of_lt hr]
  have h := get_flatK enc k d (i * k + r) hlt
  rw [hdiv, hmod, getElem!_pos d i hi, getElem!_pos (flatK enc k d) _ (by rw [size_flatK]; exact hlt), getElem!_pos (enc d[i]) r (by rw [hk]; exact hr)] at h
  rw [Array.getElem?_eq_getElem (by rw [size_flatK]; exact hlt), h, List.getElem?_eq_getElem]

/-- An own list is sorted. -/
theorem sort_own (L : SlLaysF0.n6 P ρ) (aE : ∀ w, (isAgg (ρ.t 24)).run P w = .ok true w) (zE : ∀ w, (Go.sizeOf (ρ.t 24)).run P w = .ok (sz α) w)
    (henc : ∀ h M x vs, rep h M x vs ↔ vs = enc x) (hk : ∀ x : α, (enc x).length = sz α) (h0 : 0 < sz α) (h1 : ∀ x, ∀ u ∈ enc x, u.oneCell' = true) (hO : SWO (ltOf cf)) (hT : ∀ x y, (ltOf cf) x y = false → (ltOf cf) y x = false → x = y)
    (eg : ∀ args w, (callFunc g0 args).run P w = .ok (.enter g0 args) w)
    (hcmp : ∀ W x y, Calls P g0 #[.agg (enc x).toArray, .agg (enc y).toArray] W (Ret fun u w' => u = .int .i64 (cf x y) ∧ Ext (fun _ => False) W w'))
    (hF : Lim w C) (ho : OwnL w C j e v ys) (hlen : ys.length ≤ 140737488355328) :
    Calls P (ρ.f 6) #[v, .func (.func g0) #[] #[]] w (Ret fun u w' => u = .tuple #[] ∧ Stp [j] w C w' C ∧ OwnL w' C j e v (ys.mergeSort (leOf cf)) ∧ Lim w' C) := by
  obtain ⟨hown, hcol⟩ := ho
  rcases hown with ⟨rfl, rfl⟩ | ⟨g, cap, cs, rfl, hg, hc, hcap, h2, h3⟩
  · refine (AnyF.slices_SortFunc_none (P := P) (ρ := ρ) { L with } none 0 (.func (.func g0) #[] #[]) w).mono ?_
    rintro e' w' ⟨rfl, rfl⟩
    exact ⟨_, rfl, rfl, Stp.refl _ _ _, by simpa using (OwnL.nil (α := α)), hF⟩
  · have hcell : ∀ i (hi : i < ys.length) r, r < sz α → cs[i * sz α + r]? = (enc ys[i])[r]? := fun i hi r hr => by
      have h := (henc _ _ _ _).1 (h3 i hi)
      have := congrArg (fun l => l[r]?) h
      simp only [cellsAt, List.getElem?_take, if_pos hr, List.getElem?_drop, Array.getElem?_toList] at this
      exact this
    have hH : HoldsK enc (sz α) w g 0 ys.toArray := fun t ht => by
      rw [size_flatK] at ht
      simp only [List.size_toArray] at ht
      have hi : t / sz α < ys.length := Nat.div_lt_of_lt_mul (by rwa [Nat.mul_comm] at ht)
      have hr := Nat.mod_lt t h0
      have hsum : t / sz α * sz α + t % sz α = t := by rw [Nat.mul_comm]; exact Nat.div_add_mod t (sz α)
      have h5 := hcell _ hi _ hr
      have h6 := flatK_get hk ys.toArray (i := t / sz α) (r := t % sz α) (by simpa using hi) hr
      rw [hsum] at h5 h6
      refine ⟨?_, ?_⟩
      · rw [cell_of_row w g (0 + t) cs e (0, 0) hc, Nat.zero_add, h5]
        simp only [List.getElem_toArray] at h6
        rw [← h6, id]
        rw [getElem!_pos _ t (by rw [size_flatK]; simpa using ht), Array.getElem?_eq_getElem]
      · simp [World.frozen?, hc]
    have hlays : CmpLays P g0 #[] enc (sz α) cf g 0 ys.toArray.size w := fun m os dk hd x y => by
      have h := hcmp (sortWorldK enc (sz α) w g 0 m dk os) x y
      rw [Array.append_empty]
      refine h.mono ?_
      rintro e' w' ⟨u, rfl, rfl, hx⟩
      exact ⟨rfl, ext_grow hx⟩
    have hsort := AnyQ.slices_SortFunc_total L (sz α) aE zE enc hk h1 cf hO g0 #[] g 0 cap ys.toArray w eg hlays hH (lt_of_at hc) (by simp; omega) hT
    refine hsort.mono ?_
    rintro e' w' ⟨rfl, n, os, hw⟩
    have hperm := List.mergeSort_perm ys (leOf cf)
    have hl := hperm.length_eq
    have hle : (flatK enc (sz α) (ys.mergeSort (leOf cf)).toArray).size ≤ cs.size := by
      rw [size_flatK, h2]; simp only [List.size_toArray, hl]; exact Nat.mul_le_mul_right _ hcap
    have hat : w'.heap[g]? = some (.cells (putCells id 0 (flatK enc (sz α) (ys.mergeSort (leOf cf)).toArray) cs) e (0, 0)) := by
      rw [hw]
      show (grow (putRow id (Sort.ahead w n) g 0 (flatK enc (sz α) (ys.mergeSort (leOf cf)).toArray)) os).heap[g]? = _
      simp only [grow, putRow, mapBlock, Sort.ahead]
      rw [Array.getElem?_append_left (by simpa using lt_of_at hc), Array.getElem?_modify, if_pos rfl, hc]
      rfl
    have hstp : Stp [j] w C w' C := ⟨⟨by rw [hw]; rfl, by rw [hw]; rfl, by rw [hw]; rfl, by
        rw [hw]
        show w.heap.size ≤ (grow (putRow id (Sort.ahead w n) g 0 _) os).heap.size
        simp [grow, putRow, mapBlock, Sort.ahead], fun b hb hn => by
        have hbg : g ≠ b := fun e => hn (by rw [← e, hcol g rfl]; simp)
        rw [hw]
        show (grow (putRow id (Sort.ahead w n) g 0 _) os).heap[b]? = _
        simp only [grow, putRow, mapBlock, Sort.ahead]
        rw [Array.getElem?_append_left (by simpa using hb), Array.getElem?_modify, if_neg hbg], by
        rw [hw]
        unfold Dr
        exact Nat.le_add_right _ _⟩, fun _ _ => rfl⟩
    refine ⟨_, rfl, rfl, hstp, ⟨.inr ⟨g, cap, _, by rw [hl], hg, hat, by rw [hl]; exact hcap, ?_, ?_⟩, hcol⟩, hF.st hstp⟩
    · simp only [putCells, Array.size_mapIdx]; exact h2
    · intro i hi
      refine (henc _ _ _ _).2 ?_
      apply List.ext_getElem?
      intro r
      simp only [cellsAt, List.getElem?_take, List.getElem?_drop, Array.getElem?_toList]
      split
      · rename_i hr
        have hlt : i * sz α + r < (flatK enc (sz α) (ys.mergeSort (leOf cf)).toArray).size := by
          rw [size_flatK]; simp only [List.size_toArray]
          have := Nat.mul_le_mul_right (sz α) (show i + 1 ≤ _ from hi)
          rw [Nat.succ_mul] at this; omega
        rw [putCells_get hle, if_pos hlt, flatK_get hk _ (by simpa using hi) hr]
        simp
      · rename_i hr
        rw [List.getElem?_eq_none (by rw [hk]; omega)]
end
end Go.K

/- From the row's reading of an argument to what the steps ask. -/
set_option linter.unusedVariables false
namespace Go.K
open Rep
/-- Nobody writes anything that stood at the start. -/
def C0 : Nat → Nat := fun _ => 0
theorem lim0 (w : World) : Lim w C0 := fun b h => absurd rfl h
theorem Stp.below {w w' : World} (h : Stp [] w C0 w' C0) : Go.RowKit.Below w.heap.size w w' := h.ext.below (Nat.le_refl _) (fun b hb => by simp at hb)

end Go.K

/- Handing out what the call may still write. -/
set_option linter.unusedVariables false
set_option linter.unusedSimpArgs false
namespace Go.K
open Rep

/-! ### Handing out what the call may still write -/
section
variable {α : Type} [Rep α] {w w' : World} {C C1 D D' : Nat → Nat} {I : List Nat} {e : TypeId} {v : Value} {ys : List α} {x : α} {j j1 i b : Nat} {t : TypeId}
end
end Go.K

/- From the row's reading of an argument, of whatever make, to what the steps ask. -/
set_option linter.unusedVariables false
set_option linter.unusedSimpArgs false
namespace Go.K
open Rep

/-- Whatever the row reads at this type reads as a Lean value. -/
def Opens {H : Type} (enc : TypeId × Value → H) (P : Program) (w : World) (base : Nat) (spare : Nat → Bool) (held : Bool) (α : Type) [Rep α] (t : TypeId) : Prop :=
  P.cellsOf t = sz α ∧ ∀ (fuel : Nat) (cs : List Value) (x : DataW H × List MemPlace), DataW.trod enc P w base spare held fuel t cs = some x → ∃ a : α, rep w.heap (Mc C0) a cs

section
variable {H : Type} {enc : TypeId × Value → H} {P : Program} {w : World} {base : Nat} {spare : Nat → Bool} {held : Bool} {α β γ : Type} [Rep α] [Rep β] [Rep γ] {t e : TypeId}

theorem opens_int (ht : P.underlying t = some (.int .i64)) (hc : P.cellsOf t = 1) : Opens enc P w base spare held Int t := ⟨hc, fun fuel cs x h => by
  obtain ⟨n, rfl, _⟩ := DataW.trod_int ht h
  exact ⟨n, rfl⟩⟩
theorem opens_num {k : IntKind} (ht : P.underlying t = some (.int k)) (hc : P.cellsOf t = 1) : Opens enc P w base spare held (Num k) t := ⟨hc, fun fuel cs x h => by
  obtain ⟨n, rfl, _⟩ := DataW.trod_int ht h
  exact ⟨⟨n⟩, rfl⟩⟩
theorem opens_slice (ht : P.underlying t = some (.slice e)) (hc : P.cellsOf t = 1) (hsz : 0 < sz α) (he : Opens enc P w base spare held α e) : Opens enc P w base spare held (List α) t := ⟨hc, fun fuel cs x h => by
  rcases Go.Deep.open_slice ht h with ⟨rfl, _⟩ | ⟨a, len, cap, m, n, D, Pl, rfl, hb, hl, hm, hmm, hx, hcell⟩
  · exact ⟨[], none, 0, rfl, Nat.le_refl _, by simp, .inl rfl⟩
  · have hlm : len ≤ m := by rw [hmm]; split <;> omega
    have key : ∀ k, k ≤ len → ∃ xs : List α, xs.length = k ∧ ∀ i (hi : i < xs.length), ∃ cs', w.cells? base (a.add (i * sz α)) (sz α) = some cs' ∧ rep w.heap (Mc C0) xs[i] cs' := by
      intro k
      induction k with
      | zero => exact fun _ => ⟨[], rfl, fun i hi => by simp at hi⟩
      | succ k ih =>
        intro hk
        obtain ⟨xs, hxl, hxs⟩ := ih (by omega)
        obtain ⟨cs', h1, h2⟩ := hcell k (by omega)
        obtain ⟨y, hy⟩ := he.2 _ _ _ h2
        rw [he.1] at h1
        refine ⟨xs ++ [y], by simp [hxl], fun i hi => ?_⟩
        by_cases hik : i < xs.length
        · rw [List.getElem_append_left hik]; exact hxs i hik
        · have hik2 : i = k := by simp at hi; omega
          subst hik2
          rw [List.getElem_append_right (by omega)]
          exact ⟨cs', h1, by simpa [hxl] using hy⟩
    obtain ⟨xs, hxl, hxs⟩ := key len (Nat.le_refl _)
    refine ⟨xs, some a, cap, by rw [hxl], by omega, by unfold maxLen at hm; omega, ?_⟩
    by_cases h0 : len = 0
    · left; exact List.length_eq_zero_iff.1 (by omega)
    · right
      have hall : ∀ i (hi : i < xs.length), ∃ cs', cs'.length = sz α ∧ (∀ j (hj : j < cs'.length), w.cell? (a.add (i * sz α + j)) = some cs'[j]) ∧ rep w.heap (Mc C0) xs[i] cs' := fun i hi => by
        obtain ⟨cs', h1, h2⟩ := hxs i hi
        obtain ⟨_, h3, h4⟩ := World.cells?_some h1
        refine ⟨cs', h3, fun j hj => ?_, h2⟩
        have h5 := h4 j (by omega)
        rw [Addr.add_add] at h5
        rw [h5]; exact List.getElem?_eq_getElem hj
      obtain ⟨c0, hc0l, hc0, _⟩ := hall 0 (by omega)
      have hfirst := hc0 0 (by omega)
      obtain ⟨b, off, spot⟩ := a
      have hspot : spot = none := by simpa [Addr.add] using World.cell?_spot hfirst
      subst hspot
      refine ⟨b, off, rfl, ?_⟩
      simp only [addr_add] at hall hfirst
      unfold World.cell? at hfirst
      simp only at hfirst
      cases hbk : w.heap[b]? with
      | none => rw [hbk] at hfirst; cases hfirst
      | some ob =>
        cases ob with
        | cells c ty fz =>
          have hget : ∀ i (hi : i < xs.length), ∃ cs', cs'.length = sz α ∧ (∀ j (hj : j < cs'.length), c[off + (i * sz α + j)]? = some cs'[j]) ∧ rep w.heap (Mc C0) xs[i] cs' := fun i hi => by
            obtain ⟨cs', h1, h2, h3⟩ := hall i hi
            refine ⟨cs', h1, fun j hj => ?_, h3⟩
            have h4 := h2 j hj
            unfold World.cell? at h4
            simp only [hbk] at h4
            simpa using h4
          refine ⟨fun h => h rfl, c, ty, fz, hbk, ?_, fun i hi => ?_⟩
          · obtain ⟨cs', h1, h2, _⟩ := hget (len - 1) (by omega)
            have h3 := (Array.getElem?_eq_some_iff.1 (h2 (sz α - 1) (by omega))).1
            have h4 : len * sz α = (len - 1) * sz α + sz α := by
              have : len = (len - 1) + 1 := by omega
              rw [this, Nat.succ_mul]; simp
            rw [hxl, h4]; omega
          · obtain ⟨cs', h1, h2, h3⟩ := hget i hi
            have : cellsAt c (off + i * sz α) (sz α) = cs' := by
              apply List.ext_getElem?
              intro r
              simp only [cellsAt, List.getElem?_take, List.getElem?_drop, Array.getElem?_toList]
              by_cases hr : r < sz α
              · rw [if_pos hr, List.getElem?_eq_getElem (by omega), Nat.add_assoc]; exact h2 r (by omega)
              · rw [if_neg hr, List.getElem?_eq_none (by omega)]
            rw [this]; exact h3
        | _ => rw [hbk] at hfirst; cases hfirst⟩

theorem opens_s2 {f0 f1 : Field} (ht : P.underlying t = some (.struct #[f0, f1])) (hc : P.cellsOf t = sz α + sz β) (o0 : f0.offset = 0) (o1 : f1.offset = sz α)
    (h0 : Opens enc P w base spare held α f0.type) (h1 : Opens enc P w base spare held β f1.type)
    (fuel : Nat) (cs : List Value) (x : DataW H × List MemPlace) (h : DataW.trod enc P w base spare held fuel t cs = some x) : ∃ a : α × β, rep w.heap (Mc C0) a cs := by
  obtain ⟨xs, n, _, _, hl, hxl, hf⟩ := DataW.trod_struct ht h
  have hx2 : xs.length = 2 := hxl
  have e0 := hf 0 f0 rfl
  have e1 := hf 1 f1 rfl
  rw [o0, h0.1, List.drop_zero, List.getElem?_eq_getElem (by omega)] at e0
  rw [o1, h1.1, List.take_of_length_le (by rw [List.length_drop]; omega), List.getElem?_eq_getElem (by omega)] at e1
  obtain ⟨a, ha⟩ := h0.2 _ _ _ e0
  obtain ⟨b, hb⟩ := h1.2 _ _ _ e1
  exact ⟨(a, b), _, _, (List.take_append_drop (sz α) cs).symm, ha, hb⟩
theorem Opens.rv (h : Opens enc P w base spare held α t) (hx : Rep.agg α = false) {fuel : Nat} {v : Value} {x : DataW H × List MemPlace} (ht : DataW.trod enc P w base spare held fuel t [v] = some x) : ∃ a : α, RV w (Mc C0) a v := by
  obtain ⟨a, ha⟩ := h.2 _ _ _ ht
  exact ⟨a, rep1_rv ha hx⟩
end
end Go.K

/- What a row reads, with the bytes that it takes at most. -/
set_option linter.unusedVariables false
set_option linter.unusedSimpArgs false
namespace Go.K
open Rep

/-- What the row reads at this type reads as a Lean value, of which more is known by the bytes that it takes. -/
def OpensQ {H : Type} (enc : TypeId × Value → H) (P : Program) (w : World) (base : Nat) (spare : Nat → Bool) (held : Bool) (α : Type) [Rep α] (t : TypeId) (Q : α → Prop) : Prop :=
  P.cellsOf t = sz α ∧ ∀ (fuel : Nat) (cs : List Value) (x : DataW H × List MemPlace), DataW.trod enc P w base spare held fuel t cs = some x → (∀ n ∈ x.1.weights P t, n ≤ reachBytes) → ∃ a : α, rep w.heap (Mc C0) a cs ∧ Q a
theorem weightsAll_mem {H : Type} {P : Program} {e : TypeId} {d : DataW H} {n : Nat} : ∀ {l : List (DataW H)}, d ∈ l → n ∈ d.weights P e → n ∈ DataW.weightsAll P e l
  | [], h, _ => by cases h
  | a :: l, h, hn => by
    simp only [DataW.weightsAll, List.mem_append]
    rcases List.mem_cons.1 h with rfl | h
    · exact .inl hn
    · exact .inr (weightsAll_mem h hn)
section
variable {H : Type} {enc : TypeId × Value → H} {P : Program} {w : World} {base : Nat} {spare : Nat → Bool} {held : Bool} {α β γ : Type} [Rep α] [Rep β] [Rep γ] {t e : TypeId}
theorem Opens.q (h : Opens enc P w base spare held α t) : OpensQ enc P w base spare held α t (fun _ => True) := ⟨h.1, fun fuel cs x hx _ => by
  obtain ⟨a, ha⟩ := h.2 fuel cs x hx
  exact ⟨a, ha, trivial⟩⟩
theorem OpensQ.mono {Q R : α → Prop} (h : OpensQ enc P w base spare held α t Q) (hqr : ∀ a, Q a → R a) : OpensQ enc P w base spare held α t R := ⟨h.1, fun fuel cs x hx hn => by
  obtain ⟨a, ha, hq⟩ := h.2 fuel cs x hx hn
  exact ⟨a, ha, hqr a hq⟩⟩
theorem opensQ_slice {Q : α → Prop} {nb : Nat} (ht : P.underlying t = some (.slice e)) (hc : P.cellsOf t = 1) (hsz : 0 < sz α) (hnb : P.bytesOf e = nb) (he : OpensQ enc P w base spare held α e Q) : OpensQ enc P w base spare held (List α) t (fun l => l.length * nb ≤ reachBytes ∧ ∀ y ∈ l, Q y) := ⟨hc, fun fuel cs x h hq => by
  rcases Go.Deep.open_slice ht h with ⟨rfl, rfl⟩ | ⟨a, len, cap, m, n, D, Pl, rfl, hb, hl, hm, hmm, rfl, hcell⟩
  · exact ⟨[], ⟨none, 0, rfl, Nat.le_refl _, by simp, .inl rfl⟩, by simp, fun y hy => by cases hy⟩
  · have hlm : len ≤ m := by rw [hmm]; split <;> omega
    have hw0 : (len + (m - len)) * nb ≤ reachBytes := hq _ (by simp [DataW.weights, ht, hnb])
    have hwi : ∀ i, i < len → ∀ n ∈ (D i).weights P e, n ≤ reachBytes := fun i hi n hn => hq n (by
      simp only [DataW.weights, ht, List.mem_cons, List.mem_append]
      exact .inr (.inl (weightsAll_mem (List.mem_map.2 ⟨i, List.mem_range.2 hi, rfl⟩) hn)))
    have key : ∀ k, k ≤ len → ∃ xs : List α, xs.length = k ∧ (∀ y ∈ xs, Q y) ∧ ∀ i (hi : i < xs.length), ∃ cs', w.cells? base (a.add (i * sz α)) (sz α) = some cs' ∧ rep w.heap (Mc C0) xs[i] cs' := by
      intro k
      induction k with
      | zero => exact fun _ => ⟨[], rfl, fun y hy => (by cases hy), fun i hi => by simp at hi⟩
      | succ k ih =>
        intro hk
        obtain ⟨xs, hxl, hxq, hxs⟩ := ih (by omega)
        obtain ⟨cs', h1, h2⟩ := hcell k (by omega)
        obtain ⟨y, hy, hyq⟩ := he.2 _ _ _ h2 (hwi k (by omega))
        rw [he.1] at h1
        refine ⟨xs ++ [y], by simp [hxl], fun z hz => (List.mem_append.1 hz).elim (hxq z) (fun hz => by rw [List.mem_singleton.1 hz]; exact hyq), fun i hi => ?_⟩
        by_cases hik : i < xs.length
        · rw [List.getElem_append_left hik]; exact hxs i hik
        · have hik2 : i = k := by simp at hi; omega
          subst hik2
          rw [List.getElem_append_right (by omega)]
          exact ⟨cs', h1, by simpa [hxl] using hy⟩
    obtain ⟨xs, hxl, hxq, hxs⟩ := key len (Nat.le_refl _)
    refine ⟨xs, ?_, by rw [hxl]; exact Nat.le_trans (Nat.mul_le_mul_right _ (by omega)) hw0, hxq⟩
    refine ⟨some a, cap, by rw [hxl], by omega, by unfold maxLen at hm; omega, ?_⟩
    by_cases h0 : len = 0
    · left; exact List.length_eq_zero_iff.1 (by omega)
    · right
      have hall : ∀ i (hi : i < xs.length), ∃ cs', cs'.length = sz α ∧ (∀ j (hj : j < cs'.length), w.cell? (a.add (i * sz α + j)) = some cs'[j]) ∧ rep w.heap (Mc C0) xs[i] cs' := fun i hi => by
        obtain ⟨cs', h1, h2⟩ := hxs i hi
        obtain ⟨_, h3, h4⟩ := World.cells?_some h1
        refine ⟨cs', h3, fun j hj => ?_, h2⟩
        have h5 := h4 j (by omega)
        rw [Addr.add_add] at h5
        rw [h5]; exact List.getElem?_eq_getElem hj
      obtain ⟨c0, hc0l, hc0, _⟩ := hall 0 (by omega)
      have hfirst := hc0 0 (by omega)
      obtain ⟨b, off, spot⟩ := a
      have hspot : spot = none := by simpa [Addr.add] using World.cell?_spot hfirst
      subst hspot
      refine ⟨b, off, rfl, ?_⟩
      simp only [addr_add] at hall hfirst
      unfold World.cell? at hfirst
      simp only at hfirst
      cases hbk : w.heap[b]? with
      | none => rw [hbk] at hfirst; cases hfirst
      | some ob =>
        cases ob with
        | cells c ty fz =>
          have hget : ∀ i (hi : i < xs.length), ∃ cs', cs'.length = sz α ∧ (∀ j (hj : j < cs'.length), c[off + (i * sz α + j)]? = some cs'[j]) ∧ rep w.heap (Mc C0) xs[i] cs' := fun i hi => by
            obtain ⟨cs', h1, h2, h3⟩ := hall i hi
            refine ⟨cs', h1, fun j hj => ?_, h3⟩
            have h4 := h2 j hj
            unfold World.cell? at h4
            simp only [hbk] at h4
            simpa using h4
          refine ⟨fun h => h rfl, c, ty, fz, hbk, ?_, fun i hi => ?_⟩
          · obtain ⟨cs', h1, h2, _⟩ := hget (len - 1) (by omega)
            have h3 := (Array.getElem?_eq_some_iff.1 (h2 (sz α - 1) (by omega))).1
            have h4 : len * sz α = (len - 1) * sz α + sz α := by
              have : len = (len - 1) + 1 := by omega
              rw [this, Nat.succ_mul]; simp
            rw [hxl, h4]; omega
          · obtain ⟨cs', h1, h2, h3⟩ := hget i hi
            have : cellsAt c (off + i * sz α) (sz α) = cs' := by
              apply List.ext_getElem?
              intro r
              simp only [cellsAt, List.getElem?_take, List.getElem?_drop, Array.getElem?_toList]
              by_cases hr : r < sz α
              · rw [if_pos hr, List.getElem?_eq_getElem (by omega), Nat.add_assoc]; exact h2 r (by omega)
              · rw [if_neg hr, List.getElem?_eq_none (by omega)]
            rw [this]; exact h3
        | _ => rw [hbk] at hfirst; cases hfirst⟩

theorem OpensQ.rv {Q : α → Prop} (h : OpensQ enc P w base spare held α t Q) (hx : Rep.agg α = false) {fuel : Nat} {v : Value} {x : DataW H × List MemPlace} (ht : DataW.trod enc P w base spare held fuel t [v] = some x) (hn : ∀ n ∈ x.1.weights P t, n ≤ reachBytes) : ∃ a : α, RV w (Mc C0) a v ∧ Q a := by
  obtain ⟨a, ha, hq⟩ := h.2 _ _ _ ht hn
  exact ⟨a, rep1_rv ha hx, hq⟩
theorem weights_at {ts : List TypeId} {ds : List (DataW H)} (h : (DataW.weightsEach P ts ds).all (· ≤ reachBytes) = true) {j : Nat} {d : DataW H} (ht : ts[j]? = some t) (hd : ds[j]? = some d) : ∀ n ∈ d.weights P t, n ≤ reachBytes := fun n hn => by
  have := List.all_eq_true.1 h _ (DataW.weights_mem_each ht hd n hn)
  simpa using this
end
end Go.K
