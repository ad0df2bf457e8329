/- Couples (and other structs of two ints): as keys, compared, in order; what stands twice side by side. -/
import Derived.Test.YtfmdkdfhnkennaaK8
import Derived.Laws.StructEq
import Derived.ChangeKeysEq
set_option linter.unusedVariables false
set_option linter.unusedSimpArgs false
namespace Go.K
open Rep

abbrev kvI : Int → Value := fun n => .int .i64 n
abbrev vvB : Bool → Value := fun b => .bool b
abbrev kvC : Couple → Value := fun c => .agg #[.int .i64 c.a, .int .i64 c.b]
abbrev vvN : Nat → Value := fun n => .int .i64 (n : Int)
theorem foldl_take {γ δ : Type} (f : γ → δ → γ) (a : γ) (l : List δ) (i : Nat) (h : i < l.length) : (l.take (i + 1)).foldl f a = f ((l.take i).foldl f a) l[i] := by
  rw [List.take_succ_eq_append_getElem h, List.foldl_append]; rfl
theorem foldl_split {γ δ : Type} (f : γ → δ → γ) (a : γ) (l : List δ) (i : Nat) : l.foldl f a = (l.drop i).foldl f ((l.take i).foldl f a) := by
  rw [← List.foldl_append, List.take_append_drop]

/-! ### 'cmp' -/
/-- 'cmp.Or'. -/
def orL : List Int → Int
  | [] => 0
  | a :: l => if a = 0 then orL l else a
/-- 'cmp.Compare'. -/
def cmpI (x y : Int) : Int := if x < y then -1 else if y < x then 1 else 0
def cmpC (x y : Couple) : Int := orL [cmpI x.a y.a, cmpI x.b y.b]
theorem orL_drop {l : List Int} {i : Nat} (h : i < l.length) : orL (l.drop i) = if l[i] = 0 then orL (l.drop (i + 1)) else l[i] := by
  rw [List.drop_eq_getElem_cons h]; rfl


/-! ### Couples as keys -/
section
variable {P : Program} {t ti : TypeId} {n0 n1 tg0 tg1 pk0 pk1 : String} {e0 e1 : Bool} {y0 y1 : Nat}
theorem part_couple (hi : P.underlying ti = some (.int .i64)) (a b : Int) (i : Nat) (v : Value) (w : World) (hv : (#[Value.int .i64 a, Value.int .i64 b])[i]? = some v) : (part ti #[.int .i64 a, .int .i64 b] i).run P w = .ok v w :=
  run_part_plain w (by simp [Program.plainKey, hi]) hv
theorem eqOK_couple (h : P.underlying t = some (.struct #[⟨n0, ti, 0, e0, tg0, pk0, y0⟩, ⟨n1, ti, 1, e1, tg1, pk1, y1⟩])) (h0 : n0 ≠ "_") (h1 : n1 ≠ "_") (hS : P.stoodInHeld t = false)
    (hi : P.underlying ti = some (.int .i64)) : EqOK P t kvC := fun d a b w => by
  have hpt := fun a b i v w => part_couple (P := P) hi a b i v w
  have hf : P.fieldsOf t = #[⟨n0, ti, 0, e0, tg0, pk0, y0⟩, ⟨n1, ti, 1, e1, tg1, pk1, y1⟩] := by simp [Program.fieldsOf, h]
  have he := fun (x y : Int) => run_equalIn_int (P := P) w (d + 6) ti .i64 .i64 x y hi
  rw [show d + 8 = (d + 7) + 1 from rfl, run_equalIn_struct w (d + 7) t _ _ (by rw [hf]; exact h) hS, hf]
  have p0 : ∀ c : Couple, (part ti #[.int .i64 c.a, .int .i64 c.b] 0).run P w = .ok (.int .i64 c.a) w := fun c => hpt _ _ 0 _ w rfl
  have p1 : ∀ c : Couple, (part ti #[.int .i64 c.a, .int .i64 c.b] 1).run P w = .ok (.int .i64 c.b) w := fun c => hpt _ _ 1 _ w rfl
  have hd : (decide (a = b)) = ((a.a == b.a) && (a.b == b.b)) := by
    cases a; cases b; simp only [Couple.mk.injEq, Bool.decide_and]; rfl
  simp only [Op.eqFields, Sem.run_bind, Sem.run_ite, h0, h1, ne_eq, not_false_eq_true, if_true, p0, p1, Result.andThen_ok, he, hd]
  cases (a.a == b.a) <;> cases (a.b == b.b) <;> simp
theorem keyOK_couple (h : P.underlying t = some (.struct #[⟨n0, ti, 0, e0, tg0, pk0, y0⟩, ⟨n1, ti, 1, e1, tg1, pk1, y1⟩])) (h0 : n0 ≠ "_") (h1 : n1 ≠ "_") (hS : P.stoodInHeld t = false)
    (hi : P.underlying ti = some (.int .i64)) : KeyOK P t kvC := by
  have hpt := fun a b i v w => part_couple (P := P) hi a b i v w
  refine keyOK_struct h (eqOK_couple h h0 h1 hS hi) (fun e k w => ?_) (fun k => by simp [Instr.sameBits]) (fun a b hab => ?_)
  · have p0 : (part ti #[.int .i64 k.a, .int .i64 k.b] 0).run P w = .ok (.int .i64 k.a) w := hpt _ _ 0 _ w rfl
    have p1 : (part ti #[.int .i64 k.a, .int .i64 k.b] 1).run P w = .ok (.int .i64 k.b) w := hpt _ _ 1 _ w rfl
    have q : ∀ (x : Int), (Instr.checkKey e 9999 ti (.int .i64 x)).run P w = .ok () w := fun x => by unfold Instr.checkKey; simp [run_underlying hi]
    rw [show (10000 : Nat) = 9999 + 1 from rfl, Instr.checkKey]
    simp only [Sem.run_bind, run_underlying h, Result.andThen_ok]
    rw [← Array.forIn_toList]
    simp only [List.forIn_cons, List.forIn_nil, Sem.run_bind, Sem.run_ite, h0, h1, ne_eq, not_false_eq_true, if_true, p0, p1, q, Result.andThen_ok, Sem.run_pure]
  · cases a; cases b; simp at hab; simp [hab]
theorem eqGuard_couple (h : P.underlying t = some (.struct #[⟨n0, ti, 0, e0, tg0, pk0, y0⟩, ⟨n1, ti, 1, e1, tg1, pk1, y1⟩])) (h0 : n0 ≠ "_") (h1 : n1 ≠ "_")
    (hi : P.underlying ti = some (.int .i64)) (d : Nat) (a b : Couple) (w : World) : (Op.eqGuardIn (d + 2) t (kvC a) (kvC b)).run P w = .ok false w := by
  have hpt := fun a b i v w => part_couple (P := P) hi a b i v w
  have p0 : ∀ c : Couple, (part ti #[.int .i64 c.a, .int .i64 c.b] 0).run P w = .ok (.int .i64 c.a) w := fun c => hpt _ _ 0 _ w rfl
  have p1 : ∀ c : Couple, (part ti #[.int .i64 c.a, .int .i64 c.b] 1).run P w = .ok (.int .i64 c.b) w := fun c => hpt _ _ 1 _ w rfl
  have q : ∀ (x y : Int), (Op.eqGuardIn (d + 1) ti (.int .i64 x) (.int .i64 y)).run P w = .ok false w := fun x y => by unfold Op.eqGuardIn; simp [run_underlying hi]
  rw [show d + 2 = (d + 1) + 1 from rfl, Op.eqGuardIn]
  simp only [Sem.run_bind, run_underlying h, Result.andThen_ok]
  rw [← Array.forIn_toList]
  simp only [List.forIn_cons, List.forIn_nil, Sem.run_bind, Sem.run_ite, h0, h1, ne_eq, not_false_eq_true, if_true, p0, p1, q, Result.andThen_ok, Sem.run_pure, Bool.false_eq_true, if_false]
variable {N : Nat} {env : Env} {x y : Operand} {u : TypeId} {a b : Couple} {w : World}
theorem val_eqC (h : P.underlying t = some (.struct #[⟨n0, ti, 0, e0, tg0, pk0, y0⟩, ⟨n1, ti, 1, e1, tg1, pk1, y1⟩])) (h0 : n0 ≠ "_") (h1 : n1 ≠ "_") (hS : P.stoodInHeld t = false)
    (hi : P.underlying ti = some (.int .i64)) (hx : ev env x = some (kvC a)) (hy : ev env y = some (kvC b)) : Val P N env (.binOp .eql t x y u) w (.bool (decide (a = b))) := mk' fun ρ hρ o ho => by
  have h5 := eqOK_couple h h0 h1 hS hi (Op.maxDepth - 8) a b w
  have h6 := eqGuard_couple h h0 h1 hi (Op.maxDepth - 2) a b w
  have h7 : (Op.equal t (kvC a) (kvC b)).run P w = .ok (decide (a = b)) w := h5
  have h8 : (Op.eqGuardIn Op.maxDepth t (kvC a) (kvC b)).run P w = .ok false w := h6
  have h9 : (eqGuard .eql t x y (kvC a) (kvC b)).run P w = .ok () w := by
    unfold eqGuard
    simp only [Sem.run_bind, Sem.run_pure, Sem.run_ite, run_program, Result.andThen_ok, h8, Bool.not_true, Bool.false_eq_true, if_false]
    cases P.eqGuardType P.depth t <;> simp [h8]
  have h10 : (binOp .eql t (kvC a) (kvC b)).run P w = .ok (.bool (decide (a = b))) w := by
    show (Op.equal t (kvC a) (kvC b) >>= fun z => pure (Value.bool z)).run P w = _
    rw [Sem.run_bind, h7]; rfl
  unfold execOp; rw [ho]
  simp only [hρ _ _ hx, hρ _ _ hy]
  simp [Sem.run_bind, h9, h10]
theorem val_neC (h : P.underlying t = some (.struct #[⟨n0, ti, 0, e0, tg0, pk0, y0⟩, ⟨n1, ti, 1, e1, tg1, pk1, y1⟩])) (h0 : n0 ≠ "_") (h1 : n1 ≠ "_") (hS : P.stoodInHeld t = false)
    (hi : P.underlying ti = some (.int .i64)) (hx : ev env x = some (kvC a)) (hy : ev env y = some (kvC b)) : Val P N env (.binOp .neq t x y u) w (.bool (decide (a ≠ b))) := mk' fun ρ hρ o ho => by
  have h5 := eqOK_couple h h0 h1 hS hi (Op.maxDepth - 8) a b w
  have h6 := eqGuard_couple h h0 h1 hi (Op.maxDepth - 2) a b w
  have h7 : (Op.equal t (kvC a) (kvC b)).run P w = .ok (decide (a = b)) w := h5
  have h8 : (Op.eqGuardIn Op.maxDepth t (kvC a) (kvC b)).run P w = .ok false w := h6
  have h9 : (eqGuard .neq t x y (kvC a) (kvC b)).run P w = .ok () w := by
    unfold eqGuard
    simp only [Sem.run_bind, Sem.run_pure, Sem.run_ite, run_program, Result.andThen_ok, h8, Bool.not_true, Bool.false_eq_true, if_false]
    cases P.eqGuardType P.depth t <;> simp [h8]
  have h10 : (binOp .neq t (kvC a) (kvC b)).run P w = .ok (.bool (decide (a ≠ b))) w := by
    show (Op.equal t (kvC a) (kvC b) >>= fun z => pure (Value.bool (!z))).run P w = _
    rw [Sem.run_bind, h7]; simp
  unfold execOp; rw [ho]
  simp only [hρ _ _ hx, hρ _ _ hy]
  simp [Sem.run_bind, h9, h10]
end


/-! ### Lists of couples -/
def leC (x y : Couple) : Bool := !decide (cmpC y x < 0)
def sortC (l : List Couple) : List Couple := l.mergeSort leC
theorem cmpC_val (x y : Couple) : cmpC x y = if x.a < y.a then -1 else if y.a < x.a then 1 else if x.b < y.b then -1 else if y.b < x.b then 1 else 0 := by
  unfold cmpC orL orL orL cmpI
  by_cases h1 : x.a < y.a <;> by_cases h2 : y.a < x.a <;> by_cases h3 : x.b < y.b <;> by_cases h4 : y.b < x.b <;> simp [h1, h2, h3, h4]
theorem leC_iff (x y : Couple) : leC x y = true ↔ x.a < y.a ∨ x.a = y.a ∧ x.b ≤ y.b := by
  unfold leC; rw [cmpC_val]
  simp only [Bool.not_eq_true', decide_eq_false_iff_not]
  split
  · omega
  · split
    · omega
    · split
      · omega
      · split <;> omega
theorem leC_trans (x y z : Couple) (h : leC x y = true) (h' : leC y z = true) : leC x z = true := by rw [leC_iff] at *; omega
theorem leC_total (x y : Couple) : (leC x y || leC y x) = true := by rw [Bool.or_eq_true, leC_iff, leC_iff]; omega
theorem leC_anti (x y : Couple) (h : leC x y = true) (h' : leC y x = true) : x = y := by
  rw [leC_iff] at *
  have h1 : x.a = y.a := by omega
  have h2 : x.b = y.b := by omega
  cases x; cases y; simp only at h1 h2; rw [h1, h2]
theorem sortC_sorted (l : List Couple) : (sortC l).Pairwise (fun x y => leC x y = true) := List.pairwise_mergeSort leC_trans leC_total l
theorem sortC_perm (l : List Couple) : (sortC l).Perm l := List.mergeSort_perm l leC
theorem sorted_unique {γ : Type} {le : γ → γ → Bool} (ha : ∀ x y, le x y = true → le y x = true → x = y) : ∀ {l l' : List γ}, l.Perm l' → l.Pairwise (fun x y => le x y = true) → l'.Pairwise (fun x y => le x y = true) → l = l'
  | [], l', hp, _, _ => by simpa using hp.symm.eq_nil.symm
  | a :: l, [], hp, _, _ => by simpa using hp.eq_nil
  | a :: l, b :: l', hp, h1, h2 => by
    have hab : a = b := by
      by_cases e : a = b
      · exact e
      · have hb : b ∈ a :: l := hp.symm.subset (by simp)
        have ha' : a ∈ b :: l' := hp.subset (by simp)
        rcases List.mem_cons.1 hb with hb | hb
        · exact hb.symm
        · rcases List.mem_cons.1 ha' with ha' | ha'
          · exact ha'
          · exact ha _ _ ((List.pairwise_cons.1 h1).1 b hb) ((List.pairwise_cons.1 h2).1 a ha')
    subst hab
    rw [sorted_unique ha hp.cons_inv (List.pairwise_cons.1 h1).2 (List.pairwise_cons.1 h2).2]
theorem sortC_of_perm {l l' : List Couple} (h : l.Perm l') : sortC l = sortC l' :=
  sorted_unique leC_anti ((sortC_perm l).trans (h.trans (sortC_perm l').symm)) (sortC_sorted l) (sortC_sorted l')

/-! ### What stands twice side by side -/
section
variable {α : Type} [DecidableEq α]
def compactS : List α → List α
  | [] => []
  | [a] => [a]
  | a :: b :: l => if a = b then compactS (b :: l) else a :: compactS (b :: l)
theorem compactS_snoc (b : α) : ∀ (l : List α) (h : l ≠ []), compactS (l ++ [b]) = if l.getLast h = b then compactS l else compactS l ++ [b]
  | [], h => absurd rfl h
  | [a], _ => by
    by_cases e : a = b
    · subst e; simp [compactS]
    · simp [compactS, e]
  | a :: c :: l, h => by
    have ih := compactS_snoc b (c :: l) (by simp)
    simp only [List.cons_append, compactS] at ih ⊢
    rw [List.getLast_cons (by simp)]
    by_cases hac : a = c
    · rw [if_pos hac, if_pos hac]; exact ih
    · rw [if_neg hac, if_neg hac, ih]; split <;> simp
theorem compactS_take {l : List α} {k : Nat} (h0 : 0 < k) (h : k < l.length) : compactS (l.take (k + 1)) = if l[k - 1]'(by omega) = l[k] then compactS (l.take k) else compactS (l.take k) ++ [l[k]] := by
  have hne : l.take k ≠ [] := by
    intro e
    have : (l.take k).length = 0 := by rw [e]; rfl
    rw [List.length_take] at this; omega
  rw [List.take_succ_eq_append_getElem h, compactS_snoc _ _ hne]
  have : (l.take k).getLast hne = l[k - 1]'(by omega) := by
    rw [List.getLast_eq_getElem]
    simp only [List.length_take, List.getElem_take]
    congr 1; omega
  rw [this]
theorem compactS_mem {a : α} : ∀ {l : List α}, a ∈ compactS l ↔ a ∈ l
  | [] => by simp [compactS]
  | [b] => by simp [compactS]
  | b :: c :: l => by
    have ih := compactS_mem (a := a) (l := c :: l)
    unfold compactS
    split
    · rename_i e; subst e; rw [ih]; simp
    · rw [List.mem_cons, ih, List.mem_cons (a := a) (b := b)]
theorem compactS_sub : ∀ l : List α, (compactS l).Sublist l
  | [] => by simp [compactS]
  | [b] => by simp [compactS]
  | b :: c :: l => by
    have ih := compactS_sub (c :: l)
    unfold compactS
    split
    · exact ih.cons b
    · exact ih.cons_cons b
theorem compactS_len (l : List α) : (compactS l).length ≤ l.length := (compactS_sub l).length_le
theorem compactS_nodup {le : α → α → Prop} (ha : ∀ x y, le x y → le y x → x = y) : ∀ {l : List α}, l.Pairwise le → (compactS l).Nodup
  | [], _ => by simp [compactS]
  | [b], _ => by simp [compactS]
  | b :: c :: l, h => by
    have h2 := (List.pairwise_cons.1 h).2
    have ih := compactS_nodup ha h2
    unfold compactS
    split
    · exact ih
    · rename_i hne
      refine List.nodup_cons.2 ⟨fun hm => ?_, ih⟩
      rw [compactS_mem] at hm
      have hbc := (List.pairwise_cons.1 h).1 c (by simp)
      rcases List.mem_cons.1 hm with e | hm
      · exact hne e
      · exact hne (ha _ _ hbc ((List.pairwise_cons.1 h2).1 b hm))
end
def encC : Couple → List Value := fun c => [.int .i64 c.a, .int .i64 c.b]
instance : Inhabited Couple := ⟨⟨0, 0⟩⟩
theorem zero_couple {h : Array Obj} {M : Nat → Prop} : rep h M (⟨0, 0⟩ : Couple) [.int .i64 0, .int .i64 0] := ⟨[_], [_], rfl, rfl, rfl⟩
end Go.K
