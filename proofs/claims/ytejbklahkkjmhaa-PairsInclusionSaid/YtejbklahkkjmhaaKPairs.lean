/- Blocks and couples: plain. -/
import Derived.Test.YtejbklahkkjmhaaK8
import Derived.Test.YtejbklahkkjmhaaKBlk
import Derived.Laws.StructEq
import Derived.ChangeKeysEq
set_option linter.unusedVariables false
set_option linter.unusedSimpArgs false
namespace Go.K
open Rep

abbrev kvI : Int → Value := fun n => .int .i64 n
abbrev vvB : Bool → Value := fun b => .bool b
abbrev Used := List (Int × Bool)

def total (l : List Block) : Int := (l.map fun b => (b.ids.length : Int)).sum
def overB (p : Option Int) (x : Int) : Bool := match p with | some p => decide (x ≤ p) | none => false
def badI (p : Option Int) (u : Used) (id : Int) : Bool := decide (id < 1) || decide (1048576 < id) || (mget u id).getD false || overB p id
def badB (p : Option Int) (x : Block) : Bool := decide ((x.ids.length : Int) = 0) || overB p x.hash
def idStep (s : Option (Option Int × Used)) (id : Int) : Option (Option Int × Used) :=
  match s with | none => none | some (p, u) => if badI p u id then none else some (some id, mput u id true)
def bStep (s : Option (Option Int × Used)) (x : Block) : Option (Option Int × Used) :=
  match s with | none => none | some (p, u) => if badB p x then none else match x.ids.foldl idStep (some (none, u)) with | none => none | some (_, u') => some (some x.hash, u')
/-- 'Check'. -/
def checkS (l : List Block) : Int := if 64 < total l then 1 else if (l.foldl bStep (some (none, []))).isSome then 0 else 12

theorem foldl_none {γ δ : Type} (f : Option γ → δ → Option γ) (hf : ∀ d, f none d = none) : ∀ l : List δ, l.foldl f none = none
  | [] => rfl
  | d :: l => by rw [List.foldl_cons, hf]; exact foldl_none f hf l
theorem foldl_take {γ δ : Type} (f : γ → δ → γ) (a : γ) (l : List δ) (i : Nat) (h : i < l.length) : (l.take (i + 1)).foldl f a = f ((l.take i).foldl f a) l[i] := by
  rw [List.take_succ_eq_append_getElem h, List.foldl_append]; rfl
theorem foldl_split {γ δ : Type} (f : γ → δ → γ) (a : γ) (l : List δ) (i : Nat) : l.foldl f a = (l.drop i).foldl f ((l.take i).foldl f a) := by
  rw [← List.foldl_append, List.take_append_drop]
/-- An error at element `i` is the error of the whole. -/
theorem foldl_fails {γ δ : Type} (f : Option γ → δ → Option γ) (hf : ∀ d, f none d = none) (a : Option γ) (l : List δ) (i : Nat) (h : i < l.length) (he : f ((l.take i).foldl f a) l[i] = none) : l.foldl f a = none := by
  rw [foldl_split f a l (i + 1), foldl_take f a l i h, he, foldl_none f hf]
theorem idStep_none (d : Int) : idStep none d = none := rfl
theorem bStep_none (d : Block) : bStep none d = none := rfl

def lastI (l : List Int) (k : Nat) : Option Int := if k = 0 then none else l[k - 1]?
theorem lastI_succ (l : List Int) {k : Nat} (h : k < l.length) : lastI l (k + 1) = some l[k] := by
  unfold lastI; rw [if_neg (by omega)]; simp [h]
def lastH (l : List Block) (k : Nat) : Option Int := if k = 0 then none else (l[k - 1]?).map (·.hash)
theorem lastH_succ (l : List Block) {k : Nat} (h : k < l.length) : lastH l (k + 1) = some l[k].hash := by
  unfold lastH; rw [if_neg (by omega)]; simp [h]
theorem overB_none (x : Int) : overB none x = false := rfl
theorem lastI_pos (l : List Int) {k : Nat} (h : 0 < k) (hk : k ≤ l.length) : lastI l k = some (l[k - 1]'(by omega)) := by
  unfold lastI; rw [if_neg (by omega), List.getElem?_eq_getElem (by omega)]
theorem lastH_pos (l : List Block) {k : Nat} (h : 0 < k) (hk : k ≤ l.length) : lastH l k = some (l[k - 1]'(by omega)).hash := by
  unfold lastH; rw [if_neg (by omega), List.getElem?_eq_getElem (by omega)]; rfl
theorem total_append (l l' : List Block) : total (l ++ l') = total l + total l' := by unfold total; rw [List.map_append, List.sum_append]
theorem total_one (b : Block) : total [b] = b.ids.length := by simp [total]
theorem total_nonneg (l : List Block) : 0 ≤ total l := by
  induction l with
  | nil => simp [total]
  | cons a l ih => rw [show a :: l = [a] ++ l from rfl, total_append, total_one]; omega
theorem total_take (l : List Block) {i : Nat} (h : i < l.length) : total (l.take (i + 1)) = total (l.take i) + l[i].ids.length := by
  rw [List.take_succ_eq_append_getElem h, total_append, total_one]
theorem total_le (l : List Block) (i : Nat) : total (l.take i) ≤ total l := by
  have h := total_append (l.take i) (l.drop i)
  rw [List.take_append_drop] at h
  have := total_nonneg (l.drop i)
  omega

/-! ### 'cmp' -/
/-- 'cmp.Or'. -/
def orL : List Int → Int
  | [] => 0
  | a :: l => if a = 0 then orL l else a
/-- 'cmp.Compare'. -/
def cmpI (x y : Int) : Int := if x < y then -1 else if y < x then 1 else 0
def cmpC (x y : Couple) : Int := orL [cmpI x.a y.a, cmpI x.b y.b]
theorem orL_drop {l : List Int} {i : Nat} (h : i < l.length) : orL (l.drop i) = if l[i] = 0 then orL (l.drop (i + 1)) else l[i] := by
  rw [List.drop_eq_getElem_cons h]; rfl

/-- The inner 'check'. -/
def checkF : List (List Block) → List (List Block) → Int
  | x :: a, y :: b => let e := orL [checkS x, checkS y]; if e = 0 then checkF a b else e
  | _, _ => 0
def checkM (a b : List (List Block)) (mask : Int) : Int :=
  if a.length ≠ b.length ∨ 8 < a.length then 8 else let e := checkF a b; if e ≠ 0 then e else if mask < 0 ∨ (2 : Int) ^ a.length ≤ mask then 2 else 0
theorem checkF_drop {a b : List (List Block)} {i : Nat} (h : i < a.length) (h' : i < b.length) : checkF (a.drop i) (b.drop i) = if orL [checkS a[i], checkS b[i]] = 0 then checkF (a.drop (i + 1)) (b.drop (i + 1)) else orL [checkS a[i], checkS b[i]] := by
  rw [List.drop_eq_getElem_cons h, List.drop_eq_getElem_cons h']; rfl

/-! ### 'agreements' -/
abbrev Agr := List (Couple × Nat)
abbrev kvC : Couple → Value := fun c => .agg #[.int .i64 c.a, .int .i64 c.b]
abbrev vvN : Nat → Value := fun n => .int .i64 (n : Int)
def put1 (bit : Nat) (m : Agr) (c : Couple) : Agr := mput m c ((mget m c).getD 0 ||| bit)
def agr5 (bit : Nat) (ys : List Int) (m : Agr) (s : Int) : Agr := ys.foldl (fun m t => put1 bit m ⟨s, t⟩) m
def agr3 (bit : Nat) (x : Block) (m : Agr) (y : Block) : Agr := if x.hash = y.hash then x.ids.foldl (agr5 bit y.ids) m else m
def agr2 (bit : Nat) (lb : List Block) (m : Agr) (x : Block) : Agr := lb.foldl (agr3 bit x) m
def agrI (a b : List (List Block)) : Nat → Agr
  | 0 => []
  | n + 1 => (a.getD n []).foldl (agr2 (2 ^ n) (b.getD n [])) (agrI a b n)
theorem agrI_succ {a b : List (List Block)} {n : Nat} (h : n < a.length) (h' : n < b.length) : agrI a b (n + 1) = a[n].foldl (agr2 (2 ^ n) b[n]) (agrI a b n) := by
  show (a.getD n []).foldl (agr2 (2 ^ n) (b.getD n [])) (agrI a b n) = _
  simp only [List.getD_eq_getElem?_getD, List.getElem?_eq_getElem h, List.getElem?_eq_getElem h', Option.getD_some]
def Sm (m : Agr) : Prop := ∀ c, (mget m c).getD 0 < 256
theorem Sm.put1 {m : Agr} (h : Sm m) {n : Nat} (hn : n < 8) (c : Couple) : Sm (put1 (2 ^ n) m c) := fun d => by
  unfold K.put1
  rw [mget_mput]
  split
  · exact Nat.or_lt_two_pow (n := 8) (h c) (Nat.pow_lt_pow_right (by decide) hn)
  · exact h d
theorem Sm.nil : Sm [] := fun c => by show (0 : Nat) < 256; decide
/-- An entry that is made for the time being makes no difference. -/
theorem mget_mput_self (m : Agr) (c : Couple) : (mget (mput m c ((mget m c).getD 0)) c).getD 0 = (mget m c).getD 0 := by rw [mget_mput, if_pos rfl]; rfl
theorem mput_mput {κ β : Type} [DecidableEq κ] (m : List (κ × β)) (k : κ) (u v : β) : mput (mput m k u) k v = mput m k v := by
  induction m with
  | nil => simp [mput]
  | cons a m ih =>
    obtain ⟨x, y⟩ := a
    by_cases h : x = k
    · simp only [mput, if_pos h, if_true]
    · simp only [mput, if_neg h, ih]

/-! ### Couples as keys -/
section
variable {P : Program} {t ti : TypeId} {n0 n1 tg0 tg1 pk0 pk1 : String} {e0 e1 : Bool} {y0 y1 : Nat}
theorem part_couple (hi : P.underlying ti = some (.int .i64)) (a b : Int) (i : Nat) (v : Value) (w : World) (hv : (#[Value.int .i64 a, Value.int .i64 b])[i]? = some v) : (part ti #[.int .i64 a, .int .i64 b] i).run P w = .ok v w :=
  run_part_plain w (by simp [Program.plainKey, hi]) hv
theorem eqOK_couple (h : P.underlying t = some (.struct #[⟨n0, ti, 0, e0, tg0, pk0, y0⟩, ⟨n1, ti, 1, e1, tg1, pk1, y1⟩])) (h0 : n0 ≠ "_") (h1 : n1 ≠ "_") (hS : P.stoodInHeld t = false)
    (hi : P.underlying ti = some (.int .i64)) : EqOK P t kvC := fun d a b w => by
  have hpt := fun a b i v w => part_couple (P := P) hi a b i v w
  have hf : P.fieldsOf t = #[⟨n0, ti, 0, e0, tg0, pk0, y0⟩, ⟨n1, ti, 1, e1, tg1, pk1, y1⟩] := by simp [Program.fieldsOf, h]
  have he := fun (x y : Int) => run_equalIn_int (P := P) w (d + 6) ti .i64 .i64 x y hi
  rw [show d + 8 = (d + 7) + 1 from rfl, run_equalIn_struct w (d + 7) t _ _ (by rw [hf]; exact h) hS, hf]
  have p0 : ∀ c : Couple, (part ti #[.int .i64 c.a, .int .i64 c.b] 0).run P w = .ok (.int .i64 c.a) w := fun c => hpt _ _ 0 _ w rfl
  have p1 : ∀ c : Couple, (part ti #[.int .i64 c.a, .int .i64 c.b] 1).run P w = .ok (.int .i64 c.b) w := fun c => hpt _ _ 1 _ w rfl
  have hd : (decide (a = b)) = ((a.a == b.a) && (a.b == b.b)) := by
    cases a; cases b; simp only [Couple.mk.injEq, Bool.decide_and]; rfl
  simp only [Op.eqFields, Sem.run_bind, Sem.run_ite, h0, h1, ne_eq, not_false_eq_true, if_true, p0, p1, Result.andThen_ok, he, hd]
  cases (a.a == b.a) <;> cases (a.b == b.b) <;> simp
theorem keyOK_couple (h : P.underlying t = some (.struct #[⟨n0, ti, 0, e0, tg0, pk0, y0⟩, ⟨n1, ti, 1, e1, tg1, pk1, y1⟩])) (h0 : n0 ≠ "_") (h1 : n1 ≠ "_") (hS : P.stoodInHeld t = false)
    (hi : P.underlying ti = some (.int .i64)) : KeyOK P t kvC := by
  have hpt := fun a b i v w => part_couple (P := P) hi a b i v w
  refine keyOK_struct h (eqOK_couple h h0 h1 hS hi) (fun e k w => ?_) (fun k => by simp [Instr.sameBits]) (fun a b hab => ?_)
  · have p0 : (part ti #[.int .i64 k.a, .int .i64 k.b] 0).run P w = .ok (.int .i64 k.a) w := hpt _ _ 0 _ w rfl
    have p1 : (part ti #[.int .i64 k.a, .int .i64 k.b] 1).run P w = .ok (.int .i64 k.b) w := hpt _ _ 1 _ w rfl
    have q : ∀ (x : Int), (Instr.checkKey e 9999 ti (.int .i64 x)).run P w = .ok () w := fun x => by unfold Instr.checkKey; simp [run_underlying hi]
    rw [show (10000 : Nat) = 9999 + 1 from rfl, Instr.checkKey]
    simp only [Sem.run_bind, run_underlying h, Result.andThen_ok]
    rw [← Array.forIn_toList]
    simp only [List.forIn_cons, List.forIn_nil, Sem.run_bind, Sem.run_ite, h0, h1, ne_eq, not_false_eq_true, if_true, p0, p1, q, Result.andThen_ok, Sem.run_pure]
  · cases a; cases b; simp at hab; simp [hab]
theorem eqGuard_couple (h : P.underlying t = some (.struct #[⟨n0, ti, 0, e0, tg0, pk0, y0⟩, ⟨n1, ti, 1, e1, tg1, pk1, y1⟩])) (h0 : n0 ≠ "_") (h1 : n1 ≠ "_")
    (hi : P.underlying ti = some (.int .i64)) (d : Nat) (a b : Couple) (w : World) : (Op.eqGuardIn (d + 2) t (kvC a) (kvC b)).run P w = .ok false w := by
  have hpt := fun a b i v w => part_couple (P := P) hi a b i v w
  have p0 : ∀ c : Couple, (part ti #[.int .i64 c.a, .int .i64 c.b] 0).run P w = .ok (.int .i64 c.a) w := fun c => hpt _ _ 0 _ w rfl
  have p1 : ∀ c : Couple, (part ti #[.int .i64 c.a, .int .i64 c.b] 1).run P w = .ok (.int .i64 c.b) w := fun c => hpt _ _ 1 _ w rfl
  have q : ∀ (x y : Int), (Op.eqGuardIn (d + 1) ti (.int .i64 x) (.int .i64 y)).run P w = .ok false w := fun x y => by unfold Op.eqGuardIn; simp [run_underlying hi]
  rw [show d + 2 = (d + 1) + 1 from rfl, Op.eqGuardIn]
  simp only [Sem.run_bind, run_underlying h, Result.andThen_ok]
  rw [← Array.forIn_toList]
  simp only [List.forIn_cons, List.forIn_nil, Sem.run_bind, Sem.run_ite, h0, h1, ne_eq, not_false_eq_true, if_true, p0, p1, q, Result.andThen_ok, Sem.run_pure, Bool.false_eq_true, if_false]
variable {N : Nat} {env : Env} {x y : Operand} {u : TypeId} {a b : Couple} {w : World}
theorem val_eqC (h : P.underlying t = some (.struct #[⟨n0, ti, 0, e0, tg0, pk0, y0⟩, ⟨n1, ti, 1, e1, tg1, pk1, y1⟩])) (h0 : n0 ≠ "_") (h1 : n1 ≠ "_") (hS : P.stoodInHeld t = false)
    (hi : P.underlying ti = some (.int .i64)) (hx : ev env x = some (kvC a)) (hy : ev env y = some (kvC b)) : Val P N env (.binOp .eql t x y u) w (.bool (decide (a = b))) := mk' fun ρ hρ o ho => by
  have h5 := eqOK_couple h h0 h1 hS hi (Op.maxDepth - 8) a b w
  have h6 := eqGuard_couple h h0 h1 hi (Op.maxDepth - 2) a b w
  have h7 : (Op.equal t (kvC a) (kvC b)).run P w = .ok (decide (a = b)) w := h5
  have h8 : (Op.eqGuardIn Op.maxDepth t (kvC a) (kvC b)).run P w = .ok false w := h6
  have h9 : (eqGuard .eql t x y (kvC a) (kvC b)).run P w = .ok () w := by
    unfold eqGuard
    simp only [Sem.run_bind, Sem.run_pure, Sem.run_ite, run_program, Result.andThen_ok, h8, Bool.not_true, Bool.false_eq_true, if_false]
    cases P.eqGuardType P.depth t <;> simp [h8]
  have h10 : (binOp .eql t (kvC a) (kvC b)).run P w = .ok (.bool (decide (a = b))) w := by
    show (Op.equal t (kvC a) (kvC b) >>= fun z => pure (Value.bool z)).run P w = _
    rw [Sem.run_bind, h7]; rfl
  unfold execOp; rw [ho]
  simp only [hρ _ _ hx, hρ _ _ hy]
  simp [Sem.run_bind, h9, h10]
end

/-! ### Lists of couples -/
def hits (mask : Nat) (p : Couple × Nat) : Bool := decide ((p.2 &&& mask : Nat) ≠ 0)
def leC (x y : Couple) : Bool := !decide (cmpC y x < 0)
def sortC (l : List Couple) : List Couple := l.mergeSort leC
def listS (a b : List (List Block)) (mask : Nat) : List Couple := sortC (((agrI a b a.length).filter (hits mask)).map (·.1))
theorem cmpC_val (x y : Couple) : cmpC x y = if x.a < y.a then -1 else if y.a < x.a then 1 else if x.b < y.b then -1 else if y.b < x.b then 1 else 0 := by
  unfold cmpC orL orL orL cmpI
  by_cases h1 : x.a < y.a <;> by_cases h2 : y.a < x.a <;> by_cases h3 : x.b < y.b <;> by_cases h4 : y.b < x.b <;> simp [h1, h2, h3, h4]
theorem leC_iff (x y : Couple) : leC x y = true ↔ x.a < y.a ∨ x.a = y.a ∧ x.b ≤ y.b := by
  unfold leC; rw [cmpC_val]
  simp only [Bool.not_eq_true', decide_eq_false_iff_not]
  split
  · omega
  · split
    · omega
    · split
      · omega
      · split <;> omega
theorem leC_trans (x y z : Couple) (h : leC x y = true) (h' : leC y z = true) : leC x z = true := by rw [leC_iff] at *; omega
theorem leC_total (x y : Couple) : (leC x y || leC y x) = true := by rw [Bool.or_eq_true, leC_iff, leC_iff]; omega
theorem leC_anti (x y : Couple) (h : leC x y = true) (h' : leC y x = true) : x = y := by
  rw [leC_iff] at *
  have h1 : x.a = y.a := by omega
  have h2 : x.b = y.b := by omega
  cases x; cases y; simp only at h1 h2; rw [h1, h2]
theorem sortC_sorted (l : List Couple) : (sortC l).Pairwise (fun x y => leC x y = true) := List.pairwise_mergeSort leC_trans leC_total l
theorem sortC_perm (l : List Couple) : (sortC l).Perm l := List.mergeSort_perm l leC
theorem sorted_unique {γ : Type} {le : γ → γ → Bool} (ha : ∀ x y, le x y = true → le y x = true → x = y) : ∀ {l l' : List γ}, l.Perm l' → l.Pairwise (fun x y => le x y = true) → l'.Pairwise (fun x y => le x y = true) → l = l'
  | [], l', hp, _, _ => by simpa using hp.symm.eq_nil.symm
  | a :: l, [], hp, _, _ => by simpa using hp.eq_nil
  | a :: l, b :: l', hp, h1, h2 => by
    have hab : a = b := by
      by_cases e : a = b
      · exact e
      · have hb : b ∈ a :: l := hp.symm.subset (by simp)
        have ha' : a ∈ b :: l' := hp.subset (by simp)
        rcases List.mem_cons.1 hb with hb | hb
        · exact hb.symm
        · rcases List.mem_cons.1 ha' with ha' | ha'
          · exact ha'
          · exact ha _ _ ((List.pairwise_cons.1 h1).1 b hb) ((List.pairwise_cons.1 h2).1 a ha')
    subst hab
    rw [sorted_unique ha hp.cons_inv (List.pairwise_cons.1 h1).2 (List.pairwise_cons.1 h2).2]
theorem sortC_of_perm {l l' : List Couple} (h : l.Perm l') : sortC l = sortC l' :=
  sorted_unique leC_anti ((sortC_perm l).trans (h.trans (sortC_perm l').symm)) (sortC_sorted l) (sortC_sorted l')
theorem listS_of {a b : List (List Block)} {mask : Nat} {tk : Agr} (h : (tk ++ []).Perm (agrI a b a.length)) : sortC ((tk.filter (hits mask)).map (·.1)) = listS a b mask := by
  rw [List.append_nil] at h
  exact sortC_of_perm ((h.filter _).map _)
theorem checkM_zero {a b : List (List Block)} {mask : Int} (h : checkM a b mask = 0) : a.length = b.length ∧ a.length ≤ 8 ∧ ∃ mk : Nat, mask = mk ∧ mk < 256 := by
  unfold checkM at h
  by_cases h1 : a.length ≠ b.length ∨ 8 < a.length
  · rw [if_pos h1] at h; omega
  · rw [if_neg h1] at h
    simp only at h
    by_cases h2 : checkF a b ≠ 0
    · rw [if_pos h2] at h; exact absurd h h2
    · rw [if_neg h2] at h
      by_cases h3 : mask < 0 ∨ (2 : Int) ^ a.length ≤ mask
      · rw [if_pos h3] at h; omega
      · have hp : (2 : Int) ^ a.length = ((2 ^ a.length : Nat) : Int) := by simp
        have hp8 : 2 ^ a.length ≤ 2 ^ 8 := Nat.pow_le_pow_right (by decide) (by omega)
        rw [hp] at h3
        generalize 2 ^ a.length = z at h3 hp8
        exact ⟨by omega, by omega, mask.toNat, by omega, by omega⟩

/-! ### How many couples -/
theorem len_mput {κ β : Type} [DecidableEq κ] (m : List (κ × β)) (k : κ) (v : β) : (mput m k v).length ≤ m.length + 1 := by
  induction m with
  | nil => simp [mput]
  | cons a m ih =>
    obtain ⟨x, u⟩ := a
    unfold mput
    split
    · simp
    · simp only [List.length_cons]; omega
theorem len_agr5 (bit : Nat) (s : Int) : ∀ (ys : List Int) (m : Agr), (agr5 bit ys m s).length ≤ m.length + ys.length
  | [], m => by simp [agr5]
  | y :: ys, m => by
    have h := len_agr5 bit s ys (put1 bit m ⟨s, y⟩)
    have h2 := len_mput m ⟨s, y⟩ ((mget m ⟨s, y⟩).getD 0 ||| bit)
    show (agr5 bit ys (put1 bit m ⟨s, y⟩) s).length ≤ _
    have h3 : (put1 bit m ⟨s, y⟩).length ≤ m.length + 1 := h2
    simp only [List.length_cons]; omega
theorem len_agr4 (bit : Nat) (ys : List Int) : ∀ (xs : List Int) (m : Agr), (xs.foldl (agr5 bit ys) m).length ≤ m.length + xs.length * ys.length
  | [], m => by simp
  | x :: xs, m => by
    have h := len_agr4 bit ys xs (agr5 bit ys m x)
    have h2 := len_agr5 bit x ys m
    simp only [List.foldl_cons, List.length_cons, Nat.succ_mul]; omega
def totalN (l : List Block) : Nat := (l.map fun b => b.ids.length).sum
theorem total_nat (l : List Block) : total l = totalN l := by
  induction l with
  | nil => rfl
  | cons a l ih =>
    rw [show a :: l = [a] ++ l from rfl, total_append, total_one, ih]
    simp [totalN]
theorem len_agr3 (bit : Nat) (x y : Block) (m : Agr) : (agr3 bit x m y).length ≤ m.length + x.ids.length * y.ids.length := by
  unfold agr3
  split
  · exact len_agr4 _ _ _ _
  · omega
theorem len_agr2 (bit : Nat) (x : Block) : ∀ (lb : List Block) (m : Agr), (agr2 bit lb m x).length ≤ m.length + x.ids.length * totalN lb
  | [], m => by simp [agr2]
  | y :: lb, m => by
    have h := len_agr2 bit x lb (agr3 bit x m y)
    have h2 := len_agr3 bit x y m
    show (agr2 bit lb (agr3 bit x m y) x).length ≤ _
    have h3 : totalN (y :: lb) = y.ids.length + totalN lb := by simp [totalN]
    rw [h3, Nat.mul_add]; omega
theorem len_agr1 (bit : Nat) (lb : List Block) : ∀ (la : List Block) (m : Agr), (la.foldl (agr2 bit lb) m).length ≤ m.length + totalN la * totalN lb
  | [], m => by simp [totalN]
  | x :: la, m => by
    have h := len_agr1 bit lb la (agr2 bit lb m x)
    have h2 := len_agr2 bit x lb m
    have h3 : totalN (x :: la) = x.ids.length + totalN la := by simp [totalN]
    rw [List.foldl_cons, h3, Nat.add_mul]; omega
theorem checkS_total {l : List Block} (h : checkS l = 0) : totalN l ≤ 64 := by
  unfold checkS at h
  by_cases h1 : 64 < total l
  · rw [if_pos h1] at h; omega
  · rw [total_nat] at h1; omega
theorem checkF_zero : ∀ {a b : List (List Block)}, checkF a b = 0 → ∀ i (h : i < a.length) (h' : i < b.length), checkS a[i] = 0 ∧ checkS b[i] = 0
  | [], _, _, i, h, _ => by cases h
  | _ :: _, [], _, i, _, h => by cases h
  | x :: a, y :: b, hc, i, h, h' => by
    simp only [checkF] at hc
    by_cases h0 : orL [checkS x, checkS y] = 0
    · rw [if_pos h0] at hc
      have hxy : checkS x = 0 ∧ checkS y = 0 := by
        by_cases hx : checkS x = 0
        · refine ⟨hx, ?_⟩
          by_cases hy : checkS y = 0
          · exact hy
          · simp only [orL, hx, if_true, if_neg hy] at h0; exact absurd h0 hy
        · simp only [orL, if_neg hx] at h0; exact absurd h0 hx
      cases i with
      | zero => exact hxy
      | succ i => exact checkF_zero hc i (by simpa using h) (by simpa using h')
    · rw [if_neg h0] at hc; exact absurd hc h0
theorem checkM_valid {a b : List (List Block)} {mask : Int} (h : checkM a b mask = 0) : checkF a b = 0 := by
  unfold checkM at h
  by_cases h1 : a.length ≠ b.length ∨ 8 < a.length
  · rw [if_pos h1] at h; omega
  · rw [if_neg h1] at h
    simp only at h
    by_cases h2 : checkF a b ≠ 0
    · rw [if_pos h2] at h; exact absurd h h2
    · simpa using h2
theorem agrI_len {a b : List (List Block)} (hc : checkF a b = 0) (hl : a.length = b.length) : ∀ n, n ≤ a.length → (agrI a b n).length ≤ n * 4096
  | 0, _ => by simp [agrI]
  | n + 1, h => by
    have ih := agrI_len hc hl n (by omega)
    rw [agrI_succ (show n < a.length by omega) (show n < b.length by omega)]
    have h1 := len_agr1 (2 ^ n) b[n] a[n] (agrI a b n)
    obtain ⟨h2, h3⟩ := checkF_zero hc n (by omega) (by omega)
    have h4 := Nat.mul_le_mul (checkS_total h2) (checkS_total h3)
    omega
theorem agr_len {a b : List (List Block)} {mask : Int} (hz : checkM a b mask = 0) {tk lf : Agr} (h : (tk ++ lf).Perm (agrI a b a.length)) : tk.length ≤ 32768 := by
  obtain ⟨h1, h2, _⟩ := checkM_zero hz
  have h3 := agrI_len (checkM_valid hz) h1 a.length (Nat.le_refl _)
  have h4 := h.length_eq
  rw [List.length_append] at h4
  omega

/-! ### 'Count', 'together' -/
def cnt3 (x : Block) (n : Nat) (y : Block) : Nat := if x.hash = y.hash then n + x.ids.length * y.ids.length else n
def cnt2 (lb : List Block) (n : Nat) (x : Block) : Nat := lb.foldl (cnt3 x) n
def countS (la lb : List Block) : Nat := la.foldl (cnt2 lb) 0
def countE (la lb : List Block) : Int := if checkS la ≠ 0 then checkS la else checkS lb
theorem cnt2_le (x : Block) : ∀ (lb : List Block) (n : Nat), cnt2 lb n x ≤ n + x.ids.length * totalN lb
  | [], n => by simp [cnt2]
  | y :: lb, n => by
    have h := cnt2_le x lb (cnt3 x n y)
    show cnt2 lb (cnt3 x n y) x ≤ _
    have h2 : cnt3 x n y ≤ n + x.ids.length * y.ids.length := by unfold cnt3; split <;> omega
    have h3 : totalN (y :: lb) = y.ids.length + totalN lb := by simp [totalN]
    rw [h3, Nat.mul_add]; omega
theorem cnt1_le (lb : List Block) : ∀ (la : List Block) (n : Nat), la.foldl (cnt2 lb) n ≤ n + totalN la * totalN lb
  | [], n => by simp
  | x :: la, n => by
    have h := cnt1_le lb la (cnt2 lb n x)
    have h2 := cnt2_le x lb n
    have h3 : totalN (x :: la) = x.ids.length + totalN la := by simp [totalN]
    rw [List.foldl_cons, h3, Nat.add_mul]; omega
theorem totalN_take (l : List Block) (i : Nat) : totalN (l.take i) ≤ totalN l := by
  have := total_le l i
  rw [total_nat, total_nat] at this
  omega
theorem ids_le {l : List Block} {i : Nat} (h : i < l.length) : l[i].ids.length ≤ totalN l := by
  have h1 := total_take l h
  have h2 := total_le l (i + 1)
  have h3 := total_nonneg (l.take i)
  rw [total_nat l] at h2
  omega
def tog (la lb : List Block) (c : Couple) : Bool := la.any fun x => lb.any fun y => decide (x.hash = y.hash) && x.ids.any fun p => y.ids.any fun q => decide (p = c.a) && decide (q = c.b)
theorem any_take {γ : Type} (p : γ → Bool) (l : List γ) {i : Nat} (h : i < l.length) : (l.take (i + 1)).any p = ((l.take i).any p || p l[i]) := by
  rw [List.take_succ_eq_append_getElem h, List.any_append]; simp
theorem any_at {γ : Type} (p : γ → Bool) (l : List γ) {i : Nat} (h : i < l.length) (hp : p l[i] = true) : l.any p = true := List.any_eq_true.2 ⟨l[i], List.getElem_mem h, hp⟩

/-! ### The sanity check's blocks -/
def awA : List Block := [⟨5, [1, 2]⟩, ⟨7, [3]⟩]
def awB : List Block := [⟨5, [1, 2, 9]⟩, ⟨8, [4]⟩]
theorem awA_check : checkS awA = 0 := by decide
theorem awB_check : checkS awB = 0 := by decide
theorem aw_count : countS awA awB = 6 := by decide
theorem aw_countE : countE awA awB = 0 := by decide
theorem aw_checkM : checkM [awA] [awB] 1 = 0 := by decide
theorem aw_agr : (((agrI [awA] [awB] 1).filter (hits 1)).map (·.1)) = [⟨1, 1⟩, ⟨1, 2⟩, ⟨1, 9⟩, ⟨2, 1⟩, ⟨2, 2⟩, ⟨2, 9⟩] := by decide
theorem aw_list : listS [awA] [awB] 1 = [⟨1, 1⟩, ⟨1, 2⟩, ⟨1, 9⟩, ⟨2, 1⟩, ⟨2, 2⟩, ⟨2, 9⟩] := by
  have h : listS [awA] [awB] 1 = sortC (((agrI [awA] [awB] 1).filter (hits 1)).map (·.1)) := rfl
  rw [h, aw_agr]
  exact sorted_unique leC_anti (sortC_perm _) (sortC_sorted _) (by
    simp only [List.pairwise_cons, leC_iff, List.mem_cons, List.not_mem_nil, or_false, forall_eq_or_imp, forall_eq]
    simp)
end Go.K
