/- Bonds and what hangs together: plain. -/
import Derived.Test.YtfmdkdfhnkennaaKCpl
import Derived.Test.YtfmdkdfhnkennaaK9
set_option linter.unusedVariables false
set_option linter.unusedSimpArgs false
namespace Go.K
open Rep

structure Bond where
  A : Couple
  B : Couple
  w : Int
  deriving DecidableEq
instance : Rep Bond := Rep.via (fun x : Bond => (x.A, (x.B, x.w)))
instance : Inhabited Bond := ⟨⟨⟨0, 0⟩, ⟨0, 0⟩, 0⟩⟩
abbrev encB (x : Bond) : List Value := [.int .i64 x.A.a, .int .i64 x.A.b, .int .i64 x.B.a, .int .i64 x.B.b, .int .i64 x.w]
abbrev encR (x : Couple) : List Value := [.int .i64 x.a, .int .i64 x.b]
section
variable {w : World} {M : Nat → Prop} {b o : Nat} {v : Value}
theorem RA.bA {x : Bond} (h : RA w M x b o) : RA w M x.A b o := RA.fst (p := (x.A, (x.B, x.w))) h
theorem RA.bB {x : Bond} (h : RA w M x b o) : RA w M x.B b (o + 2) := RA.fst (p := (x.B, x.w)) (RA.snd (p := (x.A, (x.B, x.w))) h)
theorem RA.bw {x : Bond} (h : RA w M x b o) : RA w M x.w b (o + 4) := RA.snd (p := (x.B, x.w)) (RA.snd (p := (x.A, (x.B, x.w))) h)
theorem rep_couple {h : Array Obj} {x : Couple} {vs : List Value} : rep h M x vs ↔ vs = encR x :=
  ⟨fun hr => by
    obtain ⟨us, ws, rfl, h1, h2⟩ := hr
    rw [show us = [.int .i64 x.a] from h1, show ws = [.int .i64 x.b] from h2]; rfl,
   fun hr => by subst hr; exact ⟨[_], [_], rfl, rfl, rfl⟩⟩
theorem rep_bond {h : Array Obj} {x : Bond} {vs : List Value} : rep h M x vs ↔ vs = encB x :=
  ⟨fun hr => by
    obtain ⟨us, ws, rfl, h1, us2, ws2, rfl, h2, h3⟩ := hr
    have e1 := (rep_couple (M := M) (h := h) (x := x.A)).1 h1
    have e2 := (rep_couple (M := M) (h := h) (x := x.B)).1 h2
    have e3 : ws2 = [.int .i64 x.w] := h3
    subst e1 e2 e3; rfl,
   fun hr => by
    subst hr
    exact ⟨encR x.A, encR x.B ++ [.int .i64 x.w], rfl, (rep_couple (M := M)).2 rfl, encR x.B, [.int .i64 x.w], rfl, (rep_couple (M := M)).2 rfl, rfl⟩⟩
theorem rv_bond {x : Bond} : RV w M x v ↔ v = .agg (encB x).toArray :=
  ⟨fun h => by obtain ⟨vs, h1, h2⟩ := h; rw [rep_bond.1 h1] at h2; exact h2, fun h => ⟨_, rep_bond.2 rfl, h⟩⟩
end

/-- A list's header as it is. -/
structure Sv where
  v : Value
instance : Inhabited Sv := ⟨⟨.slice none 0 0⟩⟩
instance : Rep Sv where
  sz := 1
  agg := false
  flat _ := rfl
  rep _ _ x vs := vs = [x.v] ∧ x.v.oneCell' = true
  len h := by obtain ⟨rfl, _⟩ := h; rfl
  one h := by obtain ⟨rfl, h1⟩ := h; intro v hv; simp at hv; subst hv; exact h1
  keep h _ := h
  sub h _ := h
section
variable {w : World} {M : Nat → Prop} {v : Value} {β : Type} [Rep β]
theorem rv_sv {x : Sv} : RV w M x v ↔ v = x.v ∧ x.v.oneCell' = true := ⟨fun ⟨vs, h, e⟩ => by obtain ⟨rfl, h⟩ := h; exact ⟨e, h⟩, fun h => ⟨_, ⟨rfl, h.2⟩, h.1⟩⟩
/-- Lists of what headers read as. -/
theorem RV.svs {xs : List Sv} {ys : List β} (h : RV w M xs v) (hb : Rep.agg β = false) (hl : ys.length = xs.length) (he : ∀ i (h1 : i < ys.length) (h2 : i < xs.length), RV w M ys[i] xs[i].v) : RV w M ys v := by
  obtain ⟨a, c, rfl, hc, h63, h0⟩ := rv_list.1 h
  refine rv_list.2 ⟨a, c, by rw [hl], by rw [hl]; exact hc, by rw [hl]; exact h63, ?_⟩
  rcases h0 with h0 | ⟨b, o, rfl, hb2, cs, ty, fz, hcs, hsz, hr⟩
  · left; subst h0; exact List.eq_nil_of_length_eq_zero hl
  · right
    have s1 : sz β = 1 := Rep.flat hb
    refine ⟨b, o, rfl, hb2, cs, ty, fz, hcs, by rw [hl, s1]; exact hsz, fun i hi => ?_⟩
    have hi2 : i < xs.length := by omega
    have hv : cellsAt cs (o + i * 1) 1 = [xs[i].v] := (hr i hi2).1
    rw [s1, hv]
    exact (he i hi hi2).rep1 hb
end

/-! ### Order -/
def ltP (x y : Couple) : Prop := x.a < y.a ∨ x.a = y.a ∧ x.b < y.b
instance (x y : Couple) : Decidable (ltP x y) := by unfold ltP; infer_instance
theorem ltP_irrefl (x : Couple) : ¬ ltP x x := by unfold ltP; omega
theorem ltP_trans {x y z : Couple} (h : ltP x y) (h' : ltP y z) : ltP x z := by unfold ltP at *; omega
theorem ltP_le {x y : Couple} : leC x y = true ↔ ¬ ltP y x := by rw [leC_iff]; unfold ltP; omega
theorem couple_ext {x y : Couple} (h1 : x.a = y.a) (h2 : x.b = y.b) : x = y := by cases x; cases y; simp_all
theorem ltP_tri (x y : Couple) : ltP x y ∨ x = y ∨ ltP y x := by
  unfold ltP
  by_cases h1 : x.a = y.a <;> by_cases h2 : x.b = y.b
  · exact .inr (.inl (couple_ext h1 h2))
  all_goals omega
theorem cmpC_zero {x y : Couple} : cmpC x y = 0 ↔ x = y := by
  rw [cmpC_val]
  constructor
  · intro h; apply couple_ext <;> (split at h <;> first | omega | (split at h <;> first | omega | (split at h <;> first | omega | (split at h <;> omega))))
  · intro h; subst h; simp
theorem cmpC_neg {x y : Couple} : cmpC x y < 0 ↔ ltP x y := by
  rw [cmpC_val]; unfold ltP
  split
  · omega
  · split
    · omega
    · split
      · omega
      · split <;> omega
def lt2 (x y : Bond) : Prop := ltP x.A y.A ∨ x.A = y.A ∧ ltP x.B y.B
instance (x y : Bond) : Decidable (lt2 x y) := by unfold lt2; infer_instance
def cmp2 (a b c d : Couple) : Int := orL [cmpC a c, cmpC b d]
theorem cmp2_ge {x y : Bond} : 0 ≤ cmp2 x.A x.B y.A y.B ↔ ¬ lt2 x y := by
  unfold cmp2 lt2 orL orL orL
  have h1 := @cmpC_zero x.A y.A; have h2 := @cmpC_neg x.A y.A; have h3 := @cmpC_zero x.B y.B; have h4 := @cmpC_neg x.B y.B
  split
  · rename_i h; have e := h1.1 h; rw [← h4, e]
    have : ¬ ltP y.A y.A := ltP_irrefl _
    split
    · simp_all
    · simp only [this, false_or, true_and, ← h4]; omega
  · rename_i h
    have : ¬ x.A = y.A := fun e => h (h1.2 e)
    rw [← h2]; simp [this]

/-! ### Valid bonds -/
def refOK (r : Couple) : Bool := decide (0 ≤ r.a) && decide (r.a < 4) && decide (1 ≤ r.b) && decide (r.b ≤ 1048576)
def cplOK (a b : Couple) : Bool := refOK a && refOK b && decide (a.a < b.a)
def errAt (l : List Bond) (i : Nat) : Int :=
  if cplOK l[i]!.A l[i]!.B = false then 41 else if l[i]!.w < 1 ∨ 1048576 < l[i]!.w then 40 else if 0 < i ∧ ¬ lt2 l[i-1]! l[i]! then 12 else 0
def checkS (l : List Bond) : Int := if 4096 < l.length then 1 else orL ((List.range l.length).map (errAt l))
theorem orL_app (a b : List Int) : orL (a ++ b) = if orL a = 0 then orL b else orL a := by
  induction a with
  | nil => simp [orL]
  | cons x a ih => simp only [List.cons_append, orL]; split <;> simp_all
theorem orL_zero {l : List Int} (h : ∀ x ∈ l, x = 0) : orL l = 0 := by
  induction l with
  | nil => rfl
  | cons x l ih => simp only [orL]; rw [if_pos (h x (by simp))]; exact ih (fun y hy => h y (by simp [hy]))
theorem orL_zero' {l : List Int} (h : orL l = 0) : ∀ x ∈ l, x = 0 := by
  induction l with
  | nil => simp
  | cons x l ih =>
    simp only [orL] at h
    split at h
    · rename_i e; intro y hy; rcases List.mem_cons.1 hy with rfl | hy
      · exact e
      · exact ih h y hy
    · rename_i e; exact absurd h e
theorem checkS_lim {l : List Bond} (h : 4096 < l.length) : checkS l = 1 := by unfold checkS; rw [if_pos h]
theorem checkS_ok {l : List Bond} (hl : l.length ≤ 4096) (h0 : ∀ k, k < l.length → errAt l k = 0) : checkS l = 0 := by
  unfold checkS; rw [if_neg (by omega)]
  refine orL_zero fun x hx => ?_
  obtain ⟨k, hk, rfl⟩ := List.mem_map.1 hx
  exact h0 k (List.mem_range.1 hk)
theorem range_split {i n : Nat} (h : i < n) : List.range n = List.range i ++ (i :: (List.range n).drop (i + 1)) := by
  have h1 : (List.range n).take i = List.range i := by rw [List.take_range, Nat.min_eq_left (by omega)]
  have h2 : (List.range n).drop i = i :: (List.range n).drop (i + 1) := by
    rw [List.drop_eq_getElem_cons (by simpa using h)]; simp
  rw [← h1, ← h2, List.take_append_drop]
theorem checkS_at {l : List Bond} {i : Nat} (hl : l.length ≤ 4096) (h : i < l.length) (h0 : ∀ k, k < i → errAt l k = 0) (he : errAt l i ≠ 0) : checkS l = errAt l i := by
  unfold checkS; rw [if_neg (by omega), range_split h, List.map_append, orL_app, if_pos]
  · simp only [List.map_cons, orL]; rw [if_neg he]
  · refine orL_zero fun x hx => ?_
    obtain ⟨k, hk, rfl⟩ := List.mem_map.1 hx
    exact h0 k (List.mem_range.1 hk)
theorem checkS_zero {l : List Bond} (h : checkS l = 0) : l.length ≤ 4096 ∧ ∀ k, k < l.length → errAt l k = 0 := by
  unfold checkS at h
  split at h
  · cases h
  · exact ⟨by omega, fun k hk => orL_zero' h _ (List.mem_map.2 ⟨k, List.mem_range.2 hk, rfl⟩)⟩
theorem checkS_len {l : List Bond} (h : checkS l = 0) : l.length ≤ 4096 := (checkS_zero h).1
theorem errAt_val {l : List Bond} {i : Nat} (h : i < l.length) : errAt l i = if cplOK l[i].A l[i].B = false then 41 else if l[i].w < 1 ∨ 1048576 < l[i].w then 40 else if 0 < i ∧ ¬ lt2 (l[i-1]'(by omega)) l[i] then 12 else 0 := by
  unfold errAt; rw [getElem!_pos l i h, getElem!_pos l (i - 1) (by omega)]
def okB (x : Bond) : Prop := cplOK x.A x.B = true ∧ 1 ≤ x.w ∧ x.w ≤ 1048576
def Vld (l : List Bond) : Prop := l.length ≤ 4096 ∧ (∀ x ∈ l, okB x) ∧ l.Pairwise lt2
theorem Vld.check {l : List Bond} (h : Vld l) : checkS l = 0 := by
  obtain ⟨h1, h2, h3⟩ := h
  refine checkS_ok h1 fun k hk => ?_
  have hx := h2 l[k] (List.getElem_mem hk)
  unfold errAt
  rw [getElem!_pos l k hk, if_neg (by simp [hx.1]), if_neg (by have := hx.2; omega)]
  split
  · rename_i h; exfalso
    obtain ⟨h0, hn⟩ := h
    rw [getElem!_pos l (k - 1) (by omega)] at hn
    exact hn (List.pairwise_iff_getElem.1 h3 (k - 1) k (by omega) hk (by omega))
  · rfl
theorem Vld.sub {l l' : List Bond} (h : Vld l) (hs : l'.Sublist l) : Vld l' := ⟨Nat.le_trans hs.length_le h.1, fun x hx => h.2.1 x (hs.subset hx), h.2.2.sublist hs⟩

/-! ### Refs -/
def endsS (l : List Bond) : List Couple := l.flatMap fun x => [x.A, x.B]
def refsS (l : List Bond) : List Couple := compactS (sortC (endsS l))
theorem endsS_snoc (l : List Bond) (x : Bond) : endsS (l ++ [x]) = endsS l ++ [x.A, x.B] := by simp [endsS]
theorem endsS_take {l : List Bond} {i : Nat} (h : i < l.length) : endsS (l.take (i + 1)) = endsS (l.take i) ++ [l[i].A, l[i].B] := by
  rw [List.take_succ_eq_append_getElem h, endsS_snoc]
theorem endsS_len (l : List Bond) : (endsS l).length = 2 * l.length := by
  induction l with
  | nil => rfl
  | cons x l ih => simp only [endsS, List.flatMap_cons, List.length_append, List.length_cons, List.length_nil] at *; omega
theorem sortC_len (l : List Couple) : (sortC l).length = l.length := (sortC_perm l).length_eq
theorem refsS_len (l : List Bond) : (refsS l).length ≤ 2 * l.length := by
  unfold refsS
  have := compactS_len (sortC (endsS l))
  rw [sortC_len, endsS_len] at this; exact this
theorem mem_refsS {l : List Bond} {r : Couple} : r ∈ refsS l ↔ ∃ x ∈ l, r = x.A ∨ r = x.B := by
  unfold refsS
  rw [compactS_mem, (sortC_perm _).mem_iff]
  simp [endsS, List.mem_flatMap]
theorem refsS_sorted (l : List Bond) : (refsS l).Pairwise ltP := by
  unfold refsS
  have h1 := sortC_sorted (endsS l)
  have h2 := compactS_nodup (le := fun x y => leC x y = true) leC_anti h1
  have h3 := h1.sublist (compactS_sub _)
  refine (h3.and h2).imp fun {x y} ⟨h4, h5⟩ => ?_
  rcases ltP_tri x y with h | h | h
  · exact h
  · exact absurd h h5
  · exact absurd h (ltP_le.1 h4)
theorem sorted_nodup {l : List Couple} (h : l.Pairwise ltP) : l.Nodup := h.imp fun {x y} hxy e => by subst e; exact ltP_irrefl _ hxy
theorem refsS_nodup (l : List Bond) : (refsS l).Nodup := sorted_nodup (refsS_sorted l)
/-- Ascending lists with the same elements are the same. -/
theorem sorted_ext {l l' : List Couple} (h : l.Pairwise ltP) (h' : l'.Pairwise ltP) (hm : ∀ r, r ∈ l ↔ r ∈ l') : l = l' := by
  have hp : l.Perm l' := (List.perm_ext_iff_of_nodup (sorted_nodup h) (sorted_nodup h')).2 hm
  refine sorted_unique leC_anti hp (h.imp fun {x y} hxy => ltP_le.2 fun h2 => ltP_irrefl _ (ltP_trans hxy h2)) (h'.imp fun {x y} hxy => ltP_le.2 fun h2 => ltP_irrefl _ (ltP_trans hxy h2))

/-! ### Roots -/
def joinF (ρ : Couple → Couple) (a b : Couple) : Couple → Couple := fun r => if ρ r = ρ a then ρ b else ρ r
def rhoF (ρ : Couple → Couple) (l : List Bond) : Couple → Couple := l.foldl (fun ρ x => joinF ρ x.A x.B) ρ
def rhoS (l : List Bond) : Couple → Couple := rhoF id l
theorem rhoS_snoc (l : List Bond) (x : Bond) : rhoS (l ++ [x]) = joinF (rhoS l) x.A x.B := by unfold rhoS rhoF; rw [List.foldl_append]; rfl
theorem rhoS_nil : rhoS [] = id := rfl
theorem rhoF_inv {γ : Type} (p : Couple → γ) : ∀ (l : List Bond) (ρ : Couple → Couple), (∀ x ∈ l, p x.A = p x.B) → (∀ r, p (ρ r) = p r) → ∀ r, p (rhoF ρ l r) = p r
  | [], ρ, _, h, r => h r
  | x :: l, ρ, hx, h, r => by
    show p (rhoF (joinF ρ x.A x.B) l r) = p r
    refine rhoF_inv p l _ (fun y hy => hx y (by simp [hy])) (fun s => ?_) r
    unfold joinF
    split
    · rename_i e; rw [h, ← hx x (by simp), ← h x.A, ← e, h]
    · exact h s
theorem rho_inv {γ : Type} {p : Couple → γ} {l : List Bond} (hx : ∀ x ∈ l, p x.A = p x.B) (r : Couple) : p (rhoS l r) = p r := rhoF_inv p l id hx (fun _ => rfl) r
theorem rhoF_keep : ∀ (l : List Bond) (ρ : Couple → Couple) {r s : Couple}, ρ r = ρ s → rhoF ρ l r = rhoF ρ l s
  | [], _, _, _, h => h
  | x :: l, ρ, r, s, h => rhoF_keep l (joinF ρ x.A x.B) (by unfold joinF; rw [h])
theorem rhoF_edge : ∀ (l : List Bond) (ρ : Couple → Couple) {x : Bond}, x ∈ l → rhoF ρ l x.A = rhoF ρ l x.B
  | y :: l, ρ, x, h => by
    rcases List.mem_cons.1 h with rfl | h
    · exact rhoF_keep l (joinF ρ x.A x.B) (by unfold joinF; rw [if_pos rfl]; split <;> rfl)
    · exact rhoF_edge l _ h
theorem rho_edge {l : List Bond} {x : Bond} (h : x ∈ l) : rhoS l x.A = rhoS l x.B := rhoF_edge l id h
theorem joinF_idem {ρ : Couple → Couple} (h : ∀ r, ρ (ρ r) = ρ r) (a b : Couple) : ∀ r, joinF ρ a b (joinF ρ a b r) = joinF ρ a b r := fun r => by
  unfold joinF
  by_cases e : ρ r = ρ a
  · rw [if_pos e, h]; simp
  · rw [if_neg e, h, if_neg e]
theorem rhoF_idem : ∀ (l : List Bond) (ρ : Couple → Couple), (∀ r, ρ (ρ r) = ρ r) → ∀ r, rhoF ρ l (rhoF ρ l r) = rhoF ρ l r
  | [], _, h => h
  | x :: l, ρ, h => rhoF_idem l _ (joinF_idem h x.A x.B)
theorem rho_idem (l : List Bond) (r : Couple) : rhoS l (rhoS l r) = rhoS l r := rhoF_idem l id (fun _ => rfl) r
/-- The classes depend on nothing but which bonds there are. -/
theorem rho_ker {l l' : List Bond} (h : ∀ x ∈ l, x ∈ l') {r s : Couple} (e : rhoS l r = rhoS l s) : rhoS l' r = rhoS l' s := by
  have hp : ∀ x ∈ l, rhoS l' x.A = rhoS l' x.B := fun x hx => rho_edge (h x hx)
  rw [← rho_inv hp r, ← rho_inv hp s, e]
theorem rho_mem {l : List Bond} {r : Couple} : rhoS l r ∈ refsS l ↔ r ∈ refsS l := by
  have := rho_inv (p := fun r => decide (r ∈ refsS l)) (l := l) (fun x hx => by
    rw [decide_eq_true (mem_refsS.2 ⟨x, hx, .inl rfl⟩), decide_eq_true (mem_refsS.2 ⟨x, hx, .inr rfl⟩)]) r
  simpa using this
theorem rho_out {l : List Bond} {r : Couple} (h : r ∉ refsS l) : rhoS l r = r := by
  have := rho_inv (p := fun s => if s ∈ refsS l then none else some s) (l := l) (fun x hx => by
    rw [if_pos (mem_refsS.2 ⟨x, hx, .inl rfl⟩), if_pos (mem_refsS.2 ⟨x, hx, .inr rfl⟩)]) r
  rw [if_neg h, if_neg (fun hm => h (rho_mem.1 hm))] at this
  simpa using this

/-! ### What hangs together -/
section
variable {α β : Type} [DecidableEq β]
def firstsS (f : α → β) (xs : List α) : List α := xs.foldl (fun acc r => if acc.any (fun q => decide (f q = f r)) then acc else acc ++ [r]) []
def groupS (f : α → β) (xs : List α) : List (List α) := (firstsS f xs).map fun q => xs.filter fun r => decide (f r = f q)
theorem firstsS_snoc (f : α → β) (xs : List α) (r : α) : firstsS f (xs ++ [r]) = if (firstsS f xs).any (fun q => decide (f q = f r)) then firstsS f xs else firstsS f xs ++ [r] := by
  unfold firstsS; rw [List.foldl_append]; rfl
theorem snoc_ind {p : List α → Prop} (h0 : p []) (h1 : ∀ l a, p l → p (l ++ [a])) (l : List α) : p l := by
  rw [← List.reverse_reverse l]
  induction l.reverse with
  | nil => exact h0
  | cons a l ih => rw [List.reverse_cons]; exact h1 _ a ih
theorem firsts_sub (f : α → β) (xs : List α) : (firstsS f xs).Sublist xs := by
  induction xs using snoc_ind with
  | h0 => exact List.Sublist.refl _
  | h1 l a ih =>
    rw [firstsS_snoc]; split
    · exact ih.trans (List.sublist_append_left _ _)
    · exact ih.append (List.Sublist.refl _)
theorem firsts_any {f : α → β} {xs : List α} {r : α} : (firstsS f xs).any (fun q => decide (f q = f r)) = true ↔ ∃ q ∈ xs, f q = f r := by
  induction xs using snoc_ind with
  | h0 => simp [firstsS]
  | h1 l a ih =>
    rw [firstsS_snoc]; split
    · rename_i h
      rw [ih]
      constructor
      · rintro ⟨q, hq, e⟩; exact ⟨q, by simp [hq], e⟩
      · rintro ⟨q, hq, e⟩
        rcases List.mem_append.1 hq with hq | hq
        · exact ⟨q, hq, e⟩
        · simp only [List.mem_singleton] at hq; subst hq
          obtain ⟨s, hs, e2⟩ := List.any_eq_true.1 h
          exact ⟨s, (firsts_sub f l).subset hs, by simpa [e] using e2⟩
    · simp only [List.any_append, Bool.or_eq_true, ih, List.any_cons, List.any_nil, Bool.or_false, decide_eq_true_eq]
      constructor
      · rintro (⟨q, hq, e⟩ | e)
        · exact ⟨q, by simp [hq], e⟩
        · exact ⟨a, by simp, e⟩
      · rintro ⟨q, hq, e⟩
        rcases List.mem_append.1 hq with hq | hq
        · exact .inl ⟨q, hq, e⟩
        · simp only [List.mem_singleton] at hq; subst hq; exact .inr e
theorem firsts_cover {f : α → β} {xs : List α} {r : α} (h : r ∈ xs) : ∃ q ∈ firstsS f xs, f q = f r := by
  have := (firsts_any (f := f) (xs := xs) (r := r)).2 ⟨r, h, rfl⟩
  obtain ⟨q, hq, e⟩ := List.any_eq_true.1 this
  exact ⟨q, hq, by simpa using e⟩
theorem firsts_nodup (f : α → β) (xs : List α) : ((firstsS f xs).map f).Nodup := by
  induction xs using snoc_ind with
  | h0 => simp [firstsS]
  | h1 l a ih =>
    rw [firstsS_snoc]; split
    · exact ih
    · rename_i h
      rw [List.map_append, List.nodup_append]
      refine ⟨ih, by simp, fun x hx y hy e => h ?_⟩
      obtain ⟨q, hq, rfl⟩ := List.mem_map.1 hx
      simp only [List.map_cons, List.map_nil, List.mem_singleton] at hy
      exact List.any_eq_true.2 ⟨q, hq, by simp [e, hy]⟩
theorem firsts_congr {γ : Type} [DecidableEq γ] {f : α → β} {g : α → γ} {xs : List α} (h : ∀ r ∈ xs, ∀ s ∈ xs, f r = f s ↔ g r = g s) : firstsS f xs = firstsS g xs := by
  induction xs using snoc_ind with
  | h0 => rfl
  | h1 l a ih =>
    have ih := ih (fun r hr s hs => h r (by simp [hr]) s (by simp [hs]))
    rw [firstsS_snoc, firstsS_snoc, ih]
    have e : (firstsS g l).any (fun q => decide (f q = f a)) = (firstsS g l).any (fun q => decide (g q = g a)) := by
      apply Bool.eq_iff_iff.2
      rw [List.any_eq_true, List.any_eq_true]
      constructor <;> rintro ⟨q, hq, e⟩ <;> refine ⟨q, hq, ?_⟩ <;> simp only [decide_eq_true_eq] at * <;> have := h q (by simp [(firsts_sub g l).subset hq]) a (by simp) <;> simp_all
    rw [e]
theorem groupS_congr {γ : Type} [DecidableEq γ] {f : α → β} {g : α → γ} {xs : List α} (h : ∀ r ∈ xs, ∀ s ∈ xs, f r = f s ↔ g r = g s) : groupS f xs = groupS g xs := by
  unfold groupS; rw [firsts_congr h]
  refine List.map_congr_left fun q hq => List.filter_congr fun r hr => ?_
  have := h r hr q ((firsts_sub g xs).subset hq)
  simp [this]
theorem groupS_length (f : α → β) (xs : List α) : (groupS f xs).length = (firstsS f xs).length := by simp [groupS]
theorem groupS_get {f : α → β} {xs : List α} {i : Nat} (h : i < (groupS f xs).length) : (groupS f xs)[i] = xs.filter fun r => decide (f r = f ((firstsS f xs)[i]'(by rwa [groupS_length] at h))) := by simp [groupS]
/-- A further element in a group that is there. -/
theorem groupS_old {f : α → β} {xs : List α} {r : α} {i : Nat} (hi : i < (firstsS f xs).length) (e : f (firstsS f xs)[i] = f r) :
    firstsS f (xs ++ [r]) = firstsS f xs ∧ groupS f (xs ++ [r]) = (groupS f xs).modify i (· ++ [r]) := by
  have h1 : firstsS f (xs ++ [r]) = firstsS f xs := by
    rw [firstsS_snoc, if_pos (List.any_eq_true.2 ⟨_, List.getElem_mem hi, by simp [e]⟩)]
  refine ⟨h1, ?_⟩
  apply List.ext_getElem?
  intro j
  unfold groupS
  rw [h1, List.getElem?_modify, List.getElem?_map, List.getElem?_map]
  by_cases hj : j < (firstsS f xs).length
  · rw [List.getElem?_eq_getElem hj]
    simp only [Option.map_some, Option.some.injEq]
    by_cases hij : i = j
    · subst hij
      simp [List.filter_append, e]
    · rw [List.filter_append]
      have : ¬ f r = f (firstsS f xs)[j] := fun h2 => hij (by
        have hn := List.pairwise_iff_getElem.1 (firsts_nodup f xs)
        rcases Nat.lt_trichotomy i j with h3 | h3 | h3
        · exact absurd (by rw [List.getElem_map, List.getElem_map, e, h2]) (hn i j (by simpa using hi) (by simpa using hj) h3)
        · exact h3
        · exact absurd (by rw [List.getElem_map, List.getElem_map, e, h2]) (hn j i (by simpa using hj) (by simpa using hi) h3))
      simp [hij, this]
  · rw [List.getElem?_eq_none (by omega)]; simp
theorem groupS_new {f : α → β} {xs : List α} {r : α} (h : ∀ q ∈ firstsS f xs, f q ≠ f r) :
    firstsS f (xs ++ [r]) = firstsS f xs ++ [r] ∧ groupS f (xs ++ [r]) = groupS f xs ++ [[r]] := by
  have h0 : ¬ (firstsS f xs).any (fun q => decide (f q = f r)) = true := fun ha => by
    obtain ⟨q, hq, e⟩ := List.any_eq_true.1 ha
    exact h q hq (by simpa using e)
  have h1 : firstsS f (xs ++ [r]) = firstsS f xs ++ [r] := by rw [firstsS_snoc, if_neg h0]
  refine ⟨h1, ?_⟩
  unfold groupS
  rw [h1, List.map_append]
  congr 1
  · refine List.map_congr_left fun q hq => ?_
    rw [List.filter_append]
    simp [Ne.symm (h q hq)]
  · simp only [List.map_cons, List.map_nil, List.filter_append, List.cons.injEq, and_true]
    have : xs.filter (fun r_1 => decide (f r_1 = f r)) = [] := by
      rw [List.filter_eq_nil_iff]
      intro q hq hd
      exact h0 (firsts_any.2 ⟨q, hq, by simpa using hd⟩)
    rw [this]; simp
/-- Each group begins with its first. -/
theorem groupS_head {f : α → β} {xs : List α} {q : α} (h : q ∈ firstsS f xs) : (xs.filter fun r => decide (f r = f q))[0]? = some q := by
  induction xs using snoc_ind with
  | h0 => simp [firstsS] at h
  | h1 l a ih =>
    rw [firstsS_snoc] at h
    split at h
    · have := ih h
      rw [List.filter_append, List.getElem?_append_left]
      · exact this
      · exact (List.getElem?_eq_some_iff.1 this).1
    · rename_i hn
      rcases List.mem_append.1 h with h | h
      · have := ih h
        rw [List.filter_append, List.getElem?_append_left]
        · exact this
        · exact (List.getElem?_eq_some_iff.1 this).1
      · simp only [List.mem_singleton] at h; subst h
        have h1 : l.filter (fun r => decide (f r = f q)) = [] := by
          rw [List.filter_eq_nil_iff]
          intro s hs hd
          exact hn (firsts_any.2 ⟨s, hs, by simpa using hd⟩)
        rw [List.filter_append, h1]; simp
/-- The groups are as great as all together. -/
theorem group_sum {γ : Type} {f : α → β} {xs : List α} (g : γ → β) : ∀ (fs : List α) (ys : List γ), (fs.map f).Nodup → (∀ y ∈ ys, ∃ q ∈ fs, f q = g y) →
    (fs.map fun q => (ys.filter fun y => decide (g y = f q)).length).sum = ys.length
  | [], ys, _, h => by
    cases ys with
    | nil => rfl
    | cons y ys => obtain ⟨q, hq, _⟩ := h y (by simp); cases hq
  | q :: fs, ys, hn, h => by
    have hn' := List.nodup_cons.1 hn
    have ih := group_sum (xs := xs) (f := f) g fs (ys.filter fun y => !decide (g y = f q)) hn'.2 (fun y hy => by
      obtain ⟨hy, h1⟩ := List.mem_filter.1 hy
      obtain ⟨s, hs, e⟩ := h y hy
      rcases List.mem_cons.1 hs with rfl | hs
      · simp [e] at h1
      · exact ⟨s, hs, e⟩)
    simp only [List.map_cons, List.sum_cons]
    have e : (fs.map fun q => (ys.filter fun y => decide (g y = f q)).length) = (fs.map fun s => ((ys.filter fun y => !decide (g y = f q)).filter fun y => decide (g y = f s)).length) := by
      refine List.map_congr_left fun s hs => ?_
      rw [List.filter_filter]
      congr 1
      refine List.filter_congr fun y hy => ?_
      by_cases e : g y = f s
      · have : ¬ f s = f q := fun e2 => hn'.1 (List.mem_map.2 ⟨s, hs, e2⟩)
        simp [e, this]
      · simp [e]
    rw [e, ih]
    have := List.length_eq_countP_add_countP (fun y => decide (g y = f q)) (l := ys)
    simp only [List.countP_eq_length_filter] at this
    rw [this]; congr 2
    refine List.filter_congr fun y _ => ?_
    simp
end
def partsS (l : List Bond) : List (List Couple) := groupS (rhoS l) (refsS l)
def splitS (l : List Bond) : List (List Bond) := (firstsS (rhoS l) (refsS l)).map fun q => l.filter fun x => decide (rhoS l x.A = rhoS l q)
theorem partsS_len (l : List Bond) : (partsS l).length ≤ 2 * l.length := by
  unfold partsS; rw [groupS_length]; exact Nat.le_trans (firsts_sub _ _).length_le (refsS_len l)
theorem splitS_len (l : List Bond) : (splitS l).length = (partsS l).length := by simp [splitS, partsS, groupS]

/-! ### Forests -/
def Frst (u : List (Couple × Couple)) (ρ : Couple → Couple) (d : Couple → Nat) : Prop :=
  ∀ r v, mget u r = some v → (∃ v', mget u v = some v') ∧ ρ v = ρ r ∧ (v ≠ r → d v < d r) ∧ (v = r → ρ r = r)
def Dom (u : List (Couple × Couple)) (xs : List Couple) : Prop := ∀ r ∈ xs, ∃ v, mget u r = some v
theorem Dom.put {u : List (Couple × Couple)} {xs : List Couple} (h : Dom u xs) (a b : Couple) : Dom (mput u a b) xs := fun r hr => by
  rw [mget_mput]; split
  · exact ⟨_, rfl⟩
  · exact h r hr
theorem Dom.putIn {u : List (Couple × Couple)} {xs : List Couple} (h : Dom u xs) (a b : Couple) : Dom (mput u a b) (xs ++ [a]) := fun r hr => by
  rw [mget_mput]; split
  · exact ⟨_, rfl⟩
  · rename_i e
    rcases List.mem_append.1 hr with hr | hr
    · exact h r hr
    · simp only [List.mem_singleton] at hr; exact absurd hr.symm e
/-- A tree of its own. -/
theorem Frst.self {u : List (Couple × Couple)} {d : Couple → Nat} (h : Frst u id d) (r : Couple) : Frst (mput u r r) id d := fun s v hs => by
  rw [mget_mput] at hs
  split at hs
  · rename_i e; obtain rfl : r = v := by simpa using hs
    subst e
    exact ⟨⟨r, by rw [mget_mput, if_pos rfl]⟩, rfl, fun h => absurd rfl h, fun _ => rfl⟩
  · obtain ⟨⟨v', h1⟩, h2, h3, h4⟩ := h s v hs
    refine ⟨?_, h2, h3, h4⟩
    rw [mget_mput]; split
    · exact ⟨_, rfl⟩
    · exact ⟨_, h1⟩
/-- A way halved. -/
theorem Frst.halve {u : List (Couple × Couple)} {ρ : Couple → Couple} {d : Couple → Nat} (h : Frst u ρ d) {r v v2 : Couple} (hr : mget u r = some v) (hv : mget u v = some v2) (hne : v ≠ r) : Frst (mput u r v2) ρ d := fun s x hs => by
  have hd : ∀ {y : Couple}, (∃ v', mget u y = some v') → ∃ v', mget (mput u r v2) y = some v' := fun {y} hy => by
    rw [mget_mput]; split
    · exact ⟨_, rfl⟩
    · exact hy
  rw [mget_mput] at hs
  split at hs
  · rename_i e; obtain rfl : v2 = x := by simpa using hs
    subst e
    obtain ⟨_, h2, h3, h4⟩ := h r v hr
    obtain ⟨g1, g2, g3, g4⟩ := h v v2 hv
    refine ⟨hd g1, g2.trans h2, fun _ => ?_, fun e => ?_⟩
    · have := h3 hne
      by_cases e : v2 = v
      · rw [e]; exact this
      · have := g3 e; omega
    · exfalso
      have a1 := h3 hne
      by_cases e2 : v2 = v
      · exact hne (e2.symm.trans e)
      · have := g3 e2; rw [e] at this; omega
  · obtain ⟨h1, h2⟩ := h s x hs
    exact ⟨hd h1, h2⟩
/-- Two trees become one. -/
theorem Frst.join {u : List (Couple × Couple)} {ρ : Couple → Couple} {d : Couple → Nat} (h : Frst u ρ d) {a b : Couple} (ha : mget u (ρ a) = some (ρ a)) (hb : mget u (ρ b) = some (ρ b)) : ∃ d', Frst (mput u (ρ a) (ρ b)) (joinF ρ a b) d' := by
  have ia := (h _ _ ha).2.2.2 rfl
  have ib := (h _ _ hb).2.2.2 rfl
  refine ⟨fun x => if ρ x = ρ a ∧ ρ a ≠ ρ b then d x + d (ρ b) + 1 else d x, fun s x hs => ?_⟩
  have hd : ∀ {y : Couple}, (∃ v', mget u y = some v') → ∃ v', mget (mput u (ρ a) (ρ b)) y = some v' := fun {y} hy => by
    rw [mget_mput]; split
    · exact ⟨_, rfl⟩
    · exact hy
  rw [mget_mput] at hs
  split at hs
  · rename_i e; obtain rfl : ρ b = x := by simpa using hs
    subst e
    refine ⟨hd ⟨_, hb⟩, ?_, fun hne => ?_, fun e => ?_⟩
    · unfold joinF; rw [ia, ib]; simp
    · simp only; rw [if_neg (fun h => hne (ib.symm.trans h.1)), if_pos ⟨ia, fun e => hne e.symm⟩]; omega
    · unfold joinF; rw [ia, if_pos rfl, e]
  · rename_i hne
    obtain ⟨h1, h2, h3, h4⟩ := h s x hs
    refine ⟨hd h1, ?_, fun hx => ?_, fun e => ?_⟩
    · unfold joinF; rw [h2]
    · have := h3 hx
      simp only [h2]; split <;> omega
    · have := h4 e
      unfold joinF; rw [if_neg (fun e2 => hne (by rw [← e2, this])), this]
end Go.K
