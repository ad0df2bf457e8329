/- Maps. -/
import Derived.Test.YtfmdkdfhnkennaaKApi
import Derived.WideKeyRuns
import Derived.MapKept
set_option linter.unusedVariables false
set_option linter.unusedSimpArgs false
set_option linter.unusedSectionVars false
namespace Go.K
open Rep

/-- '==' at a type decides equality of the data. -/
def EqOK (P : Program) (t : TypeId) {κ : Type} [DecidableEq κ] (kv : κ → Value) : Prop :=
  ∀ d a b w, (Op.equalIn (d + 8) t (kv a) (kv b)).run P w = .ok (decide (a = b)) w

structure KeyOK (P : Program) (t : TypeId) {κ : Type} [DecidableEq κ] (kv : κ → Value) : Prop where
  check : ∀ e k w, (Instr.checkKey e 10000 t (kv k)).run P w = .ok () w
  find : ∀ k (es : List MapEntry) (ks : List κ) w, es.map (·.key) = ks.map kv →
    (Instr.findKey t (kv k) es).run P w = .ok ((ks.findIdx? (fun x => decide (x = k))).bind fun i => (es[i]?).map fun e => (i, e.val)) w
  bits : ∀ k, Instr.sameBits 10000 (kv k) (kv k) = true
  inj : ∀ a b, kv a = kv b → a = b

theorem eqOK_int {P : Program} {t : TypeId} {k : IntKind} (h : P.underlying t = some (.int k)) : EqOK P t (fun n : Int => .int k n) := fun d a b w => by
  have := run_equalIn_int (P := P) w (d + 7) t k k a b h
  rw [show d + 8 = d + 7 + 1 from rfl, this]; rfl

theorem find_now {kind : TypeDesc} {κ : Type} [DecidableEq κ] {kv : κ → Value} (hs : ∀ a b, Instr.sameNow kind (kv a) (kv b) = some (decide (a = b))) (k : κ) :
    ∀ (es : List MapEntry) (ks : List κ) (n : Nat), es.map (·.key) = ks.map kv →
      Instr.findNow kind (kv k) es n = some ((ks.findIdx? (fun x => decide (x = k))).bind fun i => (es[i]?).map fun e => (n + i, e.val))
  | [], [], n, _ => by simp [Instr.findNow]
  | [], _ :: _, n, h => by simp at h
  | _ :: _, [], n, h => by simp at h
  | e :: es, x :: ks, n, h => by
    simp only [List.map_cons, List.cons.injEq] at h
    obtain ⟨h1, h2⟩ := h
    unfold Instr.findNow
    rw [h1, hs]
    by_cases hx : k = x
    · subst hx; simp [List.findIdx?_cons]
    · simp only [hx, decide_false]
      rw [find_now hs k es ks (n + 1) h2, List.findIdx?_cons]
      have : ¬ x = k := fun e => hx e.symm
      simp only [this, decide_false, Bool.false_eq_true, if_false]
      cases ks.findIdx? (fun x => decide (x = k)) with
      | none => rfl
      | some i => simp [Nat.add_assoc, Nat.add_comm 1]

theorem keyOK_int {P : Program} {t : TypeId} {k : IntKind} (h : P.underlying t = some (.int k)) : KeyOK P t (fun n : Int => .int k n) where
  check e n w := by unfold Instr.checkKey; simp [run_underlying h]
  find n es ks w hk := by
    unfold Instr.findKey
    rw [Sem.run_bind, run_underlying h]
    simp only [Result.andThen_ok]
    rw [find_now (kv := fun n : Int => .int k n) (fun a b => by simp [Instr.sameNow]; rfl) n es ks 0 hk]
    simp
  bits n := by simp [Instr.sameBits]
  inj a b hab := by simpa using hab

theorem find_asking {P : Program} {t : TypeId} {κ : Type} [DecidableEq κ] {kv : κ → Value} (heq : EqOK P t kv) (k : κ) (w : World) :
    ∀ (es : List MapEntry) (ks : List κ) (n : Nat), es.map (·.key) = ks.map kv →
      (Instr.findAsking t (kv k) es n).run P w = .ok ((ks.findIdx? (fun x => decide (x = k))).bind fun i => (es[i]?).map fun e => (n + i, e.val)) w
  | [], [], n, _ => by simp [Instr.findAsking]
  | [], _ :: _, n, h => by simp at h
  | _ :: _, [], n, h => by simp at h
  | e :: es, x :: ks, n, h => by
    simp only [List.map_cons, List.cons.injEq] at h
    obtain ⟨h1, h2⟩ := h
    unfold Instr.findAsking Op.equal
    rw [h1, Sem.run_bind, show Op.maxDepth = 9992 + 8 from rfl, heq]
    simp only [Result.andThen_ok]
    by_cases hx : k = x
    · subst hx; simp [List.findIdx?_cons]
    · simp only [hx, decide_false, Bool.false_eq_true, if_false]
      rw [find_asking heq k w es ks (n + 1) h2, List.findIdx?_cons]
      have : ¬ x = k := fun e => hx e.symm
      simp only [this, decide_false, Bool.false_eq_true, if_false]
      cases ks.findIdx? (fun x => decide (x = k)) with
      | none => rfl
      | some i => simp [Nat.add_assoc, Nat.add_comm 1]

theorem keyOK_struct {P : Program} {t : TypeId} {fs : Array Field} {κ : Type} [DecidableEq κ] {kv : κ → Value} (h : P.underlying t = some (.struct fs)) (heq : EqOK P t kv)
    (hc : ∀ e k w, (Instr.checkKey e 10000 t (kv k)).run P w = .ok () w) (hb : ∀ k, Instr.sameBits 10000 (kv k) (kv k) = true) (hi : ∀ a b, kv a = kv b → a = b) : KeyOK P t kv where
  check := hc
  find k es ks w hk := by
    rw [run_findKey_eq w (by rw [h]) (kv k) es]
    simpa using find_asking heq k w es ks 0 hk
  bits := hb
  inj := hi

/-! ### Plain maps: lists of entries in the order of their making -/
section
variable {κ β : Type} [DecidableEq κ]
def mget : List (κ × β) → κ → Option β
  | [], _ => none
  | (x, v) :: m, k => if x = k then some v else mget m k
def mput : List (κ × β) → κ → β → List (κ × β)
  | [], k, v => [(k, v)]
  | (x, u) :: m, k, v => if x = k then (k, v) :: m else (x, u) :: mput m k v
def keys (m : List (κ × β)) : List κ := m.map (·.1)
theorem mget_mput (m : List (κ × β)) (k : κ) (v : β) (j : κ) : mget (mput m k v) j = if k = j then some v else mget m j := by
  induction m with
  | nil => simp [mput, mget]
  | cons p m ih =>
    obtain ⟨x, u⟩ := p
    unfold mput
    split
    · rename_i h; subst h
      simp only [mget]; split <;> rfl
    · rename_i h
      simp only [mget, ih]
      by_cases h1 : x = j
      · subst h1; rw [if_pos rfl, if_neg (fun e => h e.symm), if_pos rfl]
      · rw [if_neg h1, if_neg h1]
theorem mem_keys_mput (m : List (κ × β)) (k : κ) (v : β) (j : κ) : j ∈ keys (mput m k v) ↔ j = k ∨ j ∈ keys m := by
  induction m with
  | nil => simp [mput, keys]
  | cons p m ih =>
    obtain ⟨x, u⟩ := p
    unfold mput
    split
    · rename_i h; subst h; simp [keys]
    · simp only [keys, List.map_cons, List.mem_cons] at ih ⊢
      rw [ih]
      constructor
      · rintro (h | h | h)
        · exact .inr (.inl h)
        · exact .inl h
        · exact .inr (.inr h)
      · rintro (h | h | h)
        · exact .inr (.inl h)
        · exact .inl h
        · exact .inr (.inr h)
theorem nodup_mput {m : List (κ × β)} (h : (keys m).Nodup) (k : κ) (v : β) : (keys (mput m k v)).Nodup := by
  induction m with
  | nil => simp [mput, keys]
  | cons p m ih =>
    obtain ⟨x, u⟩ := p
    unfold mput
    simp only [keys, List.map_cons, List.nodup_cons] at h
    split
    · rename_i hx; subst hx; simpa [keys] using h
    · rename_i hx
      simp only [keys, List.map_cons, List.nodup_cons]
      refine ⟨fun hm => ?_, ih h.2⟩
      rcases (mem_keys_mput m k v x).1 hm with e | e
      · exact hx e
      · exact h.1 e
theorem mget_isSome (m : List (κ × β)) (k : κ) : (mget m k).isSome = true ↔ k ∈ keys m := by
  induction m with
  | nil => simp [mget, keys]
  | cons p m ih =>
    obtain ⟨x, u⟩ := p
    simp only [mget, keys, List.map_cons, List.mem_cons]
    split
    · rename_i h; subst h; simp
    · rename_i h; rw [ih]; simp [keys]; intro e; exact absurd e.symm h
theorem findIdx_mget (m : List (κ × β)) (k : κ) : ((keys m).findIdx? (fun x => decide (x = k))).bind (fun i => (m[i]?).map (·.2)) = mget m k := by
  induction m with
  | nil => simp [mget, keys]
  | cons p m ih =>
    obtain ⟨x, u⟩ := p
    simp only [mget, keys, List.map_cons, List.findIdx?_cons] at ih ⊢
    split
    · rename_i h; rw [if_pos (by simpa using h)]; simp
    · rename_i h
      rw [if_neg (by simpa using h), ← ih]
      cases (m.map (·.1)).findIdx? (fun x => decide (x = k)) <;> simp
theorem mput_none {m : List (κ × β)} {k : κ} (h : (keys m).findIdx? (fun x => decide (x = k)) = none) (v : β) : mput m k v = m ++ [(k, v)] := by
  induction m with
  | nil => rfl
  | cons p m ih =>
    obtain ⟨x, u⟩ := p
    simp only [keys, List.map_cons, List.findIdx?_cons] at h
    split at h
    · cases h
    · rename_i hx
      simp only [Option.map_eq_none_iff] at h
      unfold mput
      rw [if_neg (by simpa using hx), ih h]; rfl
theorem findIdx_at {m : List (κ × β)} {k : κ} {i : Nat} (h : (keys m).findIdx? (fun x => decide (x = k)) = some i) : ∃ u, m[i]? = some (k, u) := by
  obtain ⟨hlt, h1, _⟩ := List.findIdx?_eq_some_iff_getElem.1 h
  simp only [keys, List.getElem_map, decide_eq_true_eq] at h1
  simp only [keys, List.length_map] at hlt
  exact ⟨m[i].2, by rw [List.getElem?_eq_getElem hlt, ← h1]⟩
theorem mput_some {m : List (κ × β)} {k : κ} {i : Nat} (h : (keys m).findIdx? (fun x => decide (x = k)) = some i) (v : β) : mput m k v = m.set i (k, v) ∧ ∃ u, m[i]? = some (k, u) := by
  induction m generalizing i with
  | nil => simp [keys] at h
  | cons p m ih =>
    obtain ⟨x, u⟩ := p
    simp only [keys, List.map_cons, List.findIdx?_cons] at h
    unfold mput
    split at h
    · rename_i hx
      simp only [Option.some.injEq] at h
      subst h
      have hx' : x = k := by simpa using hx
      subst hx'
      rw [if_pos rfl]
      exact ⟨rfl, u, rfl⟩
    · rename_i hx
      simp only [Option.map_eq_some_iff] at h
      obtain ⟨j, hj, rfl⟩ := h
      obtain ⟨h1, u', h2⟩ := ih hj
      rw [if_neg (by simpa using hx), h1]
      exact ⟨rfl, u', by simpa using h2⟩
end

/-! ### Maps in memory -/
section
variable {κ β : Type} [DecidableEq κ] {kv : κ → Value} {vv : β → Value} {m : List (κ × β)}

/-- The block's entries are `m`. -/
structure MapIs (kv : κ → Value) (vv : β → Value) (m : List (κ × β)) (es : Array MapEntry) (clock : Nat) : Prop where
  key : es.toList.map (·.key) = (keys m).map kv
  val : es.toList.map (·.val) = m.map (fun p => vv p.2)
  nodup : (keys m).Nodup
  born : ∀ e ∈ es.toList, e.born < clock
  rise : es.toList.Pairwise (fun a b => a.born < b.born)

/-- A map of one's own, at block `b`. -/
def OwnM (w : World) (C : Nat → Nat) (j b : Nat) (kv : κ → Value) (vv : β → Value) (m : List (κ × β)) : Prop :=
  C b = j ∧ ∃ es clock, w.heap[b]? = some (.map es clock) ∧ MapIs kv vv m es clock
/-- A map that is only read. -/
def RM (w : World) (M : Nat → Prop) (kv : κ → Value) (vv : β → Value) (m : List (κ × β)) (v : Value) : Prop :=
  ∃ b, v = .map (some b) ∧ ¬ M b ∧ ∃ es clock, w.heap[b]? = some (.map es clock) ∧ MapIs kv vv m es clock

variable {w w' : World} {I : List Nat} {C C' : Nat → Nat} {j b n : Nat} {v : Value}
theorem OwnM.st (h : OwnM w C j b kv vv m) (hs : Stp I w C w' C') (hj : j ∉ I) : OwnM w' C' j b kv vv m := by
  obtain ⟨hc, es, clock, hb, hm⟩ := h
  exact ⟨(hs.col b (lt_of_at hb)).trans hc, es, clock, hs.ext.at' hb (by rw [hc]; exact hj), hm⟩
theorem RM.st (h : RM w (Mc C) kv vv m v) (hs : Stp I w C w' C') (h0 : 0 ∉ I) : RM w' (Mc C') kv vv m v := by
  obtain ⟨b, e, hn, es, clock, hb, hm⟩ := h
  have hc : C b = 0 := by by_cases hz : C b = 0; exact hz; exact absurd hz hn
  refine ⟨b, e, ?_, es, clock, hs.ext.at' hb (by rw [hc]; exact h0), hm⟩
  unfold Mc; rw [hs.col b (lt_of_at hb)]; exact hn
theorem RM.frz (h : RM w (Mc C) kv vv m v) (n : Nat) : RM w (Mc (K.frz n C)) kv vv m v := by
  obtain ⟨b, e, hn, r⟩ := h
  exact ⟨b, e, fun hm => hn (Mc_frz hm).1, r⟩
theorem OwnM.frz (h : OwnM w C j b kv vv m) (hj : n ≤ j) : RM w (Mc (K.frz n C)) kv vv m (.map (some b)) := by
  obtain ⟨hc, r⟩ := h
  exact ⟨b, rfl, fun hm => by have := (Mc_frz hm).2; omega, r⟩
theorem OwnM.frzK (h : OwnM w C j b kv vv m) (hj : j < n) : OwnM w (K.frz n C) j b kv vv m := by
  obtain ⟨hc, r⟩ := h
  exact ⟨by unfold K.frz; rw [hc, if_neg (by omega)], r⟩
/-- A map of the function's own, handed out to be read. -/
theorem OwnM.out {w₀ : World} {C₀ D : Nat → Nat} (h : OwnM w' C' j b kv vv m) (hs : Stp I w₀ D w' C') (hF : Lim w₀ C₀) (hD : Mc D = Mc C₀) (hj : ∀ b, b < w₀.heap.size → D b ≠ j) : RM w' (Mc C₀) kv vv m (.map (some b)) := by
  obtain ⟨hc, r⟩ := h
  refine ⟨b, rfl, fun hm => ?_, r⟩
  obtain ⟨h1, h2, h3⟩ := hs.fin_sub hF hD b hm
  exact hj b h1 (by rw [← h2]; exact hc)
theorem RM.out {w₀ : World} {C₀ D : Nat → Nat} (h : RM w' (Mc C') kv vv m v) (hs : Stp I w₀ D w' C') (hF : Lim w₀ C₀) (hD : Mc D = Mc C₀) : RM w' (Mc C₀) kv vv m v := by
  obtain ⟨b, e, hn, r⟩ := h
  refine ⟨b, e, fun hm => hn ?_, r⟩
  obtain ⟨h1, h2, h3⟩ := hs.fin_sub hF hD b hm
  unfold Mc; rw [h2]; exact h3

variable {P : Program} {N : Nat} {env : Env} {x y z q : Operand} {t kt et : TypeId}

theorem find_get {es : Array MapEntry} {clock : Nat} (hm : MapIs kv vv m es clock) (k : κ) :
    ((keys m).findIdx? (fun x => decide (x = k))).bind (fun i => (es.toList[i]?).map fun e => (i, e.val)) =
      ((keys m).findIdx? (fun x => decide (x = k))).bind (fun i => (m[i]?).map fun p => (i, vv p.2)) := by
  cases (keys m).findIdx? (fun x => decide (x = k)) with
  | none => rfl
  | some i =>
    simp only [Option.bind_some]
    have h1 : (es.toList.map (·.val))[i]? = (m.map (fun p => vv p.2))[i]? := by rw [hm.val]
    simp only [List.getElem?_map] at h1
    cases h2 : es.toList[i]? with
    | none => rw [h2] at h1; cases h3 : m[i]? with
      | none => rfl
      | some p => rw [h3] at h1; cases h1
    | some e => rw [h2] at h1; cases h3 : m[i]? with
      | none => rw [h3] at h1; cases h1
      | some p => rw [h3] at h1; simp only [Option.map_some, Option.some.injEq] at h1 ⊢; rw [h1]

/-- A look-up. -/
theorem run_lookup {es : Array MapEntry} {clock : Nat} (ht : P.underlying t = some (.map kt et)) (hk : KeyOK P kt kv) {z0 : β} (hz : zeroB P et = some [vv z0]) (hagg : ∀ z : Value, z.cells = #[vv z0] → z = vv z0)
    (hb : w.heap[b]? = some (.map es clock)) (hm : MapIs kv vv m es clock) (k : κ) (ok : Bool) :
    (Instr.lookup t (.map (some b)) (kv k) ok).run P w = .ok (if ok then .tuple #[vv ((mget m k).getD z0), .bool (mget m k).isSome] else vv ((mget m k).getD z0)) w := by
  obtain ⟨zv, h1, h2⟩ := run_zeroB hz w
  have h3 := hagg zv (by simpa using h2)
  subst h3
  have hf := hk.find k es.toList (keys m) w hm.key
  rw [find_get hm] at hf
  have hg := findIdx_mget m k
  have hget : (getObj b).run P w = .ok (.map es clock) w := by simp [getObj, Sem.run, hb]
  unfold Instr.lookup
  simp only [Sem.run_bind, run_underlying ht, Result.andThen_ok, hget, Sem.run_pure, hk.check, hf]
  cases hi : (keys m).findIdx? (fun x => decide (x = k)) with
  | none =>
    rw [hi] at hg
    simp only [Option.bind_none] at hg ⊢
    simp only [Sem.run_bind, h1, Result.andThen_ok, Sem.run_pure, ← hg]
    cases ok <;> rfl
  | some i =>
    rw [hi] at hg
    simp only [Option.bind_some] at hg ⊢
    cases hp : m[i]? with
    | none =>
      have := (List.findIdx?_eq_some_iff_getElem.1 hi).1
      simp only [keys, List.length_map] at this
      rw [List.getElem?_eq_none_iff] at hp; omega
    | some p =>
      rw [hp] at hg
      simp only [Option.map_some] at hg ⊢
      simp only [Sem.run_pure, Result.andThen_ok, ← hg]
      cases ok <;> rfl
end

section
variable {κ β : Type} [DecidableEq κ] {kv : κ → Value} {vv : β → Value} {m : List (κ × β)} {es : Array MapEntry} {clock : Nat}

theorem MapIs.push (h : MapIs kv vv m es clock) {k : κ} (hk : (keys m).findIdx? (fun x => decide (x = k)) = none) (x : β) :
    MapIs kv vv (mput m k x) (es.push { key := kv k, val := vv x, born := clock }) (clock + 1) where
  key := by rw [mput_none hk]; simp [keys, h.key]
  val := by rw [mput_none hk]; simp [h.val]
  nodup := nodup_mput h.nodup k x
  born e he := by
    simp only [Array.toList_push, List.mem_append, List.mem_singleton] at he
    rcases he with he | rfl
    · have := h.born e he; omega
    · exact Nat.lt_succ_self _
  rise := by
    rw [Array.toList_push, List.pairwise_append]
    refine ⟨h.rise, List.pairwise_singleton _ _, fun a ha b hb => ?_⟩
    simp only [List.mem_singleton] at hb
    subst hb
    exact h.born a ha

theorem map_modify {γ : Type} (f : MapEntry → γ) (g : MapEntry → MapEntry) (i : Nat) (l : List MapEntry) (hg : ∀ e, l[i]? = some e → f (g e) = f e) : (l.modify i g).map f = l.map f := by
  apply List.ext_getElem?
  intro j
  simp only [List.getElem?_map, List.getElem?_modify]
  cases hj : l[j]? with
  | none => rfl
  | some e =>
    simp only [Option.map_some]
    split
    · rename_i h; subst h; simp [hg e hj]
    · simp

theorem MapIs.modify (h : MapIs kv vv m es clock) {k : κ} {i : Nat} (hk : (keys m).findIdx? (fun x => decide (x = k)) = some i) (x : β) :
    MapIs kv vv (mput m k x) (es.modify i fun e => { e with key := kv k, val := vv x }) clock := by
  obtain ⟨h1, u, h2⟩ := mput_some hk x
  have hkeys : keys (mput m k x) = keys m := by
    rw [h1]
    apply List.ext_getElem?
    intro j
    simp only [keys, List.getElem?_map, List.getElem?_set]
    split
    · rename_i e; subst e
      split
      · rw [h2]; rfl
      · rename_i hlt; rw [List.getElem?_eq_none (by omega)]
    · rfl
  have hmem : ∀ e, e ∈ (es.modify i fun e => { e with key := kv k, val := vv x }).toList → ∃ e' ∈ es.toList, e'.born = e.born := fun e he => by
    rw [Array.toList_modify] at he
    obtain ⟨j, hj⟩ := List.mem_iff_getElem?.1 he
    rw [List.getElem?_modify] at hj
    cases hjj : es.toList[j]? with
    | none => rw [hjj] at hj; cases hj
    | some e' =>
      rw [hjj] at hj
      refine ⟨e', List.mem_of_getElem? hjj, ?_⟩
      simp only [Option.map_eq_map, Option.map_some, Option.some.injEq] at hj
      split at hj <;> subst hj <;> rfl
  refine ⟨?_, ?_, by rw [hkeys]; exact h.nodup, fun e he => ?_, ?_⟩
  · rw [Array.toList_modify, hkeys, ← h.key]
    refine map_modify _ _ _ _ (fun e he => ?_)
    have : (es.toList.map (·.key))[i]? = ((keys m).map kv)[i]? := by rw [h.key]
    simp only [List.getElem?_map, he, Option.map_some, keys, h2] at this
    simpa using this.symm
  · rw [Array.toList_modify, h1]
    apply List.ext_getElem?
    intro j
    have hval : (es.toList.map (·.val))[j]? = (m.map (fun p => vv p.2))[j]? := by rw [h.val]
    simp only [List.getElem?_map] at hval
    simp only [List.getElem?_map, List.getElem?_modify, List.getElem?_set]
    by_cases hij : i = j
    · subst hij
      have hlt : i < m.length := (List.getElem?_eq_some_iff.1 h2).1
      rw [h2] at hval
      cases he : es.toList[i]? with
      | none => rw [he] at hval; cases hval
      | some e => simp [hlt]
    · simp only [if_neg hij, Option.map_id', id_eq]
      simpa using hval
  · obtain ⟨e', he', hb⟩ := hmem e he
    rw [← hb]; exact h.born e' he'
  · rw [Array.toList_modify]
    have hp : (es.toList.map (·.born)).Pairwise (· < ·) := by rw [List.pairwise_map]; exact h.rise
    have hq : ((es.toList.modify i fun e => { e with key := kv k, val := vv x }).map (·.born)).Pairwise (· < ·) := by
      rw [map_modify (fun e => e.born) (fun e => { e with key := kv k, val := vv x }) i es.toList (fun e _ => rfl)]; exact hp
    rw [List.pairwise_map] at hq
    exact hq

variable {w w' : World} {I : List Nat} {C C' : Nat → Nat} {M : Nat → Prop} {j b n : Nat} {v : Value} {P : Program} {N : Nat} {env : Env} {x y z q : Operand} {t kt et : TypeId}

theorem setObj_run {o o' : Obj} (hb : w.heap[b]? = some o) (hno : ∀ c e f, o ≠ .cells c e f) : (setObj b o').run P w = .ok () { w with heap := w.heap.setIfInBounds b o' } := by
  unfold setObj Sem.run
  rw [hb]
  cases o with
  | cells c e f => exact absurd rfl (hno c e f)
  | _ => rfl
theorem upd_setObj {o : Obj} (o' : Obj) (hb : w.heap[b]? = some o) : Upd w { w with heap := w.heap.setIfInBounds b o' } b o' := by
  have hlt := lt_of_at hb
  refine ⟨⟨rfl, rfl, rfl, by simp, fun c _ hc => ?_, Nat.le_refl _⟩, ?_, by simp⟩
  · simp only [Array.getElem?_setIfInBounds]
    rw [if_neg (fun e => hc e.symm)]
  · simp [Array.getElem?_setIfInBounds, hlt]
theorem upd_step {o o' : Obj} (h : Upd w w' b o') (hc : C b = j) : Stp [j] w C w' C := ⟨h.ext.mono (fun c _ hcb => by rw [show c = b from hcb, hc]; simp), fun _ _ => rfl⟩

theorem key_at (h : MapIs kv vv m es clock) {k : κ} {i : Nat} (hk : (keys m).findIdx? (fun x => decide (x = k)) = some i) : (es[i]?).map (·.key) = some (kv k) := by
  obtain ⟨u, h2⟩ := findIdx_at hk
  have : (es.toList.map (·.key))[i]? = ((keys m).map kv)[i]? := by rw [h.key]
  simp only [List.getElem?_map, keys, h2, Option.map_some] at this
  rw [← this]
  simp

theorem a_makeMap (hF : Lim w C) (j : Nat) (kv : κ → Value) (vv : β → Value) : Acts P N env (.makeMap t none) w (fun v w' => ∃ C' b, v = .map (some b) ∧ Stp [] w C w' C' ∧ OwnM w' C' j b kv vv [] ∧ Lim w' C') := acts' fun ρ hρ o ho => by
  have hn := new_alloc w (.map #[] 0)
  obtain ⟨C', h1, h2, h3⟩ := hn.own hF j
  refine ⟨.map (some w.heap.size), w.alloc (.map #[] 0), .inl ?_, C', _, rfl, h1, ⟨h2.col, #[], 0, h2.at_, ⟨rfl, rfl, by simp [keys], fun e he => by simp at he, by simp⟩⟩, h3⟩
  unfold execOp; rw [ho]
  simp [go_sem, Instr.makeMap]

variable {z0 : β}
/-- The element type's zero value is that of `z0`, in one cell. -/
def ZeroIs (P : Program) (et : TypeId) (v : Value) : Prop := ∀ w, (zeroValue et).run P w = .ok v w

theorem val_lookup (ht : P.underlying t = some (.map kt et)) (hk : KeyOK P kt kv) (hz : ZeroIs P et (vv z0)) (hb : w.heap[b]? = some (.map es clock)) (hm : MapIs kv vv m es clock) {k : κ} {ok : Bool}
    (hx : ev env x = some (.map (some b))) (hy : ev env y = some (kv k)) :
    Val P N env (.lookup t x y ok) w (if ok then .tuple #[vv ((mget m k).getD z0), .bool (mget m k).isSome] else vv ((mget m k).getD z0)) := mk' fun ρ hρ o ho => by
  have hf := hk.find k es.toList (keys m) w hm.key
  rw [find_get hm] at hf
  have hg := findIdx_mget m k
  have hget : (getObj b).run P w = .ok (.map es clock) w := by simp [getObj, Sem.run, hb]
  unfold execOp; rw [ho]
  simp only [hρ _ _ hx, hρ _ _ hy]
  unfold Instr.lookup
  simp only [Sem.run_bind, run_underlying ht, Result.andThen_ok, hget, Sem.run_pure, hk.check, hf]
  cases hi : (keys m).findIdx? (fun x => decide (x = k)) with
  | none =>
    rw [hi] at hg
    simp only [Option.bind_none] at hg ⊢
    simp only [Sem.run_bind, hz w, Result.andThen_ok, Sem.run_pure, ← hg]
    cases ok <;> rfl
  | some i =>
    rw [hi] at hg
    simp only [Option.bind_some] at hg ⊢
    cases hp : m[i]? with
    | none =>
      have := (List.findIdx?_eq_some_iff_getElem.1 hi).1
      simp only [keys, List.length_map] at this
      rw [List.getElem?_eq_none_iff] at hp; omega
    | some p =>
      rw [hp] at hg
      simp only [Option.map_some] at hg ⊢
      simp only [Sem.run_pure, Result.andThen_ok, ← hg]
      cases ok <;> rfl
theorem OwnM.lookup (h : OwnM w C j b kv vv m) (ht : P.underlying t = some (.map kt et)) (hk : KeyOK P kt kv) (hz : ZeroIs P et (vv z0)) {k : κ}
    (hx : ev env x = some (.map (some b))) (hy : ev env y = some (kv k)) : Val P N env (.lookup t x y false) w (vv ((mget m k).getD z0)) := by
  obtain ⟨_, es, clock, hb, hm⟩ := h
  exact val_lookup (ok := false) ht hk hz hb hm hx hy
theorem OwnM.lookupOk (h : OwnM w C j b kv vv m) (ht : P.underlying t = some (.map kt et)) (hk : KeyOK P kt kv) (hz : ZeroIs P et (vv z0)) {k : κ}
    (hx : ev env x = some (.map (some b))) (hy : ev env y = some (kv k)) : Val P N env (.lookup t x y true) w (.tuple #[vv ((mget m k).getD z0), .bool (mget m k).isSome]) := by
  obtain ⟨_, es, clock, hb, hm⟩ := h
  exact val_lookup (ok := true) ht hk hz hb hm hx hy
theorem RM.lookup (h : RM w M kv vv m v) (ht : P.underlying t = some (.map kt et)) (hk : KeyOK P kt kv) (hz : ZeroIs P et (vv z0)) {k : κ}
    (hx : ev env x = some v) (hy : ev env y = some (kv k)) : Val P N env (.lookup t x y false) w (vv ((mget m k).getD z0)) := by
  obtain ⟨b, rfl, _, es, clock, hb, hm⟩ := h
  exact val_lookup (ok := false) ht hk hz hb hm hx hy
theorem RM.lookupOk (h : RM w M kv vv m v) (ht : P.underlying t = some (.map kt et)) (hk : KeyOK P kt kv) (hz : ZeroIs P et (vv z0)) {k : κ}
    (hx : ev env x = some v) (hy : ev env y = some (kv k)) : Val P N env (.lookup t x y true) w (.tuple #[vv ((mget m k).getD z0), .bool (mget m k).isSome]) := by
  obtain ⟨b, rfl, _, es, clock, hb, hm⟩ := h
  exact val_lookup (ok := true) ht hk hz hb hm hx hy

/-- 'm[k] = x'. -/
theorem a_mapUpdate (h : OwnM w C j b kv vv m) (ht : P.underlying t = some (.map kt et)) (hk : KeyOK P kt kv) {k : κ} {u : β}
    (hx : ev env x = some (.map (some b))) (hy : ev env y = some (kv k)) (hz : ev env z = some (vv u)) :
    Acts P N env (.mapUpdate t x y z) w (fun v w' => v = undef ∧ Stp [j] w C w' C ∧ OwnM w' C j b kv vv (mput m k u)) := acts' fun ρ hρ o ho => by
  obtain ⟨hc, es, clock, hb, hm⟩ := h
  have hf := hk.find k es.toList (keys m) w hm.key
  have hget : (getObj b).run P w = .ok (.map es clock) w := by simp [getObj, Sem.run, hb]
  cases hi : (keys m).findIdx? (fun x => decide (x = k)) with
  | none =>
    rw [hi] at hf
    have hu := upd_setObj (.map (es.push { key := kv k, val := vv u, born := clock }) (clock + 1)) hb
    refine ⟨undef, _, .inr ⟨?_, rfl⟩, rfl, upd_step (o := .map #[] 0) hu hc, hc, _, _, hu.at_, hm.push hi u⟩
    unfold execOp; rw [ho]
    simp only [hρ _ _ hx, hρ _ _ hy, hρ _ _ hz]
    unfold Instr.mapUpdate
    simp only [Sem.run_bind, run_underlying ht, Result.andThen_ok, hget, hk.check, hf, Option.bind_none]
    rw [setObj_run hb (fun _ _ _ h => by cases h)]
    rfl
  | some i =>
    rw [hi] at hf
    have hu := upd_setObj (.map (es.modify i fun e => { e with key := kv k, val := vv u }) clock) hb
    have hke := key_at hm hi
    have hlt : i < es.size := by
      have := (List.findIdx?_eq_some_iff_getElem.1 hi).1
      have h2 := congrArg List.length hm.key
      simp only [List.length_map, Array.length_toList] at h2
      omega
    have hke' : ((es[i]?).map (·.key)).getD (kv k) = kv k := by rw [hke]; rfl
    refine ⟨undef, _, .inr ⟨?_, rfl⟩, rfl, upd_step (o := .map #[] 0) hu hc, hc, _, _, hu.at_, hm.modify hi u⟩
    unfold execOp; rw [ho]
    simp only [hρ _ _ hx, hρ _ _ hy, hρ _ _ hz]
    unfold Instr.mapUpdate
    have hel : es.toList[i]? = some es[i] := by simp [hlt]
    simp only [Sem.run_bind, run_underlying ht, Result.andThen_ok, hget, hk.check, hf, Option.bind_some, hel, Option.map_some]
    simp only [Sem.run_bind, Instr.keyThatStays, hke', hk.bits, if_true, Sem.run_pure, Result.andThen_ok]
    rw [setObj_run hb (fun _ _ _ h => by cases h)]
    rfl
end
end Go.K
