/- Memory: what may turn between two worlds, how data read, and the operations that touch memory. -/
import Derived.Test.YtfmdkdfhnkennaaK2
set_option linter.unusedVariables false
set_option linter.unusedSimpArgs false
namespace Go.K

/-- From `w` to `w'` no block of `w` has turned but for those in `A`. -/
structure Ext (A : Nat → Prop) (w w' : World) : Prop where
  os : w'.os = w.os
  tape : w'.tape = w.tape
  output : w'.output = w.output
  size : w.heap.size ≤ w'.heap.size
  block : ∀ b, b < w.heap.size → ¬ A b → w'.heap[b]? = w.heap[b]?
  drawn : w.drawn ≤ w'.drawn

def No : Nat → Prop := fun _ => False
def One (b : Nat) : Nat → Prop := fun x => x = b
/-- The block of an owned slice. -/
def Ob (v : Value) : Nat → Prop := fun x => v.ownBlock = some x

section
variable {A A' M M' : Nat → Prop} {w w' w'' : World}
theorem Ext.refl (A : Nat → Prop) (w : World) : Ext A w w := ⟨rfl, rfl, rfl, Nat.le_refl _, fun _ _ _ => rfl, Nat.le_refl _⟩
theorem Ext.trans (h : Ext A w w') (h' : Ext A' w' w'') (hA : ∀ b, b < w.heap.size → A' b → A b) : Ext A w w'' :=
  ⟨h'.os.trans h.os, h'.tape.trans h.tape, h'.output.trans h.output, Nat.le_trans h.size h'.size, fun b hb hn =>
    (h'.block b (Nat.lt_of_lt_of_le hb h.size) (fun ha => hn (hA b hb ha))).trans (h.block b hb hn), Nat.le_trans h.drawn h'.drawn⟩
theorem Ext.mono (h : Ext A w w') (hA : ∀ b, b < w.heap.size → A b → A' b) : Ext A' w w' :=
  ⟨h.os, h.tape, h.output, h.size, fun b hb hn => h.block b hb (fun ha => hn (hA b hb ha)), h.drawn⟩
theorem Ext.drew (A : Nat → Prop) (w : World) : Ext A w { w with drawn := w.drawn + 1 } := ⟨rfl, rfl, rfl, Nat.le_refl _, fun _ _ _ => rfl, Nat.le_succ _⟩
theorem Ext.below (h : Ext A w w') {B : Nat} (hB : B ≤ w.heap.size) (hA : ∀ b, A b → B ≤ b) : Go.RowKit.Below B w w' :=
  ⟨h.os, h.tape, h.output, h.size, fun k hk => h.block k (Nat.lt_of_lt_of_le hk hB) (fun ha => by have := hA k ha; omega)⟩
theorem Ext.at' (h : Ext A w w') {b : Nat} {o : Obj} (hb : w.heap[b]? = some o) (hn : ¬ A b) : w'.heap[b]? = some o :=
  (h.block b (Array.getElem?_eq_some_iff.1 hb).1 hn).trans hb
theorem lt_of_at {b : Nat} {o : Obj} (hb : w.heap[b]? = some o) : b < w.heap.size := (Array.getElem?_eq_some_iff.1 hb).1
end

/-- Data that lie in so many cells, read outside the blocks `M` (those may still be written). -/
class Rep (α : Type) where
  sz : Nat
  /-- Is it a struct or an array? -/
  agg : Bool
  flat : agg = false → sz = 1
  rep : Array Obj → (Nat → Prop) → α → List Value → Prop
  len : ∀ {h M x vs}, rep h M x vs → vs.length = sz
  one : ∀ {h M x vs}, rep h M x vs → ∀ v ∈ vs, v.oneCell' = true
  keep : ∀ {h h' M x vs}, rep h M x vs → (∀ b, b < h.size → ¬ M b → h'[b]? = h[b]?) → rep h' M x vs
  sub : ∀ {h M M' x vs}, rep h M x vs → (∀ b, b < h.size → M' b → M b) → rep h M' x vs

open Rep

instance : Rep Int where
  sz := 1
  agg := false
  flat _ := rfl
  rep _ _ x vs := vs = [.int .i64 x]
  len h := by subst h; rfl
  one h := by subst h; intro v hv; simp at hv; subst hv; rfl
  keep h _ := h
  sub h _ := h

instance : Rep Nat where
  sz := 1
  agg := false
  flat _ := rfl
  rep _ _ x vs := vs = [.int .i64 (x : Int)]
  len h := by subst h; rfl
  one h := by subst h; intro v hv; simp at hv; subst hv; rfl
  keep h _ := h
  sub h _ := h

/-- A number of another kind than int's. -/
structure Num (k : IntKind) where
  n : Int
abbrev U64 := Num .u64
abbrev U8 := Num .u8
abbrev U32 := Num .u32
instance {k : IntKind} : Rep (Num k) where
  sz := 1
  agg := false
  flat _ := rfl
  rep _ _ x vs := vs = [.int k x.n]
  len h := by subst h; rfl
  one h := by subst h; intro v hv; simp at hv; subst hv; rfl
  keep h _ := h
  sub h _ := h
instance : Rep Bool where
  sz := 1
  agg := false
  flat _ := rfl
  rep _ _ x vs := vs = [.bool x]
  len h := by subst h; rfl
  one h := by subst h; intro v hv; simp at hv; subst hv; rfl
  keep h _ := h
  sub h _ := h
instance : Rep ByteArray where
  sz := 1
  agg := false
  flat _ := rfl
  rep _ _ x vs := vs = [.string x] ∧ x.size ≤ 9223372036854775807
  len h := by obtain ⟨rfl, _⟩ := h; rfl
  one h := by obtain ⟨rfl, _⟩ := h; intro v hv; simp at hv; subst hv; rfl
  keep h _ := h
  sub h _ := h
instance {α β : Type} [Rep α] [Rep β] : Rep (α × β) where
  sz := sz α + sz β
  agg := true
  flat h := by cases h
  rep h M x vs := ∃ us ws, vs = us ++ ws ∧ rep h M x.1 us ∧ rep h M x.2 ws
  len h := by obtain ⟨us, ws, rfl, h1, h2⟩ := h; rw [List.length_append, len h1, len h2]
  one h := by
    obtain ⟨us, ws, rfl, h1, h2⟩ := h
    intro v hv
    rcases List.mem_append.1 hv with hv | hv
    · exact one h1 v hv
    · exact one h2 v hv
  keep h hk := by obtain ⟨us, ws, e, h1, h2⟩ := h; exact ⟨us, ws, e, keep h1 hk, keep h2 hk⟩
  sub h hk := by obtain ⟨us, ws, e, h1, h2⟩ := h; exact ⟨us, ws, e, sub h1 hk, sub h2 hk⟩

/-- Data that are made of other data. -/
@[reducible] def Rep.via {α β : Type} [Rep β] (f : α → β) : Rep α where
  sz := sz β
  agg := true
  flat h := by cases h
  rep h M x vs := rep h M (f x) vs
  len h := len h
  one h := one h
  keep h hk := keep h hk
  sub h hk := sub h hk

def cellsAt (cs : Array Value) (o n : Nat) : List Value := (cs.toList.drop o).take n

/-- At this place lies this. -/
def At {α : Type} [Rep α] (h : Array Obj) (M : Nat → Prop) (b o : Nat) (x : α) : Prop :=
  ¬ M b ∧ ∃ cs ty fz, h[b]? = some (.cells cs ty fz) ∧ rep h M x (cellsAt cs o (sz α))

/-- From this place on lie these. -/
def Seg {α : Type} [Rep α] (h : Array Obj) (M : Nat → Prop) (b o : Nat) (xs : List α) : Prop :=
  ¬ M b ∧ ∃ cs ty fz, h[b]? = some (.cells cs ty fz) ∧ o + xs.length * sz α ≤ cs.size ∧ ∀ i (hi : i < xs.length), rep h M xs[i] (cellsAt cs (o + i * sz α) (sz α))

section
variable {α : Type} [Rep α] {h h' : Array Obj} {M M' : Nat → Prop} {b o : Nat} {x : α} {xs : List α}
theorem At.keep (ha : At h M b o x) (hk : ∀ b, b < h.size → ¬ M b → h'[b]? = h[b]?) : At h' M b o x := by
  obtain ⟨hb, cs, ty, fz, hc, hr⟩ := ha
  exact ⟨hb, cs, ty, fz, (hk b (Array.getElem?_eq_some_iff.1 hc).1 hb).trans hc, Rep.keep hr hk⟩
theorem At.sub (ha : At h M b o x) (hk : ∀ b, b < h.size → M' b → M b) : At h M' b o x := by
  obtain ⟨hb, cs, ty, fz, hc, hr⟩ := ha
  exact ⟨fun h' => hb (hk b (Array.getElem?_eq_some_iff.1 hc).1 h'), cs, ty, fz, hc, Rep.sub hr hk⟩
theorem Seg.keep (ha : Seg h M b o xs) (hk : ∀ b, b < h.size → ¬ M b → h'[b]? = h[b]?) : Seg h' M b o xs := by
  obtain ⟨hb, cs, ty, fz, hc, hl, hr⟩ := ha
  exact ⟨hb, cs, ty, fz, (hk b (Array.getElem?_eq_some_iff.1 hc).1 hb).trans hc, hl, fun i hi => Rep.keep (hr i hi) hk⟩
theorem Seg.sub (ha : Seg h M b o xs) (hk : ∀ b, b < h.size → M' b → M b) : Seg h M' b o xs := by
  obtain ⟨hb, cs, ty, fz, hc, hl, hr⟩ := ha
  exact ⟨fun h' => hb (hk b (Array.getElem?_eq_some_iff.1 hc).1 h'), cs, ty, fz, hc, hl, fun i hi => Rep.sub (hr i hi) hk⟩
theorem Seg.at' (ha : Seg h M b o xs) (i : Nat) (hi : i < xs.length) : At h M b (o + i * sz α) xs[i] := by
  obtain ⟨hb, cs, ty, fz, hc, hl, hr⟩ := ha
  exact ⟨hb, cs, ty, fz, hc, hr i hi⟩
end

instance {α : Type} [Rep α] : Rep (List α) where
  sz := 1
  agg := false
  flat _ := rfl
  rep h M xs vs := ∃ a c, vs = [.slice a xs.length c] ∧ xs.length ≤ c ∧ xs.length ≤ 9223372036854775807 ∧ (xs = [] ∨ ∃ b o, a = some ⟨b, o, none⟩ ∧ Seg h M b o xs)
  len h := by obtain ⟨a, c, rfl, _⟩ := h; rfl
  one h := by obtain ⟨a, c, rfl, _⟩ := h; intro v hv; simp at hv; subst hv; rfl
  keep h hk := by
    obtain ⟨a, c, e, h1, h2, h3⟩ := h
    exact ⟨a, c, e, h1, h2, h3.imp id (fun ⟨b, o, ha, hs⟩ => ⟨b, o, ha, hs.keep hk⟩)⟩
  sub h hk := by
    obtain ⟨a, c, e, h1, h2, h3⟩ := h
    exact ⟨a, c, e, h1, h2, h3.imp id (fun ⟨b, o, ha, hs⟩ => ⟨b, o, ha, hs.sub hk⟩)⟩

/-- A value reads as this. -/
def RV {α : Type} [Rep α] (w : World) (M : Nat → Prop) (x : α) (v : Value) : Prop := ∃ vs, rep w.heap M x vs ∧ v = if agg α then .agg vs.toArray else vs.headD undef
/-- A place reads as this. -/
def RA {α : Type} [Rep α] (w : World) (M : Nat → Prop) (x : α) (b o : Nat) : Prop := At w.heap M b o x

section
variable {α β : Type} [Rep α] [Rep β] {w w' : World} {A M M' : Nat → Prop} {x : α} {xs : List α} {v : Value} {b o : Nat}
theorem RV.ext (hr : RV w M x v) (he : Ext A w w') (hA : ∀ b, b < w.heap.size → A b → M b) : RV w' M x v :=
  let ⟨vs, h1, h2⟩ := hr; ⟨vs, Rep.keep h1 (fun b hb hn => he.block b hb (fun ha => hn (hA b hb ha))), h2⟩
theorem RV.sub (hr : RV w M x v) (hA : ∀ b, b < w.heap.size → M' b → M b) : RV w M' x v := let ⟨vs, h1, h2⟩ := hr; ⟨vs, Rep.sub h1 hA, h2⟩
theorem RA.ext (hr : RA w M x b o) (he : Ext A w w') (hA : ∀ b, b < w.heap.size → A b → M b) : RA w' M x b o :=
  At.keep hr (fun b hb hn => he.block b hb (fun ha => hn (hA b hb ha)))
theorem RA.sub (hr : RA w M x b o) (hA : ∀ b, b < w.heap.size → M' b → M b) : RA w M' x b o := At.sub hr hA

theorem rv_int {n : Int} : RV w M n v ↔ v = .int .i64 n := ⟨fun ⟨vs, h, e⟩ => by subst h; exact e, fun h => ⟨_, rfl, h⟩⟩
theorem rv_nat {n : Nat} : RV w M n v ↔ v = .int .i64 (n : Int) := ⟨fun ⟨vs, h, e⟩ => by subst h; exact e, fun h => ⟨_, rfl, h⟩⟩
theorem rv_num {k : IntKind} {n : Num k} : RV w M n v ↔ v = .int k n.n := ⟨fun ⟨vs, h, e⟩ => by subst h; exact e, fun h => ⟨_, rfl, h⟩⟩
theorem rv_bool {n : Bool} : RV w M n v ↔ v = .bool n := ⟨fun ⟨vs, h, e⟩ => by subst h; exact e, fun h => ⟨_, rfl, h⟩⟩
theorem rv_str {s : ByteArray} : RV w M s v ↔ v = .string s ∧ s.size ≤ 9223372036854775807 := ⟨fun ⟨vs, h, e⟩ => by obtain ⟨rfl, h⟩ := h; exact ⟨e, h⟩, fun h => ⟨_, ⟨rfl, h.2⟩, h.1⟩⟩
theorem rv_list : RV w M xs v ↔ ∃ a c, v = .slice a xs.length c ∧ xs.length ≤ c ∧ xs.length ≤ 9223372036854775807 ∧ (xs = [] ∨ ∃ b o, a = some ⟨b, o, none⟩ ∧ Seg w.heap M b o xs) :=
  ⟨fun ⟨vs, h, e⟩ => by obtain ⟨a, c, rfl, h⟩ := h; exact ⟨a, c, e, h⟩, fun ⟨a, c, h⟩ => ⟨_, ⟨a, c, rfl, h.2⟩, h.1⟩⟩
theorem rv_nil : RV w M ([] : List α) (.slice none 0 0) := rv_list.2 ⟨none, 0, rfl, Nat.le_refl _, by simp, .inl rfl⟩

theorem RA.fst {p : α × β} (h : RA w M p b o) : RA w M p.1 b o := by
  obtain ⟨hb, cs, ty, fz, hc, us, ws, he, h1, h2⟩ := h
  refine ⟨hb, cs, ty, fz, hc, ?_⟩
  have : cellsAt cs o (sz α) = us := by
    have e : cellsAt cs o (sz (α × β)) = us ++ ws := he
    have hl := Rep.len h1
    have : cellsAt cs o (sz α) = (cellsAt cs o (sz (α × β))).take (sz α) := by
      simp only [cellsAt, List.take_take]
      congr 1
      exact (Nat.min_eq_left (Nat.le_add_right _ _)).symm
    rw [this, e, ← hl, List.take_left]
  rw [this]; exact h1
theorem RA.snd {p : α × β} (h : RA w M p b o) : RA w M p.2 b (o + sz α) := by
  obtain ⟨hb, cs, ty, fz, hc, us, ws, he, h1, h2⟩ := h
  refine ⟨hb, cs, ty, fz, hc, ?_⟩
  have : cellsAt cs (o + sz α) (sz β) = ws := by
    have e : cellsAt cs o (sz (α × β)) = us ++ ws := he
    have hl := Rep.len h1
    have : cellsAt cs (o + sz α) (sz β) = (cellsAt cs o (sz (α × β))).drop (sz α) := by
      simp only [cellsAt, List.drop_take, List.drop_drop]
      congr 1
      exact (Nat.add_sub_cancel_left _ _).symm
    rw [this, e, ← hl, List.drop_left]
  rw [this]; exact h2
theorem rv_pair {p : α × β} {us ws : List Value} (h1 : rep w.heap M p.1 us) (h2 : rep w.heap M p.2 ws) : rep w.heap M p (us ++ ws) := ⟨us, ws, rfl, h1, h2⟩
/-- A scalar that reads, as its one cell. -/
theorem RV.rep1 (h : RV w M x v) (hx : Rep.agg α = false) : rep w.heap M x [v] := by
  obtain ⟨vs, hr, hv⟩ := h
  have hl := Rep.len hr
  rw [Rep.flat hx] at hl
  obtain ⟨u, rfl⟩ := List.length_eq_one_iff.1 hl
  simp only [hx, Bool.false_eq_true, if_false, List.headD_cons] at hv
  subst hv
  exact hr
theorem rep1_rv (h : rep w.heap M x [v]) (hx : Rep.agg α = false) : RV w M x v := ⟨[v], h, by simp [hx]⟩

/-! ### Loads and addresses -/

def aggB (P : Program) (t : TypeId) : Option Bool := match P.underlying t with | some (.struct _) => some true | some (.array _ _) => some true | some _ => some false | none => none
def szB (P : Program) (t : TypeId) : Option Nat := (P.info? t).map (·.size)

variable {P : Program} {N : Nat} {env : Env} {t u : TypeId} {y z : Operand}

theorem run_isAggB {b : Bool} (h : aggB P t = some b) (w : World) : (isAgg t).run P w = .ok b w := by
  unfold aggB at h
  split at h <;> rename_i hu <;> first | (simp only [Option.some.injEq] at h; subst h) | cases h
  all_goals simp [isAgg, run_underlying hu]

theorem run_sizeOfB {n : Nat} (h : szB P t = some n) (w : World) : (sizeOf t).run P w = .ok n w := by
  unfold szB at h
  cases hi : P.info? t with
  | none => rw [hi] at h; cases h
  | some i => rw [hi] at h; simp only [Option.map_some, Option.some.injEq] at h; subst h; simp [sizeOf, typeInfo, hi]

theorem cellsAt_get {cs : Array Value} {o n : Nat} {vs : List Value} (h : cellsAt cs o n = vs) (hl : vs.length = n) {j : Nat} (hj : j < n) : cs[o + j]? = vs[j]? := by
  subst h
  simp only [cellsAt, List.getElem?_take, List.getElem?_drop, if_pos hj]
  simp

theorem addr_add (b o n : Nat) : (⟨b, o, none⟩ : Addr).add n = ⟨b, o + n, none⟩ := by unfold Addr.add; split <;> simp_all

/-- A load of a scalar. -/
theorem RA.load (h : RA w M x b o) (ha : aggB P t = some false) (hx : Rep.agg α = false) (hy : ev env y = some (.pointer (some ⟨b, o, none⟩))) :
    ∃ v, RV w M x v ∧ ∀ w', w'.heap[b]? = w.heap[b]? → Val P N env (.load t y) w' v := by
  obtain ⟨hb, cs, ty, fz, hc, hr⟩ := h
  have h1 : sz α = 1 := Rep.flat hx
  obtain ⟨v, hv⟩ : ∃ v, cellsAt cs o (sz α) = [v] := List.length_eq_one_iff.1 (by rw [len hr, h1])
  rw [hv] at hr
  refine ⟨v, ⟨[v], hr, by simp [hx]⟩, fun w' hw => mk' fun ρ hρ oo ho => ?_⟩
  rw [← hw] at hc
  have h2 : cs[o]? = some v := by have := cellsAt_get (j := 0) hv (by simp [h1]) (by omega); simpa using this
  unfold execOp; rw [ho]
  simp [hρ _ _ hy, go_sem, Instr.loadAt, Instr.sureAddr, loadVar, run_isAggB ha, World.cell?, hc, h2]

/-- A load of a struct. -/
theorem RA.loadAgg (h : RA w M x b o) (ha : aggB P t = some true) (hs : szB P t = some (sz α)) (hx : Rep.agg α = true) (hy : ev env y = some (.pointer (some ⟨b, o, none⟩))) :
    ∃ v, RV w M x v ∧ ∀ w', w'.heap[b]? = w.heap[b]? → Val P N env (.load t y) w' v := by
  obtain ⟨hb, cs, ty, fz, hc, hr⟩ := h
  refine ⟨.agg (cellsAt cs o (sz α)).toArray, ⟨_, hr, by simp only [hx, if_true]⟩, fun w' hw => mk' fun ρ hρ oo ho => ?_⟩
  rw [← hw] at hc
  have hl := len hr
  have hcells : (loadCells ⟨b, o, none⟩ (sz α)).run P w' = .ok (cellsAt cs o (sz α)).toArray w' := by
    have := run_loadCells_list (P := P) w' ⟨b, o, none⟩ (cellsAt cs o (sz α)) (fun j v hv => by
      have hj : j < sz α := by rw [← hl]; exact (List.getElem?_eq_some_iff.1 hv).1
      rw [addr_add, cell_of_row w' b (o + j) cs ty fz hc, cellsAt_get rfl hl hj, hv])
    rwa [hl] at this
  simp only [loadCells] at hcells
  unfold execOp; rw [ho]
  simp [hρ _ _ hy, go_sem, Instr.loadAt, Instr.sureAddr, loadVar, run_isAggB ha, run_sizeOfB hs, loadCells, hcells]

/-- A load out of a block that is known. -/
theorem val_loadOwn {cs : List Value} {ty : TypeId} {fz : Nat × Nat} (hc : w.heap[b]? = some (.cells cs.toArray ty fz)) (ha : aggB P t = some false) (hv : cs[o]? = some v)
    (hy : ev env y = some (.pointer (some ⟨b, o, none⟩))) : Val P N env (.load t y) w v := mk' fun ρ hρ oo ho => by
  have h2 : cs.toArray[o]? = some v := by simpa using hv
  unfold execOp; rw [ho]
  simp [hρ _ _ hy, go_sem, Instr.loadAt, Instr.sureAddr, loadVar, run_isAggB ha, World.cell?, hc, h2]
theorem val_loadOwnAgg {cs : List Value} {ty : TypeId} {fz : Nat × Nat} {n : Nat} {vs : List Value} (hc : w.heap[b]? = some (.cells cs.toArray ty fz)) (ha : aggB P t = some true) (hs : szB P t = some n)
    (hv : (cs.drop o).take n = vs) (hl : vs.length = n) (hy : ev env y = some (.pointer (some ⟨b, o, none⟩))) : Val P N env (.load t y) w (.agg vs.toArray) := mk' fun ρ hρ oo ho => by
  have hcells : (loadCells ⟨b, o, none⟩ n).run P w = .ok vs.toArray w := by
    have := run_loadCells_list (P := P) w ⟨b, o, none⟩ vs (fun j u hu => by
      have hj : j < n := by rw [← hl]; exact (List.getElem?_eq_some_iff.1 hu).1
      rw [addr_add, cell_of_row w b (o + j) cs.toArray ty fz hc]
      rw [← hu, ← hv, List.getElem?_take, if_pos hj, List.getElem?_drop]; simp)
    rwa [hl] at this
  simp only [loadCells] at hcells
  unfold execOp; rw [ho]
  simp [hρ _ _ hy, go_sem, Instr.loadAt, Instr.sureAddr, loadVar, run_isAggB ha, run_sizeOfB hs, loadCells, hcells]

/-- The type's field: its place and that it takes memory. -/
def fieldB (P : Program) (t : TypeId) (f : Nat) : Option Nat := match P.underlying t with
  | some (.struct fs) => match fs[f]? with
    | some fl => match szB P fl.type with | some (_ + 1) => some fl.offset | _ => none
    | none => none
  | _ => none

theorem val_fieldAddr {f off : Nat} (hf : fieldB P t f = some off) (hy : ev env y = some (.pointer (some ⟨b, o, none⟩))) :
    Val P N env (.fieldAddr t y f) w (.pointer (some ⟨b, o + off, none⟩)) := mk' fun ρ hρ oo ho => by
  unfold fieldB at hf
  split at hf
  · rename_i fs hu
    split at hf
    · rename_i fl hfl
      split at hf
      · rename_i n hn
        simp only [Option.some.injEq] at hf
        subst hf
        unfold execOp; rw [ho]
        simp [hρ _ _ hy, go_sem, Instr.fieldAt, run_underlying hu, hfl, Instr.sureAddr, fieldPlace, run_sizeOfB hn, addr_add]
      · cases hf
    · cases hf
  · cases hf

def elemB (P : Program) (t : TypeId) : Option (TypeId × Nat) := match P.underlying t with
  | some (.slice e) => match szB P e with | some n => some (e, n) | none => none
  | _ => none

theorem val_indexAddr {e n l c : Nat} {k : IntKind} {i : Int} (hf : elemB P t = some (e, n)) (hy : ev env y = some (.slice (some ⟨b, o, none⟩) l c)) (hz : ev env z = some (.int k i))
    (h0 : 0 ≤ i) (h1 : i < l) : Val P N env (.indexAddr t y z) w (.pointer (some ⟨b, o + i.toNat * n, none⟩)) := mk' fun ρ hρ oo ho => by
  unfold elemB at hf
  split at hf
  · rename_i e' hu
    split at hf
    · rename_i n' hn
      simp only [Option.some.injEq, Prod.mk.injEq] at hf
      obtain ⟨rfl, rfl⟩ := hf
      unfold execOp; rw [ho]
      simp only [hρ _ _ hy, hρ _ _ hz]
      simp [go_sem, Instr.indexAt, run_underlying hu, asIntOf, run_sizeOfB hn, h0, h1, addr_add]
    · cases hf
  · cases hf

/-- The address of an element of a list. -/
theorem RV.index (h : RV w M xs v) (hy : ev env y = some v) {e : Nat} {k : IntKind} {i : Int} (hf : elemB P t = some (e, sz α)) (hz : ev env z = some (.int k i))
    (h0 : 0 ≤ i) (h1 : i < xs.length) : ∃ b o, RA w M (xs[i.toNat]'(by omega)) b o ∧ ∀ w', Val P N env (.indexAddr t y z) w' (.pointer (some ⟨b, o, none⟩)) := by
  obtain ⟨a, c, rfl, hc, hm, hs⟩ := rv_list.1 h
  rcases hs with rfl | ⟨b, o, rfl, hs⟩
  · simp at h1; omega
  · exact ⟨b, o + i.toNat * sz α, hs.at' _ _, fun w' => val_indexAddr hf hy hz h0 h1⟩
theorem RV.len (h : RV w M xs v) : ∃ a c, v = .slice a xs.length c := let ⟨a, c, e, _⟩ := rv_list.1 h; ⟨a, c, e⟩
theorem RV.le (h : RV w M xs v) : xs.length ≤ 9223372036854775807 := let ⟨a, c, _, _, e, _⟩ := rv_list.1 h; e
theorem RV.lenV (h : RV w M xs v) (hy : ev env y = some v) {e : TypeId} (ht : P.underlying t = some (.slice e)) :
    ∀ w', Val P N env (.call { callee := .builtin .len, args := #[y], argTypes := #[t] }) w' (.int .i64 xs.length) := fun w' => by
  obtain ⟨a, c, rfl⟩ := h.len
  exact val_len_slice hy ht
/-- A scalar's value is one cell. -/
theorem RV.one (h : RV w M x v) (hx : Rep.agg α = false) : v.cells = #[v] ∧ v.oneCell' = true := by
  obtain ⟨vs, h1, h2⟩ := h
  have hl := Rep.len h1
  rw [Rep.flat hx] at hl
  obtain ⟨u, rfl⟩ := List.length_eq_one_iff.1 hl
  simp only [hx, Bool.false_eq_true, if_false, List.headD_cons] at h2
  subst h2
  have h3 := Rep.one h1 v (by simp)
  refine ⟨?_, h3⟩
  cases v <;> first | rfl | simp [Value.oneCell'] at h3
/-- A struct's value is its cells. -/
theorem RV.many (h : RV w M x v) (hx : Rep.agg α = true) : ∃ vs, v = .agg vs.toArray ∧ vs.length = sz α ∧ (∀ u ∈ vs, u.oneCell' = true) ∧ rep w.heap M x vs := by
  obtain ⟨vs, h1, h2⟩ := h
  simp only [hx, if_true] at h2
  exact ⟨vs, h2, Rep.len h1, Rep.one h1, h1⟩
end
end Go.K
