/- The rules as the scripts use them. -/
import Derived.Test.YtfmdkdfhnkennaaK4
set_option linter.unusedVariables false
set_option linter.unusedSimpArgs false
namespace Go.K
open Rep

/-! ### Parts of code, by where they stand -/
def cl : Code → Code | .seq a _ => a | .cond _ a _ => a | .block _ b => b | .loop b => b | .scope b => b | c => c
def cr : Code → Code | .seq _ b => b | .cond _ _ b => b | c => c
def rops : Code → Array Oper | .region _ ops _ => ops | _ => #[]
def bodyOf (fn : Func) : Code := match fn.body with | some c => c | none => .skip

section
variable {P : Program} {f : FuncId} {N : Nat} {k : List Item} {env : Env} {w w' : World} {R : Value → World → Prop}
variable {ops : Array Oper} {S : World → Prop} {i t : Nat} {L : List (Nat × Bool)} {op : Op} {v : Value} {x y z : Operand} {g : Option (Nat × Bool)}

theorem yS (hop : opAt ops i = some (some t, op, g)) (hw : wantedE ops env g = some true) (ht : Nat.blt t N = true)
    (hy : ∀ w', S w' → Val P N env op w' v) (h : Sch P f N k R ops S L ((t, v) :: env) w) : Sch P f N k R ops S ((i, true) :: L) env w := Sch.yield hop hw ht hy h
theorem pS (hop : opAt ops i = some (some t, op, g)) (hw : wantedE ops env g = some false) (ht : Nat.blt t N = true)
    (h : Sch P f N k R ops S L ((t, undef) :: env) w) : Sch P f N k R ops S ((i, true) :: L) env w := Sch.pass hop hw ht h
theorem pW (hop : opAt ops i = some (some t, op, g)) (hw : wantedE ops env g = some false) (ht : Nat.blt t N = true) (hS : S w)
    (h : Sch P f N k R ops S L ((t, undef) :: env) w) : Sch P f N k R ops S ((i, false) :: L) env w := Sch.passW hop hw ht hS h
theorem nS (hop : opAt ops i = some (some t, op, g)) (hw : wantedE ops env g = some true) (ht : Nat.blt t N = true) (hS : S w)
    (hy : Val P N env op w v) (h : Sch P f N k R ops S L ((t, v) :: env) w) : Sch P f N k R ops S ((i, false) :: L) env w := Sch.now hop hw ht hS hy h
theorem aS {T : Value → World → Prop} (hop : opAt ops i = some (some t, op, g)) (hw : wantedE ops env g = some true) (ht : Nat.blt t N = true)
    (hy : Acts P N env op w T) (h : ∀ v w', T v w' → S w' ∧ Sch P f N k R ops S L ((t, v) :: env) w') : Sch P f N k R ops S ((i, false) :: L) env w := Sch.act hop hw ht hy h
theorem aN {T : Value → World → Prop} (hop : opAt ops i = some (none, op, g)) (hw : wantedE ops env g = some true)
    (hy : Acts P N env op w T) (h : ∀ v w', T v w' → S w' ∧ Sch P f N k R ops S L env w') : Sch P f N k R ops S ((i, false) :: L) env w := Sch.act hop hw rfl hy h
theorem cS {gf : FuncId} {args : Array Value} {T : Value → World → Prop} (hop : opAt ops i = some (some t, op, g)) (hw : wantedE ops env g = some true) (ht : Nat.blt t N = true)
    (hy : Enters P N env op w gf args) (hc : Calls P gf args w (Ret T))
    (h : ∀ v w', T v w' → S w' ∧ Sch P f N k R ops S L ((t, v) :: env) w') : Sch P f N k R ops S ((i, false) :: L) env w := Sch.call hop hw ht hy hc h
theorem cN {gf : FuncId} {args : Array Value} {T : Value → World → Prop} (hop : opAt ops i = some (none, op, g)) (hw : wantedE ops env g = some true)
    (hy : Enters P N env op w gf args) (hc : Calls P gf args w (Ret T))
    (h : ∀ v w', T v w' → S w' ∧ Sch P f N k R ops S L env w') : Sch P f N k R ops S ((i, false) :: L) env w := Sch.call hop hw rfl hy hc h

theorem ent {gf : FuncId} {xs : Array Operand} {ts : Array TypeId} {vs : List Value}
    (hcall : ∀ args w, (callFunc gf args).run P w = .ok (.enter gf args) w) (hargs : evs env xs.toList = some vs) :
    Enters P N env (.call { callee := .value (.func gf), args := xs, argTypes := ts }) w gf vs.toArray := by
  have := enters_func (P := P) (N := N) (env := env) (w := w) (ts := ts) (x := .func gf) (cap := #[]) hcall rfl hargs
  simpa using this

/-- Slots are forgotten; what is left is spelt anew. -/
theorem kp {env' : Env} (hs : Sub env' env) (h : Run P f N k env' w R) : Run P f N k env w R := h.sub hs
theorem kpS {env' : Env} (hs : Sub env' env) (h : Sch P f N k R ops S L env' w) : Sch P f N k R ops S L env w := h.sub hs
theorem sc (t : Nat) {v : Value} {env' env : Env} (hl : look env t = some v) (h : Sub env' env) : Sub ((t, v) :: env') env := sub_cons t hl rfl h
end

/-! ### Who may write what: blocks bear colours; 0: nobody writes it any more -/

def Mc (C : Nat → Nat) : Nat → Prop := fun b => C b ≠ 0
/-- Only blocks that exist bear a colour. -/
def Lim (w : World) (C : Nat → Nat) : Prop := ∀ b, C b ≠ 0 → b < w.heap.size
/-- From `w` to `w'` only blocks of the colours `I` have turned; no block of `w` has another colour. -/
structure Stp (I : List Nat) (w : World) (C : Nat → Nat) (w' : World) (C' : Nat → Nat) : Prop where
  ext : Ext (fun b => C b ∈ I) w w'
  col : ∀ b, b < w.heap.size → C' b = C b
structure OwnB (w : World) (C : Nat → Nat) (j b : Nat) (o : Obj) : Prop where
  col : C b = j
  at_ : w.heap[b]? = some o
structure OwnL {α : Type} [Rep α] (w : World) (C : Nat → Nat) (j : Nat) (e : TypeId) (v : Value) (ys : List α) : Prop where
  own : OwnS w (Mc C) e v ys
  col : ∀ b, Ob v b → C b = j

section
variable {α β : Type} [Rep α] [Rep β] {w w' w'' : World} {I J : List Nat} {C C' C'' D : Nat → Nat} {x : α} {xs ys zs : List α} {v u : Value} {b o j n : Nat} {ob ob' : Obj} {e : TypeId}

theorem Stp.refl (I : List Nat) (w : World) (C : Nat → Nat) : Stp I w C w C := ⟨Ext.refl _ _, fun _ _ => rfl⟩
theorem Stp.reflF (h : Lim w C) : Stp [] w C w C := Stp.refl [] w C
theorem Stp.trans (h : Stp I w C w' C') (h' : Stp J w' C' w'' C'') (hJ : ∀ c ∈ J, c ∈ I) : Stp I w C w'' C'' :=
  ⟨h.ext.trans h'.ext (fun b hb hc => by rw [h.col b hb] at hc; exact hJ _ hc), fun b hb => (h'.col b (Nat.lt_of_lt_of_le hb h.ext.size)).trans (h.col b hb)⟩
theorem Stp.mono (h : Stp I w C w' C') (hI : ∀ c ∈ I, c ∈ J) : Stp J w C w' C' := ⟨h.ext.mono (fun b _ hc => hI _ hc), h.col⟩
theorem Stp.drew (I : List Nat) (w : World) (C : Nat → Nat) : Stp I w C { w with drawn := w.drawn + 1 } C := ⟨Ext.drew _ _, fun _ _ => rfl⟩
theorem Stp.size (h : Stp I w C w' C') : w.heap.size ≤ w'.heap.size := h.ext.size

theorem Lim.st (h : Lim w C) (hs : Stp I w C w' C) : Lim w' C := fun b hb => Nat.lt_of_lt_of_le (h b hb) hs.size
theorem RV.st (h : RV w (Mc C) x v) (hs : Stp I w C w' C') (h0 : 0 ∉ I) : RV w' (Mc C') x v :=
  RV.ext (h.sub (M' := Mc C') (fun b hb hc => by unfold Mc at *; rwa [hs.col b hb] at hc)) hs.ext (fun b hb hc => by unfold Mc; rw [hs.col b hb]; intro e; rw [e] at hc; exact h0 hc)
theorem RA.st (h : RA w (Mc C) x b o) (hs : Stp I w C w' C') (h0 : 0 ∉ I) : RA w' (Mc C') x b o :=
  RA.ext (h.sub (M' := Mc C') (fun b hb hc => by unfold Mc at *; rwa [hs.col b hb] at hc)) hs.ext (fun b hb hc => by unfold Mc; rw [hs.col b hb]; intro e; rw [e] at hc; exact h0 hc)
theorem OwnB.st (h : OwnB w C j b ob) (hs : Stp I w C w' C') (hj : j ∉ I) : OwnB w' C' j b ob :=
  ⟨(hs.col b (lt_of_at h.at_)).trans h.col, hs.ext.at' h.at_ (by rw [h.col]; exact hj)⟩
theorem OwnL.st (h : OwnL w C j e v ys) (hs : Stp I w C w' C') (h0 : 0 ∉ I) (hj : j ∉ I) : OwnL w' C' j e v ys :=
  ⟨OwnS.ext (h.own.sub (M' := Mc C') (fun b hb hc => by unfold Mc at *; rwa [hs.col b hb] at hc) (fun b hb => by have := h.own.ob b hb; unfold Mc at *; rw [hs.col b this.2]; exact this.1))
      hs.ext (fun b hb hc => by unfold Mc; rw [hs.col b hb]; intro e; rw [e] at hc; exact h0 hc) (fun b hb hc => by rw [h.col b hb] at hc; exact hj hc),
    fun b hb => (hs.col b (h.own.ob b hb).2).trans (h.col b hb)⟩
theorem OwnL.nil : OwnL w C j e (.slice none 0 0) ([] : List α) := ⟨OwnS.nil, fun b hb => by cases hb⟩

/-! New blocks -/
def setC (C : Nat → Nat) (b j : Nat) : Nat → Nat := fun x => if x = b then j else C x
def setB (C : Nat → Nat) (v : Value) (j : Nat) : Nat → Nat := fun x => if v.ownBlock = some x then j else C x

theorem New.st (h : New w w' ob) (C : Nat → Nat) : Stp [] w C w' C := ⟨h.ext.mono (fun b _ h => h.elim), fun _ _ => rfl⟩
theorem New.own (h : New w w' ob) (hF : Lim w C) (j : Nat) : ∃ C', Stp [] w C w' C' ∧ OwnB w' C' j w.heap.size ob ∧ Lim w' C' :=
  ⟨setC C w.heap.size j, ⟨h.ext.mono (fun b _ h => h.elim), fun b hb => by unfold setC; rw [if_neg (by omega)]⟩, ⟨by simp [setC], h.at_⟩, fun b hb => by
    unfold setC at hb
    rw [h.size]
    split at hb
    · omega
    · have := hF b hb; omega⟩
theorem Upd.own (h : Upd w w' b ob') (ho : OwnB w C j b ob) : Stp [j] w C w' C ∧ OwnB w' C j b ob' :=
  ⟨⟨h.ext.mono (fun c _ hc => by rw [show c = b from hc, ho.col]; simp), fun _ _ => rfl⟩, ⟨ho.col, h.at_⟩⟩

variable {P : Program} {N : Nat} {env : Env} {y z q : Operand} {t : TypeId}

theorem a_box {cs : List Value} (hF : Lim w C) (j : Nat) (hx : ev env y = some v) (hc : v.cells = cs.toArray) :
    Acts P N env (.box t y) w (fun u w' => ∃ C' b, u = .pointer (some ⟨b, 0, none⟩) ∧ Stp [] w C w' C' ∧ OwnB w' C' j b (.cells cs.toArray t) ∧ Lim w' C') := fun a ha o ho => by
  obtain ⟨u, w', h1, rfl, h2⟩ := acts_box (P := P) (N := N) (t := t) (w := w) hx hc a ha o ho
  obtain ⟨C', h3, h4, h5⟩ := h2.own hF j
  exact ⟨_, w', h1, C', _, rfl, h3, h4, h5⟩
theorem a_alloc {cs : List Value} (hF : Lim w C) (j : Nat) (hz : zeroB P t = some cs) :
    Acts P N env (.alloc t) w (fun u w' => ∃ C' b, u = .pointer (some ⟨b, 0, none⟩) ∧ Stp [] w C w' C' ∧ OwnB w' C' j b (.cells cs.toArray t) ∧ Lim w' C') := fun a ha o ho => by
  obtain ⟨u, w', h1, rfl, h2⟩ := acts_alloc (P := P) (N := N) (env := env) (t := t) (w := w) hz a ha o ho
  obtain ⟨C', h3, h4, h5⟩ := h2.own hF j
  exact ⟨_, w', h1, C', _, rfl, h3, h4, h5⟩
theorem a_store1 {cs : List Value} {ty : TypeId} (hx : ev env y = some (.pointer (some ⟨b, o, none⟩))) (hy : ev env z = some v) (hs : szB P t = some 1)
    (hv : v.cells = #[v]) (h1 : v.oneCell' = true) (hb : OwnB w C j b (.cells cs.toArray ty)) (ho : o < cs.length) :
    Acts P N env (.store t y z) w (fun u w' => u = undef ∧ Stp [j] w C w' C ∧ OwnB w' C j b (.cells (cs.set o v).toArray ty)) := fun a ha oo hoo => by
  obtain ⟨u, w', h2, h3, h4⟩ := acts_store1 (P := P) (N := N) (w := w) hx hy hs hv h1 hb.at_ ho a ha oo hoo
  exact ⟨u, w', h2, h3, h4.own hb⟩
theorem a_store {cs vs : List Value} {ty : TypeId} (hx : ev env y = some (.pointer (some ⟨b, o, none⟩))) (hy : ev env z = some v) (hs : szB P t = some n)
    (hv : v.cells = vs.toArray) (hl : vs.length = n) (h1 : ∀ u ∈ vs, u.oneCell' = true) (hb : OwnB w C j b (.cells cs.toArray ty)) (ho : o + n ≤ cs.length) :
    Acts P N env (.store t y z) w (fun u w' => u = undef ∧ Stp [j] w C w' C ∧ OwnB w' C j b (.cells (cs.take o ++ vs ++ cs.drop (o + n)).toArray ty)) := fun a ha oo hoo => by
  obtain ⟨u, w', h2, h3, h4⟩ := acts_store (P := P) (N := N) (w := w) hx hy hs hv hl h1 hb.at_ ho a ha oo hoo
  exact ⟨u, w', h2, h3, h4.own hb⟩
theorem a_append {bytes : Nat} {s : Value} (hF : Lim w C) (hj : j ≠ 0) (hx : ev env y = some v) (hy : ev env z = some s) (hrow : rowB P t e (sz α) bytes = true) (hsz : 0 < sz α)
    (hown : OwnL w C j e v ys) (hsrc : RV w (Mc C) zs s) (hlen : (ys.length + zs.length) * bytes ≤ 140737488355328) (h63 : ys.length + zs.length ≤ 140737488355328) :
    Acts P N env (.call { callee := .builtin .append, args := #[y, z], argTypes := #[t, t] }) w (fun v' w' => ∃ C', Stp [j] w C w' C' ∧ OwnL w' C' j e v' (ys ++ zs) ∧ Lim w' C') := fun a ha oo hoo => by
  obtain ⟨v', w', h1, h2, h3, h4⟩ := acts_append (P := P) (N := N) hx hy hrow hsz hown.own hsrc hlen h63 a ha oo hoo
  have hcol : ∀ b, b < w.heap.size → setB C v' j b = C b := fun b hb => by
    unfold setB
    split
    · rename_i e
      rcases h4 b e with h | h
      · exact (hown.col b h).symm
      · omega
    · rfl
  refine ⟨v', w', h1, setB C v' j, ⟨h3.mono (fun b _ hb => by rw [hown.col b hb]; simp), hcol⟩, ⟨h2.sub (fun b hb hc => ?_) (fun b hb => ?_), fun b hb => ?_⟩, fun b hb => ?_⟩
  · by_cases ho : Ob v' b
    · exact .inl ho
    · right
      unfold Mc setB at hc
      rw [if_neg (show ¬ v'.ownBlock = some b from ho)] at hc
      exact hc
  · unfold Mc setB; rw [if_pos (show v'.ownBlock = some b from hb)]; exact hj
  · unfold setB; rw [if_pos (show v'.ownBlock = some b from hb)]
  · by_cases ho : Ob v' b
    · exact (h2.ob b ho).2
    · unfold setB at hb
      rw [if_neg (show ¬ v'.ownBlock = some b from ho)] at hb
      exact Nat.lt_of_lt_of_le (hF b hb) h3.size

/-! ### Entering and leaving a function -/

/-- The colours inside a function: 1: whatever else may be written; 2: what the function may write. -/
def col1 (C : Nat → Nat) : Nat → Nat := fun b => if C b = 0 then 0 else 1
def col2 (C : Nat → Nat) (i : Nat) : Nat → Nat := fun b => if C b = 0 then 0 else if C b = i then 2 else 1
theorem col1_ne (C : Nat → Nat) (b : Nat) : col1 C b ≠ 0 ↔ C b ≠ 0 := by unfold col1; split <;> simp_all
theorem col2_ne (C : Nat → Nat) (i b : Nat) : col2 C i b ≠ 0 ↔ C b ≠ 0 := by unfold col2; split <;> (try split) <;> simp_all
theorem Mc_col1 (C : Nat → Nat) : Mc (col1 C) = Mc C := by funext b; exact propext (col1_ne C b)
theorem Mc_col2 (C : Nat → Nat) (i : Nat) : Mc (col2 C i) = Mc C := by funext b; exact propext (col2_ne C i b)
theorem Lim.col1 (h : Lim w C) : Lim w (col1 C) := fun b hb => h b ((col1_ne C b).1 hb)
theorem Lim.col2 (h : Lim w C) (i : Nat) : Lim w (col2 C i) := fun b hb => h b ((col2_ne C i b).1 hb)
theorem OwnB.col2 {i : Nat} (h : OwnB w C i b ob) (hi : i ≠ 0) : OwnB w (col2 C i) 2 b ob := ⟨by unfold K.col2; rw [if_neg (by rw [h.col]; exact hi), if_pos h.col], h.at_⟩
/-- What the whole function did, in its caller's colours. -/
theorem Stp.out1 (h : Stp I w (col1 C) w' C') (hI : ∀ c ∈ I, 2 ≤ c) : Stp [] w C w' C := ⟨h.ext.mono (fun b _ hc => by
  have := hI _ hc
  unfold K.col1 at this
  split at this <;> omega), fun _ _ => rfl⟩
theorem Stp.out2 {i : Nat} (h : Stp I w (col2 C i) w' C') (hI : ∀ c ∈ I, 2 ≤ c) : Stp [i] w C w' C := ⟨h.ext.mono (fun b _ hc => by
  have := hI _ hc
  simp only [List.mem_singleton]
  unfold K.col2 at this
  split at this
  · omega
  · split at this
    · assumption
    · omega), fun _ _ => rfl⟩
theorem Stp.fin_sub (hs : Stp I w D w' C') (hF : Lim w C) (hD : Mc D = Mc C) : ∀ b, C b ≠ 0 → b < w.heap.size ∧ C' b = D b ∧ D b ≠ 0 := fun b hb => by
  have h1 := hF b hb
  refine ⟨h1, hs.col b h1, ?_⟩
  have : Mc D b := by rw [hD]; exact hb
  exact this
theorem RV.out (h : RV w' (Mc C') x v) (hs : Stp I w D w' C') (hF : Lim w C) (hD : Mc D = Mc C) : RV w' (Mc C) x v :=
  h.sub (fun b _ hb => by obtain ⟨h1, h2, h3⟩ := hs.fin_sub hF hD b hb; unfold Mc; rw [h2]; exact h3)
/-- A list of the function's own, handed out to be read. -/
theorem OwnL.out (h : OwnL w' C' j e v ys) (hs : Stp I w D w' C') (hF : Lim w C) (hD : Mc D = Mc C) (hj : ∀ b, b < w.heap.size → D b ≠ j) (hl : ys.length ≤ 9223372036854775807) : RV w' (Mc C) ys v :=
  h.own.read (fun b _ hb => by
    obtain ⟨h1, h2, h3⟩ := hs.fin_sub hF hD b hb
    exact ⟨by unfold Mc; rw [h2]; exact h3, fun ho => hj b h1 (by rw [← h2]; exact h.col b ho)⟩) hl
theorem col1_lt (C : Nat → Nat) {j : Nat} (hj : 2 ≤ j) (b : Nat) : col1 C b ≠ j := by unfold col1; split <;> omega
theorem col2_lt (C : Nat → Nat) (i : Nat) {j : Nat} (hj : 3 ≤ j) (b : Nat) : col2 C i b ≠ j := by unfold col2; split <;> (try split) <;> omega

theorem RA.stay (h : RA w (Mc C) x b o) (hS : Ext (fun b => C b ∈ I) w w') (h0 : 0 ∉ I) : w'.heap[b]? = w.heap[b]? := by
  obtain ⟨hb, cs, ty, fz, hc, _⟩ := h
  exact hS.block b (lt_of_at hc) (fun hm => hb (fun e => h0 (by rw [e] at hm; exact hm)))
theorem OwnB.stay (h : OwnB w C j b ob) (hS : Ext (fun b => C b ∈ I) w w') (hj : j ∉ I) : w'.heap[b]? = some ob :=
  hS.at' h.at_ (by rw [h.col]; exact hj)
theorem OwnL.lenV (h : OwnL w C j e v ys) (hy : ev env y = some v) {d : TypeId} (ht : P.underlying t = some (.slice d)) :
    ∀ w', Val P N env (.call { callee := .builtin .len, args := #[y], argTypes := #[t] }) w' (.int .i64 ys.length) := fun w' => by
  obtain ⟨a, c, rfl⟩ := h.own.len
  exact val_len_slice hy ht
end

section
variable {P : Program} {f : FuncId} {N : Nat} {k : List Item} {env : Env} {w : World} {R : Value → World → Prop}
/-- A region that draws its order: `I`: the colours that its operations may write. -/
theorem run_draw {c : Code} {id : Nat} {ops : Array Oper} (I : List Nat) (C : Nat → Nat) (L : List (Nat × Bool)) (hm : P.follows .mixedOrders = true) (hc : c = .region id ops true)
    (hn : Region.noSelect ops = true) (hk : chk ops ops.size (Array.replicate ops.size false) L = true)
    (h : ∀ w₁, Stp [] w C w₁ C → Sch P f N k R ops (fun w' => Ext (fun b => C b ∈ I) w₁ w') L env w₁) : Run P f N (.code c :: k) env w R :=
  run_drawn _ L hm hc hn hk (Ext.refl _ _) (h _ (Stp.drew [] w C))
/-- The same where, behind `A`, one of two operations may come up. -/
theorem run_draw2 {c : Code} {id : Nat} {ops : Array Oper} (I : List Nat) (C : Nat → Nat) (A : List Nat) (i : Nat) (L : List (Nat × Bool)) (i' : Nat) (L' : List (Nat × Bool)) (hm : P.follows .mixedOrders = true) (hc : c = .region id ops true)
    (hn : Region.noSelect ops = true) (hk : chk2 ops i L i' L' ops.size (Array.replicate ops.size false) A = true)
    (h : ∀ w₁, Stp [] w C w₁ C → Sch P f N k R ops (fun w' => Ext (fun b => C b ∈ I) w₁ w') (A.map (fun j => (j, true)) ++ (i, false) :: L) env w₁)
    (h' : ∀ w₁, Stp [] w C w₁ C → Sch P f N k R ops (fun w' => Ext (fun b => C b ∈ I) w₁ w') (A.map (fun j => (j, true)) ++ (i', false) :: L') env w₁) : Run P f N (.code c :: k) env w R :=
  run_drawn2 _ A i L i' L' hm hc hn hk (Ext.refl _ _) (h _ (Stp.drew [] w C)) (h' _ (Stp.drew [] w C))
end

section
variable {α : Type} [Rep α] {P : Program} {f : FuncId} {N : Nat} {k : List Item} {env : Env} {w : World} {R : Value → World → Prop}
variable {ops : Array Oper} {S : World → Prop} {i t : Nat} {L : List (Nat × Bool)} {v : Value} {y z : Operand} {g : Option (Nat × Bool)} {ty e : TypeId} {M : Nat → Prop} {x : α} {xs : List α} {b o : Nat} {kd : IntKind} {n : Int}

/-- The address of an element. -/
theorem iS {w1 : World} (hop : opAt ops i = some (some t, .indexAddr ty y z, g)) (hw : wantedE ops env g = some true) (ht : Nat.blt t N = true) (hl : RV w1 M xs v) (hy : ev env y = some v)
    (hf : elemB P ty = some (e, sz α)) (hz : ev env z = some (.int kd n)) (h0 : 0 ≤ n) (h1 : n < xs.length)
    (h : ∀ b o, RA w1 M (xs[n.toNat]'(by omega)) b o → Sch P f N k R ops S L ((t, .pointer (some ⟨b, o, none⟩)) :: env) w) : Sch P f N k R ops S ((i, true) :: L) env w := by
  obtain ⟨b, o, h2, h3⟩ := hl.index (P := P) (N := N) hy hf hz h0 h1
  exact yS hop hw ht (fun w' _ => h3 w') (h b o h2)
/-- A load of a scalar. -/
theorem lN (hop : opAt ops i = some (some t, .load ty y, g)) (hw : wantedE ops env g = some true) (ht : Nat.blt t N = true) (hS : S w) (hr : RA w M x b o) (ha : aggB P ty = some false) (hx : Rep.agg α = false)
    (hy : ev env y = some (.pointer (some ⟨b, o, none⟩))) (h : ∀ v, RV w M x v → Sch P f N k R ops S L ((t, v) :: env) w) : Sch P f N k R ops S ((i, false) :: L) env w := by
  obtain ⟨v, h2, h3⟩ := hr.load (P := P) (N := N) ha hx hy
  exact nS hop hw ht hS (h3 w rfl) (h v h2)
theorem lS {w1 : World} (hop : opAt ops i = some (some t, .load ty y, g)) (hw : wantedE ops env g = some true) (ht : Nat.blt t N = true) (hst : ∀ w', S w' → w'.heap[b]? = w1.heap[b]?) (hr : RA w1 M x b o) (ha : aggB P ty = some false) (hx : Rep.agg α = false)
    (hy : ev env y = some (.pointer (some ⟨b, o, none⟩))) (h : ∀ v, RV w1 M x v → Sch P f N k R ops S L ((t, v) :: env) w) : Sch P f N k R ops S ((i, true) :: L) env w := by
  obtain ⟨v, h2, h3⟩ := hr.load (P := P) (N := N) ha hx hy
  exact yS hop hw ht (fun w' hS => h3 w' (hst w' hS)) (h v h2)
/-- A load of a struct. -/
theorem lNA (hop : opAt ops i = some (some t, .load ty y, g)) (hw : wantedE ops env g = some true) (ht : Nat.blt t N = true) (hS : S w) (hr : RA w M x b o) (ha : aggB P ty = some true) (hs : szB P ty = some (sz α)) (hx : Rep.agg α = true)
    (hy : ev env y = some (.pointer (some ⟨b, o, none⟩))) (h : ∀ v, RV w M x v → Sch P f N k R ops S L ((t, v) :: env) w) : Sch P f N k R ops S ((i, false) :: L) env w := by
  obtain ⟨v, h2, h3⟩ := hr.loadAgg (P := P) (N := N) ha hs hx hy
  exact nS hop hw ht hS (h3 w rfl) (h v h2)
theorem lSA {w1 : World} (hop : opAt ops i = some (some t, .load ty y, g)) (hw : wantedE ops env g = some true) (ht : Nat.blt t N = true) (hst : ∀ w', S w' → w'.heap[b]? = w1.heap[b]?) (hr : RA w1 M x b o) (ha : aggB P ty = some true) (hs : szB P ty = some (sz α)) (hx : Rep.agg α = true)
    (hy : ev env y = some (.pointer (some ⟨b, o, none⟩))) (h : ∀ v, RV w1 M x v → Sch P f N k R ops S L ((t, v) :: env) w) : Sch P f N k R ops S ((i, true) :: L) env w := by
  obtain ⟨v, h2, h3⟩ := hr.loadAgg (P := P) (N := N) ha hs hx hy
  exact yS hop hw ht (fun w' hS => h3 w' (hst w' hS)) (h v h2)
end

/-! ### What was written is from now on only read -/
/-- Blocks of the colours from `n` on are written no more. -/
def frz (n : Nat) (C : Nat → Nat) : Nat → Nat := fun b => if n ≤ C b then 0 else C b
section
variable {α : Type} [Rep α] {w w' w₀ : World} {I : List Nat} {C C' C₀ : Nat → Nat} {x : α} {ys : List α} {v : Value} {b o j n : Nat} {ob : Obj} {e : TypeId}
theorem Mc_frz (h : Mc (frz n C) b) : Mc C b ∧ C b < n := by
  unfold Mc frz at *
  split at h
  · exact absurd rfl h
  · exact ⟨h, by omega⟩
theorem Lim.frz (h : Lim w C) (n : Nat) : Lim w (frz n C) := fun b hb => h b (Mc_frz hb).1
theorem RV.frz (h : RV w (Mc C) x v) (n : Nat) : RV w (Mc (K.frz n C)) x v := h.sub (fun b _ hb => (Mc_frz hb).1)
theorem RA.frz (h : RA w (Mc C) x b o) (n : Nat) : RA w (Mc (K.frz n C)) x b o := h.sub (fun b _ hb => (Mc_frz hb).1)
theorem OwnL.frz (h : OwnL w C j e v ys) (hj : n ≤ j) (hl : ys.length ≤ 9223372036854775807) : RV w (Mc (K.frz n C)) ys v :=
  h.own.read (fun b _ hb => ⟨(Mc_frz hb).1, fun ho => by have := (Mc_frz hb).2; rw [h.col b ho] at this; omega⟩) hl
theorem OwnL.frzK (h : OwnL w C j e v ys) (hj : j < n) : OwnL w (K.frz n C) j e v ys :=
  ⟨h.own.sub (fun b _ hb => (Mc_frz hb).1) (fun b hb => by unfold Mc K.frz; rw [h.col b hb, if_neg (by omega)]; have := (h.own.ob b hb).1; unfold Mc at this; rw [h.col b hb] at this; exact this),
   fun b hb => by unfold K.frz; rw [h.col b hb, if_neg (by omega)]⟩
theorem OwnB.frz (h : OwnB w C j b ob) (hj : j < n) : OwnB w (K.frz n C) j b ob := ⟨by unfold K.frz; rw [h.col, if_neg (by omega)], h.at_⟩
theorem OwnB.frzM (h : OwnB w C j b ob) (hj : n ≤ j) : ¬ Mc (K.frz n C) b := fun hm => by have := (Mc_frz hm).2; rw [h.col] at this; omega
theorem Stp.frz (h : Stp I w₀ C₀ w C) (h0 : ∀ b, C₀ b < n) : Stp I w₀ C₀ w (K.frz n C) :=
  ⟨h.ext, fun b hb => by unfold K.frz; rw [h.col b hb, if_neg (by have := h0 b; omega)]⟩
theorem col2_lt3 (C : Nat → Nat) (i b : Nat) : col2 C i b < 3 := by unfold col2; split <;> (try split) <;> omega
theorem col1_lt2 (C : Nat → Nat) (b : Nat) : col1 C b < 2 := by unfold col1; split <;> omega
theorem OwnL.one (h : OwnL w C j e v ys) : v.cells = #[v] ∧ v.oneCell' = true := by
  obtain ⟨a, c, rfl⟩ := h.own.len; exact ⟨rfl, rfl⟩
theorem cells2 {cs : Array Value} {o : Nat} {a c : Value} (h1 : cs[o]? = some a) (h2 : cs[o + 1]? = some c) : cellsAt cs o 2 = [a, c] := by
  apply List.ext_getElem?
  intro j
  simp only [cellsAt, List.getElem?_take, List.getElem?_drop]
  match j with
  | 0 => simpa using h1
  | 1 => simpa using h2
  | j + 2 => simp; omega
end

/-! ### A test in a region of its own: the ways meet again behind it -/
theorem sub_skip {env env' : Env} {t : Nat} {v : Value} (h : look env t = none) (hs : Sub env env') : Sub env ((t, v) :: env') := fun s x hx => by
  simp only [look]
  cases hb : Nat.beq t s with
  | true => rw [Nat.eq_of_beq_eq_true hb, hx] at h; cases h
  | false => exact hs s x hx
section
variable {P : Program} {f : FuncId} {N : Nat} {k : List Item} {env : Env} {w : World} {R : Value → World → Prop} {p : Prop} [Decidable p] {op : Op}
theorem run_cut (t : Nat) (b : Bool) (C : Nat → Nat) {c : Code}
    (hreg : (∀ w' env' v, Stp [] w C w' C → look env' t = some v → v = .bool b → Sub env env' → Run P f N k env' w' R) → Run P f N (.code c :: k) env w R)
    (hcont : ∀ w', Stp [] w C w' C → Run P f N k ((t, .bool b) :: env) w' R) : Run P f N (.code c :: k) env w R :=
  hreg fun w' env' v hs hl hv hsub => (hcont w' hs).sub fun s x hx => by
    simp only [look] at hx
    cases hb : Nat.beq t s with
    | true =>
      rw [hb] at hx
      simp only [cond_true, Option.some.injEq] at hx
      rw [← Nat.eq_of_beq_eq_true hb, hl, hv, hx]
    | false => rw [hb] at hx; exact hsub s x hx
theorem val_is {v v' : Value} (h : Val P N env op w v) (e : v = v') : Val P N env op w v' := e ▸ h
theorem val_T (h : Val P N env op w (.bool (decide p))) (hp : p) : Val P N env op w (.bool true) := by rwa [decide_eq_true hp] at h
theorem val_F (h : Val P N env op w (.bool (decide p))) (hp : ¬ p) : Val P N env op w (.bool false) := by rwa [decide_eq_false hp] at h
end
end Go.K
