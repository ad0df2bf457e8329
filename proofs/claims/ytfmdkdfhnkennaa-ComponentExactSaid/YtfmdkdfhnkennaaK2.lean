/- What each operation yields: the ones that only compute. -/
import Derived.Test.YtfmdkdfhnkennaaK1
set_option linter.unusedVariables false
set_option linter.unusedSimpArgs false
namespace Go.K

section
variable {P : Program} {N : Nat} {env : Env} {w : World} {x y z : Operand} {t u : TypeId} {k : IntKind} {m n : Int} {v : Value}

theorem mk' {op : Op} (h : ∀ ρ : Operand → Value, (∀ x v, ev env x = some v → ρ x = v) → ∀ o : Oper, o.op = op → (execOp ρ o).run P w = .ok (.value v) w) : Val P N env op w v :=
  fun a ha o ho => h a.eval (fun x v hx => ha.ev hx) o ho

theorem val_move (hx : ev env x = some v) : Val P N env (.move x) w v := mk' fun ρ hρ o ho => by
  unfold execOp; rw [ho]; simp [hρ _ _ hx, go_sem]
theorem val_assign (hx : ev env x = some v) : Val P N env (.assign x) w v := mk' fun ρ hρ o ho => by
  unfold execOp; rw [ho]; simp [hρ _ _ hx, go_sem]
theorem val_pick {b : Bool} {v₁ v₂ : Value} (hx : ev env x = some (.bool b)) (hy : ev env y = some v₁) (hz : ev env z = some v₂) :
    Val P N env (.pick x y z) w (if b then v₁ else v₂) := mk' fun ρ hρ o ho => by
  unfold execOp; rw [ho]; simp [hρ _ _ hx, hρ _ _ hy, hρ _ _ hz, go_sem, asBool]
/-- 'a && b', 'a || b': where the guarded part was not reached its slot holds what it held: it is not looked at. -/
theorem val_pick_t {v₁ : Value} (hx : ev env x = some (.bool true)) (hy : ev env y = some v₁) :
    Val P N env (.pick x y z) w v₁ := mk' fun ρ hρ o ho => by
  unfold execOp; rw [ho]; simp [hρ _ _ hx, hρ _ _ hy, go_sem, asBool]
theorem val_pick_f {v₂ : Value} (hx : ev env x = some (.bool false)) (hz : ev env z = some v₂) :
    Val P N env (.pick x y z) w v₂ := mk' fun ρ hρ o ho => by
  unfold execOp; rw [ho]; simp [hρ _ _ hx, hρ _ _ hz, go_sem, asBool]
theorem val_nilCheck {a : Addr} (hx : ev env x = some (.pointer (some a))) : Val P N env (.nilCheck x) w (.pointer (some a)) := mk' fun ρ hρ o ho => by
  unfold execOp; rw [ho]; simp [hρ _ _ hx, go_sem]
theorem val_extract {vs : Array Value} {i : Nat} (hx : ev env x = some (.tuple vs)) (hv : vs[i]? = some v) : Val P N env (.extract x i) w v := mk' fun ρ hρ o ho => by
  unfold execOp; rw [ho]; simp [hρ _ _ hx, go_sem, Instr.extract, hv]

theorem run_eqGuard_int (op : BinOp) (t : TypeId) (x y : Operand) (k j : IntKind) (m n : Int) (w : World) :
    (eqGuard op t x y (.int k m) (.int j n)).run P w = .ok () w := by
  unfold eqGuard; simp [go_sem]

theorem val_add (hx : ev env x = some (.int k m)) (hy : ev env y = some (.int k n)) : Val P N env (.binOp .add t x y u) w (.int k (k.wrap (m + n))) := mk' fun ρ hρ o ho => by
  unfold execOp; rw [ho]; simp [hρ _ _ hx, hρ _ _ hy, go_sem, run_eqGuard_int, binOp, Op.intArith]
theorem val_sub (hx : ev env x = some (.int k m)) (hy : ev env y = some (.int k n)) : Val P N env (.binOp .sub t x y u) w (.int k (k.wrap (m - n))) := mk' fun ρ hρ o ho => by
  unfold execOp; rw [ho]; simp [hρ _ _ hx, hρ _ _ hy, go_sem, run_eqGuard_int, binOp, Op.intArith]
theorem val_mul (hx : ev env x = some (.int k m)) (hy : ev env y = some (.int k n)) : Val P N env (.binOp .mul t x y u) w (.int k (k.wrap (m * n))) := mk' fun ρ hρ o ho => by
  unfold execOp; rw [ho]; simp [hρ _ _ hx, hρ _ _ hy, go_sem, run_eqGuard_int, binOp, Op.intArith]
theorem val_quo (hx : ev env x = some (.int k m)) (hy : ev env y = some (.int k n)) (hn : n ≠ 0) : Val P N env (.binOp .quo t x y u) w (.int k (k.wrap (m.tdiv n))) := mk' fun ρ hρ o ho => by
  unfold execOp; rw [ho]; simp [hρ _ _ hx, hρ _ _ hy, go_sem, run_eqGuard_int, binOp, Op.intDiv, hn]
theorem val_rem (hx : ev env x = some (.int k m)) (hy : ev env y = some (.int k n)) (hn : n ≠ 0) : Val P N env (.binOp .rem t x y u) w (.int k (m.tmod n)) := mk' fun ρ hρ o ho => by
  unfold execOp; rw [ho]; simp [hρ _ _ hx, hρ _ _ hy, go_sem, run_eqGuard_int, binOp, Op.intDiv, hn]
theorem val_lss (hx : ev env x = some (.int k m)) (hy : ev env y = some (.int k n)) : Val P N env (.binOp .lss t x y u) w (.bool (decide (m < n))) := mk' fun ρ hρ o ho => by
  unfold execOp; rw [ho]; simp [hρ _ _ hx, hρ _ _ hy, go_sem, run_eqGuard_int, binOp, Op.intCmp]
theorem val_leq (hx : ev env x = some (.int k m)) (hy : ev env y = some (.int k n)) : Val P N env (.binOp .leq t x y u) w (.bool (decide (m ≤ n))) := mk' fun ρ hρ o ho => by
  unfold execOp; rw [ho]; simp [hρ _ _ hx, hρ _ _ hy, go_sem, run_eqGuard_int, binOp, Op.intCmp]
theorem val_gtr (hx : ev env x = some (.int k m)) (hy : ev env y = some (.int k n)) : Val P N env (.binOp .gtr t x y u) w (.bool (decide (n < m))) := mk' fun ρ hρ o ho => by
  unfold execOp; rw [ho]; simp [hρ _ _ hx, hρ _ _ hy, go_sem, run_eqGuard_int, binOp, Op.intCmp]
theorem val_geq (hx : ev env x = some (.int k m)) (hy : ev env y = some (.int k n)) : Val P N env (.binOp .geq t x y u) w (.bool (decide (n ≤ m))) := mk' fun ρ hρ o ho => by
  unfold execOp; rw [ho]; simp [hρ _ _ hx, hρ _ _ hy, go_sem, run_eqGuard_int, binOp, Op.intCmp]
theorem val_eql (hx : ev env x = some (.int k m)) (hy : ev env y = some (.int k n)) : Val P N env (.binOp .eql t x y u) w (.bool (decide (m = n))) := mk' fun ρ hρ o ho => by
  unfold execOp; rw [ho]; simp [hρ _ _ hx, hρ _ _ hy, go_sem, run_eqGuard_int, binOp, Op.intCmp]; rfl
theorem val_neq (hx : ev env x = some (.int k m)) (hy : ev env y = some (.int k n)) : Val P N env (.binOp .neq t x y u) w (.bool (decide (m ≠ n))) := mk' fun ρ hρ o ho => by
  unfold execOp; rw [ho]; simp [hρ _ _ hx, hρ _ _ hy, go_sem, run_eqGuard_int, binOp, Op.intCmp]
  by_cases h : m = n <;> simp [h]
def bitsOf (op : BinOp) (k : IntKind) (m n : Int) : Int :=
  k.wrap ((match op with
    | .and => BitVec.ofInt k.bits m &&& BitVec.ofInt k.bits n
    | .or => BitVec.ofInt k.bits m ||| BitVec.ofInt k.bits n
    | .xor => BitVec.ofInt k.bits m ^^^ BitVec.ofInt k.bits n
    | _ => BitVec.ofInt k.bits m &&& ~~~(BitVec.ofInt k.bits n) : BitVec k.bits).toNat)
theorem val_and (hx : ev env x = some (.int k m)) (hy : ev env y = some (.int k n)) : Val P N env (.binOp .and t x y u) w (.int k (bitsOf .and k m n)) := mk' fun ρ hρ o ho => by
  unfold execOp; rw [ho]; simp [hρ _ _ hx, hρ _ _ hy, Sem.run_bind, Sem.run_pure, run_eqGuard_int, binOp, Op.intBits, bitsOf]
theorem val_or (hx : ev env x = some (.int k m)) (hy : ev env y = some (.int k n)) : Val P N env (.binOp .or t x y u) w (.int k (bitsOf .or k m n)) := mk' fun ρ hρ o ho => by
  unfold execOp; rw [ho]; simp [hρ _ _ hx, hρ _ _ hy, Sem.run_bind, Sem.run_pure, run_eqGuard_int, binOp, Op.intBits, bitsOf]
theorem val_xor (hx : ev env x = some (.int k m)) (hy : ev env y = some (.int k n)) : Val P N env (.binOp .xor t x y u) w (.int k (bitsOf .xor k m n)) := mk' fun ρ hρ o ho => by
  unfold execOp; rw [ho]; simp [hρ _ _ hx, hρ _ _ hy, Sem.run_bind, Sem.run_pure, run_eqGuard_int, binOp, Op.intBits, bitsOf]
theorem val_andNot (hx : ev env x = some (.int k m)) (hy : ev env y = some (.int k n)) : Val P N env (.binOp .andNot t x y u) w (.int k (bitsOf .andNot k m n)) := mk' fun ρ hρ o ho => by
  unfold execOp; rw [ho]; simp [hρ _ _ hx, hρ _ _ hy, Sem.run_bind, Sem.run_pure, run_eqGuard_int, binOp, Op.intBits, bitsOf]
theorem val_shl {j : IntKind} (hx : ev env x = some (.int k m)) (hy : ev env y = some (.int j n)) (hn : 0 ≤ n) :
    Val P N env (.binOp .shl t x y u) w (.int k (k.wrap (m * 2 ^ min n.toNat k.bits))) := mk' fun ρ hρ o ho => by
  have : ¬ n < 0 := by omega
  unfold execOp; rw [ho]; simp [hρ _ _ hx, hρ _ _ hy, Sem.run_bind, Sem.run_pure, run_eqGuard_int, binOp, Op.shift, this]
theorem val_shr {j : IntKind} (hx : ev env x = some (.int k m)) (hy : ev env y = some (.int j n)) (hn : 0 ≤ n) :
    Val P N env (.binOp .shr t x y u) w (.int k (m.fdiv (2 ^ min n.toNat k.bits))) := mk' fun ρ hρ o ho => by
  have : ¬ n < 0 := by omega
  unfold execOp; rw [ho]; simp [hρ _ _ hx, hρ _ _ hy, Sem.run_bind, Sem.run_pure, run_eqGuard_int, binOp, Op.shift, this]
theorem val_not {b : Bool} (hx : ev env x = some (.bool b)) : Val P N env (.unOp .not t x) w (.bool (!b)) := mk' fun ρ hρ o ho => by
  unfold execOp; rw [ho]; simp [hρ _ _ hx, go_sem, Op.unary]
theorem val_notd {p : Prop} [Decidable p] (hx : ev env x = some (.bool (decide p))) : Val P N env (.unOp .not t x) w (.bool (decide (¬ p))) := mk' fun ρ hρ o ho => by
  unfold execOp; rw [ho]; simp [hρ _ _ hx, go_sem, Op.unary]
theorem val_neg (hx : ev env x = some (.int k m)) : Val P N env (.unOp .neg t x) w (.int k (k.wrap (0 - m))) := mk' fun ρ hρ o ho => by
  unfold execOp; rw [ho]; simp [hρ _ _ hx, go_sem, Op.unary, Op.intArith]
theorem val_conv_int {j : IntKind} (hx : ev env x = some (.int j m)) (ht : ∃ d, P.underlying t = some d) (hu : P.underlying u = some (.int k)) : Val P N env (.convert t u x) w (.int k (k.wrap m)) := mk' fun ρ hρ o ho => by
  obtain ⟨d, hd⟩ := ht
  unfold execOp; rw [ho]; simp [hρ _ _ hx, go_sem, convert, run_underlying hd, run_underlying hu, Conv.intToInt]

theorem val_len_slice {b : Option Addr} {c l : Nat} {e : TypeId} (hx : ev env x = some (.slice b l c)) (ht : P.underlying t = some (.slice e)) :
    Val P N env (.call { callee := .builtin .len, args := #[x], argTypes := #[t] }) w (.int .i64 l) := mk' fun ρ hρ o ho => by
  unfold execOp; rw [ho]; simp [hρ _ _ hx, go_sem, resolve, invoke, builtin, Builtin.len_, run_underlying ht, goInt]
theorem val_len_string {s : ByteArray} (hx : ev env x = some (.string s)) (ht : P.underlying t = some .string) :
    Val P N env (.call { callee := .builtin .len, args := #[x], argTypes := #[t] }) w (.int .i64 s.size) := mk' fun ρ hρ o ho => by
  unfold execOp; rw [ho]; simp [hρ _ _ hx, go_sem, resolve, invoke, builtin, Builtin.len_, run_underlying ht, goInt]

theorem enters_func {g : FuncId} {xs : Array Operand} {ts : Array TypeId} {vs : List Value} {cap : Array Value} {w : World}
    (hcall : ∀ args w, (callFunc g args).run P w = .ok (.enter g args) w) (hx : ev env x = some (.func (.func g) #[] cap)) (hargs : evs env xs.toList = some vs) :
    Enters P N env (.call { callee := .value x, args := xs, argTypes := ts }) w g (vs ++ cap.toList).toArray := fun a ha o ho => by
  have h1 : xs.map a.eval = vs.toArray := by
    rw [← ha.evs hargs, ← List.map_toArray]
  unfold execOp; rw [ho]
  simp only [resolve, Deferred.ofValue, ha.ev hx, h1, Sem.run_bind, Sem.run_pure, Result.andThen_ok, invoke]
  rw [hcall]
  simp
end

/-- An int that fits is what it is. -/
theorem wrap_i64 {n : Int} (h1 : -9223372036854775808 ≤ n) (h2 : n ≤ 9223372036854775807) : IntKind.i64.wrap n = n := IntWalk.i64_in n ⟨h1, h2⟩
theorem wrap_u64 {n : Int} (h1 : 0 ≤ n) (h2 : n ≤ 18446744073709551615) : IntKind.u64.wrap n = n := by
  have h : IntKind.u64.wrap n = n % 18446744073709551616 := by simp [IntKind.wrap, IntKind.signed, IntKind.bits]
  rw [h]; exact Int.emod_eq_of_lt h1 (by omega)
theorem eq_int {k : IntKind} {a b : Int} (h : a = b) : Value.int k a = Value.int k b := by rw [h]
theorem eq_bool {a b : Bool} (h : a = b) : Value.bool a = Value.bool b := by rw [h]

section
variable {P : Program} {N : Nat} {env : Env} {w : World} {x y : Operand} {t u : TypeId} {m n : Int}
theorem val_addi (hx : ev env x = some (.int .i64 m)) (hy : ev env y = some (.int .i64 n)) (h1 : -9223372036854775808 ≤ m + n) (h2 : m + n ≤ 9223372036854775807) :
    Val P N env (.binOp .add t x y u) w (.int .i64 (m + n)) := by
  have := val_add (P := P) (N := N) (w := w) (t := t) (u := u) hx hy; rwa [wrap_i64 h1 h2] at this
theorem val_subi (hx : ev env x = some (.int .i64 m)) (hy : ev env y = some (.int .i64 n)) (h1 : -9223372036854775808 ≤ m - n) (h2 : m - n ≤ 9223372036854775807) :
    Val P N env (.binOp .sub t x y u) w (.int .i64 (m - n)) := by
  have := val_sub (P := P) (N := N) (w := w) (t := t) (u := u) hx hy; rwa [wrap_i64 h1 h2] at this
theorem val_muli (hx : ev env x = some (.int .i64 m)) (hy : ev env y = some (.int .i64 n)) (h1 : -9223372036854775808 ≤ m * n) (h2 : m * n ≤ 9223372036854775807) :
    Val P N env (.binOp .mul t x y u) w (.int .i64 (m * n)) := by
  have := val_mul (P := P) (N := N) (w := w) (t := t) (u := u) hx hy; rwa [wrap_i64 h1 h2] at this
/-- '/' and '%' where both sides are not negative. -/
theorem val_divi (hx : ev env x = some (.int .i64 m)) (hy : ev env y = some (.int .i64 n)) (h0 : 0 ≤ m) (h1 : 1 ≤ n) (h2 : m ≤ 9223372036854775807) :
    Val P N env (.binOp .quo t x y u) w (.int .i64 (m / n)) := by
  have := val_quo (P := P) (N := N) (w := w) (t := t) (u := u) hx hy (by omega)
  have h3 : m / n ≤ m := Int.ediv_le_self _ h0
  have h4 : 0 ≤ m / n := Int.ediv_nonneg h0 (by omega)
  rwa [Int.tdiv_eq_ediv_of_nonneg h0, wrap_i64 (by omega) (by omega)] at this
theorem val_modi (hx : ev env x = some (.int .i64 m)) (hy : ev env y = some (.int .i64 n)) (h0 : 0 ≤ m) (h1 : 1 ≤ n) :
    Val P N env (.binOp .rem t x y u) w (.int .i64 (m % n)) := by
  have := val_rem (P := P) (N := N) (w := w) (t := t) (u := u) hx hy (by omega)
  rwa [Int.tmod_eq_emod_of_nonneg h0] at this
end


section
variable {P : Program} {N : Nat} {env : Env} {w : World} {x y : Operand} {t u : TypeId} {m n r : Int} {k j : IntKind}
theorem val_shrE (hx : ev env x = some (.int k m)) (hy : ev env y = some (.int j n)) (hn : 0 ≤ n) (h : m.fdiv (2 ^ min n.toNat k.bits) = r) : Val P N env (.binOp .shr t x y u) w (.int k r) := by
  subst h; exact val_shr hx hy hn
theorem val_shlE (hx : ev env x = some (.int k m)) (hy : ev env y = some (.int j n)) (hn : 0 ≤ n) (h : k.wrap (m * 2 ^ min n.toNat k.bits) = r) : Val P N env (.binOp .shl t x y u) w (.int k r) := by
  subst h; exact val_shl hx hy hn
theorem val_convE (hx : ev env x = some (.int j m)) (ht : ∃ d, P.underlying t = some d) (hu : P.underlying u = some (.int k)) (h : k.wrap m = r) : Val P N env (.convert t u x) w (.int k r) := by
  subst h; exact val_conv_int hx ht hu
theorem val_andE (hx : ev env x = some (.int k m)) (hy : ev env y = some (.int k n)) (h : bitsOf .and k m n = r) : Val P N env (.binOp .and t x y u) w (.int k r) := by
  subst h; exact val_and hx hy
theorem val_orE (hx : ev env x = some (.int k m)) (hy : ev env y = some (.int k n)) (h : bitsOf .or k m n = r) : Val P N env (.binOp .or t x y u) w (.int k r) := by
  subst h; exact val_or hx hy
end

end Go.K
