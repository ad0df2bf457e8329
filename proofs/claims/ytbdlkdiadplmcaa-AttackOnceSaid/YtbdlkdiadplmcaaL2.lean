/- Texts are compared. -/
import Derived.Test.YtbdlkdiadplmcaaL1
import Derived.WideShapes
import Derived.Laws.Strings
import Derived.WalkKit
import Derived.ProofKit
import Derived.OpenShut
import Derived.ChangeSlices
import Derived.Below
import Derived.Carry
import Derived.Deep.Slices
import Derived.ChangeArms
set_option linter.unusedVariables false
set_option linter.unusedSimpArgs false
namespace Go.K
open Rep
theorem toList_data (a : ByteArray) : a.toList = a.data.toList := by
  have key : ∀ (n i : Nat) (r : List UInt8), a.size - i = n → ByteArray.toList.loop a i r = r.reverse ++ a.data.toList.drop i := by
    intro n
    induction n with
    | zero =>
      intro i r h
      rw [ByteArray.toList.loop, if_neg (by omega), List.drop_eq_nil_of_le (by rw [Array.length_toList]; show a.size ≤ i; omega), List.append_nil]
    | succ n ih =>
      intro i r h
      have hi : i < a.data.toList.length := by rw [Array.length_toList]; show i < a.size; omega
      rw [ByteArray.toList.loop, if_pos (by omega), ih (i + 1) _ (by omega), List.drop_eq_getElem_cons hi, List.reverse_cons, List.append_assoc]
      congr 1
      show [a.get! i] ++ _ = _
      rw [List.singleton_append]
      congr 1
      rw [ByteArray.get!, getElem!_pos a.data i (by simpa using hi)]
      simp
  have := key a.size 0 [] (by omega)
  simpa [ByteArray.toList] using this
theorem str_eq (a b : ByteArray) : (a.toList == b.toList) = decide (a = b) := by
  rw [Bool.eq_iff_iff]
  simp only [beq_iff_eq, decide_eq_true_eq]
  constructor
  · intro h
    have h2 : a.data.toList = b.data.toList := by rw [← toList_data, ← toList_data, h]
    cases a; cases b
    simp only at h2
    have := Array.ext' h2
    rw [this]
  · rintro rfl; rfl
def strLt (a b : ByteArray) : Bool := Op.bytesLess a.toList b.toList
section
variable {P : Program} {N : Nat} {env : Env} {w : World} {x y : Operand} {t u : TypeId} {a b : ByteArray}
theorem val_strEql (hx : ev env x = some (.string a)) (hy : ev env y = some (.string b)) (ht : P.underlying t = some .string) : Val P N env (.binOp .eql t x y u) w (.bool (decide (a = b))) := mk' fun ρ hρ o ho => by
  unfold execOp; rw [ho]
  simp [hρ _ _ hx, hρ _ _ hy, go_sem, eqGuard, str_eq]
theorem val_strGeq (hx : ev env x = some (.string a)) (hy : ev env y = some (.string b)) : Val P N env (.binOp .geq t x y u) w (.bool (!strLt a b)) := mk' fun ρ hρ o ho => by
  unfold execOp; rw [ho]
  simp [hρ _ _ hx, hρ _ _ hy, go_sem, eqGuard, binOp, Op.stringOp, strLt]
end
end Go.K

/- Ranks, dictionaries and hits, step by step. Plain Lean. -/
set_option linter.unusedVariables false
set_option linter.unusedSimpArgs false
namespace Go.K
open Rep
theorem cnt_take {α : Type} {l : List α} {k : Nat} (h : k < l.length) (p : α → Bool) : (((l.take (k + 1)).countP p : Nat) : Int) = (((l.take k).countP p : Nat) : Int) + if p l[k] then 1 else 0 := by
  rw [List.take_succ_eq_append_getElem h, List.countP_append, List.countP_cons, List.countP_nil]
  split <;> simp
theorem cnt_le {α : Type} {l : List α} {k : Nat} (p : α → Bool) : (l.take k).countP p ≤ k := Nat.le_trans List.countP_le_length (by rw [List.length_take]; omega)
theorem rank_all (l : List Int) (i : Nat) : (((l.take l.length).countP fun x => decide (gAt l i < x) : Nat) : Int) = (rankS l i : Int) := by rw [List.take_length]; rfl
theorem sing_all (l : List Int) (i : Nat) : decide ((((l.take l.length).countP fun x => decide (x = gAt l i) : Nat) : Int) = 1) = singS l i := by
  rw [List.take_length]; unfold singS; apply decide_eq_decide.2; omega
/-- A dictionary is valid. -/
structure DictOK (es : List Ent) : Prop where
  len : es.length ≤ 64
  asc : ∀ i (h : i + 1 < es.length), strLt es[i].val es[i + 1].val = true
  cnt : ∀ x ∈ es, 1 ≤ x.cnt ∧ x.cnt ≤ 1048576
theorem sizesS_take {gs : List Grp} {k : Nat} (h : k < gs.length) : sizesS (gs.take (k + 1)) = sizesS (gs.take k) ++ [(gs[k].mem.length : Int)] := by
  unfold sizesS; rw [List.take_succ_eq_append_getElem h, List.map_append]; rfl
theorem sizesS_len (gs : List Grp) : (sizesS gs).length = gs.length := by simp [sizesS]
theorem cntsS_take {es : List Ent} {k : Nat} (h : k < es.length) : cntsS (es.take (k + 1)) = cntsS (es.take k) ++ [es[k].cnt] := by
  unfold cntsS; rw [List.take_succ_eq_append_getElem h, List.map_append]; rfl
theorem cntsS_len (es : List Ent) : (cntsS es).length = es.length := by simp [cntsS]
theorem hitN_take {ns : List ByteArray} {v : ByteArray} {l : List Int} {j : Nat} (h : j < l.length) : hitN ns v (l.take (j + 1)) = hitN ns v (l.take j) + if ns.getD l[j].toNat default = v then 1 else 0 := by
  unfold hitN; rw [cnt_take h]; simp
theorem hitsS_take {gs : List Grp} {ns : List ByteArray} {a : List Gss} {k : Nat} (h : k < a.length) : hitsS gs ns (a.take (k + 1)) = hitsS gs ns (a.take k) + hitN ns a[k].val (gs.getD a[k].grp.toNat default).mem := by
  rw [List.take_succ_eq_append_getElem h, hitsS_app]
  show _ + (_ + 0) = _; omega
theorem hitsS_bnd {gs : List Grp} {ns : List ByteArray} {B : Nat} (hB : ∀ g ∈ gs, g.mem.length ≤ B) : ∀ a : List Gss, 0 ≤ hitsS gs ns a ∧ hitsS gs ns a ≤ (a.length * B : Nat)
  | [] => ⟨Int.le_refl _, by simp [hitsS]⟩
  | g :: a => by
    have ih := hitsS_bnd (ns := ns) hB a
    have h1 := hitN_le (ns := ns) (v := g.val) (l := (gs.getD g.grp.toNat default).mem)
    have h2 : (gs.getD g.grp.toNat default).mem.length ≤ B := by
      rw [List.getD_eq_getElem?_getD]
      cases h : gs[g.grp.toNat]? with
      | none => exact Nat.zero_le _
      | some x => exact hB x (List.mem_of_getElem? h)
    show 0 ≤ hitN ns g.val (gs.getD g.grp.toNat default).mem + hitsS gs ns a ∧ hitN ns g.val (gs.getD g.grp.toNat default).mem + hitsS gs ns a ≤ _
    rw [List.length_cons, Nat.succ_mul]
    omega
theorem sngS_bnd {sz : List Int} {B : Int} (hB : ∀ x ∈ sz, 0 ≤ x ∧ x ≤ B) (h0 : 0 ≤ B) : ∀ k : Nat, k ≤ sz.length → 0 ≤ sngS sz k ∧ sngS sz k ≤ k * B
  | 0, _ => ⟨Int.le_refl _, by simp [sngS]⟩
  | k + 1, hk => by
    have ih := sngS_bnd hB h0 k (by omega)
    have h1 := hB (sz[k]'(by omega)) (List.getElem_mem _)
    rw [← gAt_in (by omega)] at h1
    have e : ((k + 1 : Nat) : Int) * B = k * B + B := by rw [show ((k + 1 : Nat) : Int) = (k : Int) + 1 from by omega, Int.add_mul, Int.one_mul]
    show 0 ≤ sngS sz k + (if singS sz k then gAt sz k else 0) ∧ sngS sz k + (if singS sz k then gAt sz k else 0) ≤ _
    rw [e]
    split <;> omega
end Go.K
namespace Go.K
open Rep
abbrev vvS : ByteArray → Value := fun s => .string s
theorem rv_ents_size {w : World} {M : Nat → Prop} {es : List Ent} {v : Value} (h : RV w M es v) : ∀ x ∈ es, x.val.size ≤ 9223372036854775807 := fun x hx => by
  obtain ⟨a, c, rfl, _, _, h3⟩ := rv_list.1 h
  rcases h3 with rfl | ⟨b, o, rfl, hb, cs, ty, fz, hc, hl, hr⟩
  · simp at hx
  · obtain ⟨i, hi, rfl⟩ := List.getElem_of_mem hx
    obtain ⟨us, ws, _, h1, _⟩ := hr i hi
    exact h1.2
theorem getD_ent {es : List Ent} {k : Nat} {d : Ent} (h : k < es.length) : es.getD k d = es[k] := getDi h
theorem vals_size {es : List Ent} (h : ∀ x ∈ es, x.val.size ≤ 9223372036854775807) {r : Int} {v : ByteArray} (hm : mget (valsS es es.length) r = some v) : v.size ≤ 9223372036854775807 := by
  obtain ⟨q, hq, _, _, rfl⟩ := valsS_get _ hm
  rw [getD_ent hq]; exact h _ (List.getElem_mem hq)
end Go.K

/- Bits in common, and how many there are. Plain Lean. -/
set_option linter.unusedVariables false
set_option linter.unusedSimpArgs false
namespace Go.K
open Rep
def andU (a b : U64) : U64 := ⟨bitsOf .and .u64 a.n b.n⟩
def andB (a b : Bits) : Bits := ⟨a.len, List.zipWith andU a.words b.words⟩
/-- What 'math/bits.OnesCount64' computes. -/
def onesS (x : Int) : Int :=
  let x1 := IntKind.u64.wrap (bitsOf .and .u64 (x.fdiv (2 ^ min (1 : Int).toNat IntKind.u64.bits)) 6148914691236517205 + bitsOf .and .u64 x 6148914691236517205)
  let x2 := IntKind.u64.wrap (bitsOf .and .u64 (x1.fdiv (2 ^ min (2 : Int).toNat IntKind.u64.bits)) 3689348814741910323 + bitsOf .and .u64 x1 3689348814741910323)
  let x3 := bitsOf .and .u64 (IntKind.u64.wrap (x2.fdiv (2 ^ min (4 : Int).toNat IntKind.u64.bits) + x2)) 1085102592571150095
  let x4 := IntKind.u64.wrap (x3 + x3.fdiv (2 ^ min (8 : Int).toNat IntKind.u64.bits))
  let x5 := IntKind.u64.wrap (x4 + x4.fdiv (2 ^ min (16 : Int).toNat IntKind.u64.bits))
  let x6 := IntKind.u64.wrap (x5 + x5.fdiv (2 ^ min (32 : Int).toNat IntKind.u64.bits))
  bitsOf .and .i64 (IntKind.i64.wrap x6) 127
theorem and127 (m : Int) : 0 ≤ bitsOf .and .i64 m 127 ∧ bitsOf .and .i64 m 127 ≤ 127 := by
  have h1 : ((BitVec.ofInt 64 m &&& BitVec.ofInt 64 127 : BitVec 64)).toNat ≤ 127 := by
    rw [BitVec.toNat_and]
    exact Nat.le_trans Nat.and_le_right (by decide)
  have : bitsOf .and .i64 m 127 = (((BitVec.ofInt 64 m &&& BitVec.ofInt 64 127 : BitVec 64)).toNat : Int) := by
    show IntKind.i64.wrap (((BitVec.ofInt 64 m &&& BitVec.ofInt 64 127 : BitVec 64)).toNat : Int) = _
    apply wrap_i64 <;> omega
  rw [this]; omega
theorem onesS_bnd (x : Int) : 0 ≤ onesS x ∧ onesS x ≤ 127 := and127 _
def sumOnes (l : List U64) (k : Nat) : Int := match k with | 0 => 0 | k + 1 => sumOnes l k + onesS (l.getD k default).n
theorem sumOnes_bnd (l : List U64) : ∀ k : Nat, 0 ≤ sumOnes l k ∧ sumOnes l k ≤ k * 127
  | 0 => ⟨Int.le_refl _, Int.le_refl _⟩
  | k + 1 => by
    have ih := sumOnes_bnd l k
    have := onesS_bnd (l.getD k default).n
    show 0 ≤ sumOnes l k + onesS (l.getD k default).n ∧ sumOnes l k + onesS (l.getD k default).n ≤ _
    omega
def countB (b : Bits) : Int := if validB b then sumOnes b.words b.words.length else 0
theorem valid_words {b : Bits} (h : validB b = true) : b.words.length ≤ 8 ∧ 1 ≤ b.words.length := by have := validB_iff.1 h; omega
/-- 'And', for valid arrays of one length. -/
def andOK (a b : Bits) : Prop := validB a = true ∧ validB b = true ∧ a.len = b.len
instance (a b : Bits) : Decidable (andOK a b) := by unfold andOK; exact inferInstance
theorem and_words {a b : Bits} (h : andOK a b) : a.words.length = b.words.length := by
  obtain ⟨h1, h2, h3⟩ := h
  have v1 := validB_iff.1 h1; have v2 := validB_iff.1 h2
  omega
theorem zip_take {a b : List U64} {k : Nat} (h1 : k < a.length) (h2 : k < b.length) : (List.zipWith andU a b).take (k + 1) = (List.zipWith andU a b).take k ++ [andU a[k] b[k]] := by
  rw [List.take_succ_eq_append_getElem (by rw [List.length_zipWith]; omega), List.getElem_zipWith]
/-- All arrays together, from one on; none if two are of different lengths. -/
def allS (a : Bits) (l : List Bits) : Option Bits := match l with | [] => some a | b :: l => if andOK a b then allS (andB a b) l else none
def alwaysS (cl : List Bits) : Int := match cl.filter validB with | [] => 0 | a :: l => match allS a l with | some x => countB x | none => 0
theorem allS_drop {a : Bits} {l : List Bits} {k : Nat} (h : k < l.length) : allS a (l.drop k) = if andOK a l[k] then allS (andB a l[k]) (l.drop (k + 1)) else none := by
  rw [List.drop_eq_getElem_cons h]; rfl
/-! ### What is kept -/
def delS (ys cl : List Bits) (i k : Nat) : Prop := ys.length = cl.length ∧ i ≤ k ∧ ys.take i = (cl.take k).filter validB ∧ ∀ q (h1 : q < ys.length) (h2 : q < cl.length), k ≤ q → ys[q] = cl[q]
theorem delS.keep {ys cl : List Bits} {i k : Nat} (h : delS ys cl i k) (hk : k < cl.length) (hv : validB cl[k] = true) : delS (ys.set i cl[k]) cl (i + 1) (k + 1) := by
  obtain ⟨h1, h2, h3, h4⟩ := h
  refine ⟨by rw [List.length_set]; exact h1, by omega, ?_, fun q hq1 hq2 hq => ?_⟩
  · rw [List.take_succ_eq_append_getElem (by rw [List.length_set]; omega), List.take_set_of_le (Nat.le_refl i), List.getElem_set_self, h3, List.take_succ_eq_append_getElem hk, List.filter_append, List.filter_cons, if_pos hv, List.filter_nil]
  · rw [List.getElem_set, if_neg (by omega)]; exact h4 q _ hq2 (by omega)
theorem delS.drop {ys cl : List Bits} {i k : Nat} (h : delS ys cl i k) (hk : k < cl.length) (hv : validB cl[k] = false) : delS ys cl i (k + 1) := by
  obtain ⟨h1, h2, h3, h4⟩ := h
  refine ⟨h1, by omega, ?_, fun q hq1 hq2 hq => h4 q hq1 hq2 (by omega)⟩
  rw [h3, List.take_succ_eq_append_getElem hk, List.filter_append, List.filter_cons, if_neg (by rw [hv]; simp), List.filter_nil, List.append_nil]
theorem delS.start {cl : List Bits} {k : Nat} (hk : k < cl.length) (h0 : ∀ i (hi : i < cl.length), i < k → validB cl[i] = true) (hv : validB cl[k] = false) : delS cl cl k (k + 1) := by
  refine ⟨rfl, by omega, ?_, fun _ _ _ _ => rfl⟩
  rw [List.take_succ_eq_append_getElem hk, List.filter_append, List.filter_cons, if_neg (by rw [hv]; simp), List.filter_nil, List.append_nil]
  rw [List.filter_eq_self.2 fun x hx => ?_]
  obtain ⟨q, hq, rfl⟩ := List.getElem_of_mem hx
  rw [List.length_take] at hq
  rw [List.getElem_take]; exact h0 q (by omega) (by omega)
theorem delS.all {cl : List Bits} (h0 : ∀ i (hi : i < cl.length), validB cl[i] = true) : cl.filter validB = cl := List.filter_eq_self.2 fun x hx => by
  obtain ⟨q, hq, rfl⟩ := List.getElem_of_mem hx; exact h0 q hq
theorem zero_bits {h : Array Obj} {M : Nat → Prop} : rep h M (⟨0, []⟩ : Bits) [.int .i64 0, .slice none 0 0] :=
  ⟨[.int .i64 0], [.slice none 0 0], rfl, rfl, ⟨none, 0, rfl, Nat.le_refl _, by simp, .inl rfl⟩⟩
end Go.K
theorem Go.K.zip_set {a b : List U64} {k : Nat} {z : U64} (h1 : k < a.length) (h2 : k < b.length) :
    ((List.zipWith andU a b).take k ++ List.replicate (a.length - k) z).set k (andU a[k] b[k]) = (List.zipWith andU a b).take (k + 1) ++ List.replicate (a.length - (k + 1)) z := by
  have hl : ((List.zipWith andU a b).take k).length = k := by rw [List.length_take, List.length_zipWith]; omega
  rw [List.set_append, if_neg (by omega), hl, Nat.sub_self, show a.length - k = (a.length - (k + 1)) + 1 from by omega, List.replicate_succ, List.set_cons_zero, zip_take h1 h2, List.append_assoc]
  rfl
namespace Go.K
open Rep
section
variable {P : Program} {N : Nat} {env : Env} {w : World} {C : Nat → Nat} {t e : TypeId}
theorem a_buildEmptyN {bytes n : Nat} (hF : Lim w C) (hrow : rowB P t e n bytes = true) : Acts P N env (.buildSlice t 0 #[]) w (fun v w' => (∃ a, v = .slice (some a) 0 0) ∧ Stp [] w C w' C ∧ Lim w' C) := acts' fun ρ hρ oo hoo => by
  obtain ⟨i, z, hu, hi, hsi, hby, hz, hzs⟩ := rowB_spec hrow
  have hsz' : (sizeOf e).run P w = .ok n w := by simp [sizeOf, typeInfo, hi, hsi]
  have hnew := new_alloc w (.cells #[] e)
  have hrun : (Instr.buildSlice t 0 #[]).run P w = .ok (.slice (some ⟨w.heap.size, 0, none⟩) 0 0) (w.alloc (.cells #[] e)) := by
    unfold Instr.buildSlice
    simp [run_underlying hu, hsz', Instr.fill, newRow, show Array.range 0 = (#[] : Array Nat) from by simp [Array.range]]
  refine ⟨.slice (some ⟨w.heap.size, 0, none⟩) 0 0, w.alloc (.cells #[] e), .inl ?_, ⟨_, rfl⟩, hnew.st C, hF.st (hnew.st C)⟩
  unfold execOp; rw [hoo]
  simp only [Sem.run_bind]
  rw [show Array.map (fun x : Nat × Operand => (x.fst, ρ x.snd)) #[] = #[] from by simp, hrun]
  rfl
end
end Go.K

/- Columns as the deck deals them. Plain Lean. -/
set_option linter.unusedVariables false
set_option linter.unusedSimpArgs false
namespace Go.K
open Rep
def InU (x : Int) : Prop := 0 ≤ x ∧ x < 18446744073709551616
theorem inU_and (x y : Int) : InU (bitsOf .and .u64 x y) := wrap_u64_range _
theorem inU_zero : InU 0 := ⟨by decide, by decide⟩
/-- An array of n bits. -/
def BitsN (n : Int) (b : Bits) : Prop := b.len = n ∧ (b.words.length : Int) = n / 64 ∧ ∀ x ∈ b.words, InU x.n
def GoodB (b : Bits) : Prop := b = ⟨0, []⟩ ∨ BitsN 64 b ∨ BitsN 128 b
theorem BitsN.good64 {b : Bits} (h : BitsN 64 b) : GoodB b := .inr (.inl h)
theorem BitsN.good128 {b : Bits} (h : BitsN 128 b) : GoodB b := .inr (.inr h)
theorem good_empty : GoodB ⟨0, []⟩ := .inl rfl
theorem GoodB.len {b : Bits} (h : GoodB b) : b.words.length ≤ 2 := by
  rcases h with rfl | h | h
  · exact Nat.zero_le _
  · have := h.2.1; omega
  · have := h.2.1; omega
theorem snoc_all {α : Type} {P : α → Prop} {l : List α} {x : α} (h : ∀ y ∈ l, P y) (hx : P x) : ∀ y ∈ l ++ [x], P y := fun y hy => by
  rcases List.mem_append.1 hy with h1 | h1
  · exact h y h1
  · rw [List.mem_singleton.1 h1]; exact hx
end Go.K

/- Dictionaries as the deck deals them. Plain Lean. -/
set_option linter.unusedVariables false
set_option linter.unusedSimpArgs false
namespace Go.K
open Rep
def dicN : List ByteArray := [⟨#[97, 110, 110, 32, 109, 105, 108, 108, 101, 114]⟩, ⟨#[111, 110, 101, 105, 108, 108]⟩, ⟨#[112, 101, 116, 101, 114]⟩, ⟨#[114, 111, 98, 101, 114, 116, 32, 115, 109, 105, 116, 104]⟩, ⟨#[114, 117, 112, 101, 114, 116]⟩, ⟨#[114, 117, 116, 104]⟩]
def nmD (j : Nat) : ByteArray := dicN.getD j default
theorem nmD_asc : ∀ b, b < 6 → ∀ a, a < b → strLt (nmD a) (nmD b) = true := by decide +kernel
theorem nmD_ne : ∀ b, b < 6 → ∀ a, a < b → nmD a ≠ nmD b := by decide +kernel
theorem nmD_at {i : Nat} (h : i < dicN.length) : dicN[i] = nmD i := (getDi h).symm
/-- Entries of the first i names, in their order. -/
structure DicI (es : List Ent) (i : Nat) (js : List Nat) : Prop where
  asc : js.Pairwise (· < ·)
  lt : ∀ j ∈ js, j < i
  len : es.length = js.length
  val : ∀ k (h : k < es.length) (h2 : k < js.length), es[k].val = nmD js[k]
  cnt : ∀ x ∈ es, 1 ≤ x.cnt ∧ x.cnt ≤ 6
theorem DicI.nil : DicI [] 0 [] := ⟨List.Pairwise.nil, (fun j hj => by cases hj), rfl, (fun k h => by simp at h), (fun x hx => by cases hx)⟩
theorem DicI.skip {es : List Ent} {i : Nat} {js : List Nat} (h : DicI es i js) : DicI es (i + 1) js := ⟨h.asc, fun j hj => Nat.lt_succ_of_lt (h.lt j hj), h.len, h.val, h.cnt⟩
theorem DicI.put {es : List Ent} {i : Nat} {js : List Nat} {c : Int} (h : DicI es i js) (h1 : 1 ≤ c) (h2 : c ≤ 6) : DicI (es ++ [⟨nmD i, c⟩]) (i + 1) (js ++ [i]) := by
  refine ⟨?_, snoc_all (fun j hj => Nat.lt_succ_of_lt (h.lt j hj)) (Nat.lt_succ_self i), by simp [h.len], fun k hk hk2 => ?_, snoc_all h.cnt ⟨h1, h2⟩⟩
  · rw [List.pairwise_append]
    exact ⟨h.asc, List.pairwise_singleton _ _, fun a ha b hb => by rw [List.mem_singleton.1 hb]; exact h.lt a ha⟩
  · have hl := h.len
    rcases Nat.lt_or_ge k es.length with h3 | h3
    · rw [List.getElem_append_left h3, List.getElem_append_left (by omega)]; exact h.val k h3 (by omega)
    · rw [List.getElem_append_right h3, List.getElem_append_right (by omega)]; simp
theorem DicI.ok {es : List Ent} {i : Nat} {js : List Nat} (h : DicI es i js) (hi : i ≤ 6) : DictOK es := by
  have hl := h.len
  have hjl : js.length ≤ 6 := by
    have h1 : js.Nodup := h.asc.imp (fun h => Nat.ne_of_lt h)
    have h2 := List.Nodup.length_le_of_subset (l₂ := List.range 6) h1 (fun j hj => List.mem_range.2 (Nat.lt_of_lt_of_le (h.lt j hj) hi))
    rwa [List.length_range] at h2
  refine ⟨by omega, fun k hk => ?_, fun x hx => ?_⟩
  · rw [h.val k (by omega) (by omega), h.val (k + 1) hk (by omega)]
    have h1 := List.pairwise_iff_getElem.1 h.asc k (k + 1) (by omega) (by omega) (by omega)
    exact nmD_asc _ (Nat.lt_of_lt_of_le (h.lt _ (List.getElem_mem _)) hi) _ h1
  · have := h.cnt x hx; omega
theorem DicI.uniq {es : List Ent} {i : Nat} {js : List Nat} (h : DicI es i js) (hi : i ≤ 6) : ∀ p q, p < es.length → q < es.length → (es.getD p ⟨default, 0⟩).val = (es.getD q ⟨default, 0⟩).val → p = q := fun p q hp hq e => by
  have hl := h.len
  rw [getDi hp, getDi hq, h.val p hp (by omega), h.val q hq (by omega)] at e
  rcases Nat.lt_trichotomy p q with h1 | h1 | h1
  · have h2 := List.pairwise_iff_getElem.1 h.asc p q (by omega) (by omega) h1
    exact absurd e (nmD_ne _ (Nat.lt_of_lt_of_le (h.lt _ (List.getElem_mem _)) hi) _ h2)
  · exact h1
  · have h2 := List.pairwise_iff_getElem.1 h.asc q p (by omega) (by omega) h1
    exact absurd e.symm (nmD_ne _ (Nat.lt_of_lt_of_le (h.lt _ (List.getElem_mem _)) hi) _ h2)
end Go.K

/- From the row's reading of an argument to what the steps ask. -/
set_option linter.unusedVariables false
namespace Go.K
open Rep
/-- Nobody writes anything that stood at the start. -/
def C0 : Nat → Nat := fun _ => 0
theorem lim0 (w : World) : Lim w C0 := fun b h => absurd rfl h
theorem Stp.below {w w' : World} (h : Stp [] w C0 w' C0) : Go.RowKit.Below w.heap.size w w' := h.ext.below (Nat.le_refl _) (fun b hb => by simp at hb)

end Go.K

/- From the row's reading of an argument, of whatever make, to what the steps ask. -/
set_option linter.unusedVariables false
set_option linter.unusedSimpArgs false
namespace Go.K
open Rep

/-- Whatever the row reads at this type reads as a Lean value. -/
def Opens {H : Type} (enc : TypeId × Value → H) (P : Program) (w : World) (base : Nat) (spare : Nat → Bool) (held : Bool) (α : Type) [Rep α] (t : TypeId) : Prop :=
  P.cellsOf t = sz α ∧ ∀ (fuel : Nat) (cs : List Value) (x : DataW H × List MemPlace), DataW.trod enc P w base spare held fuel t cs = some x → ∃ a : α, rep w.heap (Mc C0) a cs

section
variable {H : Type} {enc : TypeId × Value → H} {P : Program} {w : World} {base : Nat} {spare : Nat → Bool} {held : Bool} {α β γ : Type} [Rep α] [Rep β] [Rep γ] {t e : TypeId}

theorem opens_int (ht : P.underlying t = some (.int .i64)) (hc : P.cellsOf t = 1) : Opens enc P w base spare held Int t := ⟨hc, fun fuel cs x h => by
  obtain ⟨n, rfl, _⟩ := DataW.trod_int ht h
  exact ⟨n, rfl⟩⟩
theorem opens_slice (ht : P.underlying t = some (.slice e)) (hc : P.cellsOf t = 1) (hsz : 0 < sz α) (he : Opens enc P w base spare held α e) : Opens enc P w base spare held (List α) t := ⟨hc, fun fuel cs x h => by
  rcases Go.Deep.open_slice ht h with ⟨rfl, _⟩ | ⟨a, len, cap, m, n, D, Pl, rfl, hb, hl, hm, hmm, hx, hcell⟩
  · exact ⟨[], none, 0, rfl, Nat.le_refl _, by simp, .inl rfl⟩
  · have hlm : len ≤ m := by rw [hmm]; split <;> omega
    have key : ∀ k, k ≤ len → ∃ xs : List α, xs.length = k ∧ ∀ i (hi : i < xs.length), ∃ cs', w.cells? base (a.add (i * sz α)) (sz α) = some cs' ∧ rep w.heap (Mc C0) xs[i] cs' := by
      intro k
      induction k with
      | zero => exact fun _ => ⟨[], rfl, fun i hi => by simp at hi⟩
      | succ k ih =>
        intro hk
        obtain ⟨xs, hxl, hxs⟩ := ih (by omega)
        obtain ⟨cs', h1, h2⟩ := hcell k (by omega)
        obtain ⟨y, hy⟩ := he.2 _ _ _ h2
        rw [he.1] at h1
        refine ⟨xs ++ [y], by simp [hxl], fun i hi => ?_⟩
        by_cases hik : i < xs.length
        · rw [List.getElem_append_left hik]; exact hxs i hik
        · have hik2 : i = k := by simp at hi; omega
          subst hik2
          rw [List.getElem_append_right (by omega)]
          exact ⟨cs', h1, by simpa [hxl] using hy⟩
    obtain ⟨xs, hxl, hxs⟩ := key len (Nat.le_refl _)
    refine ⟨xs, some a, cap, by rw [hxl], by omega, by unfold maxLen at hm; omega, ?_⟩
    by_cases h0 : len = 0
    · left; exact List.length_eq_zero_iff.1 (by omega)
    · right
      have hall : ∀ i (hi : i < xs.length), ∃ cs', cs'.length = sz α ∧ (∀ j (hj : j < cs'.length), w.cell? (a.add (i * sz α + j)) = some cs'[j]) ∧ rep w.heap (Mc C0) xs[i] cs' := fun i hi => by
        obtain ⟨cs', h1, h2⟩ := hxs i hi
        obtain ⟨_, h3, h4⟩ := World.cells?_some h1
        refine ⟨cs', h3, fun j hj => ?_, h2⟩
        have h5 := h4 j (by omega)
        rw [Addr.add_add] at h5
        rw [h5]; exact List.getElem?_eq_getElem hj
      obtain ⟨c0, hc0l, hc0, _⟩ := hall 0 (by omega)
      have hfirst := hc0 0 (by omega)
      obtain ⟨b, off, spot⟩ := a
      have hspot : spot = none := by simpa [Addr.add] using World.cell?_spot hfirst
      subst hspot
      refine ⟨b, off, rfl, ?_⟩
      simp only [addr_add] at hall hfirst
      unfold World.cell? at hfirst
      simp only at hfirst
      cases hbk : w.heap[b]? with
      | none => rw [hbk] at hfirst; cases hfirst
      | some ob =>
        cases ob with
        | cells c ty fz =>
          have hget : ∀ i (hi : i < xs.length), ∃ cs', cs'.length = sz α ∧ (∀ j (hj : j < cs'.length), c[off + (i * sz α + j)]? = some cs'[j]) ∧ rep w.heap (Mc C0) xs[i] cs' := fun i hi => by
            obtain ⟨cs', h1, h2, h3⟩ := hall i hi
            refine ⟨cs', h1, fun j hj => ?_, h3⟩
            have h4 := h2 j hj
            unfold World.cell? at h4
            simp only [hbk] at h4
            simpa using h4
          refine ⟨fun h => h rfl, c, ty, fz, hbk, ?_, fun i hi => ?_⟩
          · obtain ⟨cs', h1, h2, _⟩ := hget (len - 1) (by omega)
            have h3 := (Array.getElem?_eq_some_iff.1 (h2 (sz α - 1) (by omega))).1
            have h4 : len * sz α = (len - 1) * sz α + sz α := by
              have : len = (len - 1) + 1 := by omega
              rw [this, Nat.succ_mul]; simp
            rw [hxl, h4]; omega
          · obtain ⟨cs', h1, h2, h3⟩ := hget i hi
            have : cellsAt c (off + i * sz α) (sz α) = cs' := by
              apply List.ext_getElem?
              intro r
              simp only [cellsAt, List.getElem?_take, List.getElem?_drop, Array.getElem?_toList]
              by_cases hr : r < sz α
              · rw [if_pos hr, List.getElem?_eq_getElem (by omega), Nat.add_assoc]; exact h2 r (by omega)
              · rw [if_neg hr, List.getElem?_eq_none (by omega)]
            rw [this]; exact h3
        | _ => rw [hbk] at hfirst; cases hfirst⟩

theorem Opens.rv (h : Opens enc P w base spare held α t) (hx : Rep.agg α = false) {fuel : Nat} {v : Value} {x : DataW H × List MemPlace} (ht : DataW.trod enc P w base spare held fuel t [v] = some x) : ∃ a : α, RV w (Mc C0) a v := by
  obtain ⟨a, ha⟩ := h.2 _ _ _ ht
  exact ⟨a, rep1_rv ha hx⟩
end
end Go.K
