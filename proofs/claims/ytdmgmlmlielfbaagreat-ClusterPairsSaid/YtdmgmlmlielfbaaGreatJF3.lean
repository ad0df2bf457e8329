/- Steps through functions of the program. -/
import Derived.Test.YtdmgmlmlielfbaaGreatJF2
import Derived.Test.YtdmgmlmlielfbaaGreatL2
set_option linter.unusedVariables false
set_option linter.unusedSimpArgs false
set_option maxRecDepth 100000
set_option maxHeartbeats 4000000
namespace Go.Proofs.YtdmgmlmlielfbaaGreat
open Go.K Go.K.Rep
noncomputable section
namespace F142
def c0 := bodyOf Tryz.f142
end F142
theorem appendSeq_ok {w₀ : World} {C : Nat → Nat} {xs : List Couple} {px : Value} {b1 : Nat} (hF : Lim w₀ C) (h1 : w₀.heap[b1]? = some (.cells [px].toArray 53)) (hx : RV w₀ (Mc C) xs px) (hlen : xs.length ≤ 100000) (j : Nat) (hj : j ≠ 0) :
    Calls Tryz.prog 142 #[.slice none 0 0, .func (.func 120) #[] #[.pointer (some ⟨b1, 0, none⟩)]] w₀ (Ret fun v w' => ∃ C', Stp [] w₀ C w' C' ∧ Lim w' C' ∧ OwnL w' C' j 47 v xs) := by
 refine callsW_start (n := 3) (c := F142.c0) (N := 13) [.slice none 0 0, .func (.func 120) #[] #[.pointer (some ⟨b1, 0, none⟩)]] Tryz.func142 (by kernel_rfl) (by kernel_rfl) (by kernel_rfl) fun a ha hD => ?_
 have hD0 := hD
 refine wi_sq ?_
 refine wi_reg ha hD ?_
 refine wi_act (fun _ => trivial) (by kernel_rfl : opAt _ 0 = some (some 2, .box 53 (.tmp 0), none)) (fun c e => by cases e) rfl (acts_box (cs := [.slice none 0 0]) rfl rfl) ?_
 rintro _ w1 ⟨rfl, hnew⟩
 refine wi_val (fun _ => trivial) (by kernel_rfl : opAt _ 1 = some (some 4, .assign (.const (.slice none 0 0)), none)) (fun c e => by cases e) rfl (val_assign rfl) ?_
 refine wi_nil fun a ha hD => ?_
 obtain ⟨bo, hbo⟩ : ∃ bo, bo = w₀.heap.size := ⟨_, rfl⟩
 rw [← hbo] at ha
 have hat := hnew.at_
 rw [← hbo] at hat
 have hsz := hnew.size
 show (K.cr F142.c0).wpIn _ _ _ _ _ _
 refine wi_sq ?_
 refine wi_sq ?_
 refine wi_reg ha hD ?_
 refine wi_val (fun _ => trivial) (by kernel_rfl : opAt _ 0 = some (some 6, .move (.tmp 1), none)) (fun c e => by cases e) rfl (val_move rfl) ?_
 refine wi_nil fun a ha hD => ?_
 show (K.cr (K.cl (K.cr F142.c0))).wpIn _ _ _ _ _ _
 refine wi_bk 0 ?_
 have hI0 : AS 53 47 w₀ w1.heap.size bo [] w1 := ⟨.slice none 0 0, hnew.ext, hat, OwnL.nil, fun b hb => by cases hb⟩
 refine rf_all (t := 6) (gf := 120) (encs := fun x : Couple => #[kvC x]) (xs := xs) (I := AS 53 47 w₀ w1.heap.size bo) (by kernel_rfl) (ha.ev (x := .tmp 6) rfl) (fun args w => Tryz.call120 args w) (fun x => by rw [show rfP (K.cl (K.cr (K.cl (K.cr F142.c0)))) = #[7] from by kernel_rfl]; rfl) (fun pre X Y h hE => h.ext hE) (fun pre X Y h hT => h.turn (by omega) hT) hI0 ?_ ?_ ?_
 · intro l k hk X hX
   rw [show rfP (K.cl (K.cr (K.cl (K.cr F142.c0)))) = #[7] from by kernel_rfl]
   have ha1 := StD.yield ha (t := 7) (by decide) (kvC xs[k])
   refine wi_reg ha1 rfl ?_
   obtain ⟨v, g1, g2, g3, g4⟩ := hX
   have hL := AS.lim g2 g3
   refine wi_act (fun _ => trivial) (by kernel_rfl : opAt _ 0 = some (some 5, .alloc 47, none)) (fun c e => by cases e) rfl (a_alloc (cs := [.int .i64 0, .int .i64 0]) hL 3 (by kernel_rfl)) ?_
   rintro _ X1 ⟨C1, bx, rfl, hs1, hb1, hL1⟩
   refine wi_act (fun _ => trivial) (by kernel_rfl : opAt _ 1 = some (none, .store 47 (.tmp 5) (.tmp 7), none)) (fun c e => by cases e) rfl (a_storeAll (vs := encR xs[k]) (n := 2) rfl rfl (by kernel_rfl) rfl rfl (by intro u hu; simp only [encR, List.mem_cons, List.not_mem_nil, or_false] at hu; rcases hu with rfl | rfl <;> rfl) hb1 rfl) ?_
   rintro _ X2 ⟨rfl, hs2, hb2⟩
   have hE : Ext No X X2 := (hs1.mono (J := [3]) (fun c hc => by cases hc)).trans hs2 (fun c hc => hc) |>.ext.mono (fun b hb hm => by
     simp only [List.mem_singleton] at hm
     unfold kol at hm
     split at hm
     · cases hm
     · split at hm <;> cases hm)
   refine wi_nil fun a2 ha2 hD2 => ?_
   refine ⟨fun b ob hb hob hc => at_ext hob hE, (show AS _ _ _ _ _ _ _ from ⟨v, g1, g2, g3, g4⟩ : AS 53 47 w₀ w1.heap.size bo (xs.take k) X).ext hE, fun X3 hT3 hX3 => ?_⟩
   obtain ⟨lt, ot, ot', hlt, hot, hct, rfl⟩ := hT3
   have hbx : (X2.putObj lt ot').heap[bx]? = some (.cells (encR xs[k]).toArray 47) := at_put hb2.at_ (fun e => by subst e; rw [hb2.at_] at hot; cases hot; cases hct)
   generalize X2.putObj lt ot' = X3 at hX3 hbx
   clear g1 g2 g3 g4 hL hs1 hb1 hL1 hs2 hb2 hE hot
   obtain ⟨v, g1, g2, g3, g4⟩ := hX3
   have hL := AS.lim g2 g3
   have hA : w1.heap.size ≤ X3.heap.size := by have := lt_at g2; omega
   have hb3 : OwnB X3 (kol bo v) 2 bo (.cells [v].toArray 53) := ⟨by unfold kol; rw [if_pos rfl], g2⟩
   refine wi_bk 1 ?_
   refine wi_reg ha2 hD2 ?_
   refine wi_val (fun _ => trivial) (by kernel_rfl : opAt _ 0 = some (some 8, .load 53 (.tmp 2), none)) (fun c e => by cases e) rfl (val_loadOwn g2 (by kernel_rfl) rfl rfl) ?_
   refine wi_val (fun _ => trivial) (by kernel_rfl : opAt _ 1 = some (some 9, .load 47 (.tmp 5), none)) (fun c e => by cases e) rfl (val_loadOwnAgg (n := 2) (vs := encR xs[k]) hbx (by kernel_rfl) (by kernel_rfl) rfl rfl rfl) ?_
   refine wi_act (fun _ => trivial) (by kernel_rfl : opAt _ 2 = some (some 10, .buildSlice 53 1 #[(0, .tmp 9)], none)) (fun c e => by cases e) rfl (a_buildSlice (ys := ([xs[k]] : List Couple)) (e := 47) (bytes := 16) hL (by kernel_rfl) rfl (by decide) (by decide) ⟨rfl, ⟨_, rfl, rv_couple.2 rfl⟩, trivial⟩) ?_
   rintro v10 X4 ⟨hs4, g10, hL4⟩
   have htl : (xs.take k).length = k := by rw [List.length_take]; omega
   refine wi_act (fun _ => trivial) (by kernel_rfl : opAt _ 3 = some (some 11, .call { callee := .builtin .append, args := #[.tmp 8, .tmp 10], argTypes := #[53, 53] }, none)) (fun c e => by cases e) rfl (a_append (e := 47) (bytes := 16) hL4 (by decide) rfl rfl (by kernel_rfl) (by decide) (g3.st hs4 (by decide) (by decide)) g10 (by simp only [List.length_cons, List.length_nil]; omega) (by simp only [List.length_cons, List.length_nil]; omega)) ?_
   rintro v11 X5 ⟨C5, hs5, g11, hL5⟩
   have hb5 := (hb3.st hs4 (by decide)).st hs5 (by decide)
   refine wi_act (fun _ => trivial) (by kernel_rfl : opAt _ 4 = some (none, .store 53 (.tmp 2) (.tmp 11), none)) (fun c e => by cases e) rfl (a_store1 rfl rfl (by kernel_rfl) g11.one.1 g11.one.2 hb5 (by simp)) ?_
   rintro _ X6 ⟨rfl, hs6, hb6⟩
   refine wi_nil fun a3 ha3 hD3 => ?_
   have hs46 : Stp [2, 5] X3 (kol bo v) X6 C5 := ((hs4.mono (J := [2, 5]) (fun c hc => by cases hc)).trans (hs5.mono (J := [2, 5]) (fun c hc => by simp at hc ⊢; omega)) (fun c hc => hc)).trans (hs6.mono (J := [2, 5]) (fun c hc => by simp at hc ⊢; omega)) (fun c hc => hc)
   have g11' := g11.st hs6 (by decide) (by decide)
   rw [← List.take_succ_eq_append_getElem hk] at g11'
   obtain ⟨r1, r2⟩ := AS.close (n0 := w1.heap.size) g1 g2 g3 g4 (by omega) (by omega) hA hs46 hb6 g11'
   exact ⟨rfl, r1, r2⟩
 · intro l W1 J hJa hJI hY hJ0
   refine values1_ok (px := px) hJa (fun pre X hX => ?_) hY hJ0
   obtain ⟨v, g1, _⟩ := hJI _ _ hX
   exact ⟨⟨show 0 < 2 from by decide, at_ext h1 g1⟩, hx.c0.st (I := []) (C := C0) (C' := C0) ⟨g1.mono (fun _ _ h => h.elim), fun _ _ => rfl⟩ (by decide)⟩
 intro D W hDl hI hK
 obtain ⟨v, g1, g2, g3, g4⟩ := hI
 show (K.cr (K.cr F142.c0)).wpIn _ _ _ _ _ _
 refine wi_sq ?_
 refine wi_reg (a := { a with defers := _ }) (D := { target := .collected D, args := #[] } :: a.defers) ha rfl ?_
 refine wi_val (fun _ => trivial) (by kernel_rfl : opAt _ 0 = some (some 12, .load 53 (.tmp 2), none)) (fun c e => by cases e) rfl (val_loadOwn g2 (by kernel_rfl) rfl rfl) ?_
 refine wi_val (fun _ => trivial) (by kernel_rfl : opAt _ 1 = some (some 4, .assign (.tmp 12), none)) (fun c e => by cases e) rfl (val_assign rfl) ?_
 refine wi_nil fun a4 ha4 hD4 => ?_
 refine wi_rt ?_
 show LeavesInM _ _ _ _ _ _ _ _ _
 rw [hD4, hD]
 refine ⟨by simp, .inl ⟨_, _, rfl, run_takeDeferred hK, ?_⟩⟩
 refine ⟨_, results_tmp (t := 4) (by kernel_rfl) _ _ _, _, rfl, ?_⟩
 have hv : a4.tmps.getD 4 undef = v := ha4.ev (x := .tmp 4) rfl
 rw [hv]
 refine ⟨fun b => if v.ownBlock = some b then j else C b, ⟨?_, fun b hb => ?_⟩, fun b hb => ?_, ?_⟩
 · exact (ext_put g1 (by omega)).mono (fun _ _ h => h.elim)
 · show (if v.ownBlock = some b then j else C b) = C b
   rw [if_neg (fun e => by have := g4 b e; omega)]
 · show b < (W.putObj D _).heap.size
   have hb : (if v.ownBlock = some b then j else C b) ≠ 0 := hb
   rw [World.putObj_size]
   split at hb
   · rename_i e; exact (g3.own.ob b e).2
   have := hF b hb; have := g1.size; omega
 refine g3.any (fun b hb => World.putObj_heap_other (fun e => ?_)) (fun b hb => ?_) hj
 · subst e
   obtain ⟨cs, hcs⟩ := g3.cells hb
   rw [hcs] at hK; cases hK
 show (if v.ownBlock = some b then j else C b) = j
 rw [if_pos (show v.ownBlock = some b from hb)]
end
end Go.Proofs.YtdmgmlmlielfbaaGreat
