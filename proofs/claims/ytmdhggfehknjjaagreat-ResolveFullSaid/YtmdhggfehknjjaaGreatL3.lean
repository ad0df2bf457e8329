/- RwS that are each a list of its own. -/
import Derived.Test.YtmdhggfehknjjaaGreatL2
import Derived.Lib.AppendZeros
import Derived.Test.YtmdhggfehknjjaaGreatL1
import Derived.Shelf.SlSortCmp.NoneTotal
import Derived.RangeFuncLeaves
import Derived.RangeFuncNested
set_option linter.unusedVariables false
set_option linter.unusedSimpArgs false
set_option linter.unusedSectionVars false
namespace Go.K
open bn
structure ff {α:Type} [bn α] (w:World) (C:Nat->Nat) (j:Nat) (e:TypeId) (us:List Value) (rows:List (List α)):Prop where
 len:us.length=rows.length
 own:∀k (h:k<us.length) (h':k<rows.length),aQ w C j e us[k] rows[k]
 wQ:∀k l (h:k<us.length) (h':l<us.length),k≠l->∀b,cQ us[k] b->¬cQ us[l] b
section
variable {α:Type} [bn α] {P:Program} {N:Nat} {env:Env} {w w':World} {C aG D:Nat->Nat} {I:List Nat} {t e:TypeId} {v s:Value} {x y z:Operand} {xs ys zs:List α} {us:List Value} {rows:List (List α)} {j k n:Nat}
theorem ff.nil:ff w C j e [] ([]:List (List α)):=⟨rfl,λk h=>by simp at h,λk l h=>by simp at h⟩
theorem ff.st (h:ff w C j e us rows) (hs:av I w C w' aG) (h0:0∉I) (hj:j∉I):ff w' aG j e us rows:=⟨h.len,λk h1 h2=>(h.own k h1 h2).st hs h0 hj,h.wQ⟩
theorem ff.u (h:ff w C j e us rows) (hs:av I w C w' aG) (h0:0∉I:=by first|decide|(simp<;>omega)) (hj:j∉I:=by first|decide|(simp<;>omega)):ff w' aG j e us rows:=h.st hs h0 hj
theorem ff.mv (h:ff w C j e us rows) (hs:av I w C w' aG:=by exact pL) (h0:0∉I:=by first|decide|(simp<;>omega)) (hj:j∉I:=by first|decide|(simp<;>omega)):ff w' aG j e us rows:=h.st hs h0 hj
theorem ff.nc (h:ff w C j e us rows) (hk:k<us.length) (hk':k<rows.length) (hl:rows[k].length<=9223372036854775807):aq w (aj ji) rows[k] us[k]:=(h.own k hk hk').nc hl
theorem ff.append {bytes:Nat} (h:ff w C j e us rows) (hF:aF w C) (hj:j≠0) (hk:k<us.length) (hk':k<rows.length) (hx:ev env y=some us[k]) (hy:ev env z=some s) (hrow:rO P t e (sz α) bytes=true) (hsz:0<sz α)
  (hsrc:aq w (aj C) zs s) (hlen: (rows[k].length+zs.length)*bytes<=140737488355328) (h63:rows[k].length+zs.length<=140737488355328):
  g_ P N env (.call {callee:=.builtin .append,args:=#[y,z],argTypes:=#[t,t]}) w (λv' w'=>∃aG,av [j] w C w' aG/\aF w' aG/\ff w' aG j e (us.set k v') (rows.set k (rows[k]++zs))):=λa ha fB gO=>by
 have hown:=h.own k hk hk';obtain⟨v',w',h1,h2,h3,h4⟩:=MP (P:=P) (N:=N) hx hy hrow hsz hown.own hsrc hlen h63 a ha fB gO;have kU:∀b,b<w.heap.size->gP C v' j b=C b:=λb hb=>by
  unfold gP;split
  ·rename_i e;rcases h4 b e with h|h
   ·exact(hown.col b h).symm
   ·omega
  ·rfl
 have hS:av [j] w C w' (gP C v' j):=⟨h3.mono (λb _ hb=>by rw[hown.col b hb];simp),kU⟩
 have hL:aF w' (gP C v' j):=λb hb=>by
  by_cases ho:cQ v' b
  ·exact(h2.fG b ho).2
  ·unfold gP at hb;rw[if_neg (show¬v'.ownBlock=some b from ho)] at hb;exact Nat.lt_of_lt_of_le (hF b hb) h3.size
 have hn:aQ w' (gP C v' j) j e v' (rows[k]++zs):=⟨h2.sub (λb hb hc=>by
  by_cases ho:cQ v' b
  ·exact .inl ho
  ·right;unfold aj gP at hc;rw[if_neg (show¬v'.ownBlock=some b from ho)] at hc;exact hc) (λb hb=>by unfold aj gP;rw[if_pos (show v'.ownBlock=some b from hb)];exact hj),λb hb=>by unfold gP;rw[if_pos (show v'.ownBlock=some b from hb)]⟩
 have OG:∀l (hl:l<us.length) (hl':l<rows.length),l≠k->aQ w' (gP C v' j) j e us[l] rows[l]/\∀b,cQ us[l] b->¬cQ v' b:=λl hl hl' hlk=>by
  have ho:=h.own l hl hl';have hne:∀b,cQ us[l] b->¬cQ us[k] b:=h.wQ l k hl hk hlk;have hv:∀b,cQ us[l] b->¬cQ v' b:=λb hb hv=>by
   rcases h4 b hv with h5|h5
   ·exact hne b hb h5
   ·have:=(ho.own.fG b hb).2;omega
  have hold:∀b,b<w.heap.size->cQ v' b->aj C b:=λb hb s7=>by
   rcases h4 b s7 with h6|h6
   ·unfold aj;rw[hown.col b h6];exact hj
   ·omega
  have h50:k7 w (λb=>cQ v' b\/aj C b) e us[l] rows[l]:=ho.own.sub (λb hb h_=>h_.elim (hold b hb) id) (λb hb=> .inr (by unfold aj;rw[ho.col b hb];exact hj));have h5:k7 w' (λb=>cQ v' b\/aj C b) e us[l] rows[l]:=h50.ext h3 (λb hb hA=> .inr (by unfold aj;rw[hown.col b hA];exact hj)) hne;refine⟨⟨h5.sub (λb hb hc=>?_) (λb hb=>?_),λb hb=>?_⟩,hv⟩
  ·by_cases s7:cQ v' b
   ·exact .inl s7
   ·right;unfold aj gP at hc;rw[if_neg (show¬v'.ownBlock=some b from s7)] at hc;exact hc
  ·unfold aj gP;rw[if_neg (show¬v'.ownBlock=some b from hv b hb),ho.col b hb];exact hj
  ·unfold gP;rw[if_neg (show¬v'.ownBlock=some b from hv b hb)];exact ho.col b hb
 refine⟨v',w',h1,gP C v' j,hS,hL,⟨by simp[h.len],λl h5 h6=>?_,λl m h5 h6 Dt b hb fu=>?_⟩⟩
 ·simp only[List.length_set] at h5 h6;rw[List.getElem_set,List.getElem_set];by_cases e:k=l
  ·subst e;rw[if_pos rfl,if_pos rfl];exact hn
  ·rw[if_neg e,if_neg e];exact(OG l h5 h6 (Ne.symm e)).1
 ·simp only[List.length_set] at h5 h6;rw[List.getElem_set] at hb fu;by_cases e1:k=l
  ·by_cases e2:k=m
   ·omega
   ·rw[if_pos e1] at hb;rw[if_neg e2] at fu;exact(OG m h6 (by rw[<-h.len];exact h6) (Ne.symm e2)).2 b fu hb
  ·by_cases e2:k=m
   ·rw[if_neg e1] at hb;rw[if_pos e2] at fu;exact(OG l h5 (by rw[<-h.len];exact h5) (Ne.symm e1)).2 b hb fu
   ·rw[if_neg e1] at hb;rw[if_neg e2] at fu;exact h.wQ l m h5 h6 Dt b hb fu
theorem ql {n bytes:Nat} {parts:Array (Nat×Operand)} {ys:List α} (hF:aF w C) (hj:j≠0) (hrow:rO P t e (sz α) bytes=true) (hn:n=ys.length) (qS:n*sz α<=16777216) (hsz:0<sz α)
  (hp:CL env w (aj C) 0 parts.toList ys):
  g_ P N env (.buildSlice t n parts) w (λv w'=>∃aG,av [] w C w' aG/\aQ w' aG j e v ys/\aF w' aG/\∀b,cQ v b->w.heap.size<=b):=sP λρ hρ fB gO=>by
 subst hn;obtain⟨i,z,hu,hi,hsi,hby,hz,hzs⟩:=A8 hrow
 let zs:List Value:=((Array.range (ys.length*sz α)).map λj=>(if ys.length*sz α=0 then(#[]:Array Value) else z.cells)[j%(if ys.length*sz α=0 then(#[]:Array Value) else z.cells).size]!).toList
 obtain⟨c4,news,h1,h2,h3,h4⟩:=M1 (k:=0) [] zs hp b_ (by simp[zs]);simp only[List.nil_append] at h2;have hmap:=v8.map hρ h1;have oB:=fill_eq _ (parts.toList.map λp=>(p.1,ρ p.2)) c4 zs news (by rw[<-hmap]) h2;have hnew:=zj w (.cells news.toArray e);have hrun: (Instr.buildSlice t ys.length (parts.map λx=>(x.1,ρ x.2))).run P w=.ok (.slice (some ⟨w.heap.size,0,none⟩) ys.length ys.length) (w.alloc (.cells news.toArray e)):=by
  have hle:¬(ys.length*sz α>2^24):=by omega
  have qn: (parts.map λx=>(x.1,ρ x.2)).toList=parts.toList.map λp=>(p.1,ρ p.2):=by simp
  have Gx: (sizeOf e).run P w=.ok (sz α) w:=by simp[sizeOf,typeInfo,hi,hsi]
  unfold Instr.buildSlice;simp only[Sem.run_bind,run_underlying hu,Result.andThen_ok,Gx,if_neg hle,Sem.run_pure,qn];by_cases h0:ys.length*sz α=0
  ·have vX:zs=((Array.range (ys.length*sz α)).map λj=>(#[]:Array Value)[j%(#[]:Array Value).size]!).toList:=by simp only[zs,h0,if_true]
   rw[vX] at oB;simp only[h0,if_true,Sem.run_bind,Sem.run_pure,Result.andThen_ok] at oB⊢;simp only[Array.toArray_toList] at oB;rw[oB];simp[newRow]
  ·have vX:zs=((Array.range (ys.length*sz α)).map λj=>z.cells[j%z.cells.size]!).toList:=by simp only[zs,h0,if_false]
   rw[vX] at oB;have M3: (zeroValue e).run P w=.ok z w:=by simp[zeroValue,typeInfo,hi,hz]
   simp only[h0,if_false,Sem.run_bind,M3,Sem.run_pure,Result.andThen_ok];simp only[Array.toArray_toList] at oB;rw[oB];simp[newRow]
 obtain⟨aG,a1,a2,a3⟩:=hnew.own hF j;refine⟨.slice (some ⟨w.heap.size,0,none⟩) ys.length ys.length,w.alloc (.cells news.toArray e),.inl ?_,aG,a1,⟨.inr ⟨w.heap.size,ys.length,news.toArray,rfl,?_,a2.at_,Nat.le_refl _,?_,λi hi=>?_⟩,λb hb=>?_⟩,a3,λb hb=>?_⟩
 ·unfold execOp;rw[gO];simp only[Sem.run_bind];rw[show(parts.map λx=>match x with|(i,x)=>(i,ρ x))=(parts.map λx=>(x.1,ρ x.2)) from rfl,hrun];rfl
 ·unfold aj;rw[a2.col];exact hj
 ·simp only[List.size_toArray,h3]
 ·have h5:=h4 i hi;refine bn.keep (bn.sub h5 (λb hb hm=>?_)) (λb hb hm=>hnew.ext.block b hb (λh=>h));unfold aj at hm⊢;rw[a1.col b hb] at hm;exact hm
 ·simp only[cQ,Value.ownBlock,Option.some.injEq] at hb;subst hb;exact a2.col
 ·simp only[cQ,Value.ownBlock,Option.some.injEq] at hb;omega
theorem ff.snoc (h:ff w C j e us rows) (hj:j≠0) {ys:List α} (ho:aQ w C j e v ys) (hd:∀k (hk:k<us.length),∀b,cQ us[k] b->¬cQ v b):ff w C j e (us++[v]) (rows++[ys]):=by
 have hl:=h.len;have hi:∀k (hk:k<(us++[v]).length),k<us.length\/k=us.length:=λk hk=>by simp at hk;omega
 refine⟨by simp[h.len],λk h1 h2=>?_,λk l h1 h2 ay b hb fu=>?_⟩
 ·rcases hi k h1 with h3|h3
  ·rw[List.getElem_append_left h3,List.getElem_append_left af];exact h.own k h3 af
  ·subst h3;rw[List.getElem_append_right af,List.getElem_append_right af];simp only[Nat.sub_self,hl];simpa using ho
 ·rcases hi k h1 with h3|h3
  ·rw[List.getElem_append_left h3] at hb;rcases hi l h2 with h4|h4
   ·rw[List.getElem_append_left h4] at fu;exact h.wQ k l h3 h4 ay b hb fu
   ·subst h4;rw[List.getElem_append_right af] at fu;exact hd k h3 b hb (by simpa using fu)
  ·subst h3;rw[List.getElem_append_right af] at hb;rcases hi l h2 with h4|h4
   ·rw[List.getElem_append_left h4] at fu;exact hd l h4 b fu (by simpa using hb)
   ·omega
theorem ff.fresh (h:ff w C j e us rows) {w0:World} (hb:∀b,cQ v b->w0.heap.size<=b) (hs:∀k (hk:k<us.length),∀b,cQ us[k] b->b<w0.heap.size):∀k (hk:k<us.length),∀b,cQ us[k] b->¬cQ v b:=λk hk b h1 h2=>by
 have:=hb b h2;have:=hs k hk b h1;omega
theorem ff.lt (h:ff w C j e us rows):∀k (hk:k<us.length),∀b,cQ us[k] b->b<w.heap.size:=λk hk b hb=>((h.own k hk (by rw[<-h.len];exact hk)).own.fG b hb).2
theorem ff.pop (h:ff w C j e (us++[v]) (rows++[xs])) (hl:us.length=rows.length):ff w C j e us rows:=
 ⟨hl,λk h1 h2=>by
  have:=h.own k sN sN;rwa [List.getElem_append_left h1,List.getElem_append_left h2] at this,λk l h1 h2 ay b hb=>by
  have:=h.wQ k l sN sN ay b;rw[List.getElem_append_left h1,List.getElem_append_left h2] at this;exact this hb⟩
theorem aQ.qh {e':TypeId} (h:aQ w C j e v xs) (hy:ev env y=some v) {kd:IntKind} {i:Int} (hf:j6 P t=some (e',sz α)) (hz:ev env z=some (.int kd i)) (h0:0<=i) (h1:i<=xs.length) (hne:0<xs.length):
  ∃v2,(∀b,cQ v2 b->cQ v b)/\aQ w C j e v2 (xs.take i.toNat)/\∀w',cE P N env (.slice t y none (some z) none) w' v2:=by
 obtain⟨g,cap,cs,rfl,kU,h_,hc,hle,hsz,hr⟩:=h.xG hne;have hl: (xs.take i.toNat).length=i.toNat:=by rw[List.length_take];omega
 refine⟨.slice (some ⟨g,0,none⟩) (xs.take i.toNat).length cap,λb hb=>hb,⟨.inr ⟨g,cap,cs,rfl,h_,hc,by omega,hsz,λk hk=>?_⟩,h.col⟩,λw'=>mk' λρ hρ fB ho=>?_⟩
 ·rw[List.getElem_take];exact hr k af
 ·unfold j6 at hf;split at hf
  ·rename_i e1 hu;split at hf
   ·rename_i n' hn;simp only[Option.some.injEq,Prod.mk.injEq] at hf;obtain⟨rfl,rfl⟩:=hf;have hb:=CP (P:=P) (kd:=kd) (y:=cap) (code:=.sliceAcap) (w:=w') h0 af;unfold execOp;rw[ho];rw[hl];simp[hρ _ _ hy,hρ _ _ hz,Instr.sliceAt,Instr.slice,Instr.sliceBounds,run_underlying hu,mW hn,hb,rN]
   ·cases hf
  ·cases hf
theorem ff.cut {e':TypeId} (h:ff w C j e us rows) (hk:k<us.length) (hk':k<rows.length) (hy:ev env y=some us[k]) {kd:IntKind} {i:Int} (hf:j6 P t=some (e',sz α)) (hz:ev env z=some (.int kd i)) (h0:0<=i) (h1:i<=rows[k].length) (hne:0<rows[k].length):
  ∃v2,ff w C j e (us.set k v2) (rows.set k (rows[k].take i.toNat))/\∀w',cE P N env (.slice t y none (some z) none) w' v2:=by
 obtain⟨v2,h2,h3,h4⟩:=(h.own k hk hk').qh (P:=P) (N:=N) hy hf hz h0 h1 hne;refine⟨v2,⟨by simp[h.len],λl h5 h6=>?_,λl m h5 h6 Dt b hb fu=>?_⟩,h4⟩
 ·simp only[List.length_set] at h5 h6;rw[List.getElem_set,List.getElem_set];by_cases e:k=l
  ·subst e;rw[if_pos rfl,if_pos rfl];exact h3
  ·rw[if_neg e,if_neg e];exact h.own l h5 h6
 ·simp only[List.length_set] at h5 h6;rw[List.getElem_set] at hb fu;by_cases e1:k=l
  ·by_cases e2:k=m
   ·omega
   ·rw[if_pos e1] at hb;rw[if_neg e2] at fu;exact h.wQ k m hk h6 e2 b (h2 b hb) fu
  ·by_cases e2:k=m
   ·rw[if_neg e1] at hb;rw[if_pos e2] at fu;exact h.wQ l k h5 hk (Ne.symm e1) b hb (h2 b fu)
   ·rw[if_neg e1] at hb;rw[if_neg e2] at fu;exact h.wQ l m h5 h6 Dt b hb fu
end
def eL (C:Nat->Nat):Nat->Nat:=λb=>if C b=3\/C b=4\/C b=5 then C b else if C b=0 then 0 else 1
def eN (n:Nat) (C aG:Nat->Nat):Nat->Nat:=λb=>if b<n then C b else if aG b=3\/aG b=4\/aG b=5 then aG b else 0
section
variable {α:Type} [bn α] {w w' w0:World} {C aG D:Nat->Nat} {I:List Nat} {e:TypeId} {v:Value} {ys:List α} {x:α} {us:List Value} {rows:List (List α)} {j b n:Nat} {o:Obj}
theorem OH (C:Nat->Nat) (b:Nat):eL C b≠0↔C b≠0:=by unfold eL;split<;>(try split)<;>omega
theorem OI (C:Nat->Nat):aj (eL C)=aj C:=by funext b;exact propext (OH C b)
theorem aF.eL (h:aF w C):aF w (K.eL C):=λb hb=>h b ((OH C b).1 hb)
theorem z7 (C:Nat->Nat) (b:Nat):eL C b<6:=by unfold eL;split<;>(try split)<;>omega
theorem VR {j:Nat} (h:C b=j) (hj:j=3\/j=4\/j=5):eL C b=j:=by unfold eL;rw[h,if_pos hj]
theorem bS.eL (h:bS w C j b o) (hj:j=3\/j=4\/j=5):bS w (K.eL C) j b o:=⟨VR h.col hj,h.at_⟩
theorem aQ.eL (h:aQ w C j e v ys) (hj:j=3\/j=4\/j=5):aQ w (K.eL C) j e v ys:=⟨by rw[OI];exact h.own,λb hb=>VR (h.col b hb) hj⟩
theorem ff.eL (h:ff w C j e us rows) (hj:j=3\/j=4\/j=5):ff w (K.eL C) j e us rows:=⟨h.len,λk h1 h2=>(h.own k h1 h2).eL hj,h.wQ⟩
theorem av.eN (h:av [3,4,5,6,7] w (eL C) w' aG):av [3,4,5] w C w' (K.eN w.heap.size C aG):=
 ⟨h.ext.mono (λb _ hc=>by
  simp only[List.mem_cons,List.not_mem_nil,or_false] at hc⊢;unfold K.eL at hc;split at hc<;>(try split at hc)<;>omega),λb hb=>by unfold K.eN;rw[if_pos hb]⟩
theorem KY (h:av I w (eL C) w' aG) (hF:aF w C):∀b,aj (eN w.heap.size C aG) b->aj aG b:=λb hb=>by
 unfold aj eN at*;by_cases hlt:b<w.heap.size
 ·rw[if_pos hlt] at hb;rw[h.col b hlt];exact(OH C b).2 hb
 ·rw[if_neg hlt] at hb;split at hb<;>omega
theorem tP (h:av I w (eL C) w' aG) (hF:aF w C) (OJ:aF w' aG):aF w' (eN w.heap.size C aG):=λb hb=>OJ b (KY h hF b hb)
theorem OL (h:av I w (eL C) w' aG) {j:Nat} (hj:j=3\/j=4\/j=5) (hb:aG b=j):eN w.heap.size C aG b=j:=by
 unfold eN;by_cases hlt:b<w.heap.size
 ·rw[if_pos hlt];have h1:=h.col b hlt;rw[hb] at h1;unfold eL at h1;split at h1
  ·exact h1.symm
  ·split at h1<;>omega
 ·rw[if_neg hlt,hb,if_pos hj]
theorem bS.eN (ho:bS w' aG j b o) (h:av I w (K.eL C) w' aG) (hj:j=3\/j=4\/j=5):bS w' (K.eN w.heap.size C aG) j b o:=⟨OL h hj ho.col,ho.at_⟩
theorem aQ.eN (ho:aQ w' aG j e v ys) (h:av I w (K.eL C) w' aG) (hF:aF w C) (hj:j=3\/j=4\/j=5):aQ w' (K.eN w.heap.size C aG) j e v ys:=
 ⟨ho.own.sub (λb _ hb=>KY h hF b hb) (λb hb=>by unfold aj;rw[OL h hj (ho.col b hb)];omega),λb hb=>OL h hj (ho.col b hb)⟩
theorem ff.eN (hr:ff w' aG j e us rows) (h:av I w (K.eL C) w' aG) (hF:aF w C) (hj:j=3\/j=4\/j=5):ff w' (K.eN w.heap.size C aG) j e us rows:=⟨hr.len,λk h1 h2=>(hr.own k h1 h2).eN h hF hj,hr.wQ⟩
theorem aq.eN (hr:aq w' (aj aG) x v) (h:av I w (K.eL C) w' aG) (hF:aF w C):aq w' (aj (K.eN w.heap.size C aG)) x v:=hr.mG (KY h hF)
theorem aq.eL (hr:aq w (aj C) x v):aq w (aj (K.eL C)) x v:=by rw[OI];exact hr
theorem fQ.eL {ds:List bp} (h:fQ w (aj C) ds v):fQ w (aj (K.eL C)) ds v:=by rw[OI];exact h
theorem aQ.s6 {xs:List au} (h:aQ w' aG j e v xs) (hs:av [] w ji w' aG) (hj:j≠0) (hF:aF w D) (hl:xs.length<=9223372036854775807):aq w' (aj D) xs v:=by
 rcases h.own with⟨rfl,rfl⟩|⟨g,cap,cs,hv,hg,hc,h1,h2,h3⟩
 ·exact eT
 ·subst hv;have kU:=h.col g rfl;have hn:¬aj D g:=λhD=>by
   have:=hs.col g (hF g hD);rw[kU] at this;exact hj this
  exact kT.2 ⟨_,cap,rfl,h1,hl,.inr ⟨g,0,rfl,hn,cs,e,_,hc,by rw[Nat.zero_add,h2];exact Nat.mul_le_mul_right _ h1,λi hi=>by rw[Nat.zero_add];exact nH.2 (nH.1 (h3 i hi))⟩⟩
theorem aQ.VT (ho:aQ w' aG j e v ys) (h:av I w (K.eL C) w' aG) (hF:aF w C) (hj:6<=j) (hl:ys.length<=9223372036854775807):aq w' (aj (K.eN w.heap.size C aG)) ys v:=
 ho.own.read (λb _ hb=>⟨KY h hF b hb,λCU=>by
  have hc:=ho.col b CU;unfold aj K.eN at hb;by_cases hlt:b<w.heap.size
  ·have:=h.col b hlt;have h2:=z7 C b;omega
  ·rw[if_neg hlt] at hb;split at hb<;>omega⟩) hl
end
def KZ (s5 r9 qD:Nat) (w:World) (C:Nat->Nat) (b:Nat) (bH cK gZ:Value) (rows:List (List au)) (st:iU):Prop:=
 ∃vs us iX,bS w C 3 b (.cells [bH,cK,gZ,vs,.bool st.found,iX,.int .i64 st.val].toArray s5)/\aQ w C 4 r9 vs (us.map gu.mk)/\ff w C 5 qD us rows/\aq w (aj C) st.best iX
section
variable {w w':World} {C aG:Nat->Nat} {us:List Value} {rows:List (List au)} {qD:Nat}
theorem ff.one (h:ff w C 5 qD us rows):∀k (hk:k<us.length),us[k].oneCell'=true:=λk hk=>((h.own k hk (by rw[<-h.len];exact hk)).one).2
end
theorem fQ.c0 {w:World} {M:Nat->Prop} {ds:List bp} {v:Value} (h:fQ w M ds v):fQ w (aj ji) ds v:=h.sub (λb hb=>absurd rfl hb)
section
variable {l:List aH} {ds:List bp} {rows:List (List au)} {refs:List au} {r:au} {i k:Nat} {st:iU} {C:Nat->Nat} {w:World} {us:List Value} {qD j:Nat} {xs:List au}
theorem VU {s:List au} {r:au}:pT ds s r=!(s.any λx=>eP ds x r):=rfl
theorem o4 (hk:k<rows.length) (hk2:k<(rows.set k (rows[k]++[r])).length) {i:Int} (hi:i=(((rows.set k (rows[k]++[r]))[k]'hk2).length:Int)-1): (rows.set k (rows[k]++[r])).set k (((rows.set k (rows[k]++[r]))[k]'hk2).take i.toNat)=rows:=by
 have e: (rows.set k (rows[k]++[r]))[k]'hk2=rows[k]++[r]:=by rw[List.getElem_set];simp
 rw[e] at hi⊢;have:i.toNat=rows[k].length:=by simp at hi;omega
 rw[this,List.set_set,List.take_left']
 ·simp
 ·rfl
theorem lu.VW (h:lu ds xs rows):rows.length<=xs.length:=by
 have:=h.heads.length_le;rwa [List.length_map] at this
theorem OM (hi:i<refs.length):refs.take (i+1)=refs.take i++[refs[i]]:=List.take_succ_eq_append_getElem hi
theorem yM (hk:k<rows.length) (h:pT ds rows[k] r=true) (rs:List au):sX l ds r rs rows st (k+1)=tM l ds rs (rows.set k (rows[k]++[r])) (sX l ds r rs rows st k):=by
 rw[sX,ri hk,if_pos h]
theorem yA (hk:k<rows.length) (h:pT ds rows[k] r=false) (rs:List au):sX l ds r rs rows st (k+1)=sX l ds r rs rows st k:=by
 rw[sX,ri hk,if_neg (by rw[h];decide)]
theorem lu.VX (h:lu ds (refs.take i) rows) (hi:i<refs.length) (hk:k<rows.length) (hok:pT ds rows[k] refs[i]=true):lu ds (refs.take (i+1)) (rows.set k (rows[k]++[refs[i]])):=by
 rw[OM hi];have:=h.put hk (r:=refs[i]) (by rw[ri hk];exact hok);rwa [ri hk] at this
theorem lu.new' (h:lu ds (refs.take i) rows) (hi:i<refs.length):lu ds (refs.take (i+1)) (rows++[[refs[i]]]):=by
 rw[OM hi];exact h.new _
theorem ff.yN {rows:List (List au)} (h:ff w C j qD us (rows++[xs])) {n:Nat} (hn:n=rows.length):ff w C j qD (us.take n) rows:=by
 have hl:=h.len;simp only[List.length_append,List.length_cons,List.length_nil] at hl;have e:us=us.take n++[us[n]'af]:=by
  rw[<-List.take_succ_eq_append_getElem];exact(List.take_of_length_le af).symm
 rw[e] at h;exact h.pop tA
end
section
variable {α:Type} [bn α] {w:World} {C:Nat->Nat} {P:Program} {f:FuncId} {N:Nat} {Q:Exit->Act->World->Prop} {env:Env} {ops:Array Oper} {S:World->Prop} {i t:Nat} {L:List (Nat×Bool)} {y z:Operand} {iG:Option (Nat×Bool)} {ty e e':TypeId} {us:List Value} {rows:List (List α)} {j k:Nat} {kd:IntKind} {n:Int}
theorem ff.yF (h:ff w C j e us rows) (hop:bY ops i=some (some t,.slice ty y none (some z) none,iG)) (hw:eo ops env iG=some true) (ht:Nat.blt t N=true) (hk:k<us.length) (hk':k<rows.length) (hy:ev env y=some us[k])
  (hf:j6 P ty=some (e',sz α)) (hz:ev env z=some (.int kd n)) (h0:0<=n) (h1:n<=rows[k].length) (hne:0<rows[k].length)
  (hn:∀v2,ff w C j e (us.set k v2) (rows.set k (rows[k].take n.toNat))->bN P N Q ops S L ((t,v2)::env) w):bN P N Q ops S ((i,true)::L) env w:=by
 obtain⟨v2,h2,h3⟩:=h.cut (P:=P) (N:=N) hk hk' hy hf hz h0 h1 hne;exact kL hop hw ht (λw' _=>h3 w') (hn v2 h2)
end
def mu (w:World) (C:Nat->Nat) (m:List (au×gu)) (rs:List au) (g:au->List au):Prop:=∀r∈rs,∃s:gu,eM m r=some s/\aq w (aj C) (g r) s.v
section
variable {w w':World} {C aG:Nat->Nat} {I:List Nat} {m:List (au×gu)} {rs:List au} {g g':au->List au} {l:List aH} {ds:List bp} {v:Value} {both:List au} {b:aH}
theorem mu.st (h:mu w C m rs g) (hs:av I w C w' aG) (h0:0∉I):mu w' aG m rs g:=λr hr=>let⟨s,h1,h2⟩:=h r hr;⟨s,h1,h2.st hs h0⟩
theorem mu.t (h:mu w C m rs g) (hs:av I w C w' aG) (h0:0∉I:=by first|decide|(simp<;>omega)):mu w' aG m rs g:=h.st hs h0
theorem mu.mv (h:mu w C m rs g) (hs:av I w C w' aG:=by exact pL) (h0:0∉I:=by first|decide|(simp<;>omega)):mu w' aG m rs g:=h.st hs h0
theorem mu.nil:mu w C m [] g:=λr hr=>by cases hr
theorem mu.look (h:mu w C m rs g) {r:au} (hr:r∈rs):∃v,((eM m r).getD ⟨.slice none 0 0⟩).v=v/\aq w (aj C) (g r) v:=by
 obtain⟨s,h1,h2⟩:=h r hr;exact⟨s.v,by rw[h1];rfl,h2⟩
theorem mu.put (h:mu w C m rs g) {q:au} (hv:aq w (aj C) both v) (hg:∀r∈rs,g' r=if q=r then both else g r):mu w C (ig m q ⟨v⟩) rs g':=λr hr=>by
 rw[n_,hg r hr];by_cases e:q=r
 ·rw[if_pos e,if_pos e];exact⟨⟨v⟩,rfl,hv⟩
 ·rw[if_neg e,if_neg e];exact h r hr
theorem mu.add (h:mu w C m rs λr=>[r]) {q:au} (hv:aq w (aj C) [q] v):mu w C (ig m q ⟨v⟩) (rs++[q]) λr=>[r]:=λr hr=>by
 rw[n_];by_cases e:q=r
 ·subst e;rw[if_pos rfl];exact⟨⟨v⟩,rfl,hv⟩
 ·rw[if_neg e];rcases List.mem_append.1 hr with h1|h1
  ·exact h r h1
  ·exact absurd (List.mem_singleton.1 h1).symm e
theorem jW.sub (h:jW l ds g) {r:au} (hr:r∈aM l):∀q∈g r,q∈aM l:=λq hq=>by
 by_cases h2:2<=(g r).length
 ·exact Vk (h.join r) h2 (h.nd r) hq
 ·have hs:=h.self r
  match hg:g r,h2,hs,hq with
  |[x],_,hs,hq=>rw[List.mem_singleton] at hs hq;rw[hq,<-hs];exact hr
  |[],_,hs,_=>cases hs
  |x::y::t,h2,_,_=>simp at h2
theorem jW.len (h:jW l ds g) {r:au} (hr:r∈aM l): (g r).length<=2*l.length:=by
 have h1:=(h.nd r).length_le_of_subset (h.sub hr);have:=oD l;omega
def BD (g:au->List au) (both:List au) (j:Nat):au->List au:=λr=>if r∈both.take j then both else g r
theorem pX:BD g both 0=g:=by funext r;unfold BD;rw[if_neg b_]
theorem yI {j:Nat} (hj:j<both.length) (r:au):BD g both (j+1) r=if both[j]=r then both else BD g both j r:=by
 unfold BD;rw[List.take_succ_eq_append_getElem hj];by_cases e:both[j]=r
 ·rw[if_pos e,if_pos (by rw[List.mem_append,List.mem_singleton];exact .inr e.symm)]
 ·rw[if_neg e];by_cases h:r∈both.take j
  ·rw[if_pos h,if_pos (List.mem_append.2 (.inl h))]
  ·rw[if_neg h,if_neg (λh2=>(List.mem_append.1 h2).elim h (λh3=>e (List.mem_singleton.1 h3).symm))]
theorem K0 (h:b.B∈g b.A\/ya ds (g b.A) (g b.B)=true):qy ds g b=g:=by unfold qy;rw[if_pos h]
theorem yL (h1:b.B∉g b.A) (h2:ya ds (g b.A) (g b.B)=false):qy ds g b=BD g (g b.A++g b.B) (g b.A++g b.B).length:=by
 unfold qy BD;rw[if_neg (λh=>h.elim h1 (λe=>by rw[h2] at e;cases e)),List.take_length]
theorem yE {ord:List aH} {k:Nat} (h:k<ord.length):ef ds (ord.take (k+1))=qy ds (ef ds (ord.take k)) ord[k]:=by
 unfold ef;rw[List.take_succ_eq_append_getElem h,List.foldl_append];rfl
theorem yC {refs:List au} {i:Nat} (h:i<refs.length):og (refs.take (i+1)) g=if yb g refs[i]=true then og (refs.take i) g++[jS (g refs[i])] else og (refs.take i) g:=by
 unfold og;rw[List.take_succ_eq_append_getElem h,List.filter_append];by_cases e:yb g refs[i]=true
 ·rw[if_pos e,List.filter_cons_of_pos e];simp
 ·rw[if_neg e,List.filter_cons_of_neg e];simp
theorem VY (refs:List au): (og refs g).length<=refs.length:=by
 unfold og;rw[List.length_map];exact List.length_filter_le _ _
end
def aT (r:au) (ver Bq:Int) (s:rY):Bool:=decide (s.r=r/\s.ver=ver/\s.Bq=Bq)
def aU (sh:List rY) (r:au) (ver Bq:Int):Bool:=sh.any (aT r ver Bq)
def wR (sh:List rY) (r:au) (ver:Int) (vals:List ByteArray) (fl:List Int):Nat->List rY
 |0=>[]
 |k+1=>wR sh r ver vals fl k++if(k:Int)∈fl/\aU sh r ver k=false then[⟨r,ver,k,((vals.getD k ByteArray.empty).size:Nat)⟩] else[]
def E9 (l:List rY):Int:=(l.map (·.ch)).sum
section
variable {α:Type} [bn α] {P:Program} {N:Nat} {env:Env} {w w':World} {C aG:Nat->Nat} {t e u:TypeId} {v s:Value} {x y z:Operand} {a b:Addr} {l c n:Nat} {M:Nat->Prop}
theorem Du (hx:ev env x=some (.slice (some b) l c)) (ht:P.underlying t=some (.slice e)):cE P N env (.binOp .eql t x (.const (.slice none 0 0)) u) w (.bool false):=mk' λρ hρ o ho=>by
 unfold execOp;rw[ho];have hc:ρ (.const (.slice none 0 0))=.slice none 0 0:=hρ _ _ rfl;have h1: (Op.equalIn Op.maxDepth t (.slice (some b) l c) (.slice none 0 0)).run P w=.ok false w:=by rw[show Op.maxDepth=9999+1 from rfl,Op.equalIn];simp[run_underlying ht]
 simp[hρ _ _ hx,hc,go_sem,eqGuard,binOp,Op.equal,h1]
theorem OO (hx:ev env x=some (.slice none l c)) (ht:P.underlying t=some (.slice e)):cE P N env (.binOp .eql t x (.const (.slice none 0 0)) u) w (.bool true):=mk' λρ hρ o ho=>by
 unfold execOp;rw[ho];have hc:ρ (.const (.slice none 0 0))=.slice none 0 0:=hρ _ _ rfl;have h1: (Op.equalIn Op.maxDepth t (.slice none l c) (.slice none 0 0)).run P w=.ok true w:=by rw[show Op.maxDepth=9999+1 from rfl,Op.equalIn];simp[run_underlying ht]
 simp[hρ _ _ hx,hc,go_sem,eqGuard,binOp,Op.equal,h1]
theorem E_ {bytes:Nat} (hF:aF w C) (hrow:rO P t e n bytes=true):g_ P N env (.buildSlice t 0 #[]) w (λv w'=>(∃a,v=.slice (some a) 0 0)/\av [] w C w' C/\aF w' C):=sP λρ hρ fB gO=>by
 obtain⟨i,z,hu,hi,hsi,hby,hz,hzs⟩:=A8 hrow;have Gx: (sizeOf e).run P w=.ok n w:=by simp[sizeOf,typeInfo,hi,hsi]
 have hnew:=zj w (.cells #[] e);have hrun: (Instr.buildSlice t 0 #[]).run P w=.ok (.slice (some ⟨w.heap.size,0,none⟩) 0 0) (w.alloc (.cells #[] e)):=by
  unfold Instr.buildSlice;simp[run_underlying hu,Gx,Instr.fill,newRow,show Array.range 0=(#[]:Array Nat) from by simp[Array.range]]
 refine⟨.slice (some ⟨w.heap.size,0,none⟩) 0 0,w.alloc (.cells #[] e),.inl ?_,⟨_,rfl⟩,hnew.st C,hF.st (hnew.st C)⟩;unfold execOp;rw[gO];simp only[Sem.run_bind];rw[show Array.map (λx:Nat×Operand=>(x.fst,ρ x.snd)) #[]=#[] from by simp,hrun];rfl
theorem VZ {bytes:Nat} (hx:ev env x=some (.slice (some a) 0 0)) (hy:ev env y=some s) (hrow:rO P t e (sz α) bytes=true) (hsrc:aq w M ([]:List α) s):
  g_ P N env (.call {callee:=.builtin .append,args:=#[x,y],argTypes:=#[t,t]}) w (λv' w'=>v'=.slice (some a) 0 0/\av [] w C w' C):=sP λρ hρ fB gO=>by
 obtain⟨i,z,hu,hi,tE,hby,hz,hzs⟩:=A8 hrow;obtain⟨a2,c,rfl,hcap,hl0,JJ⟩:=kT.1 hsrc;have hf: (Builtin.firstCells i.size 0 (.slice a2 0 c)).run P w=.ok #[] w:=by cases a2<;>simp[Builtin.firstCells,loadCells,loadCellsFrom]
 have hrun: (Builtin.append_ #[t,t] fB.type #[.slice (some a) 0 0,.slice a2 0 c]).run P w=.ok (.slice (some a) 0 0) w:=by
  simp[Builtin.append_,run_underlying hu,sizeOf,typeInfo,hi,Builtin.lenOf,hf,storeCells]
 refine⟨_,w,.inl ?_,rfl,av.refl _ _ _⟩;unfold execOp;rw[gO];simp[hρ _ _ hx,hρ _ _ hy,resolve,invoke,builtin,hrun]
theorem Fa {a:Addr}:aq w M ([]:List α) (.slice (some a) 0 0):=kT.2 ⟨_,0,rfl,Nat.le_refl _,by simp,.inl rfl⟩
end
section
variable {α:Type} [bn α] {P:Program} {N:Nat} {env:Env} {w:World} {C:Nat->Nat} {t ti e j n l c:Nat} {y z:Operand} {a:Addr}
theorem cU {bytes:Nat} (hF:aF w C) (hj:j≠0) (hy:ev env y=some (.slice none 0 0)) (hz:ev env z=some (.int .i64 n)) (hrow:rO P t e (sz α) bytes=true) (hsz:0<sz α) (hby:bytes<=100000)
  (cG:P.underlying ti=some (.int .i64)) (h0:0<n) (hn:n<=1000000):
  g_ P N env (.call {callee:=.builtin .append,args:=#[y,z],argTypes:=#[t,ti]}) w (λv w'=>∃aG g cap,v=.slice (some ⟨g,0,none⟩) n cap/\av [] w C w' aG/\aQ w' aG j e (.slice (some ⟨g,0,none⟩) 0 cap) ([]:List α)/\aF w' aG):=sP λρ hρ fB gO=>by
 obtain⟨i,mD,hu,hi,hsi,hb,JQ,hzs⟩:=A8 hrow;have hr:=Lib.run_append_nil_zeros (P:=P) w t ti fB.type e i mD .i64 .i64 hu cG hi JQ n h0 (by rw[hsi];exact hsz) af (by rw[hb];have:=Nat.mul_le_mul hn hby;omega);have hge:=grownCap_ge w n 0 e;obtain⟨cap,hcap⟩:∃cap,cap=grownCap w n 0 e:=⟨_,rfl⟩
 rw[<-hcap] at hr hge;have BF:=A7 w (.cells (Builtin.zeroCells mD.cells n++Builtin.zeroCells mD.cells (cap-n)) e (0,0));obtain⟨aG,h1,h2,h3⟩:=BF.own hF j;refine⟨_,_,.inl ?_,aG,_,cap,rfl,h1,⟨.inr ⟨w.heap.size,cap,_,rfl,?_,h2.at_,Nat.zero_le _,?_,λk hk=>by simp at hk⟩,λb hb=>?_⟩,h3⟩
 ·unfold execOp;rw[gO];simp[hρ _ _ hy,hρ _ _ hz,resolve,invoke,builtin,hr]
 ·unfold aj;rw[h2.col];exact hj
 ·rw[Array.size_append,size_zeroCells,size_zeroCells,hzs,<-Nat.add_mul];congr 1;omega
 ·simp only[cQ,Value.ownBlock,Option.some.injEq] at hb;subst hb;exact h2.col
theorem V0 {b:Option Addr} (hx:ev env y=some (.slice b l c)) (ht:P.underlying t=some (.slice e)):
  cE P N env (.call {callee:=.builtin .cap,args:=#[y],argTypes:=#[t]}) w (.int .i64 c):=mk' λρ hρ o ho=>by
 unfold execOp;rw[ho];simp[hρ _ _ hx,go_sem,resolve,invoke,builtin,Builtin.cap_,run_underlying ht,goInt]
theorem oS (hx:ev env y=some (.slice none 0 0)) (hz:ev env z=some (.int .i64 0)) (hu:P.underlying t=some (.slice e)) (hi: (P.info? e).isSome=true):cE P N env (.slice t y none (some z) none) w (.slice none 0 0):=mk' λρ hρ o ho=>by
 obtain⟨i,hi⟩:=Option.isSome_iff_exists.1 hi;unfold execOp;rw[ho];simp[hρ _ _ hx,hρ _ _ hz,Instr.sliceAt,Instr.slice,run_underlying hu,Instr.sliceBounds,Instr.sliceBound,asIntOf,sizeOf,typeInfo,hi]
theorem iR {g:Nat} (hx:ev env y=some (.slice (some ⟨g,0,none⟩) l c)) (hz:ev env z=some (.int .i64 0)) (hu:P.underlying t=some (.slice e)) (hi: (P.info? e).isSome=true):cE P N env (.slice t y none (some z) none) w (.slice (some ⟨g,0,none⟩) 0 c):=mk' λρ hρ o ho=>by
 obtain⟨i,hi⟩:=Option.isSome_iff_exists.1 hi;unfold execOp;rw[ho];simp[hρ _ _ hx,hρ _ _ hz,Instr.sliceAt,Instr.slice,run_underlying hu,Instr.sliceBounds,Instr.sliceBound,asIntOf,sizeOf,typeInfo,hi];exact λ_=>rfl
end
section
variable {α:Type}
theorem K1 {ll:List (List α)} {k:Nat} (h:k<ll.length): (ll.take (k+1)).flatten=(ll.take k).flatten++ll[k]:=by
 rw[List.take_succ_eq_append_getElem h,List.flatten_append];simp
theorem BG {ll:List (List α)} (k:Nat): (ll.take k).flatten.length<=ll.flatten.length:=by
 have:ll.flatten.length=(ll.take k).flatten.length+(ll.drop k).flatten.length:=by rw[<-List.length_append,<-List.flatten_append,List.take_append_drop]
 omega
end
theorem K2 {x y:Int}:kD x y=0↔x=y:=by unfold kD;split<;>(try split)<;>omega
theorem V1 {x y:Int}:0<kD x y↔y<x:=by unfold kD;split<;>(try split)<;>omega
theorem Fb (a b c:Int):iT [a,b,c]=if a≠0 then a else if b≠0 then b else c:=by
 unfold iT;by_cases h:a=0
 ·simp[h];unfold iT;by_cases h2:b=0
  ·simp[h2,iT];exact λe=>e.symm
  ·simp[h2]
 ·simp[h]
theorem Fc (a b:Int):iT [a,b]=if a≠0 then a else b:=by
 unfold iT;by_cases h:a=0
 ·simp[h,iT];exact λe=>e.symm
 ·simp[h]
section
variable {P:Program} {f:FuncId} {N:Nat} {k:List Item} {env:Env} {w:World} {R:Value->World->Prop}
theorem V2 {c:Code} {fn:Func} {a ty b u u2:Nat} {x uN:Value} {Bf:Nat} {cs:List Value} {eV:Nat×Nat} {n:Nat} (hc:c=.ret) (hf:P.funcs[f]?=some fn) (hres:fn.results=#[.cell a ty,.tmp u,.tmp u2]) (hv:look env a=some (.pointer (some ⟨b,0,none⟩)))
  (hx:look env u=some x) (hx2:look env u2=some uN) (hb:w.heap[b]?=some (.cells cs.toArray Bf eV)) (ha:gH P ty=some true) (hs:gN P ty=some n) (hl:cs.length=n)
  (hR:R (.tuple #[.agg cs.toArray,x,uN]) w):Run P f N (.code c::k) env w R:=λa' j8=>by
 subst hc;refine Cx hf j8.defers ?_ hR;have h1:=j8.slot a _ hv;have h3:=j8.slot u _ hx;have h4:=j8.slot u2 _ hx2;have h2:=Ng hb ha hs hl;simp only[results,hres];simp[h1,h3,h4,Array.getD_eq_getD_getElem?,asAddr,h2]
end
def V3 (pr:Int) (aJ df:List Int) (lo hh:Int) (p:Nat) (Fe:Int) (sh:List rY) (A B:au) (tQ tR:List ByteArray) (BH z8:Int) (OP:Int) (KP now:List rY) (e:Int):Prop:=
 ∃fl ok,Dl pr aJ df lo hh p fl ok/\
  ((ok=false/\e=13)\/
   (ok=true/\∃BI z2,fm UW (sh++wR sh A BH tQ fl tQ.length) BI/\fm UW (BI++wR BI B z8 tR fl tR.length) z2/\
    ((Fe<E9 (wR sh A BH tQ fl tQ.length)+E9 (wR BI B z8 tR fl tR.length)/\e=45)\/
     (E9 (wR sh A BH tQ fl tQ.length)+E9 (wR BI B z8 tR fl tR.length)<=Fe/\e=0/\KP=z2/\now=wR sh A BH tQ fl tQ.length++wR BI B z8 tR fl tR.length/\
      OP=Fe-(E9 (wR sh A BH tQ fl tQ.length)+E9 (wR BI B z8 tR fl tR.length))))))
def Hy (x y:bp):Prop:=x.A.a<y.A.a\/(x.A.a=y.A.a/\(x.A.b<y.A.b\/(x.A.b=y.A.b/\(x.B.a<y.B.a\/(x.B.a=y.B.a/\(x.B.b<y.B.b\/(x.B.b=y.B.b/\(x.bz<y.bz\/(x.bz=y.bz/\x.bH<y.bH)))))))))
def Ff (x y:au):Prop:=x.a<y.a\/(x.a=y.a/\x.b<y.b)
def V4 (x y:au):Prop:=x.a=y.a/\x.b=y.b
theorem Fg {x y:au}: (j9 x y<0↔Ff x y)/\(j9 x y=0↔V4 x y)/\(0<j9 x y↔Ff y x):=by
 unfold j9 Ff V4;rw[Fc];have a1:= @Kz x.a y.a;have a2:= @K2 x.a y.a;have a3:= @V1 x.a y.a;have b1:= @Kz x.b y.b;have b2:= @K2 x.b y.b;have b3:= @V1 x.b y.b;by_cases h1:kD x.a y.a=0
 ·rw[if_neg af];refine⟨?_,?_,?_⟩<;>omega
 ·rw[if_pos h1];refine⟨?_,?_,?_⟩<;>omega
def fU (x y:List au):Int:=j9 (x.headD ⟨0,0⟩) (y.headD ⟨0,0⟩)
theorem OQ {x y:List au} (hx:0<x.length) (hy:0<y.length):fU x y=j9 x[0] y[0]:=by
 unfold fU;rw[List.headD_eq_head?_getD,List.headD_eq_head?_getD,List.head?_eq_getElem?,List.head?_eq_getElem?,List.getElem?_eq_getElem hx,List.getElem?_eq_getElem hy];rfl
theorem V5:mZ j9 (λ_=>True):=⟨λx y _ _=>by
 rw[(Fg (x:=x) (y:=y)).1,(Fg (x:=y) (y:=x)).2.2],λx y z _ _ _ h1 h2=>by
 have a:=(Fg (x:=x) (y:=y)).2.2;have b:=(Fg (x:=y) (y:=z)).2.2;have c:=(Fg (x:=x) (y:=z)).2.2;have xF:¬Ff y x:=λh=>by have:=a.2 h;omega
 have CM:¬Ff z y:=λh=>by have:=b.2 h;omega
 refine Int.not_lt.1 λh=>?_;have h3:=c.1 h;unfold Ff at xF CM h3;omega⟩
theorem Fh:mZ fU (λ_=>True):=⟨λx y _ _=>by unfold fU;exact V5.1 _ _ trivial trivial,λx y z _ _ _=>by unfold fU;exact V5.2 _ _ _ trivial trivial trivial⟩
section
variable {α:Type} {ys zs:List α} {σ:Nat->Nat}
theorem fO.sub (h:fO ys σ zs):∀x∈zs,x∈ys:=λx hx=>by
 obtain⟨i,hi,rfl⟩:=List.getElem_of_mem hx;have hi':i<ys.length:=by rw[<-h.len];exact hi
 rw[h.get hi'];exact List.getElem_mem _
end
noncomputable def Hz (ds:List bp) (l:List aH):List (List au)×Int:=(sY l ds,0)
noncomputable def dK (ds:List bp) (l:List aH):List (List au)×Int:=if((aM l).length:Int)<=8 then(rj l ds,0) else(sY l ds,0)
def V6 (P:Program) (g:Nat) (l:List aH) (ds:List bp) (wf:List aH->List (List au)×Int):Prop:=
 ∀(w1:World) (aK:Nat->Nat) (i:Nat) (hi:i<(aY l).length) (OS bH cK:Value),aF w1 aK->aq w1 (aj aK) (aY l)[i] OS->fQ w1 (aj aK) ds cK->
  Calls P g #[.agg #[bH,cK],OS] w1 (aZ λv w'=>∃cH,v=.tuple #[cH,.int .i64 (wf (aY l)[i]).2]/\av [] w1 aK w' aK/\aq w' (aj aK) (wf (aY l)[i]).1 cH)
def eE (wf:List aH->List (List au)×Int) (ps:List (List aH)):List (List au):=ps.flatMap λp=>(wf p).1
theorem z_ {wf:List aH->List (List au)×Int} {ps:List (List aH)} {k:Nat} (h:k<ps.length):eE wf (ps.take (k+1))=eE wf (ps.take k)++(wf ps[k]).1:=by
 unfold eE;rw[List.take_succ_eq_append_getElem h,List.flatMap_append];simp
theorem Dv {wf:List aH->List (List au)×Int} {ps:List (List aH)} (k:Nat): (eE wf (ps.take k)).length<=(eE wf ps).length:=by
 have:eE wf ps=eE wf (ps.take k)++eE wf (ps.drop k):=by unfold eE;rw[<-List.flatMap_append,List.take_append_drop]
 rw[this,List.length_append];omega
def tS {α:Type} [bn α] (w:World) (C:Nat->Nat) (j:Nat) (e:TypeId) (v:Value) (ys:List α):Prop:=aQ w C j e v ys\/(ys=[]/\∃a,v=.slice (some a) 0 0)
section
variable {α:Type} [bn α] {P:Program} {N:Nat} {env:Env} {w w':World} {C aG aK D:Nat->Nat} {I:List Nat} {t e:TypeId} {v s:Value} {x y z:Operand} {xs ys zs:List α} {j j1 n:Nat}
theorem tS.st (h:tS w C j e v ys) (hs:av I w C w' aG) (h0:0∉I) (hj:j∉I):tS w' aG j e v ys:=h.imp (λh=>h.st hs h0 hj) id
theorem tS.u (h:tS w C j e v ys) (hs:av I w C w' aG) (h0:0∉I:=by first|decide|(simp<;>omega)) (hj:j∉I:=by first|decide|(simp<;>omega)):tS w' aG j e v ys:=h.st hs h0 hj
theorem tS.ln (h:tS w C j e v ys):∃a c,v=.slice a ys.length c:=by
 rcases h with h|⟨rfl,a,rfl⟩
 ·exact h.own.len
 ·exact⟨_,_,rfl⟩
theorem tS.one (h:tS w C j e v ys):v.cells=#[v]/\v.oneCell'=true:=by
 rcases h with h|⟨rfl,a,rfl⟩
 ·exact h.one
 ·exact⟨rfl,rfl⟩
end
section
variable {α:Type} [bn α] {w:World} {C:Nat->Nat} {P:Program} {f:FuncId} {N:Nat} {k:List Item} {R:Value->World->Prop} {Q:Exit->Act->World->Prop} {env:Env} {ops:Array Oper} {S:World->Prop} {i t:Nat} {L:List (Nat×Bool)} {v v2:Value} {y z:Operand} {iG:Option (Nat×Bool)} {ty e e':TypeId} {xs:List α} {j g:Nat} {kd:IntKind} {n:Int}
end
section
variable {α:Type} [bn α] {w w':World} {C aG:Nat->Nat} {I:List Nat} {e:TypeId} {v:Value} {ys:List α} {j:Nat}
theorem tS.mv (h:tS w C j e v ys) (hs:av I w C w' aG:=by exact pL) (h0:0∉I:=by first|decide|(simp<;>omega)) (hj:j∉I:=by first|decide|(simp<;>omega)):tS w' aG j e v ys:=h.st hs h0 hj
end
section
variable {α:Type} {ys zs us:List α} {σ d_:Nat->Nat} {c:α->α->Int} {P:α->Prop}
theorem oR {n:Nat} (h:fV σ 0 n): ((List.range n).map σ).Perm (List.range n):=by
 have gi: ((List.range n).map σ).Nodup:=by
  rw[List.nodup_iff_pairwise_ne,List.pairwise_map];exact(List.nodup_iff_pairwise_ne.1 List.nodup_range).imp (λhne e=>hne (h.inj _ _ e))
 have hsub: (List.range n).map σ⊆List.range n:=λx hx=>by
  obtain⟨i,hi,rfl⟩:=List.mem_map.1 hx;exact List.mem_range.2 (h.mc i af (List.mem_range.1 hi)).2
 refine(List.perm_ext_iff_of_nodup gi List.nodup_range).2 λa=>⟨λha=>hsub ha,λha=>?_⟩
 apply Classical.byContradiction;intro hn;have h1: (a::(List.range n).map σ).Nodup:=List.nodup_cons.2 ⟨hn,gi⟩;have h2:=h1.length_le_of_subset (l₂:=List.range n) (λx hx=>by
  rcases List.mem_cons.1 hx with rfl|hx
  ·exact ha
  ·exact hsub hx)
 simp at h2;omega
theorem fm.perm (h:fm c ys zs):zs.Perm ys:=by
 obtain⟨σ,h1,h2,h3⟩:=h;have e1:zs.map some=((List.range ys.length).map σ).map (λi=>ys[i]?):=by
  apply List.ext_getElem
  ·simp[h1.len]
  ·intro i hi hj;have hlt:i<ys.length:=by simpa[h1.len] using hi
   simp only[List.getElem_map,List.getElem_range];rw[<-(h1.at_ i hlt).2,List.getElem?_eq_getElem (by rw[h1.len];exact hlt)]
 have e2:ys.map some=(List.range ys.length).map (λi=>ys[i]?):=by
  apply List.ext_getElem
  ·simp
  ·intro i hi hj;simp only[List.getElem_map,List.getElem_range];rw[List.getElem?_eq_getElem (by simpa using hi)]
 have eH: (zs.map some).Perm (ys.map some):=by rw[e1,e2];exact(oR h2).map _
 have iM:=eH.filterMap id;simpa using iM
theorem fm.le (h:fm c ys zs) {i j:Nat} (hij:i<j) (hj:j<zs.length):c (zs[i]'af) zs[j]<=0:=by
 obtain⟨σ,h1,h2,h3⟩:=h;have hl:=h1.len;rw[h1.get (show i<ys.length by omega),h1.get (show j<ys.length by omega)];obtain⟨_,_,h4⟩:=h3 i j af hij af;omega
theorem fm.self (h:∀i j (hij:i<j) (hj:j<ys.length),c (ys[i]'af) ys[j]<0):fm c ys ys:=
 ⟨λi=>i,fO.id ys,fV.id _ _,λi j h1 h2 h3=>⟨Nat.lt_trans h2 h3,h3,.inl (h i j h2 h3)⟩⟩
end
section
variable {sh z:List rY} {r r2:au} {ver z8:Int} {vals:List ByteArray} {fl:List Int} {k:Nat}
end
section
variable {pr:Int} {aJ df:List Int} {lo hi:Int} {p:Nat} {fl V7:List Int} {ok ajR:Bool}
end
section
variable {pr:Int} {aJ df:List Int} {lo hh:Int} {p:Nat} {Fe:Int} {sh:List rY} {ds:List bp} {A B:au} {tQ tR:List ByteArray} {BH z8 OP e:Int} {KP now:List rY}
theorem V3.code (h:V3 pr aJ df lo hh p Fe sh A B tQ tR BH z8 OP KP now e):e=0\/e=13\/e=45:=by
 obtain⟨fl,ok,_,⟨_,h⟩|⟨_,BI,z2,_,_,⟨_,h⟩|⟨_,h,_⟩⟩⟩:=h
 ·exact .inr (.inl h)
 ·exact .inr (.inr h)
 ·exact .inl h
end
section
variable {l:List aH} {ds:List bp} {wf:List aH->List (List au)×Int} {zs:List (List au)}
theorem nO {α:Type} (d:α) (ps:List α):ps=(List.range ps.length).map λi=>ps.getD i d:=by
 apply List.ext_getElem
 ·simp
 ·intro i h1 h2;simp[List.getD_eq_getElem?_getD,h1]
def partOf (wf:List aH->List (List au)×Int) (l:List aH) (i:Nat):List (List au):=(wf ((aY l).getD i [])).1
theorem OT {i:Nat} (h:i<(aY l).length):partOf wf l i=(wf (aY l)[i]).1:=by unfold partOf;rw[List.getD_eq_getElem?_getD,List.getElem?_eq_getElem h];rfl
theorem V8:eE wf (aY l)=(List.range (aY l).length).flatMap (partOf wf l):=by
 unfold eE;rw[nO [] (aY l),List.flatMap_map];simp only[List.length_map,List.length_range];congr 1
theorem V9 (hQ:∀i (h:i<(aY l).length),eU (aY l)[i] ds (wf (aY l)[i]).1): (eE wf (aY l)).flatten.Nodup:=by
 rw[V8];have V_:∀i (h:i<(aY l).length),eU (aY l)[i] ds (partOf wf l i):=λi h=>by rw[OT h];exact hQ i h
 have key:∀k,k<=(aY l).length->((List.range k).flatMap (partOf wf l)).flatten.Nodup/\∀r∈((List.range k).flatMap (partOf wf l)).flatten,∃i,∃h:i<(aY l).length,i<k/\r∈aM (aY l)[i]:=by
  intro k
  induction k with
  |zero=>intro _;simp
  |succ k ih=>
   intro hk;obtain⟨h1,h2⟩:=ih af;have ay:k<(aY l).length:=by omega
   have e: ((List.range (k+1)).flatMap (partOf wf l)).flatten=((List.range k).flatMap (partOf wf l)).flatten++(partOf wf l k).flatten:=by
    rw[List.range_succ,List.flatMap_append,List.flatten_append];simp
   have hin:∀r∈(partOf wf l k).flatten,r∈aM (aY l)[k]:=λr hr=>by
    obtain⟨p,hp,hr⟩:=List.mem_flatten.1 hr;exact(V_ k ay).refs hp hr
   rw[e];refine⟨List.nodup_append.2 ⟨h1,(V_ k ay).zR,λa ha b hb e2=>?_⟩,λr hr=>?_⟩
   ·subst e2;obtain⟨i,hi,hik,h3⟩:=h2 a ha;have:=Oo hi ay h3 (hin a hb);omega
   ·rcases List.mem_append.1 hr with h3|h3
    ·obtain⟨i,hi,hik,h4⟩:=h2 r h3;exact⟨i,hi,by omega,h4⟩
    ·exact⟨k,ay,by omega,hin r h3⟩
 exact(key _ (Nat.le_refl _)).1
theorem OU {p:List au} (hp:p∈eE wf (aY l)):∃i,∃h:i<(aY l).length,p∈(wf (aY l)[i]).1:=by
 unfold eE at hp;obtain⟨q,hq,h2⟩:=List.mem_flatMap.1 hp;obtain⟨i,hi,rfl⟩:=List.getElem_of_mem hq;exact⟨i,hi,h2⟩
theorem HA (hQ:∀i (h:i<(aY l).length),eU (aY l)[i] ds (wf (aY l)[i]).1):∀p∈eE wf (aY l),2<=p.length:=λp hp=>by
 obtain⟨i,h,h2⟩:=OU hp;exact(hQ i h).len p h2
theorem OV:∀{ps:List (List au)},(∀p∈ps,2<=p.length)->2*ps.length<=ps.flatten.length
 |[],_=>by simp
 |p::ps,h=>by
  have h1:=h p List.mem_cons_self;have h2:=OV (ps:=ps) (λq hq=>h q (List.mem_cons_of_mem _ hq));simp only[List.flatten_cons,List.length_append,List.length_cons];omega
theorem Dw (hQ:∀i (h:i<(aY l).length),eU (aY l)[i] ds (wf (aY l)[i]).1):2*(eE wf (aY l)).length<=(aM l).length:=by
 refine Nat.le_trans (OV (HA hQ)) ((V9 hQ).length_le_of_subset λr hr=>?_);obtain⟨p,hp,hr⟩:=List.mem_flatten.1 hr;obtain⟨i,h,h2⟩:=OU hp;exact((uV h).1 ((hQ i h).refs h2 hr)).1
theorem Wa:∀{ps:List (List au)},ps.flatten.Nodup->ps.Pairwise λp q=>∀x∈p,x∉q
 |[],_=>List.Pairwise.nil
 |p::ps,h=>by
  rw[List.flatten_cons,List.nodup_append] at h;exact List.pairwise_cons.2 ⟨λq hq x hx hx2=>h.2.2 x hx x (List.mem_flatten.2 ⟨q,hq,hx2⟩) rfl,Wa h.2.1⟩
theorem zG (hQ:∀i (h:i<(aY l).length),eU (aY l)[i] ds (wf (aY l)[i]).1) (h:fm fU (eE wf (aY l)) zs):zs.Pairwise λp q=>eF (p.headD ⟨0,0⟩) (q.headD ⟨0,0⟩):=by
 have hn:zs.flatten.Nodup:=(h.perm.flatten.nodup_iff).2 (V9 hQ);have hd:=Wa hn;rw[List.pairwise_iff_getElem] at hd⊢;intro i j hi hj hij;have h1:=h.le hij hj;have h2:=hd i j hi hj hij;have l1:=HA hQ _ (h.perm.mem_iff.1 (List.getElem_mem hi));have l2:=HA hQ _ (h.perm.mem_iff.1 (List.getElem_mem hj));have hm:∀{s:List au},2<=s.length->s.headD ⟨0,0⟩∈s:=λ{s} h=>by cases s with|nil=>simp at h|cons a t=>simp
 refine xL.1 ?_;unfold fU at h1;rcases Int.lt_or_eq_of_le h1 with h3|h3
 ·exact h3
 ·have h4:=(Fg (x:=zs[i].headD ⟨0,0⟩) (y:=zs[j].headD ⟨0,0⟩)).2.1.1 h3;have h5:zs[i].headD ⟨0,0⟩=zs[j].headD ⟨0,0⟩:=by
   generalize zs[i].headD ⟨0,0⟩=a at h4;generalize zs[j].headD ⟨0,0⟩=b at h4;obtain⟨a1,a2⟩:=a;obtain⟨b1,b2⟩:=b;obtain⟨e1,e2⟩:=h4;simp only at e1 e2;subst e1 e2;rfl
  exact absurd (h5▸hm l2:zs[i].headD ⟨0,0⟩∈zs[j]) (h2 _ (hm l1))
theorem zA (hQ:∀i (h:i<(aY l).length),eU (aY l)[i] ds (wf (aY l)[i]).1) (h:fm fU (eE wf (aY l)) zs):
  eU l ds zs/\∀i (h:i<(aY l).length),fc (aY l)[i] zs=fc (aY l)[i] (wf (aY l)[i]).1:=by
 obtain⟨h1,h2⟩:=Zq (Q:=partOf wf l) (λi hi=>by rw[OT hi];exact hQ i hi) (by rw[<-V8];exact h.perm) (zG hQ h);exact⟨h1,λi hi=>by rw[h2 i hi,OT hi]⟩
theorem zB {α:Type} {c:α->α->Int} {ys:List α}:∀x∈uT c ys,x∈ys:=λx hx=>by
 unfold uT at hx;split at hx
 ·rename_i h;exact h.choose_spec.sub x hx
 ·exact hx
theorem OW (l:List aH) (ds:List bp):eU l ds (sY l ds):=x6 l ds zB
theorem zH (l:List aH) (ds:List bp):eU l ds []:=⟨by simp,by simp,by simp,by simp,by simp,by simp⟩
theorem zI (ds:List bp) (l:List aH):eU l ds (Hz ds l).1:=OW l ds
theorem ye (ds:List bp) (l:List aH):eU l ds (dK ds l).1:=by
 unfold dK;split
 ·exact Vr l ds
 ·exact OW l ds
theorem Wb {i:Nat} (h:i<(aY l).length): (aY l)[i]≠[]:=λe=>by
 have hq:=List.getElem_mem (Dg h);have hr: (eC (bZ l) (aM l))[i]'(Dg h)∈aM l:=(CT _ _).subset hq;have:=(uV h).2 ⟨hr,rfl⟩;rw[e] at this;obtain⟨x,hx,_⟩:=jG.1 this;cases hx
theorem OX {i:Nat} (h:i<(aY l).length): (aY l)[i].length<=l.length:=by
 rw[Hg];exact List.length_filter_le _ _
theorem zO {i:Nat} (h:i<(aY l).length): (aM (aY l)[i]).length<=(aM l).length:=
 (xM _).length_le_of_subset λr hr=>((uV h).1 hr).1
end
section
variable {l l':List aH} {ds ds':List bp} {ps zs us:List (List au)}
theorem dD (h:∀a b,kF ds a b=true->kF ds' a b=true) {a b:au} (hb:eP ds' a b=false):eP ds a b=false:=by
 unfold eP at*;simp only[Bool.or_eq_false_iff] at*;refine⟨⟨hb.1.1,?_⟩,?_⟩
 ·rw[Bool.eq_false_iff];intro e;rw[h _ _ e] at hb;exact absurd hb.1.2 ak
 ·rw[Bool.eq_false_iff];intro e;rw[h _ _ e] at hb;exact absurd hb.2 ak
theorem eU.more (h:∀x∈l,x∈l') (hP:eU l ds ps):eU l' ds ps:=
 ⟨hP.jw,hP.len,hP.bar,λp hp=>Vt h (hP.join p hp),hP.zR,hP.heads⟩
theorem eU.free (h:∀a b,kF ds a b=true->kF ds' a b=true) (hP:eU l ds' ps):eU l ds ps:=
 ⟨hP.jw,hP.len,λp hp=>(hP.bar p hp).imp λh1=>dD h h1,hP.join,hP.zR,hP.heads⟩
theorem fm.map {α β:Type} {c:α->α->Int} {c':β->β->Int} {f:α->β} (hc:∀x y,(c' (f x) (f y)<0↔c x y<0)/\(c' (f x) (f y)=0↔c x y=0)) {ys zs:List α} (h:fm c ys zs):fm c' (ys.map f) (zs.map f):=by
 obtain⟨σ,h1,h2,h3⟩:=h;refine⟨σ,⟨by rw[List.length_map,List.length_map,h1.len],λi hi=>?_⟩,by rw[List.length_map];exact h2,λi j a b d=>?_⟩
 ·rw[List.length_map] at hi;have:=h1.at_ i hi;exact⟨by rw[List.length_map];exact this.1,by rw[List.getElem?_map,List.getElem?_map,this.2]⟩
 ·rw[List.length_map] at d;obtain⟨e1,e2,eH⟩:=h3 i j a b d;refine⟨by rw[List.length_map];exact e1,by rw[List.length_map];exact e2,?_⟩;rw[List.getElem_map,List.getElem_map,(hc _ _).1,(hc _ _).2];exact eH
end
def OY (p:Nat) (x:aH):Prop:=x.A.a=0/\1<=x.A.b/\x.A.b<p/\x.B.a=1/\(x.B.b=x.A.b\/x.B.b=x.A.b+1)/\1<=x.w/\x.w<=9
structure OZ (p:Nat) (l:List aH):Prop where
 ok:∀x∈l,OY p x
 jw:l.Pairwise kN
 len:l.length=2*(p-1)
 e1:∀i:Nat,1<=i->i<p->∃w,(⟨⟨0,i⟩,⟨1,i⟩,w⟩:aH)∈l
 e2:∀i:Nat,1<=i->i<p->∃w,(⟨⟨0,i⟩,⟨1,i+1⟩,w⟩:aH)∈l
theorem OZ.push {p:Nat} {l:List aH} {q1 q2:Nat} (h:OZ p l) (hp:1<=p) (h1: (q1:Int)<9) (h2: (q2:Int)<9):OZ (p+1) (l++[⟨⟨0,p⟩,⟨1,p⟩,1+q1⟩,⟨⟨0,p⟩,⟨1,p+1⟩,1+q2⟩]):=by
 refine⟨λx hx=>?_,?_,?_,λi h3 h4=>?_,λi h3 h4=>?_⟩
 ·rcases List.mem_append.1 hx with hx|hx
  ·have:=h.ok x hx;unfold OY at*;omega
  ·simp only[List.mem_cons,List.not_mem_nil,or_false] at hx;rcases hx with rfl|rfl
   ·exact⟨rfl,by show(1:Int)<=p;omega,by show(p:Int)<(p+1:Nat);omega,rfl,.inl rfl,by show(1:Int)<=1+q1;omega,by show(1:Int)+q1<=9;omega⟩
   ·exact⟨rfl,by show(1:Int)<=p;omega,by show(p:Int)<(p+1:Nat);omega,rfl,.inr rfl,by show(1:Int)<=1+q2;omega,by show(1:Int)+q2<=9;omega⟩
 ·rw[List.pairwise_append];refine⟨h.jw,?_,λx hx y hy=>?_⟩
  ·rw[List.pairwise_cons];refine⟨λy hy=>?_,List.pairwise_singleton _ _⟩;simp only[List.mem_singleton] at hy;subst hy;exact .inr ⟨rfl,.inr ⟨rfl,by show(p:Int)<p+1;omega⟩⟩
  ·have h3:=h.ok x hx;unfold OY at h3;simp only[List.mem_cons,List.not_mem_nil,or_false] at hy;rcases hy with rfl|rfl
   ·exact .inl (.inr ⟨h3.1,h3.2.2.1⟩)
   ·exact .inl (.inr ⟨h3.1,h3.2.2.1⟩)
 ·rw[List.length_append,h.len];simp only[List.length_cons,List.length_nil];omega
 ·by_cases e:i=p
  ·subst e;exact⟨1+q1,by simp⟩
  ·obtain⟨w,hw⟩:=h.e1 i h3 af;exact⟨w,List.mem_append.2 (.inl hw)⟩
 ·by_cases e:i=p
  ·subst e;exact⟨1+q2,by simp⟩
  ·obtain⟨w,hw⟩:=h.e2 i h3 af;exact⟨w,List.mem_append.2 (.inl hw)⟩
section
variable {p:Nat} {l:List aH}
end
def ru (R I:Nat) (x:bp):Prop:=0<=x.A.a/\x.A.a<x.B.a/\x.B.a<R/\1<=x.A.b/\x.A.b<=I/\1<=x.B.b/\x.B.b<=I/\1<=x.bz/\x.bz<=2/\1<=x.bH/\x.bH<=4
def tT (r i s k:Nat) (x:bp):Prop:=x.A.a<r\/x.A.a=r/\(x.A.b<i\/x.A.b=i/\(x.B.a<s\/x.B.a=s/\x.B.b<k))
def pY (R I r i s k:Nat) (l:List bp):Prop:=(∀x∈l,ru R I x/\tT r i s k x)/\l.Pairwise Hy
theorem pY.nil (R I r i s k:Nat):pY R I r i s k []:=⟨λx h=>by simp at h,List.Pairwise.nil⟩
theorem pY.to {R I r i s k r' i' s' k':Nat} {l:List bp} (h:pY R I r i s k l) (hc:∀x,ru R I x->tT r i s k x->tT r' i' s' k' x):pY R I r' i' s' k' l:=
 ⟨λx hx=>⟨(h.1 x hx).1,hc x (h.1 x hx).1 (h.1 x hx).2⟩,h.2⟩
theorem pY.len {R I r i s k:Nat} {l:List bp} (h:pY R I r i s k l) (hR:R<=4) (hI:I<=4):l.length<=2048:=by
 have hb:∀x∈l,ru R I x:=λx hx=>(h.1 x hx).1;have:=KH (λx:bp=>(x.A.a*512+(x.A.b-1)*128+x.B.a*32+(x.B.b-1)*8+(x.bz-1)*4+(x.bH-1)).toNat) 2048 l 0 (h.2.imp_of_mem λ{x y} hx hy hxy=>by
  have h1:=hb x hx;have h2:=hb y hy;unfold ru at h1 h2;unfold Hy at hxy;show(x.A.a*512+(x.A.b-1)*128+x.B.a*32+(x.B.b-1)*8+(x.bz-1)*4+(x.bH-1)).toNat<(y.A.a*512+(y.A.b-1)*128+y.B.a*32+(y.B.b-1)*8+(y.bz-1)*4+(y.bH-1)).toNat;omega) (λx hx=>by
  have h1:=hb x hx;unfold ru at h1;show 0<=_/\(x.A.a*512+(x.A.b-1)*128+x.B.a*32+(x.B.b-1)*8+(x.bz-1)*4+(x.bH-1)).toNat<2048;omega)
 simpa using this
theorem pY.push {R I r i s k:Nat} {l:List bp} {x:bp} (h:pY R I r i s k l) (hx:ru R I x) (h1:x.A.a=r/\x.A.b=i/\x.B.a=s/\x.B.b=k):pY R I r i s (k+1) (l++[x]):=by
 refine⟨λy hy=>?_,?_⟩
 ·rcases List.mem_append.1 hy with hy|hy
  ·obtain⟨h3,h4⟩:=h.1 y hy;refine⟨h3,?_⟩;unfold tT at*;omega
  ·simp only[List.mem_singleton] at hy;subst hy;exact⟨hx,by unfold tT;omega⟩
 ·rw[List.pairwise_append];refine⟨h.2,by simp,λy hy z hz=>?_⟩;simp only[List.mem_singleton] at hz;subst hz;obtain⟨h3,h4⟩:=h.1 y hy;unfold tT at h4;unfold Hy;omega
theorem pY.SE {R I r i s k:Nat} {l:List bp} {x y:bp} (h:pY R I r i s k l) (hx:ru R I x) (hy:ru R I y) (h1:x.A.a=r/\x.A.b=i/\x.B.a=s/\x.B.b=k) (h2:y.A=x.A/\y.B=x.B/\y.bz=x.bz/\x.bH<y.bH):pY R I r i s (k+1) (l++[x]++[y]):=by
 have h3:=h.push hx h1;obtain⟨K3,Wc,ajS,ajT⟩:=h2;refine⟨λz hz=>?_,?_⟩
 ·rcases List.mem_append.1 hz with hz|hz
  ·exact h3.1 z hz
  ·simp only[List.mem_singleton] at hz;subst hz;exact⟨hy,by unfold tT;rw[K3,Wc];omega⟩
 ·rw[List.pairwise_append];refine⟨h3.2,by simp,λu hu z hz=>?_⟩;simp only[List.mem_singleton] at hz;subst hz;unfold Hy;rw[K3,Wc];rcases List.mem_append.1 hu with hu|hu
  ·have h4:=(List.pairwise_append.1 h3.2).2.2 u hu x b_;unfold Hy at h4;obtain⟨h5,h6⟩:=h.1 u hu;unfold tT at h6;omega
  ·simp only[List.mem_singleton] at hu;subst hu;omega
section
variable {l l':List aH} {ds:List bp} {zs us ps:List (List au)}
theorem b8 {i:Nat} (h:i<(aY l).length):∀a∈aM (aY l)[i],∀b∈aM (aY l)[i],bZ (aY l)[i] a=bZ (aY l)[i] b:=λa ha b hb=>by
 have key:=λr=>uM (p:=λr=>if r∈aM (aY l)[i] then some (bZ (aY l)[i] r) else none) (l:=l) (λx hx=>by
  by_cases hp:x∈(aY l)[i]
  ·rw[if_pos (jG.2 ⟨x,hp,.inl rfl⟩),if_pos (jG.2 ⟨x,hp,.inr rfl⟩),zz hp]
  ·rw[if_neg (λhm=>hp ((On h).2 ⟨hx,((uV h).1 hm).2⟩)),if_neg (λhm=>hp ((On h).2 ⟨hx,by rw[zz hx];exact((uV h).1 hm).2⟩))]) r
 have e:bZ l a=bZ l b:=((uV h).1 ha).2.trans ((uV h).1 hb).2.symm;have h1:=key a;have h2:=key b;rw[e] at h1;have h3:=h1.symm.trans h2;rw[if_pos ha,if_pos hb] at h3;exact Option.some.inj h3
theorem o8 (hne:l≠[]) (hc:∀a∈aM l,∀b∈aM l,bZ l a=bZ l b):aY l=[l]:=by
 obtain⟨x,hx⟩:∃x,x∈l:=List.exists_mem_of_ne_nil _ hne;have hr:x.A∈aM l:=jG.2 ⟨x,hx,.inl rfl⟩;obtain⟨q,hq,_⟩:=Nu (f:=bZ l) hr;have hn:=Nv (bZ l) (aM l);have hs:=(CT (bZ l) (aM l)).subset;have hf:eC (bZ l) (aM l)=[q]:=by
  generalize eC (bZ l) (aM l)=fs at*
  match fs,hq,hn,hs with
  |[a],hq,_,_=>rw[List.mem_singleton.1 hq]
  |a::b::t,_,hn,hs=>
   have:=hc a (hs b_) b (hs b_);simp[this] at hn
 unfold aY;rw[hf,List.map_cons,List.map_nil];congr 1;refine List.filter_eq_self.2 λy hy=>decide_eq_true ?_;exact hc _ (jG.2 ⟨y,hy,.inl rfl⟩) _ (hs (by rw[hf];simp))
theorem dr {i:Nat} (h:i<(aY l).length):aY (aY l)[i]=[(aY l)[i]]:=o8 (Wb h) (b8 h)
end
section
variable {l:List aH} {ds ds':List bp} {R:List au}
theorem W2 (h:∀a∈R,∀b∈R,kF ds a b=kF ds' a b) {a b:au} (ha:a∈R) (hb:b∈R):eP ds a b=eP ds' a b:=by unfold eP;rw[h a ha b hb,h b hb a ha]
end
def ry (s:List au) (l:List aH):List aH:=l.filter λx=>decide (x.A∈s\/x.B∈s)
def K4 (d1 d2:List bp) (s:List au):Prop:=∀a∈s,∀b∈s,kF d1 a b=kF d2 a b
instance (d1 d2:List bp) (s:List au):Decidable (K4 d1 d2 s):=by unfold K4;exact inferInstance
def mw (old:List aH) (d1 d2:List bp) (s:List au) (bs:List aH):Bool:=decide (ry s old=bs/\K4 d1 d2 s)
section
variable {old bJ:List aH} {d1 d2:List bp} {zs us ys out:List (List au)}
theorem Wd {s:List au} {l:List aH} {x:aH}:x∈ry s l↔x∈l/\(x.A∈s\/x.B∈s):=by unfold ry;rw[List.mem_filter,decide_eq_true_eq]
theorem Wf {α:Type} {r:α->α->Prop} (hr:∀x y,r x y->r y x->False):∀{a b:List α},a.Perm b->a.Pairwise r->b.Pairwise r->a=b
 |[],b,hp,_,_=>hp.nil_eq
 |x::a,b,hp,ha,hb=>by
  cases b with
  |nil=>exact absurd hp.length_eq b_
  |cons y b=>
   have hxy:x=y:=by
    rcases List.mem_cons.1 (hp.mem_iff.1 (List.mem_cons_self:x∈x::a)) with e|hx
    ·exact e
    ·rcases List.mem_cons.1 (hp.mem_iff.2 (List.mem_cons_self:y∈y::b)) with e|hy
     ·exact e.symm
     ·exact(hr x y ((List.pairwise_cons.1 ha).1 y hy) ((List.pairwise_cons.1 hb).1 x hx)).elim
   subst hxy;rw[Wf hr (List.Perm.cons_inv hp) (List.pairwise_cons.1 ha).2 (List.pairwise_cons.1 hb).2]
theorem Cq {s:List au} (h:2<=s.length):s.headD ⟨0,0⟩∈s:=by cases s with|nil=>simp at h|cons a t=>simp
def rA (old:List aH) (d1 d2:List bp) (bJ:List aH) (k:Nat):List (List au):=(((aY bJ).take k).filter λp=>!mw old d1 d2 (aM p) p).map aM
theorem X1 {k:Nat} (h:k<(aY bJ).length):rA old d1 d2 bJ (k+1)=if mw old d1 d2 (aM (aY bJ)[k]) (aY bJ)[k]=true then rA old d1 d2 bJ k else rA old d1 d2 bJ k++[aM (aY bJ)[k]]:=by
 unfold rA;rw[List.take_succ_eq_append_getElem h,List.filter_append,List.map_append];by_cases e:mw old d1 d2 (aM (aY bJ)[k]) (aY bJ)[k]=true
 ·rw[if_pos e,List.filter_cons_of_neg (by simp[e])];simp
 ·rw[if_neg e,List.filter_cons_of_pos (by simpa using e)];simp
theorem Wg (k:Nat): (rA old d1 d2 bJ k).length<=(aY bJ).length:=by
 unfold rA;rw[List.length_map];exact Nat.le_trans (List.length_filter_le _ _) tA
end
def K5 (m:Int) (x:aH):Prop:=0<=x.A.a/\x.A.a<x.B.a/\x.B.a<3/\1<=x.A.b/\x.A.b<=4/\1<=x.B.b/\x.B.b<=4/\1<=x.w/\x.w<=m
def Aa (m:Int) (l:List aH):Prop:=(∀x∈l,K5 m x)/\l.Pairwise kN
section
variable {m:Int} {l sl:List aH}
theorem Aa.mono {m':Int} (h:Aa m l) (hm:m<=m'):Aa m' l:=⟨λx hx=>by have:=h.1 x hx;unfold K5 at*;omega,h.2⟩
theorem Aa.nil:Aa m []:=⟨by simp,List.Pairwise.nil⟩
theorem Aa.len (h:Aa m l):l.length<=256:=by
 have:=KH (λx:aH=>(x.A.a*64+(x.A.b-1)*16+x.B.a*4+(x.B.b-1)).toNat) 256 l 0 (h.2.imp_of_mem λ{x y} hx hy hxy=>by
  have h1:=h.1 x hx;have h2:=h.1 y hy;unfold K5 at h1 h2;have e:eF x.A y.A\/(x.A.a=y.A.a/\x.A.b=y.A.b)/\eF x.B y.B:=by
   rcases hxy with e|⟨e1,e2⟩
   ·exact .inl e
   ·exact .inr ⟨by rw[e1];exact⟨rfl,rfl⟩,e2⟩
  unfold eF at e;show(x.A.a*64+(x.A.b-1)*16+x.B.a*4+(x.B.b-1)).toNat<(y.A.a*64+(y.A.b-1)*16+y.B.a*4+(y.B.b-1)).toNat;omega) (λx hx=>by
  have h1:=h.1 x hx;unfold K5 at h1;show 0<=_/\(x.A.a*64+(x.A.b-1)*16+x.B.a*4+(x.B.b-1)).toNat<256;omega)
 simpa using this
structure HC (m:Int) (l sl:List aH) (i:Nat):Prop where
 iG:Aa m sl
 from_:∀x∈sl,∃y∈l.take i,y.A=x.A/\y.B=x.B
 len:sl.length<=i
theorem HC.nil (m:Int) (l:List aH):HC m l [] 0:=⟨Aa.nil,by simp,by simp⟩
theorem HC.skip {i:Nat} (h:HC m l sl i) (hi:i<l.length):HC m l sl (i+1):=⟨h.iG,λx hx=>by
 obtain⟨y,hy,e⟩:=h.from_ x hx;exact⟨y,by rw[List.take_succ_eq_append_getElem hi];exact List.mem_append.2 (.inl hy),e⟩,by have:=h.len;omega⟩
end
section
variable {old bJ:List aH}
end
abbrev CC:=au×au
def r_ (x:CC):List Value:=[.int .i64 x.1.a,.int .i64 x.1.b,.int .i64 x.2.a,.int .i64 x.2.b]
theorem K6 {h:Array Obj} {M:Nat->Prop} {x:CC} {vs:List Value}:rep h M x vs↔vs=r_ x:=by
 constructor
 ·rintro⟨us,ws,rfl,h1,h2⟩;have h1:=nH.1 h1;have h2:=nH.1 h2;subst h1 h2;rfl
 ·intro e;exact⟨aV x.1,aV x.2,e,nH.2 rfl,nH.2 rfl⟩
theorem Dx {w:World} {M:Nat->Prop} {x:CC} {v:Value}:aq w M x v↔v=.agg (r_ x).toArray:=by
 constructor
 ·rintro⟨vs,h,e⟩;rw[K6.1 h] at e;exact e
 ·intro e;exact⟨_,K6.2 rfl,e⟩
def yf (x y:CC):Int:=iT [j9 x.1 y.1,j9 x.2 y.2]
def sg (x y:CC):Prop:=eF x.1 y.1\/x.1=y.1/\eF x.2 y.2
theorem ot {x y:CC}:yf x y<0↔sg x y:=by
 have:=Np (x:=⟨x.1,x.2,0⟩) (y:=⟨y.1,y.2,0⟩);unfold sQ kN at this;unfold yf sg;simp only at this;constructor
 ·intro h;exact Classical.not_not.1 λhn=>absurd (this.2 hn) af
 ·intro h;exact Int.not_le.1 λhn=>this.1 hn h
theorem Fi (x:CC):¬sg x x:=by unfold sg;rintro(h|⟨_,h⟩)<;>exact EI _ h
theorem HD {x y z:CC} (h1:sg x y) (h2:sg y z):sg x z:=by
 unfold sg at*;rcases h1 with a|⟨a1,a2⟩
 ·rcases h2 with b|⟨b1,_⟩
  ·exact .inl (Bi a b)
  ·exact .inl (by rw[<-b1];exact a)
 ·rcases h2 with b|⟨b1,b2⟩
  ·exact .inl (by rw[a1];exact b)
  ·exact .inr ⟨a1.trans b1,Bi a2 b2⟩
theorem K7 (x y:CC):sg x y\/x=y\/sg y x:=by
 obtain⟨a,b⟩:=x;obtain⟨c,d⟩:=y;unfold sg;simp only[Prod.mk.injEq];rcases J8 a c with h|h|h
 ·exact .inl (.inl h)
 ·rcases J8 b d with g|g|g
  ·exact .inl (.inr ⟨h,g⟩)
  ·exact .inr (.inl ⟨h,g⟩)
  ·exact .inr (.inr (.inr ⟨h.symm,g⟩))
 ·exact .inr (.inr (.inl h))
def si (x y:CC):Bool:=!decide (yf y x<0)
theorem yg {x y:CC}:si x y=true↔¬sg y x:=by unfold si;rw[<-ot];simp
theorem Wh (x y:CC) (h:si x y=true) (h':si y x=true):x=y:=by
 rcases K7 x y with g|g|g
 ·exact absurd g (yg.1 h')
 ·exact g
 ·exact absurd g (yg.1 h)
theorem Wi (x y z:CC) (h:si x y=true) (h':si y z=true):si x z=true:=yg.2 λg=>by
 rcases K7 x y with a|a|a
 ·exact yg.1 h' (HD g a)
 ·subst a;exact yg.1 h' g
 ·exact yg.1 h a
theorem X4 (x y:CC): (si x y||si y x)=true:=by
 rw[Bool.or_eq_true,yg,yg];rcases K7 x y with a|a|a
 ·exact .inl λh=>Fi _ (HD a h)
 ·subst a;exact .inl (Fi _)
 ·exact .inr λh=>Fi _ (HD a h)
def sortCC (l:List CC):List CC:=l.mergeSort si
theorem X5 (l:List CC): (sortCC l).Pairwise (λx y=>si x y=true):=List.pairwise_mergeSort Wi X4 l
theorem Wj (l:List CC): (sortCC l).Perm l:=List.mergeSort_perm l si
theorem Wk (l:List CC): (sortCC l).length=l.length:=(Wj l).length_eq
def BJ (s:List au) (d:bp):Bool:=!d.same&&decide (d.A∈s)&&decide (d.B∈s)
def u5 (s:List au) (ds:List bp):List CC:=(ds.filter (BJ s)).map λd=>(d.A,d.B)
def u6 (s:List au) (ds:List bp):List CC:=iI (sortCC (u5 s ds))
section
variable {s:List au} {ds d1 d2:List bp}
theorem C7 {k:Nat} (h:k<ds.length):u5 s (ds.take (k+1))=if BJ s ds[k]=true then u5 s (ds.take k)++[(ds[k].A,ds[k].B)] else u5 s (ds.take k):=by
 unfold u5;rw[List.take_succ_eq_append_getElem h,List.filter_append,List.map_append];by_cases e:BJ s ds[k]=true
 ·rw[if_pos e,List.filter_cons_of_pos e];simp
 ·rw[if_neg e,List.filter_cons_of_neg e];simp
theorem Wm (k:Nat): (u5 s (ds.take k)).length<=ds.length:=by
 unfold u5;rw[List.length_map];exact Nat.le_trans (List.length_filter_le _ _) tA
theorem aac: (u6 s ds).length<=ds.length:=by
 unfold u6;have h1:=(GG (sortCC (u5 s ds))).length_le;rw[Wk] at h1;have:=Wm (s:=s) (ds:=ds) ds.length;rw[List.take_length] at this;omega
theorem K8 {p:CC}:p∈u6 s ds↔p.1∈s/\p.2∈s/\kF ds p.1 p.2=true:=by
 unfold u6;rw[J5,(Wj _).mem_iff];unfold u5 kF BJ;rw[List.mem_map,List.any_eq_true];constructor
 ·rintro⟨d,hd,rfl⟩;obtain⟨hm,hc⟩:=List.mem_filter.1 hd;simp only[Bool.and_eq_true,Bool.not_eq_true',decide_eq_true_eq] at hc;exact⟨hc.1.2,hc.2,d,hm,by simp[hc.1.1]⟩
 ·rintro⟨h1,h2,d,hm,hc⟩;simp only[Bool.and_eq_true,Bool.not_eq_true',decide_eq_true_eq] at hc;obtain⟨hs,hA,hB⟩:=hc;refine⟨d,List.mem_filter.2 ⟨hm,?_⟩,?_⟩
  ·simp only[Bool.and_eq_true,Bool.not_eq_true',decide_eq_true_eq];exact⟨⟨hs,hA▸h1⟩,hB▸h2⟩
  ·obtain⟨a,b⟩:=p;simp only at hA hB;rw[hA,hB]
theorem K9: (u6 s ds).Pairwise sg:=by
 unfold u6;have h1:=X5 (u5 s ds);have h2:=Nl (le:=λx y=>si x y=true) Wh h1;have h3:=h1.sublist (GG _);refine(h3.and h2).imp λ{x y} ⟨h4,h5⟩=>?_;rcases K7 x y with h|h|h
 ·exact h
 ·exact absurd h h5
 ·exact absurd h (yg.1 h4)
theorem Wn:u6 s d1=u6 s d2↔K4 d1 d2 s:=by
 constructor
 ·intro h a ha b hb;have h1:=K8 (s:=s) (ds:=d1) (p:=(a,b));have h2:=K8 (s:=s) (ds:=d2) (p:=(a,b));rw[h] at h1;have h3:=h1.symm.trans h2;rw[Bool.eq_iff_iff];exact⟨λg=>(h3.1 ⟨ha,hb,g⟩).2.2,λg=>(h3.2 ⟨ha,hb,g⟩).2.2⟩
 ·intro h;have nd:∀{l:List CC},l.Pairwise sg->l.Nodup:=λh=>h.imp λ{x y} hxy e=>by subst e;exact Fi _ hxy
  refine Wf (λx y a b=>Fi _ (HD a b)) ((List.perm_ext_iff_of_nodup (nd K9) (nd K9)).2 λp=>?_) K9 K9;rw[K8,K8];constructor
  ·rintro⟨h1,h2,h3⟩;exact⟨h1,h2,by rw[<-h _ h1 _ h2];exact h3⟩
  ·rintro⟨h1,h2,h3⟩;exact⟨h1,h2,by rw[h _ h1 _ h2];exact h3⟩
theorem aad {l:List aH} {k:Nat} (h:k<l.length):ry s (l.take (k+1))=if l[k].A∈s\/l[k].B∈s then ry s (l.take k)++[l[k]] else ry s (l.take k):=by
 unfold ry;rw[List.take_succ_eq_append_getElem h,List.filter_append];by_cases e:l[k].A∈s\/l[k].B∈s
 ·rw[if_pos e];simp[List.filter_cons,e]
 ·rw[if_neg e];simp[List.filter_cons,e]
theorem aae {l:List aH} (k:Nat): (ry s (l.take k)).length<=l.length:=by
 unfold ry;exact Nat.le_trans (List.length_filter_le _ _) tA
end
section
variable {pr:Int} {aJ df:List Int} {lo hi hi':Int} {p:Nat} {fl V7:List Int} {ok:Bool}
end
def sj (aJ df:List Int) (p i:Nat):Int:=aJ.getD i 0-sU aJ df p i
section
variable {aJ df:List Int} {p n k st:Nat} {s t hi:Int} {gs l m:List au}
end
section
variable {pr:Int} {aJ df:List Int} {lo hi:Int} {p n:Nat} {fl:List Int} {ok:Bool} {s:Int}
end
section
variable {pr:Int} {aJ df:List Int} {lo hi:Int} {p n:Nat} {fl:List Int} {s:Int}
end
section
variable {α:Type} {c:α->α->Int}
theorem fm.O1 {ys:List α} {L:List (Fin ys.length)} (wS:L.Perm (List.finRange ys.length)) (sq:L.Pairwise λi j=>e9 c ys i.val j.val):fm c ys (L.map λi=>ys[i.val]):=by
 have hlen:L.length=ys.length:=by rw[wS.length_eq,List.length_finRange]
 have gi:L.Nodup:=wS.nodup_iff.2 (List.nodup_finRange _);refine⟨λi=>if h:i<L.length then L[i].val else i,⟨by rw[List.length_map,hlen],λi hi=>?_⟩,⟨λi hi=>?_,λi h1 h2=>?_,λi j e=>?_⟩,λi j h1 h2 h3=>?_⟩
 ·have hi2:i<L.length:=by omega
  rw[dif_pos hi2];refine⟨L[i].isLt,?_⟩;rw[List.getElem?_map,List.getElem?_eq_getElem hi2,List.getElem?_eq_getElem L[i].isLt];rfl
 ·rw[dif_neg af]
 ·rw[dif_pos (show i<L.length by omega)];exact⟨Nat.zero_le _,L[i].isLt⟩
 ·by_cases hi:i<L.length
  ·by_cases hj:j<L.length
   ·simp only[dif_pos hi,dif_pos hj] at e;rcases Nat.lt_trichotomy i j with h|h|h
    ·exact absurd (Fin.ext e) (List.pairwise_iff_getElem.1 (List.nodup_iff_pairwise_ne.1 gi) i j hi hj h)
    ·exact h
    ·exact absurd (Fin.ext e.symm) (List.pairwise_iff_getElem.1 (List.nodup_iff_pairwise_ne.1 gi) j i hj hi h)
   ·simp only[dif_pos hi,dif_neg hj] at e;have:=L[i].isLt;omega
  ·by_cases hj:j<L.length
   ·simp only[dif_neg hi,dif_pos hj] at e;have:=L[j].isLt;omega
   ·simp only[dif_neg hi,dif_neg hj] at e;exact e
 ·simp only[dif_pos (show i<L.length by omega),dif_pos (show j<L.length by omega)];exact List.pairwise_iff_getElem.1 sq i j af af h2
theorem fm.ex (hc:mZ c (λ_=>True)) (ys:List α):∃zs,fm c ys zs:=by
 classical
 have hP:∀x∈ys,(λ_:α=>True) x:=λ_ _=>trivial;obtain⟨L,hL⟩:∃L,L=(List.finRange ys.length).mergeSort (λi j=>decide (¬e9 c ys j.val i.val)):=⟨_,rfl⟩
 have wS:L.Perm (List.finRange ys.length):=by rw[hL];exact List.mergeSort_perm _ _
 have gi:L.Nodup:=wS.nodup_iff.2 (List.nodup_finRange _);have sq:L.Pairwise λi j=>e9 c ys i.val j.val:=by
  have h1:L.Pairwise λi j=>(decide (¬e9 c ys j.val i.val))=true:=by
   rw[hL];refine List.pairwise_mergeSort (λi j k h1 h2=>?_) (λi j=>?_) _
   ·simp only[decide_eq_true_eq] at*;intro h3;by_cases e1:i=j
    ·subst e1;exact h2 h3
    ·have h4:=(NW hc hP i.isLt j.isLt (λe=>e1 (Fin.ext e))).resolve_right h1;exact h2 (NV hc hP h3 h4)
   ·simp only[Bool.or_eq_true,decide_eq_true_eq];by_cases h:e9 c ys j.val i.val
    ·exact .inr (λh'=>UJ hc hP h h')
    ·exact .inl h
  refine(h1.and (List.nodup_iff_pairwise_ne.1 gi)).imp λ{i j} ⟨h2,h3⟩=>?_;simp only[decide_eq_true_eq] at h2;exact(NW hc hP i.isLt j.isLt (λe=>h3 (Fin.ext e))).resolve_right h2
 exact⟨_,fm.O1 wS sq⟩
end
section
variable {aJ df:List Int} {p n:Nat} {gs:List au}
def HE (gs:List au) (k i:Nat):Bool:=decide ((i:Int)∈(gs.take k).map (·.a))
structure Fj (aJ df:List Int) (p:Nat) (gs:List au) (k i:Nat) (b:Int):Prop where
 none_:b<0->b= -1/\∀q,q<i->HE gs k q=true\/sj aJ df p q<=0
 some_:0<=b->b.toNat<i/\HE gs k b.toNat=false/\0<sj aJ df p b.toNat/\∀q,q<i->HE gs k q=true\/sj aJ df p q<=0\/sj aJ df p q<sj aJ df p b.toNat\/(sj aJ df p q=sj aJ df p b.toNat/\b.toNat<=q)
theorem Fj.take {k i:Nat} {b:Int} (h:Fj aJ df p gs k i b) (h1:HE gs k i=false) (h2:0<sj aJ df p i) (h3:b<0\/sj aJ df p b.toNat<sj aJ df p i):Fj aJ df p gs k (i+1) i:=by
 refine⟨λe=>by omega,λ_=>?_⟩;rw[Int.toNat_natCast];refine⟨by omega,h1,h2,λq hq=>?_⟩;by_cases e:q=i
 ·subst e;exact .inr (.inr (.inr ⟨rfl,Nat.le_refl _⟩))
 ·by_cases hb:b<0
  ·rcases(h.none_ hb).2 q af with h4|h4
   ·exact .inl h4
   ·exact .inr (.inl h4)
  ·have h3:=h3.resolve_left hb;rcases(h.some_ af).2.2.2 q af with h4|h4|h4|⟨h4,_⟩
   ·exact .inl h4
   ·exact .inr (.inl h4)
   ·exact .inr (.inr (.inl af))
   ·exact .inr (.inr (.inl af))
theorem Fj.skip {k i:Nat} {b:Int} (h:Fj aJ df p gs k i b) (h1:HE gs k i=true\/sj aJ df p i<=0\/(0<=b/\sj aJ df p i<=sj aJ df p b.toNat)):Fj aJ df p gs k (i+1) b:=by
 refine⟨λe=>⟨(h.none_ e).1,λq hq=>?_⟩,λe=>?_⟩
 ·by_cases eq:q=i
  ·subst eq;rcases h1 with h1|h1|h1
   ·exact .inl h1
   ·exact .inr h1
   ·omega
  ·exact(h.none_ e).2 q af
 ·obtain⟨a1,a2,a3,a4⟩:=h.some_ e;refine⟨by omega,a2,a3,λq hq=>?_⟩;by_cases eq:q=i
  ·subst eq;rcases h1 with h1|h1|⟨_,h1⟩
   ·exact .inl h1
   ·exact .inr (.inl h1)
   ·by_cases eH:sj aJ df p q<sj aJ df p b.toNat
    ·exact .inr (.inr (.inl eH))
    ·exact .inr (.inr (.inr ⟨by omega,by omega⟩))
  ·exact a4 q af
end
section
variable {P:Program} {t:TypeId} {N:Nat} {env:Env} {x y:Operand} {u:TypeId} {w:World}
theorem O2 {gC ti:TypeId} {n0 n1 m0 m1 qV qW Hl Ho qX qY Hp Hq:String} {e0 e1 f0 f1:Bool} {y0 y1 x0 x1:Nat} (h:P.underlying t=some (.struct #[⟨m0,gC,0,f0,Hl,Hp,x0⟩,⟨m1,gC,2,f1,Ho,Hq,x1⟩])) (g0:m0≠"_") (g1:m1≠"_") (hS:P.stoodInHeld t=false)
  (hr:P.underlying gC=some (.struct #[⟨n0,ti,0,e0,qV,qX,y0⟩,⟨n1,ti,1,e1,qW,qY,y1⟩])) (h0:n0≠"_") (h1:n1≠"_") (Ov:P.stoodInHeld gC=false)
  (hi:P.underlying ti=some (.int .i64)) (ha:gH P gC=some true) (hs:gN P gC=some 2):zw P t tN:=λd a b w=>by
 have hf:P.fieldsOf t=#[⟨m0,gC,0,f0,Hl,Hp,x0⟩,⟨m1,gC,2,f1,Ho,Hq,x1⟩]:=by simp[Program.fieldsOf,h]
 have jF:∀(c:au×au) w,(part gC #[.int .i64 c.1.a,.int .i64 c.1.b,.int .i64 c.2.a,.int .i64 c.2.b] 0).run P w=.ok (dx c.1) w:=λc w=>by
  unfold part;simp only[Sem.run_bind,uJ ha,Result.andThen_ok,if_true,mW hs,Sem.run_pure];rfl
 have p1:∀(c:au×au) w,(part gC #[.int .i64 c.1.a,.int .i64 c.1.b,.int .i64 c.2.a,.int .i64 c.2.b] 2).run P w=.ok (dx c.2) w:=λc w=>by
  unfold part;simp only[Sem.run_bind,uJ ha,Result.andThen_ok,if_true,mW hs,Sem.run_pure];rfl
 have he:=λ(x y:au)=>Vy hr h0 h1 Ov hi (d+5) x y w;rw[show d+8=(d+7)+1 from rfl,run_equalIn_struct w (d+7) t _ _ (by rw[hf];exact h) hS,hf];have hd: (decide (a=b))=(decide (a.1=b.1)&&decide (a.2=b.2)):=by
  cases a;cases b;simp only[Prod.mk.injEq,Bool.decide_and]
 simp only[Op.eqFields,Sem.run_bind,Sem.run_ite,g0,g1,ne_eq,not_false_eq_true,if_true,jF,p1,Result.andThen_ok,he,hd,show d+7=d+5+2 from rfl];cases decide (a.1=b.1)<;>cases decide (a.2=b.2)<;>simp[he,show d+7=d+5+2 from rfl,jF,p1]
theorem Wo (hK:zw P t tN) (a b:CC): (Op.equalIn 10000 t (.agg (r_ a).toArray) (.agg (r_ b).toArray)).run P w=.ok (decide (a=b)) w:=hK 9992 a b w
theorem Wp (hK:zw P t tN) (hg:P.eqGuardType P.depth t=false) {a b:CC} (hx:ev env x=some (.agg (r_ a).toArray)) (hy:ev env y=some (.agg (r_ b).toArray)):
  cE P N env (.binOp .neq t x y u) w (.bool (decide (a≠b))):=mk' λρ hρ o ho=>by
 unfold execOp;rw[ho];simp only[hρ _ _ hx,hρ _ _ hy,Sem.run_bind,run_eqGuard_agg _ _ _ _ _ _ _ hg,Result.andThen_ok,run_neq_struct,Wo hK,Sem.run_pure];simp
theorem aaf (hK:zw P t tN) (hg:P.eqGuardType P.depth t=false) {a b:CC} (hx:ev env x=some (.agg (r_ a).toArray)) (hy:ev env y=some (.agg (r_ b).toArray)):
  cE P N env (.binOp .eql t x y u) w (.bool (decide (a=b))):=mk' λρ hρ o ho=>by
 unfold execOp;rw[ho];simp only[hρ _ _ hx,hρ _ _ hy,Sem.run_bind,run_eqGuard_agg _ _ _ _ _ _ _ hg,Result.andThen_ok,run_eql_struct,Wo hK,Sem.run_pure]
end
theorem aag {h:Array Obj} {M:Nat->Prop}:rep h M (⟨⟨0,0⟩,⟨0,0⟩⟩:CC) [.int .i64 0,.int .i64 0,.int .i64 0,.int .i64 0]:=K6.2 rfl
theorem O4 {α:Type} [DecidableEq α] {l m:List α} (hl:l.length=m.length) (h:∀i (h1:i<l.length) (h2:i<m.length),l[i]=m[i]):l=m:=List.ext_getElem hl h
section
variable {old bJ:List aH} {d1 d2:List bp} {zs:List (List au)}
def su (old:List aH) (d1 d2:List bp) (bJ:List aH) (k:Nat):List Bool:=((aY bJ).take k).map λp=>mw old d1 d2 (aM p) p
theorem aah {k:Nat} (h:k<(aY bJ).length):su old d1 d2 bJ (k+1)=su old d1 d2 bJ k++[mw old d1 d2 (aM (aY bJ)[k]) (aY bJ)[k]]:=by
 unfold su;rw[List.take_succ_eq_append_getElem h,List.map_append];rfl
theorem aai (k:Nat): (su old d1 d2 bJ k).length<=(aY bJ).length:=by unfold su;rw[List.length_map,List.length_take];omega
theorem aaj: (su old d1 d2 bJ (aY bJ).length).length=(aY bJ).length:=by unfold su;rw[List.length_map,List.length_take];omega
theorem aak {k:Nat} (h:k<(aY bJ).length) (h':k<(su old d1 d2 bJ (aY bJ).length).length): (su old d1 d2 bJ (aY bJ).length)[k]=mw old d1 d2 (aM (aY bJ)[k]) (aY bJ)[k]:=by
 unfold su;simp
theorem aal {s:List au} {bs:List aH} (h:ry s old=bs):decide (u6 s d1=u6 s d2)=mw old d1 d2 s bs:=by
 unfold mw;exact decide_eq_decide.2 ⟨λe=>⟨h,Wn.1 e⟩,λe=>Wn.2 e.2⟩
theorem aam {s:List au} {bs:List aH} (h:¬ry s old=bs):false=mw old d1 d2 s bs:=by
 unfold mw;exact(decide_eq_false λe=>h e.1).symm
def rB (zs:List (List au)) (s:List au):List (List au):=zs.filter λp=>decide (p.headD ⟨0,0⟩∈s)
theorem aan {s:List au} {k:Nat} (h:k<zs.length):rB (zs.take (k+1)) s=if zs[k].headD ⟨0,0⟩∈s then rB (zs.take k) s++[zs[k]] else rB (zs.take k) s:=by
 unfold rB;rw[List.take_succ_eq_append_getElem h,List.filter_append];by_cases e:zs[k].headD ⟨0,0⟩∈s
 ·rw[if_pos e,List.filter_cons,if_pos (decide_eq_true e),List.filter_nil]
 ·rw[if_neg e,List.filter_cons,if_neg (by rw[decide_eq_true_eq];exact e),List.filter_nil,List.append_nil]
theorem aao {s:List au} (k:Nat): (rB (zs.take k) s).length<=zs.length:=by
 unfold rB;exact Nat.le_trans (List.length_filter_le _ _) tA
theorem aap {p:List au} (h:0<p.length):p.headD ⟨0,0⟩=p[0]:=by cases p with|nil=>simp at h|cons a t=>rfl
end
section
variable {l:List aH} {ds:List bp} {out us zs:List (List au)}
end
def pZ (x y:au):Bool:=decide (x.a<y.a)||(decide (x.a=y.a)&&decide (x.b<y.b))
theorem HF {x y:au}:pZ x y=true↔x.a<y.a\/(x.a=y.a/\x.b<y.b):=by unfold pZ;simp
def fF:List au->au->List au
 |[],c=>[c]
 |x::l,c=>if pZ x c=true then x::fF l c else if x=c then x::l else c::x::l
theorem Wq {c:au}:∀{l:List au} {k:Nat},k<=l.length->(∀i (hi:i<k) (h:i<l.length),pZ l[i] c=true)->(∀h:k<l.length,pZ l[k] c=false)->
  fF l c=if h:k<l.length then(if l[k]=c then l else l.take k++c::l.drop k) else l++[c]
 |[],k,hk,_,_=>by simp at hk;subst hk;simp[fF]
 |x::l,0,_,_,h2=>by
  have:=h2 b_;simp only[List.getElem_cons_zero] at this;simp only[fF,this,Bool.false_eq_true,if_false];simp
 |x::l,k+1,hk,h1,h2=>by
  have h0:=h1 0 af b_;simp only[List.getElem_cons_zero] at h0;have ih:=Wq (c:=c) (l:=l) (k:=k) (by simpa using hk) (λi hi h=>by have:=h1 (i+1) af (by simpa using h);simpa using this) (λh=>by have:=h2 (by simpa using h);simpa using this);simp only[fF,h0,if_true,ih,List.length_cons,Nat.add_lt_add_iff_right,List.getElem_cons_succ,List.take_succ_cons,List.drop_succ_cons];split
  ·split<;>simp
  ·simp
theorem Dy {c x:au}:∀{l:List au},x∈fF l c↔x=c\/x∈l
 |[]=>by simp[fF]
 |y::l=>by
  have ih:=Dy (c:=c) (x:=x) (l:=l);unfold fF;split
  ·simp only[List.mem_cons,ih];constructor
   ·rintro(h|h|h)<;>simp[h]
   ·rintro(h|h|h)<;>simp[h]
  ·split
   ·rename_i e;subst e;simp
   ·simp
theorem K_ {c:au}:∀{l:List au},l.Pairwise (λx y=>pZ x y=true)->(fF l c).Pairwise (λx y=>pZ x y=true)
 |[],_=>by simp[fF]
 |y::l,h=>by
  obtain⟨h1,h2⟩:=List.pairwise_cons.1 h;unfold fF;split
  ·rename_i hy;refine List.pairwise_cons.2 ⟨λz hz=>?_,K_ h2⟩;rcases Dy.1 hz with e|hz
   ·rw[e];exact hy
   ·exact h1 z hz
  ·split
   ·exact h
   ·rename_i hn he;have Wr:pZ c y=true:=by
     rw[HF] at hn⊢;by_cases ea:y.a=c.a
     ·by_cases eb:y.b=c.b
      ·exact absurd (by cases y;cases c;simp only at ea eb;rw[ea,eb]) he
      ·omega
     ·omega
    refine List.pairwise_cons.2 ⟨λz hz=>?_,h⟩;rcases List.mem_cons.1 hz with e|hz
    ·rw[e];exact Wr
    ·have:=h1 z hz;rw[HF] at this Wr⊢;omega
def wT (l:List au):List au:=l.foldl fF []
theorem Ws (l:List au) (c:au):wT (l++[c])=fF (wT l) c:=by unfold wT;rw[List.foldl_append];rfl
theorem O5:∀(l:List au) (a:List au),a.Pairwise (λx y=>pZ x y=true)->(l.foldl fF a).Pairwise (λx y=>pZ x y=true)/\∀x,x∈l.foldl fF a↔x∈a\/x∈l
 |[],a,h=>⟨h,λx=>by simp⟩
 |c::l,a,h=>by
  obtain⟨h1,h2⟩:=O5 l (fF a c) (K_ h);refine⟨h1,λx=>?_⟩;rw[List.foldl_cons,h2,Dy,List.mem_cons];constructor
  ·rintro((h|h)|h)<;>simp[h]
  ·rintro(h|h|h)<;>simp[h]
theorem BK (c:au):∀a:List au,(fF a c).length<=a.length+1
 |[]=>by simp[fF]
 |y::a=>by
  have:=BK c a;unfold fF;split
  ·simp only[List.length_cons];omega
  ·split<;>simp
theorem aaq (l:List au): (wT l).length<=l.length:=by
 have:∀(l a:List au),(l.foldl fF a).length<=a.length+l.length:=by
  intro l;induction l with
  |nil=>intro a;simp
  |cons c l ih=>
   intro a;have h1:=ih (fF a c);have h2:=BK c a;rw[List.foldl_cons,List.length_cons];omega
 have:=this l [];simpa[wT] using this
def u7 (f:Nat->Int):Nat->Int
 |0=>0
 |n+1=>if u7 f n≠0 then u7 f n else f n
theorem BL {f:Nat->Int}:∀{n:Nat},(∀k,k<n->f k=0)->u7 f n=0
 |0,_=>rfl
 |n+1,h=>by rw[u7,if_neg (by rw[BL (λk hk=>h k af)];simp)];exact h n af
theorem HG {f:Nat->Int} {i:Nat} (h0:∀k,k<i->f k=0) (hf:f i≠0):∀{n:Nat},i<n->u7 f n=f i
 |0,h=>absurd h af
 |n+1,h=>by
  rw[u7];by_cases e:i=n
  ·subst e;rw[if_neg (by rw[BL h0];simp)]
  ·rw[if_pos (by rw[HG h0 hf (show i<n by omega)];exact hf),HG h0 hf af]
theorem Wu {f:Nat->Int}:∀{n:Nat},u7 f n=0->∀k,k<n->f k=0
 |0,_,k,h=>absurd h af
 |n+1,h,k,hk=>by
  rw[u7] at h;split at h
  ·rename_i h1;exact absurd h h1
  ·rename_i h1;by_cases e:k=n
   ·subst e;exact h
   ·exact Wu (Classical.not_not.1 h1) k af
theorem Fk {f:Nat->Int} {i n:Nat} {e:Int} (h0:∀k,k<i->f k=0) (hi:i<n) (he:f i=e) (hne:e≠0):u7 f n=e:=by
 rw[HG h0 (by rw[he];exact hne) hi,he]
theorem La {f:Nat->Int} {i:Nat} (h0:∀k,k<i->f k=0) (he:f i=0):∀k,k<i+1->f k=0:=λk hk=>by
 by_cases e:k=i
 ·subst e;exact he
 ·exact h0 k af
theorem yh (x y:au):j9 x y=if x=y then 0 else if eF x y then-1 else 1:=by
 rw[J3];by_cases e:x=y
 ·subst e;simp
 ·rw[if_neg e];unfold eF;have h:¬(x.a=y.a/\x.b=y.b):=λh=>e (J7 h.1 h.2)
  (repeat' split)<;>first|rfl|omega
theorem u9 (x y:Int):kD x y=if x=y then 0 else if x<y then-1 else 1:=by
 unfold kD;(repeat' split)<;>first|rfl|omega
section
variable {w:World} {M:Nat->Prop} {b o:Nat}
theorem bk.c5 {x:bp} (h:bk w M x b o):bk w M x.A b o:=bk.fst (p:=(x.A,(x.B,(x.bz,(x.bH,x.same))))) h
theorem bk.Wv {x:bp} (h:bk w M x b o):bk w M (x.B,(x.bz,(x.bH,x.same))) b (o+2):=bk.snd (p:=(x.A,(x.B,(x.bz,(x.bH,x.same))))) h
theorem bk.j7 {x:bp} (h:bk w M x b o):bk w M x.B b (o+2):=bk.fst (p:=(x.B,(x.bz,(x.bH,x.same)))) h.Wv
theorem bk.Ww {x:bp} (h:bk w M x b o):bk w M (x.bz,(x.bH,x.same)) b (o+4):=bk.snd (p:=(x.B,(x.bz,(x.bH,x.same)))) h.Wv
theorem bk.HJ {x:bp} (h:bk w M x b o):bk w M x.bz b (o+4):=bk.fst (p:=(x.bz,(x.bH,x.same))) h.Ww
theorem bk.Wx {x:bp} (h:bk w M x b o):bk w M (x.bH,x.same) b (o+5):=bk.snd (p:=(x.bz,(x.bH,x.same))) h.Ww
theorem bk.O6 {x:bp} (h:bk w M x b o):bk w M x.bH b (o+5):=bk.fst (p:=(x.bH,x.same)) h.Wx
theorem bk.sw {x:bp} (h:bk w M x b o):bk w M x.same b (o+6):=bk.snd (p:=(x.bH,x.same)) h.Wx
end
def tU (l:List bp) (i:Nat):Int:=
 if iB (l.getD i default).A (l.getD i default).B=false then 41 else if(jI (l.getD i default).bz&&jI (l.getD i default).bH)=false then 42
 else if 0<i/\¬oE (l.getD (i-1) default) (l.getD i default)<0 then 12 else 0
def iw (l:List bp):Int:=if 4096<l.length then 1 else u7 (tU l) l.length
theorem Wy {l:List bp} {i:Nat} (hi:i<l.length) (h:iB l[i].A l[i].B=false):tU l i=41:=by unfold tU;rw[lK hi,if_pos h]
theorem Wz {l:List bp} {i:Nat} (hi:i<l.length) (h:iB l[i].A l[i].B=true) (h2: (jI l[i].bz&&jI l[i].bH)=false):tU l i=42:=by
 unfold tU;rw[lK hi,if_neg (by rw[h];simp),if_pos h2]
theorem WA {l:List bp} {i:Nat} (hi:i<l.length) (h:iB l[i].A l[i].B=true) (h2: (jI l[i].bz&&jI l[i].bH)=true) (h0:0<i) (h3:¬oE (l[i-1]'af) l[i]<0):tU l i=12:=by
 unfold tU;rw[lK hi,lK (show i-1<l.length by omega),if_neg (by rw[h];simp),if_neg (by rw[h2];simp),if_pos ⟨h0,h3⟩]
theorem HK {l:List bp} {i:Nat} (hi:i<l.length) (h:iB l[i].A l[i].B=true) (h2: (jI l[i].bz&&jI l[i].bH)=true) (h3:∀h0:0<i,oE (l[i-1]'af) l[i]<0):tU l i=0:=by
 unfold tU;rw[lK hi,lK (show i-1<l.length by omega),if_neg (by rw[h];simp),if_neg (by rw[h2];simp),if_neg (λe=>e.2 (h3 e.1))]
theorem WB {l:List bp} {i:Nat} (hi:i<l.length) (h:tU l i=0):zM l[i]/\∀h0:0<i,oE (l[i-1]'af) l[i]<0:=by
 unfold tU at h;rw[lK hi,lK (show i-1<l.length by omega)] at h;split at h
 ·exact absurd h ak
 ·rename_i h1;split at h
  ·exact absurd h ak
  ·rename_i h2;split at h
   ·exact absurd h ak
   ·rename_i h3;have CM: (jI l[i].bz&&jI l[i].bH)=true:=by simpa using h2
    rw[Bool.and_eq_true] at CM;exact⟨⟨by simpa using h1,CM.1,CM.2⟩,λh0=>Classical.byContradiction λhn=>h3 ⟨h0,hn⟩⟩
theorem O7 {l:List bp} (h:iw l=0):l.length<=4096/\(∀i (hi:i<l.length),zM l[i])/\∀i (hi:i+1<l.length),oE l[i] l[i+1]<0:=by
 unfold iw at h;split at h
 ·exact absurd h ak
 ·have hz:=Wu h;refine⟨by omega,λi hi=>(WB hi (hz i hi)).1,λi hi=>(WB hi (hz (i+1) hi)).2 af⟩
def WC (pr:Int) (aJ df:List Int):Prop:=aJ.length<1\/5<aJ.length\/df.length≠aJ.length\/¬rW pr
instance (pr:Int) (aJ df:List Int):Decidable (WC pr aJ df):=by unfold WC;infer_instance
open Classical in
def oK (lo hh:Int):Prop:=hh<1\/65536<hh\/lo< -65536\/hh<lo
instance (lo hh:Int):Decidable (oK lo hh):=by unfold oK;infer_instance
def oq (lo hh:Int):Int:=if oK lo hh then 2 else 0
open Classical in
section
variable {Fe:Int} {sh:List rY} {ds:List bp} {pr:Int} {aJ df:List Int} {lo hh p:Int} {A B:au} {ajU BH:Int} {tQ:List ByteArray} {Om z8:Int} {tR:List ByteArray} {fl V7:List Int} {e e':Int}
end
def u_ (d:bp) (a b:au):Bool:=!d.same&&(decide (d.A=a/\d.B=b)||decide (d.A=b/\d.B=a))
theorem WD (l:List bp) (a b:au):l.any (λd=>u_ d a b)=(kF l a b||kF l b a):=by
 unfold kF;rw[Bool.eq_iff_iff,Bool.or_eq_true,List.any_eq_true,List.any_eq_true,List.any_eq_true];unfold u_;constructor
 ·rintro⟨d,hd,h⟩;rw[Bool.and_eq_true,Bool.or_eq_true] at h;rcases h.2 with h2|h2
  ·exact .inl ⟨d,hd,by rw[h.1,h2];rfl⟩
  ·exact .inr ⟨d,hd,by rw[h.1,h2];rfl⟩
 ·rintro(⟨d,hd,h⟩|⟨d,hd,h⟩)<;>rw[Bool.and_eq_true] at h<;>refine⟨d,hd,?_⟩<;>rw[h.1,h.2]<;>simp
noncomputable def iY (l:List aH) (ds:List bp):Int:=if gD l≠0 then gD l else iw ds
theorem wU {s:List au} {c:au} (h:c∈s): (0:Int)<=idxOf (λx=>decide (c=x)) s:=by have:=Df.2 h;rw[<-Bt] at this;exact of_decide_eq_true this
theorem yj {s:List au} {c:au} (h:c∉s):¬(0:Int)<=idxOf (λx=>decide (c=x)) s:=λe=>h (Df.1 (by rw[<-Bt];exact decide_eq_true e))
theorem oH.put {l:List aH} {s zs:List au} (h:oH l s zs) (hs:zs.Pairwise λx y=>pZ x y=true) {x:aH} (hx:x∈l) (hA:x.A∈s) (hB:x.B∈s) (hne: (x.A∈zs/\x.B∉zs)\/(x.A∉zs/\x.B∈zs)):
  oH l s (fF (fF zs x.A) x.B)/\((fF (fF zs x.A) x.B).Pairwise λx y=>pZ x y=true)/\(fF (fF zs x.A) x.B).length=zs.length+1:=by
 obtain⟨r,hr,nM⟩:∃r,oH l s (zs++[r])/\∀y,y∈fF (fF zs x.A) x.B↔y∈zs++[r]:=by
  rcases hne with⟨h1,h2⟩|⟨h1,h2⟩
  ·refine⟨x.B,h.add hx hA hB (.inr ⟨rfl,h1⟩) h2,λy=>?_⟩;rw[Dy,Dy,List.mem_append,List.mem_singleton];exact⟨λe=>e.elim .inr (λe=>e.elim (λe=> .inl (e▸h1)) .inl),λe=>e.elim (λe=> .inr (.inr e)) .inl⟩
  ·refine⟨x.A,h.add hx hA hB (.inl ⟨rfl,h2⟩) h1,λy=>?_⟩;rw[Dy,Dy,List.mem_append,List.mem_singleton];exact⟨λe=>e.elim (λe=> .inl (e▸h2)) (λe=>e.elim .inr .inl),λe=>e.elim (λe=> .inr (.inr e)) (λe=> .inr (.inl e))⟩
 have WE:=K_ (c:=x.B) (K_ (c:=x.A) hs);have gi: (fF (fF zs x.A) x.B).Nodup:=CS (WE.imp λh=>by rw[HF] at h;exact h);refine⟨⟨gi,λy hy=>hr.sub y ((nM y).1 hy),(nM _).2 hr.first,λy hy=>hr.same y ((nM y).1 hy)⟩,WE,?_⟩;have:=((List.perm_ext_iff_of_nodup gi hr.nd).2 nM).length_eq;rw[this,List.length_append];rfl
def mK:List (List au)->List au->List (List au)
 |[],s=>[s]
 |p::out,s=>if fU p s<0 then p::mK out s else s::p::out
def jL (sets:List (List au)):List (List au):=(gV sets).foldl mK []
section
variable {out ys zs sets:List (List au)} {s:List au}
theorem WG:∀{out:List (List au)} {k:Nat},k<=out.length->(∀i (hi:i<k) (h:i<out.length),fU out[i] s<0)->(∀h:k<out.length,¬fU out[k] s<0)->out.take k++s::out.drop k=mK out s
 |[],k,hk,_,_=>by simp[mK]
 |p::out,0,_,_,h2=>by
  have:=h2 b_;simp only[List.getElem_cons_zero] at this;simp[mK,this]
 |p::out,k+1,hk,h1,h2=>by
  have h0:=h1 0 af b_;simp only[List.getElem_cons_zero] at h0;have ih:=WG (out:=out) (k:=k) (by simpa using hk) (λi hi h=>by have:=h1 (i+1) af (by simpa using h);simpa using this) (λh=>by have:=h2 (by simpa using h);simpa using this);simp only[mK,h0,if_true,List.take_succ_cons,List.drop_succ_cons,List.cons_append,ih]
theorem Lb:∀(out:List (List au)) (s:List au),(mK out s).Perm (s::out)
 |[],s=>List.Perm.refl _
 |p::out,s=>by
  unfold mK;split
  ·exact((Lb out s).cons p).trans (List.Perm.swap s p out)
  ·exact List.Perm.refl _
theorem WH (out:List (List au)) (s:List au): (mK out s).length=out.length+1:=by rw[(Lb out s).length_eq];rfl
theorem aar {x y z:List au} (h:fU x y<=0) (h':fU y z<=0):fU x z<=0:=Fh.2 x y z trivial trivial trivial h h'
theorem BM (x y:List au):fU x y<0↔0<fU y x:=Fh.1 x y trivial trivial
theorem WJ:∀{out:List (List au)},out.Pairwise (λp q=>fU p q<=0)->(mK out s).Pairwise λp q=>fU p q<=0
 |[],_=>by simp[mK]
 |p::out,h=>by
  obtain⟨h1,h2⟩:=List.pairwise_cons.1 h;unfold mK;split
  ·rename_i hlt;refine List.pairwise_cons.2 ⟨λq hq=>?_,WJ h2⟩;rcases List.mem_cons.1 ((Lb out s).mem_iff.1 hq) with e|hq
   ·subst e;omega
   ·exact h1 q hq
  ·rename_i hn;have hsp:fU s p<=0:=by have:=BM p s;omega
   refine List.pairwise_cons.2 ⟨λq hq=>?_,h⟩;rcases List.mem_cons.1 hq with e|hq
   ·subst e;exact hsp
   ·exact aar hsp (h1 q hq)
theorem Lc:∀(ys out:List (List au)),out.Pairwise (λp q=>fU p q<=0)->(ys.foldl mK out).Pairwise (λp q=>fU p q<=0)/\(ys.foldl mK out).Perm (out++ys)
 |[],out,h=>⟨h,by simp⟩
 |y::ys,out,h=>by
  obtain⟨h1,h2⟩:=Lc ys (mK out y) (WJ h);refine⟨h1,h2.trans (((Lb out y).append_right ys).trans ?_)⟩;exact(List.perm_middle (l₁:=out) (l₂:=ys) (a:=y)).symm
theorem aas (ys:List (List au)): (ys.foldl mK []).length=ys.length:=by have:=(Lc ys [] List.Pairwise.nil).2.length_eq;simpa using this
theorem Ld (hp:ys.Perm zs) (hz:zs.Pairwise λp q=>fU p q<0):ys.foldl mK []=zs:=by
 obtain⟨h1,h2⟩:=Lc ys [] List.Pairwise.nil;have WK: (ys.foldl mK []).Perm zs:=h2.trans (by simpa using hp);refine List.Perm.eq_of_pairwise (le:=λp q=>fU p q<=0) (λa b ha hb h3 h4=>?_) h1 (hz.imp λh=>by omega) WK;have ha:=WK.mem_iff.1 ha;obtain⟨i,hi,rfl⟩:=List.getElem_of_mem ha;obtain⟨j,hj,rfl⟩:=List.getElem_of_mem hb;rcases Nat.lt_trichotomy i j with h|h|h
 ·have:=List.pairwise_iff_getElem.1 hz i j hi hj h;have h5:=BM zs[i] zs[j];omega
 ·subst h;rfl
 ·have:=List.pairwise_iff_getElem.1 hz j i hj hi h;have h5:=BM zs[j] zs[i];omega
theorem Ab (h:ys.Pairwise λp q=>eF (p.headD ⟨0,0⟩) (q.headD ⟨0,0⟩)):ys.Pairwise λp q=>fU p q<0:=h.imp λh=>xL.2 h
theorem aat {l:List aH} {ds:List bp} (h:eU l ds ys):gV ys=ys:=List.filter_eq_self.2 λp hp=>decide_eq_true (h.len p hp)
theorem Le {l:List aH} {ds:List bp} (h:eU l ds ys):jL ys=ys:=by
 unfold jL;rw[aat h];exact Ld (List.Perm.refl _) (Ab h.heads)
theorem O8 {l:List aH} {ds:List bp} (h:eU l ds zs) (hs:fm fU ys zs):jL ys=zs:=by
 have hb:gV ys=ys:=List.filter_eq_self.2 λp hp=>decide_eq_true (h.len p (hs.perm.mem_iff.2 hp));unfold jL;rw[hb];exact Ld hs.perm.symm (Ab h.heads)
end
def s8 (l:List aH) (st:iU) (sets:List (List au)):iU:=
 if sets.all (lM l)=true/\(st.found=false\/st.val<fc l sets) then⟨true,sets,fc l sets⟩ else st
def tV (l:List aH) (ds:List bp) (rs:List au) (sets:List (List au)) (st:iU):iU:=(qw ds rs sets).foldl (s8 l) st
def qE (l:List aH) (ds:List bp) (r:au) (rs:List au) (sets:List (List au)) (st:iU):Nat->iU
 |0=>st
 |k+1=>if pT ds (sets.getD k []) r then tV l ds rs (sets.set k (sets.getD k []++[r])) (qE l ds r rs sets st k) else qE l ds r rs sets st k
theorem WL (l:List aH) (ds:List bp) (r:au) (rs:List au) (sets:List (List au)) (st:iU):∀k,qE l ds r rs sets st k=((List.range k).flatMap λk=>if pT ds (sets.getD k []) r then qw ds rs (sets.set k (sets.getD k []++[r])) else[]).foldl (s8 l) st
 |0=>rfl
 |k+1=>by
  rw[List.range_succ,List.flatMap_append,List.foldl_append,<-WL l ds r rs sets st k,qE];simp only[List.flatMap_cons,List.flatMap_nil,List.append_nil];split
  ·rfl
  ·rfl
theorem O9 (l:List aH) (ds:List bp) (r:au) (rs:List au) (sets:List (List au)) (st:iU):tV l ds (r::rs) sets st=tV l ds rs (sets++[[r]]) (qE l ds r rs sets st sets.length):=by
 unfold tV;rw[qw,List.foldl_append,<-WL]
section
variable {l:List aH} {ds:List bp} {sets:List (List au)} {a b:iU}
theorem aau (x:au):lM l [x]=true:=by simp[lM]
theorem aav (hne:∀x∈l,x.A≠x.B) (sets:List (List au)):fc l (gV sets)=fc l sets:=by
 unfold fc;refine congrArg (λq:List aH=>(q.map (·.w)).sum) (List.filter_congr λx hx=>?_);rw[Bool.eq_iff_iff,List.any_eq_true,List.any_eq_true];constructor
 ·rintro⟨p,hp,h⟩;exact⟨p,(List.mem_filter.1 hp).1,h⟩
 ·rintro⟨p,hp,h⟩;have h2:x.A∈p/\x.B∈p:=of_decide_eq_true h;exact⟨p,List.mem_filter.2 ⟨hp,decide_eq_true (gy h2.1 h2.2 (hne x hx))⟩,h⟩
theorem aaw (hs:∀s∈sets,s≠[]):sets.all (lM l)=pU l sets:=by
 unfold pU;rw[Bool.eq_iff_iff,List.all_eq_true,List.all_eq_true];constructor
 ·exact λh s hm=>h s (List.mem_filter.1 hm).1
 ·intro h s hm;by_cases e:2<=s.length
  ·exact h s (List.mem_filter.2 ⟨hm,decide_eq_true e⟩)
  ·match s,hs s hm,e with
   |[x],_,_=>exact aau x
   |[],h0,_=>exact absurd rfl h0
   |x::y::t,_,e=>simp at e
def HL (a b:iU):Prop:=a.found=b.found/\gV a.best=b.best/\a.val=b.val
theorem aax (hne:∀x∈l,x.A≠x.B) (hs:∀s∈sets,s≠[]) (h:HL a b):HL (s8 l a sets) (oe l b sets):=by
 obtain⟨h1,h2,h3⟩:=h;unfold s8 oe;rw[aaw hs,h1,h3,aav hne];split
 ·exact⟨rfl,rfl,rfl⟩
 ·exact⟨h1,h2,h3⟩
theorem WM (hne:∀x∈l,x.A≠x.B):∀(L:List (List (List au))) {a b:iU},(∀sets∈L,∀s∈sets,s≠[])->HL a b->HL (L.foldl (s8 l) a) (L.foldl (oe l) b)
 |[],_,_,_,h=>h
 |x::L,_,_,hs,h=>WM hne L (λs hm=>hs s (List.mem_cons_of_mem _ hm)) (aax hne (hs x List.mem_cons_self) h)
theorem aay (hne:∀x∈l,x.A≠x.B) (ds:List bp):jL (tV l ds (aM l) [] sW).best=rj l ds:=by
 have h:HL (tV l ds (aM l) [] sW) (tM l ds (aM l) [] sW):=WM hne _ (λs hs=>(Hh lu.nil s hs).ne) ⟨rfl,rfl,rfl⟩;have he:rj l ds=gV (tV l ds (aM l) [] sW).best:=h.2.1.symm;have hP:=Vr l ds;unfold jL;rw[<-he];exact Ld (List.Perm.refl _) (Ab hP.heads)
end
def Fl (l:List aH) (i:Nat):Int:=(l.getD i ⟨⟨0,0⟩,⟨0,0⟩,0⟩).w
def hv (l:List aH) (i k:Nat):Prop:=Fl l k<Fl l i\/Fl l i=Fl l k/\i<k
instance (l:List aH) (i k:Nat):Decidable (hv l i k):=by unfold hv;infer_instance
structure Ord (l:List aH) (is:List Nat):Prop where
 nd:is.Nodup
 lt:∀i∈is,i<l.length
 pw:is.Pairwise (hv l)
 rest:∀i∈is,∀q,q<l.length->q∉is->hv l i q
structure ve (l:List aH) (is:List Nat) (i:Nat) (b:Int):Prop where
 none_:b<0->b= -1/\∀q,q<i->q∈is
 some_:0<=b->b.toNat<i/\b.toNat∉is/\∀q,q<i->q∈is\/q=b.toNat\/hv l b.toNat q
section
variable {l:List aH} {is:List Nat} {i:Nat} {b:Int}
theorem BN (h:i<l.length):Fl l i=l[i].w:=by unfold Fl;rw[List.getD_eq_getElem?_getD,List.getElem?_eq_getElem h];rfl
theorem aaz {i j k:Nat} (h:hv l i j) (h':hv l j k):hv l i k:=by unfold hv at*;omega
theorem Ord.nil:Ord l []:=⟨List.nodup_nil,λi h=>by(cases h),List.Pairwise.nil,λi h=>by(cases h)⟩
theorem ve.start:ve l is 0 (-1):=⟨λ_=>⟨rfl,λq h=>by omega⟩,λh=>by omega⟩
theorem ve.skip (h:ve l is i b) (h1:i∈is\/0<=b/\¬hv l i b.toNat):ve l is (i+1) b:=by
 refine⟨λe=>⟨(h.none_ e).1,λq hq=>?_⟩,λe=>?_⟩
 ·by_cases eq:q=i
  ·subst eq;exact h1.resolve_right (λh=>by omega)
  ·exact(h.none_ e).2 q af
 ·obtain⟨a1,a2,a3⟩:=h.some_ e;refine⟨by omega,a2,λq hq=>?_⟩;by_cases eq:q=i
  ·subst eq;rcases h1 with h1|⟨_,h1⟩
   ·exact .inl h1
   ·refine .inr (.inr ?_);unfold hv at*;omega
  ·exact a3 q af
theorem ve.take (h:ve l is i b) (h1:i∉is) (h2:b<0\/hv l i b.toNat):ve l is (i+1) i:=by
 refine⟨λe=>by omega,λ_=>?_⟩;rw[Int.toNat_natCast];refine⟨by omega,h1,λq hq=>?_⟩;by_cases eq:q=i
 ·exact .inr (.inl eq)
 ·rcases h2 with h2|h2
  ·exact .inl ((h.none_ h2).2 q af)
  ·by_cases hb:b<0
   ·exact .inl ((h.none_ hb).2 q af)
   ·rcases(h.some_ af).2.2 q af with h3|h3|h3
    ·exact .inl h3
    ·subst h3;exact .inr (.inr h2)
    ·exact .inr (.inr (aaz h2 h3))
theorem Ord.len (h:Ord l is):is.length<=l.length:=by
 have:=h.nd.length_le_of_subset (l₂:=List.range l.length) (λi hi=>List.mem_range.2 (h.lt i hi));rwa [List.length_range] at this
theorem Ord.full (h:Ord l is) (hn:∀q,q<l.length->q∈is):l.length<=is.length:=by
 have:=List.nodup_range.length_le_of_subset (l₁:=List.range l.length) (l₂:=is) (λq hq=>hn q (List.mem_range.1 hq));rwa [List.length_range] at this
theorem Ord.some (h:Ord l is) (hl:is.length<l.length) (hb:ve l is l.length b):0<=b:=by
 apply Classical.byContradiction;intro hn;have:=h.full (hb.none_ af).2;omega
theorem Ord.add (h:Ord l is) (h0:0<=b) (hb:ve l is l.length b):Ord l (is++[b.toNat]):=by
 obtain⟨a1,a2,a3⟩:=hb.some_ h0;refine⟨List.nodup_append.2 ⟨h.nd,by simp,λx hx y hy e=>?_⟩,λi hi=>?_,List.pairwise_append.2 ⟨h.pw,by simp,λx hx y hy=>?_⟩,λi hi q hq hn=>?_⟩
 ·rw[List.mem_singleton] at hy;subst hy;subst e;exact a2 hx
 ·rcases List.mem_append.1 hi with hi|hi
  ·exact h.lt i hi
  ·rw[List.mem_singleton] at hi;omega
 ·rw[List.mem_singleton] at hy;subst hy;exact h.rest x hx _ a1 a2
 ·rw[List.mem_append,List.mem_singleton] at hn;rcases List.mem_append.1 hi with hi|hi
  ·exact h.rest i hi q hq (λe=>hn (.inl e))
  ·rw[List.mem_singleton] at hi;subst hi;rcases a3 q hq with h3|h3|h3
   ·exact absurd (.inl h3) hn
   ·exact absurd (.inr h3) hn
   ·exact h3
def ym (l:List aH) (i:Nat):aH:=l.getD i ⟨⟨0,0⟩,⟨0,0⟩,0⟩
theorem O_ (h:i<l.length):ym l i=l[i]:=by unfold ym;rw[List.getD_eq_getElem?_getD,List.getElem?_eq_getElem h];rfl
theorem Ord.fin (h:Ord l is) (hl:is.length=l.length):fm iO l (is.map (ym l)):=by
 have hL: ((is.pmap (λi h=>(⟨i,h⟩:Fin l.length)) h.lt).map λi=>l[i.val])=is.map (ym l):=by
  rw[List.map_pmap];apply List.ext_getElem
  ·simp
  ·intro k h1 h2;rw[List.getElem_pmap,List.getElem_map];exact(O_ (h.lt _ (List.getElem_mem _))).symm
 rw[<-hL];refine fm.O1 ((List.perm_ext_iff_of_nodup ?_ (List.nodup_finRange _)).2 λx=>⟨λ_=>List.mem_finRange x,λ_=>?_⟩) ?_
 ·exact(List.pairwise_pmap h.lt).2 (h.nd.imp λhne _ _ e=>hne (by injection e))
 ·rw[List.mem_pmap];refine⟨x.val,?_,rfl⟩;apply Classical.byContradiction;intro hn;have h1: (x.val::is).Nodup:=List.nodup_cons.2 ⟨hn,h.nd⟩;have h2:=h1.length_le_of_subset (l₂:=List.range l.length) (λi hi=>List.mem_range.2 (by
   rcases List.mem_cons.1 hi with e|e
   ·subst e;exact x.isLt
   ·exact h.lt i e))
  rw[List.length_range,List.length_cons] at h2;omega
 ·refine(List.pairwise_pmap h.lt).2 (h.pw.imp λ{i k} hik hi hk=>?_);refine⟨hi,hk,?_⟩;unfold iO;unfold hv at hik;rw[BN hi,BN hk] at hik;rcases hik with e|⟨e,e2⟩
  ·exact .inl (Kz.2 e)
  ·exact .inr ⟨K2.2 e.symm,e2⟩
def rC (l:List aH) (is:List Nat):List Bool:=(List.range l.length).map λi=>decide (i∈is)
theorem aaA:List.replicate l.length false=rC l []:=by
 apply List.ext_getElem
 ·simp[rC]
 ·intro i h1 h2;simp[rC]
theorem Ac (l:List aH) (is:List Nat): (rC l is).length=l.length:=by simp[rC]
theorem HM (h:i<(rC l is).length): (rC l is)[i]=decide (i∈is):=by simp[rC]
theorem aaB (l:List aH) (is:List Nat) (k:Nat): (rC l is).set k true=rC l (is++[k]):=by
 apply List.ext_getElem
 ·simp[rC]
 ·intro i h1 h2;rw[List.getElem_set,HM,HM];by_cases e:k=i
  ·rw[if_pos e];subst e;simp
  ·rw[if_neg e,decide_eq_decide,List.mem_append,List.mem_singleton];exact⟨.inl,λh=>h.resolve_right (λe2=>e e2.symm)⟩
end
def Fm (ds:List bp) (p q:List au):Bool:=p.all λx=>q.all λy=>!eP ds x y
def yo (ds:List bp) (sets:List (List au)) (b:aH):List (List au):=
 let i:=(wG sets b.A).toNat
 let k:=(wG sets b.B).toNat
 if wG sets b.A=wG sets b.B then sets else if Fm ds (sets.getD i []) (sets.getD k [])=true then(sets.set i ((sets.getD k []).foldl fF (sets.getD i []))).set k [] else sets
structure p8 (refs:List au) (g:au->List au) (sets:List (List au)):Prop where
 WN:∀r∈refs,∃i,∃h:i<sets.length,r∈sets[i]
 eq:∀i (h:i<sets.length),∀r∈sets[i],r∈refs/\sets[i]=jS (g r)
 yp:∀i j (hi:i<sets.length) (hj:j<sets.length) (r:au),r∈sets[i]->r∈sets[j]->i=j
section
variable {refs:List au} {g:au->List au} {sets:List (List au)} {l:List aH} {ds:List bp} {b:aH}
theorem aaC {p q p' q':List au} (hp:∀r,r∈p↔r∈p') (hq:∀r,r∈q↔r∈q'):Fm ds p q=!ya ds p' q':=by
 unfold Fm ya;rw[Bool.eq_iff_iff,Bool.not_eq_true',List.all_eq_true,List.any_eq_false];constructor
 ·intro h r hr;rw[Bool.not_eq_true,List.any_eq_false];intro o ho;have:=List.all_eq_true.1 (h r ((hp r).2 hr)) o ((hq o).2 ho);simpa using this
 ·intro h r hr;rw[List.all_eq_true];intro o ho;have:=h r ((hp r).1 hr);rw[Bool.not_eq_true,List.any_eq_false] at this;simpa using this o ((hq o).1 ho)
theorem p8.start (refs:List au) (hn:refs.Nodup):p8 refs (λr=>[r]) (refs.map λr=>[r]):=by
 refine⟨λr hr=>?_,λi h r hr=>?_,λi j hi hj r h1 h2=>?_⟩
 ·obtain⟨i,hi,rfl⟩:=List.getElem_of_mem hr;exact⟨i,by simpa using hi,by simp⟩
 ·rw[List.getElem_map,List.mem_singleton] at hr;rw[List.getElem_map];subst hr;exact⟨List.getElem_mem _,by simp[jS]⟩
 ·rw[List.getElem_map,List.mem_singleton] at h1 h2;have hi':i<refs.length:=by simpa using hi
  have hj':j<refs.length:=by simpa using hj
  rcases Nat.lt_trichotomy i j with h|h|h
  ·exact absurd (h1.symm.trans h2) (List.pairwise_iff_getElem.1 (List.nodup_iff_pairwise_ne.1 hn) i j hi' hj' h)
  ·exact h
  ·exact absurd (h2.symm.trans h1) (List.pairwise_iff_getElem.1 (List.nodup_iff_pairwise_ne.1 hn) j i hj' hi' h)
theorem p8.find (h:p8 refs g sets) {r:au} (hr:r∈refs):∃i:Nat,∃hi:i<sets.length,wG sets r=i/\r∈sets[i]/\sets[i]=jS (g r):=by
 obtain⟨i,hi,hm⟩:=h.WN r hr;refine⟨i,hi,x8 hi (λj hj=>Bool.eq_false_iff.2 λhp=>?_) (Df.2 hm),hm,(h.eq i hi r hm).2⟩;have:=h.yp j i af hi r (Df.1 hp) hm;omega
theorem WO {x y:au}:pZ x y=true↔eF x y:=by rw[HF];rfl
theorem aaD {p q:List au} (hp:p.Pairwise eF) {both:List au} (hn:both.Nodup) (hm:∀r,r∈both↔r∈p\/r∈q):q.foldl fF p=jS both:=by
 obtain⟨h1,h2⟩:=O5 q p (hp.imp λh=>WO.2 h);refine J9 (h1.imp λh=>WO.1 h) (KR _ hn) λr=>?_;rw[h2,mj,hm]
theorem p8.step (lP:jW l ds g) (h:p8 refs g sets) (hA:b.A∈refs) (hB:b.B∈refs):p8 refs (qy ds g b) (yo ds sets b)/\(yo ds sets b).length=sets.length:=by
 obtain⟨i,hi,e1,m1,s1⟩:=h.find hA;obtain⟨k,hk,e2,m2,s2⟩:=h.find hB;have hik:i=k↔b.B∈g b.A:=by
  constructor
  ·intro e;subst e;rw[s1,mj] at m2;exact m2
  ·intro e;exact h.yp i k hi hk b.B (by rw[s1,mj];exact e) m2
 unfold yo;simp only[e1,e2,Int.toNat_natCast];by_cases Pa:i=k
 ·rw[if_pos (by rw[Pa]),K0 (.inl (hik.1 Pa))];exact⟨h,rfl⟩
 ·have WQ:b.B∉g b.A:=λe=>Pa (hik.2 e);rw[if_neg af,ri hi,ri hk,aaC (p':=g b.A) (q':=g b.B) (λr=>by rw[s1,mj]) (λr=>by rw[s2,mj])];by_cases es:ya ds (g b.A) (g b.B)=true
  ·rw[if_neg (by rw[es];decide),K0 (.inr es)];exact⟨h,rfl⟩
  ·rw[if_pos (by rw[Bool.not_eq_true] at es;rw[es];rfl)];have hst:qy ds g b=λr=>if r∈g b.A++g b.B then g b.A++g b.B else g r:=by
    unfold qy;rw[if_neg (λe=>e.elim WQ es)]
   have hap:=lP.apart WQ;have gi: (g b.A++g b.B).Nodup:=List.nodup_append.2 ⟨lP.nd _,lP.nd _,λx hx y hy e=>hap x hx (e▸hy)⟩;have h_:sets[k].foldl fF sets[i]=jS (g b.A++g b.B):=aaD (by rw[s1];exact KR _ (lP.nd _)) gi (λr=>by rw[List.mem_append,s1,s2,mj,mj]);rw[hst,h_];refine⟨⟨λr hr=>?_,λj hj r hr=>?_,λj1 j2 h1 h2 r Pb nM=>?_⟩,by simp⟩
   ·obtain⟨j,hj,hm⟩:=h.WN r hr;by_cases hjk:j=k
    ·subst hjk;refine⟨i,by simpa using hi,?_⟩;rw[List.getElem_set_ne af,List.getElem_set_self,mj,List.mem_append];rw[s2,mj] at hm;exact .inr hm
    ·by_cases hji:j=i
     ·subst hji;refine⟨j,by simpa using hi,?_⟩;rw[List.getElem_set_ne af,List.getElem_set_self,mj,List.mem_append];rw[s1,mj] at hm;exact .inl hm
     ·exact⟨j,by simpa using hj,by rw[List.getElem_set_ne af,List.getElem_set_ne af];exact hm⟩
   ·have hj':j<sets.length:=by simpa using hj
    by_cases hjk:j=k
    ·subst hjk;rw[List.getElem_set_self] at hr;cases hr
    ·rw[List.getElem_set_ne af] at hr⊢;by_cases hji:j=i
     ·subst hji;rw[List.getElem_set_self] at hr⊢;rw[mj] at hr;refine⟨?_,by rw[if_pos hr]⟩;rcases List.mem_append.1 hr with hr|hr
      ·exact(h.eq j hi r (by rw[s1,mj];exact hr)).1
      ·exact(h.eq k hk r (by rw[s2,mj];exact hr)).1
     ·rw[List.getElem_set_ne af] at hr⊢;obtain⟨h3,h4⟩:=h.eq j hj' r hr;refine⟨h3,?_⟩;rw[if_neg (λhm=>?_)];exact h4;rcases List.mem_append.1 hm with hm|hm
      ·exact hji (h.yp j i hj' hi r hr (by rw[s1,mj];exact hm))
      ·exact hjk (h.yp j k hj' hk r hr (by rw[s2,mj];exact hm))
   ·have key:∀j (hj:j<((sets.set i (jS (g b.A++g b.B))).set k []).length),r∈((sets.set i (jS (g b.A++g b.B))).set k [])[j]->j≠k/\((j=i/\(r∈sets[i]\/r∈sets[k]))\/(j≠i/\∃hj':j<sets.length,r∈sets[j])):=λj hj hr=>by
     have hj':j<sets.length:=by simpa using hj
     by_cases hjk:j=k
     ·subst hjk;rw[List.getElem_set_self] at hr;cases hr
     ·rw[List.getElem_set_ne af] at hr;refine⟨hjk,?_⟩;by_cases hji:j=i
      ·subst hji;rw[List.getElem_set_self,mj,List.mem_append] at hr;exact .inl ⟨rfl,by rw[s1,s2,mj,mj];exact hr⟩
      ·rw[List.getElem_set_ne af] at hr;exact .inr ⟨hji,hj',hr⟩
    obtain⟨n1,c1⟩:=key j1 h1 Pb;obtain⟨n2,c2⟩:=key j2 h2 nM;rcases c1 with⟨a1,c1⟩|⟨a1,b1,c1⟩<;>rcases c2 with⟨a2,c2⟩|⟨a2,b2,c2⟩
    ·omega
    ·rcases c1 with c1|c1
     ·exact absurd (h.yp j2 i b2 hi r c2 c1) a2
     ·exact absurd (h.yp j2 k b2 hk r c2 c1) n2
    ·rcases c2 with c2|c2
     ·exact absurd (h.yp j1 i b1 hi r c1 c2) a1
     ·exact absurd (h.yp j1 k b1 hk r c1 c2) n1
    ·exact h.yp j1 j2 b1 b2 r c1 c2
theorem p8.fold:∀(ord:List aH) {g:au->List au} {sets:List (List au)},(∀b∈ord,b∈l)->jW l ds g->p8 (aM l) g sets->p8 (aM l) (ord.foldl (qy ds) g) (ord.foldl (yo ds) sets)/\(ord.foldl (yo ds) sets).length=sets.length
 |[],_,_,_,_,h=>⟨h,rfl⟩
 |b::ord,g,sets,ho,lP,h=>by
  have hb:=ho b List.mem_cons_self;obtain⟨h1,h2⟩:=h.step lP (jG.2 ⟨b,hb,.inl rfl⟩) (jG.2 ⟨b,hb,.inr rfl⟩);obtain⟨h3,h4⟩:=p8.fold ord (λx hx=>ho x (List.mem_cons_of_mem _ hx)) (lP.step hb) h1;exact⟨h3,by rw[List.foldl_cons,h4,h2]⟩
theorem p8.out (lP:jW l ds g) (h:p8 (aM l) g sets):jL sets=og (aM l) g:=by
 have hP:=lP.out (zy l);refine Ld ?_ (Ab hP.heads);have hz: (og (aM l) g).Nodup:=List.nodup_iff_pairwise_ne.2 ((Ab hP.heads).imp λ{p q} hlt e=>by subst e;have:=BM p p;omega);have hy: (gV sets).Nodup:=by
  unfold gV;rw[List.nodup_iff_pairwise_ne,List.pairwise_filter,List.pairwise_iff_getElem];intro i j hi hj hij h1 h2 e;have h1:2<=sets[i].length:=of_decide_eq_true h1;have hm:=List.getElem_mem (l:=sets[i]) (n:=0) af;have:=h.yp i j hi hj _ hm (e▸hm);omega
 refine(List.perm_ext_iff_of_nodup hy hz).2 λs=>?_;unfold gV og;rw[List.mem_filter,List.mem_map];constructor
 ·rintro⟨hs,h2⟩;have h2:2<=s.length:=of_decide_eq_true h2;obtain⟨i,hi,rfl⟩:=List.getElem_of_mem hs;obtain⟨r,hr⟩:∃r,sets[i].head?=some r:=by
   rw[List.head?_eq_getElem?,List.getElem?_eq_getElem af];exact⟨_,rfl⟩
  have hm:r∈sets[i]:=List.mem_of_mem_head? hr;obtain⟨h3,h4⟩:=h.eq i hi r hm;refine⟨r,List.mem_filter.2 ⟨h3,?_⟩,h4.symm⟩;unfold yb;rw[decide_eq_true_eq,<-h4];exact⟨by omega,hr⟩
 ·rintro⟨r,hr,rfl⟩;obtain⟨h1,h2⟩:=List.mem_filter.1 hr;unfold yb at h2;have h2:=of_decide_eq_true h2;obtain⟨i,hi,_,_,h4⟩:=h.find h1;exact⟨h4▸List.getElem_mem hi,decide_eq_true af⟩
theorem aaE {is:List Nat} (h:Ord l is) (hl:is.length=l.length):jL ((is.map (ym l)).foldl (yo ds) ((aM l).map λr=>[r]))=sY l ds:=by
 have hS:=h.fin hl;have e:=hS.eq wJ (λ_ _=>trivial);have hsub:∀b∈is.map (ym l),b∈l:=λb hb=>hS.sub b hb;obtain⟨h1,_⟩:=p8.fold (ds:=ds) _ hsub (jW.start) (p8.start (aM l) (xM l));have h2:=h1.out (jW.fold _ jW.start hsub);rw[h2];unfold sY ef;rw[e]
end
section
variable {α:Type} [bn α] {P:Program} {N:Nat} {env:Env} {w:World} {C:Nat->Nat} {t e:TypeId} {s v:Value} {y z:Operand} {zs:List α} {j:Nat}
theorem WR {bytes:Nat} (hF:aF w C) (hj:j≠0) (hx:ev env y=some (.slice none 0 0)) (hy:ev env z=some s) (hrow:rO P t e (sz α) bytes=true) (hsz:0<sz α)
  (hsrc:aq w (aj C) zs s) (hlen:zs.length*bytes<=140737488355328) (h63:zs.length<=140737488355328):
  g_ P N env (.call {callee:=.builtin .append,args:=#[y,z],argTypes:=#[t,t]}) w (λv' w'=>∃aG,av [] w C w' aG/\aQ w' aG j e v' zs/\aF w' aG/\∀b,cQ v' b->w.heap.size<=b):=λa ha fB gO=>by
 have Lf:aQ w C j e (.slice none 0 0) ([]:List α):=aQ.nil;have hno:∀b,¬cQ (.slice none 0 0) b:=λb h=>by cases h
 obtain⟨v',w',h1,h2,h3,h4⟩:=MP (P:=P) (N:=N) hx hy hrow hsz Lf.own hsrc (by simpa using hlen) (by simpa using h63) a ha fB gO;rw[List.nil_append] at h2;have hnew:∀b,cQ v' b->w.heap.size<=b:=λb hb=>(h4 b hb).resolve_left (hno b);have kU:∀b,b<w.heap.size->gP C v' j b=C b:=λb hb=>by
  unfold gP;split
  ·rename_i e;have:=hnew b e;omega
  ·rfl
 refine⟨v',w',h1,gP C v' j,⟨h3.mono (λb _ hb=>absurd hb (hno b)),kU⟩,⟨h2.sub (λb hb hc=>?_) (λb hb=>?_),λb hb=>?_⟩,λb hb=>?_,hnew⟩
 ·by_cases ho:cQ v' b
  ·exact .inl ho
  ·right;unfold aj gP at hc;rw[if_neg (show¬v'.ownBlock=some b from ho)] at hc;exact hc
 ·unfold aj gP;rw[if_pos (show v'.ownBlock=some b from hb)];exact hj
 ·unfold gP;rw[if_pos (show v'.ownBlock=some b from hb)]
 ·by_cases ho:cQ v' b
  ·exact(h2.fG b ho).2
  ·unfold gP at hb;rw[if_neg (show¬v'.ownBlock=some b from ho)] at hb;exact Nat.lt_of_lt_of_le (hF b hb) h3.size
end
section
variable {α:Type} [bn α] {w:World} {C:Nat->Nat} {e r9:TypeId} {v:Value} {us:List Value} {rows:List (List α)} {j n:Nat}
theorem ff.aaF (h:ff w C j e us rows):∀k (hk:k<us.length),us[k].oneCell'=true:=λk hk=>((h.own k hk (by rw[<-h.len];exact hk)).one).2
theorem ff.WS (h:ff w C j e us rows) (hj:n<=j) (hl:∀r∈rows,r.length<=9223372036854775807):∀k (hk:k<us.length) (hk':k<rows.length),aq w (aj (K.bO n C)) rows[k] us[k]:=λk hk hk'=>(h.own k hk hk').bO hj (hl _ (List.getElem_mem _))
theorem Pc (ho:aQ w C 6 r9 v (us.map gu.mk)) (hr:ff w C 7 e us rows) (hl:∀r∈rows,r.length<=9223372036854775807) (hn:rows.length<=9223372036854775807):aq w (aj (K.bO 6 C)) rows v:=by
 have h1:=hr.len;have h2:aq w (aj (K.bO 6 C)) (us.map gu.mk) v:=ho.bO ak (by rw[List.length_map];omega);refine aq.Nn h2 rfl (by rw[List.length_map];exact h1.symm) λi hi hi2=>?_;rw[List.getElem_map];exact hr.WS ak hl i (by rw[h1];exact hi) hi
theorem Pd {s:Value} {x:List α} (ho:aQ w C 6 r9 v ((us.map gu.mk)++[⟨s⟩])) (hr:ff w C 7 e us rows) (hs:aq w (aj (K.bO 6 C)) x s) (hl:∀r∈rows,r.length<=9223372036854775807) (hn:rows.length<=922337203685477580):aq w (aj (K.bO 6 C)) (rows++[x]) v:=by
 have h1:=hr.len;have h2:aq w (aj (K.bO 6 C)) ((us.map gu.mk)++[⟨s⟩]) v:=ho.bO ak sN;refine aq.Nn h2 rfl (by simp[h1]) λi hi hi2=>?_;by_cases e:i<us.length
 ·rw[List.getElem_append_left af,List.getElem_append_left (by rw[List.length_map];exact e),List.getElem_map];exact hr.WS ak hl i e af
 ·have:i=us.length:=by simp at hi2;omega
  subst this;rw[List.getElem_append_right af,List.getElem_append_right b_];simpa[h1] using hs
theorem bS.aaG {w:World} {C:Nat->Nat} {j b n:Nat} {fG:Obj} (h:bS w C j b fG) (hj:n<=j):bS w (K.bO n C) 0 b fG:=⟨by unfold K.bO;rw[h.col,if_pos hj],h.at_⟩
theorem WT {s:List au} {p:au->Bool} {k:Nat} (hk:k<s.length): (!(s.take (k+1)).any p)=((!(s.take k).any p)&&!p s[k]):=by
 rw[List.take_succ_eq_append_getElem hk,List.any_append];simp
end
def rE (n:Nat) (C aG:Nat->Nat):Nat->Nat:=λb=>if b<n then C b else if aG b=6\/aG b=7 then aG b else 0
section
variable {α:Type} [bn α] {w w':World} {C aG:Nat->Nat} {e:TypeId} {v:Value} {ys:List α} {us:List Value} {rows:List (List α)} {j:Nat}
theorem av.rE (h:av [6,7] w (aI C) w' aG):av [] w C w' (K.rE w.heap.size C aG):=
 ⟨h.ext.mono (λb _ hc=>by
  simp only[List.mem_cons,List.not_mem_nil,or_false] at hc⊢;unfold K.aI at hc;split at hc<;>omega),λb hb=>by unfold K.rE;rw[if_pos hb]⟩
theorem WU (h:av [6,7] w (aI C) w' aG):∀b,aj (rE w.heap.size C aG) b->aj aG b:=λb hb=>by
 unfold aj K.rE at*;by_cases hlt:b<w.heap.size
 ·rw[if_pos hlt] at hb;rw[h.col b hlt];unfold aI;rw[if_neg hb];decide
 ·rw[if_neg hlt] at hb;split at hb<;>omega
theorem av.aaH (h:av [6,7] w (aI C) w' aG) (hF:aF w C) (OJ:aF w' aG):aF w' (K.rE w.heap.size C aG):=λb hb=>OJ b (WU h b hb)
theorem WV (h:av [6,7] w (aI C) w' aG) {b:Nat} (hj:j=6\/j=7) (hb:aG b=j):rE w.heap.size C aG b=j:=by
 unfold K.rE;by_cases hlt:b<w.heap.size
 ·have h1:=h.col b hlt;rw[hb] at h1;unfold aI at h1;split at h1<;>omega
 ·rw[if_neg hlt,hb,if_pos hj]
theorem aQ.rE (ho:aQ w' aG j e v ys) (h:av [6,7] w (aI C) w' aG) (hF:aF w C) (hj:j=6\/j=7):aQ w' (K.rE w.heap.size C aG) j e v ys:=
 ⟨ho.own.sub (λb _ hb=>WU h b hb) (λb hb=>by unfold aj;rw[WV h hj (ho.col b hb)];omega),λb hb=>WV h hj (ho.col b hb)⟩
theorem ff.rE (hr:ff w' aG j e us rows) (h:av [6,7] w (aI C) w' aG) (hF:aF w C) (hj:j=6\/j=7):ff w' (K.rE w.heap.size C aG) j e us rows:=⟨hr.len,λk h1 h2=>(hr.own k h1 h2).rE h hF hj,hr.wQ⟩
end
section
variable {l:List aH} {ds:List bp} {r:au} {rs:List au} {rows:List (List au)} {st:iU} {k:Nat}
theorem Lh (l:List aH) (ds:List bp) (sets:List (List au)) (st:iU):tV l ds [] sets st=s8 l st sets:=rfl
theorem aaI (hk:k<rows.length) (h:pT ds rows[k] r=true) (rs:List au):qE l ds r rs rows st (k+1)=tV l ds rs (rows.set k (rows[k]++[r])) (qE l ds r rs rows st k):=by
 rw[qE,ri hk,if_pos h]
theorem aaJ (hk:k<rows.length) (h:pT ds rows[k] r=false) (rs:List au):qE l ds r rs rows st (k+1)=qE l ds r rs rows st k:=by
 rw[qE,ri hk,if_neg (by rw[h];decide)]
theorem aaK {q:Nat} (hq:q<rows.length) (h:lM l rows[q]=false):s8 l st rows=st:=by
 unfold s8;rw[if_neg];rintro⟨h2,_⟩;have:=List.all_eq_true.1 h2 _ (List.getElem_mem hq);rw[h] at this;cases this
theorem aaM (h:∀q (hq:q<rows.length),lM l rows[q]=true):rows.all (lM l)=true:=List.all_eq_true.2 λx hx=>by
 obtain⟨q,hq,rfl⟩:=List.getElem_of_mem hx;exact h q hq
theorem aaN (h:st.found=true) (h2:fc l rows<=st.val):s8 l st rows=st:=by
 unfold s8;rw[if_neg];rintro⟨_,h3|h3⟩
 ·rw[h] at h3;cases h3
 ·omega
theorem WW {n:Nat}:∀(L:List (List (List au))) {st:iU},(∀s∈L,s.length<=n)->st.best.length<=n->(L.foldl (s8 l) st).best.length<=n
 |[],_,_,h=>h
 |x::L,st,hs,h=>by
  rw[List.foldl_cons];refine WW L (λs hm=>hs s (List.mem_cons_of_mem _ hm)) ?_;unfold s8;split
  ·exact hs x List.mem_cons_self
  ·exact h
theorem aaO (l:List aH) (ds:List bp): (tV l ds (aM l) [] sW).best.length<=(aM l).length:=
 WW _ (λs hs=>by
  have h:=(Hh lu.nil s hs).heads.length_le;rw[List.length_map] at h;simpa using h) (by simp[sW])
theorem Pe {α:Type} {s:List α} {p:α->Bool} {k:Nat} (hk:k<s.length): (s.take (k+1)).all p=((s.take k).all p&&p s[k]):=by
 rw[List.take_succ_eq_append_getElem hk,List.all_append];simp
theorem aaQ (q:List au):∀p:List au,(q.foldl fF p).length<=p.length+q.length:=by
 induction q with
 |nil=>intro p;simp
 |cons c q ih=>intro p;have h1:=ih (fF p c);have h2:=BK c p;rw[List.foldl_cons,List.length_cons];omega
theorem aaR {p:List au} (h:p∈jL rows):2<=p.length:=by
 unfold jL at h;have:=(Lc (gV rows) [] List.Pairwise.nil).2.mem_iff.1 h;rw[List.nil_append] at this;exact of_decide_eq_true (List.mem_filter.1 this).2
theorem aaS (rows:List (List au)): (jL rows).length<=rows.length:=by unfold jL;rw[aas];exact List.length_filter_le _ _
theorem aaT (h:k<rows.length):jL (rows.take (k+1))=if 2<=rows[k].length then mK (jL (rows.take k)) rows[k] else jL (rows.take k):=by
 unfold jL;rw[VE h];split
 ·rw[List.foldl_append];rfl
 ·rfl
structure sA (l:List aH) (ds:List bp) (is:List Nat) (sets:List (List au)):Prop where
 ord:Ord l is
 eq:sets=(is.map (ym l)).foldl (yo ds) ((aM l).map λr=>[r])
theorem sA.nil:sA l ds [] ((aM l).map λr=>[r]):=⟨Ord.nil,rfl⟩
theorem sA.gr {is:List Nat} {sets:List (List au)} (h:sA l ds is sets):∃g,jW l ds g/\p8 (aM l) g sets/\sets.length=(aM l).length:=by
 have hsub:∀b∈is.map (ym l),b∈l:=λb hb=>by
  obtain⟨i,hi,rfl⟩:=List.mem_map.1 hb;rw[O_ (h.ord.lt i hi)];exact List.getElem_mem _
 obtain⟨h1,h2⟩:=p8.fold (ds:=ds) (l:=l) _ hsub jW.start (p8.start (aM l) (xM l));exact⟨_,jW.fold _ jW.start hsub,h.eq▸h1,by rw[h.eq,h2];simp⟩
theorem sA.add {is:List Nat} {sets:List (List au)} (h:sA l ds is sets) {m:Nat} (ho:Ord l (is++[m])):sA l ds (is++[m]) (yo ds sets (ym l m)):=⟨ho,by rw[List.map_append,List.foldl_append,<-h.eq];rfl⟩
theorem sA.fin {is:List Nat} {sets:List (List au)} (h:sA l ds is sets) (hl:is.length=l.length):jL sets=sY l ds:=by rw[h.eq];exact aaE h.ord hl
theorem sA.aaU {is:List Nat} {sets:List (List au)} (h:sA l ds is sets):∀s∈sets,s.length<=2*l.length:=by
 obtain⟨g,lP,hR,_⟩:=h.gr;intro s hs;obtain⟨i,hi,rfl⟩:=List.getElem_of_mem hs;by_cases e:sets[i].length=0
 ·omega
 ·obtain⟨h1,h2⟩:=hR.eq i hi _ (List.getElem_mem (show 0<sets[i].length by omega));have h3:=lP.len h1;rw[h2,(zx _).length_eq];exact h3
theorem sA.at_ {is:List Nat} {sets:List (List au)} (h:sA l ds is sets) {m:Nat} (hm:m<l.length):∃(i k:Nat) (hi:i<sets.length) (hk:k<sets.length),wG sets l[m].A=i/\wG sets l[m].B=k/\
  yo ds sets (ym l m)=if(i:Int)=(k:Int) then sets else if Fm ds sets[i] sets[k]=true then(sets.set i (sets[k].foldl fF sets[i])).set k [] else sets:=by
 obtain⟨g,lP,hR,_⟩:=h.gr;obtain⟨i,hi,e1,_,_⟩:=hR.find (jG.2 ⟨l[m],List.getElem_mem hm,.inl rfl⟩);obtain⟨k,hk,e2,_,_⟩:=hR.find (jG.2 ⟨l[m],List.getElem_mem hm,.inr rfl⟩);refine⟨i,k,hi,hk,e1,e2,?_⟩;unfold yo;rw[O_ hm];simp only[e1,e2,Int.toNat_natCast,ri hi,ri hk]
theorem WX (h:rows.all (lM l)=true) (h2:st.found=false\/st.val<fc l rows):s8 l st rows=⟨true,rows,fc l rows⟩:=by unfold s8;rw[if_pos ⟨h,h2⟩]
end
def HN (x y:aH):Prop:=y.w<x.w\/(x.w=y.w/\kN x y)
section
variable {l zs ord:List aH} {ds:List bp} {x y:aH}
theorem aaV (h:HN x y):¬HN y x:=λh'=>by
 unfold HN kN eF at*;by_cases e:x.A=y.A
 ·rw[e] at h h';omega
 ·have hne:x.A.a≠y.A.a\/x.A.b≠y.A.b:=Classical.byContradiction λhn=>e (J7 af af);have e2:¬y.A=x.A:=λe2=>e e2.symm;simp only[e,e2,false_and,or_false] at h h';omega
theorem WY (hl:l.Pairwise kN) (h:fm iO l zs):zs.Pairwise HN:=by
 obtain⟨σ,h1,h2,h3⟩:=h;have hlen:=h1.len;refine List.pairwise_iff_getElem.2 λi j hi hj hij=>?_;obtain⟨a,b,h4⟩:=h3 i j af hij af;rw[h1.get (show i<l.length by omega),h1.get (show j<l.length by omega)];unfold iO at h4;rcases h4 with h4|⟨h4,h5⟩
 ·exact .inl (Kz.1 h4)
 ·exact .inr ⟨(K2.1 h4).symm,List.pairwise_iff_getElem.1 hl (σ i) (σ j) a b h5⟩
theorem HO (l:List aH):fm iO l (uT iO l):=by
 obtain⟨zs,hz⟩:=fm.ex wJ l;rw[<-hz.eq wJ (λ_ _=>trivial)];exact hz
theorem aaW (hl:l.Pairwise kN) (p:aH->Bool):uT iO (l.filter p)=(uT iO l).filter p:=
 List.Perm.eq_of_pairwise (le:=HN) (λa b _ _ h h'=>absurd h' (aaV h)) (WY (hl.sublist List.filter_sublist) (HO _)) ((WY hl (HO l)).sublist List.filter_sublist)
  ((HO _).perm.trans ((HO l).perm.filter p).symm)
theorem WZ (xs:List aH) (b:aH):ef ds (xs++[b])=qy ds (ef ds xs) b:=by unfold ef;rw[List.foldl_append];rfl
theorem W0 (tW:au->au) (ho:∀b∈ord,tW b.A=tW b.B):∀k,k<=ord.length->∀r,ef ds (ord.take k) r=ef ds ((ord.take k).filter λb=>decide (tW b.A=tW r)) r/\∀q∈ef ds (ord.take k) r,tW q=tW r
 |0,_,r=>by
  refine⟨by simp,λq hq=>?_⟩;rw[List.take_zero] at hq;have:q∈[r]:=hq;rw[List.mem_singleton.1 this]
 |k+1,hk,r=>by
  have ih:=W0 tW ho k af;have hb:=ho _ (List.getElem_mem (show k<ord.length by omega));rw[List.take_succ_eq_append_getElem af,List.filter_append,WZ];obtain⟨b,aaX⟩:∃b,b=ord[k]:=⟨_,rfl⟩
  rw[<-aaX] at hb⊢;by_cases e:tW b.A=tW r
  ·rw[List.filter_cons_of_pos (by rw[decide_eq_true_eq];exact e),List.filter_nil,WZ];have key:∀s,tW s=tW r->ef ds ((ord.take k).filter λb=>decide (tW b.A=tW r)) s=ef ds (ord.take k) s:=λs hs=>by rw[(ih s).1,hs]
   have hA:=key b.A e;have hB:=key b.B (hb▸e);have hr:=key r rfl;unfold qy;rw[hA,hB];split
   ·exact⟨hr.symm,(ih r).2⟩
   ·simp only[];split
    ·refine⟨rfl,λq hq=>?_⟩;rcases List.mem_append.1 hq with h|h
     ·rw[(ih b.A).2 q h,e]
     ·rw[(ih b.B).2 q h,<-hb,e]
    ·exact⟨hr.symm,(ih r).2⟩
  ·rw[List.filter_cons_of_neg (by rw[decide_eq_true_eq];exact e),List.filter_nil,List.append_nil];have hno:r∉ef ds (ord.take k) b.A++ef ds (ord.take k) b.B:=λhm=>by
    rcases List.mem_append.1 hm with h|h
    ·exact e ((ih b.A).2 r h).symm
    ·exact e (by rw[hb];exact((ih b.B).2 r h).symm)
   have hst:qy ds (ef ds (ord.take k)) b r=ef ds (ord.take k) r:=by
    unfold qy;split
    ·rfl
    ·simp only[];rw[if_neg hno]
   rw[hst];exact ih r
theorem W3 (hv:pN l) {i:Nat} (h:i<(aY l).length) {r:au} (hr:r∈aM (aY l)[i]):ef ds (uT iO (aY l)[i]) r=ef ds (uT iO l) r:=by
 have hs:=(uV h).1 hr;rw[Hg,aaW hv.2.2];have:=(W0 (ds:=ds) (ord:=uT iO l) (bZ l) (λb hb=>zz ((HO l).sub b hb)) (uT iO l).length (Nat.le_refl _) r).1;rw[List.take_length] at this;rw[this,hs.2]
theorem Fo {wf:List aH->List (List au)×Int} (hQ:∀i (h:i<(aY l).length),eU (aY l)[i] ds (wf (aY l)[i]).1) {zs:List (List au)} (hz:fm fU (eE wf (aY l)) zs):eU l ds zs:=(zA hQ hz).1
theorem ajV (hv:pN l):jL (eE (Hz ds) (aY l))=sY l ds:=by
 have hE:=OW l ds;have hQ:∀i (h:i<(aY l).length),eU (aY l)[i] ds (Hz ds (aY l)[i]).1:=λi h=>zI ds _;obtain⟨zs,hz⟩:=fm.ex Fh (eE (Hz ds) (aY l));have hzs:=Fo hQ hz;rw[O8 hzs hz];have gi:∀{ys:List (List au)},eU l ds ys->ys.Nodup:=λ{ys} h=>List.nodup_iff_pairwise_ne.2 ((Ab h.heads).imp λ{p q} hlt e=>by subst e;have:=BM p p;omega);refine List.Perm.eq_of_pairwise (le:=λp q=>fU p q<0) (λa b _ _ h h'=>?_) (Ab hzs.heads) (Ab hE.heads) ((List.perm_ext_iff_of_nodup (gi hzs) (gi hE)).2 λp=>?_)
 ·have:=BM a b;omega
 ·rw[hz.perm.mem_iff];unfold eE Hz;rw[List.mem_flatMap];constructor
  ·rintro⟨part,hp,hm⟩;obtain⟨i,hi,rfl⟩:=List.getElem_of_mem hp;unfold sY og at hm⊢;obtain⟨r,hr,rfl⟩:=List.mem_map.1 hm;obtain⟨h1,h2⟩:=List.mem_filter.1 hr;have e:=W3 (ds:=ds) hv hi h1;unfold yb at h2;rw[e] at h2⊢;exact List.mem_map.2 ⟨r,List.mem_filter.2 ⟨((uV hi).1 h1).1,h2⟩,rfl⟩
  ·intro hm;unfold sY og at hm;obtain⟨r,hr,rfl⟩:=List.mem_map.1 hm;obtain⟨h1,h2⟩:=List.mem_filter.1 hr;obtain⟨i,hi,h3⟩:=Zt h1;have e:=W3 (ds:=ds) hv hi h3;refine⟨_,List.getElem_mem hi,?_⟩;unfold sY og;refine List.mem_map.2 ⟨r,List.mem_filter.2 ⟨h3,?_⟩,by rw[e]⟩;unfold yb at h2⊢;rw[e];exact h2
end
theorem W4 {α:Type} {r:α->α->Prop} (ht:∀a b c,r a b->r b c->r a c) {l:List α} (h:∀i (hi:i+1<l.length),r l[i] l[i+1]):l.Pairwise r:=by
 refine List.pairwise_iff_getElem.2 λi j hi hj hij=>?_;obtain⟨d,rfl⟩:∃d,j=i+1+d:=⟨j-i-1,by omega⟩
 clear hij
 induction d with
 |zero=>exact h i hj
 |succ d ih=>exact ht _ _ _ (ih af) (h (i+1+d) hj)
theorem aaY {x y z:aH} (h:kN x y) (h':kN y z):kN x z:=by
 unfold kN at*;rcases h with h|⟨e,h⟩<;>rcases h' with h'|⟨e',h'⟩
 ·exact .inl (Bi h h')
 ·exact .inl (e'▸h)
 ·exact .inl (e▸h')
 ·exact .inr ⟨e.trans e',Bi h h'⟩
theorem HP {l:List aH} (h:gD l=0):pN l:=by
 obtain⟨h1,h2⟩:=T5 h;have key:∀k (hk:k<l.length),okB l[k]/\∀h0:0<k,kN (l[k-1]'af) l[k]:=λk hk=>by
  have e:=h2 k hk;rw[Nr hk] at e;by_cases c1:iB l[k].A l[k].B=false
  ·rw[if_pos c1] at e;cases e
  ·rw[if_neg c1] at e;by_cases c2:l[k].w<1\/1048576<l[k].w
   ·rw[if_pos c2] at e;cases e
   ·rw[if_neg c2] at e;refine⟨⟨by simpa using c1,by omega,by omega⟩,λh0=>Classical.byContradiction λhn=>?_⟩;rw[if_pos ⟨h0,hn⟩] at e;cases e
 refine⟨h1,λx hx=>?_,W4 (r:=kN) (λ_ _ _ h h'=>aaY h h') λi hi=>(key (i+1) hi).2 af⟩;obtain⟨k,hk,rfl⟩:=List.getElem_of_mem hx;exact(key k hk).1
theorem Li {l:List aH} (hv:pN l):∀x∈l,1<=x.w/\x.w<=1048576:=λx hx=>(hv.2.1 x hx).2
theorem aaZ {l:List aH} (hv:pN l):∀x∈l,x.A≠x.B:=λx hx=>Vf (hv.2.1 x hx)
section
variable {l:List aH} {ds:List bp} {ps c4:List (List au)} {p:List au}
theorem W5 {a b:List au} (h1:0<a.length) (h2:0<b.length):eF a[0] b[0]↔eF (a.headD ⟨0,0⟩) (b.headD ⟨0,0⟩):=by
 rw[List.headD_eq_head?_getD,List.headD_eq_head?_getD,List.head?_eq_getElem?,List.head?_eq_getElem?,List.getElem?_eq_getElem h1,List.getElem?_eq_getElem h2];rfl
theorem eU.take (h:eU l ds ps) (i:Nat):eU l ds (ps.take i):=
 have hs:=List.take_sublist i ps
 ⟨λp hp=>h.jw p (hs.subset hp),λp hp=>h.len p (hs.subset hp),λp hp=>h.bar p (hs.subset hp),λp hp=>h.join p (hs.subset hp),h.zR.sublist (Hj hs),h.heads.sublist hs⟩
theorem eU.next {i:Nat} (h:eU l ds (ps.take i)) (hi:i<ps.length) (ha:ps[i].Pairwise eF) (hp:rm l ds ps[i]=true) (hf:∀r∈ps[i],r∉(ps.take i).flatten) (hh:∀h0:0<i,eF ((ps[i-1]'af).headD ⟨0,0⟩) (ps[i].headD ⟨0,0⟩)):eU l ds (ps.take (i+1)):=by
 unfold rm at hp;rw[Bool.and_eq_true,Bool.and_eq_true,decide_eq_true_eq] at hp;rw[List.take_succ_eq_append_getElem hi];have hm:∀q,q∈ps.take i++[ps[i]]->q∈ps.take i\/q=ps[i]:=λq hq=>by rw[List.mem_append,List.mem_singleton] at hq;exact hq
 refine⟨λq hq=>?_,λq hq=>?_,λq hq=>?_,λq hq=>?_,?_,?_⟩
 ·rcases hm q hq with hq|rfl
  ·exact h.jw q hq
  ·exact ha
 ·rcases hm q hq with hq|rfl
  ·exact h.len q hq
  ·exact hp.1.1
 ·rcases hm q hq with hq|rfl
  ·exact h.bar q hq
  ·exact KU.1 hp.1.2
 ·rcases hm q hq with hq|rfl
  ·exact h.join q hq
  ·exact Oh.1 hp.2
 ·rw[List.flatten_append];refine List.nodup_append.2 ⟨h.zR,by simpa using CS ha,λx hx y hy e=>?_⟩;subst e;exact hf x (by simpa using hy) hx
 ·refine List.pairwise_append.2 ⟨h.heads,by simp,λq hq y hy=>?_⟩;rw[List.mem_singleton] at hy;subst hy;obtain⟨j,hj,rfl⟩:=List.getElem_of_mem hq;rw[List.length_take] at hj;have hl:=hh af;by_cases e:j=i-1
  ·subst e;rw[List.getElem_take];exact hl
  ·have h3:=List.pairwise_iff_getElem.1 h.heads j (i-1) tA tA af;rw[List.getElem_take,List.getElem_take] at h3;rw[List.getElem_take];exact Bi h3 hl
theorem aa0 {p:List au} (h:∀q (hq:q<p.length),∀h0:0<q,eF (p[q-1]'af) p[q]):p.Pairwise eF:=W4 (r:=eF) (λ_ _ _ h h'=>Bi h h') λi hi=>h (i+1) hi af
theorem aa1 {p:List au} {q:Nat} (hq:q<p.length) (h0:0<q) (h:¬eF (p[q-1]'af) p[q]):¬p.Pairwise eF:=λhp=>h (List.pairwise_iff_getElem.1 hp (q-1) q af hq af)
open Classical in
noncomputable def p9 (l:List aH) (ds:List bp) (ps:List (List au)):Int:=if iY l ds≠0 then iY l ds else if eU l ds ps then 0 else 44
theorem W6 (h:iY l ds≠0):p9 l ds ps=iY l ds:=by unfold p9;rw[if_pos h]
theorem Pf (h:iY l ds=0) (hp:eU l ds ps):p9 l ds ps=0:=by unfold p9;rw[if_neg (by rw[h];simp),if_pos hp]
theorem Pg (h:iY l ds=0) (hp:¬eU l ds ps):p9 l ds ps=44:=by unfold p9;rw[if_neg (by rw[h];simp),if_neg hp]
theorem eU.aa2 (h:eU l ds ps) {i:Nat} (h0:0<i) (hi:i<ps.length):eF ((ps[i-1]'af).headD ⟨0,0⟩) (ps[i].headD ⟨0,0⟩):=List.pairwise_iff_getElem.1 h.heads (i-1) i af hi af
end
noncomputable def iP (wf:List aH->List (List au)×Int) (l:List aH) (ds:List bp):List (List au)×Int×Int:=
 if iY l ds≠0 then([],0,iY l ds) else if(aY l).all (λp=>decide ((wf p).2=0))=true then(jL (eE wf (aY l)),fc l (jL (eE wf (aY l))),0) else([],0,1)
section
variable {l:List aH} {ds:List bp} {wf:List aH->List (List au)×Int}
theorem Lj (h:iY l ds≠0):iP wf l ds=([],0,iY l ds):=by unfold iP;rw[if_pos h]
theorem HQ (h:iY l ds=0) (h2:∀k (hk:k<(aY l).length),(wf (aY l)[k]).2=0):iP wf l ds=(jL (eE wf (aY l)),fc l (jL (eE wf (aY l))),0):=by
 unfold iP;rw[if_neg (by rw[h];simp),if_pos (List.all_eq_true.2 λp hp=>by obtain⟨k,hk,rfl⟩:=List.getElem_of_mem hp;exact decide_eq_true (h2 k hk))]
theorem BO (h:iY l ds=0):gD l=0/\iw ds=0:=by
 unfold iY at h;by_cases e:gD l=0
 ·rw[if_neg (by rw[e];simp)] at h;exact⟨e,h⟩
 ·rw[if_pos e] at h;exact absurd h e
theorem HR (ds:List bp) (l:List aH): (dK ds l).2=0:=by unfold dK;split<;>rfl
theorem W7 (hQ:∀i (h:i<(aY l).length),eU (aY l)[i] ds (wf (aY l)[i]).1):∀i k (hi:i<(eE wf (aY l)).length) (hk:k<(eE wf (aY l)).length),i≠k->fU (eE wf (aY l))[i] (eE wf (aY l))[k]≠0:=by
 obtain⟨zs,hz⟩:=fm.ex Fh (eE wf (aY l));have sq:=Ab (Fo hQ hz).heads;have hnz:zs.Nodup:=List.nodup_iff_pairwise_ne.2 (sq.imp λ{p q} hlt e=>by subst e;have:=BM p p;omega);have gi:=hz.perm.nodup_iff.1 hnz;intro i k hi hk hne;obtain⟨a,ha,ea⟩:=List.getElem_of_mem (hz.perm.mem_iff.2 (List.getElem_mem hi));obtain⟨b,hb,eb⟩:=List.getElem_of_mem (hz.perm.mem_iff.2 (List.getElem_mem hk));rw[<-ea,<-eb];rcases Nat.lt_trichotomy a b with h|h|h
 ·have:=List.pairwise_iff_getElem.1 sq a b ha hb h;omega
 ·subst h;exfalso;have e:=ea.symm.trans eb;rcases Nat.lt_trichotomy i k with h|h|h
  ·exact List.pairwise_iff_getElem.1 (List.nodup_iff_pairwise_ne.1 gi) i k hi hk h e
  ·exact hne h
  ·exact List.pairwise_iff_getElem.1 (List.nodup_iff_pairwise_ne.1 gi) k i hk hi h e.symm
 ·have:=List.pairwise_iff_getElem.1 sq b a hb ha h;have h2:=BM zs[b] zs[a];omega
end
section
variable {old bJ:List aH} {d1 d2:List bp} {zs:List (List au)}
theorem aa3 {s p:List au}:p∈rB zs s↔p∈zs/\p.headD ⟨0,0⟩∈s:=by unfold rB;rw[List.mem_filter,decide_eq_true_eq]
theorem aa4 {s p:List au} {bs:List aH} (hk:ry s old=bs) (hs:s=aM bs) (hj:sV old p) (h2:2<=p.length) (hh:p.headD ⟨0,0⟩∈s):∀x∈p,x∈s:=λx hx=>by
 have hinv:=λr=>uM (p:=λr=>decide (r∈s)) (l:=jh old p) (λy hy=>by
  have W8:y∈old:=(List.mem_filter.1 hy).1;refine decide_eq_decide.2 ⟨λhm=>?_,λhm=>?_⟩
  ·have:y∈bs:=by rw[<-hk];exact Wd.2 ⟨W8,.inl hm⟩
   rw[hs];exact jG.2 ⟨y,this,.inr rfl⟩
  ·have:y∈bs:=by rw[<-hk];exact Wd.2 ⟨W8,.inr hm⟩
   rw[hs];exact jG.2 ⟨y,this,.inl rfl⟩) r
 have h1:=hinv x;rw[hj x hx _ (Cq h2),hinv,decide_eq_true hh] at h1;exact of_decide_eq_true h1.symm
theorem aa5 (hP:eU old d1 zs) {s:List au} {bs:List aH} (hk:mw old d1 d2 s bs=true) (hs:s=aM bs):eU bs d2 (rB zs s):=by
 obtain⟨h1,h2⟩:=of_decide_eq_true hk;have hsub: (rB zs s).Sublist zs:=List.filter_sublist;have hin:∀p∈rB zs s,∀x∈p,x∈s:=λp hp=>by
  obtain⟨hz,hh⟩:=aa3.1 hp;exact aa4 h1 hs (hP.join p hz) (hP.len p hz) hh
 refine⟨λp hp=>hP.jw p (hsub.subset hp),λp hp=>hP.len p (hsub.subset hp),λp hp=>?_,λp hp=>?_,hP.zR.sublist (Hj hsub),hP.heads.sublist hsub⟩
 ·exact List.Pairwise.imp_of_mem (λ{a b} ha hb hab=>by rw[<-W2 h2 (hin p hp a ha) (hin p hp b hb)];exact hab) (hP.bar p (hsub.subset hp))
 ·have e:jh bs p=jh old p:=by
   rw[<-h1];unfold jh ry;rw[List.filter_filter];refine List.filter_congr λy hy=>?_;by_cases hw:y.A∈p/\y.B∈p
   ·rw[decide_eq_true hw,decide_eq_true (.inl (hin p hp _ hw.1))];rfl
   ·rw[decide_eq_false hw];rfl
  unfold sV;rw[e];exact hP.join p (hsub.subset hp)
noncomputable def mL (old:List aH) (d1:List bp) (zs:List (List au)) (d2:List bp) (p:List aH):List (List au)×Int:=(if mw old d1 d2 (aM p) p=true then rB zs (aM p) else(dK d2 p).1,0)
theorem Lk {p:List aH} (h:mw old d1 d2 (aM p) p=true): (mL old d1 zs d2 p).1=rB zs (aM p):=by unfold mL;rw[if_pos h]
theorem Ph {p:List aH} (h:¬mw old d1 d2 (aM p) p=true): (mL old d1 zs d2 p).1=(dK d2 p).1:=by unfold mL;rw[if_neg h]
theorem aa6 (hP:eU old d1 zs) {i:Nat} (h:i<(aY bJ).length):eU (aY bJ)[i] d2 (mL old d1 zs d2 (aY bJ)[i]).1:=by
 by_cases hk:mw old d1 d2 (aM (aY bJ)[i]) (aY bJ)[i]=true
 ·rw[Lk hk];exact aa5 hP hk rfl
 ·rw[Ph hk];exact ye d2 _
end
noncomputable def kj (old:List aH) (d1:List bp) (zs:List (List au)) (bJ:List aH) (d2:List bp):Int:=if p9 old d1 zs≠0 then p9 old d1 zs else if gD bJ≠0 then gD bJ else iw d2
section
variable {old bJ:List aH} {d1 d2:List bp} {zs:List (List au)}
theorem W9 (h:p9 old d1 zs≠0):kj old d1 zs bJ d2=p9 old d1 zs:=by unfold kj;rw[if_pos h]
theorem W_ (h:p9 old d1 zs=0) (h2:gD bJ≠0):kj old d1 zs bJ d2=gD bJ:=by unfold kj;rw[if_neg (by rw[h];simp),if_pos h2]
theorem HS (h:p9 old d1 zs=0) (h2:gD bJ=0):kj old d1 zs bJ d2=iw d2:=by unfold kj;rw[if_neg (by rw[h];simp),if_neg (by rw[h2];simp)]
theorem aa7 (h:p9 old d1 zs=0):gD old=0/\iw d1=0/\eU old d1 zs:=by
 by_cases e:iY old d1=0
 ·by_cases hp:eU old d1 zs
  ·exact⟨(BO e).1,(BO e).2,hp⟩
  ·rw[Pg e hp] at h;exact absurd h ak
 ·rw[W6 e] at h;exact absurd h e
theorem Xa (h:kj old d1 zs bJ d2=0): (pN old/\iw d1=0/\eU old d1 zs)/\pN bJ/\iw d2=0:=by
 by_cases e:p9 old d1 zs=0
 ·by_cases e2:gD bJ=0
  ·rw[HS e e2] at h;have:=aa7 e;exact⟨⟨HP this.1,this.2⟩,HP e2,h⟩
  ·rw[W_ e e2] at h;exact absurd h e2
 ·rw[W9 e] at h;exact absurd h e
end
noncomputable def Dz (old:List aH) (d1:List bp) (zs:List (List au)) (bJ:List aH) (d2:List bp):List (List au):=if kj old d1 zs bJ d2≠0 then[] else jL (eE (mL old d1 zs d2) (aY bJ))
noncomputable def DA (old:List aH) (d1:List bp) (zs:List (List au)) (bJ:List aH) (d2:List bp):List aH:=if kj old d1 zs bJ d2≠0 then[] else bJ
noncomputable def DB (old:List aH) (d1:List bp) (zs:List (List au)) (bJ:List aH) (d2:List bp):Int:=if kj old d1 zs bJ d2≠0 then 0 else IntKind.i64.wrap (fc bJ (jL (eE (mL old d1 zs d2) (aY bJ))))
noncomputable def DC (old:List aH) (d1:List bp) (zs:List (List au)) (bJ:List aH) (d2:List bp):Nat:=if kj old d1 zs bJ d2≠0 then 0 else(rA old d1 d2 bJ (aY bJ).length).length
noncomputable def Ll (old:List aH) (d1:List bp) (zs:List (List au)) (bJ:List aH) (d2:List bp):List (List au):=if kj old d1 zs bJ d2≠0 then[] else rA old d1 d2 bJ (aY bJ).length
section
variable {old bJ:List aH} {d1 d2:List bp} {zs:List (List au)}
theorem aa8 (h:kj old d1 zs bJ d2≠0):Dz old d1 zs bJ d2=[]/\DA old d1 zs bJ d2=[]/\DB old d1 zs bJ d2=0/\DC old d1 zs bJ d2=0/\Ll old d1 zs bJ d2=[]:=by
 unfold Dz DA DB DC Ll;simp only[if_pos h];exact⟨trivial,trivial,trivial,trivial,trivial⟩
theorem Pj (h:kj old d1 zs bJ d2=0):Dz old d1 zs bJ d2=jL (eE (mL old d1 zs d2) (aY bJ))/\DA old d1 zs bJ d2=bJ/\DB old d1 zs bJ d2=IntKind.i64.wrap (fc bJ (jL (eE (mL old d1 zs d2) (aY bJ))))/\DC old d1 zs bJ d2=(rA old d1 d2 bJ (aY bJ).length).length/\Ll old d1 zs bJ d2=rA old d1 d2 bJ (aY bJ).length:=by
 have h':¬kj old d1 zs bJ d2≠0:=by rw[h];simp
 unfold Dz DA DB DC Ll;simp only[if_neg h'];exact⟨trivial,trivial,trivial,trivial,trivial⟩
end
end Go.K
namespace Go.K
open bn
noncomputable def Ad (l:List aH) (ds:List bp):List aH:=if(iP (dK ds) l ds).2.2≠0 then[] else l
noncomputable def Ae (l:List aH) (ds:List bp):List (List au):=if(iP (dK ds) l ds).2.2≠0 then[] else(iP (dK ds) l ds).1
noncomputable def wV (l:List aH) (ds:List bp):Int:=if(iP (dK ds) l ds).2.2≠0 then 0 else(iP (dK ds) l ds).2.1
section
variable {l:List aH} {ds:List bp}
theorem Fp (h: (iP (dK ds) l ds).2.2≠0):Ad l ds=[]/\Ae l ds=[]/\wV l ds=0/\True:=by unfold Ad Ae wV;simp only[if_pos h];exact⟨trivial,trivial,trivial,trivial⟩
theorem DE (h: (iP (dK ds) l ds).2.2=0):Ad l ds=l/\Ae l ds=(iP (dK ds) l ds).1/\wV l ds=(iP (dK ds) l ds).2.1:=by
 have h':¬(iP (dK ds) l ds).2.2≠0:=by rw[h];simp
 unfold Ad Ae wV;simp only[if_neg h'];exact⟨trivial,trivial,trivial⟩
theorem Xb (h: (iP (dK ds) l ds).2.2=0):l.length<=4096:=by
 by_cases e:iY l ds=0
 ·exact(HP (BO e).1).1
 ·rw[Lj e] at h;exact absurd h e
end
end Go.K
namespace Go.K
open bn
def DF {α:Type} (f:Int) (l:List α):List α:=if f≠0 then[] else l
theorem Af {α:Type} {f:Int} {l:List α} (h:f≠0):DF f l=[]:=by unfold DF;rw[if_pos h]
theorem Lm {α:Type} {f:Int} {l:List α} (h:f=0):DF f l=l:=by unfold DF;rw[if_neg (by rw[h];simp)]
theorem HT {ds:List bp} (h:iw ds=0):ds.length<=4096:=(O7 h).1
theorem Ln {l:List aH} {ds:List bp} (hv:pN l) (hd:iw ds=0):iY l ds=0:=by unfold iY;rw[hv.check,if_neg b_];exact hd
theorem aa9 {bJ:List aH} {ds:List bp} (hv:pN bJ) (hd:iw ds=0) {i:Nat} (h:i<(aY bJ).length): (iP (dK ds) (aY bJ)[i] ds).1=(dK ds (aY bJ)[i]).1:=by
 have e:eE (dK ds) (aY (aY bJ)[i])=(dK ds (aY bJ)[i]).1:=by rw[dr h];unfold eE;simp
 rw[HQ (Ln (E2 hv h) hd) (λk hk=>HR ds _),e];exact Le (ye ds _)
end Go.K
namespace Go.K
open bn
theorem aa_ {l:List aH} {ds:List bp} {wf:List aH->List (List au)×Int} (hQ:∀i (h:i<(aY l).length),eU (aY l)[i] ds (wf (aY l)[i]).1):∀p∈eE wf (aY l),p.length<=(aM l).length:=λp hp=>by
 obtain⟨i,hi,h2⟩:=OU hp;exact Nat.le_trans (((hQ i hi).nodup h2).length_le_of_subset λr hr=>(hQ i hi).refs h2 hr) (zO hi)
theorem eU.abb {l:List aH} {ds:List bp} {ps:List (List au)} (h:eU l ds ps): (∀p∈ps,p.length<=2*l.length)/\2*ps.length<=2*l.length:=by
 refine⟨λp hp=>Nat.le_trans ((h.nodup hp).length_le_of_subset λr hr=>h.refs hp hr) (oD l),Nat.le_trans (OV h.len) (Nat.le_trans (h.zR.length_le_of_subset λr hr=>?_) (oD l))⟩;obtain⟨p,hp,hr⟩:=List.mem_flatten.1 hr;exact h.refs hp hr
def yq (a b:Bits) (k:Nat):List j5:=(List.zipWith jH a.words b.words).take k++a.words.drop k
section
variable {a b:Bits} {k:Nat}
theorem Xc (h:a.words.length=b.words.length): (yq a b k).length=a.words.length:=by
 unfold yq;rw[List.length_append,List.length_take,List.length_zipWith,List.length_drop];omega
theorem abd (hk:k<a.words.length) (h:a.words.length=b.words.length): (yq a b k)[k]'(by rw[Xc h];exact hk)=a.words[k]:=by
 have hl: ((List.zipWith jH a.words b.words).take k).length=k:=by rw[List.length_take,List.length_zipWith];omega
 unfold yq;rw[List.getElem_append_right af,List.getElem_drop];congr 1;omega
theorem abe (h:a.words.length=b.words.length):yq a b a.words.length=(lJ a b).words:=by
 unfold yq lJ;rw[List.drop_length,List.append_nil,List.take_of_length_le En]
theorem abf (hk:k<a.words.length) (hk2:k<b.words.length): (yq a b k).set k (jH a.words[k] b.words[k])=yq a b (k+1):=by
 have hl: ((List.zipWith jH a.words b.words).take k).length=k:=by rw[List.length_take,List.length_zipWith];omega
 unfold yq;rw[List.set_append,if_neg af,hl,Nat.sub_self,List.drop_eq_getElem_cons hk,List.set_cons_zero,List.take_succ_eq_append_getElem En,List.getElem_zipWith,List.append_assoc];rfl
end
theorem Pk {b:Bits} (hv:ij b=true) (hu:∀x∈b.words,nK x.n):qp b b.len.toNat=gX b:=(wm hv hu).trans (ET hv hu).symm
theorem pQ.Xd {b:Bits} (h:pQ b):∀x∈b.words,nK x.n:=by
 rcases h with rfl|h
 ·intro x hx;simp at hx
 ·exact h.2.2
theorem abg (a b:Bits):∀x∈(lJ a b).words,nK x.n:=UC
def qF:List Nat->Nat
 |[]=>0
 |x::l=>3*qF l+x
theorem Xe {l:List Nat} {i:Nat} (h:i<l.length):qF (l.drop i)=3*qF (l.drop (i+1))+l[i]:=by
 rw[List.drop_eq_getElem_cons h];rfl
theorem Xf:∀{l:List Nat},(∀x∈l,x<3)->qF l<3^l.length
 |[],_=>by simp[qF]
 |x::l,h=>by
  have h1:=Xf (l:=l) (λy hy=>h y (List.mem_cons_of_mem _ hy));have h2:=h x (List.mem_cons_self ..);rw[List.length_cons,Nat.pow_succ];unfold qF;omega
theorem abh {l:List Nat} (h:∀x∈l,x<3) (h5:l.length<=5) (i:Nat):qF (l.drop i)<243:=by
 have h1:=Xf (l:=l.drop i) (λx hx=>h x (List.mem_of_mem_drop hx));have h2:3^(l.drop i).length<=3^5:=Nat.pow_le_pow_right ak (by rw[List.length_drop];omega);omega
theorem Xg (l:List Nat):∀k,k<=l.length->oF l k+3^k*qF (l.drop k)=qF l
 |0,_=>by simp[oF]
 |k+1,h=>by
  have h1:=Xg l k af;rw[Xe (show k<l.length by omega)] at h1;rw[<-h1,oF,List.getD_eq_getElem?_getD,List.getElem?_eq_getElem (show k<l.length by omega),Option.getD_some,Nat.pow_succ,Nat.mul_add,Nat.mul_comm l[k],Nat.mul_assoc];omega
theorem abj (l:List Nat):qF l=oF l l.length:=by
 have h:=Xg l l.length (Nat.le_refl _);rw[List.drop_length] at h;rw[<-h];simp[qF]
theorem abk {t s:List Int} {k:Nat} (h1:k<t.length) (h2:k<s.length): (mh t s).take (k+1)=(mh t s).take k++[wF t[k] s[k]]:=by
 unfold mh;rw[List.take_succ_eq_append_getElem En,List.getElem_zipWith]
def mA (k:Int) (bR:Nat) (l:List dP):Int:=if k<1\/8<k then 2 else if l≠[]/\k≠bR then 8 else 0
def sB (l:List dP) (id:Int):Int:=idxOf (λx:dP=>decide (x.rc.id=id)) l
theorem abl {l:List dP} {id:Int} {k:Nat} (hk:k<l.length) (h0:∀j (h:j<l.length),j<k->l[j].rc.id≠id) (h:l[k].rc.id=id):sB l id=k:=
 x8 hk (λi hi=>by simpa using h0 i af hi) (by simpa using h)
theorem abm {l:List dP} {id:Int} (h0:∀j (h:j<l.length),l[j].rc.id≠id):sB l id= -1:=Bs λi hi=>by simpa using h0 i hi
theorem Xh {α:Type} {p:α->Bool} {l:List α}:idxOf p l<l.length\/idxOf p l= -1:=by
 unfold idxOf;split
 ·rename_i h;left;obtain⟨x,hx,hp⟩:=List.any_eq_true.1 h;have:=List.findIdx_lt_length_of_exists ⟨x,hx,hp⟩;omega
 ·exact .inr rfl
def yt (x:Int):Bool:=decide (x<0\/1000<x)
def iy (nf:Nat) (bK:List Int) (k:Int) (bR:Nat) (sh:List (List dP)):Int:=
 if bK.length≠nf then 8 else if bK.any yt then 2 else u7 (λi=>mA k bR (kP sh i)) sh.length
section
variable {nf bR:Nat} {bK:List Int} {k:Int} {sh:List (List dP)}
theorem Xi (h:bK.length≠nf):iy nf bK k bR sh=8:=by unfold iy;rw[if_pos h]
theorem Xj (h:bK.length=nf) {i:Nat} (hi:i<bK.length) (hb:bK[i]<0\/1000<bK[i]):iy nf bK k bR sh=2:=by
 unfold iy;rw[if_neg af,if_pos (List.any_eq_true.2 ⟨_,List.getElem_mem hi,decide_eq_true hb⟩)]
theorem abn (h:∀j (h:j<bK.length),0<=bK[j]/\bK[j]<=1000):∀x∈bK,0<=x/\x<=1000:=λx hx=>by obtain⟨j,hj,rfl⟩:=List.getElem_of_mem hx;exact h j hj
theorem Lp (h:bK.length=nf) (ht:∀x∈bK,0<=x/\x<=1000):iy nf bK k bR sh=u7 (λi=>mA k bR (kP sh i)) sh.length:=by
 unfold iy;rw[if_neg af,if_neg];intro e;obtain⟨x,hx,h1⟩:=List.any_eq_true.1 e;have:=ht x hx;simp only[yt,decide_eq_true_eq] at h1;omega
theorem abo (h:bK.length=nf) (hb:bK.any yt=true):iy nf bK k bR sh=2:=by unfold iy;rw[if_neg af,if_pos hb]
theorem abp (h:¬bK.any yt=true):∀x∈bK,0<=x/\x<=1000:=λx hx=>by
 have:¬(x<0\/1000<x):=λe=>h (List.any_eq_true.2 ⟨x,hx,decide_eq_true e⟩);omega
theorem Pm (h:iy nf bK k bR sh=0):bK.length=nf/\(∀x∈bK,0<=x/\x<=1000):=by
 unfold iy at h;split at h
 ·cases h
 ·split at h
  ·cases h
  ·rename_i h1 h2;refine⟨Classical.not_not.1 h1,λx hx=>?_⟩;have:¬(x<0\/1000<x):=λe=>h2 (List.any_eq_true.2 ⟨x,hx,decide_eq_true e⟩);omega
end
def Fq (m:tK) (k:Int) (bR:Nat) (sh:List (List dP)):List iN:=if iy m.aJ.length m.bK k bR sh≠0 then[] else ja m sh sh.length
theorem HU {m:tK} {k:Int} {bR:Nat} {sh:List (List dP)} (h:iy m.aJ.length m.bK k bR sh≠0):Fq m k bR sh=[]:=by unfold Fq;rw[if_pos h]
theorem Lq {m:tK} {k:Int} {bR:Nat} {sh:List (List dP)} (h:iy m.aJ.length m.bK k bR sh=0):Fq m k bR sh=ja m sh sh.length:=by unfold Fq;rw[if_neg (by rw[h];simp)]
theorem bk.HV {w:World} {M:Nat->Prop} {b o:Nat} {x:iN} (h:bk w M x b o):bk w M x.wt b (o+5):=bk.snd (p:=(x.pat,x.wt)) (bk.snd (p:=(x.B,(x.pat,x.wt))) (bk.snd (p:=(x.A,(x.B,(x.pat,x.wt)))) h))
def Xk (sh:List (List dP)) (r:au) (v:Int):Prop:=
 0<=r.a/\∃(ha:r.a.toNat<sh.length),¬sB (sh[r.a.toNat]'ha) r.b<0/\∃h: (sB (sh[r.a.toNat]'ha) r.b).toNat<(sh[r.a.toNat]'ha).length,((sh[r.a.toNat]'ha)[(sB (sh[r.a.toNat]'ha) r.b).toNat]'h).rc.ver=v
noncomputable instance (sh:List (List dP)) (r:au) (v:Int):Decidable (Xk sh r v):=Classical.propDecidable _
noncomputable def vi (sh:List (List dP)) (r:au) (v:Int):Bool:=decide (Xk sh r v)
section
variable {sh:List (List dP)} {r:au} {v:Int}
theorem Lr (h:r.a<0\/(sh.length:Int)<=r.a):vi sh r v=false:=decide_eq_false λ⟨h0,ha,_⟩=>by omega
theorem Xl (ha:r.a.toNat<sh.length) (h:sB (sh[r.a.toNat]'ha) r.b<0):vi sh r v=false:=decide_eq_false λ⟨_,_,h1,_⟩=>h1 h
theorem Xm (ha:r.a.toNat<sh.length) (h:¬∃h: (sB (sh[r.a.toNat]'ha) r.b).toNat<(sh[r.a.toNat]'ha).length,((sh[r.a.toNat]'ha)[(sB (sh[r.a.toNat]'ha) r.b).toNat]'h).rc.ver=v):vi sh r v=false:=decide_eq_false λ⟨_,_,_,h1⟩=>h h1
theorem Xn (h0:0<=r.a) (ha:r.a.toNat<sh.length) (hN:¬sB (sh[r.a.toNat]'ha) r.b<0) (h:∃h: (sB (sh[r.a.toNat]'ha) r.b).toNat<(sh[r.a.toNat]'ha).length,((sh[r.a.toNat]'ha)[(sB (sh[r.a.toNat]'ha) r.b).toNat]'h).rc.ver=v):vi sh r v=true:=decide_eq_true ⟨h0,ha,hN,h⟩
end
noncomputable def wW (sh:List (List dP)) (d:bp):Bool:=vi sh d.A d.bz&&vi sh d.B d.bH
noncomputable def iC (sh:List (List dP)) (ds:List bp):List bp:=ds.filter (wW sh)
theorem Xo {sh:List (List dP)} {ds:List bp}: (iC sh ds).length<=ds.length:=List.length_filter_le _ _
theorem Xp {sh:List (List dP)} {ds:List bp} {k:Nat} (hk:k<ds.length):iC sh (ds.take (k+1))=iC sh (ds.take k)++(if wW sh ds[k]=true then[ds[k]] else[]):=by
 unfold iC;rw[List.take_succ_eq_append_getElem hk,List.filter_append];congr 1;by_cases h:wW sh ds[k]=true
 ·rw[if_pos h,List.filter_cons_of_pos h];rfl
 ·rw[if_neg h,List.filter_cons_of_neg h];rfl
def lB (ds:List bp) (a b:au):Option Bool:=(ds.find? λd=>decide (d.A=a/\d.B=b)).map (·.same)
theorem abq {ds:List bp} {k:Nat} (hk:k<ds.length) (a b:au):lB (ds.take (k+1)) a b=(lB (ds.take k) a b).or (if(ds[k].A,ds[k].B)=(a,b) then some ds[k].same else none):=by
 unfold lB;rw[List.take_succ_eq_append_getElem hk,List.find?_append];by_cases h: (ds[k].A,ds[k].B)=(a,b)
 ·rw[if_pos h,List.find?_cons_of_pos (by injection h with h1 h2;simp[h1,h2])];cases List.find? (λd:bp=>decide (d.A=a/\d.B=b)) (ds.take k)<;>rfl
 ·rw[if_neg h,List.find?_cons_of_neg (by simp;intro h1 h2;exact h (by rw[h1,h2])),List.find?_nil];cases List.find? (λd:bp=>decide (d.A=a/\d.B=b)) (ds.take k)<;>rfl
theorem abr {ds:List bp} {a b:au} {k:Nat} (hk:k<ds.length) (h0:∀j (h:j<ds.length),j<k->¬(ds[j].A=a/\ds[j].B=b)) (h:ds[k].A=a/\ds[k].B=b):lB ds a b=some ds[k].same:=by
 unfold lB;rw[List.find?_eq_some_iff_getElem.2 ⟨by simpa using h,k,hk,rfl,λj hj=>by
  have e:=h0 j af hj;rw[decide_eq_false e];rfl⟩];rfl
theorem abt {ds:List bp} {a b:au} (h0:∀j (h:j<ds.length),¬(ds[j].A=a/\ds[j].B=b)):lB ds a b=none:=by
 unfold lB;rw[List.find?_eq_none.2 λx hx=>by obtain⟨j,hj,rfl⟩:=List.getElem_of_mem hx;simpa using h0 j hj];rfl
def BP (lo hh:Int) (ds:List bp) (c:iN):Bool:=match lB ds c.A c.B with
 |none=>decide (mH lo hh c.wt=2)
 |some s=>s&&decide (mH lo hh c.wt≠0)
section
variable {lo hh:Int} {ds:List bp} {c:iN} {l:List iN}
theorem Ls (h:lB ds c.A c.B=none):BP lo hh ds c=decide (mH lo hh c.wt=2):=by unfold BP;rw[h]
theorem Ag {s:Bool} (h:lB ds c.A c.B=some s):BP lo hh ds c=(s&&decide (mH lo hh c.wt≠0)):=by unfold BP;rw[h]
def Ah (lo hh:Int) (ds:List bp) (l:List iN):List aH:=(l.filter (BP lo hh ds)).map λc=>⟨c.A,c.B,max c.wt hh⟩
theorem Xq: (Ah lo hh ds l).length<=l.length:=by unfold Ah;rw[List.length_map];exact List.length_filter_le _ _
theorem Xr {j:Nat} (hj:j<l.length):Ah lo hh ds (l.take (j+1))=Ah lo hh ds (l.take j)++(if BP lo hh ds l[j]=true then[⟨l[j].A,l[j].B,max l[j].wt hh⟩] else[]):=by
 unfold Ah;rw[List.take_succ_eq_append_getElem hj,List.filter_append,List.map_append];congr 1;by_cases h:BP lo hh ds l[j]=true
 ·rw[if_pos h,List.filter_cons_of_pos h];rfl
 ·rw[if_neg h,List.filter_cons_of_neg h];rfl
theorem abu:mH lo hh c.wt=2\/mH lo hh c.wt=1\/mH lo hh c.wt=0:=by unfold mH;split<;>(try split)<;>omega
end
def p_ (lo hh:Int) (ds:List bp):Int:=if oq lo hh≠0 then oq lo hh else iw ds
def qd (lo hh:Int) (ds:List bp) (l:List iN):List aH:=if p_ lo hh ds≠0 then[] else Ah lo hh ds l
theorem Xs {lo hh:Int} {ds:List bp} {l:List iN} (h:p_ lo hh ds≠0):qd lo hh ds l=[]:=by unfold qd;rw[if_pos h]
theorem Xt {lo hh:Int} {ds:List bp} {l:List iN} (h:p_ lo hh ds=0):qd lo hh ds l=Ah lo hh ds l:=by unfold qd;rw[if_neg (by rw[h];simp)]
theorem Xu {lo hh:Int} {ds:List bp} (h:oq lo hh≠0):p_ lo hh ds=oq lo hh:=by unfold p_;rw[if_pos h]
theorem Xv {lo hh:Int} {ds:List bp} (h:oq lo hh=0):p_ lo hh ds=iw ds:=by unfold p_;rw[if_neg (by rw[h];simp)]
theorem Fs {o:Option Bool} (h:¬o=none) (h2:¬o=some true):o=some false:=by
 cases o with
 |none=>exact absurd rfl h
 |some b=>cases b with
  |true=>exact absurd rfl h2
  |false=>rfl
noncomputable def nq (m:tK) (k:Int) (bR:Nat) (sh:List (List dP)) (lo hh:Int) (ds:List bp):Int×List aH×List (List au)×Int:=
 if iy m.aJ.length m.bK k bR sh≠0 then(iy m.aJ.length m.bK k bR sh,[],[],0) else if oq lo hh≠0 then(oq lo hh,[],[],0) else if iw ds≠0 then(iw ds,[],[],0)
 else if p_ lo hh (iC sh ds)≠0 then(p_ lo hh (iC sh ds),[],[],0)
 else((iP (dK (iC sh ds)) (qd lo hh (iC sh ds) (ja m sh sh.length)) (iC sh ds)).2.2,Ad (qd lo hh (iC sh ds) (ja m sh sh.length)) (iC sh ds),Ae (qd lo hh (iC sh ds) (ja m sh sh.length)) (iC sh ds),wV (qd lo hh (iC sh ds) (ja m sh sh.length)) (iC sh ds))
section
variable {m:tK} {k:Int} {bR:Nat} {sh:List (List dP)} {lo hh:Int} {ds:List bp}
theorem Xw (h:iy m.aJ.length m.bK k bR sh≠0):nq m k bR sh lo hh ds=(iy m.aJ.length m.bK k bR sh,[],[],0):=by unfold nq;rw[if_pos h]
theorem Xx (h1:iy m.aJ.length m.bK k bR sh=0) (h:oq lo hh≠0):nq m k bR sh lo hh ds=(oq lo hh,[],[],0):=by unfold nq;rw[if_neg (λe=>e h1),if_pos h]
theorem Xy (h1:iy m.aJ.length m.bK k bR sh=0) (h2:oq lo hh=0) (h:iw ds≠0):nq m k bR sh lo hh ds=(iw ds,[],[],0):=by unfold nq;rw[if_neg (λe=>e h1),if_neg (λe=>e h2),if_pos h]
theorem Xz (h1:iy m.aJ.length m.bK k bR sh=0) (h2:oq lo hh=0) (h3:iw ds=0) (h:p_ lo hh (iC sh ds)≠0):nq m k bR sh lo hh ds=(p_ lo hh (iC sh ds),[],[],0):=by unfold nq;rw[if_neg (λe=>e h1),if_neg (λe=>e h2),if_neg (λe=>e h3),if_pos h]
theorem XA (h1:iy m.aJ.length m.bK k bR sh=0) (h2:oq lo hh=0) (h3:iw ds=0) (h:p_ lo hh (iC sh ds)=0):nq m k bR sh lo hh ds=((iP (dK (iC sh ds)) (qd lo hh (iC sh ds) (ja m sh sh.length)) (iC sh ds)).2.2,Ad (qd lo hh (iC sh ds) (ja m sh sh.length)) (iC sh ds),Ae (qd lo hh (iC sh ds) (ja m sh sh.length)) (iC sh ds),wV (qd lo hh (iC sh ds) (ja m sh sh.length)) (iC sh ds)):=by
 unfold nq;rw[if_neg (λe=>e h1),if_neg (λe=>e h2),if_neg (λe=>e h3),if_neg (λe=>e h)]
end
end Go.K
namespace Go.K
open bn Go.Proofs Go.Shelf Go.Sort
theorem XB {W w':World} (h:Ext (λ_=>False) W w'):∃q os',w'=grow (W.drewN q) os':=by
 refine⟨w'.drawn-W.drawn,w'.heap.extract W.heap.size w'.heap.size,?_⟩;obtain⟨h1,h2,h3,h4,h5,h6⟩:=h;obtain⟨hp,tp,ajW,os,out⟩:=w';simp only at h1 h2 h3 h4 h5 h6;unfold oA at h6;simp only at h6;subst h1 h2 h3;simp only[grow,World.drewN,World.mk.injEq,and_true,true_and];refine⟨?_,by omega⟩;apply Array.ext_getElem?;intro b;rw[Array.getElem?_append];split
 ·rename_i hb;exact h5 b hb (λh=>h)
 ·rename_i hb;rw[Array.getElem?_extract];simp only[Nat.min_self];split
  ·congr 1;omega
  ·rw[Array.getElem?_eq_none af]
section
variable {P:Program} {ρ:Ren} {α:Type} [Inhabited α] [bn α] {enc:α->List Value} {cf:α->α->Int} {w:World} {C:Nat->Nat} {j g0:Nat} {e:TypeId} {v:Value} {ys:List α}
def Ft (cf:α->α->Int):α->α->Bool:=λx y=>!(ltOf cf) y x
theorem abv {F cs:Array Value} (h:F.size<=cs.size) (t:Nat): (putCells id 0 F cs)[t]?=if t<F.size then F[t]? else cs[t]?:=by
 unfold putCells;rw[Array.getElem?_mapIdx];by_cases ht:t<cs.size
 ·rw[Array.getElem?_eq_getElem ht];simp only[Option.map_some,Nat.zero_le,true_and,Nat.zero_add,Nat.sub_zero,id];split
  ·rename_i h1;rw[Array.getElem?_eq_getElem h1,getElem!_pos F t h1]
  ·rfl
 ·rw[Array.getElem?_eq_none af,if_neg af];rfl
theorem XC {k:Nat} (hk:∀x,(enc x).length=k) (d:Array α) {i r:Nat} (hi:i<d.size) (hr:r<k): (flatK enc k d)[i*k+r]?=(enc d[i])[r]?:=by
 have hlt:i*k+r<d.size*k:=by
  have:=Nat.mul_le_mul_right k (show i+1<=d.size from hi);rw[Nat.succ_mul] at this;omega
 have hdiv: (i*k+r)/k=i:=by rw[Nat.mul_comm,Nat.mul_add_div af,Nat.div_eq_of_lt hr];rfl
 have hmod: (i*k+r)%k=r:=by rw[Nat.mul_comm,Nat.mul_add_mod,Nat.mod_eq_of_lt hr]
 have h:=get_flatK enc k d (i*k+r) hlt;rw[hdiv,hmod,getElem!_pos d i hi,getElem!_pos (flatK enc k d) _ (by rw[size_flatK];exact hlt),getElem!_pos (enc d[i]) r (by rw[hk];exact hr)] at h;rw[Array.getElem?_eq_getElem (by rw[size_flatK];exact hlt),h,List.getElem?_eq_getElem]
theorem XD (L:SlLaysF0.n6 P ρ) (aE:∀w,(isAgg (ρ.t 24)).run P w=.ok true w) (zE:∀w,(Go.sizeOf (ρ.t 24)).run P w=.ok (sz α) w)
  (HW:∀h M x vs,rep h M x vs↔vs=enc x) (hk:∀x:α,(enc x).length=sz α) (h0:0<sz α) (h1:∀x,∀u∈enc x,u.oneCell'=true) (hO:SWO (ltOf cf)) (hT:∀x y,(ltOf cf) x y=false->(ltOf cf) y x=false->x=y)
  (eg:∀args w,(callFunc g0 args).run P w=.ok (.enter g0 args) w)
  (hcmp:∀W x y,Calls P g0 #[.agg (enc x).toArray,.agg (enc y).toArray] W (aZ λu w'=>u=.int .i64 (cf x y)/\Ext (λ_=>False) W w'))
  (hF:aF w C) (ho:aQ w C j e v ys) (hlen:ys.length<=140737488355328):
  Calls P (ρ.f 6) #[v,.func (.func g0) #[] #[]] w (aZ λu w'=>u=.tuple #[]/\av [j] w C w' C/\aQ w' C j e v (ys.mergeSort (Ft cf))/\aF w' C):=by
 obtain⟨hown,kU⟩:=ho;rcases hown with⟨rfl,rfl⟩|⟨g,cap,cs,rfl,hg,hc,hcap,h2,h3⟩
 ·refine(AnyF.slices_SortFunc_none (P:=P) (ρ:=ρ) {L with} none 0 (.func (.func g0) #[] #[]) w).mono ?_;rintro e' w' ⟨rfl,rfl⟩;exact⟨_,rfl,rfl,av.refl _ _ _,by simpa using(aQ.nil (α:=α)),hF⟩
 ·have hcell:∀i (hi:i<ys.length) r,r<sz α->cs[i*sz α+r]?=(enc ys[i])[r]?:=λi hi r hr=>by
   have h:=(HW _ _ _ _).1 (h3 i hi);have:=congrArg (λl=>l[r]?) h;simp only[cR,List.getElem?_take,if_pos hr,List.getElem?_drop,Array.getElem?_toList] at this;exact this
  have hH:HoldsK enc (sz α) w g 0 ys.toArray:=λt ht=>by
   rw[size_flatK] at ht;simp only[List.size_toArray] at ht;have hi:t/sz α<ys.length:=Nat.div_lt_of_lt_mul (by rwa [Nat.mul_comm] at ht);have hr:=Nat.mod_lt t h0;have abw:t/sz α*sz α+t%sz α=t:=by rw[Nat.mul_comm];exact Nat.div_add_mod t (sz α)
   have h5:=hcell _ hi _ hr;have h6:=XC hk ys.toArray (i:=t/sz α) (r:=t%sz α) (by simpa using hi) hr;rw[abw] at h5 h6;refine⟨?_,?_⟩
   ·rw[cell_of_row w g (0+t) cs e (0,0) hc,Nat.zero_add,h5];simp only[List.getElem_toArray] at h6;rw[<-h6,id];rw[getElem!_pos _ t (by rw[size_flatK];simpa using ht),Array.getElem?_eq_getElem]
   ·simp[World.frozen?,hc]
  have Pn:CmpLays P g0 #[] enc (sz α) cf g 0 ys.toArray.size w:=λm os dk hd x y=>by
   have h:=hcmp (sortWorldK enc (sz α) w g 0 m dk os) x y;rw[Array.append_empty];refine h.mono ?_;rintro e' w' ⟨u,rfl,rfl,hx⟩;exact⟨rfl,XB hx⟩
  have hsort:=AnyQ.slices_SortFunc_total L (sz α) aE zE enc hk h1 cf hO g0 #[] g 0 cap ys.toArray w eg Pn hH (tC hc) sN hT;refine hsort.mono ?_;rintro e' w' ⟨rfl,n,os,hw⟩;have wS:=List.mergeSort_perm ys (Ft cf);have hl:=wS.length_eq;have hle: (flatK enc (sz α) (ys.mergeSort (Ft cf)).toArray).size<=cs.size:=by
   rw[size_flatK,h2];simp only[List.size_toArray,hl];exact Nat.mul_le_mul_right _ hcap
  have kY:w'.heap[g]?=some (.cells (putCells id 0 (flatK enc (sz α) (ys.mergeSort (Ft cf)).toArray) cs) e (0,0)):=by
   rw[hw];show(grow (putRow id (Sort.ahead w n) g 0 (flatK enc (sz α) (ys.mergeSort (Ft cf)).toArray)) os).heap[g]?=_;simp only[grow,putRow,mapBlock,Sort.ahead];rw[Array.getElem?_append_left (by simpa using tC hc),Array.getElem?_modify,if_pos rfl,hc];rfl
  have zu:av [j] w C w' C:=⟨⟨by rw[hw];rfl,by rw[hw];rfl,by rw[hw];rfl,by
    rw[hw];show w.heap.size<=(grow (putRow id (Sort.ahead w n) g 0 _) os).heap.size;simp[grow,putRow,mapBlock,Sort.ahead],λb hb hn=>by
    have Po:g≠b:=λe=>hn (by rw[<-e,kU g rfl];simp);rw[hw];show(grow (putRow id (Sort.ahead w n) g 0 _) os).heap[b]?=_;simp only[grow,putRow,mapBlock,Sort.ahead];rw[Array.getElem?_append_left (by simpa using hb),Array.getElem?_modify,if_neg Po],by
    rw[hw];unfold oA;exact Nat.le_add_right _ _⟩,λ_ _=>rfl⟩
  refine⟨_,rfl,rfl,zu,⟨.inr ⟨g,cap,_,by rw[hl],hg,kY,by rw[hl];exact hcap,?_,?_⟩,kU⟩,hF.st zu⟩
  ·simp only[putCells,Array.size_mapIdx];exact h2
  ·intro i hi;refine(HW _ _ _ _).2 ?_;apply List.ext_getElem?;intro r;simp only[cR,List.getElem?_take,List.getElem?_drop,Array.getElem?_toList];split
   ·rename_i hr;have hlt:i*sz α+r<(flatK enc (sz α) (ys.mergeSort (Ft cf)).toArray).size:=by
     rw[size_flatK];simp only[List.size_toArray];have:=Nat.mul_le_mul_right (sz α) (show i+1<=_ from hi);rw[Nat.succ_mul] at this;omega
    rw[abv hle,if_pos hlt,XC hk _ (by simpa using hi) hr];simp
   ·rename_i hr;rw[List.getElem?_eq_none (by rw[hk];omega)]
end
end Go.K
namespace Go.K
theorem Lt (x:Int):IntKind.i64.wrap x=(x+9223372036854775808)%18446744073709551616-9223372036854775808:=by
 have e1: (2^IntKind.i64.bits:Int)=18446744073709551616:=by decide
 have e2: (2^(IntKind.i64.bits-1):Int)=9223372036854775808:=by decide
 unfold IntKind.wrap;simp only[e1,e2,show IntKind.i64.signed=true from rfl,Bool.true_and];by_cases h:x%18446744073709551616>=9223372036854775808
 ·rw[if_pos (decide_eq_true h)];omega
 ·rw[if_neg (by rw[decide_eq_false h];simp)];omega
theorem XE (a b:Int):IntKind.i64.wrap (IntKind.i64.wrap a+b)=IntKind.i64.wrap (a+b):=by
 rw[Lt,Lt,Lt];omega
theorem Pp {a:Int} (h:0<=a) (h2:a<=9223372036854775807):IntKind.i64.wrap a=a:=by rw[Lt];omega
end Go.K
namespace Go.K
open bn Go.RowKit
def oL (N:Nat) (env:Env) (a:Act):Prop:=jf N env {a with defers:=[]}
theorem oL.of {N:Nat} {env:Env} {a:Act} (h:jf N env a):oL N env a:=by
 obtain⟨t,d⟩:=a;have:=h.defers;simp only at this;subst this;exact h
theorem oL.back {N:Nat} {env:Env} {a:Act} (h:oL N env a) (hd:a.defers=[]):jf N env a:=by
 obtain⟨t,d⟩:=a;simp only at hd;subst hd;exact h
theorem oL.put {N:Nat} {env:Env} {a:Act} (h:oL N env a) {d:Option Nat} (hd:uI N d=true) (v:Value):oL N (tB d v env) (a.put d v):=by
 have:=jf.put h hd v;cases d<;>exact this
theorem put_defers (a:Act) (d:Option Nat) (v:Value): (a.put d v).defers=a.defers:=by cases d<;>rfl
def yu (F:Fence) (n:Nat) (P:Program) (N:Nat) (Q:Exit->Act->World->Prop) (ops:Array Oper) (D:List Deferred) (is:List Nat) (env:Env) (w:World):Prop:=
 ∀a,oL N env a->a.defers=D->wpOpsIn F n P ops Q is a w
section
variable {F:Fence} {n:Nat} {P:Program} {N:Nat} {Q:Exit->Act->World->Prop} {ops:Array Oper} {D:List Deferred} {is:List Nat} {env:Env} {w w':World} {i t:Nat} {d:Option Nat} {op:Op} {v:Value}
theorem HX (h:∀a,oL N env a->a.defers=D->Q .normal a w):yu F n P N Q ops D [] env w:=h
theorem DG {T:Value->World->Prop} (hF:∀f,F.fn f) (hop:bY ops i=some (d,op,none)) (gi:∀c,op≠ .defer c) (hd:uI N d=true)
  (hy:g_ P N env op w T) (h:∀v w',T v w'->yu F n P N Q ops D is (tB d v env) w'):yu F n P N Q ops D (i::is) env w:=λa ha hD=>by
 obtain⟨o,ho,rfl,rfl,hg⟩:=vV hop;obtain⟨v,w',hrun,hT⟩:=hy _ ha o rfl;have e:execOp a.eval o=execOp ({a with defers:=[]}:Act).eval o:=rfl;simp only[wpOpsIn,ho,Region.wanted,hg,if_true];unfold Oper.wpIn;rw[Oper.semAt_eq _ _ _ gi,e];refine⟨λf _=>hF f,?_⟩;rcases hrun with hrun|⟨hrun,rfl⟩
 ·rw[hrun];exact h v w' hT _ (ha.put hd v) (by rw[put_defers];exact hD)
 ·rw[hrun];exact h undef w' hT _ (ha.put hd undef) (by rw[put_defers];exact hD)
theorem Ai (hF:∀f,F.fn f) (hop:bY ops i=some (some t,op,none)) (gi:∀c,op≠ .defer c) (ht:Nat.blt t N=true)
  (hv:cE P N env op w v) (h:yu F n P N Q ops D is ((t,v)::env) w):yu F n P N Q ops D (i::is) env w:=
 DG hF hop gi ht (T:=λu w'=>u=v/\w'=w) (λa ha o ho=>⟨v,w,.inl (hv a ha o ho),rfl,rfl⟩) (λu w' hT=>by obtain⟨rfl,rfl⟩:=hT;exact h)
theorem abx {l:Nat} {y z:Operand} {tys:Array TypeId} {mD:Value} {T:Ending->World->Prop} (hF:∀f,F.fn f) (aby:F.depth=none) (hop:bY ops i=some (some t,.call {callee:=.value y,args:=#[z],argTypes:=tys},none)) (ht:Nat.blt t N=true)
  (hy:ev env y=some (.func (.yield l) #[] #[])) (hz:ev env z=some mD) (hY:YieldAt F (n-1) P l #[mD] w T)
  (h:∀e w',T e w'->∃v,e=.returned v/\yu F n P N Q ops D is ((t,v)::env) w'):yu F n P N Q ops D (i::is) env w:=λa ha hD=>by
 obtain⟨o,ho,tX,XF,hg⟩:=vV hop;obtain⟨fn,tmps,assign,body,hrun,Pq⟩:=hY;have e:execOp a.eval o=execOp ({a with defers:=[]}:Act).eval o:=rfl;have hy':=jf.ev ha hy;have abz:=jf.ev ha hz;have hex: (execOp ({a with defers:=[]}:Act).eval o).run P w=.ok (.round l fn tmps assign body) w:=by
  unfold execOp;rw[XF];simp[hy',abz,resolve,invoke,Deferred.ofValue,Sem.run_bind,Sem.run_pure,Result.andThen,hrun]
 simp only[wpOpsIn,ho,Region.wanted,hg,if_true];unfold Oper.wpIn;rw[Oper.semAt_eq _ _ _ (by rw[XF];intro c e;cases e),e,hex];refine⟨λf _=>hF f,(λhs=>by rw[aby] at hs;cases hs),Pq.mono λe w' hT=>?_⟩;obtain⟨v,rfl,hW⟩:=h e w' hT;rw[tX];exact hW _ (ha.put (d:=some t) ht v) (by rw[put_defers];exact hD)
end
section
variable {P:Program} {f:FuncId} {N:Nat} {k:List Item} {env:Env} {w:World} {R:Value->World->Prop}
theorem abA {c:Code} (n:Nat) (h:yu Fence.wide n P N (pI P f k R) (nD c) [] (List.range (nD c).size) env w) (hc:Gw c false=true:=by kernel_rfl):Run P f N (.code c::k) env w R:=λa ha=>by
 obtain⟨id,e⟩:=MZ hc;rw[e];exact Cw (wpIn_wide.1 (wpIn_region (h a (.of ha) ha.defers)))
theorem abB {n:Nat} {ops:Array Oper} (h:Run P f N k env w R):yu Fence.wide n P N (pI P f k R) ops [] [] env w:=λa ha hd=>h a (ha.back hd)
end
def Pr (c:Code) (t:Nat):Bool:=match c with| .rangeFunc (.tmp j) _ _ _=>Nat.beq j t|_=>false
def DH (c:Code):Array Tmp:=match c with| .rangeFunc _ ps _ _=>ps|_=>#[]
def HY (c:Code):Code:=match c with| .rangeFunc _ _ a _=>a|_=> .skip
def HZ (c:Code):Code:=match c with| .rangeFunc _ _ _ b=>b|_=> .skip
theorem abC {c:Code} {t:Nat} (h:Pr c t=true):c=.rangeFunc (.tmp t) (DH c) (HY c) (HZ c):=by
 cases c with
 |rangeFunc g ps a b=>cases g with
  |tmp j=>simp only[Pr] at h;rw[Nat.eq_of_beq_eq_true h];rfl
  |_=>cases h
 |_=>cases h
def Lu (n0:Nat) (A B:World):Prop:=∃l o o',n0<=l/\A.heap[l]?=some o/\o.isCells=false/\B=A.putObj l o'
def Pu (n0:Nat) (A B:World):Prop:=∀b o,n0<=b->A.heap[b]?=some o->o.isCells=false->B.heap[b]?=some o
theorem DI {W:World} {b:Nat} {o:Obj} (h:W.heap[b]?=some o):b<W.heap.size:=(Array.getElem?_eq_some_iff.1 h).1
theorem abD {W:World} {b:Nat} {o o':Obj} (h:W.heap[b]?=some o): (W.alloc o').heap[b]?=some o:=(Below.heap_alloc W o' b (DI h)).trans h
theorem H6 {A B:World} {b:Nat} {o:Obj} (h:A.heap[b]?=some o) (hE:Ext No A B):B.heap[b]?=some o:=(hE.block b (DI h) (λh=>h)).trans h
theorem H7 {W:World} {l b:Nat} {o o':Obj} (h:W.heap[b]?=some o) (hne:b≠l): (W.putObj l o').heap[b]?=some o:=(World.putObj_heap_other hne).trans h
theorem abE {P:Program} {n:Nat} {c:Code} {Q:Exit->Act->World->Prop} {a:Act} {w:World} {t gf:Nat} {lb:Array Value} {α:Type} {encs:α->Array Value} {xs:List α} {I:List α->World->Prop}
  (hc:Pr c t=true) (abF:a.eval (.tmp t)=.func (.func gf) #[] lb) (eg:∀args w,(callFunc gf args).run P w=.ok (.enter gf args) w) (hps:∀x,(encs x).size=(DH c).size)
  (Pw:∀pre A B,I pre A->Ext No A B->I pre B) (Px:∀pre A B,I pre A->Lu w.heap.size A B->I pre B) (h0:I [] w)
  (Pq:∀l k (hk:k<xs.length) A,I (xs.take k) A->(HY c).wpIn (Fence.wide.inRound l) 0 P
   (Exit.then (λa1 DJ=>Pu w.heap.size A DJ/\I (xs.take k) DJ/\∀Lv,Lu w.heap.size DJ Lv->I (xs.take k) Lv->(HZ c).wpIn (Fence.wide.inRound l) 0 P (λe _ Py=>e=.normal/\Pu w.heap.size Lv Py/\I (xs.take (k+1)) Py) a1 Lv) (λ_ _ _=>False))
   {tmps:=((DH c).zip (encs xs[k])).foldl (λt (p,v)=>t.setIfInBounds p v) a.tmps,defers:=[]} A)
  (hseq:∀l tY (J:List α->World->Prop),(∀pre A B,J pre A->Ext No A B->J pre B)->(∀pre A,J pre A->I pre A)->
   (∀k (hk:k<xs.length) A,J (xs.take k) A->YieldAt Fence.wide 0 P l (encs xs[k]) A (λe W'=>e=.returned (.bool true)/\J (xs.take (k+1)) W'))->J [] tY->Calls P gf (#[.func (.yield l) #[] #[]]++lb) tY (aZ λ_ w'=>J xs w'))
  (hdone:∀D W,w.heap.size<=D->I xs W->W.heap[D]?=some (.deferred (some []))->Q .normal {a with defers:={target:=.collected D,args:=#[]}::a.defers} W):c.wpIn Fence.wide n P Q a w:=by
 rw[abC hc];refine wpIn_rangeFunc λfn _=>?_;obtain⟨rec,DK⟩:∃rec:LoopState->Option Code->Loop,rec=λst abG=>{state:=st,pending:=abG,fn:=fn,tmps:=a.tmps,params:=DH c,assign:=HY c,body:=HZ c,defers:=w.heap.size}:=⟨_,rfl⟩
 obtain⟨tY,yw⟩:∃tY,(w.alloc (.deferred (some []))).alloc (.loop (rec .ready none))=tY:=⟨_,rfl⟩
 have Pz:tY.heap[w.heap.size+1]?=some (.loop (rec .ready none)):=by
  rw[<-yw];have:=World.alloc_heap_new (w.alloc (.deferred (some []))) (.loop (rec .ready none));rwa [World.size_alloc] at this
 have abH:tY.heap[w.heap.size]?=some (.deferred (some [])):=by
  rw[<-yw];exact abD (World.alloc_heap_new w _)
 have abI:I [] tY:=by rw[<-yw];exact Pw _ _ _ (Pw _ _ _ h0 (zj _ _).ext) (zj _ _).ext
 obtain⟨J,hJ⟩:∃J:List α->World->Prop,J=λpre W=>I pre W/\W.heap[w.heap.size+1]?=some (.loop (rec .ready none))/\W.heap[w.heap.size]?=some (.deferred (some [])):=⟨_,rfl⟩
 have Aj:∀pre A,J pre A↔(I pre A/\A.heap[w.heap.size+1]?=some (.loop (rec .ready none))/\A.heap[w.heap.size]?=some (.deferred (some []))):=λpre A=>by rw[hJ]
 have abJ:∀k (hk:k<xs.length) A,J (xs.take k) A->YieldAt Fence.wide 0 P (w.heap.size+1) (encs xs[k]) A (λe W'=>e=.returned (.bool true)/\J (xs.take (k+1)) W'):=λk hk A h=>by
  obtain⟨hi,hl,hkk⟩:=(Aj _ _).1 h;have hy:=run_yield (P:=P) (args:=encs xs[k]) hl (by rw[DK];exact hps _);have e1: (rec .ready none).fn=fn/\(rec .ready none).tmps=a.tmps/\(rec .ready none).params=DH c/\(rec .ready none).assign=HY c/\(rec .ready none).body=HZ c:=by rw[DK];exact⟨rfl,rfl,rfl,rfl,rfl⟩
  rw[e1.1,e1.2.1,e1.2.2.1,e1.2.2.2.1,e1.2.2.2.2] at hy;refine⟨fn,_,HY c,HZ c,hy,roundIn_of_wpIn (n:=0) trivial (wpIn_mono (Pq (w.heap.size+1) k hk A hi) ?_)⟩;intro e a1 DJ hq;cases e with
  |normal=>
   obtain⟨XG,hi1,hbody⟩:=hq;have Fu:=XG _ _ af hl rfl;have mY:=XG _ _ (Nat.le_refl _) hkk rfl;obtain⟨o2,Fw⟩:∃o2:Loop,o2={rec .ready none with state:=.busy}:=⟨_,rfl⟩
   have PA:=run_beginRound (P:=P) Fu (by rw[DK]);rw[<-Fw] at PA;refine⟨_,PA,?_⟩;have hT:Lu w.heap.size DJ (DJ.putObj (w.heap.size+1) (.loop o2)):=⟨_,_,_,by omega,Fu,rfl,rfl⟩
   have mM: (DJ.putObj (w.heap.size+1) (.loop o2)).heap[w.heap.size+1]?=some (.loop o2):=World.putObj_heap_same (DI Fu);have hk2:=H7 (o':=.loop o2) mY (show w.heap.size≠w.heap.size+1 by omega);refine wpIn_mono (hbody _ hT (Px _ _ _ hi1 hT)) ?_;intro e a3 Py hp;obtain⟨rfl,XH,PB⟩:=hp;have PD:=XH _ _ af mM rfl;have yx:=XH _ _ (Nat.le_refl _) hk2 rfl;have hend:=run_endRound (P:=P) none PD;have eH: ({o2 with state:=if(none:Option Code).isNone then .ready else .done,pending:=none}:Loop)=rec .ready none:=by rw[Fw,DK];rfl
   rw[eH] at hend;refine⟨_,_,hend,rfl,(Aj _ _).2 ⟨Px _ _ _ PB ⟨_,_,_,by omega,PD,rfl,rfl⟩,World.putObj_heap_same (DI PD),H7 yx af⟩⟩
  |exit id=>exact hq.elim
  |ret=>exact hq.elim
  |goto t=>exact hq.elim
  |panic ch=>exact hq.elim
  |outgrown=>exact hq.elim
 have gW:=hseq (w.heap.size+1) tY J (λpre A B h hE=>(Aj _ _).2 ⟨Pw _ _ _ ((Aj _ _).1 h).1 hE,H6 ((Aj _ _).1 h).2.1 hE,H6 ((Aj _ _).1 h).2.2 hE⟩) (λpre A h=>((Aj _ _).1 h).1) abJ ((Aj _ _).2 ⟨abI,Pz,abH⟩);refine⟨w.heap.size+1,[{target:=.collected w.heap.size,args:=#[]}],tY,{target:=.fn (.func gf) lb,args:=#[.func (.yield (w.heap.size+1)) #[] #[]]},tY,gf,
  #[.func (.yield (w.heap.size+1)) #[] #[]]++lb,tY,?_,?_,?_,?_,?_,?_⟩
 ·rw[<-yw,DK];exact run_enterLoop_outer _ _ _ _ _
 ·simp only[resolve,abF];simp[go_sem]
 ·intro _ _;trivial
 ·simp[invoke,go_sem,eg]
 ·intro h;simp[Fence.wide] at h
 ·refine callsIn_wide.2 (gW.mono ?_);rintro e ajX ⟨v,rfl,hj⟩;obtain⟨hi,hl,hk⟩:=(Aj _ _).1 hj;have:=run_endLoop (P:=P) hl (by rw[DK];simp);rw[DK] at this;exact⟨none,_,this,hdone _ _ (Nat.le_refl _) (Px _ _ _ hi ⟨_,_,_,by omega,hl,rfl,rfl⟩) (H7 hk af)⟩
section
variable {F:Fence} {n:Nat} {P:Program} {N:Nat} {Q:Exit->Act->World->Prop} {D:List Deferred} {env:Env} {w:World} {a:Act} {c:Code}
theorem Lx (h: (cl c).wpIn F n P (Exit.then ((b7 c).wpIn F n P Q) Q) a w) (hc:S9 c=true:=by kernel_rfl):c.wpIn F n P Q a w:=by
 have e:c=.seq (cl c) (b7 c):=by cases c with|seq a b=>rfl|_=>cases hc
 rw[e];exact wpIn_seq h
theorem XI (id:Nat) (h: (cl c).wpIn F n P (Exit.inBlock id Q) a w) (hc:JL c id=true:=by kernel_rfl):c.wpIn F n P Q a w:=by
 have e:c=.block id (cl c):=by cases c with|block a b=>simp only[JL] at hc;rw[Nat.eq_of_beq_eq_true hc];rfl|_=>cases hc
 rw[e];exact wpIn_block h
theorem H8 (ha:oL N env a) (hD:a.defers=D) (h:yu F n P N Q (nD c) D (List.range (nD c).size) env w) (hc:Gw c false=true:=by kernel_rfl):c.wpIn F n P Q a w:=by
 obtain⟨id,e⟩:=MZ hc;rw[e];exact wpIn_region (h a ha hD)
def abK (c:Code):Bool:=match c with| .ret=>true|_=>false
theorem abM (h:Q .ret a w) (hc:abK c=true:=by kernel_rfl):c.wpIn F n P Q a w:=by
 have e:c=.ret:=by cases c with|ret=>rfl|_=>cases hc
 rw[e];exact wpIn_ret h
end
theorem abN {P:Program} {f:FuncId} {fn:Func} {c:Code} (args:List Value) {N n:Nat} {w:World} {R:Value->World->Prop}
  (hf:P.funcs[f]?=some fn) (hb:fn.body=some c) (hN:fn.ntmps=N) (hsz:Nat.ble args.length N=true)
  (h:∀a,oL N (CB 0 args) a->a.defers=[]->c.wpIn Fence.wide n P (bodyPostM Fence.wide n P fn (aZ R)) a w):Calls P f args.toArray w (aZ R):=by
 refine callsIn_wide.1 (callsIn_of_wp_marks (n:=n) hf hb trivial (h _ ⟨?_,rfl,λt v ht=>?_⟩ rfl) rfl)
 ·have:=Nat.le_of_ble_eq_true hsz;simp[hN];omega
 ·have h1:=(MG args 0 t v ht).2;simp only[Nat.sub_zero] at h1;have h2:t<args.length:=by
   rcases Nat.lt_or_ge t args.length with h|h
   ·exact h
   ·rw[List.getElem?_eq_none h] at h1;cases h1
  simp only;rw[Array.getElem?_append_left (by simpa using h2)];simpa using h1
theorem oL.ev {N:Nat} {env:Env} {a:Act} (h:oL N env a) {x:Operand} {v:Value} (hx:K.ev env x=some v):a.eval x=v:=by
 have:=jf.ev h hx;cases x<;>exact this
theorem oL.yield {N:Nat} {env:Env} {a:Act} (h:oL N env a) {t:Nat} (ht:Nat.blt t N=true) (v:Value):oL N ((t,v)::env) {tmps:=((#[t]:Array Tmp).zip #[v]).foldl (λt (p,v)=>t.setIfInBounds p v) a.tmps,defers:=[]}:=by
 have:=oL.put h (d:=some t) ht v;unfold oL at this⊢;simpa[Act.put,tB] using this
def s9 (bo:Nat) (v:Value):Nat->Nat:=λb=>if b=bo then 2 else if v.ownBlock=some b then 5 else 0
def AS (r9 qD:Nat) (w₀:World) (n1 bo:Nat) (pre:List au) (W:World):Prop:=
 ∃v,Ext No w₀ W/\W.heap[bo]?=some (.cells [v].toArray r9)/\aQ W (s9 bo v) 5 qD v pre/\∀b,cQ v b->n1<=b
section
variable {w w' w₀ W A B:World} {C aG:Nat->Nat} {j j' e r9 qD n0 n1 bo:Nat} {v:Value} {ys pre:List au}
theorem aQ.any (h:aQ W C j e v ys) (hh:∀b,cQ v b->w'.heap[b]?=W.heap[b]?) (hc:∀b,cQ v b->aG b=j') (hj:j'≠0):aQ w' aG j' e v ys:=by
 refine⟨?_,hc⟩;rcases h.own with⟨rfl,rfl⟩|⟨g,cap,cs,hv,h_,hcs,h1,h2,h3⟩
 ·exact .inl ⟨rfl,rfl⟩
 ·subst hv;exact .inr ⟨g,cap,cs,rfl,by unfold aj;rw[hc g rfl];exact hj,(hh g rfl).trans hcs,h1,h2,λi hi=>nH.2 (nH.1 (h3 i hi))⟩
theorem aQ.cells (h:aQ W C j e v ys) {b:Nat} (hb:cQ v b):∃cs,W.heap[b]?=some (.cells cs e):=by
 rcases h.own with⟨rfl,rfl⟩|⟨g,cap,cs,hv,h_,hcs,h1,h2,h3⟩
 ·cases hb
 ·subst hv;cases hb;exact⟨cs,hcs⟩
theorem XJ {l:Nat} {o:Obj} (h:Ext No w₀ A) (hl:w₀.heap.size<=l):Ext No w₀ (A.putObj l o):=
 ⟨h.os,h.tape,h.output,by simpa using h.size,λb hb hn=>(World.putObj_heap_other af).trans (h.block b hb hn),h.drawn⟩
theorem AS.ext (h:AS r9 qD w₀ n1 bo pre A) (hE:Ext No A B):AS r9 qD w₀ n1 bo pre B:=by
 obtain⟨v,h1,h2,h3,h4⟩:=h;exact⟨v,h1.trans hE (λ_ _ h=>h),H6 h2 hE,h3.any (λb hb=>hE.block b (h3.own.fG b hb).2 (λh=>h)) h3.col ak,h4⟩
theorem AS.turn (h:AS r9 qD w₀ n1 bo pre A) (hn:w₀.heap.size<=n0) (hT:Lu n0 A B):AS r9 qD w₀ n1 bo pre B:=by
 obtain⟨v,h1,h2,h3,h4⟩:=h;obtain⟨l,o,o',hl,ho,hc,rfl⟩:=hT;refine⟨v,XJ h1 af,H7 h2 (λe=>?_),h3.any (λb hb=>World.putObj_heap_other (λe=>?_)) h3.col ak,h4⟩
 ·subst e;rw[h2] at ho;cases ho;cases hc
 ·subst e;obtain⟨cs,hcs⟩:=h3.cells hb;rw[hcs] at ho;cases ho;cases hc
theorem AS.lim {v:Value} (h2:W.heap[bo]?=some (.cells [v].toArray r9)) (h3:aQ W (s9 bo v) 5 qD v pre):aF W (s9 bo v):=λb hb=>by
 unfold s9 at hb;split at hb
 ·rename_i e;subst e;exact DI h2
 ·split at hb
  ·rename_i e;exact(h3.own.fG b e).2
  ·exact absurd rfl hb
theorem AS.close {v v':Value} {aG:Nat->Nat} {ys:List au} (h1:Ext No w₀ A) (h2:A.heap[bo]?=some (.cells [v].toArray r9)) (h3:aQ A (s9 bo v) 5 qD v pre) (h4:∀b,cQ v b->n1<=b) (tZ:w₀.heap.size<=bo) (hn:w₀.heap.size<=n1) (hA:n1<=A.heap.size)
  (hs:av [2,5] A (s9 bo v) B aG) (g2:bS B aG 2 bo (.cells [v'].toArray r9)) (g3:aQ B aG 5 qD v' ys):Pu n0 A B/\AS r9 qD w₀ n1 bo ys B:=by
 have PE:∀b,s9 bo v b∈[2,5]->b=bo\/cQ v b:=λb hb=>by
  unfold s9 at hb;split at hb
  ·left;assumption
  ·split at hb
   ·right;assumption
   ·simp at hb
 refine⟨λb o hb ho hc=>(hs.ext.block b (DI ho) (λhm=>?_)).trans ho,v',⟨hs.ext.os.trans h1.os,hs.ext.tape.trans h1.tape,hs.ext.output.trans h1.output,Nat.le_trans h1.size hs.ext.size,λb hb _=>?_,((Ext.mono (A':=λb=>s9 bo v b∈[2,5]) h1 (λb _ hb=>hb.elim)).trans hs.ext (λb _ h=>h) |>.drawn)⟩,g2.at_,g3.any (λ_ _=>rfl) (λb hb=>?_) ak,λb hb=>?_⟩
 ·rcases PE b hm with rfl|h
  ·rw[h2] at ho;cases ho;cases hc
  ·obtain⟨cs,hcs⟩:=h3.cells h;rw[hcs] at ho;cases ho;cases hc
 ·refine(hs.ext.block b (Nat.lt_of_lt_of_le hb h1.size) (λhm=>?_)).trans (h1.block b hb (λh=>h));rcases PE b hm with rfl|h
  ·omega
  ·have:=h4 b h;omega
 ·have:=g3.col b hb;unfold s9;rw[if_neg (λe=>by subst e;rw[g2.col] at this;cases this),if_pos (show v'.ownBlock=some b from hb)]
 ·have hc:=g3.col b hb;rcases Nat.lt_or_ge b A.heap.size with hlt|hge
  ·rw[hs.col b hlt] at hc;rcases PE b (by rw[hc];simp) with rfl|h
   ·have:=g2.col;rw[hs.col b hlt] at this;omega
   ·exact h4 b h
  ·omega
end
end Go.K
namespace Go.K
open bn
section
variable {α:Type} {ys zs us:List α} {σ d_ ρ:Nat->Nat} {a b m i j k n x s r d:Nat} {c:α->α->Int} {P:α->Prop} {T:Nat->Nat->Prop}
theorem fO.comp (h:fO ys σ zs) (h':fO zs d_ us):fO ys (λi=>σ (d_ i)) us:=
 ⟨by rw[h'.len,h.len],λi hi=>by
  have h1:=h'.at_ i (by rw[h.len];exact hi);have h2:=h.at_ (d_ i) (by rw[<-h.len];exact h1.1);exact⟨h2.1,h1.2.trans h2.2⟩⟩
theorem fO.congr (h:fO ys σ zs) (e:∀x,σ x=d_ x):fO ys d_ zs:=(funext e:σ=d_)▸h
def oM (a b k:Nat):Nat->Nat:=λx=>if a<=x/\x<a+k then x-a+b else if b<=x/\x<b+k then x-b+a else x
theorem Fx (h:a<=x) (h2:x<a+k):oM a b k x=x-a+b:=by unfold oM;rw[if_pos ⟨h,h2⟩]
theorem Fy (h:b<=x) (h2:x<b+k) (h3:a+k<=b):oM a b k x=x-b+a:=by unfold oM;rw[if_neg af,if_pos ⟨h,h2⟩]
theorem yz (h:¬(a<=x/\x<a+k)) (h2:¬(b<=x/\x<b+k)):oM a b k x=x:=by unfold oM;rw[if_neg h,if_neg h2]
theorem abO:oM a b 0 x=x:=yz af af
theorem XK (h:a+k<b):nL (oM a b k) (a+k) (b+k) x=oM a b (k+1) x:=by
 unfold nL;by_cases e1:x=a+k
 ·rw[if_pos e1,yz af af,Fx af af];omega
 ·rw[if_neg e1];by_cases e2:x=b+k
  ·rw[if_pos e2,yz af af,Fy af af af];omega
  ·rw[if_neg e2];by_cases eH:a<=x/\x<a+k
   ·rw[Fx eH.1 eH.2,Fx eH.1 af]
   ·by_cases iM:b<=x/\x<b+k
    ·rw[Fy iM.1 iM.2 af,Fy iM.1 af af]
    ·rw[yz eH iM,yz af af]
def ro (a m b:Nat):Nat->Nat:=λx=>if a<=x/\x<a+(b-m) then x+(m-a) else if a+(b-m)<=x/\x<b then x-(b-m) else x
theorem Ak (h:a<=x) (h2:x<a+(b-m)):ro a m b x=x+(m-a):=by unfold ro;rw[if_pos ⟨h,h2⟩]
theorem Al (h:a+(b-m)<=x) (h2:x<b):ro a m b x=x-(b-m):=by unfold ro;rw[if_neg af,if_pos ⟨h,h2⟩]
theorem vj (h:¬(a<=x/\x<b)) (hm:a<=m) (h2:m<=b):ro a m b x=x:=by unfold ro;rw[if_neg af,if_neg af]
theorem abQ (h:a<=m) (h2:m<=b) (h3:a=m\/m=b):ro a m b x=x:=by
 by_cases e:a<=x/\x<b
 ·by_cases e2:x<a+(b-m)
  ·rw[Ak e.1 e2];omega
  ·rw[Al af e.2];omega
 ·exact vj e h h2
theorem abR (h:a<=m) (h2:m<=b):fV (ro a m b) a b:=by
 refine⟨λi hi=>vj hi h h2,λi h3 h4=>?_,λi j e=>?_⟩
 ·by_cases e2:i<a+(b-m)
  ·rw[Ak h3 e2];omega
  ·rw[Al af h4];omega
 ·have hx:∀x,(a<=x/\x<a+(b-m)/\ro a m b x=x+(m-a))\/(a+(b-m)<=x/\x<b/\ro a m b x=x-(b-m))\/(¬(a<=x/\x<b)/\ro a m b x=x):=λx=>by
   by_cases e:a<=x/\x<b
   ·by_cases e2:x<a+(b-m)
    ·exact .inl ⟨e.1,e2,Ak e.1 e2⟩
    ·exact .inr (.inl ⟨by omega,e.2,Al af e.2⟩)
   ·exact .inr (.inr ⟨e,vj e h h2⟩)
  have h5:=hx i;have h6:=hx j;omega
theorem abS (hj:j<i) (hi:i<=m):oM (m-i) m j (ro (m-i+j) m (m+j) x)=ro (m-i) m (m+j) x:=by
 by_cases e1:m-i<=x/\x<m-i+j
 ·rw[Ak (a:=m-i) e1.1 af,vj af af af,Fx e1.1 e1.2];omega
 ·by_cases e2:m-i+j<=x/\x<m+j
  ·rw[Al (a:=m-i) af e2.2];by_cases eH:x<m-i+j+j
   ·rw[Ak e2.1 af,Fy af af af];omega
   ·rw[Al af e2.2,yz af af]
  ·rw[vj (a:=m-i+j) af af af,vj (a:=m-i) af af af,yz af af]
theorem abT (hj:i<j) (hi:i<=m):oM (m-i) (m+j-i) i (ro (m-i) m (m+(j-i)) x)=ro (m-i) m (m+j) x:=by
 by_cases e1:m-i<=x/\x<m-i+j
 ·rw[Ak (b:=m+j) e1.1 af];by_cases e2:x<m-i+(j-i)
  ·rw[Ak e1.1 af,yz af af]
  ·rw[Al af af,Fx af af];omega
 ·by_cases e2:m-i+j<=x/\x<m+j
  ·rw[Al (b:=m+j) af e2.2,vj af af af,Fy af af af];omega
  ·rw[vj (b:=m+(j-i)) af af af,vj (b:=m+j) af af af,yz af af]
theorem abU (hi:i<=m):oM (m-i) m i x=ro (m-i) m (m+i) x:=by
 by_cases e1:m-i<=x/\x<m
 ·rw[Fx e1.1 af,Ak e1.1 af];omega
 ·by_cases e2:m<=x/\x<m+i
  ·rw[Fy e2.1 e2.2 af,Al af e2.2];omega
  ·rw[yz af af,vj af af af]
structure vw (zs us:List α) (a m b i j:Nat):Prop where
 ex:∃d_,fO zs d_ us/\∀x,d_ (ro (m-i) m (m+j) x)=ro a m b x
 b1:1<=i/\i<=m-a
 b2:1<=j/\j<=b-m
theorem vw.start (h1:a<m) (h2:m<b):vw zs zs a m b (m-a) (b-m):=by
 refine⟨⟨λx=>x,fO.id _,λx=>?_⟩,by omega,by omega⟩;rw[show m-(m-a)=a by omega,show m+(b-m)=b by omega]
theorem vw.more {vs:List α} (h:vw zs us a m b i j) (hj:j<i) (hv:fO us (oM (m-i) m j) vs):vw zs vs a m b (i-j) j:=by
 obtain⟨⟨d_,h1,h2⟩,h3,h4⟩:=h;refine⟨⟨_,h1.comp hv,λx=>?_⟩,by omega,h4⟩;rw[show m-(i-j)=m-i+j by omega,abS hj af];exact h2 x
theorem vw.less {vs:List α} (h:vw zs us a m b i j) (hj:i<j) (hv:fO us (oM (m-i) (m+j-i) i) vs):vw zs vs a m b i (j-i):=by
 obtain⟨⟨d_,h1,h2⟩,h3,h4⟩:=h;refine⟨⟨_,h1.comp hv,λx=>?_⟩,h3,by omega⟩;show d_ (oM (m-i) (m+j-i) i (ro (m-i) m (m+(j-i)) x))=_;rw[abT hj af];exact h2 x
theorem vw.done {vs:List α} (h:vw zs us a m b i i) (hv:fO us (oM (m-i) m i) vs):fO zs (ro a m b) vs:=by
 obtain⟨⟨d_,h1,h2⟩,h3,h4⟩:=h;refine(h1.comp hv).congr λx=>?_;show d_ (oM (m-i) m i x)=_;rw[abU af];exact h2 x
def ou (a k:Nat):Nat->Nat:=λx=>if a<=x/\x<k then x+1 else if x=k then a else x
def ov (m k:Nat):Nat->Nat:=λx=>if x=k then m else if k<x/\x<=m then x-1 else x
theorem Fz (h:a<=x) (h2:x<k):ou a k x=x+1:=by unfold ou;rw[if_pos ⟨h,h2⟩]
theorem FA:ou a k k=a:=by unfold ou;rw[if_neg af,if_pos rfl]
theorem Am (h:x<a\/k<x) (hk:a<=k):ou a k x=x:=by unfold ou;rw[if_neg af,if_neg af]
theorem FB:ov m k k=m:=by unfold ov;rw[if_pos rfl]
theorem BQ (h:k<x) (h2:x<=m):ov m k x=x-1:=by unfold ov;rw[if_neg af,if_pos ⟨h,h2⟩]
theorem DL (h:x<k\/m<x) (hk:k<=m):ov m k x=x:=by unfold ov;rw[if_neg af,if_neg af]
theorem abV:ou a a x=x:=by
 by_cases e:x=a
 ·rw[e,FA]
 ·exact Am af (Nat.le_refl _)
theorem abW:ov m m x=x:=by
 by_cases e:x=m
 ·rw[e,FB]
 ·exact DL af (Nat.le_refl _)
theorem XL (h:a<=k):nL (λx=>σ (ou a k x)) k (k+1) x=σ (ou a (k+1) x):=by
 unfold nL;by_cases e1:x=k
 ·rw[if_pos e1,e1];show σ (ou a k (k+1))=_;rw[Am af h,Fz af af]
 ·rw[if_neg e1];by_cases e2:x=k+1
  ·rw[if_pos e2,e2];show σ (ou a k k)=_;rw[FA,FA]
  ·rw[if_neg e2];show σ (ou a k x)=_;by_cases eH:a<=x/\x<k
   ·rw[Fz eH.1 eH.2,Fz eH.1 af]
   ·rw[Am af h,Am af af]
theorem XM (h:k<=m) (h1:1<=k):nL (λx=>σ (ov m k x)) k (k-1) x=σ (ov m (k-1) x):=by
 unfold nL;by_cases e1:x=k
 ·rw[if_pos e1,e1];show σ (ov m k (k-1))=_;rw[DL af h,BQ af h]
 ·rw[if_neg e1];by_cases e2:x=k-1
  ·rw[if_pos e2,e2];show σ (ov m k k)=_;rw[FB,FB]
  ·rw[if_neg e2];show σ (ov m k x)=_;by_cases eH:k<x/\x<=m
   ·rw[BQ eH.1 eH.2,BQ af eH.2]
   ·rw[DL af h,DL af af]
theorem abX (h:a<=k) (h2:k<b):fV (ou a k) a b:=by
 have hx:∀x,(a<=x/\x<k/\ou a k x=x+1)\/(x=k/\ou a k x=a)\/((x<a\/k<x)/\ou a k x=x):=λx=>by
  by_cases e:x=k
  ·subst e;exact .inr (.inl ⟨rfl,FA⟩)
  ·by_cases e2:a<=x/\x<k
   ·exact .inl ⟨e2.1,e2.2,Fz e2.1 e2.2⟩
   ·exact .inr (.inr ⟨by omega,Am af h⟩)
 exact⟨λi hi=>by have:=hx i;omega,λi h3 h4=>by have:=hx i;omega,λi j e=>by have:=hx i;have:=hx j;omega⟩
theorem abY (h:a<=k) (h2:k<=m) (h3:m<b):fV (ov m k) a b:=by
 have hx:∀x,(x=k/\ov m k x=m)\/(k<x/\x<=m/\ov m k x=x-1)\/((x<k\/m<x)/\ov m k x=x):=λx=>by
  by_cases e:x=k
  ·subst e;exact .inl ⟨rfl,FB⟩
  ·by_cases e2:k<x/\x<=m
   ·exact .inr (.inl ⟨e2.1,e2.2,BQ e2.1 e2.2⟩)
   ·exact .inr (.inr ⟨by omega,DL af h2⟩)
 exact⟨λi hi=>by have:=hx i;omega,λi h3 h4=>by have:=hx i;omega,λi j e=>by have:=hx i;have:=hx j;omega⟩
structure oO (c:α->α->Int) (ys:List α) (σ:Nat->Nat) (a m b:Nat):Prop where
 lt:a<m/\m<b/\b<=ys.length
 l:jV (e9 c ys) σ a m
 r:jV (e9 c ys) σ m b
 d:∀p q,a<=p->p<m->m<=q->q<b->e9 c ys (σ p) (σ q)\/∃(hq:σ q<ys.length) (hp:σ p<ys.length),c ys[σ q] ys[σ p]<0
theorem oO.yes (h:oO c ys σ a m b) (hL:fO ys σ zs) {p q:Nat} (hp:p<zs.length) (hq:q<zs.length) (hc:c zs[q] zs[p]<0):e9 c ys (σ q) (σ p):=by
 have hl:=hL.len;refine⟨(hL.at_ q af).1,(hL.at_ p af).1,.inl ?_⟩;rw[<-hL.get (by omega:q<ys.length),<-hL.get (by omega:p<ys.length)];exact hc
theorem oO.no (h:oO c ys σ a m b) (hL:fO ys σ zs) {p q:Nat} (h1:a<=p) (h2:p<m) (h3:m<=q) (h4:q<b) (hp:p<zs.length) (hq:q<zs.length) (hc:¬c zs[q] zs[p]<0):e9 c ys (σ p) (σ q):=by
 have hl:=hL.len;rcases h.d p q h1 h2 h3 h4 with h5|⟨ajY,ajZ,h5⟩
 ·exact h5
 ·rw[<-hL.get (by omega:q<ys.length),<-hL.get (by omega:p<ys.length)] at h5;exact absurd h5 hc
abbrev DM (T:Nat->Nat->Prop):Prop:=∀x y z,T x y->T y z->T x z
structure vA (T:Nat->Nat->Prop) (σ:Nat->Nat) (a m b i j:Nat):Prop where
 le:m<=i/\i<=j/\j<=b
 lo:∀q,m<=q->q<i->T (σ q) (σ a)
 hi:∀q,j<=q->q<b->T (σ a) (σ q)
theorem vA.start (h:m<=b):vA T σ a m b m b:=⟨by omega,λq h1 h2=>by omega,λq h1 h2=>by omega⟩
theorem vA.up {h:Nat} (ht:DM T) (hA:jV T σ m b) (hB:vA T σ a m b i j) (h1:i<=h) (h2:h<j) (hT:T (σ h) (σ a)):vA T σ a m b (h+1) j:=by
 have hl:=hB.le;refine⟨by omega,λq h3 h4=>?_,hB.hi⟩;by_cases e:q=h
 ·rw[e];exact hT
 ·exact ht _ _ _ (hA q h h3 af af) hT
theorem vA.down {h:Nat} (ht:DM T) (hA:jV T σ m b) (hB:vA T σ a m b i j) (h1:i<=h) (h2:h<j) (hT:T (σ a) (σ h)):vA T σ a m b i h:=by
 have hl:=hB.le;refine⟨by omega,hB.lo,λq h3 h4=>?_⟩;by_cases e:q=h
 ·rw[e];exact hT
 ·exact ht _ _ _ hT (hA h q af af af)
theorem vA.done (hB:vA T σ a m b i i) (hm:m=a+1) (hA:jV T σ m b):jV T (λx=>σ (ou a (i-1) x)) a b:=by
 have hl:=hB.le;intro p q h1 h2 h3;show T (σ (ou a (i-1) p)) (σ (ou a (i-1) q));rcases Nat.lt_trichotomy p (i-1) with e|e|e
 ·rw[Fz h1 e];rcases Nat.lt_trichotomy q (i-1) with f|f|f
  ·rw[Fz af f];exact hA _ _ af af af
  ·rw[f,FA];exact hB.lo _ af af
  ·rw[Am af af];exact hA _ _ af af af
 ·rw[e,FA,Am af af];exact hB.hi _ af af
 ·rw[Am af af,Am af af];exact hA _ _ af af af
structure vC (T:Nat->Nat->Prop) (σ:Nat->Nat) (a m i j:Nat):Prop where
 le:a<=i/\i<=j/\j<=m
 lo:∀q,a<=q->q<i->T (σ q) (σ m)
 hi:∀q,j<=q->q<m->T (σ m) (σ q)
theorem vC.start (h:a<=m):vC T σ a m a m:=⟨by omega,λq h1 h2=>by omega,λq h1 h2=>by omega⟩
theorem vC.up {h:Nat} (ht:DM T) (hA:jV T σ a m) (hB:vC T σ a m i j) (h1:i<=h) (h2:h<j) (hT:T (σ h) (σ m)):vC T σ a m (h+1) j:=by
 have hl:=hB.le;refine⟨by omega,λq h3 h4=>?_,hB.hi⟩;by_cases e:q=h
 ·rw[e];exact hT
 ·exact ht _ _ _ (hA q h h3 af af) hT
theorem vC.down {h:Nat} (ht:DM T) (hA:jV T σ a m) (hB:vC T σ a m i j) (h1:i<=h) (h2:h<j) (hT:T (σ m) (σ h)):vC T σ a m i h:=by
 have hl:=hB.le;refine⟨by omega,hB.lo,λq h3 h4=>?_⟩;by_cases e:q=h
 ·rw[e];exact hT
 ·exact ht _ _ _ hT (hA h q af af af)
theorem vC.done (hB:vC T σ a m i i) (hm:b=m+1) (hA:jV T σ a m):jV T (λx=>σ (ov m i x)) a b:=by
 have hl:=hB.le;intro p q h1 h2 h3;show T (σ (ov m i p)) (σ (ov m i q));rcases Nat.lt_trichotomy p i with e|e|e
 ·rw[DL (.inl e) af];rcases Nat.lt_trichotomy q i with f|f|f
  ·rw[DL (.inl f) af];exact hA _ _ af af af
  ·rw[f,FB];exact hB.lo _ af af
  ·rw[BQ af af];exact hA _ _ af af af
 ·rw[e,FB,BQ af af];exact hB.hi _ af af
 ·rw[BQ af af,BQ af af];exact hA _ _ af af af
structure jM (T:Nat->Nat->Prop) (σ:Nat->Nat) (a m b d s r:Nat):Prop where
 mid:a<d/\d<b/\2*d<=a+b/\a+b<=2*d+1/\a<m/\m<b
 le:s<=r
 lo: (m<=d->a<=s)/\(d<m->d+m-b<=s)
 hi: (m<=d->r<=m)/\(d<m->r<=d)
 aC: ((m<=d/\s=a)\/(d<m/\s=d+m-b))\/(1<=s/\T (σ (s-1)) (σ (d+m-s)))
 gZ: ((m<=d/\r=m)\/(d<m/\r=d))\/T (σ (d+m-1-r)) (σ r)
theorem jM.abZ (h:a<d/\d<b/\2*d<=a+b/\a+b<=2*d+1/\a<m/\m<b) (h2:d<m):jM T σ a m b d (d+m-b) d:=
 ⟨h,by omega,⟨λe=>by omega,λ_=>Nat.le_refl _⟩,⟨λe=>by omega,λ_=>Nat.le_refl _⟩,.inl (.inr ⟨h2,rfl⟩),.inl (.inr ⟨h2,rfl⟩)⟩
theorem jM.ab0 (h:a<d/\d<b/\2*d<=a+b/\a+b<=2*d+1/\a<m/\m<b) (h2:m<=d):jM T σ a m b d a m:=
 ⟨h,by omega,⟨λ_=>Nat.le_refl _,λe=>by omega⟩,⟨λ_=>Nat.le_refl _,λe=>by omega⟩,.inl (.inl ⟨h2,rfl⟩),.inl (.inl ⟨h2,rfl⟩)⟩
theorem jM.G4 (h:jM T σ a m b d s r) {q:Nat} (h1:s<=q) (h2:q<r):a<=q/\q<m/\m<=d+m-1-q/\d+m-1-q<b/\q<=d+m-1:=by
 obtain⟨h3,h4,⟨h5,h6⟩,⟨h7,h8⟩,_,_⟩:=h;omega
theorem jM.up (h:jM T σ a m b d s r) {q:Nat} (h1:s<=q) (h2:q<r) (hT:T (σ q) (σ (d+m-1-q))):jM T σ a m b d (q+1) r:=by
 obtain⟨h3,h4,⟨h5,h6⟩,⟨h7,h8⟩,fC,gq⟩:=h;exact⟨h3,by omega,by omega,by omega,.inr ⟨by omega,by rw[show q+1-1=q by omega,show d+m-(q+1)=d+m-1-q by omega];exact hT⟩,gq⟩
theorem jM.down (h:jM T σ a m b d s r) {q:Nat} (h1:s<=q) (h2:q<r) (hT:T (σ (d+m-1-q)) (σ q)):jM T σ a m b d s q:=by
 obtain⟨h3,h4,⟨h5,h6⟩,⟨h7,h8⟩,fC,gq⟩:=h;exact⟨h3,by omega,by omega,by omega,fC,.inr hT⟩
theorem jM.ends (h:jM T σ a m b d s s):a<=s/\s<=m/\s<=d/\m<=d+m-s/\d<=d+m-s/\d+m-s<=b/\s+(d+m-s-m)=d:=by
 obtain⟨h3,h4,⟨h5,h6⟩,⟨h7,h8⟩,fC,gq⟩:=h;omega
theorem jM.at_ (h:jM T σ a m b d s s) (x:Nat): (a<=x->x<s->ro s m (d+m-s) x=x)/\(s<=x->x<d->ro s m (d+m-s) x=x+(m-s))/\(d<=x->x<d+m-s->ro s m (d+m-s) x=x-(d-s))/\(d+m-s<=x->ro s m (d+m-s) x=x):=by
 have he:=h.ends;refine⟨λh1 h2=>vj af af af,λh1 h2=>Ak af af,λh1 h2=>?_,λh1=>vj af af af⟩;rw[Al af af];omega
theorem jM.ab3 (ht:DM T) (h:jM T σ a m b d s s) (hl:jV T σ a m) (hr:jV T σ m b):∀p q,a<=p->p<d->d<=q->q<b->T (σ (ro s m (d+m-s) p)) (σ (ro s m (d+m-s) q)):=by
 have he:=h.ends;have hm:=h.mid;have PF:∀p q,a<=p->p<q->q<m->T (σ p) (σ q):=hl;have PG:∀p q,m<=p->p<q->q<b->T (σ p) (σ q):=hr;have lL:∀p q,a<=p->p<s->d+m-s<=q->q<b->T (σ p) (σ q):=λp q h1 h2 h3 h4=>by
  rcases h.aC with h5|⟨_,h5⟩
  ·exfalso;omega
  ·have h6:T (σ (s-1)) (σ q):=by
    by_cases e:q=d+m-s
    ·rw[e];exact h5
    ·exact ht _ _ _ h5 (PG _ _ af af h4)
   by_cases e:p=s-1
   ·rw[e];exact h6
   ·exact ht _ _ _ (PF p (s-1) h1 af af) h6
 have ab4:∀p q,s<=p->p<m->m<=q->q<d+m-s->T (σ q) (σ p):=λp q h1 h2 h3 h4=>by
  rcases h.gZ with h5|h5
  ·exfalso;omega
  ·have h6:T (σ q) (σ s):=by
    by_cases e:q=d+m-1-s
    ·rw[e];exact h5
    ·exact ht _ _ _ (PG q (d+m-1-s) h3 af af) h5
   by_cases e:p=s
   ·rw[e];exact h6
   ·exact ht _ _ _ h6 (PF s p af af h2)
 intro p q h1 h2 h3 h4;have hp:=h.at_ p;have hq:=h.at_ q;by_cases e:p<s
 ·rw[hp.1 h1 e];by_cases f:q<d+m-s
  ·rw[hq.2.2.1 h3 f];exact PF _ _ h1 af af
  ·rw[hq.2.2.2 af];exact lL _ _ h1 e af h4
 ·rw[hp.2.1 af h2];by_cases f:q<d+m-s
  ·rw[hq.2.2.1 h3 f];exact ab4 _ _ af af af af
  ·rw[hq.2.2.2 af];exact PG _ _ af af h4
theorem jM.left (h:jM (e9 c ys) σ a m b d s s) (hS:oO c ys σ a m b) (h1:a<s) (h2:s<d):oO c ys (λx=>σ (ro s m (d+m-s) x)) a s d:=by
 have he:=h.ends;have hlt:=hS.lt;refine⟨⟨h1,h2,by omega⟩,λp q h3 h4 h5=>?_,λp q h3 h4 h5=>?_,λp q h3 h4 h5 h6=>?_⟩
 ·try simp only
  rw[(h.at_ p).1 h3 af,(h.at_ q).1 af h5];exact hS.l _ _ h3 h4 af
 ·try simp only
  rw[(h.at_ p).2.1 h3 af,(h.at_ q).2.1 af h5];exact hS.r _ _ af af af
 ·try simp only
  rw[(h.at_ p).1 h3 h4,(h.at_ q).2.1 h5 h6];exact hS.d _ _ h3 af af af
theorem jM.ab5 (h:jM (e9 c ys) σ a m b d s s) (hS:oO c ys σ a m b) (h1:¬(a<s/\s<d)):jV (e9 c ys) (λx=>σ (ro s m (d+m-s) x)) a d:=by
 have he:=h.ends;intro p q h3 h4 h5;try simp only
 by_cases e:s=a
 ·rw[(h.at_ p).2.1 af af,(h.at_ q).2.1 af h5];exact hS.r _ _ af af af
 ·rw[(h.at_ p).1 h3 af,(h.at_ q).1 af af];exact hS.l _ _ h3 h4 af
theorem jM.right (h:jM (e9 c ys) σ a m b d s s) (hS:oO c ys σ a m b) (h1:d<d+m-s) (h2:d+m-s<b):oO c ys (λx=>σ (ro s m (d+m-s) x)) d (d+m-s) b:=by
 have he:=h.ends;have hlt:=hS.lt;refine⟨⟨h1,h2,by omega⟩,λp q h3 h4 h5=>?_,λp q h3 h4 h5=>?_,λp q h3 h4 h5 h6=>?_⟩
 ·try simp only
  rw[(h.at_ p).2.2.1 h3 af,(h.at_ q).2.2.1 af h5];exact hS.l _ _ af af af
 ·try simp only
  rw[(h.at_ p).2.2.2 h3,(h.at_ q).2.2.2 af];exact hS.r _ _ af h4 h5
 ·try simp only
  rw[(h.at_ p).2.2.1 h3 h4,(h.at_ q).2.2.2 h5];exact hS.d _ _ af af af h6
theorem jM.ab6 (h:jM (e9 c ys) σ a m b d s s) (hS:oO c ys σ a m b) (h1:¬(d<d+m-s/\d+m-s<b)):jV (e9 c ys) (λx=>σ (ro s m (d+m-s) x)) d b:=by
 have he:=h.ends;intro p q h3 h4 h5;try simp only
 by_cases e:d+m-s=b
 ·rw[(h.at_ p).2.2.1 h3 af,(h.at_ q).2.2.1 af af];exact hS.l _ _ af af af
 ·rw[(h.at_ p).2.2.2 af,(h.at_ q).2.2.2 af];exact hS.r _ _ af h4 h5
theorem oO.keep (h:oO c ys σ a m b) (e:∀x,a<=x->x<b->d_ x=σ x):oO c ys d_ a m b:=by
 have hlt:=h.lt;refine⟨hlt,λp q h3 h4 h5=>?_,λp q h3 h4 h5=>?_,λp q h3 h4 h5 h6=>?_⟩
 ·rw[e p af af,e q af af];exact h.l _ _ h3 h4 h5
 ·rw[e p af af,e q af af];exact h.r _ _ h3 h4 h5
 ·have e1:=e p af af;have e2:=e q af af;rw[e1,e2];exact h.d _ _ h3 h4 h5 h6
structure FC (c:α->α->Int) (ys:List α) (σ:Nat->Nat) (a b:Nat) (us:List α) (d_:Nat->Nat):Prop where
 pl:fO ys (λx=>σ (d_ x)) us
 wi:fV d_ a b
 jw:jV (e9 c ys) (λx=>σ (d_ x)) a b
theorem jM.merge {H9 H_:Nat->Nat} (hT:DM (e9 c ys)) (h:jM (e9 c ys) σ a m b d s s) (hS:oO c ys σ a m b) (h1:fV H9 a d) (ab7:jV (e9 c ys) (λx=>σ (ro s m (d+m-s) (H9 x))) a d) (h2:fV H_ d b) (K3:jV (e9 c ys) (λx=>σ (ro s m (d+m-s) (H9 (H_ x)))) d b) (hp:fO ys (λx=>σ (ro s m (d+m-s) (H9 (H_ x)))) us):
  FC c ys σ a b us (λx=>ro s m (d+m-s) (H9 (H_ x))):=by
 have he:=h.ends;have hm:=h.mid;refine⟨hp,?_,λp q h3 h4 h5=>?_⟩
 ·exact((abR af af).mono he.1 he.2.2.2.2.2.1).comp ((h1.mono (Nat.le_refl _) af).comp (h2.mono af (Nat.le_refl _)))
 ·try simp only
  by_cases e:q<d
  ·rw[h2.out p af,h2.out q af];exact ab7 p q h3 h4 e
  ·by_cases f:p<d
   ·rw[h2.out p af];have i1:=h1.mc p h3 f;have i2:=h2.mc q af h5;rw[h1.out (H_ q) af];exact h.ab3 hT hS.l hS.r _ _ i1.1 i1.2 i2.1 i2.2
   ·exact K3 p q af h4 h5
theorem ab8 (hc:mZ c P) (hP:∀x∈ys,P x):DM (e9 c ys):=λ_ _ _ h1 h2=>NV hc hP h1 h2
structure mN (c:α->α->Int) (ys:List α) (σ:Nat->Nat) (a e:Nat):Prop where
 mc:∀x,a<=x->x<e->a<=σ x/\σ x<e
 jw:jV (e9 c ys) σ a e
theorem mN.nil (h:b<=a):mN c ys σ a b:=⟨λx h1 h2=>by omega,λp q h1 h2 h3=>by omega⟩
theorem mN.keep (h:mN c ys σ a b) (e:∀x,a<=x->x<b->d_ x=x):mN c ys (λx=>σ (d_ x)) a b:=
 ⟨λx h1 h2=>by show a<=σ (d_ x)/\σ (d_ x)<b;rw[e x h1 h2];exact h.mc x h1 h2,λp q h1 h2 h3=>by
  show e9 c ys (σ (d_ p)) (σ (d_ q));rw[e p h1 af,e q af h3];exact h.jw p q h1 h2 h3⟩
theorem oO.XO (hc:mZ c P) (hP:∀x∈ys,P x) (hL:fO ys σ zs) (h1:mN c ys σ a m) (h2:mN c ys σ m b) (hl:a<m) (hr:m<b) (hb:b<=ys.length):oO c ys σ a m b:=by
 refine⟨⟨hl,hr,hb⟩,h1.jw,h2.jw,λp q h3 h4 h5 h6=>?_⟩;have i1:=h1.mc p h3 h4;have i2:=h2.mc q h5 h6;have b1:=(hL.at_ p af).1;have b2:=(hL.at_ q af).1;have p1:=hP _ (List.getElem_mem b1);have p2:=hP _ (List.getElem_mem b2);by_cases e:c ys[σ q] ys[σ p]<0
 ·exact .inr ⟨b2,b1,e⟩
 ·have a1:=hc.anti _ _ p1 p2;have a2:=hc.anti _ _ p2 p1;refine .inl ⟨b1,b2,?_⟩;by_cases f:c ys[σ p] ys[σ q]<0
  ·exact .inl f
  ·exact .inr ⟨by omega,by omega⟩
theorem FC.seg (h:FC c ys σ a b us d_) (h1:mN c ys σ a m) (h2:mN c ys σ m b) (hm:a<=m/\m<=b):mN c ys (λx=>σ (d_ x)) a b:=by
 refine⟨λx h3 h4=>?_,h.jw⟩;have h5:=h.wi.mc x h3 h4;show a<=σ (d_ x)/\σ (d_ x)<b;by_cases e:d_ x<m
 ·have:=h1.mc _ h5.1 e;omega
 ·have:=h2.mc _ af h5.2;omega
theorem mN.XP (hL:fO ys σ zs) (hid:∀x,a<=x->σ x=x) (hw:fV d_ a b) (ha:jV (e9 c zs) d_ a b) (hb:b<=ys.length):mN c ys (λx=>σ (d_ x)) a b:=by
 refine⟨λx h1 h2=>?_,λp q h1 h2 h3=>?_⟩
 ·have:=hw.mc x h1 h2;show a<=σ (d_ x)/\σ (d_ x)<b;rw[hid _ this.1];exact this
 ·have i1:=hw.mc p h1 af;have i2:=hw.mc q af h3;show e9 c ys (σ (d_ p)) (σ (d_ q));rw[hid _ i1.1,hid _ i2.1];obtain⟨e1,e2,eH⟩:=ha p q h1 h2 h3;have g1:=hL.get (show d_ p<ys.length by omega);have g2:=hL.get (show d_ q<ys.length by omega);simp only[hid _ i1.1] at g1;simp only[hid _ i2.1] at g2;rw[g1,g2] at eH;exact⟨by omega,by omega,eH⟩
def An (c:α->α->Int) (ys:List α) (σ:Nat->Nat) (k:Nat):Prop:=∀k',k'<k->mN c ys σ (k'*20) (k'*20+20)
def BR (c:α->α->Int) (ys:List α) (σ:Nat->Nat) (d n:Nat):Prop:=∀k',mN c ys σ (k'*d) (min (k'*d+d) n)
def sC (c:α->α->Int) (ys:List α) (σ:Nat->Nat) (d n k:Nat):Prop:=(∀k',k'<k->mN c ys σ (k'*(2*d)) (k'*(2*d)+2*d))/\∀k',2*k<=k'->mN c ys σ (k'*d) (min (k'*d+d) n)
theorem An.zero:An c ys σ 0:=λk' h=>by omega
theorem An.next (h:An c ys σ k) (ha:a=k*20) (hL:fO ys σ zs) (hW:fV σ 0 a) (hw:fV d_ a (a+20)) (hA:jV (e9 c zs) d_ a (a+20)) (hb:a+20<=ys.length):An c ys (λx=>σ (d_ x)) (k+1):=by
 intro k' hk;by_cases e:k'=k
 ·subst e;rw[<-ha];exact mN.XP hL (λx hx=>hW.out x af) hw hA hb
 ·exact(h k' af).keep λx h1 h2=>hw.out x af
theorem An.all (h:An c ys σ k) (ha:a=k*20) (hL:fO ys σ zs) (hW:fV σ 0 a) (hn:n=ys.length) (hw:fV d_ a n) (hA:jV (e9 c zs) d_ a n) (h1:a<=n) (h2:n<a+20):BR c ys (λx=>σ (d_ x)) 20 n:=by
 intro k';rcases Nat.lt_trichotomy k' k with e|e|e
 ·rw[show min (k'*20+20) n=k'*20+20 by omega];exact(h k' e).keep λx h1 h2=>hw.out x af
 ·subst e;rw[<-ha,show min (a+20) n=n by omega];exact mN.XP hL (λx hx=>hW.out x af) hw hA af
 ·exact mN.nil af
theorem BR.mix (h:BR c ys σ d n):sC c ys σ d n 0:=⟨λk' hk=>by omega,λk' _=>h k'⟩
theorem BR.done (h:BR c ys σ d n) (hn:n<=d):jV (e9 c ys) σ 0 n:=by
 have:=h 0;rw[Nat.zero_mul,show min (0+d) n=n by omega] at this;exact this.jw
theorem Ly (k d:Nat):2*k*d=k*(2*d):=by rw[Nat.mul_comm 2 k,Nat.mul_assoc]
theorem sC.fst (h:sC c ys σ d n k) (ha:a=k*(2*d)) (hn:a+d<=n):mN c ys σ a (a+d):=by
 have:=h.2 (2*k) (Nat.le_refl _);rw[Ly,<-ha,show min (a+d) n=a+d by omega] at this;exact this
theorem sC.snd (h:sC c ys σ d n k) (ha:a=k*(2*d)):mN c ys σ (a+d) (min (a+2*d) n):=by
 have:=h.2 (2*k+1) af;rw[Nat.succ_mul,Ly,<-ha,show a+d+d=a+2*d by omega] at this;exact this
theorem sC.next (h:sC c ys σ d n k) (ha:a=k*(2*d)) (hn:a+2*d<=n) (hq:FC c ys σ a (a+2*d) us d_):sC c ys (λx=>σ (d_ x)) d n (k+1):=by
 have h1:=h.fst ha af;have h2:=h.snd ha;rw[show min (a+2*d) n=a+2*d by omega] at h2;refine⟨λk' hk=>?_,λk' hk=>?_⟩
 ·by_cases e:k'=k
  ·subst e;rw[<-ha];exact hq.seg h1 h2 af
  ·have: (k'+1)*(2*d)<=k*(2*d):=Nat.mul_le_mul_right _ af;rw[Nat.succ_mul] at this;exact(h.1 k' af).keep λx h3 h4=>hq.wi.out x af
 ·have: (2*k+2)*d<=k'*d:=Nat.mul_le_mul_right _ af;rw[Nat.add_mul,Ly] at this;exact(h.2 k' af).keep λx h3 h4=>hq.wi.out x af
theorem sC.beyond (ha:a=k*(2*d)) (hn:n<a+2*d) {k':Nat} (hk:k<k'):n<=k'*(2*d):=by
 have: (k+1)*(2*d)<=k'*(2*d):=Nat.mul_le_mul_right _ af;rw[Nat.succ_mul] at this;omega
theorem sC.last (h:sC c ys σ d n k) (ha:a=k*(2*d)) (hn:a+d<n) (hn2:n<a+2*d) (hq:FC c ys σ a n us d_):BR c ys (λx=>σ (d_ x)) (2*d) n:=by
 have h1:=h.fst ha af;have h2:=h.snd ha;rw[show min (a+2*d) n=n by omega] at h2;intro k';rcases Nat.lt_trichotomy k' k with e|e|e
 ·have: (k'+1)*(2*d)<=k*(2*d):=Nat.mul_le_mul_right _ af;rw[Nat.succ_mul] at this;rw[show min (k'*(2*d)+2*d) n=k'*(2*d)+2*d by omega];exact(h.1 k' e).keep λx h3 h4=>hq.wi.out x af
 ·subst e;rw[<-ha,show min (a+2*d) n=n by omega];exact hq.seg h1 h2 af
 ·have:=sC.beyond ha hn2 e;exact mN.nil af
theorem sC.rest (h:sC c ys σ d n k) (ha:a=k*(2*d)) (hn:n<=a+d) (ha2:a<=n):BR c ys σ (2*d) n:=by
 have h1:=h.2 (2*k) (Nat.le_refl _);rw[Ly,<-ha,show min (a+d) n=n by omega] at h1;intro k';rcases Nat.lt_trichotomy k' k with e|e|e
 ·have: (k'+1)*(2*d)<=k*(2*d):=Nat.mul_le_mul_right _ af;rw[Nat.succ_mul] at this;rw[show min (k'*(2*d)+2*d) n=k'*(2*d)+2*d by omega];exact h.1 k' e
 ·subst e;rw[<-ha,show min (a+2*d) n=n by omega];exact h1
 ·have: (k+1)*(2*d)<=k'*(2*d):=Nat.mul_le_mul_right _ af;rw[Nat.succ_mul] at this;exact mN.nil af
end
end Go.K
set_option maxHeartbeats 4000000
namespace Go.K
open bn Go.Proofs Go.Shelf Go.Sort
section
variable {P:Program} {ρ:Ren} {β:Type} [bn β] {cf:β->β->Int} {w:World} {C:Nat->Nat} {j g0:Nat} {e:TypeId} {v:Value} {ys:List β}
theorem ab9 {α:Type} [Inhabited α] {enc:α->Value} {d:Array α} {cs:Array Value} {t:Nat} (h:t<d.size) (h2:t<cs.size): (putCells enc 0 d cs)[t]?=some (enc d[t]!):=by
 unfold putCells;rw[Array.getElem?_mapIdx,Array.getElem?_eq_getElem h2,Option.map_some,if_pos ⟨Nat.zero_le _,by omega⟩,Nat.sub_zero]
theorem XQ (L:SlLaysF.n6 P ρ) (wX:bn.agg β=false) (yB:mZ cf (λ_=>True)) (hd:∀i k (hi:i<ys.length) (hk:k<ys.length),i≠k->cf ys[i] ys[k]≠0)
  (eg:∀args w,(callFunc g0 args).run P w=.ok (.enter g0 args) w)
  (hcmp:∀W,av [j] w C W C->aF W C->∀x∈ys,∀y∈ys,∀vx vy,aq W (aj C) x vx->aq W (aj C) y vy->Calls P g0 #[vx,vy] W (aZ λu w'=>u=.int .i64 (cf x y)/\av [] W C w' C))
  (hj:j≠0) (hF:aF w C) (ho:aQ w C j e v ys) (hlen:ys.length<=140737488355328):
  Calls P (ρ.f 6) #[v,.func (.func g0) #[] #[]] w (aZ λu w'=>u=.tuple #[]/\∃zs,fm cf ys zs/\av [j] w C w' C/\aQ w' C j e v zs/\aF w' C):=by
 have s1:sz β=1:=bn.flat wX;obtain⟨hown,kU⟩:=ho;have Lf:fm cf ([]:List β) []:=fm.self λi j hij hj=>by simp at hj
 rcases hown with⟨rfl,rfl⟩|⟨g,cap,cs,rfl,hg,hc,hcap,h2,h3⟩
 ·refine(AnyF.slices_SortFunc_none (P:=P) (ρ:=ρ) {L with} none 0 (.func (.func g0) #[] #[]) w).mono ?_;rintro e' w' ⟨rfl,rfl⟩;exact⟨_,rfl,rfl,[],Lf,av.refl _ _ _,aQ.nil,hF⟩
 ·have qe:C g=j:=kU g rfl;obtain⟨n,hn⟩:∃n,n=ys.length:=⟨_,rfl⟩
  rcases Nat.eq_zero_or_pos n with hz|hpos
  ·have hy:ys=[]:=List.length_eq_zero_iff.1 af;subst hy;refine(AnyF.slices_SortFunc_none (P:=P) (ρ:=ρ) {L with} (some ⟨g,0,none⟩) cap (.func (.func g0) #[] #[]) w).mono ?_;rintro e' w' ⟨rfl,rfl⟩;exact⟨_,rfl,rfl,[],Lf,av.refl _ _ _,⟨.inr ⟨g,cap,cs,rfl,hg,hc,hcap,h2,h3⟩,kU⟩,hF⟩
  rw[s1] at h2 h3;have hcs:n<=cs.size:=by omega
  subst hn
  haveI:Inhabited (Fin ys.length):=⟨⟨0,hpos⟩⟩
  obtain⟨enc,HW⟩:∃enc:Fin ys.length->Value,enc=λi=>cs[i.val]'af:=⟨_,rfl⟩
  have wh:∀i:Fin ys.length,rep w.heap (aj C) ys[i.val] [enc i]:=λi=>by
   have:=h3 i.val i.isLt;have e1:cR cs (i.val*1) 1=[enc i]:=by
    rw[HW];simp only[cR,Nat.mul_one];rw[List.drop_eq_getElem_cons (by simpa using(show i.val<cs.size by omega))];simp
   rwa [e1] at this
  have h1:OneCell enc:=λi=>bn.one (wh i) _ List.mem_cons_self;obtain⟨yD,XR⟩:∃yD:Fin ys.length->Fin ys.length->Int,yD=λi k=>cf ys[i.val] ys[k.val]:=⟨_,rfl⟩
  have hlt:∀i k:Fin ys.length,(ltOf yD) i k=decide (cf ys[i.val] ys[k.val]<0):=λi k=>by unfold ltOf;rw[XR]
  have anti:∀x y:β,cf x y<0↔0<cf y x:=λx y=>yB.anti x y trivial trivial;have ab_:∀x:β,cf x x=0:=λx=>by have:=anti x x;omega
  have hO:SWO (ltOf yD):=⟨λx=>by rw[hlt,ab_];rfl,λx y z h h'=>by
    rw[hlt] at*;simp only[decide_eq_true_eq] at*;exact yB.UI trivial trivial trivial h af,λx y z h h'=>by
    rw[hlt] at*;simp only[decide_eq_false_iff_not] at*;have a:=anti ys[x.val] ys[y.val];have a2:=anti ys[y.val] ys[x.val];have b:=anti ys[y.val] ys[z.val];have b2:=anti ys[z.val] ys[y.val];have c:=yB.trans ys[z.val] ys[y.val] ys[x.val] trivial trivial trivial af af;have d:=anti ys[x.val] ys[z.val];omega⟩
  have hT:∀x y,(ltOf yD) x y=false->(ltOf yD) y x=false->x=y:=λx y h h'=>by
   rw[hlt] at h h';simp only[decide_eq_false_iff_not] at h h';apply Classical.byContradiction;intro hxy;have h2:=hd x.val y.val x.isLt y.isLt (λe=>hxy (Fin.ext e));have:=anti ys[y.val] ys[x.val];omega
  obtain⟨d,PJ⟩:∃d:Array (Fin ys.length),d=(List.finRange ys.length).toArray:=⟨_,rfl⟩
  have hds:d.size=ys.length:=by rw[PJ];simp
  have acd:∀(i:Nat) (hi:i<d.size),(d[i]'hi).val=i:=λi hi=>by subst PJ;simp
  have XS:∀(m:Nat) (dk:Array (Fin ys.length)) (os:Array Obj),av [j] w C (sortWorld enc w g 0 m dk os) C:=λm dk os=>by
   show av [j] w C (grow (putRow enc (Sort.ahead w m) g 0 dk) os) C;refine⟨⟨rfl,rfl,rfl,by simp[grow,putRow,mapBlock,Sort.ahead],λb hb hnb=>?_,Nat.le_add_right _ _⟩,λ_ _=>rfl⟩;have Po:g≠b:=λe=>hnb (by rw[<-e,qe];simp);simp only[grow,putRow,mapBlock,Sort.ahead];rw[Array.getElem?_append_left (by simpa using hb),Array.getElem?_modify,if_neg Po]
  have Pn:CmpLays1 P g0 #[] enc yD g 0 d.size w:=λm os dk _ x y=>by
   have hst:=XS m dk os;have hx:aq w (aj C) ys[x.val] (enc x):=zi (wh x) wX;have hy:aq w (aj C) ys[y.val] (enc y):=zi (wh y) wX;have h:=hcmp _ hst (hF.st hst) _ (List.getElem_mem _) _ (List.getElem_mem _) _ _ (hx.st hst sN) (hy.st hst sN);rw[Array.append_empty];refine h.mono ?_;rintro e' w' ⟨u,rfl,rfl,hx⟩;exact⟨by rw[XR],XB (hx.ext.mono (λb _ hb=>by simp at hb))⟩
  have hH:Holds enc w g 0 d:=λt ht=>by
   have ht2:t<cs.size:=by omega
   refine⟨?_,by simp[World.frozen?,hc]⟩;rw[cell_of_row w g (0+t) cs e (0,0) hc,Nat.zero_add,Array.getElem?_eq_getElem ht2,getElem!_pos d t ht,HW];simp only[acd t ht]
  have hsort:=Any.slices_SortFunc_total L enc h1 yD hO g0 #[] g 0 cap d w eg Pn hH (tC hc) (by rw[hds];omega) hT;rw[hds] at hsort;refine hsort.mono ?_;rintro e' w' ⟨rfl,m,os,hw⟩;obtain⟨S,hS⟩:∃S,S=d.toList.mergeSort λx y=>!(ltOf yD) y x:=⟨_,rfl⟩
  rw[<-hS] at hw;have wS:S.Perm (List.finRange ys.length):=by
   rw[hS,PJ];exact List.mergeSort_perm _ _
  have XT:S.length=ys.length:=by rw[wS.length_eq,List.length_finRange]
  have hst:av [j] w C w' C:=by rw[hw];exact XS m _ os
  have kY:w'.heap[g]?=some (.cells (putCells enc 0 S.toArray cs) e (0,0)):=by
   rw[hw];show(grow (putRow enc (Sort.ahead w m) g 0 S.toArray) os).heap[g]?=_;simp only[grow,putRow,mapBlock,Sort.ahead];rw[Array.getElem?_append_left (by simpa using tC hc),Array.getElem?_modify,if_pos rfl,hc];rfl
  have sq:S.Pairwise λa b=>(!(ltOf yD) b a)=true:=by
   rw[hS];refine List.pairwise_mergeSort (λi k l h h'=>?_) (λi k=>?_) _
   ·rw[hlt] at*;simp only[Bool.not_eq_true',decide_eq_false_iff_not] at*;have a:=anti ys[k.val] ys[i.val];have a2:=anti ys[i.val] ys[k.val];have b:=anti ys[l.val] ys[k.val];have b2:=anti ys[k.val] ys[l.val];have c:=yB.trans ys[i.val] ys[k.val] ys[l.val] trivial trivial trivial af af;have d:=anti ys[l.val] ys[i.val];omega
   ·rw[hlt,hlt];simp only[Bool.or_eq_true,Bool.not_eq_true',decide_eq_false_iff_not];have a:=anti ys[k.val] ys[i.val];have a2:=anti ys[i.val] ys[k.val];omega
  have hblk:∀b,b<w.heap.size->¬aj C b->w'.heap[b]?=w.heap[b]?:=λb hb hnb=>hst.ext.block b hb (λEF=>hnb (by
   simp only[List.mem_singleton] at EF;unfold aj;rw[EF];exact hj))
  have hkeep:∀i:Fin ys.length,rep w'.heap (aj C) ys[i.val] [enc i]:=λi=>bn.keep (wh i) hblk;have gi:S.Nodup:=wS.nodup_iff.2 (List.nodup_finRange _);refine⟨_,rfl,rfl,S.map (λi=>ys[i.val]),fm.O1 wS ?_,hst,⟨.inr ⟨g,cap,_,by rw[List.length_map,XT],hg,kY,by rw[List.length_map,XT];exact hcap,?_,λi hi=>?_⟩,kU⟩,hF.st hst⟩
  ·refine(sq.and (List.nodup_iff_pairwise_ne.1 gi)).imp λ{i k} ⟨h,hne⟩=>⟨i.isLt,k.isLt,.inl ?_⟩
   rw[hlt] at h;simp only[Bool.not_eq_true',decide_eq_false_iff_not] at h;have h2:=hd i.val k.val i.isLt k.isLt (λe=>hne (Fin.ext e));have a:=anti ys[k.val] ys[i.val];have a2:=anti ys[i.val] ys[k.val];omega
  ·simp only[putCells,Array.size_mapIdx];rw[s1];exact h2
  ·have hi2:i<S.length:=by rwa [List.length_map] at hi
   rw[s1,List.getElem_map];have e1:cR (putCells enc 0 S.toArray cs) (i*1) 1=[enc S[i]]:=by
    have hg1:=ab9 (enc:=enc) (d:=S.toArray) (cs:=cs) (t:=i) (by simpa using hi2) af;have XU:i<(putCells enc 0 S.toArray cs).size:=by simp only[putCells,Array.size_mapIdx];omega
    rw[Array.getElem?_eq_getElem XU,Option.some.injEq] at hg1;simp only[cR,Nat.mul_one];rw[List.drop_eq_getElem_cons (by simpa using XU)];simp only[List.take_succ_cons,List.take_zero,Array.getElem_toList,hg1];rw[getElem!_pos _ i (by simpa using hi2)];simp
   rw[e1];exact hkeep S[i]
end
end Go.K
namespace Go.K
open bn
theorem CZ.more {m:Nat} {J:Nat->Nat->Prop} {pt:Nat->Int} {lq s1 s2 s3:Nat->Bool} {j:Nat} (h:CZ m J pt lq s1) (hs2:∀q,s2 q=if j=q then true else s1 q) (h3:CZ m J pt s2 s3) (hn:pt j≠-1) (hrow:∀j',j'<m->J (pt j).toNat j'->s3 j'=true):CZ m J pt lq s3:=by
 have up:∀q,q<m->s1 q=true->s3 q=true:=λq hq e=>h3.up q hq (by rw[hs2];split<;>first|rfl|exact e);refine⟨λq hq e=>up q hq (h.up q hq e),λq hq eH e0=>?_⟩;cases e2:s2 q with
 |true=>
  rw[hs2] at e2;split at e2
  ·rename_i e;subst e;exact⟨hn,hrow⟩
  ·obtain⟨a,b⟩:=h.full q hq e2 e0;exact⟨a,λj' hj' hJ=>up j' hj' (b j' hj' hJ)⟩
 |false=>exact h3.full q hq eH e2
section
variable {P:Program} {N:Nat} {env:Env} {w:World} {x:Operand} {t u:TypeId}
end
def PK (m:Nat) (st:Nat->Int) (us:List Bool) (k:Nat):Prop:=∀j:Nat,j<m->(RB us j=true↔∃q,q<k/\st q=j)
section
variable {n m k:Nat} {wt:Nat->Nat->Int} {U V:Nat->Int} {st:Nat->Int} {us:List Bool}
theorem PK.skip (h:PK m st us k) (hn:st k<0):PK m st us (k+1):=λj hj=>by
 rw[h j hj];exact⟨λ⟨q,a,b⟩=>⟨q,by omega,b⟩,λ⟨q,a,b⟩=>⟨q,by
  rcases Nat.lt_or_eq_of_le (Nat.le_of_lt_succ a) with h1|h1
  ·exact h1
  ·subst h1;omega,b⟩⟩
end
theorem DN {P:Program} {f:FuncId} {N:Nat} {k:List Item} {env:Env} {w:World} {R:Value->World->Prop} {c:Code} {fn:Func} {t u r:Nat} {v x y:Value} (hc:c=.ret) (hf:P.funcs[f]?=some fn) (hres:fn.results=#[.tmp t,.tmp u,.tmp r]) (hv:look env t=some v) (hx:look env u=some x) (hy:look env r=some y)
  (hR:R (.tuple #[v,x,y]) w):Run P f N (.code c::k) env w R:=λa ha=>by
 subst hc;refine Cx hf ha.defers ?_ hR;have h1:=ha.slot t v hv;have h2:=ha.slot u x hx;have h3:=ha.slot r y hy;simp only[results,hres];simp[h1,h2,h3,Sem.run,pure,Array.getD_eq_getD_getElem?]
section
variable {P:Program} {t ti:TypeId}
end
section
variable {n m:Int} {l:List Edge}
end
end Go.K
namespace Go.K
theorem XV {x y:au}:pZ x y=decide (eF x y):=by rw[Bool.eq_iff_iff,decide_eq_true_iff,HF];rfl
theorem ace {l:List aH} {r:au}:r∈nJ l↔r∈aM l:=by
 rw[jG];unfold nJ;simp only[List.mem_flatMap,List.mem_cons,List.not_mem_nil,or_false]
theorem acf (l:List aH):wT (nJ l)=aM l:=by
 obtain⟨h1,h2⟩:=O5 (nJ l) [] List.Pairwise.nil;refine J9 (h1.imp λ{x y} h=>by rw[XV] at h;exact of_decide_eq_true h) (zy l) λr=>?_;have:=h2 r;unfold wT;rw[this];simp[ace]
theorem acg {l:List aH} {i:Nat} (h:i<l.length):wT (nJ (l.take (i+1)))=fF (fF (wT (nJ (l.take i))) l[i].A) l[i].B:=by
 rw[T6 h,show[l[i].A,l[i].B]=[l[i].A]++[l[i].B] from rfl,<-List.append_assoc,Ws,Ws]
structure wY (l:List aH) (low:List Nat):Prop where
 len:low.length=(aM l).length
 le:∀i (h:i<low.length),low[i]<=i
 same:∀i (h:i<low.length) (h1:i<(aM l).length) (h2:low[i]<(aM l).length),bZ l (aM l)[low[i]]=bZ l (aM l)[i]
theorem wY.start (l:List aH):wY l (List.range (aM l).length):=⟨List.length_range,λi h=>by simp,λi h h1 h2=>by simp⟩
theorem wY.put {l:List aH} {low:List Nat} (h:wY l low) {a b:Nat} {y:aH} (hy:y∈l) (ha:a<(aM l).length) (hb:b<(aM l).length) (ea: (aM l)[a]=y.A) (eb: (aM l)[b]=y.B) (j8:a<low.length) (hb':b<low.length) (hne:low[a]≠low[b]):
  wY l ((low.set a (min low[a] low[b])).set b (min low[a] low[b]))/\((low.set a (min low[a] low[b])).set b (min low[a] low[b])).sum<low.sum:=by
 have hl:=h.len;have la:=h.le a j8;have lb:=h.le b hb';have hs:bZ l (aM l)[a]=bZ l (aM l)[b]:=by rw[ea,eb];exact zz hy
 have sa:=h.same a j8 ha af;have sb:=h.same b hb' hb af;have hab:a≠b:=λe=>by subst e;exact hne rfl
 refine⟨⟨by simp only[List.length_set];exact hl,λi hi=>?_,λi hi h1 h2=>?_⟩,?_⟩
 ·simp only[List.length_set] at hi;simp only[List.getElem_set];split
  ·subst i;exact Nat.le_trans (Nat.min_le_right _ _) lb
  ·split
   ·subst i;exact Nat.le_trans (Nat.min_le_left _ _) la
   ·exact h.le i hi
 ·simp only[List.length_set] at hi;have hm:∀(h3:min low[a] low[b]<(aM l).length),bZ l (aM l)[min low[a] low[b]]=bZ l (aM l)[a]:=λh3=>by
   rcases Nat.le_total low[a] low[b] with e|e
   ·simp only[Nat.min_eq_left e];exact sa
   ·simp only[Nat.min_eq_right e];rw[sb,hs]
  have key:∀(n:Nat) (h3:n<(aM l).length),n=(if b=i then min low[a] low[b] else if a=i then min low[a] low[b] else low[i])->bZ l (aM l)[n]=bZ l (aM l)[i]:=λn h3 e=>by
   split at e
   ·rename_i e2;subst e2;subst e;rw[hm h3,hs]
   ·split at e
    ·rename_i e2;subst e2;subst e;exact hm h3
    ·subst e;exact h.same i hi h1 h3
  exact key _ h2 (by simp only[List.getElem_set])
 ·have XW:∀(l:List Nat) (i v:Nat) (hi:i<l.length),(l.set i v).sum+l[i]=l.sum+v:=by
   intro l
   induction l with
   |nil=>intro i v hi;simp at hi
   |cons x l ih=>
    intro i v hi;cases i with
    |zero=>simp;omega
    |succ i=>simp only[List.set_cons_succ,List.sum_cons,List.getElem_cons_succ];have:=ih i v (by simpa using hi);omega
  have e1:=XW low a (min low[a] low[b]) j8;have e2:=XW (low.set a (min low[a] low[b])) b (min low[a] low[b]) (by simpa using hb');rw[List.getElem_set,if_neg hab] at e2;have:=Nat.min_le_left low[a] low[b];have:=Nat.min_le_right low[a] low[b];rcases Nat.lt_or_gt_of_ne hne with e|e
  ·rw[Nat.min_eq_left (Nat.le_of_lt e)] at*;omega
  ·rw[Nat.min_eq_right (Nat.le_of_lt e)] at*;omega
def Fix (l ys:List aH) (low:List Nat):Prop:=∀y∈ys,∀a b (ha:a<(aM l).length) (hb:b<(aM l).length),(aM l)[a]=y.A->(aM l)[b]=y.B->low.getD a 0=low.getD b 0
theorem XX {l:List aH} {r:au} (h:r∈aM l):∃a,∃ha:a<(aM l).length,(aM l)[a]=r:=by
 obtain⟨a,ha,e⟩:=List.mem_iff_getElem.1 h;exact⟨a,ha,e⟩
theorem PN {α:Type} {l:List α} (h:l.Nodup) {i j:Nat} (hi:i<l.length) (hj:j<l.length) (e:l[i]=l[j]):i=j:=by
 rcases Nat.lt_trichotomy i j with h1|h1|h1
 ·exact absurd e (List.pairwise_iff_getElem.1 h i j hi hj h1)
 ·exact h1
 ·exact absurd e.symm (List.pairwise_iff_getElem.1 h j i hj hi h1)
open Classical in
theorem Fix.all {l:List aH} {low:List Nat} (h:Fix l l low) {i k:Nat} (hi:i<(aM l).length) (hk:k<(aM l).length) (e:bZ l (aM l)[i]=bZ l (aM l)[k]):low.getD i 0=low.getD k 0:=by
 let p:au->Nat:=λr=>if h:∃a,∃ha:a<(aM l).length,(aM l)[a]=r then low.getD (Classical.choose h) 0 else 0
 have hp:∀a (ha:a<(aM l).length),p (aM l)[a]=low.getD a 0:=λa ha=>by
  have hx:∃a',∃j8:a'<(aM l).length,(aM l)[a']=(aM l)[a]:=⟨a,ha,rfl⟩
  show(if h:_ then _ else 0)=_;rw[dif_pos hx];obtain⟨h1,h2⟩:=Classical.choose_spec hx;rw[PN (xM l) h1 ha h2]
 have hb:∀x∈l,p x.A=p x.B:=λx hx=>by
  obtain⟨a,ha,ea⟩:=XX (l:=l) (r:=x.A) (jG.2 ⟨x,hx,.inl rfl⟩);obtain⟨b,hb,eb⟩:=XX (l:=l) (r:=x.B) (jG.2 ⟨x,hx,.inr rfl⟩);rw[<-ea,<-eb,hp a ha,hp b hb];exact h x hx a b ha hb ea eb
 rw[<-hp i hi,<-hp k hk,<-uM hb (aM l)[i],e,uM hb]
theorem XY {l:List aH} {low:List Nat} (hw:wY l low) (hx:Fix l l low) {i:Nat} (hi:i<(aM l).length) (hil:i<low.length):low[i]=i↔∀q∈(aM l).take i,bZ l q≠bZ l (aM l)[i]:=by
 have iG:∀k (hk:k<low.length),low.getD k 0=low[k]:=λk hk=>by rw[List.getD_eq_getElem?_getD,List.getElem?_eq_getElem hk];rfl
 have hl:=hw.len;constructor
 ·intro e q hq hr;obtain⟨k,hk,rfl⟩:=List.mem_iff_getElem.1 hq;rw[List.length_take] at hk;rw[List.getElem_take] at hr;have h1:=hx.all af hi hr;rw[iG k af,iG i hil,e] at h1;have:=hw.le k af;omega
 ·intro h;have h1:=hw.le i hil;have h2:=hw.same i hil hi af;rcases Nat.lt_or_eq_of_le h1 with h3|h3
  ·exact absurd h2 (h _ (by rw[List.mem_iff_getElem];exact⟨low[i],by rw[List.length_take];omega,by rw[List.getElem_take]⟩))
  ·exact h3
theorem XZ {l:List aH} {low:List Nat} (hw:wY l low) (hx:Fix l l low) {i k:Nat} (hi:i<(aM l).length) (hk:k<(aM l).length) (hil:i<low.length) (ay:k<low.length) (e:low[i]=i):low[k]=i↔bZ l (aM l)[k]=bZ l (aM l)[i]:=by
 have iG:∀k (hk:k<low.length),low.getD k 0=low[k]:=λk hk=>by rw[List.getD_eq_getElem?_getD,List.getElem?_eq_getElem hk];rfl
 constructor
 ·intro h;have:=hw.same k ay hk af;simp only[h] at this;exact this.symm
 ·intro h;have:=hx.all hk hi h;rw[iG k ay,iG i hil,e] at this;exact this
def vD (l:List aH) (i:Nat):List (List au):=(eC (bZ l) ((aM l).take i)).map λq=>(aM l).filter λr=>decide (bZ l r=bZ l q)
theorem ach (l:List aH):vD l (aM l).length=dU l:=by unfold vD;rw[List.take_length];rfl
theorem aci (l:List aH):vD l 0=[]:=by unfold vD;simp[eC]
theorem acj (l:List aH) (i:Nat): (vD l i).length<=(aM l).length:=by
 unfold vD;rw[List.length_map];exact Nat.le_trans (CT _ _).length_le tA
theorem ack {l:List aH} {low:List Nat} (hw:wY l low) (hx:Fix l l low) {i:Nat} (hi:i<(aM l).length) (hil:i<low.length):
  vD l (i+1)=if low[i]=i then vD l i++[(aM l).filter λr=>decide (bZ l r=bZ l (aM l)[i])] else vD l i:=by
 unfold vD;rw[List.take_succ_eq_append_getElem hi,EK];by_cases h:low[i]=i
 ·rw[if_pos h,if_neg]
  ·simp
  ·intro ha;obtain⟨q,hq,e⟩:=J_.1 ha;exact(XY hw hx hi hil).1 h q hq e
 ·rw[if_neg h,if_pos];apply Classical.byContradiction;intro hn;exact h ((XY hw hx hi hil).2 λq hq e=>hn (J_.2 ⟨q,hq,e⟩))
theorem acm {α:Type} (p:α->Bool) {l:List α} {k:Nat} (h:k<l.length): (l.take (k+1)).filter p=if p l[k]=true then(l.take k).filter p++[l[k]] else(l.take k).filter p:=by
 rw[List.take_succ_eq_append_getElem h,List.filter_append];by_cases e:p l[k]=true<;>simp[e]
end Go.K
set_option maxRecDepth 100000
namespace Go.K
open bn
def PO:aH:=⟨⟨0,1⟩,⟨1,1⟩,3⟩
def FD:aH:=⟨⟨0,2⟩,⟨1,2⟩,4⟩
def iz:List aH:=[PO,FD]
def jy:List aH:=[PO]
def ow:List (List au):=[[⟨0,1⟩,⟨1,1⟩],[⟨0,2⟩,⟨1,2⟩]]
def rF:List (List au):=[[⟨0,1⟩,⟨1,1⟩]]
theorem acn {s:List au} (h: (s.Pairwise λa b=>j9 a b<0)):s.Pairwise eF:=h.imp λh=>xL.1 h
theorem PR {l:List aH} {s:List au} (h1:s.Pairwise λa b=>j9 a b<0) (h2:∀x∈l,x.A∈s/\x.B∈s) (h3:∀r∈s,∃x∈l,r=x.A\/r=x.B):aM l=s:=
 J9 (zy l) (acn h1) λr=>by
  rw[jG];exact⟨λ⟨x,hx,e⟩=>e.elim (λe=>e▸(h2 x hx).1) (λe=>e▸(h2 x hx).2),h3 r⟩
theorem aco:aM iz=[⟨0,1⟩,⟨0,2⟩,⟨1,1⟩,⟨1,2⟩]:=PR (by decide+kernel) (by decide+kernel) (by decide+kernel)
theorem Ao:aM jy=[⟨0,1⟩,⟨1,1⟩]:=PR (by decide+kernel) (by decide+kernel) (by decide+kernel)
theorem Lz:aM [FD]=[⟨0,2⟩,⟨1,2⟩]:=PR (by decide+kernel) (by decide+kernel) (by decide+kernel)
theorem PS:aY iz=[jy,[FD]]:=by unfold aY;rw[aco];decide+kernel
theorem PT:aY jy=[jy]:=by unfold aY;rw[Ao];decide+kernel
theorem acp:rj jy []=[[⟨0,1⟩,⟨1,1⟩]]:=by unfold rj;rw[Ao];decide+kernel
theorem acq:rj [FD] []=[[⟨0,2⟩,⟨1,2⟩]]:=by unfold rj;rw[Lz];decide+kernel
theorem X0:dK [] jy=([[⟨0,1⟩,⟨1,1⟩]],0):=by unfold dK;rw[Ao,if_pos ak,acp]
theorem X7:dK [] [FD]=([[⟨0,2⟩,⟨1,2⟩]],0):=by unfold dK;rw[Lz,if_pos ak,acq]
theorem X8:eE (dK []) (aY iz)=ow:=by
 rw[PS];unfold eE;simp only[List.flatMap_cons,List.flatMap_nil,List.append_nil,X0,X7];rfl
theorem acr:eE (dK []) (aY jy)=rF:=by
 rw[PT];unfold eE;simp only[List.flatMap_cons,List.flatMap_nil,List.append_nil,X0];rfl
theorem acs:fm fU ow ow:=fm.self λi j hij hj=>by
 have hj:j<2:=hj;obtain⟨rfl,rfl⟩:i=0/\j=1:=by omega
 exact(show fU [⟨0,1⟩,⟨1,1⟩] [⟨0,2⟩,⟨1,2⟩]<0 by decide+kernel)
theorem acu:fm fU rF rF:=fm.self λi j hij hj=>by
 have hj:j<1:=hj;omega
theorem acv:fm fU (eE (dK []) (aY iz)) ow:=by rw[X8];exact acs
theorem acw:fm fU (eE (dK []) (aY jy)) rF:=by rw[acr];exact acu
theorem X9:fc iz ow=7:=by decide+kernel
theorem acy:fc jy rF=3:=by decide+kernel
theorem LA:pN iz:=by
 refine⟨by decide,λx hx=>?_,?_⟩
 ·simp only[iz,List.mem_cons,List.not_mem_nil,or_false] at hx;rcases hx with rfl|rfl<;>exact⟨by decide,by decide,by decide⟩
 ·unfold iz PO FD kN eF;decide
theorem X_:pN jy:=LA.sub (by unfold iz jy;exact List.Sublist.cons_cons _ (List.nil_sublist _))
theorem acz: (((rA iz [] [] jy (aY jy).length).length:Nat):Int)=0:=by
 unfold rA;rw[PT];simp only[List.length_cons,List.length_nil,List.take_succ_cons,List.take_zero];rw[List.filter_cons,if_neg (by unfold mw;rw[Ao];decide+kernel)];rfl
theorem acA: (((rA jy [] [] iz (aY iz).length).length:Nat):Int)=1:=by
 unfold rA;rw[PS];simp only[List.length_cons,List.length_nil,List.take_succ_cons,List.take_zero];rw[List.filter_cons,if_neg (by unfold mw;rw[Ao];decide+kernel),List.filter_cons,if_pos (by unfold mw;rw[Lz];decide+kernel)];rfl
theorem Ia:iw []=0:=by unfold iw;rw[if_neg b_,BL (λk hk=>absurd hk b_)]
theorem PU:eU iz [] ow:=Fo (λi hi=>ye [] _) acv
theorem Ya:eU jy [] rF:=Fo (λi hi=>ye [] _) acw
theorem acB:eE (mL iz [] ow []) (aY jy)=rF:=by
 rw[PT];unfold eE;simp only[List.flatMap_cons,List.flatMap_nil,List.append_nil];rw[Lk (by rw[Ao];unfold mw;decide+kernel),Ao];decide+kernel
theorem acC:eE (mL jy [] rF []) (aY iz)=ow:=by
 rw[PS];unfold eE;simp only[List.flatMap_cons,List.flatMap_nil,List.append_nil];rw[Lk (by rw[Ao];unfold mw;decide+kernel),Ph (by rw[Lz];unfold mw;decide+kernel),Ao,X7];decide+kernel
theorem PW:kj iz [] ow jy []=0:=by rw[HS (Pf (Ln LA Ia) PU) X_.check];exact Ia
theorem PX:kj jy [] rF iz []=0:=by rw[HS (Pf (Ln X_ Ia) Ya) LA.check];exact Ia
theorem BS:DA iz [] ow jy []=jy/\Dz iz [] ow jy []=rF/\DB iz [] ow jy []=3/\((DC iz [] ow jy []:Nat):Int)=0:=by
 obtain⟨h1,h2,h3,h4,_⟩:=Pj PW;rw[h1,h2,h3,h4,acB,Le Ya,acy];exact⟨rfl,rfl,by decide+kernel,acz⟩
theorem BT:DA jy [] rF iz []=iz/\Dz jy [] rF iz []=ow/\DB jy [] rF iz []=7/\((DC jy [] rF iz []:Nat):Int)=1:=by
 obtain⟨h1,h2,h3,h4,_⟩:=Pj PX;rw[h1,h2,h3,h4,acC,Le PU,X9];exact⟨rfl,rfl,by decide+kernel,acA⟩
theorem Yb:iP (dK []) iz []=(ow,7,0):=by
 rw[HQ (Ln LA Ia) (λk hk=>HR [] _),X8,Le PU,X9]
theorem LB:Ad iz []=iz/\Ae iz []=ow/\wV iz []=7/\(iP (dK []) iz []).2.2=0:=by
 have h: (iP (dK []) iz []).2.2=0:=by rw[Yb]
 obtain⟨h1,h2,h3⟩:=DE h;rw[h1,h2,h3,Yb];exact⟨rfl,rfl,rfl,rfl⟩
end Go.K
