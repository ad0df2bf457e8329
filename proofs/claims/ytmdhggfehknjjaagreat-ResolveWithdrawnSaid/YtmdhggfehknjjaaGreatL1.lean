/- A calculus of steps over the model: a frame is known by a list of slots, code is walked with what is left to do as a list. -/
import Derived.WalkKit
import Derived.OrdersHeld
import Derived.KernelRfl
import Derived.Laws.MakeOwn
import Derived.WideKeyRuns
import Derived.MapKept
import Derived.Laws.StructEq
import Derived.ChangeKeysEq
set_option linter.unusedVariables false
set_option linter.unusedSimpArgs false
set_option linter.unusedSectionVars false
namespace Go.K
def zg (f:FuncId):Frame:={(default:Frame) with fn:=f,kind:=.normal}
def bI (R:Value->World->Prop):Ending->World->Prop:=λe w=>∃v,e=.returned v/\R v w
theorem bI.mono {R R':Value->World->Prop} (h:∀v w,R v w->R' v w) (e:Ending) (w:World) (hr:bI R e w):bI R' e w:=
 let⟨v,he,hv⟩:=hr;⟨v,he,h v w hv⟩
def mq (P:Program) (f:FuncId) (k:List Item) (a:Act) (w:World) (R:Value->World->Prop):Prop:=
 ∀cs,∃v w' fr,R v w'/\Steps P (lone ((zg f).at a k) cs w) (lone fr cs w')/\fr.fn=f/\fr.leaving P w' (.returned v)
theorem TN {P:Program} {f:FuncId} {fn:Func} {c:Code} {args:Array Value} {w:World} {R:Value->World->Prop}
  (hf:P.funcs[f]?=some fn) (hb:fn.body=some c)
  (h:mq P f [.code c] {tmps:=args++Array.replicate (fn.ntmps-args.size) undef,defers:=[]} w R):Calls P f args w (bI R):=by
 intro cs;have TP:Frame.enter P f args .normal=(zg f).at {tmps:=args++Array.replicate (fn.ntmps-args.size) undef,defers:=[]} [.code c]:=by
  simp[Frame.enter,Frame.at,hf,hb,zg]
 obtain⟨v,w',fr,hR,hs,hfn,hl⟩:=h cs;exact⟨.returned v,w',fr,⟨v,rfl,hR⟩,by rw[TP];exact hs,hfn,hl⟩
section
variable {P:Program} {f:FuncId} {k:List Item} {a:Act} {w:World} {R:Value->World->Prop}
theorem mq.step {a':Act} {k':List Item} {w':World}
  (hs:∀cs,step P (lone ((zg f).at a k) cs w)=.next (lone ((zg f).at a' k') cs w')) (h:mq P f k' a' w' R):mq P f k a w R:=λcs=>
 let⟨v,w'',fr,hR,hst,hfn,hl⟩:=h cs
 ⟨v,w'',fr,hR,.head (hs cs) hst,hfn,hl⟩
def pT (P:Program) (f:FuncId) (k:List Item) (R:Value->World->Prop):Exit->Act->World->Prop
 | .normal,a,w=>mq P f k a w R
 |_,_,_=>False
theorem wS {c:Code} (h:c.wp P (pT P f k R) a w):mq P f (.code c::k) a w R:=by
 intro cs;obtain⟨e,a',w',hq,TQ⟩:=h (zg f) k cs;cases e with
 |normal=>
  obtain⟨v,w'',fr,hR,hst,hfn,hl⟩:=hq cs;exact⟨v,w'',fr,hR,Steps.trans TQ hst,hfn,hl⟩
 |_=>exact hq.elim
theorem wT {fn:Func} {v:Value} (hf:P.funcs[f]?=some fn) (hd:a.defers=[]) (hr: (results fn a.tmps).run P w=.ok v w) (hR:R v w):
  mq P f (.code .ret::k) a w R:=λcs=>
 ⟨v,w,_,hR,.one step_ret,rfl,rfl,hd,rfl,fn,hf,hr⟩
end
def zh:List (Nat×Bool)->Bool
 |[]=>false
 |_::_=>true
def Lb:List (Nat×Bool)->Bool
 |[]=>true
 |[(_,b)]=>!b
 |_::_::_=>false
def jc (P:Program) (ops:Array Oper) (S:World->Prop) (Q:Exit->Act->World->Prop):List (Nat×Bool)->Act->World->Prop
 |[],a,w=>Q .normal a w
 |(i,true)::L,a,w=>∃o v,ops[i]?=some o/\YieldsIf P ops S o v a/\jc P ops S Q L (a.put o.dst v) w
 |(i,false)::L,a,w=>wpOp P ops Q i (λa' w'=>(zh L=true->S w')/\jc P ops S Q L a' w') a w
section
variable {P:Program} {ops:Array Oper} {S:World->Prop} {Q:Exit->Act->World->Prop}
theorem F5:∀(L:List (Nat×Bool)) (a:Act) (w:World),jc P ops (λ_=>True) Q L a w->wpOps P ops Q (L.map (·.1)) a w
 |[],a,w,h=>h
 |(i,true)::L,a,w,h=>by
  obtain⟨o,v,hi,hy,h⟩:=h;rw[List.map_cons,wpOps_cons];exact hy.wpOp hi trivial (F5 L _ _ h)
 |(i,false)::L,a,w,h=>by
  rw[List.map_cons,wpOps_cons];exact wpOp_mono (λa' w' h'=>F5 L a' w' h'.2) h
theorem TR:∀(L:List (Nat×Bool)) (a:Act) (w:World),Lb L=true->jc P ops (λ_=>True) Q L a w->jc P ops S Q L a w
 |[],a,w,_,h=>h
 |[(i,true)],a,w,hs,h=>by cases hs
 |[(i,false)],a,w,hs,h=>wpOp_mono (λa' w' h'=>⟨λe=>(by cases e),h'.2⟩) h
 |_::_::_,a,w,hs,h=>by cases hs
def oO (P:Program) (ops:Array Oper) (Q:Exit->Act->World->Prop) (S:World->Prop) (dc:Nat):Nat->Array Bool->Act->World->Prop
 |0,listed,a,w=>Region.ready .any ops listed=[]/\Q .normal a w
 |fuel+1,listed,a,w=>
  (Region.ready .any ops listed=[]->Q .normal a w)/\
  ∀i∈Region.ready .any ops listed,wpOp P ops Q i (λa' w'=>((listed.setIfInBounds i true).getD dc false=false->S w')/\oO P ops Q S dc fuel (listed.setIfInBounds i true) a' w') a w
theorem wU {dc:Nat}:∀(fuel:Nat) (listed:Array Bool) (a:Act) (w:World),oO P ops Q S dc fuel listed a w->wpAny P .any ops Q fuel listed a w
 |0,_,_,_,h=>h
 |fuel+1,_,_,_,h=>⟨h.1,λi hi=>wpOp_mono (λa' w' h'=>wU fuel _ a' w' h'.2) (h.2 i hi)⟩
def mS (ops:Array Oper) (listed:Array Bool):Prop:=
 listed.size=ops.size/\∀k ok,ops[k]?=some ok->listed.getD k false=true->∀e∈ok.after,Region.binds .any e=true->listed.getD e.on false=true
theorem mu {j:Nat} {listed:Array Bool} (hc:mS ops listed) (hj:j∈Region.ready .any ops listed):mS ops (listed.setIfInBounds j true):=by
 refine⟨by simp[hc.1],λk ok hk hl e he hb=>?_⟩;by_cases hkj:k=j
 ·subst hkj;obtain⟨_,o,ho,hall⟩:=mem_ready.1 hj;rw[hk] at ho;cases ho;exact getD_set_true (hall e he hb)
 ·rw[getD_set_ne false (Ne.symm hkj)] at hl;exact getD_set_true (hc.2 k ok hk hl e he hb)
def needs (ops:Array Oper):Nat->Nat->Nat->Bool
 |0,j,i=>Nat.beq j i
 |n+1,j,i=>Nat.beq j i||(match ops[j]? with|some o=>o.after.any (λe=>Region.binds .any e&&Nat.beq e.on i)||o.after.any (λe=>Region.binds .any e&&needs ops n e.on i)|none=>false)
theorem Lc {i:Nat} {listed:Array Bool} (hc:mS ops listed):∀(n j:Nat),needs ops n j i=true->listed.getD j false=true->listed.getD i false=true
 |0,j,h,hj=>by rw[<-Nat.eq_of_beq_eq_true h];exact hj
 |n+1,j,h,hj=>by
  unfold needs at h;rw[Bool.or_eq_true] at h;rcases h with h|h
  ·rw[<-Nat.eq_of_beq_eq_true h];exact hj
  ·cases ho:ops[j]? with
   |none=>rw[ho] at h;cases h
   |some o=>
    rw[ho] at h;simp only[Bool.or_eq_true] at h;rcases h with h|h
    ·obtain⟨e,he,hb⟩:=Array.any_eq_true'.1 h;rw[Bool.and_eq_true] at hb;rw[<-Nat.eq_of_beq_eq_true hb.2];exact hc.2 j o ho hj e he hb.1
    ·obtain⟨e,he,hb⟩:=Array.any_eq_true'.1 h;rw[Bool.and_eq_true] at hb;exact Lc hc n e.on hb.2 (hc.2 j o ho hj e he hb.1)
theorem Bl {dc i:Nat} {oi:Oper} {v:Value} (hi:ops[i]?=some oi) (hsel:∀(j:Nat) (o:Oper) cs b,ops[j]?=some o->o.op≠ .select cs b)
  (hQ:∀c a w,Q (.panic c) (a.put oi.dst v) w->Q (.panic c) a w) (hne:i≠dc) (TT:∀listed,mS ops listed->listed.getD dc false=true->listed.getD i false=true):
  ∀(fuel:Nat) (listed:Array Bool) (a:Act) (w:World),mS ops listed->
   (∀j oj,ops[j]?=some oj->j≠i->listed.getD j true=false->(∀e∈oj.after,Region.binds .any e=true->e.on≠i)->oi.apart ops oj=true)->
   i∈Region.ready .any ops listed->YieldsIf P ops S oi v a->S w->
   oO P ops Q S dc fuel (listed.setIfInBounds i true) (a.put oi.dst v) w->oO P ops Q S dc (fuel+1) listed a w:=by
 intro fuel
 induction fuel with
 |zero=>
  intro listed a w dP _ hr hy hS H;refine⟨λh=>(by rw[h] at hr;cases hr),λj hj=>?_⟩;by_cases hji:j=i
  ·subst hji;exact hy.wpOp hi hS ⟨λ_=>hS,H⟩
  ·have:=ready_mono hj hji;rw[H.1] at this;cases this
 |succ fuel ih=>
  intro listed a w dP hfree hr hy hS H;refine⟨λh=>(by rw[h] at hr;cases hr),λj hj=>?_⟩;by_cases hji:j=i
  ·subst hji;exact hy.wpOp hi hS ⟨λ_=>hS,H⟩
  ·have h1:=H.2 j (ready_mono hj hji);obtain⟨Ld,oj,F6,hall⟩:=mem_ready.1 hj;have Le:=(mem_ready.1 hr).1;have hif:∀l:Array Bool,l.getD i true=false->l.getD i false=false:=λl h=>by
    rcases Nat.lt_or_ge i l.size with h'|h'
    ·simp[h'] at h⊢;exact h
    ·simp[Array.getElem?_eq_none h']
   have hnot:∀e∈oj.after,Region.binds .any e=true->e.on≠i:=λe he hb heq=>by
    have h1:=hall e he hb;rw[heq,hif _ Le] at h1;cases h1
   have Lf:=mu dP hj;have TU: (listed.setIfInBounds j true).getD i true=false:=by rw[getD_set_ne true hji];exact Le
   have TV: (listed.setIfInBounds j true).getD dc false=false:=by
    cases hb: (listed.setIfInBounds j true).getD dc false with
    |false=>rfl
    |true=>have:=TT _ Lf hb;rw[hif _ TU] at this;cases this
   have Lg: ((listed.setIfInBounds i true).setIfInBounds j true).getD dc false=false:=by
    rw[Array.setIfInBounds_comm _ _ (Ne.symm hji),getD_set_ne false hne];exact TV
   have h2:=wpOp_putIf F6 (hfree j oj F6 hji Ld hnot) (λcs b=>hsel i oi cs b hi) (λcs b=>hsel j oj cs b F6) hQ hy h1;have TW:∀k ok,ops[k]?=some ok->k≠i->(listed.setIfInBounds j true).getD k true=false->
     (∀e∈ok.after,Region.binds .any e=true->e.on≠i)->oi.apart ops ok=true:=λk ok hk hki hun hno=>by
    refine hfree k ok hk hki ?_ hno;by_cases hjk:j=k
    ·subst hjk;exact Ld
    ·rw[getD_set_ne true hjk] at hun;exact hun
   refine wpOp_mono (λa' w' h3=>⟨λ_=>h3.2.1 Lg,ih (listed.setIfInBounds j true) a' w' Lf TW (ready_mono hr (Ne.symm hji)) h3.1 (h3.2.1 Lg) ?_⟩) h2;rw[Array.setIfInBounds_comm _ _ hji];exact h3.2.2
def DV (n:Nat):List (Nat×Bool)->Nat
 |[]=>n
 |[(i,b)]=>if b then n else i
 |_::x::L=>DV n (x::L)
def rD (ops:Array Oper) (dc:Nat):Nat->Array Bool->List (Nat×Bool)->Bool
 |_,listed,[]=>(Region.ready .any ops listed).isEmpty
 |0,_,_::_=>false
 |n+1,listed,(i,true)::L=>!Nat.beq i dc&&(Nat.ble ops.size dc||needs ops 8 dc i)&&Region.free .any ops listed i&&(Region.ready .any ops listed).contains i&&rD ops dc n (listed.setIfInBounds i true) L
 |n+1,listed,(i,false)::L=>(Region.ready .any ops listed==[i])&&((listed.setIfInBounds i true).getD dc false||zh L)&&rD ops dc n (listed.setIfInBounds i true) L
def Lh (ops:Array Oper) (n:Nat) (listed:Array Bool) (L:List (Nat×Bool)):Bool:=rD ops (DV ops.size L) n listed L
theorem DX {dc i:Nat} (h: (Nat.ble ops.size dc||needs ops 8 dc i)=true):∀listed,mS ops listed->listed.getD dc false=true->listed.getD i false=true:=λlisted hc hj=>by
 rw[Bool.or_eq_true] at h;rcases h with h|h
 ·have:=Nat.le_of_ble_eq_true h;rw[Array.getD_eq_getD_getElem?,Array.getElem?_eq_none (by rw[hc.1];exact this)] at hj;cases hj
 ·exact Lc hc _ _ h hj
theorem wV (hs:Region.noSelect ops=true) (hQ:∀c a d v w,Q (.panic c) (Act.put a d v) w->Q (.panic c) a w) {dc:Nat}:
  ∀(n:Nat) (listed:Array Bool) (L:List (Nat×Bool)) (a:Act) (w:World),rD ops dc n listed L=true->mS ops listed->(zh L=true->S w)->jc P ops S Q L a w->
   oO P ops Q S dc n listed a w
 |n,listed,[],a,w,hc,_,_,h=>by
  have hr:Region.ready .any ops listed=[]:=by simpa[rD] using hc
  cases n with
  |zero=>exact⟨hr,h⟩
  |succ n=>exact⟨λ_=>h,by rw[hr];simp⟩
 |0,_,x::L,a,w,hc,_,_,_=>by cases hc
 |n+1,listed,(i,true)::L,a,w,hc,dP,hS,h=>by
  simp only[rD,Bool.and_eq_true] at hc;obtain⟨⟨⟨⟨h1,h2⟩,h3⟩,h4⟩,h5⟩:=hc;obtain⟨o,v,hi,hy,h⟩:=h;have hr:i∈Region.ready .any ops listed:=by simpa using h4
  have Li:=hS rfl;refine Bl hi (Region.noSelect_spec hs) (λc a w hq=>hQ c a _ _ w hq) (λe=>by subst e;simp at h1) (DX h2) n listed a w dP (Region.free_spec hi h3) hr hy Li (wV hs hQ n _ L _ w h5 (mu dP hr) (λ_=>Li) h)
 |n+1,listed,(i,false)::L,a,w,hc,dP,hS,h=>by
  simp only[rD,Bool.and_eq_true,beq_iff_eq] at hc;obtain⟨⟨h1,h2⟩,h3⟩:=hc;have hr:i∈Region.ready .any ops listed:=by rw[h1];simp
  refine⟨λh0=>(by rw[h0] at h1;cases h1),λj hj=>?_⟩;rw[h1,List.mem_singleton] at hj;subst hj;refine wpOp_mono (λa' w' h'=>⟨λhb=>h'.1 ?_,wV hs hQ n _ L a' w' h3 (mu dP hr) h'.1 h'.2⟩) h;rw[hb] at h2;simpa using h2
theorem TX {o:Oper} {v v':Value} {a:Act} {w:World} (h:YieldsIf P ops S o v a) (h':YieldsIf P ops S o v' a) (hS:S w):v=v':=by
 rcases h with⟨h1,h2⟩|⟨h1,rfl⟩<;>rcases h' with⟨h3,h4⟩|⟨h3,rfl⟩
 ·have:=(h2 w hS).symm.trans (h4 w hS);simpa using this
 ·rw[h1] at h3;cases h3
 ·rw[h1] at h3;cases h3
 ·rfl
def Bm (ops:Array Oper) (dc i:Nat) (L:List (Nat×Bool)) (i':Nat) (L':List (Nat×Bool)):Nat->Array Bool->List Nat->Bool
 |0,_,_=>false
 |n+1,listed,[]=>(Region.ready .any ops listed==[i,i'])&&((listed.setIfInBounds i true).getD dc false||zh L)&&rD ops dc n (listed.setIfInBounds i true) L&&((listed.setIfInBounds i' true).getD dc false||zh L')&&rD ops dc n (listed.setIfInBounds i' true) L'
 |n+1,listed,j::A=>!Nat.beq j dc&&(Nat.ble ops.size dc||needs ops 8 dc j)&&Region.free .any ops listed j&&(Region.ready .any ops listed).contains j&&Bm ops dc i L i' L' n (listed.setIfInBounds j true) A
def Lj (ops:Array Oper) (i:Nat) (L:List (Nat×Bool)) (i':Nat) (L':List (Nat×Bool)) (n:Nat) (listed:Array Bool) (A:List Nat):Bool:=Bm ops (DV ops.size ((i,false)::L)) i L i' L' n listed A
theorem Lk (hs:Region.noSelect ops=true) (hQ:∀c a d v w,Q (.panic c) (Act.put a d v) w->Q (.panic c) a w) {dc i i':Nat} {L L':List (Nat×Bool)}:
  ∀(n:Nat) (listed:Array Bool) (A:List Nat) (a:Act) (w:World),Bm ops dc i L i' L' n listed A=true->mS ops listed->S w->
   jc P ops S Q (A.map (λj=>(j,true))++(i,false)::L) a w->jc P ops S Q (A.map (λj=>(j,true))++(i',false)::L') a w->oO P ops Q S dc n listed a w
 |0,_,_,_,_,hc,_,_,_,_=>by cases hc
 |n+1,listed,[],a,w,hc,dP,hS,h,h'=>by
  simp only[Bm,Bool.and_eq_true,beq_iff_eq] at hc;obtain⟨⟨⟨⟨h0,h1⟩,h2⟩,h3⟩,h4⟩:=hc;have hr:i∈Region.ready .any ops listed:=by rw[h0];simp
  have hr':i'∈Region.ready .any ops listed:=by rw[h0];simp
  refine⟨λwW=>(by rw[wW] at h0;cases h0),λj hj=>?_⟩;rw[h0] at hj;simp only[List.mem_cons,List.not_mem_nil,or_false] at hj;rcases hj with rfl|rfl
  ·exact wpOp_mono (λa' w' g=>⟨λhb=>g.1 (by rw[hb] at h1;simpa using h1),wV hs hQ n _ L a' w' h2 (mu dP hr) g.1 g.2⟩) h
  ·exact wpOp_mono (λa' w' g=>⟨λhb=>g.1 (by rw[hb] at h3;simpa using h3),wV hs hQ n _ L' a' w' h4 (mu dP hr') g.1 g.2⟩) h'
 |n+1,listed,j::A,a,w,hc,dP,hS,h,h'=>by
  simp only[Bm,Bool.and_eq_true] at hc;obtain⟨⟨⟨⟨h1,h2⟩,h3⟩,h4⟩,h5⟩:=hc;obtain⟨o,v,hi,hy,h⟩:=h;obtain⟨o',v',hi',hy',h'⟩:=h';rw[hi] at hi';cases hi';obtain rfl:=TX hy hy' hS;have hr:j∈Region.ready .any ops listed:=by simpa using h4
  exact Bl hi (Region.noSelect_spec hs) (λc a w hq=>hQ c a _ _ w hq) (λe=>by subst e;simp at h1) (DX h2) n listed a w dP (Region.free_spec hi h3) hr hy hS (Lk hs hQ n _ A _ w h5 (mu dP hr) hS h h')
theorem Bn (ops:Array Oper):mS ops (Array.replicate ops.size false):=⟨by simp,λk ok _ hl=>by
 rcases Nat.lt_or_ge k ops.size with h|h
 ·simp[h] at hl
 ·simp[Array.getElem?_eq_none,h] at hl⟩
end
abbrev Env:=List (Nat×Value)
def look:Env->Nat->Option Value
 |[],_=>none
 |(t,v)::e,u=>bif Nat.beq t u then some v else look e u
structure gX (N:Nat) (env:Env) (a:Act):Prop where
 size:a.tmps.size=N
 defers:a.defers=[]
 slot:∀t v,look env t=some v->a.tmps[t]?=some v
def pU (d:Option Nat) (v:Value) (env:Env):Env:=match d with|some t=>(t,v)::env|none=>env
def qw (N:Nat) (d:Option Nat):Bool:=match d with|some t=>Nat.blt t N|none=>true
theorem gX.put {N:Nat} {env:Env} {a:Act} (h:gX N env a) {d:Option Nat} (hd:qw N d=true) (v:Value):gX N (pU d v env) (a.put d v):=by
 cases d with
 |none=>exact⟨h.size,h.defers,h.slot⟩
 |some t=>
  have ht:t<N:=by
     have h:t+1<=N:=by simpa[qw,Nat.blt] using hd
     omega
  refine⟨by simp[Act.put,h.size],h.defers,λu x hx=>?_⟩;simp only[pU,look] at hx;simp only[Act.put,Array.getElem?_setIfInBounds];by_cases e:t=u
  ·subst e;simp at hx;simp[h.size,ht,hx]
  ·have e':Nat.beq t u=false:=by
    cases hb:Nat.beq t u with
    |false=>rfl
    |true=>exact absurd (Nat.eq_of_beq_eq_true hb) e
   rw[e'] at hx;simp only[cond_false] at hx;simp[e,h.slot u x hx]
def ev (env:Env):Operand->Option Value
 | .tmp t=>look env t
 | .const v=>some v
 | .func g=>some (.func (.func g) #[] #[])
 | .global g=>some (.pointer (some ⟨g,0,none⟩))
theorem gX.ev {N:Nat} {env:Env} {a:Act} (h:gX N env a) {x:Operand} {v:Value} (hx:ev env x=some v):a.eval x=v:=by
 cases x with
 |tmp t=>
  have:=h.slot t v hx;simp only[Act.eval];rw[Array.getD_eq_getD_getElem?,this];rfl
 |const u=>simpa[K.ev,Act.eval] using hx
 |func g=>simpa[K.ev,Act.eval] using hx
 |global g=>simpa[K.ev,Act.eval] using hx
def nx (env:Env):List Operand->Option (List Value)
 |[]=>some []
 |x::l=>match ev env x,nx env l with|some v,some r=>some (v::r)|_,_=>none
theorem gX.nx {N:Nat} {env:Env} {a:Act} (h:gX N env a):∀{l:List Operand} {vs:List Value},nx env l=some vs->l.map a.eval=vs
 |[],vs,hl=>by simpa[K.nx] using hl
 |x::l,vs,hl=>by
  simp only[K.nx] at hl;cases hx:K.ev env x with
  |none=>rw[hx] at hl;cases hl
  |some v=>
   cases hr:K.nx env l with
   |none=>rw[hx,hr] at hl;cases hl
   |some r=>
    rw[hx,hr] at hl;simp only[Option.some.injEq] at hl;subst hl;simp[h.ev hx,h.nx hr]
def Sub (env' env:Env):Prop:=∀t v,look env' t=some v->look env t=some v
theorem aY (env:Env):Sub [] env:=λt v h=>by cases h
theorem aV (t:Nat) {u v:Value} {env' env:Env} (hl:look env t=some u) (hv:u=v) (h:Sub env' env):Sub ((t,v)::env') env:=by
 subst hv;intro s x hx;simp only[look] at hx;cases hb:Nat.beq t s with
 |true=>
  rw[hb] at hx;simp only[cond_true,Option.some.injEq] at hx;rw[<-Nat.eq_of_beq_eq_true hb,hl,hx]
 |false=>rw[hb] at hx;exact h s x hx
theorem Sub.refl (env:Env):Sub env env:=λ_ _ h=>h
theorem gX.sub {N:Nat} {env env':Env} {a:Act} (h:gX N env a) (hs:Sub env' env):gX N env' a:=⟨h.size,h.defers,λt v ht=>h.slot t v (hs t v ht)⟩
def Run (P:Program) (f:FuncId) (N:Nat) (k:List Item) (env:Env) (w:World) (R:Value->World->Prop):Prop:=
 ∀a,gX N env a->mq P f k a w R
def bM (P:Program) (N:Nat) (Q:Exit->Act->World->Prop) (ops:Array Oper) (S:World->Prop) (L:List (Nat×Bool)) (env:Env) (w:World):Prop:=
 ∀a,gX N env a->jc P ops S Q L a w
abbrev aj (P:Program) (f:FuncId) (N:Nat) (k:List Item) (R:Value->World->Prop) (ops:Array Oper) (S:World->Prop) (L:List (Nat×Bool)) (env:Env) (w:World):Prop:=
 bM P N (pT P f k R) ops S L env w
section
variable {P:Program} {f:FuncId} {N:Nat} {k:List Item} {env:Env} {w:World} {R:Value->World->Prop}
theorem Run.sub {env':Env} (hs:Sub env' env) (h:Run P f N k env' w R):Run P f N k env w R:=λa ha=>h a (ha.sub hs)
theorem run_seq {c x y:Code} (hc:c=.seq x y) (h:Run P f N (.code x:: .code y::k) env w R):Run P f N (.code c::k) env w R:=λa ha=>by
 subst hc;exact mq.step (λ_=>step_seq) (h a ha)
theorem TY {c x:Code} {id:Nat} (hc:c=.block id x) (h:Run P f N (.code x:: .inBlock id::k) env w R):Run P f N (.code c::k) env w R:=λa ha=>by
 subst hc;exact mq.step (λ_=>step_block) (h a ha)
theorem bR {id:Nat} (h:Run P f N k env w R):Run P f N (.inBlock id::k) env w R:=λa ha=>
 mq.step (λ_=>step_inBlock) (h a ha)
theorem T0 {c:Code} (hc:c=.skip) (h:Run P f N k env w R):Run P f N (.code c::k) env w R:=λa ha=>by
 subst hc;exact mq.step (λ_=>step_skip) (h a ha)
theorem T1 {c:Code} {id:Nat} {k':List Item} (hc:c=.exit id) (hk:exitTo id k=some k') (h:Run P f N k' env w R):Run P f N (.code c::k) env w R:=λa ha=>by
 subst hc;exact mq.step (λ_=>step_exit hk) (h a ha)
theorem Bo {c x y:Code} {o:Operand} {b:Bool} (hc:c=.cond o x y) (hv:ev env o=some (.bool b))
  (ht:b=true->Run P f N (.code x::k) env w R) (hf:b=false->Run P f N (.code y::k) env w R):Run P f N (.code c::k) env w R:=λa ha=>by
 subst hc;have:=ha.ev hv;cases b with
 |true=>exact mq.step (λ_=>step_cond this) (ht rfl a ha)
 |false=>exact mq.step (λ_=>step_cond this) (hf rfl a ha)
theorem T2 {c x y:Code} {o:Operand} {p:Prop} [Decidable p] (hc:c=.cond o x y) (hv:ev env o=some (.bool (decide p)))
  (ht:p->Run P f N (.code x::k) env w R) (hf:¬p->Run P f N (.code y::k) env w R):Run P f N (.code c::k) env w R:=
 Bo hc hv (λh=>ht (of_decide_eq_true h)) (λh=>hf (of_decide_eq_false h))
theorem T3 {c body:Code} {ι:Type} (I:ι->World->Prop) (e:ι->Env) (m:ι->Nat) (cE:ι) (hc:c=.loop body)
  (hs:Sub (e cE) env) (h0:I cE w)
  (hr:∀x w,I x w->(∀y w',I y w'->m y<m x->Run P f N (.inLoop body::k) (e y) w' R)->Run P f N (.code body:: .inLoop body::k) (e x) w R):
  Run P f N (.code c::k) env w R:=by
 subst hc;have main:∀n x w,m x<=n->I x w->Run P f N (.inLoop body::k) (e x) w R:=by
  intro n
  induction n with
  |zero=>
   intro x w hm hI a ha;exact mq.step (λ_=>step_inLoop) (hr x w hI (λy w' hy hlt=>by omega) a ha)
  |succ n ih=>
   intro x w hm hI a ha;exact mq.step (λ_=>step_inLoop) (hr x w hI (λy w' hy hlt=>ih y w' (by omega) hy) a ha)
 intro a ha;exact mq.step (λ_=>step_loop) (hr cE w h0 (λy w' hy hlt=>main (m y) y w' (Nat.le_refl _) hy) a (ha.sub hs))
theorem T4 {c:Code} {fn:Func} {t:Nat} {v:Value} (hc:c=.ret) (hf:P.funcs[f]?=some fn) (hres:fn.results=#[.tmp t]) (hv:look env t=some v)
  (hR:R v w):Run P f N (.code c::k) env w R:=λa ha=>by
 subst hc;refine wT hf ha.defers ?_ hR;have:=ha.slot t v hv;simp only[results,hres];simp[this,Sem.run,pure,Array.getD_eq_getD_getElem?]
theorem zi {c:Code} {fn:Func} (hc:c=.ret) (hf:P.funcs[f]?=some fn) (hres:fn.results=#[])
  (hR:R (.tuple #[]) w):Run P f N (.code c::k) env w R:=λa ha=>by
 subst hc;refine wT hf ha.defers ?_ hR;simp[results,hres,Sem.run,pure]
theorem ny {c:Code} {fn:Func} {t u:Nat} {v x:Value} (hc:c=.ret) (hf:P.funcs[f]?=some fn) (hres:fn.results=#[.tmp t,.tmp u]) (hv:look env t=some v) (hx:look env u=some x)
  (hR:R (.tuple #[v,x]) w):Run P f N (.code c::k) env w R:=λa ha=>by
 subst hc;refine wT hf ha.defers ?_ hR;rw[results_tmp2 hres];have h1:=ha.slot t v hv;have h2:=ha.slot u x hx;simp[h1,h2,Array.getD_eq_getD_getElem?]
theorem T5 {c:Code} {id:Nat} {ops:Array Oper} (L:List (Nat×Bool)) (hc:c=.region id ops false)
  (hL:L.map (·.1)=List.range ops.size) (h:aj P f N k R ops (λ_=>True) L env w):Run P f N (.code c::k) env w R:=λa ha=>by
 subst hc;exact wS (wp_region (by rw[<-hL];exact F5 L a w (h a ha)))
theorem T6 {c:Code} {id:Nat} {ops:Array Oper} (S:World->Prop) (L:List (Nat×Bool)) (hm:P.follows .mixedOrders=true) (hc:c=.region id ops true)
  (hn:Region.noSelect ops=true) (hk:Lh ops ops.size (Array.replicate ops.size false) L=true) (hS:S {w with drawn:=w.drawn+1})
  (h:aj P f N k R ops S L env {w with drawn:=w.drawn+1}):Run P f N (.code c::k) env w R:=λa ha=>by
 subst hc;exact wS (wp_region_any hm (wU _ _ _ _ (wV hn (λc a d v w h=>h.elim) _ _ L a _ hk (Bn ops) (λ_=>hS) (h a ha))))
theorem T7 {c:Code} {id:Nat} {ops:Array Oper} (S:World->Prop) (A:List Nat) (i:Nat) (L:List (Nat×Bool)) (i':Nat) (L':List (Nat×Bool)) (hm:P.follows .mixedOrders=true) (hc:c=.region id ops true)
  (hn:Region.noSelect ops=true) (hk:Lj ops i L i' L' ops.size (Array.replicate ops.size false) A=true) (hS:S {w with drawn:=w.drawn+1})
  (h:aj P f N k R ops S (A.map (λj=>(j,true))++(i,false)::L) env {w with drawn:=w.drawn+1}) (h':aj P f N k R ops S (A.map (λj=>(j,true))++(i',false)::L') env {w with drawn:=w.drawn+1}):Run P f N (.code c::k) env w R:=λa ha=>by
 subst hc;exact wS (wp_region_any hm (wU _ _ _ _ (Lk hn (λc a d v w h=>h.elim) _ _ A a _ hk (Bn ops) hS (h a ha) (h' a ha))))
def cv (ops:Array Oper) (i:Nat):Option (Option Tmp×Op×Option (Nat×Bool)):=(ops[i]?).map λo=>(o.dst,o.op,o.guard)
def Ll (ops:Array Oper) (i:Nat):Option Tmp:=(ops[i]?).bind (·.dst)
def cL (P:Program) (N:Nat) (env:Env) (op:Op) (w:World) (v:Value):Prop:=
 ∀a,gX N env a->∀o:Oper,o.op=op->(execOp a.eval o).run P w=.ok (.value v) w
variable {Q:Exit->Act->World->Prop} {ops:Array Oper} {S:World->Prop} {i:Nat} {L:List (Nat×Bool)} {d:Option Nat} {op:Op} {v:Value}
theorem aj.free (hs:Lb L=true) (h:bM P N Q ops (λ_=>True) L env w):bM P N Q ops S L env w:=λa ha=>TR L a w hs (h a ha)
theorem aj.nil (h:Run P f N k env w R):aj P f N k R ops S [] env w:=λa ha=>h a ha
theorem rE {g:Option (Nat×Bool)} (h:cv ops i=some (d,op,g)):∃o,ops[i]?=some o/\o.dst=d/\o.op=op/\o.guard=g:=by
 unfold cv at h;cases ho:ops[i]? with
 |none=>rw[ho] at h;cases h
 |some o=>
  rw[ho] at h;simp only[Option.map_some,Option.some.injEq,Prod.mk.injEq] at h;exact⟨o,rfl,h⟩
def fT (ops:Array Oper) (env:Env):Option (Nat×Bool)->Option Bool
 |none=>some true
 |some (j,want)=>match Ll ops j with
  |none=>some false
  |some t=>match look env t with
   |none=>none
   |some (.bool b)=>some (b==want)
   |some _=>some false
theorem gX.wanted {a:Act} (ha:gX N env a) {o:Oper} {b:Bool} (h:fT ops env o.guard=some b):Region.wanted o (yielded ops a.tmps)=b:=by
 unfold Region.wanted;cases hg:o.guard with
 |none=>rw[hg] at h;simpa[fT] using h
 |some p=>
  obtain⟨j,want⟩:=p;rw[hg] at h;simp only[fT,Ll] at h;simp only[yielded];cases hj: (ops[j]?).bind (·.dst) with
  |none=>rw[hj] at h;simp only[Option.some.injEq] at h;subst h;rfl
  |some t=>
   rw[hj] at h;simp only at h;cases hl:look env t with
   |none=>rw[hl] at h;cases h
   |some u=>
    rw[hl] at h;have:=ha.slot t u hl;simp only[Option.bind_some,this];cases u<;>simp only[Option.some.injEq] at h<;>subst h<;>first|rfl|(rename_i x;cases x<;>cases want<;>rfl)
theorem aj.yield {g:Option (Nat×Bool)} (hop:cv ops i=some (d,op,g)) (hw:fT ops env g=some true) (hd:qw N d=true)
  (hy:∀w',S w'->cL P N env op w' v) (h:bM P N Q ops S L (pU d v env) w):bM P N Q ops S ((i,true)::L) env w:=λa ha=>by
 obtain⟨o,ho,rfl,rfl,rfl⟩:=rE hop;exact⟨o,v,ho,.inl ⟨ha.wanted hw,λw' hS=>hy w' hS a ha o rfl⟩,h _ (ha.put hd v)⟩
theorem aj.pass {g:Option (Nat×Bool)} (hop:cv ops i=some (d,op,g)) (hw:fT ops env g=some false) (hd:qw N d=true)
  (h:bM P N Q ops S L (pU d undef env) w):bM P N Q ops S ((i,true)::L) env w:=λa ha=>by
 obtain⟨o,ho,rfl,rfl,rfl⟩:=rE hop;exact⟨o,undef,ho,.inr ⟨ha.wanted hw,rfl⟩,h _ (ha.put hd undef)⟩
theorem aj.T8 {g:Option (Nat×Bool)} (hop:cv ops i=some (d,op,g)) (hw:fT ops env g=some false) (hd:qw N d=true) (hS:S w)
  (h:bM P N Q ops S L (pU d undef env) w):bM P N Q ops S ((i,false)::L) env w:=λa ha=>by
 obtain⟨o,ho,rfl,rfl,rfl⟩:=rE hop;simp only[jc,wpOp,ho,ha.wanted hw,Bool.false_eq_true,if_false];exact⟨λ_=>hS,h _ (ha.put hd undef)⟩
def gY (P:Program) (N:Nat) (env:Env) (op:Op) (w:World) (T:Value->World->Prop):Prop:=
 ∀a,gX N env a->∀o:Oper,o.op=op->∃v w',((execOp a.eval o).run P w=.ok (.value v) w'\/((execOp a.eval o).run P w=.ok .skip w'/\v=undef))/\T v w'
theorem aj.act {g:Option (Nat×Bool)} {T:Value->World->Prop} (hop:cv ops i=some (d,op,g)) (hw:fT ops env g=some true) (hd:qw N d=true)
  (hy:gY P N env op w T) (h:∀v w',T v w'->S w'/\bM P N Q ops S L (pU d v env) w'):bM P N Q ops S ((i,false)::L) env w:=λa ha=>by
 obtain⟨o,ho,rfl,rfl,rfl⟩:=rE hop;simp only[jc,wpOp,ho,ha.wanted hw,if_true];obtain⟨v,w',hrun,hT⟩:=hy a ha o rfl;left;unfold Oper.wp;obtain⟨h1,h2⟩:=h v w' hT;rcases hrun with hrun|⟨hrun,rfl⟩
 ·rw[hrun];exact⟨λ_=>h1,h2 _ (ha.put hd v)⟩
 ·rw[hrun];exact⟨λ_=>h1,h2 _ (ha.put hd undef)⟩
theorem cL.acts (h:cL P N env op w v):gY P N env op w (λx w'=>x=v/\w'=w):=λa ha o ho=>⟨v,w,.inl (h a ha o ho),rfl,rfl⟩
theorem aj.now {g:Option (Nat×Bool)} (hop:cv ops i=some (d,op,g)) (hw:fT ops env g=some true) (hd:qw N d=true) (hS:S w)
  (hy:cL P N env op w v) (h:bM P N Q ops S L (pU d v env) w):bM P N Q ops S ((i,false)::L) env w:=
 aj.act hop hw hd hy.acts (by rintro _ _ ⟨rfl,rfl⟩;exact⟨hS,h⟩)
def Enters (P:Program) (N:Nat) (env:Env) (op:Op) (w:World) (g:FuncId) (args:Array Value):Prop:=
 ∀a,gX N env a->∀o:Oper,o.op=op->(execOp a.eval o).run P w=.ok (.enter g args) w
theorem aj.call {gO:Option (Nat×Bool)} {g:FuncId} {args:Array Value} {T:Value->World->Prop} (hop:cv ops i=some (d,op,gO)) (hw:fT ops env gO=some true) (hd:qw N d=true)
  (hy:Enters P N env op w g args) (hc:Calls P g args w (bI T))
  (h:∀v w',T v w'->S w'/\bM P N Q ops S L (pU d v env) w'):bM P N Q ops S ((i,false)::L) env w:=λa ha=>by
 obtain⟨o,ho,rfl,rfl,rfl⟩:=rE hop;simp only[jc,wpOp,ho,ha.wanted hw,if_true];left;unfold Oper.wp;rw[hy a ha o rfl];simp only[Oper.upon];refine hc.mono λe w' he=>?_;obtain⟨v,rfl,hT⟩:=he;obtain⟨h1,h2⟩:=h v w' hT;exact⟨λ_=>h1,h2 _ (ha.put hd v)⟩
end
theorem T9 {P:Program} {f:FuncId} {fn:Func} {c:Code} {args:List Value} {N:Nat} {env:Env} {w:World} {R:Value->World->Prop}
  (hf:P.funcs[f]?=some fn) (hb:fn.body=some c) (hN:fn.ntmps=N) (hsz:Nat.ble args.length N=true) (he:∀t v,look env t=some v->args[t]?=some v)
  (h:Run P f N [.code c] env w R):Calls P f args.toArray w (bI R):=by
 refine TN hf hb (h _ ?_);have:args.length<=N:=Nat.le_of_ble_eq_true hsz;refine⟨by simp[hN];omega,rfl,λt v ht=>?_⟩;have h1:=he t v ht;have h2:t<args.length:=by
  rcases Nat.lt_or_ge t args.length with h|h
  ·exact h
  ·rw[List.getElem?_eq_none h] at h1;cases h1
 simp only;rw[Array.getElem?_append_left (by simpa using h2)];simpa using h1
def zj:Nat->List Value->Env
 |_,[]=>[]
 |n,v::l=>(n,v)::zj (n+1) l
theorem F7:∀(l:List Value) (n t:Nat) (v:Value),look (zj n l) t=some v->n<=t/\l[t-n]?=some v
 |[],_,_,_,h=>by cases h
 |x::l,n,t,v,h=>by
  simp only[zj,look] at h;cases hb:Nat.beq n t with
  |true=>
   rw[hb] at h;have e:=Nat.eq_of_beq_eq_true hb;subst e;simp at h;simp[h]
  |false=>
   rw[hb] at h;have hne:n≠t:=λe=>by subst e;simp at hb
   obtain⟨h1,h2⟩:=F7 l (n+1) t v h;refine⟨by omega,?_⟩;have:t-n=(t-(n+1))+1:=by omega
   rw[this];simpa using h2
theorem T_ {P:Program} {f:FuncId} {fn:Func} {c:Code} (args:List Value) {N:Nat} {w:World} {R:Value->World->Prop}
  (hf:P.funcs[f]?=some fn) (hb:fn.body=some c) (hN:fn.ntmps=N) (hsz:Nat.ble args.length N=true)
  (h:Run P f N [.code c] (zj 0 args) w R):Calls P f args.toArray w (bI R):=
 T9 hf hb hN hsz (λt v ht=>by simpa using(F7 args 0 t v ht).2) h
section
variable {P:Program} {N:Nat} {env:Env} {w:World} {x y z:Operand} {t u:TypeId} {k:IntKind} {m n:Int} {v:Value}
theorem mk' {op:Op} (h:∀ρ:Operand->Value,(∀x v,ev env x=some v->ρ x=v)->∀o:Oper,o.op=op->(execOp ρ o).run P w=.ok (.value v) w):cL P N env op w v:=
 λa ha o ho=>h a.eval (λx v hx=>ha.ev hx) o ho
theorem rF (hx:ev env x=some v):cL P N env (.move x) w v:=mk' λρ hρ o ho=>by
 unfold execOp;rw[ho];simp[hρ _ _ hx,go_sem]
theorem n_ (hx:ev env x=some v):cL P N env (.assign x) w v:=mk' λρ hρ o ho=>by
 unfold execOp;rw[ho];simp[hρ _ _ hx,go_sem]
theorem wX {v₁:Value} (hx:ev env x=some (.bool true)) (hy:ev env y=some v₁):
  cL P N env (.pick x y z) w v₁:=mk' λρ hρ o ho=>by
 unfold execOp;rw[ho];simp[hρ _ _ hx,hρ _ _ hy,go_sem,asBool]
theorem tE {v₂:Value} (hx:ev env x=some (.bool false)) (hz:ev env z=some v₂):
  cL P N env (.pick x y z) w v₂:=mk' λρ hρ o ho=>by
 unfold execOp;rw[ho];simp[hρ _ _ hx,hρ _ _ hz,go_sem,asBool]
theorem Ga {a:Addr} (hx:ev env x=some (.pointer (some a))):cL P N env (.nilCheck x) w (.pointer (some a)):=mk' λρ hρ o ho=>by
 unfold execOp;rw[ho];simp[hρ _ _ hx,go_sem]
theorem Ua {vs:Array Value} {i:Nat} (hx:ev env x=some (.tuple vs)) (hv:vs[i]?=some v):cL P N env (.extract x i) w v:=mk' λρ hρ o ho=>by
 unfold execOp;rw[ho];simp[hρ _ _ hx,go_sem,Instr.extract,hv]
theorem oa (op:BinOp) (t:TypeId) (x y:Operand) (k j:IntKind) (m n:Int) (w:World):
  (eqGuard op t x y (.int k m) (.int j n)).run P w=.ok () w:=by
 unfold eqGuard;simp[go_sem]
theorem val_add (hx:ev env x=some (.int k m)) (hy:ev env y=some (.int k n)):cL P N env (.binOp .add t x y u) w (.int k (k.wrap (m+n))):=mk' λρ hρ o ho=>by
 unfold execOp;rw[ho];simp[hρ _ _ hx,hρ _ _ hy,go_sem,oa,binOp,Op.intArith]
theorem val_sub (hx:ev env x=some (.int k m)) (hy:ev env y=some (.int k n)):cL P N env (.binOp .sub t x y u) w (.int k (k.wrap (m-n))):=mk' λρ hρ o ho=>by
 unfold execOp;rw[ho];simp[hρ _ _ hx,hρ _ _ hy,go_sem,oa,binOp,Op.intArith]
theorem val_mul (hx:ev env x=some (.int k m)) (hy:ev env y=some (.int k n)):cL P N env (.binOp .mul t x y u) w (.int k (k.wrap (m*n))):=mk' λρ hρ o ho=>by
 unfold execOp;rw[ho];simp[hρ _ _ hx,hρ _ _ hy,go_sem,oa,binOp,Op.intArith]
theorem Ub (hx:ev env x=some (.int k m)) (hy:ev env y=some (.int k n)) (hn:n≠0):cL P N env (.binOp .quo t x y u) w (.int k (k.wrap (m.tdiv n))):=mk' λρ hρ o ho=>by
 unfold execOp;rw[ho];simp[hρ _ _ hx,hρ _ _ hy,go_sem,oa,binOp,Op.intDiv,hn]
theorem Uc (hx:ev env x=some (.int k m)) (hy:ev env y=some (.int k n)) (hn:n≠0):cL P N env (.binOp .rem t x y u) w (.int k (m.tmod n)):=mk' λρ hρ o ho=>by
 unfold execOp;rw[ho];simp[hρ _ _ hx,hρ _ _ hy,go_sem,oa,binOp,Op.intDiv,hn]
theorem eO (hx:ev env x=some (.int k m)) (hy:ev env y=some (.int k n)):cL P N env (.binOp .lss t x y u) w (.bool (decide (m<n))):=mk' λρ hρ o ho=>by
 unfold execOp;rw[ho];simp[hρ _ _ hx,hρ _ _ hy,go_sem,oa,binOp,Op.intCmp]
theorem nA (hx:ev env x=some (.int k m)) (hy:ev env y=some (.int k n)):cL P N env (.binOp .leq t x y u) w (.bool (decide (m<=n))):=mk' λρ hρ o ho=>by
 unfold execOp;rw[ho];simp[hρ _ _ hx,hρ _ _ hy,go_sem,oa,binOp,Op.intCmp]
theorem fH (hx:ev env x=some (.int k m)) (hy:ev env y=some (.int k n)):cL P N env (.binOp .gtr t x y u) w (.bool (decide (n<m))):=mk' λρ hρ o ho=>by
 unfold execOp;rw[ho];simp[hρ _ _ hx,hρ _ _ hy,go_sem,oa,binOp,Op.intCmp]
theorem fB (hx:ev env x=some (.int k m)) (hy:ev env y=some (.int k n)):cL P N env (.binOp .geq t x y u) w (.bool (decide (n<=m))):=mk' λρ hρ o ho=>by
 unfold execOp;rw[ho];simp[hρ _ _ hx,hρ _ _ hy,go_sem,oa,binOp,Op.intCmp]
theorem fQ (hx:ev env x=some (.int k m)) (hy:ev env y=some (.int k n)):cL P N env (.binOp .eql t x y u) w (.bool (decide (m=n))):=mk' λρ hρ o ho=>by
 unfold execOp;rw[ho];simp[hρ _ _ hx,hρ _ _ hy,go_sem,oa,binOp,Op.intCmp];rfl
theorem fI (hx:ev env x=some (.int k m)) (hy:ev env y=some (.int k n)):cL P N env (.binOp .neq t x y u) w (.bool (decide (m≠n))):=mk' λρ hρ o ho=>by
 unfold execOp;rw[ho];simp[hρ _ _ hx,hρ _ _ hy,go_sem,oa,binOp,Op.intCmp];by_cases h:m=n<;>simp[h]
def bitsOf (op:BinOp) (k:IntKind) (m n:Int):Int:=
 k.wrap ((match op with
  | .and=>BitVec.ofInt k.bits m&&&BitVec.ofInt k.bits n
  | .or=>BitVec.ofInt k.bits m|||BitVec.ofInt k.bits n
  | .xor=>BitVec.ofInt k.bits m^^^BitVec.ofInt k.bits n
  |_=>BitVec.ofInt k.bits m&&&~~~(BitVec.ofInt k.bits n):BitVec k.bits).toNat)
theorem wY (hx:ev env x=some (.int k m)) (hy:ev env y=some (.int k n)):cL P N env (.binOp .and t x y u) w (.int k (bitsOf .and k m n)):=mk' λρ hρ o ho=>by
 unfold execOp;rw[ho];simp[hρ _ _ hx,hρ _ _ hy,Sem.run_bind,Sem.run_pure,oa,binOp,Op.intBits,bitsOf]
theorem DY (hx:ev env x=some (.int k m)) (hy:ev env y=some (.int k n)):cL P N env (.binOp .xor t x y u) w (.int k (bitsOf .xor k m n)):=mk' λρ hρ o ho=>by
 unfold execOp;rw[ho];simp[hρ _ _ hx,hρ _ _ hy,Sem.run_bind,Sem.run_pure,oa,binOp,Op.intBits,bitsOf]
theorem aa2 {j:IntKind} (hx:ev env x=some (.int k m)) (hy:ev env y=some (.int j n)) (hn:0<=n):
  cL P N env (.binOp .shl t x y u) w (.int k (k.wrap (m*2^min n.toNat k.bits))):=mk' λρ hρ o ho=>by
 have:¬n<0:=by omega
 unfold execOp;rw[ho];simp[hρ _ _ hx,hρ _ _ hy,Sem.run_bind,Sem.run_pure,oa,binOp,Op.shift,this]
theorem oc {j:IntKind} (hx:ev env x=some (.int k m)) (hy:ev env y=some (.int j n)) (hn:0<=n):
  cL P N env (.binOp .shr t x y u) w (.int k (m.fdiv (2^min n.toNat k.bits))):=mk' λρ hρ o ho=>by
 have:¬n<0:=by omega
 unfold execOp;rw[ho];simp[hρ _ _ hx,hρ _ _ hy,Sem.run_bind,Sem.run_pure,oa,binOp,Op.shift,this]
theorem ey {b:Bool} (hx:ev env x=some (.bool b)):cL P N env (.unOp .not t x) w (.bool (!b)):=mk' λρ hρ o ho=>by
 unfold execOp;rw[ho];simp[hρ _ _ hx,go_sem,Op.unary]
theorem DZ {p:Prop} [Decidable p] (hx:ev env x=some (.bool (decide p))):cL P N env (.unOp .not t x) w (.bool (decide (¬p))):=mk' λρ hρ o ho=>by
 unfold execOp;rw[ho];simp[hρ _ _ hx,go_sem,Op.unary]
theorem tF {j:IntKind} (hx:ev env x=some (.int j m)) (ht:∃d,P.underlying t=some d) (hu:P.underlying u=some (.int k)):cL P N env (.convert t u x) w (.int k (k.wrap m)):=mk' λρ hρ o ho=>by
 obtain⟨d,hd⟩:=ht;unfold execOp;rw[ho];simp[hρ _ _ hx,go_sem,convert,run_underlying hd,run_underlying hu,Conv.intToInt]
theorem wZ {b:Option Addr} {c l:Nat} {e:TypeId} (hx:ev env x=some (.slice b l c)) (ht:P.underlying t=some (.slice e)):
  cL P N env (.call {callee:=.builtin .len,args:=#[x],argTypes:=#[t]}) w (.int .i64 l):=mk' λρ hρ o ho=>by
 unfold execOp;rw[ho];simp[hρ _ _ hx,go_sem,resolve,invoke,builtin,Builtin.len_,run_underlying ht,goInt]
theorem nB {g:FuncId} {xs:Array Operand} {ts:Array TypeId} {vs:List Value} {cap:Array Value} {w:World}
  (lE:∀args w,(callFunc g args).run P w=.ok (.enter g args) w) (hx:ev env x=some (.func (.func g) #[] cap)) (hargs:nx env xs.toList=some vs):
  Enters P N env (.call {callee:=.value x,args:=xs,argTypes:=ts}) w g (vs++cap.toList).toArray:=λa ha o ho=>by
 have h1:xs.map a.eval=vs.toArray:=by
  rw[<-ha.nx hargs,<-List.map_toArray]
 unfold execOp;rw[ho];simp only[resolve,Deferred.ofValue,ha.ev hx,h1,Sem.run_bind,Sem.run_pure,Result.andThen_ok,invoke];rw[lE];simp
end
theorem wrap_i64 {n:Int} (h1:-9223372036854775808<=n) (h2:n<=9223372036854775807):IntKind.i64.wrap n=n:=IntWalk.i64_in n ⟨h1,h2⟩
theorem wrap_u64 {n:Int} (h1:0<=n) (h2:n<=18446744073709551615):IntKind.u64.wrap n=n:=by
 have h:IntKind.u64.wrap n=n%18446744073709551616:=by simp[IntKind.wrap,IntKind.signed,IntKind.bits]
 rw[h];exact Int.emod_eq_of_lt h1 (by omega)
theorem eq_int {k:IntKind} {a b:Int} (h:a=b):Value.int k a=Value.int k b:=by rw[h]
section
variable {P:Program} {N:Nat} {env:Env} {w:World} {x y:Operand} {t u:TypeId} {m n:Int}
theorem gZ (hx:ev env x=some (.int .i64 m)) (hy:ev env y=some (.int .i64 n)) (h1:-9223372036854775808<=m+n) (h2:m+n<=9223372036854775807):
  cL P N env (.binOp .add t x y u) w (.int .i64 (m+n)):=by
 have:=val_add (P:=P) (N:=N) (w:=w) (t:=t) (u:=u) hx hy;rwa [wrap_i64 h1 h2] at this
theorem eD (hx:ev env x=some (.int .i64 m)) (hy:ev env y=some (.int .i64 n)) (h1:-9223372036854775808<=m-n) (h2:m-n<=9223372036854775807):
  cL P N env (.binOp .sub t x y u) w (.int .i64 (m-n)):=by
 have:=val_sub (P:=P) (N:=N) (w:=w) (t:=t) (u:=u) hx hy;rwa [wrap_i64 h1 h2] at this
theorem w_ (hx:ev env x=some (.int .i64 m)) (hy:ev env y=some (.int .i64 n)) (h1:-9223372036854775808<=m*n) (h2:m*n<=9223372036854775807):
  cL P N env (.binOp .mul t x y u) w (.int .i64 (m*n)):=by
 have:=val_mul (P:=P) (N:=N) (w:=w) (t:=t) (u:=u) hx hy;rwa [wrap_i64 h1 h2] at this
theorem Gb (hx:ev env x=some (.int .i64 m)) (hy:ev env y=some (.int .i64 n)) (h0:0<=m) (h1:1<=n) (h2:m<=9223372036854775807):
  cL P N env (.binOp .quo t x y u) w (.int .i64 (m/n)):=by
 have:=Ub (P:=P) (N:=N) (w:=w) (t:=t) (u:=u) hx hy (by omega);have h3:m/n<=m:=Int.ediv_le_self _ h0;have h4:0<=m/n:=Int.ediv_nonneg h0 (by omega);rwa [Int.tdiv_eq_ediv_of_nonneg h0,wrap_i64 (by omega) (by omega)] at this
theorem Gc (hx:ev env x=some (.int .i64 m)) (hy:ev env y=some (.int .i64 n)) (h0:0<=m) (h1:1<=n):
  cL P N env (.binOp .rem t x y u) w (.int .i64 (m%n)):=by
 have:=Uc (P:=P) (N:=N) (w:=w) (t:=t) (u:=u) hx hy (by omega);rwa [Int.tmod_eq_emod_of_nonneg h0] at this
end
section
variable {P:Program} {N:Nat} {env:Env} {w:World} {x y:Operand} {t u:TypeId} {m n r:Int} {k j:IntKind}
theorem Ud (hx:ev env x=some (.int k m)) (hy:ev env y=some (.int j n)) (hn:0<=n) (h:m.fdiv (2^min n.toNat k.bits)=r):cL P N env (.binOp .shr t x y u) w (.int k r):=by
 subst h;exact oc hx hy hn
theorem uT (hx:ev env x=some (.int j m)) (ht:∃d,P.underlying t=some d) (hu:P.underlying u=some (.int k)) (h:k.wrap m=r):cL P N env (.convert t u x) w (.int k r):=by
 subst h;exact tF hx ht hu
end
def lF (w w':World):Prop:=w.drawn<=w'.drawn
theorem lF.refl {w w':World} (h:w'.drawn=w.drawn):lF w w':=Nat.le_of_eq h.symm
theorem lF.succ {w w':World} (h:w'.drawn=w.drawn+1):lF w w':=by unfold lF;omega
theorem lF.trans {w w' w'':World} (h:lF w w') (h':lF w' w''):lF w w'':=Nat.le_trans h h'
structure Ext (A:Nat->Prop) (w w':World):Prop where
 os:w'.os=w.os
 tape:w'.tape=w.tape
 output:w'.output=w.output
 size:w.heap.size<=w'.heap.size
 block:∀b,b<w.heap.size->¬A b->w'.heap[b]?=w.heap[b]?
 drawn:lF w w'
def No:Nat->Prop:=λ_=>False
def One (b:Nat):Nat->Prop:=λx=>x=b
def di (v:Value):Nat->Prop:=λx=>v.ownBlock=some x
section
variable {A A' M M':Nat->Prop} {w w' w'':World}
theorem Ext.refl (A:Nat->Prop) (w:World):Ext A w w:=⟨rfl,rfl,rfl,Nat.le_refl _,λ_ _ _=>rfl,lF.refl rfl⟩
theorem Ext.trans (h:Ext A w w') (h':Ext A' w' w'') (hA:∀b,b<w.heap.size->A' b->A b):Ext A w w'':=
 ⟨h'.os.trans h.os,h'.tape.trans h.tape,h'.output.trans h.output,Nat.le_trans h.size h'.size,λb hb hn=>
  (h'.block b (Nat.lt_of_lt_of_le hb h.size) (λha=>hn (hA b hb ha))).trans (h.block b hb hn),lF.trans h.drawn h'.drawn⟩
theorem Ext.mono (h:Ext A w w') (hA:∀b,b<w.heap.size->A b->A' b):Ext A' w w':=
 ⟨h.os,h.tape,h.output,h.size,λb hb hn=>h.block b hb (λha=>hn (hA b hb ha)),h.drawn⟩
theorem Ext.drew (A:Nat->Prop) (w:World):Ext A w {w with drawn:=w.drawn+1}:=⟨rfl,rfl,rfl,Nat.le_refl _,λ_ _ _=>rfl,lF.succ rfl⟩
theorem Ext.below (h:Ext A w w') {B:Nat} (hB:B<=w.heap.size) (hA:∀b,A b->B<=b):Go.RowKit.Below B w w':=
 ⟨h.os,h.tape,h.output,h.size,λk hk=>h.block k (Nat.lt_of_lt_of_le hk hB) (λha=>by have:=hA k ha;omega)⟩
theorem Ext.sH (h:Ext A w w') {b:Nat} {o:Obj} (hb:w.heap[b]?=some o) (hn:¬A b):w'.heap[b]?=some o:=
 (h.block b (Array.getElem?_eq_some_iff.1 hb).1 hn).trans hb
theorem rG {b:Nat} {o:Obj} (hb:w.heap[b]?=some o):b<w.heap.size:=(Array.getElem?_eq_some_iff.1 hb).1
end
class bu (α:Type) where
 sz:Nat
 agg:Bool
 flat:agg=false->sz=1
 rep:Array Obj->(Nat->Prop)->α->List Value->Prop
 len:∀{h M x vs},rep h M x vs->vs.length=sz
 one:∀{h M x vs},rep h M x vs->∀v∈vs,v.oneCell'=true
 keep:∀{h h' M x vs},rep h M x vs->(∀b,b<h.size->¬M b->h'[b]?=h[b]?)->rep h' M x vs
 sub:∀{h M M' x vs},rep h M x vs->(∀b,b<h.size->M' b->M b)->rep h M' x vs
open bu
instance:bu Int where
 sz:=1
 agg:=false
 flat _:=rfl
 rep _ _ x vs:=vs=[.int .i64 x]
 len h:=by subst h;rfl
 one h:=by subst h;intro v hv;simp at hv;subst hv;rfl
 keep h _:=h
 sub h _:=h
instance:bu Nat where
 sz:=1
 agg:=false
 flat _:=rfl
 rep _ _ x vs:=vs=[.int .i64 (x:Int)]
 len h:=by subst h;rfl
 one h:=by subst h;intro v hv;simp at hv;subst hv;rfl
 keep h _:=h
 sub h _:=h
structure uU (k:IntKind) where
 n:Int
abbrev jk:=uU .u64
instance {k:IntKind}:bu (uU k) where
 sz:=1
 agg:=false
 flat _:=rfl
 rep _ _ x vs:=vs=[.int k x.n]
 len h:=by subst h;rfl
 one h:=by subst h;intro v hv;simp at hv;subst hv;rfl
 keep h _:=h
 sub h _:=h
instance:bu Bool where
 sz:=1
 agg:=false
 flat _:=rfl
 rep _ _ x vs:=vs=[.bool x]
 len h:=by subst h;rfl
 one h:=by subst h;intro v hv;simp at hv;subst hv;rfl
 keep h _:=h
 sub h _:=h
instance:bu ByteArray where
 sz:=1
 agg:=false
 flat _:=rfl
 rep _ _ x vs:=vs=[.string x]/\x.size<=9223372036854775807
 len h:=by obtain⟨rfl,_⟩:=h;rfl
 one h:=by obtain⟨rfl,_⟩:=h;intro v hv;simp at hv;subst hv;rfl
 keep h _:=h
 sub h _:=h
instance {α β:Type} [bu α] [bu β]:bu (α×β) where
 sz:=sz α+sz β
 agg:=true
 flat h:=by cases h
 rep h M x vs:=∃us ws,vs=us++ws/\rep h M x.1 us/\rep h M x.2 ws
 len h:=by obtain⟨us,ws,rfl,h1,h2⟩:=h;rw[List.length_append,len h1,len h2]
 one h:=by
  obtain⟨us,ws,rfl,h1,h2⟩:=h;intro v hv;rcases List.mem_append.1 hv with hv|hv
  ·exact one h1 v hv
  ·exact one h2 v hv
 keep h hk:=by obtain⟨us,ws,e,h1,h2⟩:=h;exact⟨us,ws,e,keep h1 hk,keep h2 hk⟩
 sub h hk:=by obtain⟨us,ws,e,h1,h2⟩:=h;exact⟨us,ws,e,sub h1 hk,sub h2 hk⟩
@[reducible] def bu.via {α β:Type} [bu β] (f:α->β):bu α where
 sz:=sz β
 agg:=true
 flat h:=by cases h
 rep h M x vs:=rep h M (f x) vs
 len h:=len h
 one h:=one h
 keep h hk:=keep h hk
 sub h hk:=sub h hk
def dB (cs:Array Value) (o n:Nat):List Value:=(cs.toList.drop o).take n
def At {α:Type} [bu α] (h:Array Obj) (M:Nat->Prop) (b o:Nat) (x:α):Prop:=
 ¬M b/\∃cs ty eP,h[b]?=some (.cells cs ty eP)/\rep h M x (dB cs o (sz α))
def sI {α:Type} [bu α] (h:Array Obj) (M:Nat->Prop) (b o:Nat) (xs:List α):Prop:=
 ¬M b/\∃cs ty eP,h[b]?=some (.cells cs ty eP)/\o+xs.length*sz α<=cs.size/\∀i (hi:i<xs.length),rep h M xs[i] (dB cs (o+i*sz α) (sz α))
section
variable {α:Type} [bu α] {h h':Array Obj} {M M':Nat->Prop} {b o:Nat} {x:α} {xs:List α}
theorem At.keep (ha:At h M b o x) (hk:∀b,b<h.size->¬M b->h'[b]?=h[b]?):At h' M b o x:=by
 obtain⟨hb,cs,ty,eP,hc,hr⟩:=ha;exact⟨hb,cs,ty,eP,(hk b (Array.getElem?_eq_some_iff.1 hc).1 hb).trans hc,bu.keep hr hk⟩
theorem At.sub (ha:At h M b o x) (hk:∀b,b<h.size->M' b->M b):At h M' b o x:=by
 obtain⟨hb,cs,ty,eP,hc,hr⟩:=ha;exact⟨λh'=>hb (hk b (Array.getElem?_eq_some_iff.1 hc).1 h'),cs,ty,eP,hc,bu.sub hr hk⟩
theorem sI.keep (ha:sI h M b o xs) (hk:∀b,b<h.size->¬M b->h'[b]?=h[b]?):sI h' M b o xs:=by
 obtain⟨hb,cs,ty,eP,hc,hl,hr⟩:=ha;exact⟨hb,cs,ty,eP,(hk b (Array.getElem?_eq_some_iff.1 hc).1 hb).trans hc,hl,λi hi=>bu.keep (hr i hi) hk⟩
theorem sI.sub (ha:sI h M b o xs) (hk:∀b,b<h.size->M' b->M b):sI h M' b o xs:=by
 obtain⟨hb,cs,ty,eP,hc,hl,hr⟩:=ha;exact⟨λh'=>hb (hk b (Array.getElem?_eq_some_iff.1 hc).1 h'),cs,ty,eP,hc,hl,λi hi=>bu.sub (hr i hi) hk⟩
theorem sI.sH (ha:sI h M b o xs) (i:Nat) (hi:i<xs.length):At h M b (o+i*sz α) xs[i]:=by
 obtain⟨hb,cs,ty,eP,hc,hl,hr⟩:=ha;exact⟨hb,cs,ty,eP,hc,hr i hi⟩
end
instance {α:Type} [bu α]:bu (List α) where
 sz:=1
 agg:=false
 flat _:=rfl
 rep h M xs vs:=∃a c,vs=[.slice a xs.length c]/\xs.length<=c/\xs.length<=9223372036854775807/\(xs=[]\/∃b o,a=some ⟨b,o,none⟩/\sI h M b o xs)
 len h:=by obtain⟨a,c,rfl,_⟩:=h;rfl
 one h:=by obtain⟨a,c,rfl,_⟩:=h;intro v hv;simp at hv;subst hv;rfl
 keep h hk:=by
  obtain⟨a,c,e,h1,h2,h3⟩:=h;exact⟨a,c,e,h1,h2,h3.imp id (λ⟨b,o,ha,hs⟩=>⟨b,o,ha,hs.keep hk⟩)⟩
 sub h hk:=by
  obtain⟨a,c,e,h1,h2,h3⟩:=h;exact⟨a,c,e,h1,h2,h3.imp id (λ⟨b,o,ha,hs⟩=>⟨b,o,ha,hs.sub hk⟩)⟩
def aB {α:Type} [bu α] (w:World) (M:Nat->Prop) (x:α) (v:Value):Prop:=∃vs,rep w.heap M x vs/\v=if agg α then .agg vs.toArray else vs.headD undef
def dJ {α:Type} [bu α] (w:World) (M:Nat->Prop) (x:α) (b o:Nat):Prop:=At w.heap M b o x
section
variable {α β:Type} [bu α] [bu β] {w w':World} {A M M':Nat->Prop} {x:α} {xs:List α} {v:Value} {b o:Nat}
theorem aB.ext (hr:aB w M x v) (he:Ext A w w') (hA:∀b,b<w.heap.size->A b->M b):aB w' M x v:=
 let⟨vs,h1,h2⟩:=hr;⟨vs,bu.keep h1 (λb hb hn=>he.block b hb (λha=>hn (hA b hb ha))),h2⟩
theorem aB.sub (hr:aB w M x v) (hA:∀b,b<w.heap.size->M' b->M b):aB w M' x v:=let⟨vs,h1,h2⟩:=hr;⟨vs,bu.sub h1 hA,h2⟩
theorem dJ.ext (hr:dJ w M x b o) (he:Ext A w w') (hA:∀b,b<w.heap.size->A b->M b):dJ w' M x b o:=
 At.keep hr (λb hb hn=>he.block b hb (λha=>hn (hA b hb ha)))
theorem dJ.sub (hr:dJ w M x b o) (hA:∀b,b<w.heap.size->M' b->M b):dJ w M' x b o:=At.sub hr hA
theorem g_ {n:Int}:aB w M n v↔v=.int .i64 n:=⟨λ⟨vs,h,e⟩=>by subst h;exact e,λh=>⟨_,rfl,h⟩⟩
theorem jF {n:Nat}:aB w M n v↔v=.int .i64 (n:Int):=⟨λ⟨vs,h,e⟩=>by subst h;exact e,λh=>⟨_,rfl,h⟩⟩
theorem mw {k:IntKind} {n:uU k}:aB w M n v↔v=.int k n.n:=⟨λ⟨vs,h,e⟩=>by subst h;exact e,λh=>⟨_,rfl,h⟩⟩
theorem tG {n:Bool}:aB w M n v↔v=.bool n:=⟨λ⟨vs,h,e⟩=>by subst h;exact e,λh=>⟨_,rfl,h⟩⟩
theorem jx:aB w M xs v↔∃a c,v=.slice a xs.length c/\xs.length<=c/\xs.length<=9223372036854775807/\(xs=[]\/∃b o,a=some ⟨b,o,none⟩/\sI w.heap M b o xs):=
 ⟨λ⟨vs,h,e⟩=>by obtain⟨a,c,rfl,h⟩:=h;exact⟨a,c,e,h⟩,λ⟨a,c,h⟩=>⟨_,⟨a,c,rfl,h.2⟩,h.1⟩⟩
theorem jX:aB w M ([]:List α) (.slice none 0 0):=jx.2 ⟨none,0,rfl,Nat.le_refl _,by simp,.inl rfl⟩
theorem dJ.fst {p:α×β} (h:dJ w M p b o):dJ w M p.1 b o:=by
 obtain⟨hb,cs,ty,eP,hc,us,ws,he,h1,h2⟩:=h;refine⟨hb,cs,ty,eP,hc,?_⟩;have:dB cs o (sz α)=us:=by
  have e:dB cs o (sz (α×β))=us++ws:=he;have hl:=bu.len h1;have:dB cs o (sz α)=(dB cs o (sz (α×β))).take (sz α):=by
   simp only[dB,List.take_take];congr 1;exact(Nat.min_eq_left (Nat.le_add_right _ _)).symm
  rw[this,e,<-hl,List.take_left]
 rw[this];exact h1
theorem dJ.snd {p:α×β} (h:dJ w M p b o):dJ w M p.2 b (o+sz α):=by
 obtain⟨hb,cs,ty,eP,hc,us,ws,he,h1,h2⟩:=h;refine⟨hb,cs,ty,eP,hc,?_⟩;have:dB cs (o+sz α) (sz β)=ws:=by
  have e:dB cs o (sz (α×β))=us++ws:=he;have hl:=bu.len h1;have:dB cs (o+sz α) (sz β)=(dB cs o (sz (α×β))).drop (sz α):=by
   simp only[dB,List.drop_take,List.drop_drop];congr 1;exact(Nat.add_sub_cancel_left _ _).symm
  rw[this,e,<-hl,List.drop_left]
 rw[this];exact h2
theorem aB.Bp (h:aB w M x v) (hx:bu.agg α=false):rep w.heap M x [v]:=by
 obtain⟨vs,hr,hv⟩:=h;have hl:=bu.len hr;rw[bu.flat hx] at hl;obtain⟨u,rfl⟩:=List.length_eq_one_iff.1 hl;simp only[hx,Bool.false_eq_true,if_false,List.headD_cons] at hv;subst hv;exact hr
theorem zk (h:rep w.heap M x [v]) (hx:bu.agg α=false):aB w M x v:=⟨[v],h,by simp[hx]⟩
def iF (P:Program) (t:TypeId):Option Bool:=match P.underlying t with|some (.struct _)=>some true|some (.array _ _)=>some true|some _=>some false|none=>none
def gR (P:Program) (t:TypeId):Option Nat:=(P.info? t).map (·.size)
variable {P:Program} {N:Nat} {env:Env} {t u:TypeId} {y z:Operand}
theorem qx {b:Bool} (h:iF P t=some b) (w:World): (isAgg t).run P w=.ok b w:=by
 unfold iF at h;split at h<;>rename_i hu<;>first|(simp only[Option.some.injEq] at h;subst h)|cases h
 all_goals simp[isAgg,run_underlying hu]
theorem kF {n:Nat} (h:gR P t=some n) (w:World): (sizeOf t).run P w=.ok n w:=by
 unfold gR at h;cases hi:P.info? t with
 |none=>rw[hi] at h;cases h
 |some i=>rw[hi] at h;simp only[Option.map_some,Option.some.injEq] at h;subst h;simp[sizeOf,typeInfo,hi]
theorem Lm {cs:Array Value} {o n:Nat} {vs:List Value} (h:dB cs o n=vs) (hl:vs.length=n) {j:Nat} (hj:j<n):cs[o+j]?=vs[j]?:=by
 subst h;simp only[dB,List.getElem?_take,List.getElem?_drop,if_pos hj];simp
theorem oP (b o n:Nat): (⟨b,o,none⟩:Addr).add n=⟨b,o+n,none⟩:=by unfold Addr.add;split<;>simp_all
theorem dJ.load (h:dJ w M x b o) (ha:iF P t=some false) (hx:bu.agg α=false) (hy:ev env y=some (.pointer (some ⟨b,o,none⟩))):
  ∃v,aB w M x v/\∀w',w'.heap[b]?=w.heap[b]?->cL P N env (.load t y) w' v:=by
 obtain⟨hb,cs,ty,eP,hc,hr⟩:=h;have h1:sz α=1:=bu.flat hx;obtain⟨v,hv⟩:∃v,dB cs o (sz α)=[v]:=List.length_eq_one_iff.1 (by rw[len hr,h1]);rw[hv] at hr;refine⟨v,⟨[v],hr,by simp[hx]⟩,λw' hw=>mk' λρ hρ fe ho=>?_⟩;rw[<-hw] at hc;have h2:cs[o]?=some v:=by have:=Lm (j:=0) hv (by simp[h1]) (by omega);simpa using this
 unfold execOp;rw[ho];simp[hρ _ _ hy,go_sem,Instr.loadAt,Instr.sureAddr,loadVar,qx ha,World.cell?,hc,h2]
theorem dJ.Bq (h:dJ w M x b o) (ha:iF P t=some true) (hs:gR P t=some (sz α)) (hx:bu.agg α=true) (hy:ev env y=some (.pointer (some ⟨b,o,none⟩))):
  ∃v,aB w M x v/\∀w',w'.heap[b]?=w.heap[b]?->cL P N env (.load t y) w' v:=by
 obtain⟨hb,cs,ty,eP,hc,hr⟩:=h;refine⟨.agg (dB cs o (sz α)).toArray,⟨_,hr,by simp only[hx,if_true]⟩,λw' hw=>mk' λρ hρ fe ho=>?_⟩;rw[<-hw] at hc;have hl:=len hr;have hcells: (loadCells ⟨b,o,none⟩ (sz α)).run P w'=.ok (dB cs o (sz α)).toArray w':=by
  have:=run_loadCells_list (P:=P) w' ⟨b,o,none⟩ (dB cs o (sz α)) (λj v hv=>by
   have hj:j<sz α:=by rw[<-hl];exact(List.getElem?_eq_some_iff.1 hv).1
   rw[oP,cell_of_row w' b (o+j) cs ty eP hc,Lm rfl hl hj,hv])
  rwa [hl] at this
 simp only[loadCells] at hcells;unfold execOp;rw[ho];simp[hρ _ _ hy,go_sem,Instr.loadAt,Instr.sureAddr,loadVar,qx ha,kF hs,loadCells,hcells]
theorem oQ {cs:List Value} {ty:TypeId} {eP:Nat×Nat} (hc:w.heap[b]?=some (.cells cs.toArray ty eP)) (ha:iF P t=some false) (hv:cs[o]?=some v)
  (hy:ev env y=some (.pointer (some ⟨b,o,none⟩))):cL P N env (.load t y) w v:=mk' λρ hρ fe ho=>by
 have h2:cs.toArray[o]?=some v:=by simpa using hv
 unfold execOp;rw[ho];simp[hρ _ _ hy,go_sem,Instr.loadAt,Instr.sureAddr,loadVar,qx ha,World.cell?,hc,h2]
theorem gT {cs:List Value} {ty:TypeId} {eP:Nat×Nat} {n:Nat} {vs:List Value} (hc:w.heap[b]?=some (.cells cs.toArray ty eP)) (ha:iF P t=some true) (hs:gR P t=some n)
  (hv: (cs.drop o).take n=vs) (hl:vs.length=n) (hy:ev env y=some (.pointer (some ⟨b,o,none⟩))):cL P N env (.load t y) w (.agg vs.toArray):=mk' λρ hρ fe ho=>by
 have hcells: (loadCells ⟨b,o,none⟩ n).run P w=.ok vs.toArray w:=by
  have:=run_loadCells_list (P:=P) w ⟨b,o,none⟩ vs (λj u hu=>by
   have hj:j<n:=by rw[<-hl];exact(List.getElem?_eq_some_iff.1 hu).1
   rw[oP,cell_of_row w b (o+j) cs.toArray ty eP hc];rw[<-hu,<-hv,List.getElem?_take,if_pos hj,List.getElem?_drop];simp)
  rwa [hl] at this
 simp only[loadCells] at hcells;unfold execOp;rw[ho];simp[hρ _ _ hy,go_sem,Instr.loadAt,Instr.sureAddr,loadVar,qx ha,kF hs,loadCells,hcells]
def D0 (P:Program) (t:TypeId) (f:Nat):Option Nat:=match P.underlying t with
 |some (.struct fs)=>match fs[f]? with
  |some fl=>match gR P fl.type with|some (_+1)=>some fl.offset|_=>none
  |none=>none
 |_=>none
theorem zl {f off:Nat} (hf:D0 P t f=some off) (hy:ev env y=some (.pointer (some ⟨b,o,none⟩))):
  cL P N env (.fieldAddr t y f) w (.pointer (some ⟨b,o+off,none⟩)):=mk' λρ hρ fe ho=>by
 unfold D0 at hf;split at hf
 ·rename_i fs hu;split at hf
  ·rename_i fl hfl;split at hf
   ·rename_i n hn;simp only[Option.some.injEq] at hf;subst hf;unfold execOp;rw[ho];simp[hρ _ _ hy,go_sem,Instr.fieldAt,run_underlying hu,hfl,Instr.sureAddr,fieldPlace,kF hn,oP]
   ·cases hf
  ·cases hf
 ·cases hf
def jd (P:Program) (t:TypeId):Option (TypeId×Nat):=match P.underlying t with
 |some (.slice e)=>match gR P e with|some n=>some (e,n)|none=>none
 |_=>none
theorem Gd {e n l c:Nat} {k:IntKind} {i:Int} (hf:jd P t=some (e,n)) (hy:ev env y=some (.slice (some ⟨b,o,none⟩) l c)) (hz:ev env z=some (.int k i))
  (h0:0<=i) (h1:i<l):cL P N env (.indexAddr t y z) w (.pointer (some ⟨b,o+i.toNat*n,none⟩)):=mk' λρ hρ fe ho=>by
 unfold jd at hf;split at hf
 ·rename_i e' hu;split at hf
  ·rename_i n' hn;simp only[Option.some.injEq,Prod.mk.injEq] at hf;obtain⟨rfl,rfl⟩:=hf;unfold execOp;rw[ho];simp only[hρ _ _ hy,hρ _ _ hz];simp[go_sem,Instr.indexAt,run_underlying hu,asIntOf,kF hn,h0,h1,oP]
  ·cases hf
 ·cases hf
theorem aB.index (h:aB w M xs v) (hy:ev env y=some v) {e:Nat} {k:IntKind} {i:Int} (hf:jd P t=some (e,sz α)) (hz:ev env z=some (.int k i))
  (h0:0<=i) (h1:i<xs.length):∃b o,dJ w M (xs[i.toNat]'(by omega)) b o/\∀w',cL P N env (.indexAddr t y z) w' (.pointer (some ⟨b,o,none⟩)):=by
 obtain⟨a,c,rfl,hc,hm,hs⟩:=jx.1 h;rcases hs with rfl|⟨b,o,rfl,hs⟩
 ·simp at h1;omega
 ·exact⟨b,o+i.toNat*sz α,hs.sH _ _,λw'=>Gd hf hy hz h0 h1⟩
theorem aB.len (h:aB w M xs v):∃a c,v=.slice a xs.length c:=let⟨a,c,e,_⟩:=jx.1 h;⟨a,c,e⟩
theorem aB.le (h:aB w M xs v):xs.length<=9223372036854775807:=let⟨a,c,_,_,e,_⟩:=jx.1 h;e
theorem aB.bS (h:aB w M xs v) (hy:ev env y=some v) {e:TypeId} (ht:P.underlying t=some (.slice e)):
  ∀w',cL P N env (.call {callee:=.builtin .len,args:=#[y],argTypes:=#[t]}) w' (.int .i64 xs.length):=λw'=>by
 obtain⟨a,c,rfl⟩:=h.len;exact wZ hy ht
theorem aB.one (h:aB w M x v) (hx:bu.agg α=false):v.cells=#[v]/\v.oneCell'=true:=by
 obtain⟨vs,h1,h2⟩:=h;have hl:=bu.len h1;rw[bu.flat hx] at hl;obtain⟨u,rfl⟩:=List.length_eq_one_iff.1 hl;simp only[hx,Bool.false_eq_true,if_false,List.headD_cons] at h2;subst h2;have h3:=bu.one h1 v (by simp);refine⟨?_,h3⟩;cases v<;>first|rfl|simp[Value.oneCell'] at h3
theorem aB.many (h:aB w M x v) (hx:bu.agg α=true):∃vs,v=.agg vs.toArray/\vs.length=sz α/\(∀u∈vs,u.oneCell'=true)/\rep w.heap M x vs:=by
 obtain⟨vs,h1,h2⟩:=h;simp only[hx,if_true] at h2;exact⟨vs,h2,bu.len h1,bu.one h1,h1⟩
end
end Go.K
namespace Go.K
open bu
structure New (w w':World) (o:Obj):Prop where
 ext:Ext No w w'
 at_:w'.heap[w.heap.size]?=some o
 size:w'.heap.size=w.heap.size+1
structure xd (w w':World) (b:Nat) (o:Obj):Prop where
 ext:Ext (One b) w w'
 at_:w'.heap[b]?=some o
 size:w'.heap.size=w.heap.size
theorem tH (w:World) (o:Obj):New w (w.alloc o) o:=
 ⟨⟨rfl,rfl,rfl,by simp,λb hb _=>heap_alloc_old w o hb,lF.refl rfl⟩,heap_alloc_new w o,by simp⟩
theorem uV (w:World) (o:Obj):New w (w.drew.alloc o) o:=
 ⟨⟨rfl,rfl,rfl,by simp,λb hb _=>heap_alloc_old w.drew o hb,lF.succ rfl⟩,heap_alloc_new w.drew o,by simp⟩
theorem Ge {w:World} {b:Nat} {old cs:Array Value} {t:TypeId} {fr:Nat×Nat} (h:w.heap[b]?=some (.cells old t fr)):xd w (w.setRow b cs) b (.cells cs t fr):=
 ⟨⟨rfl,rfl,rfl,by simp[World.setRow],λk _ hk=>setRow_other w b k cs (λe=>hk e),lF.refl rfl⟩,setRow_heap w b old cs t fr h,by simp[World.setRow]⟩
def sJ (P:Program) (t:TypeId):Option (List Value):=((P.info? t).bind (·.zero)).map (·.cells.toList)
section
variable {P:Program} {N:Nat} {env:Env} {w:World} {x y z:Operand} {t u e:TypeId} {v:Value}
theorem Br {l:List Value} (h:sJ P t=some l) (w:World):∃z,(zeroValue t).run P w=.ok z w/\z.cells=l.toArray:=by
 unfold sJ at h;cases hi:P.info? t with
 |none=>rw[hi] at h;cases h
 |some i=>
  rw[hi] at h;cases hz:i.zero with
  |none=>simp[hz] at h
  |some z=>simp[hz] at h;subst h;exact⟨z,by simp[zeroValue,typeInfo,hi,hz],by simp⟩
theorem oT {op:Op} {T:Value->World->Prop} (h:∀ρ:Operand->Value,(∀x v,ev env x=some v->ρ x=v)->∀o:Oper,o.op=op->
  ∃v w',((execOp ρ o).run P w=.ok (.value v) w'\/((execOp ρ o).run P w=.ok .skip w'/\v=undef))/\T v w'):gY P N env op w T:=
 λa ha o ho=>h a.eval (λx v hx=>ha.ev hx) o ho
theorem Ue {l:List Value} (hz:sJ P t=some l):
  gY P N env (.alloc t) w (λv w'=>v=.pointer (some ⟨w.heap.size,0,none⟩)/\New w w' (.cells l.toArray t)):=oT λρ hρ o ho=>by
 obtain⟨j9,h1,h2⟩:=Br hz w;refine⟨_,_,.inl ?_,rfl,tH w _⟩;unfold execOp;rw[ho];simp[go_sem,Instr.alloc,h1,newVar,newRow];exact congrArg (λc=>w.alloc (.cells c t)) h2
theorem Ln {cs:List Value} (hx:ev env x=some v) (hc:v.cells=cs.toArray):
  gY P N env (.box t x) w (λu w'=>u=.pointer (some ⟨w.heap.size,0,none⟩)/\New w w' (.cells cs.toArray t)):=oT λρ hρ o ho=>by
 refine⟨_,_,.inl ?_,rfl,tH w _⟩;unfold execOp;rw[ho];simp[hρ _ _ hx,go_sem,Instr.box,newVar,newRow];exact congrArg (λc=>w.alloc (.cells c t)) hc
theorem Uf {b o n:Nat} {cs vs:List Value} {ty:TypeId} (hs:gR P t=some n) (hv:v.cells=vs.toArray) (hl:vs.length=n) (h1:∀u∈vs,u.oneCell'=true)
  (hb:w.heap[b]?=some (.cells cs.toArray ty (0,0))) (ho:o+n<=cs.length):
  (storeVar t ⟨b,o,none⟩ v).run P w=.ok () (w.setRow b (cs.take o++vs++cs.drop (o+n)).toArray):=by
 have hst:=run_storeCells_at P b o ty vs 0 cs.toArray w hb (by simpa[hl] using ho) h1;simp only[Nat.add_zero,hl] at hst;unfold storeVar;simp[kF hs,hv,hl,hst]
theorem Gf {b o n:Nat} {cs vs:List Value} {ty:TypeId} (hx:ev env x=some (.pointer (some ⟨b,o,none⟩))) (hy:ev env y=some v) (hs:gR P t=some n)
  (hv:v.cells=vs.toArray) (hl:vs.length=n) (h1:∀u∈vs,u.oneCell'=true) (hb:w.heap[b]?=some (.cells cs.toArray ty (0,0))) (ho:o+n<=cs.length):
  gY P N env (.store t x y) w (λu w'=>u=undef/\xd w w' b (.cells (cs.take o++vs++cs.drop (o+n)).toArray ty (0,0))):=oT λρ hρ fe gG=>by
 refine⟨undef,_,.inr ⟨?_,rfl⟩,rfl,Ge hb⟩;unfold execOp;rw[gG];simp only[hρ _ _ hx,hρ _ _ hy,Instr.storeAt,Instr.sureAddr,Sem.run_bind,Sem.run_pure,Result.andThen_ok];rw[Uf hs hv hl h1 hb ho];rfl
theorem Ug {b o:Nat} {cs:List Value} {ty:TypeId} (hx:ev env x=some (.pointer (some ⟨b,o,none⟩))) (hy:ev env y=some v) (hs:gR P t=some 1)
  (hv:v.cells=#[v]) (h1:v.oneCell'=true) (hb:w.heap[b]?=some (.cells cs.toArray ty (0,0))) (ho:o<cs.length):
  gY P N env (.store t x y) w (λu w'=>u=undef/\xd w w' b (.cells (cs.set o v).toArray ty (0,0))):=by
 have h:=Gf (P:=P) (N:=N) (w:=w) (vs:=[v]) (n:=1) hx hy hs (by simpa using hv) rfl (by simpa using h1) hb ho;have e:cs.take o++[v]++cs.drop (o+1)=cs.set o v:=by
  rw[List.set_eq_take_append_cons_drop,if_pos ho];simp
 rwa [e] at h
end
def jG {α:Type} [bu α] (w:World) (M:Nat->Prop) (e:TypeId) (v:Value) (ys:List α):Prop:=
 (v=.slice none 0 0/\ys=[])\/
 ∃g cap cs,v=.slice (some ⟨g,0,none⟩) ys.length cap/\M g/\w.heap[g]?=some (.cells cs e (0,0))/\ys.length<=cap/\cs.size=cap*sz α/\
  ∀i (hi:i<ys.length),rep w.heap M ys[i] (dB cs (i*sz α) (sz α))
section
variable {α:Type} [bu α] {w w':World} {A M M':Nat->Prop} {e:TypeId} {v:Value} {ys zs:List α}
theorem jG.nil:jG w M e (.slice none 0 0) ([]:List α):=.inl ⟨rfl,rfl⟩
theorem jG.ext (h:jG w M e v ys) (he:Ext A w w') (hA:∀b,b<w.heap.size->A b->M b) (hv:∀b,di v b->¬A b):jG w' M e v ys:=by
 rcases h with h|⟨g,cap,cs,Bs,hg,hc,h1,h2,h3⟩
 ·exact .inl h
 ·refine .inr ⟨g,cap,cs,Bs,hg,he.sH hc (hv g (by subst Bs;rfl)),h1,h2,λi hi=>bu.keep (h3 i hi) (λb hb hn=>he.block b hb (λha=>hn (hA b hb ha)))⟩
theorem jG.sub (h:jG w M e v ys) (gU:∀b,b<w.heap.size->M' b->M b) (hv:∀b,di v b->M' b):jG w M' e v ys:=by
 rcases h with h|⟨g,cap,cs,Bs,hg,hc,h1,h2,h3⟩
 ·exact .inl h
 ·exact .inr ⟨g,cap,cs,Bs,hv g (by subst Bs;rfl),hc,h1,h2,λi hi=>bu.sub (h3 i hi) gU⟩
theorem jG.gj (h:jG w M e v ys):∀b,di v b->M b/\b<w.heap.size:=by
 intro b hb;rcases h with⟨rfl,_⟩|⟨g,cap,cs,rfl,hg,hc,_⟩
 ·cases hb
 ·simp only[di,Value.ownBlock,Option.some.injEq] at hb;subst hb;exact⟨hg,rG hc⟩
theorem jG.len (h:jG w M e v ys):∃a c,v=.slice a ys.length c:=by
 rcases h with⟨rfl,rfl⟩|⟨g,cap,cs,rfl,_⟩
 ·exact⟨none,0,rfl⟩
 ·exact⟨_,_,rfl⟩
theorem jG.read (h:jG w M e v ys) (gU:∀b,b<w.heap.size->M' b->M b/\¬di v b) (hl:ys.length<=9223372036854775807):aB w M' ys v:=by
 rcases h with⟨rfl,rfl⟩|⟨g,cap,cs,rfl,hg,hc,h1,h2,h3⟩
 ·exact jX
 ·refine jx.2 ⟨_,cap,rfl,h1,hl,.inr ⟨g,0,rfl,?_⟩⟩;refine⟨λhm=>(gU g (rG hc) hm).2 rfl,cs,e,_,hc,?_,λi hi=>?_⟩
  ·rw[Nat.zero_add,h2];exact Nat.mul_le_mul_right _ h1
  ·rw[Nat.zero_add];exact bu.sub (h3 i hi) (λb hb hm=>(gU b hb hm).1)
theorem qy {cs cs':Array Value} {o o' n:Nat} (h:∀j,j<n->cs[o+j]?=cs'[o'+j]?):dB cs o n=dB cs' o' n:=by
 apply List.ext_getElem?;intro j;simp only[dB,List.getElem?_take,List.getElem?_drop];split
 ·rename_i hj;simpa using h j hj
 ·rfl
variable {P:Program} {N:Nat} {env:Env} {x y:Operand} {t u:TypeId} {s:Value}
def oU (P:Program) (t e n bytes:Nat):Bool:=match P.underlying t,P.info? e with
 |some (.slice e'),some i=>e'==e&&i.size==n&&i.bytes==bytes&&(match i.zero with|some z=>z.cells.size==n|none=>false)
 |_,_=>false
theorem uW {n bytes:Nat} (h:oU P t e n bytes=true):∃i z,P.underlying t=some (.slice e)/\P.info? e=some i/\i.size=n/\i.bytes=bytes/\i.zero=some z/\z.cells.size=n:=by
 unfold oU at h;split at h
 ·rename_i e' i hu hi;simp only[Bool.and_eq_true,beq_iff_eq] at h;obtain⟨⟨⟨rfl,h1⟩,h2⟩,h3⟩:=h;cases hz:i.zero with
  |none=>rw[hz] at h3;cases h3
  |some z=>rw[hz] at h3;exact⟨i,z,hu,hi,h1,h2,hz,by simpa using h3⟩
 ·cases h
theorem Lp {bytes:Nat} (hx:ev env x=some v) (hy:ev env y=some s) (hrow:oU P t e (sz α) bytes=true) (hsz:0<sz α)
  (hown:jG w M e v ys) (hsrc:aB w M zs s) (hlen: (ys.length+zs.length)*bytes<=140737488355328) (h63:ys.length+zs.length<=140737488355328):
  gY P N env (.call {callee:=.builtin .append,args:=#[x,y],argTypes:=#[t,t]}) w (λv' w'=>
   jG w' (λb=>di v' b\/M b) e v' (ys++zs)/\Ext (di v) w w'/\(∀b,di v' b->di v b\/w.heap.size<=b)):=oT λρ hρ fe gG=>by
 obtain⟨i,z,hu,hi,pV,hby,hz,hzs⟩:=uW hrow;obtain⟨a,c,rfl,hcap,hl0,D1⟩:=jx.1 hsrc;have key:∃v' w',(Builtin.append_ #[t,t] fe.type #[v,.slice a zs.length c]).run P w=.ok v' w'/\
   jG w' (λb=>di v' b\/M b) e v' (ys++zs)/\Ext (di v) w w'/\(∀b,di v' b->di v b\/w.heap.size<=b):=by
  by_cases rH:zs=[]
  ·subst rH;refine⟨v,w,?_,?_,Ext.refl _ _,λb hb=> .inl hb⟩
   ·have hf: (Builtin.firstCells i.size 0 (.slice a 0 c)).run P w=.ok #[] w:=by cases a<;>simp[Builtin.firstCells,loadCells,loadCellsFrom]
    rcases hown with⟨rfl,_⟩|⟨g,cap,cs,rfl,hg,hc,h1,h2,h3⟩
    ·simp[Builtin.append_,run_underlying hu,sizeOf,typeInfo,hi,Builtin.lenOf,hf]
    ·simp[Builtin.append_,run_underlying hu,sizeOf,typeInfo,hi,Builtin.lenOf,hf,h1,storeCells]
   ·rw[List.append_nil];exact hown.sub (λb hb h=>h.elim (λho=>(hown.gj b ho).1) id) (λb hb=> .inl hb)
  ·rcases D1 with h|⟨sb,so,rfl,D2,pY,Bt,Bu,hsc,hsl,Bv⟩
   ·exact absurd h rH
   ·have hm0:0<zs.length:=List.length_pos_iff.2 rH;obtain⟨news,Bw⟩:∃news,news=dB pY so (zs.length*sz α):=⟨_,rfl⟩
    have hnl:news.length=zs.length*i.size:=by
     rw[Bw,pV];simp only[dB,List.length_take,List.length_drop,Array.length_toList];omega
    have uX:news.length=zs.length*sz α:=by rw[hnl,pV]
    have mA:∀j,j<zs.length*sz α->news[j]?=pY[so+j]?:=λj hj=>by
     rw[Bw];simp only[dB,List.getElem?_take,if_pos hj,List.getElem?_drop];simp
    have hnews:∀j v,news[j]?=some v->w.cell? ((⟨sb,so,none⟩:Addr).add j)=some v:=λj v hv=>by
     have hj:j<zs.length*sz α:=by rw[<-uX];exact(List.getElem?_eq_some_iff.1 hv).1
     rw[oP,cell_of_row w sb (so+j) pY Bt Bu hsc,<-mA j hj,hv]
    have Bx:∀k (hk:k<zs.length),rep w.heap M zs[k] (dB news.toArray (k*sz α) (sz α)):=λk hk=>by
     have:=Bv k hk;rwa [show dB pY (so+k*sz α) (sz α)=dB news.toArray (k*sz α) (sz α) from qy (λj hj=>by
      have hb:k*sz α+j<zs.length*sz α:=by
       have:=Nat.mul_le_mul_right (sz α) (show k+1<=zs.length from hk);rw[Nat.succ_mul] at this;omega
      rw[show∀m,news.toArray[m]?=news[m]? from λm=>by simp,mA _ hb,Nat.add_assoc])] at this
    have h1c:∀u∈news,u.oneCell'=true:=λu Gg=>by
     obtain⟨j,hj,rfl⟩:=List.mem_iff_getElem.1 Gg;have hjl:j<zs.length*sz α:=by rw[<-uX];exact hj
     have hk:j/sz α<zs.length:=(Nat.div_lt_iff_lt_mul hsz).2 hjl;refine bu.one (Bx (j/sz α) hk) _ ?_;apply List.mem_iff_getElem?.2;refine⟨j%sz α,?_⟩;have hmod:=Nat.mod_lt j hsz;simp only[dB,List.getElem?_take,if_pos hmod,List.getElem?_drop];rw[Nat.mul_comm,Nat.div_add_mod];simp[hj]
    have fresh:∀(olds:List Value) (cap:Nat) (o:Obj),olds.length=ys.length*sz α->(∀k (hk:k<ys.length),rep w.heap M ys[k] (dB olds.toArray (k*sz α) (sz α)))->
      o=.cells (olds.toArray++news.toArray++Builtin.zeroCells z.cells (cap-(ys.length+zs.length))) e (0,0)->ys.length+zs.length<=cap->
      jG (w.drew.alloc o) (λb=>di (.slice (some ⟨w.heap.size,0,none⟩) (ys.length+zs.length) cap) b\/M b) e (.slice (some ⟨w.heap.size,0,none⟩) (ys.length+zs.length) cap) (ys++zs):=by
     intro olds cap o holds xe ho Gh;subst ho;have hnew:=uV w (.cells (olds.toArray++news.toArray++Builtin.zeroCells z.cells (cap-(ys.length+zs.length))) e (0,0));refine .inr ⟨w.heap.size,cap,_,by rw[List.length_append],.inl rfl,hnew.at_,by rw[List.length_append];exact Gh,?_,?_⟩
     ·simp only[Array.size_append,List.size_toArray,size_zeroCells,hzs,holds,uX,<-Nat.add_mul];congr 1;omega
     ·intro k hk;rw[List.length_append] at hk;have hkeep:∀(x:α) (vs:List Value),rep w.heap M x vs->rep (w.drew.alloc (.cells (olds.toArray++news.toArray++Builtin.zeroCells z.cells (cap-(ys.length+zs.length))) e (0,0))).heap
        (λb=>di (.slice (some ⟨w.heap.size,0,none⟩) (ys.length+zs.length) cap) b\/M b) x vs:=λx vs hr=>
       bu.keep (bu.sub hr (λb hb h=>h.elim (λe=>by simp only[di,Value.ownBlock,Option.some.injEq] at e;omega) id)) (λb hb _=>hnew.ext.block b hb (λh=>h))
      by_cases rI:k<ys.length
      ·rw[List.getElem_append_left rI];have:=xe k rI;rw[show dB olds.toArray (k*sz α) (sz α)=dB (olds.toArray++news.toArray++Builtin.zeroCells z.cells (cap-(ys.length+zs.length))) (k*sz α) (sz α) from qy (λj hj=>by
        have hb:k*sz α+j<ys.length*sz α:=by
         have:=Nat.mul_le_mul_right (sz α) (show k+1<=ys.length from rI);rw[Nat.succ_mul] at this;omega
        rw[Array.append_assoc,Array.getElem?_append_left (by simpa[holds] using hb)])] at this
       exact hkeep _ _ this
      ·rw[List.getElem_append_right (by omega)];have uY:k-ys.length<zs.length:=by omega
       have:=Bx (k-ys.length) uY;rw[show dB news.toArray ((k-ys.length)*sz α) (sz α)=dB (olds.toArray++news.toArray++Builtin.zeroCells z.cells (cap-(ys.length+zs.length))) (k*sz α) (sz α) from qy (λj hj=>by
        have hb: (k-ys.length)*sz α+j<zs.length*sz α:=by
         have:=Nat.mul_le_mul_right (sz α) (show k-ys.length+1<=zs.length from uY);rw[Nat.succ_mul] at this;omega
        have he:k*sz α=ys.length*sz α+(k-ys.length)*sz α:=by rw[<-Nat.add_mul];congr 1;omega
        rw[Array.getElem?_append_left (by simp only[Array.size_append,List.size_toArray,holds,uX];omega),Array.getElem?_append_right (by simp only[List.size_toArray,holds];omega)];congr 1;simp only[List.size_toArray,holds];omega)] at this
       exact hkeep _ _ this
    rcases hown with⟨rfl,rfl⟩|⟨g,cap,cs,rfl,hg,hc,h1,h2,h3⟩
    ·have hr:=run_append_nil (P:=P) w t fe.type e i z hu hi hz ⟨sb,so,none⟩ zs.length c news hnl hnews hm0 (by omega)
      (by rw[hby];simp only[List.length_nil,Nat.zero_add] at hlen;omega)
     have hfr:=fresh [] (grownCap w zs.length 0 e) _ (by simp) (λk hk=>by simp at hk) rfl (by simpa using grownCap_ge w zs.length 0 e);simp only[List.length_nil,Nat.zero_add,List.nil_append] at hfr;refine⟨_,_,hr,?_,?_,?_⟩
     ·simpa using hfr
     ·exact(uV w _).ext.mono (λb hb h=>h.elim)
     ·intro b hb;simp only[di,Value.ownBlock,Option.some.injEq] at hb;exact .inr (by omega)
    ·have Gi: (dB cs 0 (ys.length*sz α)).length=ys.length*sz α:=by
      have:=Nat.mul_le_mul_right (sz α) h1;simp only[dB,List.length_take,List.length_drop,Array.length_toList];omega
     have Lq:∀j,j<ys.length*sz α->(dB cs 0 (ys.length*sz α))[j]?=cs[j]?:=λj hj=>by
      simp only[dB,List.getElem?_take,if_pos hj,List.getElem?_drop];simp
     have xe:∀k (hk:k<ys.length),rep w.heap M ys[k] (dB (dB cs 0 (ys.length*sz α)).toArray (k*sz α) (sz α)):=λk hk=>by
      have:=h3 k hk;rwa [show dB cs (k*sz α) (sz α)=dB (dB cs 0 (ys.length*sz α)).toArray (k*sz α) (sz α) from qy (λj hj=>by
       have hb:k*sz α+j<ys.length*sz α:=by
        have:=Nat.mul_le_mul_right (sz α) (show k+1<=ys.length from hk);rw[Nat.succ_mul] at this;omega
       rw[show∀m,(dB cs 0 (ys.length*sz α)).toArray[m]?=(dB cs 0 (ys.length*sz α))[m]? from λm=>by simp,Lq _ hb])] at this
     by_cases hroom:ys.length+zs.length<=cap
     ·have hbound:ys.length*i.size+news.length<=cs.size:=by
       rw[hnl,pV,h2,<-Nat.add_mul];exact Nat.mul_le_mul_right _ hroom
      have hr:=run_append_room (P:=P) w t fe.type e i hu hi g ys.length cap cs hc ⟨sb,so,none⟩ zs.length c news hnl hnews h1c hroom hbound;have Gj:=Ge (w:=w) (cs:=(cs.toList.take (ys.length*i.size)++news++cs.toList.drop (ys.length*i.size+news.length)).toArray) hc;refine⟨_,_,hr,.inr ⟨g,cap,_,by rw[List.length_append],.inr hg,Gj.at_,by rw[List.length_append];exact hroom,?_,?_⟩,?_,?_⟩
      ·simp only[List.size_toArray,List.length_append,List.length_take,List.length_drop,Array.length_toList,hnl,pV] at hbound⊢;omega
      ·intro k hk;rw[List.length_append] at hk;have hkeep:∀(x:α) (vs:List Value),rep w.heap M x vs->rep (w.setRow g (cs.toList.take (ys.length*i.size)++news++cs.toList.drop (ys.length*i.size+news.length)).toArray).heap
         (λb=>di (.slice (some ⟨g,0,none⟩) (ys.length+zs.length) cap) b\/M b) x vs:=λx vs hr'=>
        bu.keep (bu.sub hr' (λb hb h=>h.elim (λe=>by simp only[di,Value.ownBlock,Option.some.injEq] at e;subst e;exact hg) id))
         (λb hb hn=>Gj.ext.block b hb (λh=>hn (.inr (by rw[show b=g from h];exact hg))))
       rw[pV] at hbound;by_cases rI:k<ys.length
       ·rw[List.getElem_append_left rI];have:=h3 k rI;rw[show dB cs (k*sz α) (sz α)=dB (cs.toList.take (ys.length*i.size)++news++cs.toList.drop (ys.length*i.size+news.length)).toArray (k*sz α) (sz α) from qy (λj hj=>by
         have hb:k*sz α+j<ys.length*sz α:=by
          have:=Nat.mul_le_mul_right (sz α) (show k+1<=ys.length from rI);rw[Nat.succ_mul] at this;omega
         conv=>rhs;rw[List.getElem?_toArray,List.append_assoc,List.getElem?_append_left (by simp only[List.length_take,Array.length_toList,pV];omega),List.getElem?_take,if_pos (by rw[pV];exact hb)]
         simp)] at this
        exact hkeep _ _ this
       ·rw[List.getElem_append_right (by omega)];have uY:k-ys.length<zs.length:=by omega
        have:=Bx (k-ys.length) uY;rw[show dB news.toArray ((k-ys.length)*sz α) (sz α)=dB (cs.toList.take (ys.length*i.size)++news++cs.toList.drop (ys.length*i.size+news.length)).toArray (k*sz α) (sz α) from qy (λj hj=>by
         have hb: (k-ys.length)*sz α+j<zs.length*sz α:=by
          have:=Nat.mul_le_mul_right (sz α) (show k-ys.length+1<=zs.length from uY);rw[Nat.succ_mul] at this;omega
         have he:k*sz α=ys.length*sz α+(k-ys.length)*sz α:=by rw[<-Nat.add_mul];congr 1;omega
         have lG: (cs.toList.take (ys.length*i.size)).length=ys.length*sz α:=by simp only[List.length_take,Array.length_toList,pV];omega
         rw[show∀m,news.toArray[m]?=news[m]? from λm=>by simp,show∀(l:List Value) m,l.toArray[m]?=l[m]? from λl m=>by simp,List.getElem?_append_left (by rw[List.length_append,lG];omega),List.getElem?_append_right (by rw[lG];omega),lG];congr 1;omega)] at this
        exact hkeep _ _ this
      ·exact Gj.ext.mono (λb hb h=>by rw[show b=g from h];rfl)
      ·intro b hb;exact .inl hb
     ·have holds:∀j v,(dB cs 0 (ys.length*sz α))[j]?=some v->w.cell? ((⟨g,0,none⟩:Addr).add j)=some v:=λj v hv=>by
       have hj:j<ys.length*sz α:=by rw[<-Gi];exact(List.getElem?_eq_some_iff.1 hv).1
       rw[oP,cell_of_row w g (0+j) cs e (0,0) hc,Nat.zero_add,<-Lq j hj,hv]
      have hr:=run_append_grow (P:=P) w t fe.type e i z hu hi hz ⟨g,0,none⟩ ys.length cap (dB cs 0 (ys.length*sz α)) (by rw[pV];exact Gi) holds ⟨sb,so,none⟩ zs.length c news hnl hnews (by omega) (by omega)
       (growslice_fits (by omega) (by rw[hby];exact hlen))
      have hfr:=fresh _ (grownCap w (ys.length+zs.length) cap e) _ Gi xe rfl (grownCap_ge w _ _ e);refine⟨_,_,hr,hfr,?_,?_⟩
      ·exact(uV w _).ext.mono (λb hb h=>h.elim)
      ·intro b hb;simp only[di,Value.ownBlock,Option.some.injEq] at hb;exact .inr (by omega)
 obtain⟨v',w',hrun,hpost⟩:=key;refine⟨v',w',.inl ?_,hpost⟩;unfold execOp;rw[gG];simp[hρ _ _ hx,hρ _ _ hy,resolve,invoke,builtin,hrun]
end
def cl:Code->Code| .seq a _=>a| .cond _ a _=>a| .block _ b=>b| .loop b=>b| .scope b=>b|c=>c
def aH:Code->Code| .seq _ b=>b| .cond _ _ b=>b|c=>c
def dF:Code->Array Oper| .region _ ops _=>ops|_=>#[]
def bZ (fn:Func):Code:=match fn.body with|some c=>c|none=> .skip
section
variable {P:Program} {f:FuncId} {N:Nat} {k:List Item} {env:Env} {w w':World} {R:Value->World->Prop} {Q:Exit->Act->World->Prop}
variable {ops:Array Oper} {S:World->Prop} {i t:Nat} {L:List (Nat×Bool)} {op:Op} {v:Value} {x y z:Operand} {g:Option (Nat×Bool)}
theorem eT (hop:cv ops i=some (some t,op,g)) (hw:fT ops env g=some true) (ht:Nat.blt t N=true)
 (hy:∀w',S w'->cL P N env op w' v) (h:bM P N Q ops S L ((t,v)::env) w):bM P N Q ops S ((i,true)::L) env w:=aj.yield hop hw ht hy h
theorem Uh (hop:cv ops i=some (some t,op,g)) (hw:fT ops env g=some false) (ht:Nat.blt t N=true)
 (h:bM P N Q ops S L ((t,undef)::env) w):bM P N Q ops S ((i,true)::L) env w:=aj.pass hop hw ht h
theorem dz (hop:cv ops i=some (some t,op,g)) (hw:fT ops env g=some false) (ht:Nat.blt t N=true) (hS:S w)
 (h:bM P N Q ops S L ((t,undef)::env) w):bM P N Q ops S ((i,false)::L) env w:=aj.T8 hop hw ht hS h
theorem jl (hop:cv ops i=some (some t,op,g)) (hw:fT ops env g=some true) (ht:Nat.blt t N=true) (hS:S w)
 (hy:cL P N env op w v) (h:bM P N Q ops S L ((t,v)::env) w):bM P N Q ops S ((i,false)::L) env w:=aj.now hop hw ht hS hy h
theorem fU {T:Value->World->Prop} (hop:cv ops i=some (some t,op,g)) (hw:fT ops env g=some true) (ht:Nat.blt t N=true)
 (hy:gY P N env op w T) (h:∀v w',T v w'->S w'/\bM P N Q ops S L ((t,v)::env) w'):bM P N Q ops S ((i,false)::L) env w:=aj.act hop hw ht hy h
theorem od {T:Value->World->Prop} (hop:cv ops i=some (none,op,g)) (hw:fT ops env g=some true)
 (hy:gY P N env op w T) (h:∀v w',T v w'->S w'/\bM P N Q ops S L env w'):bM P N Q ops S ((i,false)::L) env w:=aj.act hop hw rfl hy h
theorem iG {gf:FuncId} {args:Array Value} {T:Value->World->Prop} (hop:cv ops i=some (some t,op,g)) (hw:fT ops env g=some true) (ht:Nat.blt t N=true)
 (hy:Enters P N env op w gf args) (hc:Calls P gf args w (bI T))
 (h:∀v w',T v w'->S w'/\bM P N Q ops S L ((t,v)::env) w'):bM P N Q ops S ((i,false)::L) env w:=aj.call hop hw ht hy hc h
theorem Ui {gf:FuncId} {args:Array Value} {T:Value->World->Prop} (hop:cv ops i=some (none,op,g)) (hw:fT ops env g=some true)
 (hy:Enters P N env op w gf args) (hc:Calls P gf args w (bI T))
 (h:∀v w',T v w'->S w'/\bM P N Q ops S L env w'):bM P N Q ops S ((i,false)::L) env w:=aj.call hop hw rfl hy hc h
theorem de {gf:FuncId} {xs:Array Operand} {ts:Array TypeId} {vs:List Value}
  (lE:∀args w,(callFunc gf args).run P w=.ok (.enter gf args) w) (hargs:nx env xs.toList=some vs):
  Enters P N env (.call {callee:=.value (.func gf),args:=xs,argTypes:=ts}) w gf vs.toArray:=by
 have:=nB (P:=P) (N:=N) (env:=env) (w:=w) (ts:=ts) (x:=.func gf) (cap:=#[]) lE rfl hargs;simpa using this
theorem kp {env':Env} (hs:Sub env' env) (h:Run P f N k env' w R):Run P f N k env w R:=h.sub hs
end
def aA (C:Nat->Nat):Nat->Prop:=λb=>C b≠0
def aL (w:World) (C:Nat->Nat):Prop:=∀b,C b≠0->b<w.heap.size
structure ay (I:List Nat) (w:World) (C:Nat->Nat) (w':World) (aQ:Nat->Nat):Prop where
 ext:Ext (λb=>C b∈I) w w'
 col:∀b,b<w.heap.size->aQ b=C b
structure cD (w:World) (C:Nat->Nat) (j b:Nat) (o:Obj):Prop where
 col:C b=j
 at_:w.heap[b]?=some o
structure bh {α:Type} [bu α] (w:World) (C:Nat->Nat) (j:Nat) (e:TypeId) (v:Value) (ys:List α):Prop where
 own:jG w (aA C) e v ys
 col:∀b,di v b->C b=j
section
variable {α β:Type} [bu α] [bu β] {w w' w'':World} {I J:List Nat} {C aQ Bz D:Nat->Nat} {x:α} {xs ys zs:List α} {v u:Value} {b o j n:Nat} {gj Lr:Obj} {e:TypeId}
theorem ay.refl (I:List Nat) (w:World) (C:Nat->Nat):ay I w C w C:=⟨Ext.refl _ _,λ_ _=>rfl⟩
theorem ay.qz (h:aL w C):ay [] w C w C:=ay.refl [] w C
theorem ay.trans (h:ay I w C w' aQ) (h':ay J w' aQ w'' Bz) (hJ:∀c∈J,c∈I):ay I w C w'' Bz:=
 ⟨h.ext.trans h'.ext (λb hb hc=>by rw[h.col b hb] at hc;exact hJ _ hc),λb hb=>(h'.col b (Nat.lt_of_lt_of_le hb h.ext.size)).trans (h.col b hb)⟩
theorem ay.mono (h:ay I w C w' aQ) (hI:∀c∈I,c∈J):ay J w C w' aQ:=⟨h.ext.mono (λb _ hc=>hI _ hc),h.col⟩
theorem ay.drew (I:List Nat) (w:World) (C:Nat->Nat):ay I w C {w with drawn:=w.drawn+1} C:=⟨Ext.drew _ _,λ_ _=>rfl⟩
theorem ay.size (h:ay I w C w' aQ):w.heap.size<=w'.heap.size:=h.ext.size
theorem aL.st (h:aL w C) (hs:ay I w C w' C):aL w' C:=λb hb=>Nat.lt_of_lt_of_le (h b hb) hs.size
theorem aB.st (h:aB w (aA C) x v) (hs:ay I w C w' aQ) (h0:0∉I):aB w' (aA aQ) x v:=
 aB.ext (h.sub (M':=aA aQ) (λb hb hc=>by unfold aA at*;rwa [hs.col b hb] at hc)) hs.ext (λb hb hc=>by unfold aA;rw[hs.col b hb];intro e;rw[e] at hc;exact h0 hc)
theorem dJ.st (h:dJ w (aA C) x b o) (hs:ay I w C w' aQ) (h0:0∉I):dJ w' (aA aQ) x b o:=
 dJ.ext (h.sub (M':=aA aQ) (λb hb hc=>by unfold aA at*;rwa [hs.col b hb] at hc)) hs.ext (λb hb hc=>by unfold aA;rw[hs.col b hb];intro e;rw[e] at hc;exact h0 hc)
theorem cD.st (h:cD w C j b gj) (hs:ay I w C w' aQ) (hj:j∉I):cD w' aQ j b gj:=
 ⟨(hs.col b (rG h.at_)).trans h.col,hs.ext.sH h.at_ (by rw[h.col];exact hj)⟩
theorem bh.st (h:bh w C j e v ys) (hs:ay I w C w' aQ) (h0:0∉I) (hj:j∉I):bh w' aQ j e v ys:=
 ⟨jG.ext (h.own.sub (M':=aA aQ) (λb hb hc=>by unfold aA at*;rwa [hs.col b hb] at hc) (λb hb=>by have:=h.own.gj b hb;unfold aA at*;rw[hs.col b this.2];exact this.1))
   hs.ext (λb hb hc=>by unfold aA;rw[hs.col b hb];intro e;rw[e] at hc;exact h0 hc) (λb hb hc=>by rw[h.col b hb] at hc;exact hj hc),
  λb hb=>(hs.col b (h.own.gj b hb).2).trans (h.col b hb)⟩
theorem bh.nil:bh w C j e (.slice none 0 0) ([]:List α):=⟨jG.nil,λb hb=>by cases hb⟩
def uZ (C:Nat->Nat) (b j:Nat):Nat->Nat:=λx=>if x=b then j else C x
def gV (C:Nat->Nat) (v:Value) (j:Nat):Nat->Nat:=λx=>if v.ownBlock=some x then j else C x
theorem New.st (h:New w w' gj) (C:Nat->Nat):ay [] w C w' C:=⟨h.ext.mono (λb _ h=>h.elim),λ_ _=>rfl⟩
theorem New.own (h:New w w' gj) (hF:aL w C) (j:Nat):∃aQ,ay [] w C w' aQ/\cD w' aQ j w.heap.size gj/\aL w' aQ:=
 ⟨uZ C w.heap.size j,⟨h.ext.mono (λb _ h=>h.elim),λb hb=>by unfold uZ;rw[if_neg (by omega)]⟩,⟨by simp[uZ],h.at_⟩,λb hb=>by
  unfold uZ at hb;rw[h.size];split at hb
  ·omega
  ·have:=hF b hb;omega⟩
theorem xd.own (h:xd w w' b Lr) (ho:cD w C j b gj):ay [j] w C w' C/\cD w' C j b Lr:=
 ⟨⟨h.ext.mono (λc _ hc=>by rw[show c=b from hc,ho.col];simp),λ_ _=>rfl⟩,⟨ho.col,h.at_⟩⟩
variable {P:Program} {N:Nat} {env:Env} {y z q:Operand} {t:TypeId}
theorem dI {cs:List Value} (hF:aL w C) (j:Nat) (hx:ev env y=some v) (hc:v.cells=cs.toArray):
  gY P N env (.box t y) w (λu w'=>∃aQ b,u=.pointer (some ⟨b,0,none⟩)/\ay [] w C w' aQ/\cD w' aQ j b (.cells cs.toArray t)/\aL w' aQ):=λa ha o ho=>by
 obtain⟨u,w',h1,rfl,h2⟩:=Ln (P:=P) (N:=N) (t:=t) (w:=w) hx hc a ha o ho;obtain⟨aQ,h3,h4,h5⟩:=h2.own hF j;exact⟨_,w',h1,aQ,_,rfl,h3,h4,h5⟩
theorem ec {cs:List Value} (hF:aL w C) (j:Nat) (hz:sJ P t=some cs):
  gY P N env (.alloc t) w (λu w'=>∃aQ b,u=.pointer (some ⟨b,0,none⟩)/\ay [] w C w' aQ/\cD w' aQ j b (.cells cs.toArray t)/\aL w' aQ):=λa ha o ho=>by
 obtain⟨u,w',h1,rfl,h2⟩:=Ue (P:=P) (N:=N) (env:=env) (t:=t) (w:=w) hz a ha o ho;obtain⟨aQ,h3,h4,h5⟩:=h2.own hF j;exact⟨_,w',h1,aQ,_,rfl,h3,h4,h5⟩
theorem je {cs:List Value} {ty:TypeId} (hx:ev env y=some (.pointer (some ⟨b,o,none⟩))) (hy:ev env z=some v) (hs:gR P t=some 1)
  (hv:v.cells=#[v]) (h1:v.oneCell'=true) (hb:cD w C j b (.cells cs.toArray ty)) (ho:o<cs.length):
  gY P N env (.store t y z) w (λu w'=>u=undef/\ay [j] w C w' C/\cD w' C j b (.cells (cs.set o v).toArray ty)):=λa ha fe gG=>by
 obtain⟨u,w',h2,h3,h4⟩:=Ug (P:=P) (N:=N) (w:=w) hx hy hs hv h1 hb.at_ ho a ha fe gG;exact⟨u,w',h2,h3,h4.own hb⟩
theorem Uj {cs vs:List Value} {ty:TypeId} (hx:ev env y=some (.pointer (some ⟨b,o,none⟩))) (hy:ev env z=some v) (hs:gR P t=some n)
  (hv:v.cells=vs.toArray) (hl:vs.length=n) (h1:∀u∈vs,u.oneCell'=true) (hb:cD w C j b (.cells cs.toArray ty)) (ho:o+n<=cs.length):
  gY P N env (.store t y z) w (λu w'=>u=undef/\ay [j] w C w' C/\cD w' C j b (.cells (cs.take o++vs++cs.drop (o+n)).toArray ty)):=λa ha fe gG=>by
 obtain⟨u,w',h2,h3,h4⟩:=Gf (P:=P) (N:=N) (w:=w) hx hy hs hv hl h1 hb.at_ ho a ha fe gG;exact⟨u,w',h2,h3,h4.own hb⟩
theorem gl {bytes:Nat} {s:Value} (hF:aL w C) (hj:j≠0) (hx:ev env y=some v) (hy:ev env z=some s) (hrow:oU P t e (sz α) bytes=true) (hsz:0<sz α)
  (hown:bh w C j e v ys) (hsrc:aB w (aA C) zs s) (hlen: (ys.length+zs.length)*bytes<=140737488355328) (h63:ys.length+zs.length<=140737488355328):
  gY P N env (.call {callee:=.builtin .append,args:=#[y,z],argTypes:=#[t,t]}) w (λv' w'=>∃aQ,ay [j] w C w' aQ/\bh w' aQ j e v' (ys++zs)/\aL w' aQ):=λa ha fe gG=>by
 obtain⟨v',w',h1,h2,h3,h4⟩:=Lp (P:=P) (N:=N) hx hy hrow hsz hown.own hsrc hlen h63 a ha fe gG;have nC:∀b,b<w.heap.size->gV C v' j b=C b:=λb hb=>by
  unfold gV;split
  ·rename_i e;rcases h4 b e with h|h
   ·exact(hown.col b h).symm
   ·omega
  ·rfl
 refine⟨v',w',h1,gV C v' j,⟨h3.mono (λb _ hb=>by rw[hown.col b hb];simp),nC⟩,⟨h2.sub (λb hb hc=>?_) (λb hb=>?_),λb hb=>?_⟩,λb hb=>?_⟩
 ·by_cases ho:di v' b
  ·exact .inl ho
  ·right;unfold aA gV at hc;rw[if_neg (show¬v'.ownBlock=some b from ho)] at hc;exact hc
 ·unfold aA gV;rw[if_pos (show v'.ownBlock=some b from hb)];exact hj
 ·unfold gV;rw[if_pos (show v'.ownBlock=some b from hb)]
 ·by_cases ho:di v' b
  ·exact(h2.gj b ho).2
  ·unfold gV at hb;rw[if_neg (show¬v'.ownBlock=some b from ho)] at hb;exact Nat.lt_of_lt_of_le (hF b hb) h3.size
def bq (C:Nat->Nat):Nat->Nat:=λb=>if C b=0 then 0 else 1
def eu (C:Nat->Nat) (i:Nat):Nat->Nat:=λb=>if C b=0 then 0 else if C b=i then 2 else 1
theorem Ls (C:Nat->Nat) (b:Nat):bq C b≠0↔C b≠0:=by unfold bq;split<;>simp_all
theorem Lt (C:Nat->Nat) (i b:Nat):eu C i b≠0↔C b≠0:=by unfold eu;split<;>(try split)<;>simp_all
theorem ez (C:Nat->Nat):aA (bq C)=aA C:=by funext b;exact propext (Ls C b)
theorem xg (C:Nat->Nat) (i:Nat):aA (eu C i)=aA C:=by funext b;exact propext (Lt C i b)
theorem aL.bq (h:aL w C):aL w (bq C):=λb hb=>h b ((Ls C b).1 hb)
theorem aL.eu (h:aL w C) (i:Nat):aL w (eu C i):=λb hb=>h b ((Lt C i b).1 hb)
theorem cD.eu {i:Nat} (h:cD w C i b gj) (hi:i≠0):cD w (eu C i) 2 b gj:=⟨by unfold K.eu;rw[if_neg (by rw[h.col];exact hi),if_pos h.col],h.at_⟩
theorem ay.bW (h:ay I w (bq C) w' aQ) (hI:∀c∈I,2<=c):ay [] w C w' C:=⟨h.ext.mono (λb _ hc=>by
 have:=hI _ hc;unfold K.bq at this;split at this<;>omega),λ_ _=>rfl⟩
theorem ay.rJ {i:Nat} (h:ay I w (eu C i) w' aQ) (hI:∀c∈I,2<=c):ay [i] w C w' C:=⟨h.ext.mono (λb _ hc=>by
 have:=hI _ hc;simp only[List.mem_singleton];unfold K.eu at this;split at this
 ·omega
 ·split at this
  ·assumption
  ·omega),λ_ _=>rfl⟩
theorem ay.Gk (hs:ay I w D w' aQ) (hF:aL w C) (hD:aA D=aA C):∀b,C b≠0->b<w.heap.size/\aQ b=D b/\D b≠0:=λb hb=>by
 have h1:=hF b hb;refine⟨h1,hs.col b h1,?_⟩;have:aA D b:=by rw[hD];exact hb
 exact this
theorem aB.out (h:aB w' (aA aQ) x v) (hs:ay I w D w' aQ) (hF:aL w C) (hD:aA D=aA C):aB w' (aA C) x v:=
 h.sub (λb _ hb=>by obtain⟨h1,h2,h3⟩:=hs.Gk hF hD b hb;unfold aA;rw[h2];exact h3)
theorem bh.out (h:bh w' aQ j e v ys) (hs:ay I w D w' aQ) (hF:aL w C) (hD:aA D=aA C) (hj:∀b,b<w.heap.size->D b≠j) (hl:ys.length<=9223372036854775807):aB w' (aA C) ys v:=
 h.own.read (λb _ hb=>by
  obtain⟨h1,h2,h3⟩:=hs.Gk hF hD b hb;exact⟨by unfold aA;rw[h2];exact h3,λho=>hj b h1 (by rw[<-h2];exact h.col b ho)⟩) hl
theorem h_ (C:Nat->Nat) {j:Nat} (hj:2<=j) (b:Nat):bq C b≠j:=by unfold bq;split<;>omega
theorem D3 (C:Nat->Nat) (i:Nat) {j:Nat} (hj:3<=j) (b:Nat):eu C i b≠j:=by unfold eu;split<;>(try split)<;>omega
theorem dJ.stay (h:dJ w (aA C) x b o) (hS:Ext (λb=>C b∈I) w w') (h0:0∉I):w'.heap[b]?=w.heap[b]?:=by
 obtain⟨hb,cs,ty,eP,hc,_⟩:=h;exact hS.block b (rG hc) (λhm=>hb (λe=>h0 (by rw[e] at hm;exact hm)))
theorem cD.stay (h:cD w C j b gj) (hS:Ext (λb=>C b∈I) w w') (hj:j∉I):w'.heap[b]?=some gj:=
 hS.sH h.at_ (by rw[h.col];exact hj)
theorem bh.bS (h:bh w C j e v ys) (hy:ev env y=some v) {d:TypeId} (ht:P.underlying t=some (.slice d)):
  ∀w',cL P N env (.call {callee:=.builtin .len,args:=#[y],argTypes:=#[t]}) w' (.int .i64 ys.length):=λw'=>by
 obtain⟨a,c,rfl⟩:=h.own.len;exact wZ hy ht
end
section
variable {P:Program} {f:FuncId} {N:Nat} {k:List Item} {env:Env} {w:World} {R:Value->World->Prop} {Q:Exit->Act->World->Prop}
theorem dm {c:Code} {id:Nat} {ops:Array Oper} (I:List Nat) (C:Nat->Nat) (L:List (Nat×Bool)) (hm:P.follows .mixedOrders=true) (hc:c=.region id ops true)
  (hn:Region.noSelect ops=true) (hk:Lh ops ops.size (Array.replicate ops.size false) L=true)
  (h:∀w₁,ay [] w C w₁ C->aj P f N k R ops (λw'=>Ext (λb=>C b∈I) w₁ w') L env w₁):Run P f N (.code c::k) env w R:=
 T6 _ L hm hc hn hk (Ext.refl _ _) (h _ (ay.drew [] w C))
theorem Lu {c:Code} {id:Nat} {ops:Array Oper} (I:List Nat) (C:Nat->Nat) (A:List Nat) (i:Nat) (L:List (Nat×Bool)) (i':Nat) (L':List (Nat×Bool)) (hm:P.follows .mixedOrders=true) (hc:c=.region id ops true)
  (hn:Region.noSelect ops=true) (hk:Lj ops i L i' L' ops.size (Array.replicate ops.size false) A=true)
  (h:∀w₁,ay [] w C w₁ C->aj P f N k R ops (λw'=>Ext (λb=>C b∈I) w₁ w') (A.map (λj=>(j,true))++(i,false)::L) env w₁)
  (h':∀w₁,ay [] w C w₁ C->aj P f N k R ops (λw'=>Ext (λb=>C b∈I) w₁ w') (A.map (λj=>(j,true))++(i',false)::L') env w₁):Run P f N (.code c::k) env w R:=
 T7 _ A i L i' L' hm hc hn hk (Ext.refl _ _) (h _ (ay.drew [] w C)) (h' _ (ay.drew [] w C))
end
section
variable {α:Type} [bu α] {P:Program} {f:FuncId} {N:Nat} {k:List Item} {env:Env} {w:World} {R:Value->World->Prop} {Q:Exit->Act->World->Prop}
variable {ops:Array Oper} {S:World->Prop} {i t:Nat} {L:List (Nat×Bool)} {v:Value} {y z:Operand} {g:Option (Nat×Bool)} {ty e:TypeId} {M:Nat->Prop} {x:α} {xs:List α} {b o:Nat} {kd:IntKind} {n:Int}
theorem iS {w1:World} (hop:cv ops i=some (some t,.indexAddr ty y z,g)) (hw:fT ops env g=some true) (ht:Nat.blt t N=true) (hl:aB w1 M xs v) (hy:ev env y=some v)
  (hf:jd P ty=some (e,sz α)) (hz:ev env z=some (.int kd n)) (h0:0<=n) (h1:n<xs.length)
  (h:∀b o,dJ w1 M (xs[n.toNat]'(by omega)) b o->bM P N Q ops S L ((t,.pointer (some ⟨b,o,none⟩))::env) w):bM P N Q ops S ((i,true)::L) env w:=by
 obtain⟨b,o,h2,h3⟩:=hl.index (P:=P) (N:=N) hy hf hz h0 h1;exact eT hop hw ht (λw' _=>h3 w') (h b o h2)
theorem gP (hop:cv ops i=some (some t,.load ty y,g)) (hw:fT ops env g=some true) (ht:Nat.blt t N=true) (hS:S w) (hr:dJ w M x b o) (ha:iF P ty=some false) (hx:bu.agg α=false)
  (hy:ev env y=some (.pointer (some ⟨b,o,none⟩))) (h:∀v,aB w M x v->bM P N Q ops S L ((t,v)::env) w):bM P N Q ops S ((i,false)::L) env w:=by
 obtain⟨v,h2,h3⟩:=hr.load (P:=P) (N:=N) ha hx hy;exact jl hop hw ht hS (h3 w rfl) (h v h2)
theorem j_ {w1:World} (hop:cv ops i=some (some t,.load ty y,g)) (hw:fT ops env g=some true) (ht:Nat.blt t N=true) (hst:∀w',S w'->w'.heap[b]?=w1.heap[b]?) (hr:dJ w1 M x b o) (ha:iF P ty=some false) (hx:bu.agg α=false)
  (hy:ev env y=some (.pointer (some ⟨b,o,none⟩))) (h:∀v,aB w1 M x v->bM P N Q ops S L ((t,v)::env) w):bM P N Q ops S ((i,true)::L) env w:=by
 obtain⟨v,h2,h3⟩:=hr.load (P:=P) (N:=N) ha hx hy;exact eT hop hw ht (λw' hS=>h3 w' (hst w' hS)) (h v h2)
theorem iH (hop:cv ops i=some (some t,.load ty y,g)) (hw:fT ops env g=some true) (ht:Nat.blt t N=true) (hS:S w) (hr:dJ w M x b o) (ha:iF P ty=some true) (hs:gR P ty=some (sz α)) (hx:bu.agg α=true)
  (hy:ev env y=some (.pointer (some ⟨b,o,none⟩))) (h:∀v,aB w M x v->bM P N Q ops S L ((t,v)::env) w):bM P N Q ops S ((i,false)::L) env w:=by
 obtain⟨v,h2,h3⟩:=hr.Bq (P:=P) (N:=N) ha hs hx hy;exact jl hop hw ht hS (h3 w rfl) (h v h2)
theorem gu {w1:World} (hop:cv ops i=some (some t,.load ty y,g)) (hw:fT ops env g=some true) (ht:Nat.blt t N=true) (hst:∀w',S w'->w'.heap[b]?=w1.heap[b]?) (hr:dJ w1 M x b o) (ha:iF P ty=some true) (hs:gR P ty=some (sz α)) (hx:bu.agg α=true)
  (hy:ev env y=some (.pointer (some ⟨b,o,none⟩))) (h:∀v,aB w1 M x v->bM P N Q ops S L ((t,v)::env) w):bM P N Q ops S ((i,true)::L) env w:=by
 obtain⟨v,h2,h3⟩:=hr.Bq (P:=P) (N:=N) ha hs hx hy;exact eT hop hw ht (λw' hS=>h3 w' (hst w' hS)) (h v h2)
end
def dM (n:Nat) (C:Nat->Nat):Nat->Nat:=λb=>if n<=C b then 0 else C b
section
variable {α:Type} [bu α] {w w' w₀:World} {I:List Nat} {C aQ jP:Nat->Nat} {x:α} {ys:List α} {v:Value} {b o j n:Nat} {gj:Obj} {e:TypeId}
theorem BA (h:aA (dM n C) b):aA C b/\C b<n:=by
 unfold aA dM at*;split at h
 ·exact absurd rfl h
 ·exact⟨h,by omega⟩
theorem aL.dM (h:aL w C) (n:Nat):aL w (dM n C):=λb hb=>h b (BA hb).1
theorem aB.dM (h:aB w (aA C) x v) (n:Nat):aB w (aA (K.dM n C)) x v:=h.sub (λb _ hb=>(BA hb).1)
theorem bh.dM (h:bh w C j e v ys) (hj:n<=j) (hl:ys.length<=9223372036854775807):aB w (aA (K.dM n C)) ys v:=
 h.own.read (λb _ hb=>⟨(BA hb).1,λho=>by have:=(BA hb).2;rw[h.col b ho] at this;omega⟩) hl
theorem bh.D4 (h:bh w C j e v ys) (hj:j<n):bh w (K.dM n C) j e v ys:=
 ⟨h.own.sub (λb _ hb=>(BA hb).1) (λb hb=>by unfold aA K.dM;rw[h.col b hb,if_neg (by omega)];have:=(h.own.gj b hb).1;unfold aA at this;rw[h.col b hb] at this;exact this),
  λb hb=>by unfold K.dM;rw[h.col b hb,if_neg (by omega)]⟩
theorem cD.dM (h:cD w C j b gj) (hj:j<n):cD w (K.dM n C) j b gj:=⟨by unfold K.dM;rw[h.col,if_neg (by omega)],h.at_⟩
theorem ay.dM (h:ay I w₀ jP w C) (h0:∀b,jP b<n):ay I w₀ jP w (K.dM n C):=
 ⟨h.ext,λb hb=>by unfold K.dM;rw[h.col b hb,if_neg (by have:=h0 b;omega)]⟩
theorem Uk (C:Nat->Nat) (i b:Nat):eu C i b<3:=by unfold eu;split<;>(try split)<;>omega
theorem BD (C:Nat->Nat) (b:Nat):bq C b<2:=by unfold bq;split<;>omega
theorem bh.one (h:bh w C j e v ys):v.cells=#[v]/\v.oneCell'=true:=by
 obtain⟨a,c,rfl⟩:=h.own.len;exact⟨rfl,rfl⟩
end
theorem Ul {env env':Env} {t:Nat} {v:Value} (h:look env t=none) (hs:Sub env env'):Sub env ((t,v)::env'):=λs x hx=>by
 simp only[look];cases hb:Nat.beq t s with
 |true=>rw[Nat.eq_of_beq_eq_true hb,hx] at h;cases h
 |false=>exact hs s x hx
section
variable {P:Program} {f:FuncId} {N:Nat} {k:List Item} {env:Env} {w:World} {R:Value->World->Prop} {Q:Exit->Act->World->Prop} {p:Prop} [Decidable p] {op:Op}
theorem kY (t:Nat) (b:Bool) (C:Nat->Nat) {c:Code}
  (Um: (∀w' env' v,ay [] w C w' C->look env' t=some v->v=.bool b->Sub env env'->Run P f N k env' w' R)->Run P f N (.code c::k) env w R)
  (Un:∀w',ay [] w C w' C->Run P f N k ((t,.bool b)::env) w' R):Run P f N (.code c::k) env w R:=
 Um λw' env' v hs hl hv hsub=>(Un w' hs).sub λs x hx=>by
  simp only[look] at hx;cases hb:Nat.beq t s with
  |true=>
   rw[hb] at hx;simp only[cond_true,Option.some.injEq] at hx;rw[<-Nat.eq_of_beq_eq_true hb,hl,hv,hx]
  |false=>rw[hb] at hx;exact hsub s x hx
theorem eY {v v':Value} (h:cL P N env op w v) (e:v=v'):cL P N env op w v':=e▸h
theorem ei (h:cL P N env op w (.bool (decide p))) (hp:p):cL P N env op w (.bool true):=by rwa [decide_eq_true hp] at h
theorem fm (h:cL P N env op w (.bool (decide p))) (hp:¬p):cL P N env op w (.bool false):=by rwa [decide_eq_false hp] at h
end
abbrev af (i:Nat):Nat×Bool:=(i,true)
abbrev nn (i:Nat):Nat×Bool:=(i,false)
section
variable {ops:Array Oper} {i:Nat}
theorem au (t:Nat) (op:Op) (h:cv ops i=some (some t,op,none):=by kernel_rfl):cv ops i=some (some t,op,none):=h
theorem aI (t:Nat) (op:Op) (g:Nat) (b:Bool) (h:cv ops i=some (some t,op,some (g,b)):=by kernel_rfl):cv ops i=some (some t,op,some (g,b)):=h
theorem k0 (op:Op) (h:cv ops i=some (none,op,none):=by kernel_rfl):cv ops i=some (none,op,none):=h
end
def BF (c:Code) (d:Bool):Bool:=match c with| .region _ _ d'=>d'==d|_=>false
theorem Gl {c:Code} {d:Bool} (h:BF c d=true):∃id,c=.region id (dF c) d:=by
 cases c with
 |region id ops d'=>exact⟨id,by unfold BF at h;simp only[beq_iff_eq] at h;subst h;rfl⟩
 |_=>cases h
section
variable {P:Program} {f:FuncId} {N:Nat} {k:List Item} {env:Env} {w w':World} {R:Value->World->Prop} {Q:Exit->Act->World->Prop}
variable {ops:Array Oper} {S:World->Prop} {i t:Nat} {L:List (Nat×Bool)} {op:Op} {v:Value} {x y z:Operand} {g:Option (Nat×Bool)}
theorem ax (hop:cv ops i=some (some t,op,g)) (hy:∀w',cL P N env op w' v) (h:bM P N Q ops S L ((t,v)::env) w) (hw:fT ops env g=some true:=by rfl) (ht:Nat.blt t N=true:=by rfl):
 bM P N Q ops S ((i,true)::L) env w:=eT hop hw ht (λw' _=>hy w') h
theorem aq {c:Code} (L:List (Nat×Bool)) (h:aj P f N k R (dF c) (λ_=>True) L env w) (hc:BF c false=true:=by kernel_rfl) (hL:L.map (·.1)=List.range (dF c).size:=by kernel_rfl):Run P f N (.code c::k) env w R:=by
 obtain⟨id,e⟩:=Gl hc;exact T5 L e hL h
def Lv (c:Code):Bool:=match c with| .seq _ _=>true|_=>false
def D5 (c:Code) (i:Nat):Bool:=match c with| .block j _=>Nat.beq j i|_=>false
def Uo (c:Code):Bool:=match c with| .skip=>true|_=>false
def Lx (c:Code) (i:Nat):Bool:=match c with| .exit j=>Nat.beq j i|_=>false
def Up (c:Code):Bool:=match c with| .loop _=>true|_=>false
def aa3 (c:Code):Operand:=match c with| .cond o _ _=>o|_=> .tmp 0
def zm (c:Code) (i:Nat):Bool:=match c with| .cond (.tmp j) _ _=>Nat.beq j i|_=>false
theorem ai {c:Code} (h:Run P f N (.code (cl c):: .code (aH c)::k) env w R) (hc:Lv c=true:=by kernel_rfl):Run P f N (.code c::k) env w R:=
 run_seq (by cases c with|seq a b=>rfl|_=>cases hc) h
theorem bD {c:Code} (id:Nat) (h:Run P f N (.code (cl c):: .inBlock id::k) env w R) (hc:D5 c id=true:=by kernel_rfl):Run P f N (.code c::k) env w R:=
 TY (by cases c with|block a b=>simp only[D5] at hc;rw[Nat.eq_of_beq_eq_true hc];rfl|_=>cases hc) h
theorem bn {c:Code} (h:Run P f N k env w R) (hc:Uo c=true:=by kernel_rfl):Run P f N (.code c::k) env w R:=
 T0 (by cases c with|skip=>rfl|_=>cases hc) h
theorem cB {c:Code} (id:Nat) {k':List Item} (h:Run P f N k' env w R) (hc:Lx c id=true:=by kernel_rfl) (hk:exitTo id k=some k':=by exact rfl):Run P f N (.code c::k) env w R:=
 T1 (by cases c with|exit a=>simp only[Lx] at hc;rw[Nat.eq_of_beq_eq_true hc]|_=>cases hc) hk h
theorem D6 {c:Code} {t:Nat} (hc:zm c t=true):c=.cond (.tmp t) (cl c) (aH c):=by
 cases c with
 |cond o a b=>cases o with|tmp j=>simp only[zm] at hc;rw[Nat.eq_of_beq_eq_true hc];rfl|_=>cases hc
 |_=>cases hc
theorem bQ {c:Code} (t:Nat) {p:Prop} [Decidable p] (hv:look env t=some (.bool (decide p))) (ht:p->Run P f N (.code (cl c)::k) env w R) (hf:¬p->Run P f N (.code (aH c)::k) env w R) (hc:zm c t=true:=by kernel_rfl):Run P f N (.code c::k) env w R:=
 T2 (D6 hc) hv ht hf
theorem kZ {c:Code} (t:Nat) {b:Bool} (hv:look env t=some (.bool b)) (ht:b=true->Run P f N (.code (cl c)::k) env w R) (hf:b=false->Run P f N (.code (aH c)::k) env w R) (hc:zm c t=true:=by kernel_rfl):Run P f N (.code c::k) env w R:=
 Bo (D6 hc) hv ht hf
theorem lH {c:Code} (t:Nat) (h:Run P f N (.code (cl c)::k) env w R) (hc:zm c t=true:=by kernel_rfl) (hv:look env t=some (.bool true):=by exact rfl):Run P f N (.code c::k) env w R:=
 Bo (D6 hc) hv (λ_=>h) (λh=>by cases h)
theorem cR {c:Code} (t:Nat) (h:Run P f N (.code (aH c)::k) env w R) (hc:zm c t=true:=by kernel_rfl) (hv:look env t=some (.bool false):=by exact rfl):Run P f N (.code c::k) env w R:=
 Bo (D6 hc) hv (λh=>by cases h) (λ_=>h)
theorem cK {c:Code} {ι:Type} (I:ι->World->Prop) (e:ι->Env) (m:ι->Nat) (cE:ι) (hs:Sub (e cE) env) (h0:I cE w)
 (hr:∀x w,I x w->(∀y w',I y w'->m y<m x->Run P f N (.inLoop (cl c)::k) (e y) w' R)->Run P f N (.code (cl c):: .inLoop (cl c)::k) (e x) w R) (hc:Up c=true:=by kernel_rfl):
 Run P f N (.code c::k) env w R:=T3 I e m cE (by cases c with|loop b=>rfl|_=>cases hc) hs h0 hr
theorem ah (t a:Nat) (h:bM P N Q ops S L ((t,v)::env) w) (hop:cv ops i=some (some t,.move (.tmp a),none):=by kernel_rfl) (hy:look env a=some v:=by exact rfl) (ht:Nat.blt t N=true:=by rfl):
 bM P N Q ops S ((i,true)::L) env w:=ax hop (λ_=>rF hy) h rfl ht
theorem aC (t a:Nat) (h:bM P N Q ops S L ((t,v)::env) w) (hop:cv ops i=some (some t,.assign (.tmp a),none):=by kernel_rfl) (hy:look env a=some v:=by exact rfl) (ht:Nat.blt t N=true:=by rfl):
 bM P N Q ops S ((i,true)::L) env w:=ax hop (λ_=>n_ hy) h rfl ht
theorem aX (t:Nat) (v:Value) (h:bM P N Q ops S L ((t,v)::env) w) (hop:cv ops i=some (some t,.assign (.const v),none):=by kernel_rfl) (ht:Nat.blt t N=true:=by rfl):
 bM P N Q ops S ((i,true)::L) env w:=ax hop (λ_=>n_ rfl) h rfl ht
theorem gn (t a:Nat) {q:Addr} (h:bM P N Q ops S L ((t,.pointer (some q))::env) w) (hop:cv ops i=some (some t,.nilCheck (.tmp a),none):=by kernel_rfl) (hy:look env a=some (.pointer (some q)):=by exact rfl) (ht:Nat.blt t N=true:=by rfl):
 bM P N Q ops S ((i,true)::L) env w:=ax hop (λ_=>Ga hy) h rfl ht
theorem cg (t a:Nat) (j:Nat) (b:Bool) (h:bM P N Q ops S L ((t,v)::env) w) (hop:cv ops i=some (some t,.move (.tmp a),some (j,b)):=by kernel_rfl) (hy:look env a=some v:=by exact rfl) (hw:fT ops env (some (j,b))=some true:=by rfl) (ht:Nat.blt t N=true:=by rfl):
 bM P N Q ops S ((i,true)::L) env w:=ax hop (λ_=>rF hy) h hw ht
theorem eH (t a b:Nat) (h:bM P N Q ops S L ((t,v)::env) w) (hop:cv ops i=some (some t,.pick (.tmp a) (.const (.bool true)) (.tmp b),none):=by kernel_rfl) (ha:look env a=some (.bool false):=by exact rfl) (hy:look env b=some v:=by exact rfl) (ht:Nat.blt t N=true:=by rfl):
 bM P N Q ops S ((i,true)::L) env w:=ax hop (λ_=>tE ha hy) h rfl ht
theorem mT (t a b:Nat) (h:bM P N Q ops S L ((t,.bool true)::env) w) (hop:cv ops i=some (some t,.pick (.tmp a) (.const (.bool true)) (.tmp b),none):=by kernel_rfl) (ha:look env a=some (.bool true):=by exact rfl) (ht:Nat.blt t N=true:=by rfl):
 bM P N Q ops S ((i,true)::L) env w:=ax hop (λ_=>wX ha rfl) h rfl ht
theorem dD (t a b:Nat) (h:bM P N Q ops S L ((t,v)::env) w) (hop:cv ops i=some (some t,.pick (.tmp a) (.tmp b) (.const (.bool false)),none):=by kernel_rfl) (ha:look env a=some (.bool true):=by exact rfl) (hy:look env b=some v:=by exact rfl) (ht:Nat.blt t N=true:=by rfl):
 bM P N Q ops S ((i,true)::L) env w:=ax hop (λ_=>wX ha hy) h rfl ht
theorem fq (t a b:Nat) (h:bM P N Q ops S L ((t,.bool false)::env) w) (hop:cv ops i=some (some t,.pick (.tmp a) (.tmp b) (.const (.bool false)),none):=by kernel_rfl) (ha:look env a=some (.bool false):=by exact rfl) (ht:Nat.blt t N=true:=by rfl):
 bM P N Q ops S ((i,true)::L) env w:=ax hop (λ_=>tE ha rfl) h rfl ht
theorem bp (t T a q off:Nat) {b o:Nat} (h:bM P N Q ops S L ((t,.pointer (some ⟨b,o+off,none⟩))::env) w) (hop:cv ops i=some (some t,.fieldAddr T (.tmp a) q,none):=by kernel_rfl) (hf:D0 P T q=some off:=by kernel_rfl) (hy:look env a=some (.pointer (some ⟨b,o,none⟩)):=by exact rfl) (ht:Nat.blt t N=true:=by rfl):
 bM P N Q ops S ((i,true)::L) env w:=ax hop (λ_=>zl (off:=off) hf hy) h rfl ht
theorem cz (t T a q off:Nat) (j:Nat) (bb:Bool) {b o:Nat} (h:bM P N Q ops S L ((t,.pointer (some ⟨b,o+off,none⟩))::env) w) (hop:cv ops i=some (some t,.fieldAddr T (.tmp a) q,some (j,bb)):=by kernel_rfl) (hf:D0 P T q=some off:=by kernel_rfl) (hy:look env a=some (.pointer (some ⟨b,o,none⟩)):=by exact rfl) (hw:fT ops env (some (j,bb))=some true:=by rfl) (ht:Nat.blt t N=true:=by rfl):
 bM P N Q ops S ((i,true)::L) env w:=ax hop (λ_=>zl (off:=off) hf hy) h hw ht
def D7 (ops:Array Oper) (i:Nat):Option (Option Nat×Option (Nat×Bool)):=(cv ops i).map (λx=>(x.1,x.2.2))
theorem Ly {t:Option Nat} (h:D7 ops i=some (t,g)):∃op,cv ops i=some (t,op,g):=by
 unfold D7 at h;cases hx:cv ops i with
 |none=>rw[hx] at h;cases h
 |some y=>obtain⟨p,q,r⟩:=y;rw[hx] at h;simp only[Option.map_some,Option.some.injEq,Prod.mk.injEq] at h;exact⟨q,by rw[h.1,h.2]⟩
theorem aM (t j:Nat) (b:Bool) (h:bM P N Q ops S L ((t,undef)::env) w) (hop:D7 ops i=some (some t,some (j,b)):=by kernel_rfl) (hw:fT ops env (some (j,b))=some false:=by rfl) (ht:Nat.blt t N=true:=by rfl):
  bM P N Q ops S ((i,true)::L) env w:=by
 obtain⟨op,e⟩:=Ly hop;exact Uh e hw ht h
theorem ak (t:Nat) {v:Value} {env' env:Env} (h:Sub env' env) (hl:look env t=some v:=by exact rfl):Sub ((t,v)::env') env:=aV t hl rfl h
def D8 (z:Env):Nat->Env->Bool
 |0,_=>true
 |n+1,(t,_)::e=>(match look z t with|none=>true|some _=>false)&&D8 z n e
 |_+1,[]=>false
theorem Lz (z:Env):∀(n:Nat) (e:Env),e.drop n=z->D8 z n e=true->Sub z e
 |0,e,he,_=>by rw[<-he];exact Sub.refl _
 |n+1,(t,v)::e,he,h=>by
  simp only[D8,Bool.and_eq_true] at h;exact Ul (by have:=h.1;split at this<;>first|assumption|cases this) (Lz z n e he h.2)
 |_+1,[],_,h=>by cases h
theorem eZ (n:Nat) {env env':Env} (he:env'.drop n=env:=by exact rfl) (h:D8 env n env'=true:=by kernel_rfl):Sub env env':=Lz env n env' he h
end
section
variable {α:Type} [bu α] {w w' w'':World} {I J:List Nat} {C aQ Bz:Nat->Nat} {x:α} {ys:List α} {v:Value} {b o j:Nat} {gj:Obj} {e:TypeId}
theorem aB.t (h:aB w (aA C) x v) (hs:ay I w C w' aQ) (h0:0∉I:=by first|decide|(simp<;>omega)):aB w' (aA aQ) x v:=h.st hs h0
theorem dJ.t (h:dJ w (aA C) x b o) (hs:ay I w C w' aQ) (h0:0∉I:=by first|decide|(simp<;>omega)):dJ w' (aA aQ) x b o:=h.st hs h0
theorem cD.t (h:cD w C j b gj) (hs:ay I w C w' aQ) (hj:j∉I:=by first|decide|(simp<;>omega)):cD w' aQ j b gj:=h.st hs hj
theorem bh.t (h:bh w C j e v ys) (hs:ay I w C w' aQ) (h0:0∉I:=by first|decide|(simp<;>omega)) (hj:j∉I:=by first|decide|(simp<;>omega)):bh w' aQ j e v ys:=h.st hs h0 hj
theorem ay.t (h:ay I w C w' aQ) (h':ay J w' aQ w'' Bz) (hJ:∀c∈J,c∈I:=by simp):ay I w C w'' Bz:=h.trans h' hJ
theorem dJ.bF (h:dJ w (aA C) x b o) (hS:Ext (λb=>C b∈I) w w') (h0:0∉I:=by first|decide|(simp<;>omega)):w'.heap[b]?=w.heap[b]?:=h.stay hS h0
theorem cD.bF (h:cD w C j b gj) (hS:Ext (λb=>C b∈I) w w') (hj:j∉I:=by first|decide|(simp<;>omega)):w'.heap[b]?=some gj:=h.stay hS hj
end
section
variable {P:Program} {f:FuncId} {N:Nat} {k:List Item} {env:Env} {w w':World} {R:Value->World->Prop} {Q:Exit->Act->World->Prop}
variable {ops:Array Oper} {S:World->Prop} {i t:Nat} {L:List (Nat×Bool)} {op:Op} {v:Value} {x y z:Operand} {g:Option (Nat×Bool)}
theorem cn (t T a:Nat) (c:Int) {m:Int} (h:bM P N Q ops S L ((t,.int .i64 (m+c))::env) w) (hop:cv ops i=some (some t,.binOp .add T (.tmp a) (.const (.int .i64 c)) T,none):=by kernel_rfl) (hy:look env a=some (.int .i64 m):=by exact rfl)
 (h1:-9223372036854775808<=m+c:=by omega) (h2:m+c<=9223372036854775807:=by omega) (ht:Nat.blt t N=true:=by rfl):bM P N Q ops S ((i,true)::L) env w:=ax hop (λ_=>gZ hy rfl h1 h2) h rfl ht
theorem c4 (t T a b:Nat) {kd:IntKind} {m n:Int} (h:bM P N Q ops S L ((t,.bool (decide (m<n)))::env) w) (hop:cv ops i=some (some t,.binOp .lss T (.tmp a) (.tmp b) T,none):=by kernel_rfl) (hy:look env a=some (.int kd m):=by exact rfl) (hz:look env b=some (.int kd n):=by exact rfl)
 (ht:Nat.blt t N=true:=by rfl):bM P N Q ops S ((i,true)::L) env w:=ax hop (λ_=>eO hy hz) h rfl ht
theorem dS (t a q:Nat) {vs:Array Value} (h:bM P N Q ops S L ((t,v)::env) w) (hop:cv ops i=some (some t,.extract (.tmp a) q,none):=by kernel_rfl) (hy:look env a=some (.tuple vs):=by exact rfl) (hz:vs[q]?=some v:=by exact rfl)
 (ht:Nat.blt t N=true:=by rfl):bM P N Q ops S ((i,true)::L) env w:=ax hop (λ_=>Ua hy hz) h rfl ht
theorem eE (t:Nat) (v:Value) (h:bM P N Q ops S L ((t,v)::env) w) (hop:cv ops i=some (some t,.move (.const v),none):=by kernel_rfl) (ht:Nat.blt t N=true:=by rfl):
 bM P N Q ops S ((i,true)::L) env w:=ax hop (λ_=>rF rfl) h rfl ht
theorem fJ (t gf:Nat) (zn tys:List Nat) {vs:List Value} {T:Value->World->Prop} (lE:∀args w,(callFunc gf args).run P w=.ok (.enter gf args) w) (hargs:nx env (zn.map .tmp)=some vs) (hc:Calls P gf vs.toArray w (bI T))
  (h:∀v w',T v w'->S w'/\bM P N Q ops S L ((t,v)::env) w') (hop:cv ops i=some (some t,.call {callee:=.value (.func gf),args:=(zn.map .tmp).toArray,argTypes:=tys.toArray},none):=by kernel_rfl) (ht:Nat.blt t N=true:=by rfl):bM P N Q ops S ((i,false)::L) env w:=
 iG hop rfl ht (de lE (by simpa using hargs)) hc h
end
section
variable {P:Program} {N:Nat} {env:Env} {w:World} {Q:Exit->Act->World->Prop} {ops:Array Oper} {i t:Nat} {L:List (Nat×Bool)} {op:Op} {g:Option (Nat×Bool)} {T:Value->World->Prop}
theorem bG (hop:cv ops i=some (some t,op,g)) (hw:fT ops env g=some true) (ht:Nat.blt t N=true) (hy:gY P N env op w T) (h:∀v w',T v w'->bM P N Q ops (λ_=>True) L ((t,v)::env) w'):
 bM P N Q ops (λ_=>True) ((i,false)::L) env w:=fU hop hw ht hy λv w' hT=>⟨trivial,h v w' hT⟩
theorem cq (hop:cv ops i=some (none,op,g)) (hw:fT ops env g=some true) (hy:gY P N env op w T) (h:∀v w',T v w'->bM P N Q ops (λ_=>True) L env w'):
 bM P N Q ops (λ_=>True) ((i,false)::L) env w:=od hop hw hy λv w' hT=>⟨trivial,h v w' hT⟩
theorem dN {gf:FuncId} {args:Array Value} (hop:cv ops i=some (some t,op,g)) (hw:fT ops env g=some true) (ht:Nat.blt t N=true) (hy:Enters P N env op w gf args) (hc:Calls P gf args w (bI T))
 (h:∀v w',T v w'->bM P N Q ops (λ_=>True) L ((t,v)::env) w'):bM P N Q ops (λ_=>True) ((i,false)::L) env w:=iG hop hw ht hy hc λv w' hT=>⟨trivial,h v w' hT⟩
theorem aa4 {gf:FuncId} {args:Array Value} (hop:cv ops i=some (none,op,g)) (hw:fT ops env g=some true) (hy:Enters P N env op w gf args) (hc:Calls P gf args w (bI T))
 (h:∀v w',T v w'->bM P N Q ops (λ_=>True) L env w'):bM P N Q ops (λ_=>True) ((i,false)::L) env w:=Ui hop hw hy hc λv w' hT=>⟨trivial,h v w' hT⟩
theorem bU (t gf:Nat) (zn tys:List Nat) {vs:List Value} (lE:∀args w,(callFunc gf args).run P w=.ok (.enter gf args) w) (hargs:nx env (zn.map .tmp)=some vs) (hc:Calls P gf vs.toArray w (bI T))
 (h:∀v w',T v w'->bM P N Q ops (λ_=>True) L ((t,v)::env) w') (hop:cv ops i=some (some t,.call {callee:=.value (.func gf),args:=(zn.map .tmp).toArray,argTypes:=tys.toArray},none):=by kernel_rfl) (ht:Nat.blt t N=true:=by rfl):
 bM P N Q ops (λ_=>True) ((i,false)::L) env w:=fJ t gf zn tys lE hargs hc (λv w' hT=>⟨trivial,h v w' hT⟩) hop ht
end
theorem bT {P:Program} {f:FuncId} {fn:Func} (c:Code) (N:Nat) (args:List Value) {w:World} {R:Value->World->Prop} (hf:P.funcs[f]?=some fn) (h:Run P f N [.code c] (zj 0 args) w R)
 (hb:fn.body=some c:=by kernel_rfl) (hN:fn.ntmps=N:=by kernel_rfl) (hsz:Nat.ble args.length N=true:=by kernel_rfl):Calls P f args.toArray w (bI R):=T_ args hf hb hN hsz h
theorem bP {P:Program} {f:FuncId} {N:Nat} {k:List Item} {env:Env} {w:World} {R:Value->World->Prop} {c:Code} {fn:Func} {t:Nat} {v:Value} (hf:P.funcs[f]?=some fn) (hres:fn.results=#[.tmp t]) (hR:R v w) (hv:look env t=some v:=by exact rfl) (hc:c=.ret:=by kernel_rfl):Run P f N (.code c::k) env w R:=T4 hc hf hres hv hR
def tI (place:Nat->Option (Nat×Nat)):List Value->List (Nat×List Value)->Option (List Value)
 |cells,[]=>some cells
 |cells,(i,vs)::rest=>match place i with
  |none=>none
  |some (off,size)=>if vs.length=size/\off+vs.length<=cells.length then tI place (cells.take off++vs++cells.drop (off+vs.length)) rest else none
theorem LA:∀(vs:List Value) (k off:Nat) (cs:List Value),off+k+vs.length<=cs.length->
  ((vs.zipIdx k).foldl (λ(acc:Array Value) (p:Value×Nat)=>acc.setIfInBounds (off+p.2) p.1) cs.toArray)=(cs.take (off+k)++vs++cs.drop (off+k+vs.length)).toArray
 |[],k,off,cs,h=>by simp
 |v::vs,k,off,cs,h=>by
  rw[List.length_cons] at h;rw[List.zipIdx_cons,List.foldl_cons];have e1:cs.toArray.setIfInBounds (off+k) v=(cs.set (off+k) v).toArray:=by simp
  rw[e1,LA vs (k+1) off (cs.set (off+k) v) (by simp;omega)];congr 1;have hlt:off+k<cs.length:=by omega
  rw[List.set_eq_take_append_cons_drop,if_pos hlt];have e2:off+(k+1)=(cs.take (off+k)).length+1:=by simp;omega
  have fE:off+(k+1)+vs.length=(cs.take (off+k)).length+(1+vs.length):=by simp;omega
  rw[show List.take (off+(k+1)) (cs.take (off+k)++v::cs.drop (off+k+1))=cs.take (off+k)++[v] from by
   rw[e2,List.take_append];simp[Nat.min_eq_left (Nat.le_of_lt hlt),List.take_take,Nat.min_eq_right (Nat.le_succ (off+k))]]
  rw[show List.drop (off+(k+1)+vs.length) (cs.take (off+k)++v::cs.drop (off+k+1))=cs.drop (off+k+(vs.length+1)) from by
   rw[fE,List.drop_append];simp only[Nat.add_sub_cancel_left];rw[List.drop_eq_nil_of_le (by omega),List.nil_append,Nat.add_comm 1,List.drop_succ_cons,List.drop_drop];congr 1;omega]
  simp
theorem fill_eq (place:Nat->Option (Nat×Nat)):∀(ps:List (Nat×Value)) (en:List (Nat×List Value)) (cs cs':List Value),
  ps.map (λp=>(p.1,p.2.cells))=en.map (λq=>(q.1,q.2.toArray))->tI place cs en=some cs'->Instr.fill place cs.toArray ps=some cs'.toArray
 |[],[],cs,cs',_,h=>by simp only[tI,Option.some.injEq] at h;subst h;rfl
 |[],q::en,_,_,h,_=>by simp at h
 |p::ps,[],_,_,h,_=>by simp at h
 |(i,v)::ps,(j,vs)::en,cs,cs',h,hf=>by
  simp only[List.map_cons,List.cons.injEq,Prod.mk.injEq] at h;obtain⟨⟨rfl,hv⟩,hr⟩:=h;simp only[tI] at hf;unfold Instr.fill;cases hp:place i with
  |none=>rw[hp] at hf;cases hf
  |some os=>
   obtain⟨off,size⟩:=os;rw[hp] at hf;simp only at hf⊢;split at hf
   ·rename_i hc;rw[hv];have hn:¬(vs.toArray.size≠size\/off+vs.toArray.size>cs.toArray.size):=by simp;omega
    simp only[List.size_toArray] at hn⊢;rw[if_neg (by simpa using hn)];have e: (vs.toArray.zipIdx.foldl (λ(acc:Array Value) (p:Value×Nat)=>acc.setIfInBounds (off+p.2) p.1) cs.toArray)=(cs.take off++vs++cs.drop (off+vs.length)).toArray:=by
     have:=LA vs 0 off cs (by simpa using hc.2);simpa using this
    rw[show(vs.toArray.zipIdx.foldl (λcs (x:Value×Nat)=>match x with|(c,j)=>cs.setIfInBounds (off+j) c) cs.toArray)=_ from e];exact fill_eq place ps en _ cs' hr hf
   ·cases hf
def rK (env:Env):List (Nat×Operand)->List (Nat×List Value)->Prop
 |[],[]=>True
 |(i,x)::ps,(j,vs)::en=>i=j/\(∃v,ev env x=some v/\v.cells=vs.toArray)/\rK env ps en
 |_,_=>False
def LB (P:Program) (t:TypeId):Option (List (Nat×Nat)):=match P.underlying t with
 |some (.struct fs)=>fs.toList.mapM λf=>(gR P f.type).map λn=>(f.offset,n)
 |_=>none
section
variable {P:Program} {N:Nat} {env:Env} {w:World} {t:TypeId} {ρ:Operand->Value}
theorem rK.map (hρ:∀x v,ev env x=some v->ρ x=v):∀{ps:List (Nat×Operand)} {en:List (Nat×List Value)},rK env ps en->
  (ps.map λp=>(p.1,ρ p.2)).map (λp=>(p.1,p.2.cells))=en.map (λq=>(q.1,q.2.toArray))
 |[],[],_=>rfl
 |[],_::_,h=>h.elim
 |_::_,[],h=>h.elim
 |(i,x)::ps,(j,vs)::en,h=>by
  obtain⟨rfl,⟨v,hv,hc⟩,hr⟩:=h;simp only[List.map_cons,hρ x v hv,hc];rw[rK.map hρ hr]
theorem run_map {α β:Type} (g:α->β) (s:Sem α) (w:World): (g<$>s).run P w=(s.run P w).andThen λa w'=> .ok (g a) w':=by
 show(Sem.run P (Sem.bind s (λa=>Sem.pure (g a))) w)=_;exact Sem.run_bind _ _ _ _
theorem run_places {ps:List (Nat×Nat)} {fs:Array Field} (h:fs.toList.mapM (λf=>(gR P f.type).map λn=>(f.offset,n))=some ps) (w:World):
  (fs.mapM λf=>do pure (f.offset,<-sizeOf f.type):Sem (Array (Nat×Nat))).run P w=.ok ps.toArray w:=by
 rw[Array.mapM_eq_mapM_toList];have main:∀(l:List Field) (ps:List (Nat×Nat)),l.mapM (λf=>(gR P f.type).map λn=>(f.offset,n))=some ps->
   (l.mapM λf=>do pure (f.offset,<-sizeOf f.type):Sem (List (Nat×Nat))).run P w=.ok ps w:=by
  intro l
  induction l with
  |nil=>intro ps h;simp at h;subst h;rfl
  |cons f l ih=>
   intro ps h;rw[List.mapM_cons] at h;simp only[Option.bind_eq_bind,Option.bind_eq_some_iff,Option.map_eq_some_iff,Option.pure_def,Option.some.injEq] at h;obtain⟨p,⟨n,hn,rfl⟩,en,hq,rfl⟩:=h;rw[List.mapM_cons];rw[Sem.run_bind,Sem.run_bind,kF hn,Result.andThen_ok,Sem.run_pure,Result.andThen_ok,Sem.run_bind,ih en hq,Result.andThen_ok,Sem.run_pure]
 rw[run_map,main _ _ h];rfl
theorem hU {parts:Array (Nat×Operand)} {zs cs:List Value} {ps:List (Nat×Nat)} {en:List (Nat×List Value)} (hz:sJ P t=some zs) (hp:LB P t=some ps)
  (hq:rK env parts.toList en) (hf:tI (ps[·]?) zs en=some cs):cL P N env (.build t parts) w (.agg cs.toArray):=mk' λρ hρ o ho=>by
 obtain⟨z,h1,h2⟩:=Br hz w;unfold LB at hp;split at hp
 ·rename_i fs hu;have pZ:=run_places hp w;have hmap:=rK.map hρ hq;have lI:=fill_eq (ps[·]?) (parts.toList.map λp=>(p.1,ρ p.2)) en zs cs (by rw[<-hmap]) hf;have Gm:Instr.fill (λx=>ps.toArray[x]?) z.cells (parts.map λx=>(x.1,ρ x.2)).toList=some cs.toArray:=by
   rw[h2];have: (parts.map λx=>(x.1,ρ x.2)).toList=parts.toList.map λp=>(p.1,ρ p.2):=by simp
   rw[this,<-lI];congr 1;funext x;simp
  unfold execOp;rw[ho];simp only[Instr.build,Sem.run_bind,h1,Result.andThen_ok,run_underlying hu,pZ];rw[show(parts.map λx=>match x with|(i,x)=>(i,ρ x)).toList=(parts.map λx=>(x.1,ρ x.2)).toList from rfl,Gm];rfl
 ·cases hp
end
section
variable {α:Type} [bu α] {P:Program} {N:Nat} {env:Env} {w:World} {M:Nat->Prop} {C:Nat->Nat} {t e:TypeId}
def D9 (env:Env) (w:World) (M:Nat->Prop):Nat->List (Nat×Operand)->List α->Prop
 |_,[],[]=>True
 |k,(i,x)::ps,y::ys=>i=k/\(∃v,ev env x=some v/\aB w M y v)/\D9 env w M (k+1) ps ys
 |_,_,_=>False
theorem aB.cells {x:α} {v:Value} (h:aB w M x v):∃vs,v.cells=vs.toArray/\bu.rep w.heap M x vs:=by
 cases hx:bu.agg α with
 |true=>obtain⟨vs,rfl,_,_,hr⟩:=h.many hx;exact⟨vs,rfl,hr⟩
 |false=>
  have h1:=(h.one hx).1;obtain⟨vs,hr,hv⟩:=h;have hl:=bu.len hr;rw[bu.flat hx] at hl;obtain⟨u,rfl⟩:=List.length_eq_one_iff.1 hl;simp only[hx,Bool.false_eq_true,if_false,List.headD_cons] at hv;subst hv;exact⟨[v],h1,hr⟩
theorem Gn:∀{ps:List (Nat×Operand)} {ys:List α} {k:Nat} (pre post:List Value),D9 env w M k ps ys->pre.length=k*sz α->post.length=ys.length*sz α->
  ∃en news,rK env ps en/\tI (λi=>some (i*sz α,sz α)) (pre++post) en=some (pre++news)/\news.length=ys.length*sz α/\
   ∀i (hi:i<ys.length),bu.rep w.heap M ys[i] ((news.drop (i*sz α)).take (sz α))
 |[],[],k,pre,post,_,_,hpost=>by
  have:post=[]:=List.eq_nil_of_length_eq_zero (by simpa using hpost);subst this;exact⟨[],[],trivial,by simp[tI],by simp,λi hi=>by simp at hi⟩
 |[],_::_,_,_,_,h,_,_=>h.elim
 |_::_,[],_,_,_,h,_,_=>h.elim
 |(i,x)::ps,y::ys,k,pre,post,h,hpre,hpost=>by
  obtain⟨rfl,⟨v,hv,hr⟩,Uq⟩:=h;obtain⟨vs,hc,zq⟩:=hr.cells;have hl:=bu.len zq;rw[List.length_cons,Nat.succ_mul] at hpost;obtain⟨en,news,h1,h2,h3,h4⟩:=Gn (k:=i+1) (pre++vs) (post.drop (sz α)) Uq (by rw[List.length_append,hpre,hl,Nat.succ_mul]) (by rw[List.length_drop,hpost];omega);refine⟨(i,vs)::en,vs++news,⟨rfl,⟨v,hv,hc⟩,h1⟩,?_,?_,?_⟩
  ·simp only[tI];rw[if_pos ⟨hl,by rw[List.length_append,hpre,hl,hpost];omega⟩];rw[show List.take (i*sz α) (pre++post)=pre from by rw[<-hpre];exact List.take_left,show List.drop (i*sz α+vs.length) (pre++post)=post.drop (sz α) from by rw[<-hpre,hl,List.drop_append];simp];rw[h2,List.append_assoc]
  ·rw[List.length_append,hl,h3,List.length_cons,Nat.succ_mul];omega
  ·intro j hj;cases j with
   |zero=>simpa[<-hl] using zq
   |succ j=>
    have:=h4 j (by simpa using hj);rw[show(j+1)*sz α=vs.length+j*sz α from by rw[hl,Nat.succ_mul];omega,List.drop_append,List.drop_eq_nil_of_le (Nat.le_add_right vs.length (j*sz α))];simpa using this
theorem f_ {n bytes:Nat} {parts:Array (Nat×Operand)} {ys:List α} (hF:aL w C) (hrow:oU P t e (sz α) bytes=true) (hn:n=ys.length) (oe:n*sz α<=16777216) (hsz:0<sz α)
  (hp:D9 env w (aA C) 0 parts.toList ys):
  gY P N env (.buildSlice t n parts) w (λv w'=>ay [] w C w' C/\aB w' (aA C) ys v/\aL w' C):=oT λρ hρ fe gG=>by
 subst hn;obtain⟨i,z,hu,hi,hsi,hby,hz,hzs⟩:=uW hrow
 let zs:List Value:=((Array.range (ys.length*sz α)).map λj=>(if ys.length*sz α=0 then(#[]:Array Value) else z.cells)[j%(if ys.length*sz α=0 then(#[]:Array Value) else z.cells).size]!).toList
 obtain⟨en,news,h1,h2,h3,h4⟩:=Gn (k:=0) [] zs hp (by simp) (by simp[zs]);simp only[List.nil_append] at h2;have hmap:=rK.map hρ h1;have lI:=fill_eq _ (parts.toList.map λp=>(p.1,ρ p.2)) en zs news (by rw[<-hmap]) h2;have hnew:=tH w (.cells news.toArray e);have hrun: (Instr.buildSlice t ys.length (parts.map λx=>(x.1,ρ x.2))).run P w=.ok (.slice (some ⟨w.heap.size,0,none⟩) ys.length ys.length) (w.alloc (.cells news.toArray e)):=by
  have hle:¬(ys.length*sz α>2^24):=by omega
  have pZ: (parts.map λx=>(x.1,ρ x.2)).toList=parts.toList.map λp=>(p.1,ρ p.2):=by simp
  have BG: (sizeOf e).run P w=.ok (sz α) w:=by simp[sizeOf,typeInfo,hi,hsi]
  unfold Instr.buildSlice;simp only[Sem.run_bind,run_underlying hu,Result.andThen_ok,BG,if_neg hle,Sem.run_pure,pZ];by_cases h0:ys.length*sz α=0
  ·have rH:zs=((Array.range (ys.length*sz α)).map λj=>(#[]:Array Value)[j%(#[]:Array Value).size]!).toList:=by simp only[zs,h0,if_true]
   rw[rH] at lI;simp only[h0,if_true,Sem.run_bind,Sem.run_pure,Result.andThen_ok] at lI⊢;simp only[Array.toArray_toList] at lI;rw[lI];simp[newRow]
  ·have rH:zs=((Array.range (ys.length*sz α)).map λj=>z.cells[j%z.cells.size]!).toList:=by simp only[zs,h0,if_false]
   rw[rH] at lI;have Gp: (zeroValue e).run P w=.ok z w:=by simp[zeroValue,typeInfo,hi,hz]
   simp only[h0,if_false,Sem.run_bind,Gp,Sem.run_pure,Result.andThen_ok];simp only[Array.toArray_toList] at lI;rw[lI];simp[newRow]
 refine⟨.slice (some ⟨w.heap.size,0,none⟩) ys.length ys.length,w.alloc (.cells news.toArray e),.inl ?_,hnew.st C,?_,hF.st (hnew.st C)⟩
 ·unfold execOp;rw[gG];simp only[Sem.run_bind];rw[show(parts.map λx=>match x with|(i,x)=>(i,ρ x))=(parts.map λx=>(x.1,ρ x.2)) from rfl,hrun];rfl
 ·refine jx.2 ⟨_,_,rfl,Nat.le_refl _,?_,.inr ⟨w.heap.size,0,rfl,λhm=>?_,news.toArray,e,(0,0),hnew.at_,?_,λi hi=>?_⟩⟩
  ·have:ys.length<=ys.length*sz α:=Nat.le_mul_of_pos_right _ hsz;omega
  ·have:=hF _ hm;omega
  ·simp only[Nat.zero_add,List.size_toArray,h3];exact Nat.le_refl _
  ·have:=h4 i hi;rw[Nat.zero_add];exact bu.keep this (λb hb hm=>hnew.ext.block b hb (λh=>h))
end
section
variable {P:Program} {N:Nat} {env:Env} {w:World} {C:Nat->Nat} {y z:Operand} {t ty:TypeId} {v:Value} {b j n:Nat}
theorem dX {cs vs:List Value} (hx:ev env y=some (.pointer (some ⟨b,0,none⟩))) (hy:ev env z=some v) (hs:gR P t=some n)
  (hv:v.cells=vs.toArray) (hl:vs.length=n) (h1:∀u∈vs,u.oneCell'=true) (hb:cD w C j b (.cells cs.toArray ty)) (ho:cs.length=n):
  gY P N env (.store t y z) w (λu w'=>u=undef/\ay [j] w C w' C/\cD w' C j b (.cells vs.toArray ty)):=λa ha fe gG=>by
 obtain⟨u,w',h2,h3,h4,h5⟩:=Uj (P:=P) (N:=N) (w:=w) (o:=0) hx hy hs hv hl h1 hb (by omega) a ha fe gG;have e:List.take 0 cs++vs++List.drop (0+n) cs=vs:=by
  rw[List.drop_eq_nil_of_le (by omega)];simp
 rw[e] at h5;exact⟨u,w',h2,h3,h4,h5⟩
end
structure Raw (n:Nat) where
 vals:List Value
 len:vals.length=n
 one:∀v∈vals,v.oneCell'=true
instance {n:Nat}:bu (Raw n) where
 sz:=n
 agg:=true
 flat h:=by cases h
 rep _ _ x vs:=vs=x.vals
 len h:=by subst h;rename_i x;exact x.len
 one h:=by subst h;rename_i x;exact x.one
 keep h _:=h
 sub h _:=h
structure Block where
 hash:Int
 ids:List Int
instance:bu Block:=bu.via (λb:Block=>((⟨b.hash⟩:jk),b.ids))
structure av where
 a:Int
 b:Int
 deriving DecidableEq
instance:bu av:=bu.via (λc:av=>(c.a,c.b))
section
variable {w:World} {M:Nat->Prop} {b o:Nat} {v:Value}
theorem eA {x:av}:aB w M x v↔v=.agg #[.int .i64 x.a,.int .i64 x.b]:=
 ⟨λh=>by
   obtain⟨vs,⟨us,ws,rfl,h1,h2⟩,hv⟩:=h;have sK:us=[.int .i64 x.a]:=h1;have Gq:ws=[.int .i64 x.b]:=h2;subst sK;subst Gq;exact hv,
  λh=>⟨[.int .i64 x.a,.int .i64 x.b],⟨_,_,rfl,rfl,rfl⟩,h⟩⟩
end
structure gH where
 list:List Int
 at_:Nat
 state:Int
def gH.x (d:gH):Int:=if h:d.at_<d.list.length then IntKind.u64.wrap d.list[d.at_] else 0
def mix (s x:Int):Int:=IntKind.u64.wrap (IntKind.u64.wrap (IntKind.u64.wrap (s+x)*6364136223846793005)+1442695040888963407)
def Gs (s:Int):Int:=bitsOf .xor .u64 s (s.fdiv (2^min (33:Int).toNat IntKind.u64.bits))
def Gt (y:Int):Int:=bitsOf .xor .u64 y (y.fdiv (2^min (29:Int).toNat IntKind.u64.bits))
def gH.next (d:gH):gH:={list:=d.list,at_:=if d.at_<d.list.length then d.at_+1 else d.at_,state:=mix d.state d.x}
def gH.word (d:gH):Int:=Gt (IntKind.u64.wrap (Gs d.next.state*18397679294719823053))
theorem LC (n:Int):0<=IntKind.u64.wrap n/\IntKind.u64.wrap n<18446744073709551616:=by
 have h:IntKind.u64.wrap n=n%18446744073709551616:=by simp[IntKind.wrap,IntKind.signed,IntKind.bits]
 rw[h];exact⟨Int.emod_nonneg _ (by decide),Int.emod_lt_of_pos _ (by decide)⟩
theorem gH.Ur (d:gH):0<=d.word/\d.word<18446744073709551616:=LC _
def gH.num (d:gH) (n:Int):Int:=if n<1 then 0 else(d.word/2)%n
def gH.after (d:gH) (n:Int):gH:=if n<1 then d else d.next
theorem gH.Us (d:gH) {n:Int} (h:1<=n):0<=d.num n/\d.num n<n:=by
 unfold gH.num;rw[if_neg (by omega)];exact⟨Int.emod_nonneg _ (by omega),Int.emod_lt_of_pos _ (by omega)⟩
theorem gH.Ut (d:gH) (n:Int): (d.after n).list=d.list:=by unfold gH.after;split<;>rfl
def k4 (t:TypeId) (w:World) (C:Nat->Nat) (i b:Nat) (d:gH):Prop:=
 d.at_<=d.list.length/\∃v,aB w (aA C) d.list v/\cD w C i b (.cells [v,.int .i64 d.at_,.int .u64 d.state].toArray t)
section
variable {t:TypeId} {w w':World} {C aQ:Nat->Nat} {i b:Nat} {d:gH} {I:List Nat}
theorem k4.st (h:k4 t w C i b d) (hs:ay I w C w' aQ) (h0:0∉I) (hi:i∉I):k4 t w' aQ i b d:=by
 obtain⟨h1,v,h2,h3⟩:=h;exact⟨h1,v,h2.st hs h0,h3.st hs hi⟩
theorem k4.eu (h:k4 t w C i b d) (hi:i≠0):k4 t w (eu C i) 2 b d:=by
 obtain⟨h1,v,h2,h3⟩:=h;exact⟨h1,v,by rw[xg];exact h2,h3.eu hi⟩
theorem k4.dM (h:k4 t w C i b d) {n:Nat} (hi:i<n):k4 t w (K.dM n C) i b d:=by
 obtain⟨h1,v,h2,h3⟩:=h;exact⟨h1,v,h2.dM n,h3.dM hi⟩
theorem k4.out {w₀:World} {jP:Nat->Nat} (h:k4 t w' aQ 2 b d) (hs:ay I w₀ (K.eu jP i) w' aQ) (hF:aL w₀ jP) (hb:jP b=i):k4 t w' jP i b d:=by
 obtain⟨h1,v,h2,h3⟩:=h;exact⟨h1,v,h2.out hs hF (xg jP i),⟨hb,h3.at_⟩⟩
end
section
variable {α:Type} [bu α] {w w':World} {C aQ:Nat->Nat} {P:Program} {N:Nat} {env:Env} {x y z q:Operand} {t ty e:TypeId} {v u:Value} {xs:List α} {j b g n:Nat}
theorem LD {zs:List Value} {s:Nat} (hz:zs.length=s) {c i:Nat} (h:i<c):dB (madeCells zs.toArray (c*s)) (i*s) s=zs:=by
 apply List.ext_getElem?;intro k;have hb: (i+1)*s<=c*s:=Nat.mul_le_mul_right s h;rw[Nat.succ_mul] at hb;simp only[dB,List.getElem?_take,List.getElem?_drop];split
 ·rename_i hk;have h1:i*s+k<c*s:=by omega
  have h2: (i*s+k)%s=k:=by rw[Nat.mul_comm,Nat.mul_add_mod];exact Nat.mod_eq_of_lt hk
  simp[madeCells,h1,hz,h2,List.getElem?_eq_getElem (show k<zs.length by omega)]
 ·rename_i hk;rw[List.getElem?_eq_none (by omega)]
theorem zu {bytes l c:Nat} {kl kc:IntKind} {x0:α} {zs:List Value} (hF:aL w C) (hj:j≠0) (hrow:oU P t e (sz α) bytes=true) (zw:sJ P e=some zs)
  (hy:ev env y=some (.int kl l)) (hz:ev env z=some (.int kc c)) (hlc:l<=c) (hlen:bytes*c<=140737488355328) (h63:c<=140737488355328) (h0:∀h M,rep h M x0 zs):
  gY P N env (.makeSlice t y z) w (λv w'=>∃aQ,ay [] w C w' aQ/\bh w' aQ j e v (List.replicate l x0)/\aL w' aQ):=oT λρ hρ fe gG=>by
 obtain⟨i,j9,hu,hi,hsi,hby,D_,hzs⟩:=uW hrow;have tJ:j9.cells=zs.toArray:=by
  unfold sJ at zw;rw[hi] at zw;simp[D_] at zw;rw[<-zw]
 have hzl:zs.length=sz α:=by rw[<-hzs,tJ];simp
 have hbc: (i.bytes:Int)*c<=281474976710656:=by
  have: ((bytes*c:Nat):Int)<=140737488355328:=by omega
  rw[Int.natCast_mul] at this;rw[hby];omega
 have hr:=run_make (P:=P) w t e i j9 hu hi D_ kl kc l c (by omega) (by omega) hbc (by omega);simp only[Int.toNat_natCast,hsi,tJ] at hr;have hn:=tH w (.cells (madeCells zs.toArray (c*sz α)) e (0,0));obtain⟨aQ,h1,h2,h3⟩:=hn.own hF j;refine⟨_,_,.inl ?_,aQ,h1,⟨.inr ⟨w.heap.size,c,madeCells zs.toArray (c*sz α),by rw[List.length_replicate],?_,h2.at_,by rw[List.length_replicate];exact hlc,by simp[madeCells],λk hk=>?_⟩,λb hb=>?_⟩,h3⟩
 ·unfold execOp;rw[gG];simp only[hρ _ _ hy,hρ _ _ hz,Sem.run_bind];rw[hr];rfl
 ·unfold aA;rw[h2.col];exact hj
 ·rw[List.length_replicate] at hk;rw[LD hzl (show k<c by omega),List.getElem_replicate];exact h0 _ _
 ·simp only[di,Value.ownBlock,Option.some.injEq] at hb;subst hb;exact h2.col
theorem bh.tK (h:bh w C j e v xs) (hne:0<xs.length):∃g cap cs,v=.slice (some ⟨g,0,none⟩) xs.length cap/\C g=j/\aA C g/\w.heap[g]?=some (.cells cs e (0,0))/\xs.length<=cap/\cs.size=cap*sz α/\
  ∀i (hi:i<xs.length),rep w.heap (aA C) xs[i] (dB cs (i*sz α) (sz α)):=by
 rcases h.own with⟨_,rfl⟩|⟨g,cap,cs,hv,hg,hc,h1,h2,h3⟩
 ·simp at hne
 ·exact⟨g,cap,cs,hv,h.col g (by subst hv;rfl),hg,hc,h1,h2,h3⟩
theorem bh.index (h:bh w C j e v xs) (hy:ev env y=some v) {e':Nat} {kd:IntKind} {i:Int} (hf:jd P t=some (e',sz α)) (hz:ev env z=some (.int kd i)) (h0:0<=i) (h1:i<xs.length):
  ∃g,di v g/\∀w',cL P N env (.indexAddr t y z) w' (.pointer (some ⟨g,i.toNat*sz α,none⟩)):=by
 obtain⟨g,cap,cs,rfl,_,_,hc,_⟩:=h.tK (by omega);refine⟨g,rfl,λw'=>?_⟩;have:=Gd (P:=P) (N:=N) (w:=w') hf hy hz h0 h1;rwa [Nat.zero_add] at this
theorem bh.load (h:bh w C j e v xs) (hg:di v g) {i:Nat} (hi:i<xs.length) (ha:iF P t=some false) (hx:bu.agg α=false) (hy:ev env y=some (.pointer (some ⟨g,i*sz α,none⟩))):
  ∃u,aB w (aA C) xs[i] u/\∀w',w'.heap[g]?=w.heap[g]?->cL P N env (.load t y) w' u:=by
 obtain⟨g',cap,cs,rfl,_,_,hc,h1,h2,h3⟩:=h.tK (by omega);simp only[di,Value.ownBlock,Option.some.injEq] at hg;subst hg;have hr:=h3 i hi;have hl:=bu.len hr;rw[bu.flat hx] at hr hl;obtain⟨u,hu⟩:=List.length_eq_one_iff.1 hl;rw[hu] at hr;refine⟨u,zk hr hx,λw' hw=>?_⟩;have Uu:cs[i*1]?=some u:=by
  have:=congrArg (λl=>l[0]?) hu;simpa[dB] using this
 refine oQ (cs:=cs.toList) (by rw[hw];simpa using hc) ha ?_ hy;rw[bu.flat hx];simpa using Uu
theorem bh.Bq (h:bh w C j e v xs) (hg:di v g) {i:Nat} (hi:i<xs.length) (ha:iF P t=some true) (hs:gR P t=some (sz α)) (hx:bu.agg α=true) (hy:ev env y=some (.pointer (some ⟨g,i*sz α,none⟩))):
  ∃u,aB w (aA C) xs[i] u/\∀w',w'.heap[g]?=w.heap[g]?->cL P N env (.load t y) w' u:=by
 obtain⟨g',cap,cs,rfl,_,_,hc,h1,h2,h3⟩:=h.tK (by omega);simp only[di,Value.ownBlock,Option.some.injEq] at hg;subst hg;have hr:=h3 i hi;refine⟨.agg (dB cs (i*sz α) (sz α)).toArray,⟨_,hr,by simp[hx]⟩,λw' hw=>?_⟩;exact gT (cs:=cs.toList) (by rw[hw];simpa using hc) ha hs rfl (bu.len hr) hy
theorem gw {x0:α} {i:Nat} (h:bh w C j e v xs) (hg:di v g) (hi:i<xs.length) (hy:ev env y=some (.pointer (some ⟨g,i*sz α,none⟩))) (hz:ev env z=some u) (hs:gR P t=some (sz α)) (hr:aB w (aA C) x0 u):
  gY P N env (.store t y z) w (λu' w'=>u'=undef/\ay [j] w C w' C/\bh w' C j e v (xs.set i x0)):=λa ha fe gG=>by
 obtain⟨g',cap,cs,rfl,nC,gU,hc,h1,h2,h3⟩:=h.tK (by omega);simp only[di,Value.ownBlock,Option.some.injEq] at hg;subst hg;obtain⟨vs,hv,zq⟩:=hr.cells;have hb: (i+1)*sz α<=cap*sz α:=Nat.mul_le_mul_right _ (by omega);rw[Nat.succ_mul] at hb;have hvl:=bu.len zq;obtain⟨u',w',k1,k2,BH⟩:=Gf (P:=P) (N:=N) (cs:=cs.toList) (n:=sz α) (vs:=vs) hy hz hs hv hvl (bu.one zq) (by simpa using hc) (by simp only[Array.length_toList];omega) a ha fe gG;have hst:ay [j] w C w' C:=⟨BH.ext.mono (λb _ hb=>by rw[show b=g' from hb,nC];simp),λ_ _=>rfl⟩
 have keep:∀{x:α} {vs:List Value},rep w.heap (aA C) x vs->rep w'.heap (aA C) x vs:=λhr=>bu.keep hr (λb hb hn=>BH.ext.block b hb (λe=>hn (by rw[show b=g' from e];exact gU)));refine⟨u',w',k1,k2,hst,⟨.inr ⟨g',cap,_,by rw[List.length_set],gU,BH.at_,by rw[List.length_set];exact h1,?_,λk hk=>?_⟩,h.col⟩⟩
 ·simp only[List.size_toArray,List.length_append,List.length_take,List.length_drop,Array.length_toList,hvl];omega
 ·rw[List.length_set] at hk;rw[List.getElem_set];split
  ·rename_i hik;subst hik;have:dB (cs.toList.take (i*sz α)++vs++cs.toList.drop (i*sz α+sz α)).toArray (i*sz α) (sz α)=vs:=by
    unfold dB;simp only[List.append_assoc];rw[List.drop_append_of_le_length (by simp only[List.length_take,Array.length_toList];omega),List.drop_eq_nil_of_le (by simp only[List.length_take];omega),List.nil_append,<-hvl,List.take_left]
   rw[this];exact keep zq
  ·rename_i hik;have:dB (cs.toList.take (i*sz α)++vs++cs.toList.drop (i*sz α+sz α)).toArray (k*sz α) (sz α)=dB cs (k*sz α) (sz α):=qy (λm hm=>by
    rw[show∀(l:List Value) (p:Nat),l.toArray[p]?=l[p]? from λl p=>by simp,<-Array.getElem?_toList];rcases Nat.lt_or_ge k i with hlt|hge
    ·have:=Nat.mul_le_mul_right (sz α) (show k+1<=i from hlt);rw[Nat.succ_mul] at this;rw[List.append_assoc,List.getElem?_append_left (by simp only[List.length_take,Array.length_toList];omega),List.getElem?_take,if_pos (by omega)]
    ·have:=Nat.mul_le_mul_right (sz α) (show i+1<=k by omega);rw[Nat.succ_mul] at this;rw[List.getElem?_append_right (by simp only[List.length_append,List.length_take,Array.length_toList,hvl];omega),List.getElem?_drop];congr 1;simp only[List.length_append,List.length_take,Array.length_toList,hvl];omega)
   rw[this];exact keep (h3 k hk)
end
section
variable {α:Type} [bu α] {w:World} {C:Nat->Nat} {P:Program} {f:FuncId} {N:Nat} {k:List Item} {R:Value->World->Prop} {Q:Exit->Act->World->Prop} {env:Env} {ops:Array Oper} {S:World->Prop} {i t:Nat} {L:List (Nat×Bool)} {v:Value} {y z:Operand} {gO:Option (Nat×Bool)} {ty e e':TypeId} {xs:List α} {j g:Nat} {kd:IntKind} {n:Int}
theorem xh (hop:cv ops i=some (some t,.indexAddr ty y z,gO)) (hw:fT ops env gO=some true) (ht:Nat.blt t N=true) (hl:bh w C j e v xs) (hy:ev env y=some v)
  (hf:jd P ty=some (e',sz α)) (hz:ev env z=some (.int kd n)) (h0:0<=n) (h1:n<xs.length)
  (h:∀g,di v g->bM P N Q ops S L ((t,.pointer (some ⟨g,n.toNat*sz α,none⟩))::env) w):bM P N Q ops S ((i,true)::L) env w:=by
 obtain⟨g,h2,h3⟩:=hl.index (P:=P) (N:=N) hy hf hz h0 h1;exact eT hop hw ht (λw' _=>h3 w') (h g h2)
theorem qA {i':Nat} (hop:cv ops i=some (some t,.load ty y,gO)) (hw:fT ops env gO=some true) (ht:Nat.blt t N=true) (hS:S w) (hl:bh w C j e v xs) (hg:di v g) (hi:i'<xs.length) (ha:iF P ty=some false) (hx:bu.agg α=false)
  (hy:ev env y=some (.pointer (some ⟨g,i'*sz α,none⟩))) (h:∀v,aB w (aA C) xs[i'] v->bM P N Q ops S L ((t,v)::env) w):bM P N Q ops S ((i,false)::L) env w:=by
 obtain⟨v,h2,h3⟩:=hl.load (P:=P) (N:=N) hg hi ha hx hy;exact jl hop hw ht hS (h3 w rfl) (h v h2)
theorem lJ {i':Nat} (hop:cv ops i=some (some t,.load ty y,gO)) (hw:fT ops env gO=some true) (ht:Nat.blt t N=true) (hS:S w) (hl:bh w C j e v xs) (hg:di v g) (hi:i'<xs.length) (ha:iF P ty=some true) (hs:gR P ty=some (sz α)) (hx:bu.agg α=true)
  (hy:ev env y=some (.pointer (some ⟨g,i'*sz α,none⟩))) (h:∀v,aB w (aA C) xs[i'] v->bM P N Q ops S L ((t,v)::env) w):bM P N Q ops S ((i,false)::L) env w:=by
 obtain⟨v,h2,h3⟩:=hl.Bq (P:=P) (N:=N) hg hi ha hs hx hy;exact jl hop hw ht hS (h3 w rfl) (h v h2)
theorem bh.stay {w':World} {I:List Nat} (h:bh w C j e v xs) (hg:di v g) (hS:Ext (λb=>C b∈I) w w') (hj:j∉I):w'.heap[g]?=w.heap[g]?:=
 hS.block g (h.own.gj g hg).2 (by rw[h.col g hg];exact hj)
theorem bh.bF {w':World} {I:List Nat} (h:bh w C j e v xs) (hg:di v g) (hS:Ext (λb=>C b∈I) w w') (hj:j∉I:=by first|decide|(simp<;>omega)):w'.heap[g]?=w.heap[g]?:=h.stay hg hS hj
theorem oV {i':Nat} {I:List Nat} (hop:cv ops i=some (some t,.load ty y,gO)) (hw:fT ops env gO=some true) (ht:Nat.blt t N=true) (hl:bh w C j e v xs) (hg:di v g) (hst:∀w',S w'->w'.heap[g]?=w.heap[g]?) (hi:i'<xs.length) (ha:iF P ty=some false) (hx:bu.agg α=false)
  (hy:ev env y=some (.pointer (some ⟨g,i'*sz α,none⟩))) (h:∀v,aB w (aA C) xs[i'] v->bM P N Q ops S L ((t,v)::env) w):bM P N Q ops S ((i,true)::L) env w:=by
 obtain⟨v,h2,h3⟩:=hl.load (P:=P) (N:=N) hg hi ha hx hy;exact eT hop hw ht (λw' hS=>h3 w' (hst w' hS)) (h v h2)
theorem nD {i':Nat} {I:List Nat} (hop:cv ops i=some (some t,.load ty y,gO)) (hw:fT ops env gO=some true) (ht:Nat.blt t N=true) (hl:bh w C j e v xs) (hg:di v g) (hst:∀w',S w'->w'.heap[g]?=w.heap[g]?) (hi:i'<xs.length) (ha:iF P ty=some true) (hs:gR P ty=some (sz α)) (hx:bu.agg α=true)
  (hy:ev env y=some (.pointer (some ⟨g,i'*sz α,none⟩))) (h:∀v,aB w (aA C) xs[i'] v->bM P N Q ops S L ((t,v)::env) w):bM P N Q ops S ((i,true)::L) env w:=by
 obtain⟨v,h2,h3⟩:=hl.Bq (P:=P) (N:=N) hg hi ha hs hx hy;exact eT hop hw ht (λw' hS=>h3 w' (hst w' hS)) (h v h2)
end
section
variable {α:Type} [bu α] {w w1:World} {M:Nat->Prop} {C:Nat->Nat} {P:Program} {N:Nat} {Q:Exit->Act->World->Prop} {env:Env} {ops:Array Oper} {S:World->Prop} {i:Nat} {L:List (Nat×Bool)} {v:Value} {e1:TypeId} {xs:List α} {j:Nat} {kd:IntKind} {n:Int}
theorem c5 (e t ty a b:Nat) (hl:aB w1 M xs v) (hz:look env b=some (.int kd n)) (hop:cv ops i=some (some t,.indexAddr ty (.tmp a) (.tmp b),none):=by kernel_rfl) (hy:look env a=some v:=by exact rfl) (hf:jd P ty=some (e,sz α):=by kernel_rfl)
 (h0:0<=n:=by omega) (h1:n<xs.length:=by omega) (ht:Nat.blt t N=true:=by rfl) (h:∀b o,dJ w1 M (xs[n.toNat]'(by omega)) b o->bM P N Q ops S L ((t,.pointer (some ⟨b,o,none⟩))::env) w):bM P N Q ops S ((i,true)::L) env w:=iS hop rfl ht hl hy hf hz h0 h1 h
theorem dK (e' t ty a b:Nat) (hl:bh w C j e1 v xs) (hz:look env b=some (.int kd n)) (h1:n<xs.length) (hop:cv ops i=some (some t,.indexAddr ty (.tmp a) (.tmp b),none):=by kernel_rfl) (hy:look env a=some v:=by exact rfl) (hf:jd P ty=some (e',sz α):=by kernel_rfl)
 (h0:0<=n:=by omega) (ht:Nat.blt t N=true:=by rfl) (h:∀g,di v g->bM P N Q ops S L ((t,.pointer (some ⟨g,n.toNat*sz α,none⟩))::env) w):bM P N Q ops S ((i,true)::L) env w:=xh hop rfl ht hl hy hf hz h0 h1 h
theorem cH (t T a:Nat) {b o:Nat} {cs:List Value} {ty:TypeId} {eP:Nat×Nat} (hc:w.heap[b]?=some (.cells cs.toArray ty eP)) (hy:look env a=some (.pointer (some ⟨b,o,none⟩))) (hv:cs[o]?=some v) (h:bM P N Q ops (λ_=>True) L ((t,v)::env) w)
 (hop:cv ops i=some (some t,.load T (.tmp a),none):=by kernel_rfl) (ha:iF P T=some false:=by kernel_rfl) (ht:Nat.blt t N=true:=by rfl):bM P N Q ops (λ_=>True) ((i,false)::L) env w:=jl hop rfl ht trivial (oQ hc ha hv hy) h
theorem zE (t a T:Nat) (hv:∀w',cL P N env (.call {callee:=.builtin .len,args:=#[.tmp a],argTypes:=#[T]}) w' v) (h:bM P N Q ops S L ((t,v)::env) w)
 (hop:cv ops i=some (some t,.call {callee:=.builtin .len,args:=#[.tmp a],argTypes:=#[T]},none):=by kernel_rfl) (ht:Nat.blt t N=true:=by rfl):bM P N Q ops S ((i,true)::L) env w:=eT hop rfl ht (λw' _=>hv w') h
theorem oW (t a T g:Nat) (b:Bool) (hv:∀w',cL P N env (.call {callee:=.builtin .len,args:=#[.tmp a],argTypes:=#[T]}) w' v) (h:bM P N Q ops S L ((t,v)::env) w)
 (hop:cv ops i=some (some t,.call {callee:=.builtin .len,args:=#[.tmp a],argTypes:=#[T]},some (g,b)):=by kernel_rfl) (hw:fT ops env (some (g,b))=some true:=by rfl) (ht:Nat.blt t N=true:=by rfl):bM P N Q ops S ((i,true)::L) env w:=eT hop hw ht (λw' _=>hv w') h
theorem cA (t T a n:Nat) {b o:Nat} {cs:List Value} {ty:TypeId} {eP:Nat×Nat} (vs:List Value) (hc:w.heap[b]?=some (.cells cs.toArray ty eP)) (h:bM P N Q ops (λ_=>True) L ((t,.agg vs.toArray)::env) w)
 (hop:cv ops i=some (some t,.load T (.tmp a),none):=by kernel_rfl) (ha:iF P T=some true:=by kernel_rfl) (hs:gR P T=some n:=by kernel_rfl) (hy:look env a=some (.pointer (some ⟨b,o,none⟩)):=by exact rfl) (hv: (cs.drop o).take n=vs:=by exact rfl) (hl:vs.length=n:=by exact rfl) (ht:Nat.blt t N=true:=by rfl):
 bM P N Q ops (λ_=>True) ((i,false)::L) env w:=jl hop rfl ht trivial (gT hc ha hs hv hl hy) h
theorem iq (t T a g:Nat) (bb:Bool) (n:Nat) {b o:Nat} {cs:List Value} {ty:TypeId} {eP:Nat×Nat} (vs:List Value) (hc:w.heap[b]?=some (.cells cs.toArray ty eP)) (h:bM P N Q ops (λ_=>True) L ((t,.agg vs.toArray)::env) w)
 (hop:cv ops i=some (some t,.load T (.tmp a),some (g,bb)):=by kernel_rfl) (hw:fT ops env (some (g,bb))=some true:=by rfl) (ha:iF P T=some true:=by kernel_rfl) (hs:gR P T=some n:=by kernel_rfl) (hy:look env a=some (.pointer (some ⟨b,o,none⟩)):=by exact rfl) (hv: (cs.drop o).take n=vs:=by exact rfl) (hl:vs.length=n:=by exact rfl) (ht:Nat.blt t N=true:=by rfl):
 bM P N Q ops (λ_=>True) ((i,false)::L) env w:=jl hop hw ht trivial (gT hc ha hs hv hl hy) h
theorem dV (t T a g:Nat) (bb:Bool) {b o:Nat} {cs:List Value} {ty:TypeId} {eP:Nat×Nat} (hc:w.heap[b]?=some (.cells cs.toArray ty eP)) (h:bM P N Q ops (λ_=>True) L ((t,v)::env) w)
 (hop:cv ops i=some (some t,.load T (.tmp a),some (g,bb)):=by kernel_rfl) (hw:fT ops env (some (g,bb))=some true:=by rfl) (ha:iF P T=some false:=by kernel_rfl) (hy:look env a=some (.pointer (some ⟨b,o,none⟩)):=by exact rfl) (hv:cs[o]?=some v:=by exact rfl) (ht:Nat.blt t N=true:=by rfl):
 bM P N Q ops (λ_=>True) ((i,false)::L) env w:=jl hop hw ht trivial (oQ hc ha hv hy) h
theorem gN (t T a n:Nat) {b o:Nat} {cs:List Value} {ty:TypeId} {eP:Nat×Nat} (vs:List Value) (hc:∀{w':World},S w'->w'.heap[b]?=some (.cells cs.toArray ty eP)) (h:bM P N Q ops S L ((t,.agg vs.toArray)::env) w)
 (hop:cv ops i=some (some t,.load T (.tmp a),none):=by kernel_rfl) (ha:iF P T=some true:=by kernel_rfl) (hs:gR P T=some n:=by kernel_rfl) (hy:look env a=some (.pointer (some ⟨b,o,none⟩)):=by exact rfl) (hv: (cs.drop o).take n=vs:=by exact rfl) (hl:vs.length=n:=by exact rfl) (ht:Nat.blt t N=true:=by rfl):
 bM P N Q ops S ((i,true)::L) env w:=eT hop rfl ht (λ_ hS=>gT (hc hS) ha hs hv hl hy) h
theorem eB (t T a:Nat) {b o:Nat} {cs:List Value} {ty:TypeId} {eP:Nat×Nat} (hc:∀{w':World},S w'->w'.heap[b]?=some (.cells cs.toArray ty eP)) (h:bM P N Q ops S L ((t,v)::env) w)
 (hop:cv ops i=some (some t,.load T (.tmp a),none):=by kernel_rfl) (ha:iF P T=some false:=by kernel_rfl) (hy:look env a=some (.pointer (some ⟨b,o,none⟩)):=by exact rfl) (hv:cs[o]?=some v:=by exact rfl) (ht:Nat.blt t N=true:=by rfl):
 bM P N Q ops S ((i,true)::L) env w:=eT hop rfl ht (λ_ hS=>oQ (hc hS) ha hv hy) h
end
theorem ej {P:Program} {N:Nat} {env:Env} {op:Op} {w:World} {p:Prop} [Decidable p] (h:cL P N env op w (.bool (decide p))) (hp:¬p):cL P N env op w (.bool false):=by rwa [decide_eq_false hp] at h
theorem sL {P:Program} {N:Nat} {env:Env} {op:Op} {w:World} {p:Prop} [Decidable p] (h:cL P N env op w (.bool (decide p))) (hp:p):cL P N env op w (.bool true):=by rwa [decide_eq_true hp] at h
theorem z9 (w:World) (C:Nat->Nat):ay [2,3,4,5,6,7,8,9] w (bq C) w (bq C):=ay.refl _ _ _
theorem gx {vs:List Value} (h:vs.all (·.oneCell')=true):∀u∈vs,u.oneCell'=true:=List.all_eq_true.1 h
theorem iQ:∀u∈([]:List Value),u.oneCell'=true:=λ_ h=>nomatch h
theorem iT {v:Value} {vs:List Value} (h:v.oneCell'=true) (t:∀u∈vs,u.oneCell'=true):∀u∈v::vs,u.oneCell'=true:=λ_ hu=>(List.mem_cons.1 hu).elim (λe=>e▸h) (t _)
theorem aP (n:Nat): (n:Int).toNat=n:=rfl
theorem bh.u {α:Type} [bu α] {w w':World} {C aQ:Nat->Nat} {I:List Nat} {j:Nat} {e:TypeId} {v:Value} {ys:List α} (h:bh w C j e v ys) (hs:ay I w C w' aQ) (h0:0∉I:=by first|decide|(simp<;>omega)) (hj:j∉I:=by first|decide|(simp<;>omega)):bh w' aQ j e v ys:=h.st hs h0 hj
theorem aB.c1 {α:Type} [bu α] {w:World} {C:Nat->Nat} {x:α} {v:Value} (h:aB w (aA C) x v):aB w (aA (bq C)) x v:=by rw[ez];exact h
def zx (n:Nat) (v v2:Value) (k m:Nat):Prop:=∃g l c c',v=.slice (some ⟨g,0,none⟩) l c/\v2=.slice (some ⟨g,k*n,none⟩) m c'
section
variable {α:Type} [bu α] {w w':World} {C aQ:Nat->Nat} {P:Program} {N:Nat} {env:Env} {x y z q:Operand} {t ty e:TypeId} {v v2 u:Value} {xs:List α} {j b g n k m e':Nat}
theorem xk {kd:IntKind} {i:Int} {y:Nat} {code:BoundsCode} {w:World} (h0:0<=i) (h1:i<=y): (Instr.sliceBound (.int kd i) y code).run P w=.ok i.toNat w:=by
 simp[Instr.sliceBound,asIntOf,h0,h1]
theorem bh.from_ (h:bh w C j e v xs) (hy:ev env y=some v) {kd:IntKind} {i:Int} (hf:jd P t=some (e',sz α)) (hz:ev env z=some (.int kd i)) (h0:0<=i) (h1:i<xs.length):
  ∃v2,zx (sz α) v v2 i.toNat (xs.length-i.toNat)/\∀w',cL P N env (.slice t y (some z) none none) w' v2:=by
 obtain⟨g,cap,cs,rfl,_,_,hc,hle,_⟩:=h.tK (by omega);refine⟨.slice (some ⟨g,i.toNat*sz α,none⟩) (xs.length-i.toNat) (cap-i.toNat),⟨g,_,_,_,rfl,rfl⟩,λw'=>mk' λρ hρ fe ho=>?_⟩;unfold jd at hf;split at hf
 ·rename_i e1 hu;split at hf
  ·rename_i n' hn;simp only[Option.some.injEq,Prod.mk.injEq] at hf;obtain⟨rfl,rfl⟩:=hf;have hb:=xk (P:=P) (kd:=kd) (y:=xs.length) (code:=.sliceB) (w:=w') h0 (by omega);have hne:¬cap=i.toNat:=by omega
   unfold execOp;rw[ho];simp[hρ _ _ hy,hρ _ _ hz,Instr.sliceAt,Instr.slice,Instr.sliceBounds,run_underlying hu,kF hn,hb,hne,oP]
  ·cases hf
 ·cases hf
theorem bh.Ea (h:bh w C j e v xs) (hy:ev env y=some v) {kd:IntKind} {i:Int} (hf:jd P t=some (e',sz α)) (hz:ev env z=some (.int kd i)) (h0:0<=i) (h1:i<=xs.length) (hne:0<xs.length):
  ∃v2,bh w C j e v2 (xs.take i.toNat)/\∀w',cL P N env (.slice t y none (some z) none) w' v2:=by
 obtain⟨g,cap,cs,rfl,nC,gU,hc,hle,hsz,hr⟩:=h.tK hne;have hl: (xs.take i.toNat).length=i.toNat:=by rw[List.length_take];omega
 refine⟨.slice (some ⟨g,0,none⟩) (xs.take i.toNat).length cap,⟨.inr ⟨g,cap,cs,rfl,gU,hc,by omega,hsz,λk hk=>?_⟩,h.col⟩,λw'=>mk' λρ hρ fe ho=>?_⟩
 ·rw[List.getElem_take];exact hr k (by omega)
 ·unfold jd at hf;split at hf
  ·rename_i e1 hu;split at hf
   ·rename_i n' hn;simp only[Option.some.injEq,Prod.mk.injEq] at hf;obtain⟨rfl,rfl⟩:=hf;have hb:=xk (P:=P) (kd:=kd) (y:=cap) (code:=.sliceAcap) (w:=w') h0 (by omega);unfold execOp;rw[ho];rw[hl];simp[hρ _ _ hy,hρ _ _ hz,Instr.sliceAt,Instr.slice,Instr.sliceBounds,run_underlying hu,kF hn,hb,oP]
   ·cases hf
  ·cases hf
theorem aB.from_ {M:Nat->Prop} (h:aB w M xs v) (hy:ev env y=some v) {kd:IntKind} {i:Int} (hf:jd P t=some (e',sz α)) (hz:ev env z=some (.int kd i)) (h0:0<=i) (h1:i<=xs.length):
  ∃v2,aB w M (xs.drop i.toNat) v2/\∀w',cL P N env (.slice t y (some z) none none) w' v2:=by
 obtain⟨a,c,rfl,hc,hm,hs⟩:=jx.1 h;have hval:∀w',cL P N env (.slice t y (some z) none none) w' (.slice (if c=i.toNat then a else a.map (·.add (i.toNat*sz α))) (xs.length-i.toNat) (c-i.toNat)):=λw'=>mk' λρ hρ fe ho=>by
  unfold jd at hf;split at hf
  ·rename_i e1 hu;split at hf
   ·rename_i n' hn;simp only[Option.some.injEq,Prod.mk.injEq] at hf;obtain⟨rfl,rfl⟩:=hf;have hb:=xk (P:=P) (kd:=kd) (y:=xs.length) (code:=.sliceB) (w:=w') h0 (by omega);unfold execOp;rw[ho];simp[hρ _ _ hy,hρ _ _ hz,Instr.sliceAt,Instr.slice,Instr.sliceBounds,run_underlying hu,kF hn,hb]
   ·cases hf
  ·cases hf
 refine⟨_,?_,hval⟩;rw[<-List.length_drop];refine jx.2 ⟨_,_,rfl,by rw[List.length_drop];omega,by rw[List.length_drop];omega,?_⟩;by_cases hd:xs.drop i.toNat=[]
 ·exact .inl hd
 ·have hlt:i.toNat<xs.length:=by
   rcases Nat.lt_or_ge i.toNat xs.length with h|h
   ·exact h
   ·exact absurd (List.drop_eq_nil_of_le h) hd
  rcases hs with rfl|⟨b,o,rfl,hs⟩
  ·simp at hlt
  ·refine .inr ⟨b,o+i.toNat*sz α,?_,?_⟩
   ·rw[if_neg (by omega)];simp[oP]
   ·obtain⟨hb,cs,ty,eP,BI,hl,hr⟩:=hs;refine⟨hb,cs,ty,eP,BI,?_,λk hk=>?_⟩
    ·rw[List.length_drop];have:i.toNat*sz α+(xs.length-i.toNat)*sz α=xs.length*sz α:=by rw[<-Nat.add_mul];congr 1;omega
     omega
    ·rw[List.length_drop] at hk;have:=hr (i.toNat+k) (by omega);rw[List.getElem_drop,show o+i.toNat*sz α+k*sz α=o+(i.toNat+k)*sz α from by rw[Nat.add_mul];omega];exact this
theorem aB.Ea {M:Nat->Prop} (h:aB w M xs v) (hy:ev env y=some v) {kd:IntKind} {i:Int} (hf:jd P t=some (e',sz α)) (hz:ev env z=some (.int kd i)) (h0:0<=i) (h1:i<=xs.length):
  ∃v2,aB w M (xs.take i.toNat) v2/\∀w',cL P N env (.slice t y none (some z) none) w' v2:=by
 obtain⟨a,c,rfl,hc,hm,hs⟩:=jx.1 h;have hl: (xs.take i.toNat).length=i.toNat:=by rw[List.length_take];omega
 have hval:∀w',cL P N env (.slice t y none (some z) none) w' (.slice a (xs.take i.toNat).length c):=λw'=>mk' λρ hρ fe ho=>by
  unfold jd at hf;split at hf
  ·rename_i e1 hu;split at hf
   ·rename_i n' hn;simp only[Option.some.injEq,Prod.mk.injEq] at hf;obtain⟨rfl,rfl⟩:=hf;have hb:=xk (P:=P) (kd:=kd) (y:=c) (code:=.sliceAcap) (w:=w') h0 (by omega);have iU: (if c=0 then a else a.map (·.add 0))=a:=by
     cases a with
     |none=>simp
     |some a=>simp[Addr.add]
    unfold execOp;rw[ho,hl];simp[hρ _ _ hy,hρ _ _ hz,Instr.sliceAt,Instr.slice,Instr.sliceBounds,run_underlying hu,kF hn,hb,iU]
   ·cases hf
  ·cases hf
 refine⟨_,?_,hval⟩;refine jx.2 ⟨_,_,rfl,by omega,by omega,?_⟩;rcases hs with rfl|⟨b,o,rfl,hb,cs,ty,eP,BI,hl',hr⟩
 ·left;simp
 ·refine .inr ⟨b,o,rfl,hb,cs,ty,eP,BI,?_,λk hk=>?_⟩
  ·rw[hl];have:=Nat.mul_le_mul_right (sz α) (show i.toNat<=xs.length by omega);omega
  ·rw[List.getElem_take];exact hr k (by omega)
theorem zy {e':Nat} {kd:IntKind} {i:Int} (hs:zx n v v2 k m) (hg:di v g) (hf:jd P t=some (e',n)) (hy:ev env y=some v2) (hz:ev env z=some (.int kd i))
  (h0:0<=i) (h1:i<m):cL P N env (.indexAddr t y z) w (.pointer (some ⟨g,(k+i.toNat)*n,none⟩)):=by
 obtain⟨g',l,c,c',rfl,rfl⟩:=hs;simp only[di,Value.ownBlock,Option.some.injEq] at hg;subst hg;have:=Gd (P:=P) (N:=N) (w:=w) hf hy hz h0 h1;rwa [<-Nat.add_mul] at this
theorem zx.bS (hs:zx n v v2 k m) (hy:ev env y=some v2) {d:TypeId} (ht:P.underlying t=some (.slice d)):
  ∀w',cL P N env (.call {callee:=.builtin .len,args:=#[y],argTypes:=#[t]}) w' (.int .i64 m):=λw'=>by
 obtain⟨g',l,c,c',rfl,rfl⟩:=hs;exact wZ hy ht
theorem bh.Eb (h:bh w C j e v xs) (hne:0<xs.length):∃g,di v g:=by
 obtain⟨g,cap,cs,rfl,_⟩:=h.tK hne;exact⟨g,rfl⟩
theorem LG {x0:α} {zs:List Value} (h:bh w C j e v xs) (hs:zx (sz α) v v2 k m) (hkm:k+m=xs.length) (hm:0<m) (hu:P.underlying t=some (.slice ty)) (hz:sJ P ty=some zs) (h0:∀h M,rep h M x0 zs) (hy:ev env y=some v2):
  gY P N env (.call {callee:=.builtin .clear,args:=#[y],argTypes:=#[t]}) w (λu' w'=>ay [j] w C w' C/\bh w' C j e v (xs.take k++List.replicate m x0)):=oT λρ hρ fe gG=>by
 obtain⟨g,cap,cs,rfl,nC,gU,hc,h1,h2,h3⟩:=h.tK (by omega);obtain⟨g',l,c,c',e1,rfl⟩:=hs;simp only[Value.slice.injEq,Option.some.injEq,Addr.mk.injEq,and_true] at e1;obtain⟨rfl,rfl,rfl⟩:=e1;obtain⟨j9,iV,fu⟩:=Br hz w;have hzl:zs.length=sz α:=bu.len (h0 w.heap (aA C));have Uv:j9.cells.size=sz α:=by rw[fu];simpa using hzl
 have tJ: (Builtin.zeroCells j9.cells m).toList.length=m*sz α:=by rw[Array.length_toList,size_zeroCells,Uv]
 have hb: (k+m)*sz α<=cap*sz α:=Nat.mul_le_mul_right _ (by omega);rw[Nat.add_mul] at hb;have hcell:∀i,i<m->dB (Builtin.zeroCells j9.cells m) (i*sz α) (sz α)=zs:=λi hi=>by
  have:=LD hzl hi;rw[fu];unfold madeCells at this;unfold Builtin.zeroCells;first|exact this|(rw[List.size_toArray,hzl];exact this)|simpa[hzl] using this
 have hone:∀u∈(Builtin.zeroCells j9.cells m).toList,u.oneCell'=true:=λu Gg=>by
  obtain⟨p,hp,rfl⟩:=List.mem_iff_getElem.1 Gg;rw[tJ] at hp;by_cases hs0:sz α=0
  ·rw[hs0] at hp;omega
  ·have hk:p/sz α<m:=(Nat.div_lt_iff_lt_mul (by omega)).2 hp;refine bu.one (h0 w.heap (aA C)) _ ?_;rw[<-hcell _ hk];apply List.mem_iff_getElem?.2;refine⟨p%sz α,?_⟩;have hmod:=Nat.mod_lt p (show 0<sz α by omega);simp only[dB,List.getElem?_take,if_pos hmod,List.getElem?_drop];rw[Nat.mul_comm,Nat.div_add_mod];simp[hp,tJ]
 have hst:=run_storeCells_at P g (k*sz α) e (Builtin.zeroCells j9.cells m).toList 0 cs w hc (by rw[tJ];omega) hone;simp only[Nat.add_zero,tJ] at hst;have Gu:=Ge (cs:=(List.take (k*sz α) cs.toList++(Builtin.zeroCells j9.cells m).toList++List.drop (k*sz α+m*sz α) cs.toList).toArray) hc;have tL:ay [j] w C _ C:=⟨Gu.ext.mono (λb _ hb=>by rw[show b=g from hb,nC];simp),λ_ _=>rfl⟩
 have keep:∀{x:α} {vs:List Value},rep w.heap (aA C) x vs->rep _ (aA C) x vs:=λhr=>bu.keep hr (λb hb hn=>Gu.ext.block b hb (λe=>hn (by rw[show b=g from e];exact gU)));refine⟨.tuple #[],_,.inl ?_,tL,⟨.inr ⟨g,cap,_,?_,gU,Gu.at_,?_,?_,λi hi=>?_⟩,h.col⟩⟩
 ·unfold execOp;rw[gG];have hm0:m≠0:=by omega
  have hrun: (Builtin.clear_ #[t] fe.type #[.slice (some ⟨g,k*sz α,none⟩) m c']).run P w=.ok (.tuple #[]) (w.setRow g (List.take (k*sz α) cs.toList++(Builtin.zeroCells j9.cells m).toList++List.drop (k*sz α+m*sz α) cs.toList).toArray):=by
   cases m with
   |zero=>exact absurd rfl hm0
   |succ m=>simp[Builtin.clear_,run_underlying hu,iV,hst]
  simp[hρ _ _ hy,resolve,invoke,builtin,hrun]
 ·simp;omega
 ·simp;omega
 ·simp only[List.size_toArray,List.length_append,List.length_take,List.length_drop,tJ,Array.length_toList];omega
 ·have mA:∀(l:List Value) (p:Nat),l.toArray[p]?=l[p]?:=λl p=>by simp
  by_cases hik:i<k
  ·have Gw:i<(xs.take k).length:=by rw[List.length_take];omega
   rw[List.getElem_append_left Gw,List.getElem_take];have ew:=Nat.mul_le_mul_right (sz α) (show i+1<=k from hik);rw[Nat.succ_mul] at ew;have hce:dB (List.take (k*sz α) cs.toList++(Builtin.zeroCells j9.cells m).toList++List.drop (k*sz α+m*sz α) cs.toList).toArray (i*sz α) (sz α)=dB cs (i*sz α) (sz α):=qy (λr hr=>by
    rw[mA,List.append_assoc,List.getElem?_append_left (by simp only[List.length_take,Array.length_toList];omega),List.getElem?_take,if_pos (by omega),Array.getElem?_toList])
   rw[hce];exact keep (h3 i (by omega))
  ·have lG: (xs.take k).length=k:=by rw[List.length_take];omega
   rw[List.getElem_append_right (by omega),List.getElem_replicate];have him:i-k<m:=by simp at hi;omega
   have mU:=Nat.mul_le_mul_right (sz α) (show i-k+1<=m from him);rw[Nat.succ_mul] at mU;have aa5:i*sz α=k*sz α+(i-k)*sz α:=by rw[<-Nat.add_mul];congr 1;omega
   have hce:dB (List.take (k*sz α) cs.toList++(Builtin.zeroCells j9.cells m).toList++List.drop (k*sz α+m*sz α) cs.toList).toArray (i*sz α) (sz α)=dB (Builtin.zeroCells j9.cells m) ((i-k)*sz α) (sz α):=qy (λr hr=>by
    rw[mA,List.append_assoc,List.getElem?_append_right (by simp only[List.length_take,Array.length_toList];omega),List.getElem?_append_left (by simp only[List.length_take,Array.length_toList,tJ];omega),Array.getElem?_toList];congr 1;simp only[List.length_take,Array.length_toList];omega)
   rw[hce,hcell _ him];exact h0 _ _
end
section
variable {α:Type} [bu α] {w:World} {C:Nat->Nat} {P:Program} {f:FuncId} {N:Nat} {k:List Item} {R:Value->World->Prop} {Q:Exit->Act->World->Prop} {env:Env} {ops:Array Oper} {S:World->Prop} {i t:Nat} {L:List (Nat×Bool)} {v v2:Value} {y z:Operand} {gO:Option (Nat×Bool)} {ty e e':TypeId} {xs:List α} {j g:Nat} {kd:IntKind} {n:Int}
theorem Ec (hop:cv ops i=some (some t,.slice ty y (some z) none none,gO)) (hw:fT ops env gO=some true) (ht:Nat.blt t N=true) (hl:bh w C j e v xs) (hy:ev env y=some v)
  (hf:jd P ty=some (e',sz α)) (hz:ev env z=some (.int kd n)) (h0:0<=n) (h1:n<xs.length)
  (h:∀v2,zx (sz α) v v2 n.toNat (xs.length-n.toNat)->bM P N Q ops S L ((t,v2)::env) w):bM P N Q ops S ((i,true)::L) env w:=by
 obtain⟨v2,h2,h3⟩:=hl.from_ (P:=P) (N:=N) hy hf hz h0 h1;exact eT hop hw ht (λw' _=>h3 w') (h v2 h2)
theorem Gx (hop:cv ops i=some (some t,.slice ty y none (some z) none,gO)) (hw:fT ops env gO=some true) (ht:Nat.blt t N=true) (hl:bh w C j e v xs) (hy:ev env y=some v)
  (hf:jd P ty=some (e',sz α)) (hz:ev env z=some (.int kd n)) (h0:0<=n) (h1:n<=xs.length) (hne:0<xs.length)
  (h:∀v2,bh w C j e v2 (xs.take n.toNat)->bM P N Q ops S L ((t,v2)::env) w):bM P N Q ops S ((i,true)::L) env w:=by
 obtain⟨v2,h2,h3⟩:=hl.Ea (P:=P) (N:=N) hy hf hz h0 h1 hne;exact eT hop hw ht (λw' _=>h3 w') (h v2 h2)
theorem Gy {M:Nat->Prop} (hop:cv ops i=some (some t,.slice ty y (some z) none none,gO)) (hw:fT ops env gO=some true) (ht:Nat.blt t N=true) (hl:aB w M xs v) (hy:ev env y=some v)
  (hf:jd P ty=some (e',sz α)) (hz:ev env z=some (.int kd n)) (h0:0<=n) (h1:n<=xs.length)
  (h:∀v2,aB w M (xs.drop n.toNat) v2->bM P N Q ops S L ((t,v2)::env) w):bM P N Q ops S ((i,true)::L) env w:=by
 obtain⟨v2,h2,h3⟩:=hl.from_ (P:=P) (N:=N) hy hf hz h0 h1;exact eT hop hw ht (λw' _=>h3 w') (h v2 h2)
theorem BJ {M:Nat->Prop} (hop:cv ops i=some (some t,.slice ty y none (some z) none,gO)) (hw:fT ops env gO=some true) (ht:Nat.blt t N=true) (hl:aB w M xs v) (hy:ev env y=some v)
  (hf:jd P ty=some (e',sz α)) (hz:ev env z=some (.int kd n)) (h0:0<=n) (h1:n<=xs.length)
  (h:∀v2,aB w M (xs.take n.toNat) v2->bM P N Q ops S L ((t,v2)::env) w):bM P N Q ops S ((i,true)::L) env w:=by
 obtain⟨v2,h2,h3⟩:=hl.Ea (P:=P) (N:=N) hy hf hz h0 h1;exact eT hop hw ht (λw' _=>h3 w') (h v2 h2)
end
section
variable {P:Program} {f:FuncId} {N:Nat} {k:List Item} {env:Env} {w:World} {R:Value->World->Prop} {Q:Exit->Act->World->Prop}
theorem Gz {b u5:Nat} {cs:List Value} {eP:Nat×Nat} {ty n:Nat} (hc:w.heap[b]?=some (.cells cs.toArray u5 eP)) (ha:iF P ty=some true) (hs:gR P ty=some n) (hl:cs.length=n):
  (loadVar ty ⟨b,0,none⟩).run P w=.ok (.agg cs.toArray) w:=by
 have hcells: (loadCells ⟨b,0,none⟩ n).run P w=.ok cs.toArray w:=by
  have:=run_loadCells_list (P:=P) w ⟨b,0,none⟩ cs (λj u hu=>by
   rw[oP,cell_of_row w b (0+j) cs.toArray u5 eP hc];rw[<-hu];simp)
  rwa [hl] at this
 simp only[loadCells] at hcells;simp[loadVar,qx ha,kF hs,loadCells,hcells]
theorem u6 {c:Code} {fn:Func} {a ty b:Nat} {u5:Nat} {cs:List Value} {eP:Nat×Nat} {n:Nat} (hc:c=.ret) (hf:P.funcs[f]?=some fn) (hres:fn.results=#[.cell a ty]) (hv:look env a=some (.pointer (some ⟨b,0,none⟩)))
  (hb:w.heap[b]?=some (.cells cs.toArray u5 eP)) (ha:iF P ty=some true) (hs:gR P ty=some n) (hl:cs.length=n)
  (hR:R (.agg cs.toArray) w):Run P f N (.code c::k) env w R:=λa' iU=>by
 subst hc;refine wT hf iU.defers ?_ hR;have h1:=iU.slot a _ hv;have h2:=Gz hb ha hs hl;simp only[results,hres];simp[h1,Array.getD_eq_getD_getElem?,asAddr,h2]
theorem u7 {c:Code} {fn:Func} {a ty b u:Nat} {x:Value} {u5:Nat} {cs:List Value} {eP:Nat×Nat} {n:Nat} (hc:c=.ret) (hf:P.funcs[f]?=some fn) (hres:fn.results=#[.cell a ty,.tmp u]) (hv:look env a=some (.pointer (some ⟨b,0,none⟩)))
  (hx:look env u=some x) (hb:w.heap[b]?=some (.cells cs.toArray u5 eP)) (ha:iF P ty=some true) (hs:gR P ty=some n) (hl:cs.length=n)
  (hR:R (.tuple #[.agg cs.toArray,x]) w):Run P f N (.code c::k) env w R:=λa' iU=>by
 subst hc;refine wT hf iU.defers ?_ hR;have h1:=iU.slot a _ hv;have h3:=iU.slot u _ hx;have h2:=Gz hb ha hs hl;simp only[results,hres];simp[h1,h3,Array.getD_eq_getD_getElem?,asAddr,h2]
end
section
variable {P:Program} {N:Nat} {env:Env} {w:World} {x y:Operand} {t u:TypeId} {m n r:Int}
theorem Uw (hx:ev env x=some (.int .i64 m)) (hy:ev env y=some (.int .i64 n)) (ht:P.underlying t=some (.int .i64)):
  cL P N env (.call {callee:=.builtin .max,args:=#[x,y],argTypes:=#[t,t]}) w (.int .i64 (max m n)):=mk' λρ hρ o ho=>by
 unfold execOp;rw[ho];simp[hρ _ _ hx,hρ _ _ hy,go_sem,resolve,invoke,builtin,Builtin.max_,Builtin.max2];by_cases h:m<n
 ·rw[if_pos h];exact(Int.max_eq_right (by omega)).symm
 ·rw[if_neg h];exact(Int.max_eq_left (by omega)).symm
theorem Ux (hx:ev env x=some (.int .i64 m)) (hy:ev env y=some (.int .i64 n)) (ht:P.underlying t=some (.int .i64)):
  cL P N env (.call {callee:=.builtin .min,args:=#[x,y],argTypes:=#[t,t]}) w (.int .i64 (min m n)):=mk' λρ hρ o ho=>by
 unfold execOp;rw[ho];simp[hρ _ _ hx,hρ _ _ hy,go_sem,resolve,invoke,builtin,Builtin.min_,Builtin.min2];by_cases h:n<m
 ·rw[if_pos h];exact(Int.min_eq_right (by omega)).symm
 ·rw[if_neg h];exact(Int.min_eq_left (by omega)).symm
end
section
variable {P:Program} {f:FuncId} {N:Nat} {k:List Item} {env:Env} {w:World} {R:Value->World->Prop} {Q:Exit->Act->World->Prop}
theorem nE {fn:Func} (hf:P.funcs[f]?=some fn) (hres:fn.results=#[]) (hR:R (.tuple #[]) w):Run P f N [] env w R:=λa ha cs=>
 ⟨.tuple #[],w,_,hR,.one step_end,rfl,rfl,ha.defers,rfl,fn,hf,by simp[results,hres,Sem.run,pure]⟩
theorem xl {fn:Fn} {xs ys:Array Operand} {us vs:List Value} (hx:nx env xs.toList=some us) (hy:nx env ys.toList=some vs):
  cL P N env (.makeFunc fn xs ys) w (.func fn us.toArray vs.toArray):=λa ha o ho=>by
 have h1:xs.map a.eval=us.toArray:=by rw[<-ha.nx hx,<-List.map_toArray]
 have h2:ys.map a.eval=vs.toArray:=by rw[<-ha.nx hy,<-List.map_toArray]
 unfold execOp;rw[ho];simp only[h1,h2];rfl
end
def tM (P:Program) (t:TypeId) {dn:Type} [DecidableEq dn] (kv:dn->Value):Prop:=
 ∀d a b w,(Op.equalIn (d+8) t (kv a) (kv b)).run P w=.ok (decide (a=b)) w
structure sM (P:Program) (t:TypeId) {dn:Type} [DecidableEq dn] (kv:dn->Value):Prop where
 check:∀e k w,(Instr.checkKey e 10000 t (kv k)).run P w=.ok () w
 find:∀k (es:List MapEntry) (ks:List dn) w,es.map (·.key)=ks.map kv->
  (Instr.findKey t (kv k) es).run P w=.ok ((ks.findIdx? (λx=>decide (x=k))).bind λi=>(es[i]?).map λe=>(i,e.val)) w
 bits:∀k,Instr.sameBits 10000 (kv k) (kv k)=true
 inj:∀a b,kv a=kv b->a=b
theorem Uy {kind:TypeDesc} {dn:Type} [DecidableEq dn] {kv:dn->Value} (hs:∀a b,Instr.sameNow kind (kv a) (kv b)=some (decide (a=b))) (k:dn):
  ∀(es:List MapEntry) (ks:List dn) (n:Nat),es.map (·.key)=ks.map kv->
   Instr.findNow kind (kv k) es n=some ((ks.findIdx? (λx=>decide (x=k))).bind λi=>(es[i]?).map λe=>(n+i,e.val))
 |[],[],n,_=>by simp[Instr.findNow]
 |[],_::_,n,h=>by simp at h
 |_::_,[],n,h=>by simp at h
 |e::es,x::ks,n,h=>by
  simp only[List.map_cons,List.cons.injEq] at h;obtain⟨h1,h2⟩:=h;unfold Instr.findNow;rw[h1,hs];by_cases hx:k=x
  ·subst hx;simp[List.findIdx?_cons]
  ·simp only[hx,decide_false];rw[Uy hs k es ks (n+1) h2,List.findIdx?_cons];have:¬x=k:=λe=>hx e.symm;simp only[this,decide_false,Bool.false_eq_true,if_false];cases ks.findIdx? (λx=>decide (x=k)) with
   |none=>rfl
   |some i=>simp[Nat.add_assoc,Nat.add_comm 1]
theorem LH {P:Program} {t:TypeId} {dn:Type} [DecidableEq dn] {kv:dn->Value} (heq:tM P t kv) (k:dn) (w:World):
  ∀(es:List MapEntry) (ks:List dn) (n:Nat),es.map (·.key)=ks.map kv->
   (Instr.findAsking t (kv k) es n).run P w=.ok ((ks.findIdx? (λx=>decide (x=k))).bind λi=>(es[i]?).map λe=>(n+i,e.val)) w
 |[],[],n,_=>by simp[Instr.findAsking]
 |[],_::_,n,h=>by simp at h
 |_::_,[],n,h=>by simp at h
 |e::es,x::ks,n,h=>by
  simp only[List.map_cons,List.cons.injEq] at h;obtain⟨h1,h2⟩:=h;unfold Instr.findAsking Op.equal;rw[h1,Sem.run_bind,show Op.maxDepth=9992+8 from rfl,heq];simp only[Result.andThen_ok];by_cases hx:k=x
  ·subst hx;simp[List.findIdx?_cons]
  ·simp only[hx,decide_false,Bool.false_eq_true,if_false];rw[LH heq k w es ks (n+1) h2,List.findIdx?_cons];have:¬x=k:=λe=>hx e.symm;simp only[this,decide_false,Bool.false_eq_true,if_false];cases ks.findIdx? (λx=>decide (x=k)) with
   |none=>rfl
   |some i=>simp[Nat.add_assoc,Nat.add_comm 1]
theorem LI {P:Program} {t:TypeId} {fs:Array Field} {dn:Type} [DecidableEq dn] {kv:dn->Value} (h:P.underlying t=some (.struct fs)) (heq:tM P t kv)
  (hc:∀e k w,(Instr.checkKey e 10000 t (kv k)).run P w=.ok () w) (hb:∀k,Instr.sameBits 10000 (kv k) (kv k)=true) (hi:∀a b,kv a=kv b->a=b):sM P t kv where
 check:=hc
 find k es ks w hk:=by
  rw[run_findKey_eq w (by rw[h]) (kv k) es];simpa using LH heq k w es ks 0 hk
 bits:=hb
 inj:=hi
section
variable {dn β:Type} [DecidableEq dn]
def eF:List (dn×β)->dn->Option β
 |[],_=>none
 |(x,v)::m,k=>if x=k then some v else eF m k
def gD:List (dn×β)->dn->β->List (dn×β)
 |[],k,v=>[(k,v)]
 |(x,u)::m,k,v=>if x=k then(k,v)::m else(x,u)::gD m k v
def keys (m:List (dn×β)):List dn:=m.map (·.1)
theorem lK (m:List (dn×β)) (k:dn) (v:β) (j:dn):eF (gD m k v) j=if k=j then some v else eF m j:=by
 induction m with
 |nil=>simp[gD,eF]
 |cons p m ih=>
  obtain⟨x,u⟩:=p;unfold gD;split
  ·rename_i h;subst h;simp only[eF];split<;>rfl
  ·rename_i h;simp only[eF,ih];by_cases h1:x=j
   ·subst h1;rw[if_pos rfl,if_neg (λe=>h e.symm),if_pos rfl]
   ·rw[if_neg h1,if_neg h1]
theorem Uz (m:List (dn×β)) (k:dn) (v:β) (j:dn):j∈keys (gD m k v)↔j=k\/j∈keys m:=by
 induction m with
 |nil=>simp[gD,keys]
 |cons p m ih=>
  obtain⟨x,u⟩:=p;unfold gD;split
  ·rename_i h;subst h;simp[keys]
  ·simp only[keys,List.map_cons,List.mem_cons] at ih⊢;rw[ih];constructor
   ·rintro(h|h|h)
    ·exact .inr (.inl h)
    ·exact .inl h
    ·exact .inr (.inr h)
   ·rintro(h|h|h)
    ·exact .inr (.inl h)
    ·exact .inl h
    ·exact .inr (.inr h)
theorem UA {m:List (dn×β)} (h: (keys m).Nodup) (k:dn) (v:β): (keys (gD m k v)).Nodup:=by
 induction m with
 |nil=>simp[gD,keys]
 |cons p m ih=>
  obtain⟨x,u⟩:=p;unfold gD;simp only[keys,List.map_cons,List.nodup_cons] at h;split
  ·rename_i hx;subst hx;simpa[keys] using h
  ·rename_i hx;simp only[keys,List.map_cons,List.nodup_cons];refine⟨λhm=>?_,ih h.2⟩;rcases(Uz m k v x).1 hm with e|e
   ·exact hx e
   ·exact h.1 e
theorem LJ (m:List (dn×β)) (k:dn): ((keys m).findIdx? (λx=>decide (x=k))).bind (λi=>(m[i]?).map (·.2))=eF m k:=by
 induction m with
 |nil=>simp[eF,keys]
 |cons p m ih=>
  obtain⟨x,u⟩:=p;simp only[eF,keys,List.map_cons,List.findIdx?_cons] at ih⊢;split
  ·rename_i h;rw[if_pos (by simpa using h)];simp
  ·rename_i h;rw[if_neg (by simpa using h),<-ih];cases (m.map (·.1)).findIdx? (λx=>decide (x=k))<;>simp
theorem LK {m:List (dn×β)} {k:dn} (h: (keys m).findIdx? (λx=>decide (x=k))=none) (v:β):gD m k v=m++[(k,v)]:=by
 induction m with
 |nil=>rfl
 |cons p m ih=>
  obtain⟨x,u⟩:=p;simp only[keys,List.map_cons,List.findIdx?_cons] at h;split at h
  ·cases h
  ·rename_i hx;simp only[Option.map_eq_none_iff] at h;unfold gD;rw[if_neg (by simpa using hx),ih h];rfl
theorem UB {m:List (dn×β)} {k:dn} {i:Nat} (h: (keys m).findIdx? (λx=>decide (x=k))=some i):∃u,m[i]?=some (k,u):=by
 obtain⟨hlt,h1,_⟩:=List.findIdx?_eq_some_iff_getElem.1 h;simp only[keys,List.getElem_map,decide_eq_true_eq] at h1;simp only[keys,List.length_map] at hlt;exact⟨m[i].2,by rw[List.getElem?_eq_getElem hlt,<-h1]⟩
theorem UC {m:List (dn×β)} {k:dn} {i:Nat} (h: (keys m).findIdx? (λx=>decide (x=k))=some i) (v:β):gD m k v=m.set i (k,v)/\∃u,m[i]?=some (k,u):=by
 induction m generalizing i with
 |nil=>simp[keys] at h
 |cons p m ih=>
  obtain⟨x,u⟩:=p;simp only[keys,List.map_cons,List.findIdx?_cons] at h;unfold gD;split at h
  ·rename_i hx;simp only[Option.some.injEq] at h;subst h;have hx':x=k:=by simpa using hx
   subst hx';rw[if_pos rfl];exact⟨rfl,u,rfl⟩
  ·rename_i hx;simp only[Option.map_eq_some_iff] at h;obtain⟨j,hj,rfl⟩:=h;obtain⟨h1,u',h2⟩:=ih hj;rw[if_neg (by simpa using hx),h1];exact⟨rfl,u',by simpa using h2⟩
end
section
variable {dn β:Type} [DecidableEq dn] {kv:dn->Value} {cV:β->Value} {m:List (dn×β)}
structure qB (kv:dn->Value) (cV:β->Value) (m:List (dn×β)) (es:Array MapEntry) (clock:Nat):Prop where
 key:es.toList.map (·.key)=(keys m).map kv
 val:es.toList.map (·.val)=m.map (λp=>cV p.2)
 nodup: (keys m).Nodup
 born:∀e∈es.toList,e.born<clock
 GA:es.toList.Pairwise (λa b=>a.born<b.born)
def fO (w:World) (C:Nat->Nat) (j b:Nat) (kv:dn->Value) (cV:β->Value) (m:List (dn×β)):Prop:=
 C b=j/\∃es clock,w.heap[b]?=some (.map es clock)/\qB kv cV m es clock
def og (w:World) (M:Nat->Prop) (kv:dn->Value) (cV:β->Value) (m:List (dn×β)) (v:Value):Prop:=
 ∃b,v=.map (some b)/\¬M b/\∃es clock,w.heap[b]?=some (.map es clock)/\qB kv cV m es clock
variable {w w':World} {I:List Nat} {C aQ:Nat->Nat} {j b n:Nat} {v:Value}
theorem fO.st (h:fO w C j b kv cV m) (hs:ay I w C w' aQ) (hj:j∉I):fO w' aQ j b kv cV m:=by
 obtain⟨hc,es,clock,hb,hm⟩:=h;exact⟨(hs.col b (rG hb)).trans hc,es,clock,hs.ext.sH hb (by rw[hc];exact hj),hm⟩
theorem og.st (h:og w (aA C) kv cV m v) (hs:ay I w C w' aQ) (h0:0∉I):og w' (aA aQ) kv cV m v:=by
 obtain⟨b,e,hn,es,clock,hb,hm⟩:=h;have hc:C b=0:=by by_cases hz:C b=0;exact hz;exact absurd hz hn
 refine⟨b,e,?_,es,clock,hs.ext.sH hb (by rw[hc];exact h0),hm⟩;unfold aA;rw[hs.col b (rG hb)];exact hn
theorem fO.t (h:fO w C j b kv cV m) (hs:ay I w C w' aQ) (hj:j∉I:=by first|decide|(simp<;>omega)):fO w' aQ j b kv cV m:=h.st hs hj
theorem og.t (h:og w (aA C) kv cV m v) (hs:ay I w C w' aQ) (h0:0∉I:=by first|decide|(simp<;>omega)):og w' (aA aQ) kv cV m v:=h.st hs h0
theorem fO.out {w₀:World} {jP D:Nat->Nat} (h:fO w' aQ j b kv cV m) (hs:ay I w₀ D w' aQ) (hF:aL w₀ jP) (hD:aA D=aA jP) (hj:∀b,b<w₀.heap.size->D b≠j):og w' (aA jP) kv cV m (.map (some b)):=by
 obtain⟨hc,r⟩:=h;refine⟨b,rfl,λhm=>?_,r⟩;obtain⟨h1,h2,h3⟩:=hs.Gk hF hD b hm;exact hj b h1 (by rw[<-h2];exact hc)
variable {P:Program} {N:Nat} {env:Env} {x y z q:Operand} {t kt et:TypeId}
theorem LL {es:Array MapEntry} {clock:Nat} (hm:qB kv cV m es clock) (k:dn):
  ((keys m).findIdx? (λx=>decide (x=k))).bind (λi=>(es.toList[i]?).map λe=>(i,e.val))=
   ((keys m).findIdx? (λx=>decide (x=k))).bind (λi=>(m[i]?).map λp=>(i,cV p.2)):=by
 cases (keys m).findIdx? (λx=>decide (x=k)) with
 |none=>rfl
 |some i=>
  simp only[Option.bind_some];have h1: (es.toList.map (·.val))[i]?=(m.map (λp=>cV p.2))[i]?:=by rw[hm.val]
  simp only[List.getElem?_map] at h1;cases h2:es.toList[i]? with
  |none=>rw[h2] at h1;cases h3:m[i]? with
   |none=>rfl
   |some p=>rw[h3] at h1;cases h1
  |some e=>rw[h2] at h1;cases h3:m[i]? with
   |none=>rw[h3] at h1;cases h1
   |some p=>rw[h3] at h1;simp only[Option.map_some,Option.some.injEq] at h1⊢;rw[h1]
theorem aa6 {es:Array MapEntry} {clock:Nat} (ht:P.underlying t=some (.map kt et)) (hk:sM P kt kv) {z0:β} (hz:sJ P et=some [cV z0]) (hagg:∀z:Value,z.cells=#[cV z0]->z=cV z0)
  (hb:w.heap[b]?=some (.map es clock)) (hm:qB kv cV m es clock) (k:dn) (ok:Bool):
  (Instr.lookup t (.map (some b)) (kv k) ok).run P w=.ok (if ok then .tuple #[cV ((eF m k).getD z0),.bool (eF m k).isSome] else cV ((eF m k).getD z0)) w:=by
 obtain⟨j9,h1,h2⟩:=Br hz w;have h3:=hagg j9 (by simpa using h2);subst h3;have hf:=hk.find k es.toList (keys m) w hm.key;rw[LL hm] at hf;have hg:=LJ m k;have mA: (getObj b).run P w=.ok (.map es clock) w:=by simp[getObj,Sem.run,hb]
 unfold Instr.lookup;simp only[Sem.run_bind,run_underlying ht,Result.andThen_ok,mA,Sem.run_pure,hk.check,hf];cases hi: (keys m).findIdx? (λx=>decide (x=k)) with
 |none=>
  rw[hi] at hg;simp only[Option.bind_none] at hg⊢;simp only[Sem.run_bind,h1,Result.andThen_ok,Sem.run_pure,<-hg];cases ok<;>rfl
 |some i=>
  rw[hi] at hg;simp only[Option.bind_some] at hg⊢;cases hp:m[i]? with
  |none=>
   have:=(List.findIdx?_eq_some_iff_getElem.1 hi).1;simp only[keys,List.length_map] at this;rw[List.getElem?_eq_none_iff] at hp;omega
  |some p=>
   rw[hp] at hg;simp only[Option.map_some] at hg⊢;simp only[Sem.run_pure,Result.andThen_ok,<-hg];cases ok<;>rfl
end
section
variable {dn β:Type} [DecidableEq dn] {kv:dn->Value} {cV:β->Value} {m:List (dn×β)} {es:Array MapEntry} {clock:Nat}
theorem qB.push (h:qB kv cV m es clock) {k:dn} (hk: (keys m).findIdx? (λx=>decide (x=k))=none) (x:β):
  qB kv cV (gD m k x) (es.push {key:=kv k,val:=cV x,born:=clock}) (clock+1) where
 key:=by rw[LK hk];simp[keys,h.key]
 val:=by rw[LK hk];simp[h.val]
 nodup:=UA h.nodup k x
 born e he:=by
  simp only[Array.toList_push,List.mem_append,List.mem_singleton] at he;rcases he with he|rfl
  ·have:=h.born e he;omega
  ·exact Nat.lt_succ_self _
 GA:=by
  rw[Array.toList_push,List.pairwise_append];refine⟨h.GA,List.pairwise_singleton _ _,λa ha b hb=>?_⟩;simp only[List.mem_singleton] at hb;subst hb;exact h.born a ha
theorem LM {γ:Type} (f:MapEntry->γ) (g:MapEntry->MapEntry) (i:Nat) (l:List MapEntry) (hg:∀e,l[i]?=some e->f (g e)=f e): (l.modify i g).map f=l.map f:=by
 apply List.ext_getElem?;intro j;simp only[List.getElem?_map,List.getElem?_modify];cases hj:l[j]? with
 |none=>rfl
 |some e=>
  simp only[Option.map_some];split
  ·rename_i h;subst h;simp[hg e hj]
  ·simp
theorem qB.modify (h:qB kv cV m es clock) {k:dn} {i:Nat} (hk: (keys m).findIdx? (λx=>decide (x=k))=some i) (x:β):
  qB kv cV (gD m k x) (es.modify i λe=>{e with key:=kv k,val:=cV x}) clock:=by
 obtain⟨h1,u,h2⟩:=UC hk x;have hkeys:keys (gD m k x)=keys m:=by
  rw[h1];apply List.ext_getElem?;intro j;simp only[keys,List.getElem?_map,List.getElem?_set];split
  ·rename_i e;subst e;split
   ·rw[h2];rfl
   ·rename_i hlt;rw[List.getElem?_eq_none (by omega)]
  ·rfl
 have hmem:∀e,e∈(es.modify i λe=>{e with key:=kv k,val:=cV x}).toList->∃e'∈es.toList,e'.born=e.born:=λe he=>by
  rw[Array.toList_modify] at he;obtain⟨j,hj⟩:=List.mem_iff_getElem?.1 he;rw[List.getElem?_modify] at hj;cases hjj:es.toList[j]? with
  |none=>rw[hjj] at hj;cases hj
  |some e'=>
   rw[hjj] at hj;refine⟨e',List.mem_of_getElem? hjj,?_⟩;simp only[Option.map_eq_map,Option.map_some,Option.some.injEq] at hj;split at hj<;>subst hj<;>rfl
 refine⟨?_,?_,by rw[hkeys];exact h.nodup,λe he=>?_,?_⟩
 ·rw[Array.toList_modify,hkeys,<-h.key];refine LM _ _ _ _ (λe he=>?_);have: (es.toList.map (·.key))[i]?=((keys m).map kv)[i]?:=by rw[h.key]
  simp only[List.getElem?_map,he,Option.map_some,keys,h2] at this;simpa using this.symm
 ·rw[Array.toList_modify,h1];apply List.ext_getElem?;intro j;have hval: (es.toList.map (·.val))[j]?=(m.map (λp=>cV p.2))[j]?:=by rw[h.val]
  simp only[List.getElem?_map] at hval;simp only[List.getElem?_map,List.getElem?_modify,List.getElem?_set];by_cases hij:i=j
  ·subst hij;have hlt:i<m.length:=(List.getElem?_eq_some_iff.1 h2).1;rw[h2] at hval;cases he:es.toList[i]? with
   |none=>rw[he] at hval;cases hval
   |some e=>simp[hlt]
  ·simp only[if_neg hij,Option.map_id',id_eq];simpa using hval
 ·obtain⟨e',he',hb⟩:=hmem e he;rw[<-hb];exact h.born e' he'
 ·rw[Array.toList_modify];have hp: (es.toList.map (·.born)).Pairwise (·<·):=by rw[List.pairwise_map];exact h.GA
  have hq: ((es.toList.modify i λe=>{e with key:=kv k,val:=cV x}).map (·.born)).Pairwise (·<·):=by
   rw[LM (λe=>e.born) (λe=>{e with key:=kv k,val:=cV x}) i es.toList (λe _=>rfl)];exact hp
  rw[List.pairwise_map] at hq;exact hq
variable {w w':World} {I:List Nat} {C aQ:Nat->Nat} {M:Nat->Prop} {j b n:Nat} {v:Value} {P:Program} {N:Nat} {env:Env} {x y z q:Operand} {t kt et:TypeId}
theorem LN {o o':Obj} (hb:w.heap[b]?=some o) (hno:∀c e f,o≠ .cells c e f): (setObj b o').run P w=.ok () {w with heap:=w.heap.setIfInBounds b o'}:=by
 unfold setObj Sem.run;rw[hb];cases o with
 |cells c e f=>exact absurd rfl (hno c e f)
 |_=>rfl
theorem LO {o:Obj} (o':Obj) (hb:w.heap[b]?=some o):xd w {w with heap:=w.heap.setIfInBounds b o'} b o':=by
 have hlt:=rG hb;refine⟨⟨rfl,rfl,rfl,by simp,λc _ hc=>?_,lF.refl rfl⟩,?_,by simp⟩
 ·simp only[Array.getElem?_setIfInBounds];rw[if_neg (λe=>hc e.symm)]
 ·simp[Array.getElem?_setIfInBounds,hlt]
theorem LP {o o':Obj} (h:xd w w' b o') (hc:C b=j):ay [j] w C w' C:=⟨h.ext.mono (λc _ hcb=>by rw[show c=b from hcb,hc];simp),λ_ _=>rfl⟩
theorem UD (h:qB kv cV m es clock) {k:dn} {i:Nat} (hk: (keys m).findIdx? (λx=>decide (x=k))=some i): (es[i]?).map (·.key)=some (kv k):=by
 obtain⟨u,h2⟩:=UB hk;have: (es.toList.map (·.key))[i]?=((keys m).map kv)[i]?:=by rw[h.key]
 simp only[List.getElem?_map,keys,h2,Option.map_some] at this;rw[<-this];simp
theorem xm (hF:aL w C) (j:Nat) (kv:dn->Value) (cV:β->Value):gY P N env (.makeMap t none) w (λv w'=>∃aQ b,v=.map (some b)/\ay [] w C w' aQ/\fO w' aQ j b kv cV []/\aL w' aQ):=oT λρ hρ o ho=>by
 have hn:=tH w (.map #[] 0);obtain⟨aQ,h1,h2,h3⟩:=hn.own hF j;refine⟨.map (some w.heap.size),w.alloc (.map #[] 0),.inl ?_,aQ,_,rfl,h1,⟨h2.col,#[],0,h2.at_,⟨rfl,rfl,by simp[keys],λe he=>by simp at he,by simp⟩⟩,h3⟩;unfold execOp;rw[ho];simp[go_sem,Instr.makeMap]
variable {z0:β}
def BK (P:Program) (et:TypeId) (v:Value):Prop:=∀w,(zeroValue et).run P w=.ok v w
theorem Ed (ht:P.underlying t=some (.map kt et)) (hk:sM P kt kv) (hz:BK P et (cV z0)) (hb:w.heap[b]?=some (.map es clock)) (hm:qB kv cV m es clock) {k:dn} {ok:Bool}
  (hx:ev env x=some (.map (some b))) (hy:ev env y=some (kv k)):
  cL P N env (.lookup t x y ok) w (if ok then .tuple #[cV ((eF m k).getD z0),.bool (eF m k).isSome] else cV ((eF m k).getD z0)):=mk' λρ hρ o ho=>by
 have hf:=hk.find k es.toList (keys m) w hm.key;rw[LL hm] at hf;have hg:=LJ m k;have mA: (getObj b).run P w=.ok (.map es clock) w:=by simp[getObj,Sem.run,hb]
 unfold execOp;rw[ho];simp only[hρ _ _ hx,hρ _ _ hy];unfold Instr.lookup;simp only[Sem.run_bind,run_underlying ht,Result.andThen_ok,mA,Sem.run_pure,hk.check,hf];cases hi: (keys m).findIdx? (λx=>decide (x=k)) with
 |none=>
  rw[hi] at hg;simp only[Option.bind_none] at hg⊢;simp only[Sem.run_bind,hz w,Result.andThen_ok,Sem.run_pure,<-hg];cases ok<;>rfl
 |some i=>
  rw[hi] at hg;simp only[Option.bind_some] at hg⊢;cases hp:m[i]? with
  |none=>
   have:=(List.findIdx?_eq_some_iff_getElem.1 hi).1;simp only[keys,List.length_map] at this;rw[List.getElem?_eq_none_iff] at hp;omega
  |some p=>
   rw[hp] at hg;simp only[Option.map_some] at hg⊢;simp only[Sem.run_pure,Result.andThen_ok,<-hg];cases ok<;>rfl
theorem fO.lookup (h:fO w C j b kv cV m) (ht:P.underlying t=some (.map kt et)) (hk:sM P kt kv) (hz:BK P et (cV z0)) {k:dn}
  (hx:ev env x=some (.map (some b))) (hy:ev env y=some (kv k)):cL P N env (.lookup t x y false) w (cV ((eF m k).getD z0)):=by
 obtain⟨_,es,clock,hb,hm⟩:=h;exact Ed (ok:=false) ht hk hz hb hm hx hy
theorem fO.Ee (h:fO w C j b kv cV m) (ht:P.underlying t=some (.map kt et)) (hk:sM P kt kv) (hz:BK P et (cV z0)) {k:dn}
  (hx:ev env x=some (.map (some b))) (hy:ev env y=some (kv k)):cL P N env (.lookup t x y true) w (.tuple #[cV ((eF m k).getD z0),.bool (eF m k).isSome]):=by
 obtain⟨_,es,clock,hb,hm⟩:=h;exact Ed (ok:=true) ht hk hz hb hm hx hy
theorem og.lookup (h:og w M kv cV m v) (ht:P.underlying t=some (.map kt et)) (hk:sM P kt kv) (hz:BK P et (cV z0)) {k:dn}
  (hx:ev env x=some v) (hy:ev env y=some (kv k)):cL P N env (.lookup t x y false) w (cV ((eF m k).getD z0)):=by
 obtain⟨b,rfl,_,es,clock,hb,hm⟩:=h;exact Ed (ok:=false) ht hk hz hb hm hx hy
theorem og.Ee (h:og w M kv cV m v) (ht:P.underlying t=some (.map kt et)) (hk:sM P kt kv) (hz:BK P et (cV z0)) {k:dn}
  (hx:ev env x=some v) (hy:ev env y=some (kv k)):cL P N env (.lookup t x y true) w (.tuple #[cV ((eF m k).getD z0),.bool (eF m k).isSome]):=by
 obtain⟨b,rfl,_,es,clock,hb,hm⟩:=h;exact Ed (ok:=true) ht hk hz hb hm hx hy
theorem tN (h:fO w C j b kv cV m) (ht:P.underlying t=some (.map kt et)) (hk:sM P kt kv) {k:dn} {u:β}
  (hx:ev env x=some (.map (some b))) (hy:ev env y=some (kv k)) (hz:ev env z=some (cV u)):
  gY P N env (.mapUpdate t x y z) w (λv w'=>v=undef/\ay [j] w C w' C/\fO w' C j b kv cV (gD m k u)):=oT λρ hρ o ho=>by
 obtain⟨hc,es,clock,hb,hm⟩:=h;have hf:=hk.find k es.toList (keys m) w hm.key;have mA: (getObj b).run P w=.ok (.map es clock) w:=by simp[getObj,Sem.run,hb]
 cases hi: (keys m).findIdx? (λx=>decide (x=k)) with
 |none=>
  rw[hi] at hf;have hu:=LO (.map (es.push {key:=kv k,val:=cV u,born:=clock}) (clock+1)) hb;refine⟨undef,_,.inr ⟨?_,rfl⟩,rfl,LP (o:=.map #[] 0) hu hc,hc,_,_,hu.at_,hm.push hi u⟩;unfold execOp;rw[ho];simp only[hρ _ _ hx,hρ _ _ hy,hρ _ _ hz];unfold Instr.mapUpdate;simp only[Sem.run_bind,run_underlying ht,Result.andThen_ok,mA,hk.check,hf,Option.bind_none];rw[LN hb (λ_ _ _ h=>by cases h)];rfl
 |some i=>
  rw[hi] at hf;have hu:=LO (.map (es.modify i λe=>{e with key:=kv k,val:=cV u}) clock) hb;have hke:=UD hm hi;have hlt:i<es.size:=by
   have:=(List.findIdx?_eq_some_iff_getElem.1 hi).1;have h2:=congrArg List.length hm.key;simp only[List.length_map,Array.length_toList] at h2;omega
  have UE: ((es[i]?).map (·.key)).getD (kv k)=kv k:=by rw[hke];rfl
  refine⟨undef,_,.inr ⟨?_,rfl⟩,rfl,LP (o:=.map #[] 0) hu hc,hc,_,_,hu.at_,hm.modify hi u⟩;unfold execOp;rw[ho];simp only[hρ _ _ hx,hρ _ _ hy,hρ _ _ hz];unfold Instr.mapUpdate;have hel:es.toList[i]?=some es[i]:=by simp[hlt]
  simp only[Sem.run_bind,run_underlying ht,Result.andThen_ok,mA,hk.check,hf,Option.bind_some,hel,Option.map_some];simp only[Sem.run_bind,Instr.keyThatStays,UE,hk.bits,if_true,Sem.run_pure,Result.andThen_ok];rw[LN hb (λ_ _ _ h=>by cases h)];rfl
end
section
variable {dn β:Type} [DecidableEq dn] {kv:dn->Value} {cV:β->Value} {m:List (dn×β)} {es:Array MapEntry} {clock:Nat}
variable {w w':World} {I:List Nat} {C aQ:Nat->Nat} {M:Nat->Prop} {j b n:Nat} {v:Value} {P:Program} {N:Nat} {env:Env} {x y z q:Operand} {t kt et:TypeId} {z0:β}
variable {it dc:Nat} {left:List (dn×β)} {cur:Option (dn×β)}
end
abbrev GB:Bool->Value:=λb=> .bool b
abbrev cW:av->Value:=λc=> .agg #[.int .i64 c.a,.int .i64 c.b]
abbrev zz:Nat->Value:=λn=> .int .i64 (n:Int)
def iI:List Int->Int
 |[]=>0
 |a::l=>if a=0 then iI l else a
def kf (x y:Int):Int:=if x<y then-1 else if y<x then 1 else 0
def iW (x y:av):Int:=iI [kf x.a y.a,kf x.b y.b]
theorem UF {l:List Int} {i:Nat} (h:i<l.length):iI (l.drop i)=if l[i]=0 then iI (l.drop (i+1)) else l[i]:=by
 rw[List.drop_eq_getElem_cons h];rfl
section
variable {P:Program} {t ti:TypeId} {n0 n1 nF nG nH nI:String} {e0 e1:Bool} {y0 y1:Nat}
theorem BL (hi:P.underlying ti=some (.int .i64)) (a b:Int) (i:Nat) (v:Value) (w:World) (hv: (#[Value.int .i64 a,Value.int .i64 b])[i]?=some v): (part ti #[.int .i64 a,.int .i64 b] i).run P w=.ok v w:=
 run_part_plain w (by simp[Program.plainKey,hi]) hv
theorem BM (h:P.underlying t=some (.struct #[⟨n0,ti,0,e0,nF,nH,y0⟩,⟨n1,ti,1,e1,nG,nI,y1⟩])) (h0:n0≠"_") (h1:n1≠"_") (hS:P.stoodInHeld t=false)
  (hi:P.underlying ti=some (.int .i64)):tM P t cW:=λd a b w=>by
 have hpt:=λa b i v w=>BL (P:=P) hi a b i v w;have hf:P.fieldsOf t=#[⟨n0,ti,0,e0,nF,nH,y0⟩,⟨n1,ti,1,e1,nG,nI,y1⟩]:=by simp[Program.fieldsOf,h]
 have he:=λ(x y:Int)=>run_equalIn_int (P:=P) w (d+6) ti .i64 .i64 x y hi;rw[show d+8=(d+7)+1 from rfl,run_equalIn_struct w (d+7) t _ _ (by rw[hf];exact h) hS,hf];have iu:∀c:av,(part ti #[.int .i64 c.a,.int .i64 c.b] 0).run P w=.ok (.int .i64 c.a) w:=λc=>hpt _ _ 0 _ w rfl;have p1:∀c:av,(part ti #[.int .i64 c.a,.int .i64 c.b] 1).run P w=.ok (.int .i64 c.b) w:=λc=>hpt _ _ 1 _ w rfl;have hd: (decide (a=b))=((a.a==b.a)&&(a.b==b.b)):=by
  cases a;cases b;simp only[av.mk.injEq,Bool.decide_and];rfl
 simp only[Op.eqFields,Sem.run_bind,Sem.run_ite,h0,h1,ne_eq,not_false_eq_true,if_true,iu,p1,Result.andThen_ok,he,hd];cases (a.a==b.a)<;>cases (a.b==b.b)<;>simp
theorem lM (h:P.underlying t=some (.struct #[⟨n0,ti,0,e0,nF,nH,y0⟩,⟨n1,ti,1,e1,nG,nI,y1⟩])) (h0:n0≠"_") (h1:n1≠"_") (hS:P.stoodInHeld t=false)
  (hi:P.underlying ti=some (.int .i64)):sM P t cW:=by
 have hpt:=λa b i v w=>BL (P:=P) hi a b i v w;refine LI h (BM h h0 h1 hS hi) (λe k w=>?_) (λk=>by simp[Instr.sameBits]) (λa b hab=>?_)
 ·have iu: (part ti #[.int .i64 k.a,.int .i64 k.b] 0).run P w=.ok (.int .i64 k.a) w:=hpt _ _ 0 _ w rfl;have p1: (part ti #[.int .i64 k.a,.int .i64 k.b] 1).run P w=.ok (.int .i64 k.b) w:=hpt _ _ 1 _ w rfl;have q:∀(x:Int),(Instr.checkKey e 9999 ti (.int .i64 x)).run P w=.ok () w:=λx=>by unfold Instr.checkKey;simp[run_underlying hi]
  rw[show(10000:Nat)=9999+1 from rfl,Instr.checkKey];simp only[Sem.run_bind,run_underlying h,Result.andThen_ok];rw[<-Array.forIn_toList];simp only[List.forIn_cons,List.forIn_nil,Sem.run_bind,Sem.run_ite,h0,h1,ne_eq,not_false_eq_true,if_true,iu,p1,q,Result.andThen_ok,Sem.run_pure]
 ·cases a;cases b;simp at hab;simp[hab]
theorem LQ (h:P.underlying t=some (.struct #[⟨n0,ti,0,e0,nF,nH,y0⟩,⟨n1,ti,1,e1,nG,nI,y1⟩])) (h0:n0≠"_") (h1:n1≠"_")
  (hi:P.underlying ti=some (.int .i64)) (d:Nat) (a b:av) (w:World): (Op.eqGuardIn (d+2) t (cW a) (cW b)).run P w=.ok false w:=by
 have hpt:=λa b i v w=>BL (P:=P) hi a b i v w;have iu:∀c:av,(part ti #[.int .i64 c.a,.int .i64 c.b] 0).run P w=.ok (.int .i64 c.a) w:=λc=>hpt _ _ 0 _ w rfl;have p1:∀c:av,(part ti #[.int .i64 c.a,.int .i64 c.b] 1).run P w=.ok (.int .i64 c.b) w:=λc=>hpt _ _ 1 _ w rfl;have q:∀(x y:Int),(Op.eqGuardIn (d+1) ti (.int .i64 x) (.int .i64 y)).run P w=.ok false w:=λx y=>by unfold Op.eqGuardIn;simp[run_underlying hi]
 rw[show d+2=(d+1)+1 from rfl,Op.eqGuardIn];simp only[Sem.run_bind,run_underlying h,Result.andThen_ok];rw[<-Array.forIn_toList];simp only[List.forIn_cons,List.forIn_nil,Sem.run_bind,Sem.run_ite,h0,h1,ne_eq,not_false_eq_true,if_true,iu,p1,q,Result.andThen_ok,Sem.run_pure,Bool.false_eq_true,if_false]
variable {N:Nat} {env:Env} {x y:Operand} {u:TypeId} {a b:av} {w:World}
theorem xo (h:P.underlying t=some (.struct #[⟨n0,ti,0,e0,nF,nH,y0⟩,⟨n1,ti,1,e1,nG,nI,y1⟩])) (h0:n0≠"_") (h1:n1≠"_") (hS:P.stoodInHeld t=false)
  (hi:P.underlying ti=some (.int .i64)) (hx:ev env x=some (cW a)) (hy:ev env y=some (cW b)):cL P N env (.binOp .eql t x y u) w (.bool (decide (a=b))):=mk' λρ hρ o ho=>by
 have h5:=BM h h0 h1 hS hi (Op.maxDepth-8) a b w;have h6:=LQ h h0 h1 hi (Op.maxDepth-2) a b w;have h7: (Op.equal t (cW a) (cW b)).run P w=.ok (decide (a=b)) w:=h5;have h8: (Op.eqGuardIn Op.maxDepth t (cW a) (cW b)).run P w=.ok false w:=h6;have fV: (eqGuard .eql t x y (cW a) (cW b)).run P w=.ok () w:=by
  unfold eqGuard;simp only[Sem.run_bind,Sem.run_pure,Sem.run_ite,run_program,Result.andThen_ok,h8,Bool.not_true,Bool.false_eq_true,if_false];cases P.eqGuardType P.depth t<;>simp[h8]
 have jm: (binOp .eql t (cW a) (cW b)).run P w=.ok (.bool (decide (a=b))) w:=by
  show(Op.equal t (cW a) (cW b)>>=λz=>pure (Value.bool z)).run P w=_;rw[Sem.run_bind,h7];rfl
 unfold execOp;rw[ho];simp only[hρ _ _ hx,hρ _ _ hy];simp[Sem.run_bind,fV,jm]
theorem GD (h:P.underlying t=some (.struct #[⟨n0,ti,0,e0,nF,nH,y0⟩,⟨n1,ti,1,e1,nG,nI,y1⟩])) (h0:n0≠"_") (h1:n1≠"_") (hS:P.stoodInHeld t=false)
  (hi:P.underlying ti=some (.int .i64)) (hx:ev env x=some (cW a)) (hy:ev env y=some (cW b)):cL P N env (.binOp .neq t x y u) w (.bool (decide (a≠b))):=mk' λρ hρ o ho=>by
 have h5:=BM h h0 h1 hS hi (Op.maxDepth-8) a b w;have h6:=LQ h h0 h1 hi (Op.maxDepth-2) a b w;have h7: (Op.equal t (cW a) (cW b)).run P w=.ok (decide (a=b)) w:=h5;have h8: (Op.eqGuardIn Op.maxDepth t (cW a) (cW b)).run P w=.ok false w:=h6;have fV: (eqGuard .neq t x y (cW a) (cW b)).run P w=.ok () w:=by
  unfold eqGuard;simp only[Sem.run_bind,Sem.run_pure,Sem.run_ite,run_program,Result.andThen_ok,h8,Bool.not_true,Bool.false_eq_true,if_false];cases P.eqGuardType P.depth t<;>simp[h8]
 have jm: (binOp .neq t (cW a) (cW b)).run P w=.ok (.bool (decide (a≠b))) w:=by
  show(Op.equal t (cW a) (cW b)>>=λz=>pure (Value.bool (!z))).run P w=_;rw[Sem.run_bind,h7];simp
 unfold execOp;rw[ho];simp only[hρ _ _ hx,hρ _ _ hy];simp[Sem.run_bind,fV,jm]
end
def nJ (x y:av):Bool:=!decide (iW y x<0)
def jY (l:List av):List av:=l.mergeSort nJ
theorem GF (x y:av):iW x y=if x.a<y.a then-1 else if y.a<x.a then 1 else if x.b<y.b then-1 else if y.b<x.b then 1 else 0:=by
 unfold iW iI iI iI kf;by_cases h1:x.a<y.a<;>by_cases h2:y.a<x.a<;>by_cases h3:x.b<y.b<;>by_cases h4:y.b<x.b<;>simp[h1,h2,h3,h4]
theorem u9 (x y:av):nJ x y=true↔x.a<y.a\/x.a=y.a/\x.b<=y.b:=by
 unfold nJ;rw[GF];simp only[Bool.not_eq_true',decide_eq_false_iff_not];split
 ·omega
 ·split
  ·omega
  ·split
   ·omega
   ·split<;>omega
theorem UG (x y z:av) (h:nJ x y=true) (h':nJ y z=true):nJ x z=true:=by rw[u9] at*;omega
theorem UH (x y:av): (nJ x y||nJ y x)=true:=by rw[Bool.or_eq_true,u9,u9];omega
theorem GG (x y:av) (h:nJ x y=true) (h':nJ y x=true):x=y:=by
 rw[u9] at*;have h1:x.a=y.a:=by omega
 have h2:x.b=y.b:=by omega
 cases x;cases y;simp only at h1 h2;rw[h1,h2]
theorem LR (l:List av): (jY l).Pairwise (λx y=>nJ x y=true):=List.pairwise_mergeSort UG UH l
theorem u_ (l:List av): (jY l).Perm l:=List.mergeSort_perm l nJ
theorem LS {γ:Type} {le:γ->γ->Bool} (ha:∀x y,le x y=true->le y x=true->x=y):∀{l l':List γ},l.Perm l'->l.Pairwise (λx y=>le x y=true)->l'.Pairwise (λx y=>le x y=true)->l=l'
 |[],l',hp,_,_=>by simpa using hp.symm.eq_nil.symm
 |a::l,[],hp,_,_=>by simpa using hp.eq_nil
 |a::l,b::l',hp,h1,h2=>by
  have hab:a=b:=by
   by_cases e:a=b
   ·exact e
   ·have hb:b∈a::l:=hp.symm.subset (by simp);have iU:a∈b::l':=hp.subset (by simp);rcases List.mem_cons.1 hb with hb|hb
    ·exact hb.symm
    ·rcases List.mem_cons.1 iU with iU|iU
     ·exact iU
     ·exact ha _ _ ((List.pairwise_cons.1 h1).1 b hb) ((List.pairwise_cons.1 h2).1 a iU)
  subst hab;rw[LS ha hp.cons_inv (List.pairwise_cons.1 h1).2 (List.pairwise_cons.1 h2).2]
section
variable {α:Type} [DecidableEq α]
def gI:List α->List α
 |[]=>[]
 |[a]=>[a]
 |a::b::l=>if a=b then gI (b::l) else a::gI (b::l)
theorem LU (b:α):∀(l:List α) (h:l≠[]),gI (l++[b])=if l.getLast h=b then gI l else gI l++[b]
 |[],h=>absurd rfl h
 |[a],_=>by
  by_cases e:a=b
  ·subst e;simp[gI]
  ·simp[gI,e]
 |a::c::l,h=>by
  have ih:=LU b (c::l) (by simp);simp only[List.cons_append,gI] at ih⊢;rw[List.getLast_cons (by simp)];by_cases hac:a=c
  ·rw[if_pos hac,if_pos hac];exact ih
  ·rw[if_neg hac,if_neg hac,ih];split<;>simp
theorem Ef {l:List α} {k:Nat} (h0:0<k) (h:k<l.length):gI (l.take (k+1))=if l[k-1]'(by omega)=l[k] then gI (l.take k) else gI (l.take k)++[l[k]]:=by
 have hne:l.take k≠[]:=by
  intro e;have: (l.take k).length=0:=by rw[e];rfl
  rw[List.length_take] at this;omega
 rw[List.take_succ_eq_append_getElem h,LU _ _ hne];have: (l.take k).getLast hne=l[k-1]'(by omega):=by
  rw[List.getLast_eq_getElem];simp only[List.length_take,List.getElem_take];congr 1;omega
 rw[this]
theorem Eg {a:α}:∀{l:List α},a∈gI l↔a∈l
 |[]=>by simp[gI]
 |[b]=>by simp[gI]
 |b::c::l=>by
  have ih:=Eg (a:=a) (l:=c::l);unfold gI;split
  ·rename_i e;subst e;rw[ih];simp
  ·rw[List.mem_cons,ih,List.mem_cons (a:=a) (b:=b)]
theorem BN:∀l:List α,(gI l).Sublist l
 |[]=>by simp[gI]
 |[b]=>by simp[gI]
 |b::c::l=>by
  have ih:=BN (c::l);unfold gI;split
  ·exact ih.cons b
  ·exact ih.cons_cons b
theorem UI (l:List α): (gI l).length<=l.length:=(BN l).length_le
theorem GH {le:α->α->Prop} (ha:∀x y,le x y->le y x->x=y):∀{l:List α},l.Pairwise le->(gI l).Nodup
 |[],_=>by simp[gI]
 |[b],_=>by simp[gI]
 |b::c::l,h=>by
  have h2:=(List.pairwise_cons.1 h).2;have ih:=GH ha h2;unfold gI;split
  ·exact ih
  ·rename_i hne;refine List.nodup_cons.2 ⟨λhm=>?_,ih⟩;rw[Eg] at hm;have hbc:=(List.pairwise_cons.1 h).1 c (by simp);rcases List.mem_cons.1 hm with e|hm
   ·exact hne e
   ·exact hne (ha _ _ hbc ((List.pairwise_cons.1 h2).1 b hm))
end
def LV:av->List Value:=λc=>[.int .i64 c.a,.int .i64 c.b]
instance:Inhabited av:=⟨⟨0,0⟩⟩
theorem UJ {h:Array Obj} {M:Nat->Prop}:rep h M (⟨0,0⟩:av) [.int .i64 0,.int .i64 0]:=⟨[_],[_],rfl,rfl,rfl⟩
structure a_ where
 A:av
 B:av
 w:Int
 deriving DecidableEq
instance:bu a_:=bu.via (λx:a_=>(x.A,(x.B,x.w)))
instance:Inhabited a_:=⟨⟨⟨0,0⟩,⟨0,0⟩,0⟩⟩
abbrev ic (x:a_):List Value:=[.int .i64 x.A.a,.int .i64 x.A.b,.int .i64 x.B.a,.int .i64 x.B.b,.int .i64 x.w]
abbrev bE (x:av):List Value:=[.int .i64 x.a,.int .i64 x.b]
section
variable {w:World} {M:Nat->Prop} {b o:Nat} {v:Value}
theorem dJ.ve {x:a_} (h:dJ w M x b o):dJ w M x.A b o:=dJ.fst (p:=(x.A,(x.B,x.w))) h
theorem dJ.Eh {x:a_} (h:dJ w M x b o):dJ w M x.B b (o+2):=dJ.fst (p:=(x.B,x.w)) (dJ.snd (p:=(x.A,(x.B,x.w))) h)
theorem k5 {h:Array Obj} {x:av} {vs:List Value}:rep h M x vs↔vs=bE x:=
 ⟨λhr=>by
   obtain⟨us,ws,rfl,h1,h2⟩:=hr;rw[show us=[.int .i64 x.a] from h1,show ws=[.int .i64 x.b] from h2];rfl,
  λhr=>by subst hr;exact⟨[_],[_],rfl,rfl,rfl⟩⟩
theorem LW {h:Array Obj} {x:a_} {vs:List Value}:rep h M x vs↔vs=ic x:=
 ⟨λhr=>by
   obtain⟨us,ws,rfl,h1,xq,BO,rfl,h2,h3⟩:=hr;have e1:=(k5 (M:=M) (h:=h) (x:=x.A)).1 h1;have e2:=(k5 (M:=M) (h:=h) (x:=x.B)).1 h2;have fE:BO=[.int .i64 x.w]:=h3;subst e1 e2 fE;rfl,
  λhr=>by
   subst hr;exact⟨bE x.A,bE x.B++[.int .i64 x.w],rfl,(k5 (M:=M)).2 rfl,bE x.B,[.int .i64 x.w],rfl,(k5 (M:=M)).2 rfl,rfl⟩⟩
theorem jy {x:a_}:aB w M x v↔v=.agg (ic x).toArray:=
 ⟨λh=>by obtain⟨vs,h1,h2⟩:=h;rw[LW.1 h1] at h2;exact h2,λh=>⟨_,LW.2 rfl,h⟩⟩
end
structure iw where
 v:Value
instance:Inhabited iw:=⟨⟨.slice none 0 0⟩⟩
instance:bu iw where
 sz:=1
 agg:=false
 flat _:=rfl
 rep _ _ x vs:=vs=[x.v]/\x.v.oneCell'=true
 len h:=by obtain⟨rfl,_⟩:=h;rfl
 one h:=by obtain⟨rfl,h1⟩:=h;intro v hv;simp at hv;subst hv;exact h1
 keep h _:=h
 sub h _:=h
section
variable {w:World} {M:Nat->Prop} {v:Value} {β:Type} [bu β]
theorem oh {x:iw}:aB w M x v↔v=x.v/\x.v.oneCell'=true:=⟨λ⟨vs,h,e⟩=>by obtain⟨rfl,h⟩:=h;exact⟨e,h⟩,λh=>⟨_,⟨rfl,h.2⟩,h.1⟩⟩
theorem aB.UK {xs:List iw} {ys:List β} (h:aB w M xs v) (hb:bu.agg β=false) (hl:ys.length=xs.length) (he:∀i (h1:i<ys.length) (h2:i<xs.length),aB w M ys[i] xs[i].v):aB w M ys v:=by
 obtain⟨a,c,rfl,hc,h63,h0⟩:=jx.1 h;refine jx.2 ⟨a,c,by rw[hl],by rw[hl];exact hc,by rw[hl];exact h63,?_⟩;rcases h0 with h0|⟨b,o,rfl,ew,cs,ty,eP,hcs,hsz,hr⟩
 ·left;subst h0;exact List.eq_nil_of_length_eq_zero hl
 ·right;have s1:sz β=1:=bu.flat hb;refine⟨b,o,rfl,ew,cs,ty,eP,hcs,by rw[hl,s1];exact hsz,λi hi=>?_⟩;have hi2:i<xs.length:=by omega
  have hv:dB cs (o+i*1) 1=[xs[i].v]:=(hr i hi2).1;rw[s1,hv];exact(he i hi hi2).Bp hb
end
def fK (x y:av):Prop:=x.a<y.a\/x.a=y.a/\x.b<y.b
instance (x y:av):Decidable (fK x y):=by unfold fK;infer_instance
theorem xu (x:av):¬fK x x:=by unfold fK;omega
theorem BP {x y z:av} (h:fK x y) (h':fK y z):fK x z:=by unfold fK at*;omega
theorem Ei {x y:av}:nJ x y=true↔¬fK y x:=by rw[u9];unfold fK;omega
theorem LX {x y:av} (h1:x.a=y.a) (h2:x.b=y.b):x=y:=by cases x;cases y;simp_all
theorem Ej (x y:av):fK x y\/x=y\/fK y x:=by
 unfold fK;by_cases h1:x.a=y.a<;>by_cases h2:x.b=y.b
 ·exact .inr (.inl (LX h1 h2))
 all_goals omega
theorem GJ {x y:av}:iW x y=0↔x=y:=by
 rw[GF];constructor
 ·intro h;apply LX<;>(split at h<;>first|omega|(split at h<;>first|omega|(split at h<;>first|omega|(split at h<;>omega))))
 ·intro h;subst h;simp
theorem xw {x y:av}:iW x y<0↔fK x y:=by
 rw[GF];unfold fK;split
 ·omega
 ·split
  ·omega
  ·split
   ·omega
   ·split<;>omega
def oZ (x y:a_):Prop:=fK x.A y.A\/x.A=y.A/\fK x.B y.B
instance (x y:a_):Decidable (oZ x y):=by unfold oZ;infer_instance
def vi (a b c d:av):Int:=iI [iW a c,iW b d]
theorem GK {x y:a_}:0<=vi x.A x.B y.A y.B↔¬oZ x y:=by
 unfold vi oZ iI iI iI;have h1:= @GJ x.A y.A;have h2:= @xw x.A y.A;have h3:= @GJ x.B y.B;have h4:= @xw x.B y.B;split
 ·rename_i h;have e:=h1.1 h;rw[<-h4,e];have:¬fK y.A y.A:=xu _;split
  ·simp_all
  ·simp only[this,false_or,true_and,<-h4];omega
 ·rename_i h;have:¬x.A=y.A:=λe=>h (h1.2 e);rw[<-h2];simp[this]
def lP (r:av):Bool:=decide (0<=r.a)&&decide (r.a<4)&&decide (1<=r.b)&&decide (r.b<=1048576)
def k6 (a b:av):Bool:=lP a&&lP b&&decide (a.a<b.a)
def rL (l:List a_) (i:Nat):Int:=
 if k6 l[i]!.A l[i]!.B=false then 41 else if l[i]!.w<1\/1048576<l[i]!.w then 40 else if 0<i/\¬oZ l[i-1]! l[i]! then 12 else 0
def jH (l:List a_):Int:=if 4096<l.length then 1 else iI ((List.range l.length).map (rL l))
theorem UL (a b:List Int):iI (a++b)=if iI a=0 then iI b else iI a:=by
 induction a with
 |nil=>simp[iI]
 |cons x a ih=>simp only[List.cons_append,iI];split<;>simp_all
theorem LY {l:List Int} (h:∀x∈l,x=0):iI l=0:=by
 induction l with
 |nil=>rfl
 |cons x l ih=>simp only[iI];rw[if_pos (h x (by simp))];exact ih (λy hy=>h y (by simp[hy]))
theorem UM {l:List Int} (h:iI l=0):∀x∈l,x=0:=by
 induction l with
 |nil=>simp
 |cons x l ih=>
  simp only[iI] at h;split at h
  ·rename_i e;intro y hy;rcases List.mem_cons.1 hy with rfl|hy
   ·exact e
   ·exact ih h y hy
  ·rename_i e;exact absurd h e
theorem LZ {l:List a_} (h:4096<l.length):jH l=1:=by unfold jH;rw[if_pos h]
theorem GL {l:List a_} (hl:l.length<=4096) (h0:∀k,k<l.length->rL l k=0):jH l=0:=by
 unfold jH;rw[if_neg (by omega)];refine LY λx hx=>?_;obtain⟨k,hk,rfl⟩:=List.mem_map.1 hx;exact h0 k (List.mem_range.1 hk)
theorem range_split {i n:Nat} (h:i<n):List.range n=List.range i++(i::(List.range n).drop (i+1)):=by
 have h1: (List.range n).take i=List.range i:=by rw[List.take_range,Nat.min_eq_left (by omega)]
 have h2: (List.range n).drop i=i::(List.range n).drop (i+1):=by
  rw[List.drop_eq_getElem_cons (by simpa using h)];simp
 rw[<-h1,<-h2,List.take_append_drop]
theorem zC {l:List a_} {i:Nat} (hl:l.length<=4096) (h:i<l.length) (h0:∀k,k<i->rL l k=0) (he:rL l i≠0):jH l=rL l i:=by
 unfold jH;rw[if_neg (by omega),range_split h,List.map_append,UL,if_pos]
 ·simp only[List.map_cons,iI];rw[if_neg he]
 ·refine LY λx hx=>?_;obtain⟨k,hk,rfl⟩:=List.mem_map.1 hx;exact h0 k (List.mem_range.1 hk)
theorem UN {l:List a_} (h:jH l=0):l.length<=4096/\∀k,k<l.length->rL l k=0:=by
 unfold jH at h;split at h
 ·cases h
 ·exact⟨by omega,λk hk=>UM h _ (List.mem_map.2 ⟨k,List.mem_range.2 hk,rfl⟩)⟩
theorem GN {l:List a_} (h:jH l=0):l.length<=4096:=(UN h).1
theorem L1 {l:List a_} {i:Nat} (h:i<l.length):rL l i=if k6 l[i].A l[i].B=false then 41 else if l[i].w<1\/1048576<l[i].w then 40 else if 0<i/\¬oZ (l[i-1]'(by omega)) l[i] then 12 else 0:=by
 unfold rL;rw[getElem!_pos l i h,getElem!_pos l (i-1) (by omega)]
def okB (x:a_):Prop:=k6 x.A x.B=true/\1<=x.w/\x.w<=1048576
def mB (l:List a_):Prop:=l.length<=4096/\(∀x∈l,okB x)/\l.Pairwise oZ
theorem mB.check {l:List a_} (h:mB l):jH l=0:=by
 obtain⟨h1,h2,h3⟩:=h;refine GL h1 λk hk=>?_;have hx:=h2 l[k] (List.getElem_mem hk);unfold rL;rw[getElem!_pos l k hk,if_neg (by simp[hx.1]),if_neg (by have:=hx.2;omega)];split
 ·rename_i h;exfalso;obtain⟨h0,hn⟩:=h;rw[getElem!_pos l (k-1) (by omega)] at hn;exact hn (List.pairwise_iff_getElem.1 h3 (k-1) k (by omega) hk (by omega))
 ·rfl
theorem mB.sub {l l':List a_} (h:mB l) (hs:l'.Sublist l):mB l':=⟨Nat.le_trans hs.length_le h.1,λx hx=>h.2.1 x (hs.subset hx),h.2.2.sublist hs⟩
def kM (l:List a_):List av:=l.flatMap λx=>[x.A,x.B]
def aO (l:List a_):List av:=gI (jY (kM l))
theorem UO (l:List a_) (x:a_):kM (l++[x])=kM l++[x.A,x.B]:=by simp[kM]
theorem L3 {l:List a_} {i:Nat} (h:i<l.length):kM (l.take (i+1))=kM (l.take i)++[l[i].A,l[i].B]:=by
 rw[List.take_succ_eq_append_getElem h,UO]
theorem BQ (l:List a_): (kM l).length=2*l.length:=by
 induction l with
 |nil=>rfl
 |cons x l ih=>simp only[kM,List.flatMap_cons,List.length_append,List.length_cons,List.length_nil] at*;omega
theorem UQ (l:List av): (jY l).length=l.length:=(u_ l).length_eq
theorem tO (l:List a_): (aO l).length<=2*l.length:=by
 unfold aO;have:=UI (jY (kM l));rw[UQ,BQ] at this;exact this
theorem gQ {l:List a_} {r:av}:r∈aO l↔∃x∈l,r=x.A\/r=x.B:=by
 unfold aO;rw[Eg,(u_ _).mem_iff];simp[kM,List.mem_flatMap]
theorem vj (l:List a_): (aO l).Pairwise fK:=by
 unfold aO;have h1:=LR (kM l);have h2:=GH (le:=λx y=>nJ x y=true) GG h1;have h3:=h1.sublist (BN _);refine(h3.and h2).imp λ{x y} ⟨h4,h5⟩=>?_;rcases Ej x y with h|h|h
 ·exact h
 ·exact absurd h h5
 ·exact absurd h (Ei.1 h4)
theorem BR {l:List av} (h:l.Pairwise fK):l.Nodup:=h.imp λ{x y} hxy e=>by subst e;exact xu _ hxy
theorem vw (l:List a_): (aO l).Nodup:=BR (vj l)
theorem GO {l l':List av} (h:l.Pairwise fK) (h':l'.Pairwise fK) (hm:∀r,r∈l↔r∈l'):l=l':=by
 have hp:l.Perm l':=(List.perm_ext_iff_of_nodup (BR h) (BR h')).2 hm;refine LS GG hp (h.imp λ{x y} hxy=>Ei.2 λh2=>xu _ (BP hxy h2)) (h'.imp λ{x y} hxy=>Ei.2 λh2=>xu _ (BP hxy h2))
def p8 (ρ:av->av) (a b:av):av->av:=λr=>if ρ r=ρ a then ρ b else ρ r
def vA (ρ:av->av) (l:List a_):av->av:=l.foldl (λρ x=>p8 ρ x.A x.B) ρ
def cm (l:List a_):av->av:=vA id l
theorem UR (l:List a_) (x:a_):cm (l++[x])=p8 (cm l) x.A x.B:=by unfold cm vA;rw[List.foldl_append];rfl
theorem L4 {γ:Type} (p:av->γ):∀(l:List a_) (ρ:av->av),(∀x∈l,p x.A=p x.B)->(∀r,p (ρ r)=p r)->∀r,p (vA ρ l r)=p r
 |[],ρ,_,h,r=>h r
 |x::l,ρ,hx,h,r=>by
  show p (vA (p8 ρ x.A x.B) l r)=p r;refine L4 p l _ (λy hy=>hx y (by simp[hy])) (λs=>?_) r;unfold p8;split
  ·rename_i e;rw[h,<-hx x (by simp),<-h x.A,<-e,h]
  ·exact h s
theorem sN {γ:Type} {p:av->γ} {l:List a_} (hx:∀x∈l,p x.A=p x.B) (r:av):p (cm l r)=p r:=L4 p l id hx (λ_=>rfl) r
theorem L5:∀(l:List a_) (ρ:av->av) {r s:av},ρ r=ρ s->vA ρ l r=vA ρ l s
 |[],_,_,_,h=>h
 |x::l,ρ,r,s,h=>L5 l (p8 ρ x.A x.B) (by unfold p8;rw[h])
theorem L6:∀(l:List a_) (ρ:av->av) {x:a_},x∈l->vA ρ l x.A=vA ρ l x.B
 |y::l,ρ,x,h=>by
  rcases List.mem_cons.1 h with rfl|h
  ·exact L5 l (p8 ρ x.A x.B) (by unfold p8;rw[if_pos rfl];split<;>rfl)
  ·exact L6 l _ h
theorem tP {l:List a_} {x:a_} (h:x∈l):cm l x.A=cm l x.B:=L6 l id h
theorem Ek {l l':List a_} (h:∀x∈l,x∈l') {r s:av} (e:cm l r=cm l s):cm l' r=cm l' s:=by
 have hp:∀x∈l,cm l' x.A=cm l' x.B:=λx hx=>tP (h x hx);rw[<-sN hp r,<-sN hp s,e]
theorem L7 {l:List a_} {r:av}:cm l r∈aO l↔r∈aO l:=by
 have:=sN (p:=λr=>decide (r∈aO l)) (l:=l) (λx hx=>by
  rw[decide_eq_true (gQ.2 ⟨x,hx,.inl rfl⟩),decide_eq_true (gQ.2 ⟨x,hx,.inr rfl⟩)]) r
 simpa using this
theorem L8 {l:List a_} {r:av} (h:r∉aO l):cm l r=r:=by
 have:=sN (p:=λs=>if s∈aO l then none else some s) (l:=l) (λx hx=>by
  rw[if_pos (gQ.2 ⟨x,hx,.inl rfl⟩),if_pos (gQ.2 ⟨x,hx,.inr rfl⟩)]) r
 rw[if_neg h,if_neg (λhm=>h (L7.1 hm))] at this;simpa using this
section
variable {α β:Type} [DecidableEq β]
def dO (f:α->β) (xs:List α):List α:=xs.foldl (λacc r=>if acc.any (λq=>decide (f q=f r)) then acc else acc++[r]) []
def gJ (f:α->β) (xs:List α):List (List α):=(dO f xs).map λq=>xs.filter λr=>decide (f r=f q)
theorem zD (f:α->β) (xs:List α) (r:α):dO f (xs++[r])=if(dO f xs).any (λq=>decide (f q=f r)) then dO f xs else dO f xs++[r]:=by
 unfold dO;rw[List.foldl_append];rfl
theorem GQ {p:List α->Prop} (h0:p []) (h1:∀l a,p l->p (l++[a])) (l:List α):p l:=by
 rw[<-List.reverse_reverse l]
 induction l.reverse with
 |nil=>exact h0
 |cons a l ih=>rw[List.reverse_cons];exact h1 _ a ih
theorem xx (f:α->β) (xs:List α): (dO f xs).Sublist xs:=by
 induction xs using GQ with
 |h0=>exact List.Sublist.refl _
 |h1 l a ih=>
  rw[zD];split
  ·exact ih.trans (List.sublist_append_left _ _)
  ·exact ih.append (List.Sublist.refl _)
theorem El {f:α->β} {xs:List α} {r:α}: (dO f xs).any (λq=>decide (f q=f r))=true↔∃q∈xs,f q=f r:=by
 induction xs using GQ with
 |h0=>simp[dO]
 |h1 l a ih=>
  rw[zD];split
  ·rename_i h;rw[ih];constructor
   ·rintro⟨q,hq,e⟩;exact⟨q,by simp[hq],e⟩
   ·rintro⟨q,hq,e⟩;rcases List.mem_append.1 hq with hq|hq
    ·exact⟨q,hq,e⟩
    ·simp only[List.mem_singleton] at hq;subst hq;obtain⟨s,hs,e2⟩:=List.any_eq_true.1 h;exact⟨s,(xx f l).subset hs,by simpa[e] using e2⟩
  ·simp only[List.any_append,Bool.or_eq_true,ih,List.any_cons,List.any_nil,Bool.or_false,decide_eq_true_eq];constructor
   ·rintro(⟨q,hq,e⟩|e)
    ·exact⟨q,by simp[hq],e⟩
    ·exact⟨a,by simp,e⟩
   ·rintro⟨q,hq,e⟩;rcases List.mem_append.1 hq with hq|hq
    ·exact .inl ⟨q,hq,e⟩
    ·simp only[List.mem_singleton] at hq;subst hq;exact .inr e
theorem GR {f:α->β} {xs:List α} {r:α} (h:r∈xs):∃q∈dO f xs,f q=f r:=by
 have:=(El (f:=f) (xs:=xs) (r:=r)).2 ⟨r,h,rfl⟩;obtain⟨q,hq,e⟩:=List.any_eq_true.1 this;exact⟨q,hq,by simpa using e⟩
theorem GU (f:α->β) (xs:List α): ((dO f xs).map f).Nodup:=by
 induction xs using GQ with
 |h0=>simp[dO]
 |h1 l a ih=>
  rw[zD];split
  ·exact ih
  ·rename_i h;rw[List.map_append,List.nodup_append];refine⟨ih,by simp,λx hx y hy e=>h ?_⟩;obtain⟨q,hq,rfl⟩:=List.mem_map.1 hx;simp only[List.map_cons,List.map_nil,List.mem_singleton] at hy;exact List.any_eq_true.2 ⟨q,hq,by simp[e,hy]⟩
theorem mC (f:α->β) (xs:List α): (gJ f xs).length=(dO f xs).length:=by simp[gJ]
theorem BS {f:α->β} {xs:List α} {i:Nat} (h:i<(gJ f xs).length): (gJ f xs)[i]=xs.filter λr=>decide (f r=f ((dO f xs)[i]'(by rwa [mC] at h))):=by simp[gJ]
theorem L9 {f:α->β} {xs:List α} {r:α} {i:Nat} (hi:i<(dO f xs).length) (e:f (dO f xs)[i]=f r):
  dO f (xs++[r])=dO f xs/\gJ f (xs++[r])=(gJ f xs).modify i (·++[r]):=by
 have h1:dO f (xs++[r])=dO f xs:=by
  rw[zD,if_pos (List.any_eq_true.2 ⟨_,List.getElem_mem hi,by simp[e]⟩)]
 refine⟨h1,?_⟩;apply List.ext_getElem?;intro j;unfold gJ;rw[h1,List.getElem?_modify,List.getElem?_map,List.getElem?_map];by_cases hj:j<(dO f xs).length
 ·rw[List.getElem?_eq_getElem hj];simp only[Option.map_some,Option.some.injEq];by_cases hij:i=j
  ·subst hij;simp[List.filter_append,e]
  ·rw[List.filter_append];have:¬f r=f (dO f xs)[j]:=λh2=>hij (by
    have hn:=List.pairwise_iff_getElem.1 (GU f xs);rcases Nat.lt_trichotomy i j with h3|h3|h3
    ·exact absurd (by rw[List.getElem_map,List.getElem_map,e,h2]) (hn i j (by simpa using hi) (by simpa using hj) h3)
    ·exact h3
    ·exact absurd (by rw[List.getElem_map,List.getElem_map,e,h2]) (hn j i (by simpa using hj) (by simpa using hi) h3))
   simp[hij,this]
 ·rw[List.getElem?_eq_none (by omega)];simp
theorem L_ {f:α->β} {xs:List α} {r:α} (h:∀q∈dO f xs,f q≠f r):
  dO f (xs++[r])=dO f xs++[r]/\gJ f (xs++[r])=gJ f xs++[[r]]:=by
 have h0:¬(dO f xs).any (λq=>decide (f q=f r))=true:=λha=>by
  obtain⟨q,hq,e⟩:=List.any_eq_true.1 ha;exact h q hq (by simpa using e)
 have h1:dO f (xs++[r])=dO f xs++[r]:=by rw[zD,if_neg h0]
 refine⟨h1,?_⟩;unfold gJ;rw[h1,List.map_append];congr 1
 ·refine List.map_congr_left λq hq=>?_;rw[List.filter_append];simp[Ne.symm (h q hq)]
 ·simp only[List.map_cons,List.map_nil,List.filter_append,List.cons.injEq,and_true];have:xs.filter (λr_1=>decide (f r_1=f r))=[]:=by
   rw[List.filter_eq_nil_iff];intro q hq hd;exact h0 (El.2 ⟨q,hq,by simpa using hd⟩)
  rw[this];simp
end
def dx (l:List a_):List (List av):=gJ (cm l) (aO l)
def bk (l:List a_):List (List a_):=(dO (cm l) (aO l)).map λq=>l.filter λx=>decide (cm l x.A=cm l q)
theorem Ma (l:List a_): (dx l).length<=2*l.length:=by
 unfold dx;rw[mC];exact Nat.le_trans (xx _ _).length_le (tO l)
theorem BT (l:List a_): (bk l).length=(dx l).length:=by simp[bk,dx,gJ]
def mD (u:List (av×av)) (ρ:av->av) (d:av->Nat):Prop:=
 ∀r v,eF u r=some v->(∃v',eF u v=some v')/\ρ v=ρ r/\(v≠r->d v<d r)/\(v=r->ρ r=r)
def Dom (u:List (av×av)) (xs:List av):Prop:=∀r∈xs,∃v,eF u r=some v
theorem Dom.put {u:List (av×av)} {xs:List av} (h:Dom u xs) (a b:av):Dom (gD u a b) xs:=λr hr=>by
 rw[lK];split
 ·exact⟨_,rfl⟩
 ·exact h r hr
theorem Dom.US {u:List (av×av)} {xs:List av} (h:Dom u xs) (a b:av):Dom (gD u a b) (xs++[a]):=λr hr=>by
 rw[lK];split
 ·exact⟨_,rfl⟩
 ·rename_i e;rcases List.mem_append.1 hr with hr|hr
  ·exact h r hr
  ·simp only[List.mem_singleton] at hr;exact absurd hr.symm e
theorem mD.self {u:List (av×av)} {d:av->Nat} (h:mD u id d) (r:av):mD (gD u r r) id d:=λs v hs=>by
 rw[lK] at hs;split at hs
 ·rename_i e;obtain rfl:r=v:=by simpa using hs
  subst e;exact⟨⟨r,by rw[lK,if_pos rfl]⟩,rfl,λh=>absurd rfl h,λ_=>rfl⟩
 ·obtain⟨⟨v',h1⟩,h2,h3,h4⟩:=h s v hs;refine⟨?_,h2,h3,h4⟩;rw[lK];split
  ·exact⟨_,rfl⟩
  ·exact⟨_,h1⟩
theorem mD.UT {u:List (av×av)} {ρ:av->av} {d:av->Nat} (h:mD u ρ d) {r v v2:av} (hr:eF u r=some v) (hv:eF u v=some v2) (hne:v≠r):mD (gD u r v2) ρ d:=λs x hs=>by
 have hd:∀{y:av},(∃v',eF u y=some v')->∃v',eF (gD u r v2) y=some v':=λ{y} hy=>by
  rw[lK];split
  ·exact⟨_,rfl⟩
  ·exact hy
 rw[lK] at hs;split at hs
 ·rename_i e;obtain rfl:v2=x:=by simpa using hs
  subst e;obtain⟨_,h2,h3,h4⟩:=h r v hr;obtain⟨g1,g2,g3,g4⟩:=h v v2 hv;refine⟨hd g1,g2.trans h2,λ_=>?_,λe=>?_⟩
  ·have:=h3 hne;by_cases e:v2=v
   ·rw[e];exact this
   ·have:=g3 e;omega
  ·exfalso;have a1:=h3 hne;by_cases e2:v2=v
   ·exact hne (e2.symm.trans e)
   ·have:=g3 e2;rw[e] at this;omega
 ·obtain⟨h1,h2⟩:=h s x hs;exact⟨hd h1,h2⟩
theorem mD.join {u:List (av×av)} {ρ:av->av} {d:av->Nat} (h:mD u ρ d) {a b:av} (ha:eF u (ρ a)=some (ρ a)) (hb:eF u (ρ b)=some (ρ b)):∃d',mD (gD u (ρ a) (ρ b)) (p8 ρ a b) d':=by
 have p9:=(h _ _ ha).2.2.2 rfl;have ib:=(h _ _ hb).2.2.2 rfl;refine⟨λx=>if ρ x=ρ a/\ρ a≠ρ b then d x+d (ρ b)+1 else d x,λs x hs=>?_⟩;have hd:∀{y:av},(∃v',eF u y=some v')->∃v',eF (gD u (ρ a) (ρ b)) y=some v':=λ{y} hy=>by
  rw[lK];split
  ·exact⟨_,rfl⟩
  ·exact hy
 rw[lK] at hs;split at hs
 ·rename_i e;obtain rfl:ρ b=x:=by simpa using hs
  subst e;refine⟨hd ⟨_,hb⟩,?_,λhne=>?_,λe=>?_⟩
  ·unfold p8;rw[p9,ib];simp
  ·simp only;rw[if_neg (λh=>hne (ib.symm.trans h.1)),if_pos ⟨p9,λe=>hne e.symm⟩];omega
  ·unfold p8;rw[p9,if_pos rfl,e]
 ·rename_i hne;obtain⟨h1,h2,h3,h4⟩:=h s x hs;refine⟨hd h1,?_,λhx=>?_,λe=>?_⟩
  ·unfold p8;rw[h2]
  ·have:=h3 hx;simp only[h2];split<;>omega
  ·have:=h4 e;unfold p8;rw[if_neg (λe2=>hne (by rw[<-e2,this])),this]
section
variable {dn β:Type} {kv:dn->Value} {cV:β->Value} {m:List (dn×β)} {w w' w₀:World} {I:List Nat} {C aQ jP:Nat->Nat} {i j b:Nat}
theorem fO.eu (h:fO w C i b kv cV m) (hi:i≠0):fO w (K.eu C i) 2 b kv cV m:=⟨by unfold K.eu;rw[if_neg (by rw[h.1];exact hi),if_pos h.1],h.2⟩
theorem fO.UU (h:fO w' aQ j b kv cV m) (hb:jP b=i):fO w' jP i b kv cV m:=⟨hb,h.2⟩
theorem fO.stay [DecidableEq dn] (h:fO w C j b kv cV m) (hS:Ext (λb=>C b∈I) w w') (hj:j∉I):fO w' C j b kv cV m:=h.st (I:=I) ⟨hS,λ_ _=>rfl⟩ hj
theorem fO.nK {D:Nat->Nat} (h:fO w' aQ j b kv cV m) (hs:ay I w₀ D w' aQ) (hF:aL w₀ jP) (hj:∀b,b<w₀.heap.size->D b≠j) (i:Nat):
  ∃aW,(∀b,b<w₀.heap.size->aW b=jP b)/\fO w' aW i b kv cV m/\aL w' aW:=by
 obtain⟨hc,es,clock,hb,hm⟩:=h;have hge:w₀.heap.size<=b:=by
  rcases Nat.lt_or_ge b w₀.heap.size with h1|h1
  ·exact absurd (by rw[<-hs.col b h1];exact hc) (hj b h1)
  ·exact h1
 refine⟨uZ jP b i,λc hc=>by unfold uZ;rw[if_neg (by omega)],⟨by simp[uZ],es,clock,hb,hm⟩,λc hc=>?_⟩;unfold uZ at hc;split at hc
 ·rename_i e;rw[e];exact rG hb
 ·exact Nat.lt_of_lt_of_le (hF c hc) hs.size
end
theorem mD.idem {u:List (av×av)} {ρ:av->av} {d:av->Nat} (h:mD u ρ d) {r:av} (hr:eF u r=some r):ρ r=r:=(h r r hr).2.2.2 rfl
def rM (m:List (av×Nat)) (ts:List av):Prop:=∀t i,eF m t=some i↔ts[i]?=some t
theorem rM.nil:rM [] []:=λt i=>by simp[eF]
theorem rM.new {m:List (av×Nat)} {ts:List av} (h:rM m ts) {t:av} (hn:eF m t=none):rM (gD m t ts.length) (ts++[t]):=λs i=>by
 rw[lK];split
 ·rename_i e;subst e;constructor
  ·intro hi;obtain rfl:ts.length=i:=by simpa using hi
   simp
  ·intro hi;rw[List.getElem?_append] at hi;split at hi
   ·have:=(h t i).2 hi;rw[hn] at this;cases this
   ·rename_i hlt;have:i-ts.length=0:=by
     rcases Nat.lt_or_ge (i-ts.length) 1 with h1|h1
     ·omega
     ·rw[List.getElem?_eq_none (by simpa using h1)] at hi;cases hi
    simp;omega
 ·rename_i e;rw[h s i,List.getElem?_append];split
  ·exact Iff.rfl
  ·rename_i hlt;rw[List.getElem?_eq_none (by omega)];constructor
   ·intro h;cases h
   ·intro h3;exfalso;rcases Nat.lt_or_ge (i-ts.length) 1 with h1|h1
    ·have:i-ts.length=0:=by omega
     rw[this] at h3;simp at h3;exact e h3
    ·rw[List.getElem?_eq_none (by simpa using h1)] at h3;cases h3
theorem rM.lt {m:List (av×Nat)} {ts:List av} (h:rM m ts) {t:av} {i:Nat} (hi:eF m t=some i):∃hl:i<ts.length,ts[i]=t:=List.getElem?_eq_some_iff.1 ((h t i).1 hi)
theorem rM.none {m:List (av×Nat)} {ts:List av} (h:rM m ts) {t:av} (hn:eF m t=none):t∉ts:=λhm=>by
 obtain⟨i,hi,e⟩:=List.mem_iff_getElem.1 hm;have:=(h t i).2 (by rw[List.getElem?_eq_getElem hi,e]);rw[hn] at this;cases this
theorem Mb {n:Nat}:∀c∈([2,3,4,5,6,7,8,9]++List.range' 10 n:List Nat),2<=c:=by
 intro c hc;simp only[List.mem_append,List.mem_cons,List.not_mem_nil,or_false,List.mem_range'_1] at hc;omega
def jQ (f:Nat->Value) (k:Nat) (y:Value):Nat->Value:=λx=>if x=k then y else f x
def jR (fL:Nat->Value) (n:Nat):List iw:=(List.range n).map λi=>⟨fL i⟩
theorem vC (fL:Nat->Value) (n:Nat): (jR fL n).length=n:=by simp[jR]
theorem Em {fL:Nat->Value} {n i:Nat} (h:i<(jR fL n).length): (jR fL n)[i].v=fL i:=by simp[jR]
theorem GV {fL:Nat->Value} {n i:Nat} (y:Value): (jR fL n).set i ⟨y⟩=jR (jQ fL i y) n:=by
 apply List.ext_getElem?;intro j;rw[List.getElem?_set];simp only[vC];by_cases hj:j<n
 ·have e1: (jR fL n)[j]?=some ⟨fL j⟩:=by simp[jR,hj]
  have e2: (jR (jQ fL i y) n)[j]?=some ⟨jQ fL i y j⟩:=by simp[jR,hj]
  rw[e1,e2];by_cases h:i=j
  ·subst h;simp[jQ,hj]
  ·rw[if_neg h];simp[jQ,Ne.symm h]
 ·have e1: (jR fL n)[j]?=none:=by simp[jR];omega
  have e2: (jR (jQ fL i y) n)[j]?=none:=by simp[jR];omega
  rw[e1,e2];split
  ·rw[if_neg (by omega)]
  ·rfl
theorem UW {fL:Nat->Value} {n:Nat} (y:Value):jR fL n++[⟨y⟩]=jR (jQ fL n y) (n+1):=by
 unfold jR;rw[List.range_succ,List.map_append];congr 1
 ·refine List.map_congr_left λi hi=>?_;have:=List.mem_range.1 hi;simp only[jQ];rw[if_neg (by omega)]
 ·simp[jQ]
theorem UX (n:Nat) (y:Value):List.replicate n (⟨y⟩:iw)=jR (λ_=>y) n:=by
 unfold jR;apply List.ext_getElem
 ·simp
 ·intro i h1 h2;simp
section
variable {α β:Type} [DecidableEq β] {f:α->β} {xs:List α} {r:α} {i0:Nat}
theorem UY (hi:i0<(dO f xs).length) (e:f (dO f xs)[i0]=f r):
  dO f (xs++[r])=dO f xs/\∀i,(gJ f (xs++[r])).getD i []=if i=i0 then(gJ f xs).getD i0 []++[r] else(gJ f xs).getD i []:=by
 obtain⟨h1,h2⟩:=L9 hi e;refine⟨h1,λi=>?_⟩;rw[h2];simp only[List.getD_eq_getElem?_getD,List.getElem?_modify];by_cases h:i=i0
 ·subst h;have:i<(gJ f xs).length:=by rw[mC];exact hi
  simp[this]
 ·rw[if_neg h];have:¬i0=i:=λe=>h e.symm;simp[this]
theorem UZ (h:∀q∈dO f xs,f q≠f r) (h0:i0=(dO f xs).length):
  dO f (xs++[r])=dO f xs++[r]/\∀i,(gJ f (xs++[r])).getD i []=if i=i0 then(gJ f xs).getD i0 []++[r] else(gJ f xs).getD i []:=by
 obtain⟨h1,h2⟩:=L_ h;refine⟨h1,λi=>?_⟩;subst h0;rw[h2,<-mC];simp only[List.getD_eq_getElem?_getD,List.getElem?_append];by_cases h:i=(gJ f xs).length
 ·subst h;simp
 ·rw[if_neg h];by_cases h3:i<(gJ f xs).length
  ·rw[if_pos h3]
  ·rw[if_neg h3,List.getElem?_eq_none (by simp;omega),List.getElem?_eq_none (by omega)]
theorem GX (f:α->β) (xs:List α) (i:Nat) {n:Nat} (h:xs.length<=n): ((gJ f xs).getD i []).length<=n:=by
 rw[List.getD_eq_getElem?_getD];by_cases hi:i<(gJ f xs).length
 ·rw[List.getElem?_eq_getElem hi,BS];exact Nat.le_trans (List.length_filter_le _ _) h
 ·rw[List.getElem?_eq_none (by omega)];simp
theorem U0 {i:Nat} (h: (dO f xs).length<=i): (gJ f xs).getD i []=[]:=by
 rw[List.getD_eq_getElem?_getD,List.getElem?_eq_none (by rw[mC];exact h)];rfl
end
theorem Md {α:Type} [bu α] {w:World} {M:Nat->Prop} {fL:Nat->Value} {ls:List (List α)} {v:Value} (h:aB w M (jR fL ls.length) v) (he:∀i,i<ls.length->aB w M (ls.getD i []) (fL i)):aB w M ls v:=
 aB.UK h rfl (by rw[vC]) λi h1 h2=>by
  rw[Em];have:=he i h1;rwa [List.getD_eq_getElem?_getD,List.getElem?_eq_getElem h1] at this
def Ix (p_:List (av×Nat)) (P:List (List av)) (k j:Nat):Prop:=∀i r,(i<k/\r∈P.getD i [])\/(i=k/\r∈(P.getD k []).take j)->eF p_ r=some i
theorem Ix.nil (P:List (List av)):Ix [] P 0 0:=λi r h=>by
 rcases h with⟨h,_⟩|⟨_,h⟩
 ·omega
 ·simp at h
theorem Ix.next {p_:List (av×Nat)} {P:List (List av)} {k j:Nat} (h:Ix p_ P k j) (hj: (P.getD k []).length<=j):Ix p_ P (k+1) 0:=λi r hi=>by
 rcases hi with⟨h1,h2⟩|⟨_,h2⟩
 ·by_cases e:i=k
  ·subst e;exact h i r (.inr ⟨rfl,by rw[List.take_of_length_le hj];exact h2⟩)
  ·exact h i r (.inl ⟨by omega,h2⟩)
 ·simp at h2
theorem xy {l:List a_} {i:Nat} {r:av}:r∈(dx l).getD i []↔∃hi:i<(dO (cm l) (aO l)).length,r∈aO l/\cm l r=cm l (dO (cm l) (aO l))[i]:=by
 rw[List.getD_eq_getElem?_getD];by_cases hi:i<(dx l).length
 ·rw[List.getElem?_eq_getElem hi];have hi2:i<(dO (cm l) (aO l)).length:=by unfold dx at hi;rwa [mC] at hi
  have: (dx l)[i]=(aO l).filter λr=>decide (cm l r=cm l (dO (cm l) (aO l))[i]):=BS hi;rw[Option.getD_some,this,List.mem_filter,decide_eq_true_eq];exact⟨λh=>⟨hi2,h⟩,λ⟨_,h⟩=>h⟩
 ·rw[List.getElem?_eq_none (by omega)];simp only[Option.getD_none,List.not_mem_nil,false_iff];rintro⟨h,_⟩;exact hi (by unfold dx;rwa [mC])
theorem GY {α β:Type} [DecidableEq β] {f:α->β} {xs:List α} {i j:Nat} (hi:i<(dO f xs).length) (hj:j<(dO f xs).length) (e:f (dO f xs)[i]=f (dO f xs)[j]):i=j:=by
 have hn:=List.pairwise_iff_getElem.1 (GU f xs);rcases Nat.lt_trichotomy i j with h3|h3|h3
 ·exact absurd (by rw[List.getElem_map,List.getElem_map,e]) (hn i j (by simpa using hi) (by simpa using hj) h3)
 ·exact h3
 ·exact absurd (by rw[List.getElem_map,List.getElem_map,e]) (hn j i (by simpa using hj) (by simpa using hi) h3)
theorem Me {l:List a_} {i j:Nat} {r:av} (h:r∈(dx l).getD i []) (h':r∈(dx l).getD j []):i=j:=by
 obtain⟨hi,_,h1⟩:=xy.1 h;obtain⟨hj,_,h2⟩:=xy.1 h';exact GY hi hj (h1.symm.trans h2)
theorem Ix.put {p_:List (av×Nat)} {l:List a_} {k j:Nat} (h:Ix p_ (dx l) k j) (hk:k<(dx l).length) (hj:j<(dx l)[k].length):Ix (gD p_ (dx l)[k][j] k) (dx l) k (j+1):=λi r hi=>by
 have hg: (dx l).getD k []=(dx l)[k]:=by rw[List.getD_eq_getElem?_getD,List.getElem?_eq_getElem hk];rfl
 rw[lK];split
 ·rename_i e;subst e;have hm: (dx l)[k][j]∈(dx l).getD k []:=by rw[hg];exact List.getElem_mem hj
  rcases hi with⟨h1,h2⟩|⟨h1,_⟩
  ·exact absurd (Me h2 hm) (by omega)
  ·rw[h1]
 ·rename_i e;refine h i r ?_;rcases hi with hi|⟨h1,h2⟩
  ·exact .inl hi
  ·refine .inr ⟨h1,?_⟩;rw[hg] at h2⊢;rw[List.take_succ_eq_append_getElem hj] at h2;rcases List.mem_append.1 h2 with h2|h2
   ·exact h2
   ·simp only[List.mem_singleton] at h2;exact absurd h2.symm e
theorem Mf {l:List a_} {r:av} (h:r∈aO l):∃i,r∈(dx l).getD i []:=by
 obtain⟨q,hq,e⟩:=GR (f:=cm l) h;obtain⟨i,hi,rfl⟩:=List.mem_iff_getElem.1 hq;exact⟨i,xy.2 ⟨hi,h,e.symm⟩⟩
def qd (l:List a_) (k:Nat):List (List a_):=(dO (cm l) (aO l)).map λq=>(l.take k).filter λx=>decide (cm l x.A=cm l q)
theorem Mg (l:List a_):qd l l.length=bk l:=by unfold qd bk;rw[List.take_length]
theorem En {l:List a_} {k i:Nat} (hi:i<(dO (cm l) (aO l)).length): (qd l k).getD i []=(l.take k).filter λx=>decide (cm l x.A=cm l (dO (cm l) (aO l))[i]):=by
 rw[List.getD_eq_getElem?_getD,List.getElem?_eq_getElem (by simpa[qd] using hi)];simp[qd]
theorem U1 (l:List a_) (i:Nat): (qd l 0).getD i []=[]:=by
 rw[List.getD_eq_getElem?_getD];unfold qd;by_cases hi:i<(dO (cm l) (aO l)).length
 ·rw[List.getElem?_eq_getElem (by simpa using hi)];simp
 ·rw[List.getElem?_eq_none (by simp;omega)];rfl
theorem Mh (l:List a_) (k i:Nat): ((qd l k).getD i []).length<=l.length:=by
 by_cases hi:i<(dO (cm l) (aO l)).length
 ·rw[En hi];exact Nat.le_trans (List.length_filter_le _ _) (by rw[List.length_take];omega)
 ·rw[List.getD_eq_getElem?_getD,List.getElem?_eq_none (by simp[qd];omega)];simp
theorem U2 {l:List a_} {k i0 i:Nat} (hk:k<l.length) (h0:l[k].A∈(dx l).getD i0 []) (hi:i<(dx l).length):
  (qd l (k+1)).getD i []=if i=i0 then(qd l k).getD i0 []++[l[k]] else(qd l k).getD i []:=by
 have hi2:i<(dO (cm l) (aO l)).length:=by unfold dx at hi;rwa [mC] at hi
 obtain⟨GZ,_,e⟩:=xy.1 h0;rw[En hi2,List.take_succ_eq_append_getElem hk,List.filter_append];by_cases h:i=i0
 ·subst h;rw[if_pos rfl,En hi2];simp[e]
 ·rw[if_neg h,En hi2];have:¬cm l l[k].A=cm l (dO (cm l) (aO l))[i]:=λe2=>h (GY hi2 GZ (e2.symm.trans e));simp[this]
end Go.K
namespace Go.K
theorem Mi:∀(m n:Nat) (f:Nat->Nat),(∀i,i<m->f i<n)->(∀i i',i<m->i'<m->f i=f i'->i=i')->m<=n
 |0,_,_,_,_=>Nat.zero_le _
 |m+1,0,f,h,_=>by have:=h 0 (Nat.succ_pos _);omega
 |m+1,n+1,f,h,hi=>by
  have:=Mi m n (λi=>if f i=n then f m else f i) (λi hm=>by
   have h1:=h i (by omega);have h2:=h m (by omega);split
   ·rename_i e;have:f m≠n:=λe2=>by have:=hi i m (by omega) (by omega) (e.trans e2.symm);omega
    omega
   ·omega) (λi i' hm hm' e=>by
   split at e<;>split at e
   ·rename_i e1 e2;exact hi i i' (by omega) (by omega) (e1.trans e2.symm)
   ·have:=hi m i' (by omega) (by omega) e;omega
   ·have:=hi i m (by omega) (by omega) e;omega
   ·exact hi i i' (by omega) (by omega) e)
  omega
section
variable {k:Nat} {c:Nat->Nat->Int} {W U3:Int} {n at_ T:Nat} {u v u2 v2:Nat->Int} {row way U4:Nat->Nat} {least U5:Nat->Int} {cl:Nat->Bool} {rk:Nat->Nat}
end
section
variable {N M:Nat} {wt:Nat->Nat->Int} {U V:Nat->Int} {f:Nat->Nat}
end
end Go.K
namespace Go.K
open bu
theorem rN {α:Type} {l:List α} {i:Nat} {d:α} (h:i<l.length):l.getD i d=l[i]:=by rw[List.getD_eq_getElem?_getD,List.getElem?_eq_getElem h];rfl
section
variable {P:Program} {N:Nat} {env:Env} {w:World} {x y:Operand} {t u:TypeId} {m n:Int}
end
section
variable {c:Nat->Nat->Int} {u v:Nat->Int} {cl:Nat->Bool} {least aa7 U5:Nat->Int} {way aa8 U4:Nat->Nat} {i a k j:Nat} {l1:Nat->Int} {U3 delta:Int} {next:Nat}
variable {row:Nat->Nat} {u' v' u2 v2 l l' l2:Nat->Int}
end
structure Edge where
 a:Int
 b:Int
 w:Int
 deriving DecidableEq
instance:bu Edge:=bu.via (λx:Edge=>(x.a,(x.b,x.w)))
instance:Inhabited Edge:=⟨⟨0,0,0⟩⟩
section
variable {w:World} {M:Nat->Prop} {b o:Nat} {v:Value}
end
def G0 (P:Program) (N:Nat) (ops:Array Oper):List Nat->Env->(Env->Prop)->Prop
 |[],env,K=>K env
 |i::A,env,K=>∃t op v,cv ops i=some (some t,op,none)/\Nat.blt t N=true/\(∀w,cL P N env op w v)/\G0 P N ops A ((t,v)::env) K
def sO (l:Array Bool):List Nat->Array Bool
 |[]=>l
 |i::is=>sO (l.setIfInBounds i true) is
def sP (ops:Array Oper):Nat->Array Bool->List Nat->Bool
 |_,_,[]=>true
 |0,_,_::_=>false
 |n+1,listed,j::A=>Region.free .any ops listed j&&(Region.ready .any ops listed).contains j&&!Nat.beq j ops.size&&sP ops n (listed.setIfInBounds j true) A
section
variable {P:Program} {ops:Array Oper} {Q:Exit->Act->World->Prop}
theorem Mj {N:Nat} (hs:Region.noSelect ops=true) (hQ:∀c a d v w,Q (.panic c) (Act.put a d v) w->Q (.panic c) a w) {K:Env->Prop} {w:World}:
  ∀(A:List Nat) (n:Nat) (listed:Array Bool) (env:Env) (a:Act),sP ops n listed A=true->mS ops listed->G0 P N ops A env K->gX N env a->
   (∀(env':Env) (a':Act),K env'->gX N env' a'->mS ops (sO listed A)->oO P ops Q (λ_=>True) ops.size (n-A.length) (sO listed A) a' w)->oO P ops Q (λ_=>True) ops.size n listed a w
 |[],n,listed,env,a,_,dP,hp,ha,hend=>hend env a hp ha dP
 |j::A,0,listed,env,a,hc,_,_,_,_=>by cases hc
 |j::A,n+1,listed,env,a,hc,dP,hp,ha,hend=>by
  simp only[sP,Bool.and_eq_true] at hc;obtain⟨⟨⟨h1,h2⟩,h3⟩,h4⟩:=hc;obtain⟨t,op,v,hop,ht,hv,hp⟩:=hp;obtain⟨o,ho,hd,rfl,hg⟩:=rE hop;have hr:j∈Region.ready .any ops listed:=by simpa using h2
  have hdk:qw N o.dst=true:=by rw[hd];exact ht
  have hy:YieldsIf P ops (λ_=>True) o v a:=.inl ⟨by unfold Region.wanted;rw[hg],λw' _=>hv w' a ha o rfl⟩;have hne:j≠ops.size:=λe=>by subst e;simp at h3
  refine Bl ho (Region.noSelect_spec hs) (λc a w hq=>hQ c a _ _ w hq) hne (λl hc hj=>?_) n listed a w dP (Region.free_spec ho h1) hr hy trivial ?_
  ·rw[Array.getD_eq_getD_getElem?,Array.getElem?_eq_none (by rw[hc.1];exact Nat.le_refl _)] at hj;cases hj
  ·have hst:=ha.put hdk v;rw[hd] at hst⊢;exact Mj hs hQ A n _ _ _ h4 (mu dP hr) hp hst (λenv' a' k1 k2 BH=>by
    have:=hend env' a' k1 k2 BH;rw[List.length_cons,show n+1-(A.length+1)=n-A.length from by omega] at this;exact this)
theorem Mk:∀(is:List Nat) (l:Array Bool),(sO l is).size=l.size
 |[],_=>rfl
 |i::is,l=>by rw[sO,Mk is];simp
theorem G1 {d:Bool}:∀(is:List Nat) (l:Array Bool) (j:Nat),j<l.size->(sO l is).getD j d=if j∈is then true else l.getD j d
 |[],l,j,_=>by simp[sO]
 |i::is,l,j,hj=>by
  rw[sO,G1 is _ j (by simpa using hj)];by_cases e:j∈is
  ·simp[e]
  ·rw[if_neg e];by_cases e2:j=i
   ·subst e2;rw[if_pos (by simp)];simp[Array.getD,hj]
   ·rw[if_neg (by simp[e,e2]),getD_set_ne d (Ne.symm e2)]
end
theorem Eo {P:Program} {f:FuncId} {N:Nat} {k k':List Item} {env:Env} {w:World} {R:Value->World->Prop} {ι:Type} (I:ι->World->Prop) (e:ι->Env)
 (hr:∀x w,I x w->Run P f N k (e x) w R) (hm: (∀x w,I x w->Run P f N k (e x) w R)->Run P f N k' env w R):Run P f N k' env w R:=hm hr
structure G4 where
 n:Int
 m:Int
 U:List Int
 V:List Int
 tot:Int
 edge:List (List Bool)
instance:bu G4:=bu.via (λx:G4=>(x.n,(x.m,(x.U,(x.V,(x.tot,x.edge))))))
section
variable {w w' w₀:World} {M:Nat->Prop} {b o:Nat} {v:Value} {x:G4}
end
section
variable {n m:Nat} {wt:Nat->Nat->Int} {W:Int}
end
section
variable {P:Program} {N:Nat} {env:Env} {y z:Operand} {t e:TypeId} {b o o' n len:Nat} {k:IntKind} {i:Int} {w:World}
theorem U6 (hu:P.underlying t=some (.array len e)) (hn:gR P e=some n) (hy:ev env y=some (.pointer (some ⟨b,o,none⟩))) (hz:ev env z=some (.int k i))
  (h0:0<=i) (h1:i<len) (ho':o'=o+i.toNat*n):cL P N env (.indexAddr t y z) w (.pointer (some ⟨b,o',none⟩)):=mk' λρ hρ fe ho=>by
 subst ho';unfold execOp;rw[ho];simp only[hρ _ _ hy,hρ _ _ hz];simp[go_sem,Instr.indexAt,run_underlying hu,asIntOf,kF hn,h0,h1,oP,Instr.sureAddr]
end
end Go.K
