/- A calculus of steps over the model: a frame is known by a list of slots, code is walked with what is left to do as a list. -/
import Derived.WalkKit
import Derived.OrdersHeld
import Derived.KernelRfl
import Derived.Laws.MakeOwn
import Derived.WideKeyRuns
import Derived.MapKept
import Derived.Laws.StructEq
import Derived.ChangeKeysEq
import Derived.Shelf.SlSortCmp.NoneTotal
set_option linter.unusedVariables false
set_option linter.unusedSimpArgs false
set_option linter.unusedSectionVars false
namespace Go.K
def xP (f:FuncId):Frame:={(default:Frame) with fn:=f,kind:=.normal}
def bM (R:Value->World->Prop):Ending->World->Prop:=λe w=>∃v,e=.returned v/\R v w
theorem bM.mono {R R':Value->World->Prop} (h:∀v w,R v w->R' v w) (e:Ending) (w:World) (hr:bM R e w):bM R' e w:=
 let⟨v,he,hv⟩:=hr;⟨v,he,h v w hv⟩
def mI (P:Program) (f:FuncId) (k:List Item) (a:Act) (w:World) (R:Value->World->Prop):Prop:=
 ∀cs,∃v w' fr,R v w'/\Steps P (lone ((xP f).at a k) cs w) (lone fr cs w')/\fr.fn=f/\fr.leaving P w' (.returned v)
theorem Q8 {P:Program} {f:FuncId} {fn:Func} {c:Code} {args:Array Value} {w:World} {R:Value->World->Prop}
  (hf:P.funcs[f]?=some fn) (hb:fn.body=some c)
  (h:mI P f [.code c] {tmps:=args++Array.replicate (fn.ntmps-args.size) undef,defers:=[]} w R):Calls P f args w (bM R):=by
 intro cs;have Q9:Frame.enter P f args .normal=(xP f).at {tmps:=args++Array.replicate (fn.ntmps-args.size) undef,defers:=[]} [.code c]:=by
  simp[Frame.enter,Frame.at,hf,hb,xP]
 obtain⟨v,w',fr,hR,hs,hfn,hl⟩:=h cs;exact⟨.returned v,w',fr,⟨v,rfl,hR⟩,by rw[Q9];exact hs,hfn,hl⟩
section
variable {P:Program} {f:FuncId} {k:List Item} {a:Act} {w:World} {R:Value->World->Prop}
theorem mI.step {a':Act} {k':List Item} {w':World}
  (hs:∀cs,step P (lone ((xP f).at a k) cs w)=.next (lone ((xP f).at a' k') cs w')) (h:mI P f k' a' w' R):mI P f k a w R:=λcs=>
 let⟨v,w'',fr,hR,hst,hfn,hl⟩:=h cs
 ⟨v,w'',fr,hR,.head (hs cs) hst,hfn,hl⟩
def zQ (P:Program) (f:FuncId) (k:List Item) (R:Value->World->Prop):Exit->Act->World->Prop
 | .normal,a,w=>mI P f k a w R
 |_,_,_=>False
theorem zR {c:Code} (h:c.wp P (zQ P f k R) a w):mI P f (.code c::k) a w R:=by
 intro cs;obtain⟨e,a',w',hq,Q_⟩:=h (xP f) k cs;cases e with
 |normal=>
  obtain⟨v,w'',fr,hR,hst,hfn,hl⟩:=hq cs;exact⟨v,w'',fr,hR,Steps.trans Q_ hst,hfn,hl⟩
 |_=>exact hq.elim
theorem xQ {fn:Func} {v:Value} (hf:P.funcs[f]?=some fn) (hd:a.defers=[]) (hr: (results fn a.tmps).run P w=.ok v w) (hR:R v w):
  mI P f (.code .ret::k) a w R:=λcs=>
 ⟨v,w,_,hR,.one step_ret,rfl,rfl,hd,rfl,fn,hf,hr⟩
end
def zS:List (Nat×Bool)->Bool
 |[]=>false
 |_::_=>true
def JH:List (Nat×Bool)->Bool
 |[]=>true
 |[(_,b)]=>!b
 |_::_::_=>false
def nc (P:Program) (ops:Array Oper) (S:World->Prop) (Q:Exit->Act->World->Prop):List (Nat×Bool)->Act->World->Prop
 |[],a,w=>Q .normal a w
 |(i,true)::L,a,w=>∃o v,ops[i]?=some o/\YieldsIf P ops S o v a/\nc P ops S Q L (a.put o.dst v) w
 |(i,false)::L,a,w=>wpOp P ops Q i (λa' w'=>(zS L=true->S w')/\nc P ops S Q L a' w') a w
section
variable {P:Program} {ops:Array Oper} {S:World->Prop} {Q:Exit->Act->World->Prop}
theorem EH:∀(L:List (Nat×Bool)) (a:Act) (w:World),nc P ops (λ_=>True) Q L a w->wpOps P ops Q (L.map (·.1)) a w
 |[],a,w,h=>h
 |(i,true)::L,a,w,h=>by
  obtain⟨o,v,hi,hy,h⟩:=h;rw[List.map_cons,wpOps_cons];exact hy.wpOp hi trivial (EH L _ _ h)
 |(i,false)::L,a,w,h=>by
  rw[List.map_cons,wpOps_cons];exact wpOp_mono (λa' w' h'=>EH L a' w' h'.2) h
theorem Ra:∀(L:List (Nat×Bool)) (a:Act) (w:World),JH L=true->nc P ops (λ_=>True) Q L a w->nc P ops S Q L a w
 |[],a,w,_,h=>h
 |[(i,true)],a,w,hs,h=>by cases hs
 |[(i,false)],a,w,hs,h=>wpOp_mono (λa' w' h'=>⟨λe=>(by cases e),h'.2⟩) h
 |_::_::_,a,w,hs,h=>by cases hs
def ta (P:Program) (ops:Array Oper) (Q:Exit->Act->World->Prop) (S:World->Prop) (ei:Nat):Nat->Array Bool->Act->World->Prop
 |0,listed,a,w=>Region.ready .any ops listed=[]/\Q .normal a w
 |fuel+1,listed,a,w=>
  (Region.ready .any ops listed=[]->Q .normal a w)/\
  ∀i∈Region.ready .any ops listed,wpOp P ops Q i (λa' w'=>((listed.setIfInBounds i true).getD ei false=false->S w')/\ta P ops Q S ei fuel (listed.setIfInBounds i true) a' w') a w
theorem Cp {ei:Nat}:∀(fuel:Nat) (listed:Array Bool) (a:Act) (w:World),ta P ops Q S ei fuel listed a w->wpAny P .any ops Q fuel listed a w
 |0,_,_,_,h=>h
 |fuel+1,_,_,_,h=>⟨h.1,λi hi=>wpOp_mono (λa' w' h'=>Cp fuel _ a' w' h'.2) (h.2 i hi)⟩
def qq (ops:Array Oper) (listed:Array Bool):Prop:=
 listed.size=ops.size/\∀k ok,ops[k]?=some ok->listed.getD k false=true->∀e∈ok.after,Region.binds .any e=true->listed.getD e.on false=true
theorem pK {j:Nat} {listed:Array Bool} (hc:qq ops listed) (hj:j∈Region.ready .any ops listed):qq ops (listed.setIfInBounds j true):=by
 refine⟨by simp[hc.1],λk ok hk hl e he hb=>?_⟩;by_cases hkj:k=j
 ·subst hkj;obtain⟨_,o,ho,hall⟩:=mem_ready.1 hj;rw[hk] at ho;cases ho;exact getD_set_true (hall e he hb)
 ·rw[getD_set_ne false (Ne.symm hkj)] at hl;exact getD_set_true (hc.2 k ok hk hl e he hb)
def needs (ops:Array Oper):Nat->Nat->Nat->Bool
 |0,j,i=>Nat.beq j i
 |n+1,j,i=>Nat.beq j i||(match ops[j]? with|some o=>o.after.any (λe=>Region.binds .any e&&Nat.beq e.on i)||o.after.any (λe=>Region.binds .any e&&needs ops n e.on i)|none=>false)
theorem JI {i:Nat} {listed:Array Bool} (hc:qq ops listed):∀(n j:Nat),needs ops n j i=true->listed.getD j false=true->listed.getD i false=true
 |0,j,h,hj=>by rw[<-Nat.eq_of_beq_eq_true h];exact hj
 |n+1,j,h,hj=>by
  unfold needs at h;rw[Bool.or_eq_true] at h;rcases h with h|h
  ·rw[<-Nat.eq_of_beq_eq_true h];exact hj
  ·cases ho:ops[j]? with
   |none=>rw[ho] at h;cases h
   |some o=>
    rw[ho] at h;simp only[Bool.or_eq_true] at h;rcases h with h|h
    ·obtain⟨e,he,hb⟩:=Array.any_eq_true'.1 h;rw[Bool.and_eq_true] at hb;rw[<-Nat.eq_of_beq_eq_true hb.2];exact hc.2 j o ho hj e he hb.1
    ·obtain⟨e,he,hb⟩:=Array.any_eq_true'.1 h;rw[Bool.and_eq_true] at hb;exact JI hc n e.on hb.2 (hc.2 j o ho hj e he hb.1)
theorem EI {ei i:Nat} {oi:Oper} {v:Value} (hi:ops[i]?=some oi) (hsel:∀(j:Nat) (o:Oper) cs b,ops[j]?=some o->o.op≠ .select cs b)
  (hQ:∀c a w,Q (.panic c) (a.put oi.dst v) w->Q (.panic c) a w) (hne:i≠ei) (Rb:∀listed,qq ops listed->listed.getD ei false=true->listed.getD i false=true):
  ∀(fuel:Nat) (listed:Array Bool) (a:Act) (w:World),qq ops listed->
   (∀j oj,ops[j]?=some oj->j≠i->listed.getD j true=false->(∀e∈oj.after,Region.binds .any e=true->e.on≠i)->oi.apart ops oj=true)->
   i∈Region.ready .any ops listed->YieldsIf P ops S oi v a->S w->
   ta P ops Q S ei fuel (listed.setIfInBounds i true) (a.put oi.dst v) w->ta P ops Q S ei (fuel+1) listed a w:=by
 intro fuel
 induction fuel with
 |zero=>
  intro listed a w eO _ hr hy hS H;refine⟨λh=>(by rw[h] at hr;cases hr),λj hj=>?_⟩;by_cases hji:j=i
  ·subst hji;exact hy.wpOp hi hS ⟨λ_=>hS,H⟩
  ·have:=ready_mono hj hji;rw[H.1] at this;cases this
 |succ fuel ih=>
  intro listed a w eO hfree hr hy hS H;refine⟨λh=>(by rw[h] at hr;cases hr),λj hj=>?_⟩;by_cases hji:j=i
  ·subst hji;exact hy.wpOp hi hS ⟨λ_=>hS,H⟩
  ·have h1:=H.2 j (ready_mono hj hji);obtain⟨JJ,oj,EJ,hall⟩:=mem_ready.1 hj;have JK:=(mem_ready.1 hr).1;have hif:∀l:Array Bool,l.getD i true=false->l.getD i false=false:=λl h=>by
    rcases Nat.lt_or_ge i l.size with h'|h'
    ·simp[h'] at h⊢;exact h
    ·simp[Array.getElem?_eq_none h']
   have hnot:∀e∈oj.after,Region.binds .any e=true->e.on≠i:=λe he hb heq=>by
    have h1:=hall e he hb;rw[heq,hif _ JK] at h1;cases h1
   have JL:=pK eO hj;have Rc: (listed.setIfInBounds j true).getD i true=false:=by rw[getD_set_ne true hji];exact JK
   have Re: (listed.setIfInBounds j true).getD ei false=false:=by
    cases hb: (listed.setIfInBounds j true).getD ei false with
    |false=>rfl
    |true=>have:=Rb _ JL hb;rw[hif _ Rc] at this;cases this
   have JM: ((listed.setIfInBounds i true).setIfInBounds j true).getD ei false=false:=by
    rw[Array.setIfInBounds_comm _ _ (Ne.symm hji),getD_set_ne false hne];exact Re
   have h2:=wpOp_putIf EJ (hfree j oj EJ hji JJ hnot) (λcs b=>hsel i oi cs b hi) (λcs b=>hsel j oj cs b EJ) hQ hy h1;have Rf:∀k ok,ops[k]?=some ok->k≠i->(listed.setIfInBounds j true).getD k true=false->
     (∀e∈ok.after,Region.binds .any e=true->e.on≠i)->oi.apart ops ok=true:=λk ok hk hki hun hno=>by
    refine hfree k ok hk hki ?_ hno;by_cases hjk:j=k
    ·subst hjk;exact JJ
    ·rw[getD_set_ne true hjk] at hun;exact hun
   refine wpOp_mono (λa' w' h3=>⟨λ_=>h3.2.1 JM,ih (listed.setIfInBounds j true) a' w' JL Rf (ready_mono hr (Ne.symm hji)) h3.1 (h3.2.1 JM) ?_⟩) h2;rw[Array.setIfInBounds_comm _ _ hji];exact h3.2.2
def EK (n:Nat):List (Nat×Bool)->Nat
 |[]=>n
 |[(i,b)]=>if b then n else i
 |_::x::L=>EK n (x::L)
def r_ (ops:Array Oper) (ei:Nat):Nat->Array Bool->List (Nat×Bool)->Bool
 |_,listed,[]=>(Region.ready .any ops listed).isEmpty
 |0,_,_::_=>false
 |n+1,listed,(i,true)::L=>!Nat.beq i ei&&(Nat.ble ops.size ei||needs ops 8 ei i)&&Region.free .any ops listed i&&(Region.ready .any ops listed).contains i&&r_ ops ei n (listed.setIfInBounds i true) L
 |n+1,listed,(i,false)::L=>(Region.ready .any ops listed==[i])&&((listed.setIfInBounds i true).getD ei false||zS L)&&r_ ops ei n (listed.setIfInBounds i true) L
def JN (ops:Array Oper) (n:Nat) (listed:Array Bool) (L:List (Nat×Bool)):Bool:=r_ ops (EK ops.size L) n listed L
theorem EL {ei i:Nat} (h: (Nat.ble ops.size ei||needs ops 8 ei i)=true):∀listed,qq ops listed->listed.getD ei false=true->listed.getD i false=true:=λlisted hc hj=>by
 rw[Bool.or_eq_true] at h;rcases h with h|h
 ·have:=Nat.le_of_ble_eq_true h;rw[Array.getD_eq_getD_getElem?,Array.getElem?_eq_none (by rw[hc.1];exact this)] at hj;cases hj
 ·exact JI hc _ _ h hj
theorem xR (hs:Region.noSelect ops=true) (hQ:∀c a d v w,Q (.panic c) (Act.put a d v) w->Q (.panic c) a w) {ei:Nat}:
  ∀(n:Nat) (listed:Array Bool) (L:List (Nat×Bool)) (a:Act) (w:World),r_ ops ei n listed L=true->qq ops listed->(zS L=true->S w)->nc P ops S Q L a w->
   ta P ops Q S ei n listed a w
 |n,listed,[],a,w,hc,_,_,h=>by
  have hr:Region.ready .any ops listed=[]:=by simpa[r_] using hc
  cases n with
  |zero=>exact⟨hr,h⟩
  |succ n=>exact⟨λ_=>h,by rw[hr];simp⟩
 |0,_,x::L,a,w,hc,_,_,_=>by cases hc
 |n+1,listed,(i,true)::L,a,w,hc,eO,hS,h=>by
  simp only[r_,Bool.and_eq_true] at hc;obtain⟨⟨⟨⟨h1,h2⟩,h3⟩,h4⟩,h5⟩:=hc;obtain⟨o,v,hi,hy,h⟩:=h;have hr:i∈Region.ready .any ops listed:=by simpa using h4
  have JO:=hS rfl;refine EI hi (Region.noSelect_spec hs) (λc a w hq=>hQ c a _ _ w hq) (λe=>by subst e;simp at h1) (EL h2) n listed a w eO (Region.free_spec hi h3) hr hy JO (xR hs hQ n _ L _ w h5 (pK eO hr) (λ_=>JO) h)
 |n+1,listed,(i,false)::L,a,w,hc,eO,hS,h=>by
  simp only[r_,Bool.and_eq_true,beq_iff_eq] at hc;obtain⟨⟨h1,h2⟩,h3⟩:=hc;have hr:i∈Region.ready .any ops listed:=by rw[h1];simp
  refine⟨λh0=>(by rw[h0] at h1;cases h1),λj hj=>?_⟩;rw[h1,List.mem_singleton] at hj;subst hj;refine wpOp_mono (λa' w' h'=>⟨λhb=>h'.1 ?_,xR hs hQ n _ L a' w' h3 (pK eO hr) h'.1 h'.2⟩) h;rw[hb] at h2;simpa using h2
theorem Rg {o:Oper} {v v':Value} {a:Act} {w:World} (h:YieldsIf P ops S o v a) (h':YieldsIf P ops S o v' a) (hS:S w):v=v':=by
 rcases h with⟨h1,h2⟩|⟨h1,rfl⟩<;>rcases h' with⟨h3,h4⟩|⟨h3,rfl⟩
 ·have:=(h2 w hS).symm.trans (h4 w hS);simpa using this
 ·rw[h1] at h3;cases h3
 ·rw[h1] at h3;cases h3
 ·rfl
def zU (ops:Array Oper) (ei i:Nat) (L:List (Nat×Bool)) (i':Nat) (L':List (Nat×Bool)):Nat->Array Bool->List Nat->Bool
 |0,_,_=>false
 |n+1,listed,[]=>(Region.ready .any ops listed==[i,i'])&&((listed.setIfInBounds i true).getD ei false||zS L)&&r_ ops ei n (listed.setIfInBounds i true) L&&((listed.setIfInBounds i' true).getD ei false||zS L')&&r_ ops ei n (listed.setIfInBounds i' true) L'
 |n+1,listed,j::A=>!Nat.beq j ei&&(Nat.ble ops.size ei||needs ops 8 ei j)&&Region.free .any ops listed j&&(Region.ready .any ops listed).contains j&&zU ops ei i L i' L' n (listed.setIfInBounds j true) A
def JQ (ops:Array Oper) (i:Nat) (L:List (Nat×Bool)) (i':Nat) (L':List (Nat×Bool)) (n:Nat) (listed:Array Bool) (A:List Nat):Bool:=zU ops (EK ops.size ((i,false)::L)) i L i' L' n listed A
theorem JR (hs:Region.noSelect ops=true) (hQ:∀c a d v w,Q (.panic c) (Act.put a d v) w->Q (.panic c) a w) {ei i i':Nat} {L L':List (Nat×Bool)}:
  ∀(n:Nat) (listed:Array Bool) (A:List Nat) (a:Act) (w:World),zU ops ei i L i' L' n listed A=true->qq ops listed->S w->
   nc P ops S Q (A.map (λj=>(j,true))++(i,false)::L) a w->nc P ops S Q (A.map (λj=>(j,true))++(i',false)::L') a w->ta P ops Q S ei n listed a w
 |0,_,_,_,_,hc,_,_,_,_=>by cases hc
 |n+1,listed,[],a,w,hc,eO,hS,h,h'=>by
  simp only[zU,Bool.and_eq_true,beq_iff_eq] at hc;obtain⟨⟨⟨⟨h0,h1⟩,h2⟩,h3⟩,h4⟩:=hc;have hr:i∈Region.ready .any ops listed:=by rw[h0];simp
  have hr':i'∈Region.ready .any ops listed:=by rw[h0];simp
  refine⟨λvV=>(by rw[vV] at h0;cases h0),λj hj=>?_⟩;rw[h0] at hj;simp only[List.mem_cons,List.not_mem_nil,or_false] at hj;rcases hj with rfl|rfl
  ·exact wpOp_mono (λa' w' g=>⟨λhb=>g.1 (by rw[hb] at h1;simpa using h1),xR hs hQ n _ L a' w' h2 (pK eO hr) g.1 g.2⟩) h
  ·exact wpOp_mono (λa' w' g=>⟨λhb=>g.1 (by rw[hb] at h3;simpa using h3),xR hs hQ n _ L' a' w' h4 (pK eO hr') g.1 g.2⟩) h'
 |n+1,listed,j::A,a,w,hc,eO,hS,h,h'=>by
  simp only[zU,Bool.and_eq_true] at hc;obtain⟨⟨⟨⟨h1,h2⟩,h3⟩,h4⟩,h5⟩:=hc;obtain⟨o,v,hi,hy,h⟩:=h;obtain⟨o',v',hi',hy',h'⟩:=h';rw[hi] at hi';cases hi';obtain rfl:=Rg hy hy' hS;have hr:j∈Region.ready .any ops listed:=by simpa using h4
  exact EI hi (Region.noSelect_spec hs) (λc a w hq=>hQ c a _ _ w hq) (λe=>by subst e;simp at h1) (EL h2) n listed a w eO (Region.free_spec hi h3) hr hy hS (JR hs hQ n _ A _ w h5 (pK eO hr) hS h h')
theorem EM (ops:Array Oper):qq ops (Array.replicate ops.size false):=⟨by simp,λk ok _ hl=>by
 rcases Nat.lt_or_ge k ops.size with h|h
 ·simp[h] at hl
 ·simp[Array.getElem?_eq_none,h] at hl⟩
end
abbrev Env:=List (Nat×Value)
def look:Env->Nat->Option Value
 |[],_=>none
 |(t,v)::e,u=>bif Nat.beq t u then some v else look e u
structure jW (N:Nat) (env:Env) (a:Act):Prop where
 size:a.tmps.size=N
 defers:a.defers=[]
 slot:∀t v,look env t=some v->a.tmps[t]?=some v
def qZ (d:Option Nat) (v:Value) (env:Env):Env:=match d with|some t=>(t,v)::env|none=>env
def sg (N:Nat) (d:Option Nat):Bool:=match d with|some t=>Nat.blt t N|none=>true
theorem jW.put {N:Nat} {env:Env} {a:Act} (h:jW N env a) {d:Option Nat} (hd:sg N d=true) (v:Value):jW N (qZ d v env) (a.put d v):=by
 cases d with
 |none=>exact⟨h.size,h.defers,h.slot⟩
 |some t=>
  have ht:t<N:=by
     have h:t+1<=N:=by simpa[sg,Nat.blt] using hd
     omega
  refine⟨by simp[Act.put,h.size],h.defers,λu x hx=>?_⟩;simp only[qZ,look] at hx;simp only[Act.put,Array.getElem?_setIfInBounds];by_cases e:t=u
  ·subst e;simp at hx;simp[h.size,ht,hx]
  ·have e':Nat.beq t u=false:=by
    cases hb:Nat.beq t u with
    |false=>rfl
    |true=>exact absurd (Nat.eq_of_beq_eq_true hb) e
   rw[e'] at hx;simp only[cond_false] at hx;simp[e,h.slot u x hx]
def ev (env:Env):Operand->Option Value
 | .tmp t=>look env t
 | .const v=>some v
 | .func g=>some (.func (.func g) #[] #[])
 | .global g=>some (.pointer (some ⟨g,0,none⟩))
theorem jW.ev {N:Nat} {env:Env} {a:Act} (h:jW N env a) {x:Operand} {v:Value} (hx:ev env x=some v):a.eval x=v:=by
 cases x with
 |tmp t=>
  have:=h.slot t v hx;simp only[Act.eval];rw[Array.getD_eq_getD_getElem?,this];rfl
 |const u=>simpa[K.ev,Act.eval] using hx
 |func g=>simpa[K.ev,Act.eval] using hx
 |global g=>simpa[K.ev,Act.eval] using hx
def nI (env:Env):List Operand->Option (List Value)
 |[]=>some []
 |x::l=>match ev env x,nI env l with|some v,some r=>some (v::r)|_,_=>none
theorem jW.nI {N:Nat} {env:Env} {a:Act} (h:jW N env a):∀{l:List Operand} {vs:List Value},nI env l=some vs->l.map a.eval=vs
 |[],vs,hl=>by simpa[K.nI] using hl
 |x::l,vs,hl=>by
  simp only[K.nI] at hl;cases hx:K.ev env x with
  |none=>rw[hx] at hl;cases hl
  |some v=>
   cases hr:K.nI env l with
   |none=>rw[hx,hr] at hl;cases hl
   |some r=>
    rw[hx,hr] at hl;simp only[Option.some.injEq] at hl;subst hl;simp[h.ev hx,h.nI hr]
def Sub (env' env:Env):Prop:=∀t v,look env' t=some v->look env t=some v
theorem aY (env:Env):Sub [] env:=λt v h=>by cases h
theorem aL (t:Nat) {u v:Value} {env' env:Env} (hl:look env t=some u) (hv:u=v) (h:Sub env' env):Sub ((t,v)::env') env:=by
 subst hv;intro s x hx;simp only[look] at hx;cases hb:Nat.beq t s with
 |true=>
  rw[hb] at hx;simp only[cond_true,Option.some.injEq] at hx;rw[<-Nat.eq_of_beq_eq_true hb,hl,hx]
 |false=>rw[hb] at hx;exact h s x hx
theorem Sub.refl (env:Env):Sub env env:=λ_ _ h=>h
theorem jW.sub {N:Nat} {env env':Env} {a:Act} (h:jW N env a) (hs:Sub env' env):jW N env' a:=⟨h.size,h.defers,λt v ht=>h.slot t v (hs t v ht)⟩
def Run (P:Program) (f:FuncId) (N:Nat) (k:List Item) (env:Env) (w:World) (R:Value->World->Prop):Prop:=
 ∀a,jW N env a->mI P f k a w R
def bR (P:Program) (N:Nat) (Q:Exit->Act->World->Prop) (ops:Array Oper) (S:World->Prop) (L:List (Nat×Bool)) (env:Env) (w:World):Prop:=
 ∀a,jW N env a->nc P ops S Q L a w
abbrev ai (P:Program) (f:FuncId) (N:Nat) (k:List Item) (R:Value->World->Prop) (ops:Array Oper) (S:World->Prop) (L:List (Nat×Bool)) (env:Env) (w:World):Prop:=
 bR P N (zQ P f k R) ops S L env w
section
variable {P:Program} {f:FuncId} {N:Nat} {k:List Item} {env:Env} {w:World} {R:Value->World->Prop}
theorem Run.sub {env':Env} (hs:Sub env' env) (h:Run P f N k env' w R):Run P f N k env w R:=λa ha=>h a (ha.sub hs)
theorem run_seq {c x y:Code} (hc:c=.seq x y) (h:Run P f N (.code x:: .code y::k) env w R):Run P f N (.code c::k) env w R:=λa ha=>by
 subst hc;exact mI.step (λ_=>step_seq) (h a ha)
theorem Rh {c x:Code} {id:Nat} (hc:c=.block id x) (h:Run P f N (.code x:: .inBlock id::k) env w R):Run P f N (.code c::k) env w R:=λa ha=>by
 subst hc;exact mI.step (λ_=>step_block) (h a ha)
theorem bS {id:Nat} (h:Run P f N k env w R):Run P f N (.inBlock id::k) env w R:=λa ha=>
 mI.step (λ_=>step_inBlock) (h a ha)
theorem Ri {c:Code} (hc:c=.skip) (h:Run P f N k env w R):Run P f N (.code c::k) env w R:=λa ha=>by
 subst hc;exact mI.step (λ_=>step_skip) (h a ha)
theorem Rj {c:Code} {id:Nat} {k':List Item} (hc:c=.exit id) (hk:exitTo id k=some k') (h:Run P f N k' env w R):Run P f N (.code c::k) env w R:=λa ha=>by
 subst hc;exact mI.step (λ_=>step_exit hk) (h a ha)
theorem Cr {c x y:Code} {o:Operand} {b:Bool} (hc:c=.cond o x y) (hv:ev env o=some (.bool b))
  (ht:b=true->Run P f N (.code x::k) env w R) (hf:b=false->Run P f N (.code y::k) env w R):Run P f N (.code c::k) env w R:=λa ha=>by
 subst hc;have:=ha.ev hv;cases b with
 |true=>exact mI.step (λ_=>step_cond this) (ht rfl a ha)
 |false=>exact mI.step (λ_=>step_cond this) (hf rfl a ha)
theorem Rk {c x y:Code} {o:Operand} {p:Prop} [Decidable p] (hc:c=.cond o x y) (hv:ev env o=some (.bool (decide p)))
  (ht:p->Run P f N (.code x::k) env w R) (hf:¬p->Run P f N (.code y::k) env w R):Run P f N (.code c::k) env w R:=
 Cr hc hv (λh=>ht (of_decide_eq_true h)) (λh=>hf (of_decide_eq_false h))
theorem Rl {c body:Code} {ι:Type} (I:ι->World->Prop) (e:ι->Env) (m:ι->Nat) (cD:ι) (hc:c=.loop body)
  (hs:Sub (e cD) env) (h0:I cD w)
  (hr:∀x w,I x w->(∀y w',I y w'->m y<m x->Run P f N (.inLoop body::k) (e y) w' R)->Run P f N (.code body:: .inLoop body::k) (e x) w R):
  Run P f N (.code c::k) env w R:=by
 subst hc;have main:∀n x w,m x<=n->I x w->Run P f N (.inLoop body::k) (e x) w R:=by
  intro n
  induction n with
  |zero=>
   intro x w hm hI a ha;exact mI.step (λ_=>step_inLoop) (hr x w hI (λy w' hy hlt=>by omega) a ha)
  |succ n ih=>
   intro x w hm hI a ha;exact mI.step (λ_=>step_inLoop) (hr x w hI (λy w' hy hlt=>ih y w' (by omega) hy) a ha)
 intro a ha;exact mI.step (λ_=>step_loop) (hr cD w h0 (λy w' hy hlt=>main (m y) y w' (Nat.le_refl _) hy) a (ha.sub hs))
theorem Rm {c:Code} {fn:Func} {t:Nat} {v:Value} (hc:c=.ret) (hf:P.funcs[f]?=some fn) (hres:fn.results=#[.tmp t]) (hv:look env t=some v)
  (hR:R v w):Run P f N (.code c::k) env w R:=λa ha=>by
 subst hc;refine xQ hf ha.defers ?_ hR;have:=ha.slot t v hv;simp only[results,hres];simp[this,Sem.run,pure,Array.getD_eq_getD_getElem?]
theorem uA {c:Code} {fn:Func} (hc:c=.ret) (hf:P.funcs[f]?=some fn) (hres:fn.results=#[])
  (hR:R (.tuple #[]) w):Run P f N (.code c::k) env w R:=λa ha=>by
 subst hc;refine xQ hf ha.defers ?_ hR;simp[results,hres,Sem.run,pure]
theorem pL {c:Code} {fn:Func} {t u:Nat} {v x:Value} (hc:c=.ret) (hf:P.funcs[f]?=some fn) (hres:fn.results=#[.tmp t,.tmp u]) (hv:look env t=some v) (hx:look env u=some x)
  (hR:R (.tuple #[v,x]) w):Run P f N (.code c::k) env w R:=λa ha=>by
 subst hc;refine xQ hf ha.defers ?_ hR;rw[results_tmp2 hres];have h1:=ha.slot t v hv;have h2:=ha.slot u x hx;simp[h1,h2,Array.getD_eq_getD_getElem?]
theorem Rn {c:Code} {id:Nat} {ops:Array Oper} (L:List (Nat×Bool)) (hc:c=.region id ops false)
  (hL:L.map (·.1)=List.range ops.size) (h:ai P f N k R ops (λ_=>True) L env w):Run P f N (.code c::k) env w R:=λa ha=>by
 subst hc;exact zR (wp_region (by rw[<-hL];exact EH L a w (h a ha)))
theorem Ro {c:Code} {id:Nat} {ops:Array Oper} (S:World->Prop) (L:List (Nat×Bool)) (hm:P.follows .mixedOrders=true) (hc:c=.region id ops true)
  (hn:Region.noSelect ops=true) (hk:JN ops ops.size (Array.replicate ops.size false) L=true) (hS:S {w with drawn:=w.drawn+1})
  (h:ai P f N k R ops S L env {w with drawn:=w.drawn+1}):Run P f N (.code c::k) env w R:=λa ha=>by
 subst hc;exact zR (wp_region_any hm (Cp _ _ _ _ (xR hn (λc a d v w h=>h.elim) _ _ L a _ hk (EM ops) (λ_=>hS) (h a ha))))
theorem Rp {c:Code} {id:Nat} {ops:Array Oper} (S:World->Prop) (A:List Nat) (i:Nat) (L:List (Nat×Bool)) (i':Nat) (L':List (Nat×Bool)) (hm:P.follows .mixedOrders=true) (hc:c=.region id ops true)
  (hn:Region.noSelect ops=true) (hk:JQ ops i L i' L' ops.size (Array.replicate ops.size false) A=true) (hS:S {w with drawn:=w.drawn+1})
  (h:ai P f N k R ops S (A.map (λj=>(j,true))++(i,false)::L) env {w with drawn:=w.drawn+1}) (h':ai P f N k R ops S (A.map (λj=>(j,true))++(i',false)::L') env {w with drawn:=w.drawn+1}):Run P f N (.code c::k) env w R:=λa ha=>by
 subst hc;exact zR (wp_region_any hm (Cp _ _ _ _ (JR hn (λc a d v w h=>h.elim) _ _ A a _ hk (EM ops) hS (h a ha) (h' a ha))))
def cZ (ops:Array Oper) (i:Nat):Option (Option Tmp×Op×Option (Nat×Bool)):=(ops[i]?).map λo=>(o.dst,o.op,o.guard)
def JS (ops:Array Oper) (i:Nat):Option Tmp:=(ops[i]?).bind (·.dst)
def c5 (P:Program) (N:Nat) (env:Env) (op:Op) (w:World) (v:Value):Prop:=
 ∀a,jW N env a->∀o:Oper,o.op=op->(execOp a.eval o).run P w=.ok (.value v) w
variable {Q:Exit->Act->World->Prop} {ops:Array Oper} {S:World->Prop} {i:Nat} {L:List (Nat×Bool)} {d:Option Nat} {op:Op} {v:Value}
theorem ai.free (hs:JH L=true) (h:bR P N Q ops (λ_=>True) L env w):bR P N Q ops S L env w:=λa ha=>Ra L a w hs (h a ha)
theorem ai.nil (h:Run P f N k env w R):ai P f N k R ops S [] env w:=λa ha=>h a ha
theorem vW {g:Option (Nat×Bool)} (h:cZ ops i=some (d,op,g)):∃o,ops[i]?=some o/\o.dst=d/\o.op=op/\o.guard=g:=by
 unfold cZ at h;cases ho:ops[i]? with
 |none=>rw[ho] at h;cases h
 |some o=>
  rw[ho] at h;simp only[Option.map_some,Option.some.injEq,Prod.mk.injEq] at h;exact⟨o,rfl,h⟩
def fN (ops:Array Oper) (env:Env):Option (Nat×Bool)->Option Bool
 |none=>some true
 |some (j,want)=>match JS ops j with
  |none=>some false
  |some t=>match look env t with
   |none=>none
   |some (.bool b)=>some (b==want)
   |some _=>some false
theorem jW.wanted {a:Act} (ha:jW N env a) {o:Oper} {b:Bool} (h:fN ops env o.guard=some b):Region.wanted o (yielded ops a.tmps)=b:=by
 unfold Region.wanted;cases hg:o.guard with
 |none=>rw[hg] at h;simpa[fN] using h
 |some p=>
  obtain⟨j,want⟩:=p;rw[hg] at h;simp only[fN,JS] at h;simp only[yielded];cases hj: (ops[j]?).bind (·.dst) with
  |none=>rw[hj] at h;simp only[Option.some.injEq] at h;subst h;rfl
  |some t=>
   rw[hj] at h;simp only at h;cases hl:look env t with
   |none=>rw[hl] at h;cases h
   |some u=>
    rw[hl] at h;have:=ha.slot t u hl;simp only[Option.bind_some,this];cases u<;>simp only[Option.some.injEq] at h<;>subst h<;>first|rfl|(rename_i x;cases x<;>cases want<;>rfl)
theorem ai.yield {g:Option (Nat×Bool)} (hop:cZ ops i=some (d,op,g)) (hw:fN ops env g=some true) (hd:sg N d=true)
  (hy:∀w',S w'->c5 P N env op w' v) (h:bR P N Q ops S L (qZ d v env) w):bR P N Q ops S ((i,true)::L) env w:=λa ha=>by
 obtain⟨o,ho,rfl,rfl,rfl⟩:=vW hop;exact⟨o,v,ho,.inl ⟨ha.wanted hw,λw' hS=>hy w' hS a ha o rfl⟩,h _ (ha.put hd v)⟩
theorem ai.pass {g:Option (Nat×Bool)} (hop:cZ ops i=some (d,op,g)) (hw:fN ops env g=some false) (hd:sg N d=true)
  (h:bR P N Q ops S L (qZ d undef env) w):bR P N Q ops S ((i,true)::L) env w:=λa ha=>by
 obtain⟨o,ho,rfl,rfl,rfl⟩:=vW hop;exact⟨o,undef,ho,.inr ⟨ha.wanted hw,rfl⟩,h _ (ha.put hd undef)⟩
theorem ai.Rq {g:Option (Nat×Bool)} (hop:cZ ops i=some (d,op,g)) (hw:fN ops env g=some false) (hd:sg N d=true) (hS:S w)
  (h:bR P N Q ops S L (qZ d undef env) w):bR P N Q ops S ((i,false)::L) env w:=λa ha=>by
 obtain⟨o,ho,rfl,rfl,rfl⟩:=vW hop;simp only[nc,wpOp,ho,ha.wanted hw,Bool.false_eq_true,if_false];exact⟨λ_=>hS,h _ (ha.put hd undef)⟩
def gZ (P:Program) (N:Nat) (env:Env) (op:Op) (w:World) (T:Value->World->Prop):Prop:=
 ∀a,jW N env a->∀o:Oper,o.op=op->∃v w',((execOp a.eval o).run P w=.ok (.value v) w'\/((execOp a.eval o).run P w=.ok .skip w'/\v=undef))/\T v w'
theorem ai.act {g:Option (Nat×Bool)} {T:Value->World->Prop} (hop:cZ ops i=some (d,op,g)) (hw:fN ops env g=some true) (hd:sg N d=true)
  (hy:gZ P N env op w T) (h:∀v w',T v w'->S w'/\bR P N Q ops S L (qZ d v env) w'):bR P N Q ops S ((i,false)::L) env w:=λa ha=>by
 obtain⟨o,ho,rfl,rfl,rfl⟩:=vW hop;simp only[nc,wpOp,ho,ha.wanted hw,if_true];obtain⟨v,w',hrun,hT⟩:=hy a ha o rfl;left;unfold Oper.wp;obtain⟨h1,h2⟩:=h v w' hT;rcases hrun with hrun|⟨hrun,rfl⟩
 ·rw[hrun];exact⟨λ_=>h1,h2 _ (ha.put hd v)⟩
 ·rw[hrun];exact⟨λ_=>h1,h2 _ (ha.put hd undef)⟩
theorem c5.acts (h:c5 P N env op w v):gZ P N env op w (λx w'=>x=v/\w'=w):=λa ha o ho=>⟨v,w,.inl (h a ha o ho),rfl,rfl⟩
theorem ai.now {g:Option (Nat×Bool)} (hop:cZ ops i=some (d,op,g)) (hw:fN ops env g=some true) (hd:sg N d=true) (hS:S w)
  (hy:c5 P N env op w v) (h:bR P N Q ops S L (qZ d v env) w):bR P N Q ops S ((i,false)::L) env w:=
 ai.act hop hw hd hy.acts (by rintro _ _ ⟨rfl,rfl⟩;exact⟨hS,h⟩)
def Enters (P:Program) (N:Nat) (env:Env) (op:Op) (w:World) (g:FuncId) (args:Array Value):Prop:=
 ∀a,jW N env a->∀o:Oper,o.op=op->(execOp a.eval o).run P w=.ok (.enter g args) w
theorem ai.call {gV:Option (Nat×Bool)} {g:FuncId} {args:Array Value} {T:Value->World->Prop} (hop:cZ ops i=some (d,op,gV)) (hw:fN ops env gV=some true) (hd:sg N d=true)
  (hy:Enters P N env op w g args) (hc:Calls P g args w (bM T))
  (h:∀v w',T v w'->S w'/\bR P N Q ops S L (qZ d v env) w'):bR P N Q ops S ((i,false)::L) env w:=λa ha=>by
 obtain⟨o,ho,rfl,rfl,rfl⟩:=vW hop;simp only[nc,wpOp,ho,ha.wanted hw,if_true];left;unfold Oper.wp;rw[hy a ha o rfl];simp only[Oper.upon];refine hc.mono λe w' he=>?_;obtain⟨v,rfl,hT⟩:=he;obtain⟨h1,h2⟩:=h v w' hT;exact⟨λ_=>h1,h2 _ (ha.put hd v)⟩
end
theorem Rr {P:Program} {f:FuncId} {fn:Func} {c:Code} {args:List Value} {N:Nat} {env:Env} {w:World} {R:Value->World->Prop}
  (hf:P.funcs[f]?=some fn) (hb:fn.body=some c) (hN:fn.ntmps=N) (hsz:Nat.ble args.length N=true) (he:∀t v,look env t=some v->args[t]?=some v)
  (h:Run P f N [.code c] env w R):Calls P f args.toArray w (bM R):=by
 refine Q8 hf hb (h _ ?_);have:args.length<=N:=Nat.le_of_ble_eq_true hsz;refine⟨by simp[hN];omega,rfl,λt v ht=>?_⟩;have h1:=he t v ht;have h2:t<args.length:=by
  rcases Nat.lt_or_ge t args.length with h|h
  ·exact h
  ·rw[List.getElem?_eq_none h] at h1;cases h1
 simp only;rw[Array.getElem?_append_left (by simpa using h2)];simpa using h1
def xS:Nat->List Value->Env
 |_,[]=>[]
 |n,v::l=>(n,v)::xS (n+1) l
theorem EN:∀(l:List Value) (n t:Nat) (v:Value),look (xS n l) t=some v->n<=t/\l[t-n]?=some v
 |[],_,_,_,h=>by cases h
 |x::l,n,t,v,h=>by
  simp only[xS,look] at h;cases hb:Nat.beq n t with
  |true=>
   rw[hb] at h;have e:=Nat.eq_of_beq_eq_true hb;subst e;simp at h;simp[h]
  |false=>
   rw[hb] at h;have hne:n≠t:=λe=>by subst e;simp at hb
   obtain⟨h1,h2⟩:=EN l (n+1) t v h;refine⟨by omega,?_⟩;have:t-n=(t-(n+1))+1:=by omega
   rw[this];simpa using h2
theorem Rs {P:Program} {f:FuncId} {fn:Func} {c:Code} (args:List Value) {N:Nat} {w:World} {R:Value->World->Prop}
  (hf:P.funcs[f]?=some fn) (hb:fn.body=some c) (hN:fn.ntmps=N) (hsz:Nat.ble args.length N=true)
  (h:Run P f N [.code c] (xS 0 args) w R):Calls P f args.toArray w (bM R):=
 Rr hf hb hN hsz (λt v ht=>by simpa using(EN args 0 t v ht).2) h
section
variable {P:Program} {N:Nat} {env:Env} {w:World} {x y z:Operand} {t u:TypeId} {k:IntKind} {m n:Int} {v:Value}
theorem mk' {op:Op} (h:∀ρ:Operand->Value,(∀x v,ev env x=some v->ρ x=v)->∀o:Oper,o.op=op->(execOp ρ o).run P w=.ok (.value v) w):c5 P N env op w v:=
 λa ha o ho=>h a.eval (λx v hx=>ha.ev hx) o ho
theorem zV (hx:ev env x=some v):c5 P N env (.move x) w v:=mk' λρ hρ o ho=>by
 unfold execOp;rw[ho];simp[hρ _ _ hx,go_sem]
theorem nJ (hx:ev env x=some v):c5 P N env (.assign x) w v:=mk' λρ hρ o ho=>by
 unfold execOp;rw[ho];simp[hρ _ _ hx,go_sem]
theorem kD {v₁:Value} (hx:ev env x=some (.bool true)) (hy:ev env y=some v₁):
  c5 P N env (.pick x y z) w v₁:=mk' λρ hρ o ho=>by
 unfold execOp;rw[ho];simp[hρ _ _ hx,hρ _ _ hy,go_sem,asBool]
theorem kE {v₂:Value} (hx:ev env x=some (.bool false)) (hz:ev env z=some v₂):
  c5 P N env (.pick x y z) w v₂:=mk' λρ hρ o ho=>by
 unfold execOp;rw[ho];simp[hρ _ _ hx,hρ _ _ hz,go_sem,asBool]
theorem zW {a:Addr} (hx:ev env x=some (.pointer (some a))):c5 P N env (.nilCheck x) w (.pointer (some a)):=mk' λρ hρ o ho=>by
 unfold execOp;rw[ho];simp[hρ _ _ hx,go_sem]
theorem Rt {vs:Array Value} {i:Nat} (hx:ev env x=some (.tuple vs)) (hv:vs[i]?=some v):c5 P N env (.extract x i) w v:=mk' λρ hρ o ho=>by
 unfold execOp;rw[ho];simp[hρ _ _ hx,go_sem,Instr.extract,hv]
theorem oM (op:BinOp) (t:TypeId) (x y:Operand) (k j:IntKind) (m n:Int) (w:World):
  (eqGuard op t x y (.int k m) (.int j n)).run P w=.ok () w:=by
 unfold eqGuard;simp[go_sem]
theorem val_add (hx:ev env x=some (.int k m)) (hy:ev env y=some (.int k n)):c5 P N env (.binOp .add t x y u) w (.int k (k.wrap (m+n))):=mk' λρ hρ o ho=>by
 unfold execOp;rw[ho];simp[hρ _ _ hx,hρ _ _ hy,go_sem,oM,binOp,Op.intArith]
theorem val_sub (hx:ev env x=some (.int k m)) (hy:ev env y=some (.int k n)):c5 P N env (.binOp .sub t x y u) w (.int k (k.wrap (m-n))):=mk' λρ hρ o ho=>by
 unfold execOp;rw[ho];simp[hρ _ _ hx,hρ _ _ hy,go_sem,oM,binOp,Op.intArith]
theorem val_mul (hx:ev env x=some (.int k m)) (hy:ev env y=some (.int k n)):c5 P N env (.binOp .mul t x y u) w (.int k (k.wrap (m*n))):=mk' λρ hρ o ho=>by
 unfold execOp;rw[ho];simp[hρ _ _ hx,hρ _ _ hy,go_sem,oM,binOp,Op.intArith]
theorem Ru (hx:ev env x=some (.int k m)) (hy:ev env y=some (.int k n)) (hn:n≠0):c5 P N env (.binOp .quo t x y u) w (.int k (k.wrap (m.tdiv n))):=mk' λρ hρ o ho=>by
 unfold execOp;rw[ho];simp[hρ _ _ hx,hρ _ _ hy,go_sem,oM,binOp,Op.intDiv,hn]
theorem Rv (hx:ev env x=some (.int k m)) (hy:ev env y=some (.int k n)) (hn:n≠0):c5 P N env (.binOp .rem t x y u) w (.int k (m.tmod n)):=mk' λρ hρ o ho=>by
 unfold execOp;rw[ho];simp[hρ _ _ hx,hρ _ _ hy,go_sem,oM,binOp,Op.intDiv,hn]
theorem eX (hx:ev env x=some (.int k m)) (hy:ev env y=some (.int k n)):c5 P N env (.binOp .lss t x y u) w (.bool (decide (m<n))):=mk' λρ hρ o ho=>by
 unfold execOp;rw[ho];simp[hρ _ _ hx,hρ _ _ hy,go_sem,oM,binOp,Op.intCmp]
theorem pM (hx:ev env x=some (.int k m)) (hy:ev env y=some (.int k n)):c5 P N env (.binOp .leq t x y u) w (.bool (decide (m<=n))):=mk' λρ hρ o ho=>by
 unfold execOp;rw[ho];simp[hρ _ _ hx,hρ _ _ hy,go_sem,oM,binOp,Op.intCmp]
theorem fq (hx:ev env x=some (.int k m)) (hy:ev env y=some (.int k n)):c5 P N env (.binOp .gtr t x y u) w (.bool (decide (n<m))):=mk' λρ hρ o ho=>by
 unfold execOp;rw[ho];simp[hρ _ _ hx,hρ _ _ hy,go_sem,oM,binOp,Op.intCmp]
theorem e6 (hx:ev env x=some (.int k m)) (hy:ev env y=some (.int k n)):c5 P N env (.binOp .geq t x y u) w (.bool (decide (n<=m))):=mk' λρ hρ o ho=>by
 unfold execOp;rw[ho];simp[hρ _ _ hx,hρ _ _ hy,go_sem,oM,binOp,Op.intCmp]
theorem fO (hx:ev env x=some (.int k m)) (hy:ev env y=some (.int k n)):c5 P N env (.binOp .eql t x y u) w (.bool (decide (m=n))):=mk' λρ hρ o ho=>by
 unfold execOp;rw[ho];simp[hρ _ _ hx,hρ _ _ hy,go_sem,oM,binOp,Op.intCmp];rfl
theorem gH (hx:ev env x=some (.int k m)) (hy:ev env y=some (.int k n)):c5 P N env (.binOp .neq t x y u) w (.bool (decide (m≠n))):=mk' λρ hρ o ho=>by
 unfold execOp;rw[ho];simp[hρ _ _ hx,hρ _ _ hy,go_sem,oM,binOp,Op.intCmp];by_cases h:m=n<;>simp[h]
def bitsOf (op:BinOp) (k:IntKind) (m n:Int):Int:=
 k.wrap ((match op with
  | .and=>BitVec.ofInt k.bits m&&&BitVec.ofInt k.bits n
  | .or=>BitVec.ofInt k.bits m|||BitVec.ofInt k.bits n
  | .xor=>BitVec.ofInt k.bits m^^^BitVec.ofInt k.bits n
  |_=>BitVec.ofInt k.bits m&&&~~~(BitVec.ofInt k.bits n):BitVec k.bits).toNat)
theorem Ct (hx:ev env x=some (.int k m)) (hy:ev env y=some (.int k n)):c5 P N env (.binOp .xor t x y u) w (.int k (bitsOf .xor k m n)):=mk' λρ hρ o ho=>by
 unfold execOp;rw[ho];simp[hρ _ _ hx,hρ _ _ hy,Sem.run_bind,Sem.run_pure,oM,binOp,Op.intBits,bitsOf]
theorem Z3 {j:IntKind} (hx:ev env x=some (.int k m)) (hy:ev env y=some (.int j n)) (hn:0<=n):
  c5 P N env (.binOp .shl t x y u) w (.int k (k.wrap (m*2^min n.toNat k.bits))):=mk' λρ hρ o ho=>by
 have:¬n<0:=by omega
 unfold execOp;rw[ho];simp[hρ _ _ hx,hρ _ _ hy,Sem.run_bind,Sem.run_pure,oM,binOp,Op.shift,this]
theorem td {j:IntKind} (hx:ev env x=some (.int k m)) (hy:ev env y=some (.int j n)) (hn:0<=n):
  c5 P N env (.binOp .shr t x y u) w (.int k (m.fdiv (2^min n.toNat k.bits))):=mk' λρ hρ o ho=>by
 have:¬n<0:=by omega
 unfold execOp;rw[ho];simp[hρ _ _ hx,hρ _ _ hy,Sem.run_bind,Sem.run_pure,oM,binOp,Op.shift,this]
theorem dF {b:Bool} (hx:ev env x=some (.bool b)):c5 P N env (.unOp .not t x) w (.bool (!b)):=mk' λρ hρ o ho=>by
 unfold execOp;rw[ho];simp[hρ _ _ hx,go_sem,Op.unary]
theorem pN {p:Prop} [Decidable p] (hx:ev env x=some (.bool (decide p))):c5 P N env (.unOp .not t x) w (.bool (decide (¬p))):=mk' λρ hρ o ho=>by
 unfold execOp;rw[ho];simp[hρ _ _ hx,go_sem,Op.unary]
theorem xT {j:IntKind} (hx:ev env x=some (.int j m)) (ht:∃d,P.underlying t=some d) (hu:P.underlying u=some (.int k)):c5 P N env (.convert t u x) w (.int k (k.wrap m)):=mk' λρ hρ o ho=>by
 obtain⟨d,hd⟩:=ht;unfold execOp;rw[ho];simp[hρ _ _ hx,go_sem,convert,run_underlying hd,run_underlying hu,Conv.intToInt]
theorem vX {b:Option Addr} {c l:Nat} {e:TypeId} (hx:ev env x=some (.slice b l c)) (ht:P.underlying t=some (.slice e)):
  c5 P N env (.call {callee:=.builtin .len,args:=#[x],argTypes:=#[t]}) w (.int .i64 l):=mk' λρ hρ o ho=>by
 unfold execOp;rw[ho];simp[hρ _ _ hx,go_sem,resolve,invoke,builtin,Builtin.len_,run_underlying ht,goInt]
theorem uB {g:FuncId} {xs:Array Operand} {ts:Array TypeId} {vs:List Value} {cap:Array Value} {w:World}
  (l7:∀args w,(callFunc g args).run P w=.ok (.enter g args) w) (hx:ev env x=some (.func (.func g) #[] cap)) (hargs:nI env xs.toList=some vs):
  Enters P N env (.call {callee:=.value x,args:=xs,argTypes:=ts}) w g (vs++cap.toList).toArray:=λa ha o ho=>by
 have h1:xs.map a.eval=vs.toArray:=by
  rw[<-ha.nI hargs,<-List.map_toArray]
 unfold execOp;rw[ho];simp only[resolve,Deferred.ofValue,ha.ev hx,h1,Sem.run_bind,Sem.run_pure,Result.andThen_ok,invoke];rw[l7];simp
end
theorem wrap_i64 {n:Int} (h1:-9223372036854775808<=n) (h2:n<=9223372036854775807):IntKind.i64.wrap n=n:=IntWalk.i64_in n ⟨h1,h2⟩
theorem wrap_u64 {n:Int} (h1:0<=n) (h2:n<=18446744073709551615):IntKind.u64.wrap n=n:=by
 have h:IntKind.u64.wrap n=n%18446744073709551616:=by simp[IntKind.wrap,IntKind.signed,IntKind.bits]
 rw[h];exact Int.emod_eq_of_lt h1 (by omega)
theorem eq_int {k:IntKind} {a b:Int} (h:a=b):Value.int k a=Value.int k b:=by rw[h]
section
variable {P:Program} {N:Nat} {env:Env} {w:World} {x y:Operand} {t u:TypeId} {m n:Int}
theorem iK (hx:ev env x=some (.int .i64 m)) (hy:ev env y=some (.int .i64 n)) (h1:-9223372036854775808<=m+n) (h2:m+n<=9223372036854775807):
  c5 P N env (.binOp .add t x y u) w (.int .i64 (m+n)):=by
 have:=val_add (P:=P) (N:=N) (w:=w) (t:=t) (u:=u) hx hy;rwa [wrap_i64 h1 h2] at this
theorem fu (hx:ev env x=some (.int .i64 m)) (hy:ev env y=some (.int .i64 n)) (h1:-9223372036854775808<=m-n) (h2:m-n<=9223372036854775807):
  c5 P N env (.binOp .sub t x y u) w (.int .i64 (m-n)):=by
 have:=val_sub (P:=P) (N:=N) (w:=w) (t:=t) (u:=u) hx hy;rwa [wrap_i64 h1 h2] at this
theorem Cu (hx:ev env x=some (.int .i64 m)) (hy:ev env y=some (.int .i64 n)) (h1:-9223372036854775808<=m*n) (h2:m*n<=9223372036854775807):
  c5 P N env (.binOp .mul t x y u) w (.int .i64 (m*n)):=by
 have:=val_mul (P:=P) (N:=N) (w:=w) (t:=t) (u:=u) hx hy;rwa [wrap_i64 h1 h2] at this
theorem Z4 (hx:ev env x=some (.int .i64 m)) (hy:ev env y=some (.int .i64 n)) (h0:0<=m) (h1:1<=n) (h2:m<=9223372036854775807):
  c5 P N env (.binOp .quo t x y u) w (.int .i64 (m/n)):=by
 have:=Ru (P:=P) (N:=N) (w:=w) (t:=t) (u:=u) hx hy (by omega);have h3:m/n<=m:=Int.ediv_le_self _ h0;have h4:0<=m/n:=Int.ediv_nonneg h0 (by omega);rwa [Int.tdiv_eq_ediv_of_nonneg h0,wrap_i64 (by omega) (by omega)] at this
theorem Rw (hx:ev env x=some (.int .i64 m)) (hy:ev env y=some (.int .i64 n)) (h0:0<=m) (h1:1<=n):
  c5 P N env (.binOp .rem t x y u) w (.int .i64 (m%n)):=by
 have:=Rv (P:=P) (N:=N) (w:=w) (t:=t) (u:=u) hx hy (by omega);rwa [Int.tmod_eq_emod_of_nonneg h0] at this
end
section
variable {P:Program} {N:Nat} {env:Env} {w:World} {x y:Operand} {t u:TypeId} {m n r:Int} {k j:IntKind}
theorem Rx (hx:ev env x=some (.int k m)) (hy:ev env y=some (.int j n)) (hn:0<=n) (h:m.fdiv (2^min n.toNat k.bits)=r):c5 P N env (.binOp .shr t x y u) w (.int k r):=by
 subst h;exact td hx hy hn
theorem zX (hx:ev env x=some (.int j m)) (ht:∃d,P.underlying t=some d) (hu:P.underlying u=some (.int k)) (h:k.wrap m=r):c5 P N env (.convert t u x) w (.int k r):=by
 subst h;exact xT hx ht hu
end
def l8 (w w':World):Prop:=w.drawn<=w'.drawn
theorem l8.refl {w w':World} (h:w'.drawn=w.drawn):l8 w w':=Nat.le_of_eq h.symm
theorem l8.succ {w w':World} (h:w'.drawn=w.drawn+1):l8 w w':=by unfold l8;omega
theorem l8.trans {w w' w'':World} (h:l8 w w') (h':l8 w' w''):l8 w w'':=Nat.le_trans h h'
structure Ext (A:Nat->Prop) (w w':World):Prop where
 os:w'.os=w.os
 tape:w'.tape=w.tape
 output:w'.output=w.output
 size:w.heap.size<=w'.heap.size
 block:∀b,b<w.heap.size->¬A b->w'.heap[b]?=w.heap[b]?
 drawn:l8 w w'
def No:Nat->Prop:=λ_=>False
def One (b:Nat):Nat->Prop:=λx=>x=b
def cI (v:Value):Nat->Prop:=λx=>v.ownBlock=some x
section
variable {A A' M M':Nat->Prop} {w w' w'':World}
theorem Ext.refl (A:Nat->Prop) (w:World):Ext A w w:=⟨rfl,rfl,rfl,Nat.le_refl _,λ_ _ _=>rfl,l8.refl rfl⟩
theorem Ext.trans (h:Ext A w w') (h':Ext A' w' w'') (hA:∀b,b<w.heap.size->A' b->A b):Ext A w w'':=
 ⟨h'.os.trans h.os,h'.tape.trans h.tape,h'.output.trans h.output,Nat.le_trans h.size h'.size,λb hb hn=>
  (h'.block b (Nat.lt_of_lt_of_le hb h.size) (λha=>hn (hA b hb ha))).trans (h.block b hb hn),l8.trans h.drawn h'.drawn⟩
theorem Ext.mono (h:Ext A w w') (hA:∀b,b<w.heap.size->A b->A' b):Ext A' w w':=
 ⟨h.os,h.tape,h.output,h.size,λb hb hn=>h.block b hb (λha=>hn (hA b hb ha)),h.drawn⟩
theorem Ext.drew (A:Nat->Prop) (w:World):Ext A w {w with drawn:=w.drawn+1}:=⟨rfl,rfl,rfl,Nat.le_refl _,λ_ _ _=>rfl,l8.succ rfl⟩
theorem Ext.below (h:Ext A w w') {B:Nat} (hB:B<=w.heap.size) (hA:∀b,A b->B<=b):Go.RowKit.Below B w w':=
 ⟨h.os,h.tape,h.output,h.size,λk hk=>h.block k (Nat.lt_of_lt_of_le hk hB) (λha=>by have:=hA k ha;omega)⟩
theorem Ext.si (h:Ext A w w') {b:Nat} {o:Obj} (hb:w.heap[b]?=some o) (hn:¬A b):w'.heap[b]?=some o:=
 (h.block b (Array.getElem?_eq_some_iff.1 hb).1 hn).trans hb
theorem pO {b:Nat} {o:Obj} (hb:w.heap[b]?=some o):b<w.heap.size:=(Array.getElem?_eq_some_iff.1 hb).1
end
class bg (α:Type) where
 sz:Nat
 agg:Bool
 flat:agg=false->sz=1
 rep:Array Obj->(Nat->Prop)->α->List Value->Prop
 len:∀{h M x vs},rep h M x vs->vs.length=sz
 one:∀{h M x vs},rep h M x vs->∀v∈vs,v.oneCell'=true
 keep:∀{h h' M x vs},rep h M x vs->(∀b,b<h.size->¬M b->h'[b]?=h[b]?)->rep h' M x vs
 sub:∀{h M M' x vs},rep h M x vs->(∀b,b<h.size->M' b->M b)->rep h M' x vs
open bg
instance:bg Int where
 sz:=1
 agg:=false
 flat _:=rfl
 rep _ _ x vs:=vs=[.int .i64 x]
 len h:=by subst h;rfl
 one h:=by subst h;intro v hv;simp at hv;subst hv;rfl
 keep h _:=h
 sub h _:=h
instance:bg Nat where
 sz:=1
 agg:=false
 flat _:=rfl
 rep _ _ x vs:=vs=[.int .i64 (x:Int)]
 len h:=by subst h;rfl
 one h:=by subst h;intro v hv;simp at hv;subst hv;rfl
 keep h _:=h
 sub h _:=h
structure JT (k:IntKind) where
 n:Int
abbrev Ry:=JT .u64
instance {k:IntKind}:bg (JT k) where
 sz:=1
 agg:=false
 flat _:=rfl
 rep _ _ x vs:=vs=[.int k x.n]
 len h:=by subst h;rfl
 one h:=by subst h;intro v hv;simp at hv;subst hv;rfl
 keep h _:=h
 sub h _:=h
instance:bg Bool where
 sz:=1
 agg:=false
 flat _:=rfl
 rep _ _ x vs:=vs=[.bool x]
 len h:=by subst h;rfl
 one h:=by subst h;intro v hv;simp at hv;subst hv;rfl
 keep h _:=h
 sub h _:=h
instance:bg ByteArray where
 sz:=1
 agg:=false
 flat _:=rfl
 rep _ _ x vs:=vs=[.string x]/\x.size<=9223372036854775807
 len h:=by obtain⟨rfl,_⟩:=h;rfl
 one h:=by obtain⟨rfl,_⟩:=h;intro v hv;simp at hv;subst hv;rfl
 keep h _:=h
 sub h _:=h
instance {α β:Type} [bg α] [bg β]:bg (α×β) where
 sz:=sz α+sz β
 agg:=true
 flat h:=by cases h
 rep h M x vs:=∃us ws,vs=us++ws/\rep h M x.1 us/\rep h M x.2 ws
 len h:=by obtain⟨us,ws,rfl,h1,h2⟩:=h;rw[List.length_append,len h1,len h2]
 one h:=by
  obtain⟨us,ws,rfl,h1,h2⟩:=h;intro v hv;rcases List.mem_append.1 hv with hv|hv
  ·exact one h1 v hv
  ·exact one h2 v hv
 keep h hk:=by obtain⟨us,ws,e,h1,h2⟩:=h;exact⟨us,ws,e,keep h1 hk,keep h2 hk⟩
 sub h hk:=by obtain⟨us,ws,e,h1,h2⟩:=h;exact⟨us,ws,e,sub h1 hk,sub h2 hk⟩
@[reducible] def bg.via {α β:Type} [bg β] (f:α->β):bg α where
 sz:=sz β
 agg:=true
 flat h:=by cases h
 rep h M x vs:=rep h M (f x) vs
 len h:=len h
 one h:=one h
 keep h hk:=keep h hk
 sub h hk:=sub h hk
def cH (cs:Array Value) (o n:Nat):List Value:=(cs.toList.drop o).take n
def At {α:Type} [bg α] (h:Array Obj) (M:Nat->Prop) (b o:Nat) (x:α):Prop:=
 ¬M b/\∃cs ty eP,h[b]?=some (.cells cs ty eP)/\rep h M x (cH cs o (sz α))
def sj {α:Type} [bg α] (h:Array Obj) (M:Nat->Prop) (b o:Nat) (xs:List α):Prop:=
 ¬M b/\∃cs ty eP,h[b]?=some (.cells cs ty eP)/\o+xs.length*sz α<=cs.size/\∀i (hi:i<xs.length),rep h M xs[i] (cH cs (o+i*sz α) (sz α))
section
variable {α:Type} [bg α] {h h':Array Obj} {M M':Nat->Prop} {b o:Nat} {x:α} {xs:List α}
theorem At.keep (ha:At h M b o x) (hk:∀b,b<h.size->¬M b->h'[b]?=h[b]?):At h' M b o x:=by
 obtain⟨hb,cs,ty,eP,hc,hr⟩:=ha;exact⟨hb,cs,ty,eP,(hk b (Array.getElem?_eq_some_iff.1 hc).1 hb).trans hc,bg.keep hr hk⟩
theorem At.sub (ha:At h M b o x) (hk:∀b,b<h.size->M' b->M b):At h M' b o x:=by
 obtain⟨hb,cs,ty,eP,hc,hr⟩:=ha;exact⟨λh'=>hb (hk b (Array.getElem?_eq_some_iff.1 hc).1 h'),cs,ty,eP,hc,bg.sub hr hk⟩
theorem sj.keep (ha:sj h M b o xs) (hk:∀b,b<h.size->¬M b->h'[b]?=h[b]?):sj h' M b o xs:=by
 obtain⟨hb,cs,ty,eP,hc,hl,hr⟩:=ha;exact⟨hb,cs,ty,eP,(hk b (Array.getElem?_eq_some_iff.1 hc).1 hb).trans hc,hl,λi hi=>bg.keep (hr i hi) hk⟩
theorem sj.sub (ha:sj h M b o xs) (hk:∀b,b<h.size->M' b->M b):sj h M' b o xs:=by
 obtain⟨hb,cs,ty,eP,hc,hl,hr⟩:=ha;exact⟨λh'=>hb (hk b (Array.getElem?_eq_some_iff.1 hc).1 h'),cs,ty,eP,hc,hl,λi hi=>bg.sub (hr i hi) hk⟩
theorem sj.si (ha:sj h M b o xs) (i:Nat) (hi:i<xs.length):At h M b (o+i*sz α) xs[i]:=by
 obtain⟨hb,cs,ty,eP,hc,hl,hr⟩:=ha;exact⟨hb,cs,ty,eP,hc,hr i hi⟩
end
instance {α:Type} [bg α]:bg (List α) where
 sz:=1
 agg:=false
 flat _:=rfl
 rep h M xs vs:=∃a c,vs=[.slice a xs.length c]/\xs.length<=c/\xs.length<=9223372036854775807/\(xs=[]\/∃b o,a=some ⟨b,o,none⟩/\sj h M b o xs)
 len h:=by obtain⟨a,c,rfl,_⟩:=h;rfl
 one h:=by obtain⟨a,c,rfl,_⟩:=h;intro v hv;simp at hv;subst hv;rfl
 keep h hk:=by
  obtain⟨a,c,e,h1,h2,h3⟩:=h;exact⟨a,c,e,h1,h2,h3.imp id (λ⟨b,o,ha,hs⟩=>⟨b,o,ha,hs.keep hk⟩)⟩
 sub h hk:=by
  obtain⟨a,c,e,h1,h2,h3⟩:=h;exact⟨a,c,e,h1,h2,h3.imp id (λ⟨b,o,ha,hs⟩=>⟨b,o,ha,hs.sub hk⟩)⟩
def aG {α:Type} [bg α] (w:World) (M:Nat->Prop) (x:α) (v:Value):Prop:=∃vs,rep w.heap M x vs/\v=if agg α then .agg vs.toArray else vs.headD undef
def bP {α:Type} [bg α] (w:World) (M:Nat->Prop) (x:α) (b o:Nat):Prop:=At w.heap M b o x
section
variable {α β:Type} [bg α] [bg β] {w w':World} {A M M':Nat->Prop} {x:α} {xs:List α} {v:Value} {b o:Nat}
theorem aG.ext (hr:aG w M x v) (he:Ext A w w') (hA:∀b,b<w.heap.size->A b->M b):aG w' M x v:=
 let⟨vs,h1,h2⟩:=hr;⟨vs,bg.keep h1 (λb hb hn=>he.block b hb (λha=>hn (hA b hb ha))),h2⟩
theorem aG.sub (hr:aG w M x v) (hA:∀b,b<w.heap.size->M' b->M b):aG w M' x v:=let⟨vs,h1,h2⟩:=hr;⟨vs,bg.sub h1 hA,h2⟩
theorem bP.ext (hr:bP w M x b o) (he:Ext A w w') (hA:∀b,b<w.heap.size->A b->M b):bP w' M x b o:=
 At.keep hr (λb hb hn=>he.block b hb (λha=>hn (hA b hb ha)))
theorem bP.sub (hr:bP w M x b o) (hA:∀b,b<w.heap.size->M' b->M b):bP w M' x b o:=At.sub hr hA
theorem gN {n:Int}:aG w M n v↔v=.int .i64 n:=⟨λ⟨vs,h,e⟩=>by subst h;exact e,λh=>⟨_,rfl,h⟩⟩
theorem jr {n:Nat}:aG w M n v↔v=.int .i64 (n:Int):=⟨λ⟨vs,h,e⟩=>by subst h;exact e,λh=>⟨_,rfl,h⟩⟩
theorem qt {n:Bool}:aG w M n v↔v=.bool n:=⟨λ⟨vs,h,e⟩=>by subst h;exact e,λh=>⟨_,rfl,h⟩⟩
theorem kF:aG w M xs v↔∃a c,v=.slice a xs.length c/\xs.length<=c/\xs.length<=9223372036854775807/\(xs=[]\/∃b o,a=some ⟨b,o,none⟩/\sj w.heap M b o xs):=
 ⟨λ⟨vs,h,e⟩=>by obtain⟨a,c,rfl,h⟩:=h;exact⟨a,c,e,h⟩,λ⟨a,c,h⟩=>⟨_,⟨a,c,rfl,h.2⟩,h.1⟩⟩
theorem jE:aG w M ([]:List α) (.slice none 0 0):=kF.2 ⟨none,0,rfl,Nat.le_refl _,by simp,.inl rfl⟩
theorem bP.fst {p:α×β} (h:bP w M p b o):bP w M p.1 b o:=by
 obtain⟨hb,cs,ty,eP,hc,us,ws,he,h1,h2⟩:=h;refine⟨hb,cs,ty,eP,hc,?_⟩;have:cH cs o (sz α)=us:=by
  have e:cH cs o (sz (α×β))=us++ws:=he;have hl:=bg.len h1;have:cH cs o (sz α)=(cH cs o (sz (α×β))).take (sz α):=by
   simp only[cH,List.take_take];congr 1;exact(Nat.min_eq_left (Nat.le_add_right _ _)).symm
  rw[this,e,<-hl,List.take_left]
 rw[this];exact h1
theorem bP.snd {p:α×β} (h:bP w M p b o):bP w M p.2 b (o+sz α):=by
 obtain⟨hb,cs,ty,eP,hc,us,ws,he,h1,h2⟩:=h;refine⟨hb,cs,ty,eP,hc,?_⟩;have:cH cs (o+sz α) (sz β)=ws:=by
  have e:cH cs o (sz (α×β))=us++ws:=he;have hl:=bg.len h1;have:cH cs (o+sz α) (sz β)=(cH cs o (sz (α×β))).drop (sz α):=by
   simp only[cH,List.drop_take,List.drop_drop];congr 1;exact(Nat.add_sub_cancel_left _ _).symm
  rw[this,e,<-hl,List.drop_left]
 rw[this];exact h2
theorem aG.Rz (h:aG w M x v) (hx:bg.agg α=false):rep w.heap M x [v]:=by
 obtain⟨vs,hr,hv⟩:=h;have hl:=bg.len hr;rw[bg.flat hx] at hl;obtain⟨u,rfl⟩:=List.length_eq_one_iff.1 hl;simp only[hx,Bool.false_eq_true,if_false,List.headD_cons] at hv;subst hv;exact hr
theorem zY (h:rep w.heap M x [v]) (hx:bg.agg α=false):aG w M x v:=⟨[v],h,by simp[hx]⟩
def jF (P:Program) (t:TypeId):Option Bool:=match P.underlying t with|some (.struct _)=>some true|some (.array _ _)=>some true|some _=>some false|none=>none
def jg (P:Program) (t:TypeId):Option Nat:=(P.info? t).map (·.size)
variable {P:Program} {N:Nat} {env:Env} {t u:TypeId} {y z:Operand}
theorem vY {b:Bool} (h:jF P t=some b) (w:World): (isAgg t).run P w=.ok b w:=by
 unfold jF at h;split at h<;>rename_i hu<;>first|(simp only[Option.some.injEq] at h;subst h)|cases h
 all_goals simp[isAgg,run_underlying hu]
theorem oh {n:Nat} (h:jg P t=some n) (w:World): (sizeOf t).run P w=.ok n w:=by
 unfold jg at h;cases hi:P.info? t with
 |none=>rw[hi] at h;cases h
 |some i=>rw[hi] at h;simp only[Option.map_some,Option.some.injEq] at h;subst h;simp[sizeOf,typeInfo,hi]
theorem JU {cs:Array Value} {o n:Nat} {vs:List Value} (h:cH cs o n=vs) (hl:vs.length=n) {j:Nat} (hj:j<n):cs[o+j]?=vs[j]?:=by
 subst h;simp only[cH,List.getElem?_take,List.getElem?_drop,if_pos hj];simp
theorem oO (b o n:Nat): (⟨b,o,none⟩:Addr).add n=⟨b,o+n,none⟩:=by unfold Addr.add;split<;>simp_all
theorem bP.load (h:bP w M x b o) (ha:jF P t=some false) (hx:bg.agg α=false) (hy:ev env y=some (.pointer (some ⟨b,o,none⟩))):
  ∃v,aG w M x v/\∀w',w'.heap[b]?=w.heap[b]?->c5 P N env (.load t y) w' v:=by
 obtain⟨hb,cs,ty,eP,hc,hr⟩:=h;have h1:sz α=1:=bg.flat hx;obtain⟨v,hv⟩:∃v,cH cs o (sz α)=[v]:=List.length_eq_one_iff.1 (by rw[len hr,h1]);rw[hv] at hr;refine⟨v,⟨[v],hr,by simp[hx]⟩,λw' hw=>mk' λρ hρ eY ho=>?_⟩;rw[<-hw] at hc;have h2:cs[o]?=some v:=by have:=JU (j:=0) hv (by simp[h1]) (by omega);simpa using this
 unfold execOp;rw[ho];simp[hρ _ _ hy,go_sem,Instr.loadAt,Instr.sureAddr,loadVar,vY ha,World.cell?,hc,h2]
theorem bP.zZ (h:bP w M x b o) (ha:jF P t=some true) (hs:jg P t=some (sz α)) (hx:bg.agg α=true) (hy:ev env y=some (.pointer (some ⟨b,o,none⟩))):
  ∃v,aG w M x v/\∀w',w'.heap[b]?=w.heap[b]?->c5 P N env (.load t y) w' v:=by
 obtain⟨hb,cs,ty,eP,hc,hr⟩:=h;refine⟨.agg (cH cs o (sz α)).toArray,⟨_,hr,by simp only[hx,if_true]⟩,λw' hw=>mk' λρ hρ eY ho=>?_⟩;rw[<-hw] at hc;have hl:=len hr;have hcells: (loadCells ⟨b,o,none⟩ (sz α)).run P w'=.ok (cH cs o (sz α)).toArray w':=by
  have:=run_loadCells_list (P:=P) w' ⟨b,o,none⟩ (cH cs o (sz α)) (λj v hv=>by
   have hj:j<sz α:=by rw[<-hl];exact(List.getElem?_eq_some_iff.1 hv).1
   rw[oO,cell_of_row w' b (o+j) cs ty eP hc,JU rfl hl hj,hv])
  rwa [hl] at this
 simp only[loadCells] at hcells;unfold execOp;rw[ho];simp[hρ _ _ hy,go_sem,Instr.loadAt,Instr.sureAddr,loadVar,vY ha,oh hs,loadCells,hcells]
theorem vZ {cs:List Value} {ty:TypeId} {eP:Nat×Nat} (hc:w.heap[b]?=some (.cells cs.toArray ty eP)) (ha:jF P t=some false) (hv:cs[o]?=some v)
  (hy:ev env y=some (.pointer (some ⟨b,o,none⟩))):c5 P N env (.load t y) w v:=mk' λρ hρ eY ho=>by
 have h2:cs.toArray[o]?=some v:=by simpa using hv
 unfold execOp;rw[ho];simp[hρ _ _ hy,go_sem,Instr.loadAt,Instr.sureAddr,loadVar,vY ha,World.cell?,hc,h2]
theorem eL {cs:List Value} {ty:TypeId} {eP:Nat×Nat} {n:Nat} {vs:List Value} (hc:w.heap[b]?=some (.cells cs.toArray ty eP)) (ha:jF P t=some true) (hs:jg P t=some n)
  (hv: (cs.drop o).take n=vs) (hl:vs.length=n) (hy:ev env y=some (.pointer (some ⟨b,o,none⟩))):c5 P N env (.load t y) w (.agg vs.toArray):=mk' λρ hρ eY ho=>by
 have hcells: (loadCells ⟨b,o,none⟩ n).run P w=.ok vs.toArray w:=by
  have:=run_loadCells_list (P:=P) w ⟨b,o,none⟩ vs (λj u hu=>by
   have hj:j<n:=by rw[<-hl];exact(List.getElem?_eq_some_iff.1 hu).1
   rw[oO,cell_of_row w b (o+j) cs.toArray ty eP hc];rw[<-hu,<-hv,List.getElem?_take,if_pos hj,List.getElem?_drop];simp)
  rwa [hl] at this
 simp only[loadCells] at hcells;unfold execOp;rw[ho];simp[hρ _ _ hy,go_sem,Instr.loadAt,Instr.sureAddr,loadVar,vY ha,oh hs,loadCells,hcells]
def Cv (P:Program) (t:TypeId) (f:Nat):Option Nat:=match P.underlying t with
 |some (.struct fs)=>match fs[f]? with
  |some fl=>match jg P fl.type with|some (_+1)=>some fl.offset|_=>none
  |none=>none
 |_=>none
theorem JV {f off:Nat} (hf:Cv P t f=some off) (hy:ev env y=some (.pointer (some ⟨b,o,none⟩))):
  c5 P N env (.fieldAddr t y f) w (.pointer (some ⟨b,o+off,none⟩)):=mk' λρ hρ eY ho=>by
 unfold Cv at hf;split at hf
 ·rename_i fs hu;split at hf
  ·rename_i fl hfl;split at hf
   ·rename_i n hn;simp only[Option.some.injEq] at hf;subst hf;unfold execOp;rw[ho];simp[hρ _ _ hy,go_sem,Instr.fieldAt,run_underlying hu,hfl,Instr.sureAddr,fieldPlace,oh hn,oO]
   ·cases hf
  ·cases hf
 ·cases hf
def jk (P:Program) (t:TypeId):Option (TypeId×Nat):=match P.underlying t with
 |some (.slice e)=>match jg P e with|some n=>some (e,n)|none=>none
 |_=>none
theorem EO {e n l c:Nat} {k:IntKind} {i:Int} (hf:jk P t=some (e,n)) (hy:ev env y=some (.slice (some ⟨b,o,none⟩) l c)) (hz:ev env z=some (.int k i))
  (h0:0<=i) (h1:i<l):c5 P N env (.indexAddr t y z) w (.pointer (some ⟨b,o+i.toNat*n,none⟩)):=mk' λρ hρ eY ho=>by
 unfold jk at hf;split at hf
 ·rename_i e' hu;split at hf
  ·rename_i n' hn;simp only[Option.some.injEq,Prod.mk.injEq] at hf;obtain⟨rfl,rfl⟩:=hf;unfold execOp;rw[ho];simp only[hρ _ _ hy,hρ _ _ hz];simp[go_sem,Instr.indexAt,run_underlying hu,asIntOf,oh hn,h0,h1,oO]
  ·cases hf
 ·cases hf
theorem aG.index (h:aG w M xs v) (hy:ev env y=some v) {e:Nat} {k:IntKind} {i:Int} (hf:jk P t=some (e,sz α)) (hz:ev env z=some (.int k i))
  (h0:0<=i) (h1:i<xs.length):∃b o,bP w M (xs[i.toNat]'(by omega)) b o/\∀w',c5 P N env (.indexAddr t y z) w' (.pointer (some ⟨b,o,none⟩)):=by
 obtain⟨a,c,rfl,hc,hm,hs⟩:=kF.1 h;rcases hs with rfl|⟨b,o,rfl,hs⟩
 ·simp at h1;omega
 ·exact⟨b,o+i.toNat*sz α,hs.si _ _,λw'=>EO hf hy hz h0 h1⟩
theorem aG.len (h:aG w M xs v):∃a c,v=.slice a xs.length c:=let⟨a,c,e,_⟩:=kF.1 h;⟨a,c,e⟩
theorem aG.le (h:aG w M xs v):xs.length<=9223372036854775807:=let⟨a,c,_,_,e,_⟩:=kF.1 h;e
theorem aG.b8 (h:aG w M xs v) (hy:ev env y=some v) {e:TypeId} (ht:P.underlying t=some (.slice e)):
  ∀w',c5 P N env (.call {callee:=.builtin .len,args:=#[y],argTypes:=#[t]}) w' (.int .i64 xs.length):=λw'=>by
 obtain⟨a,c,rfl⟩:=h.len;exact vX hy ht
theorem aG.one (h:aG w M x v) (hx:bg.agg α=false):v.cells=#[v]/\v.oneCell'=true:=by
 obtain⟨vs,h1,h2⟩:=h;have hl:=bg.len h1;rw[bg.flat hx] at hl;obtain⟨u,rfl⟩:=List.length_eq_one_iff.1 hl;simp only[hx,Bool.false_eq_true,if_false,List.headD_cons] at h2;subst h2;have h3:=bg.one h1 v (by simp);refine⟨?_,h3⟩;cases v<;>first|rfl|simp[Value.oneCell'] at h3
theorem aG.many (h:aG w M x v) (hx:bg.agg α=true):∃vs,v=.agg vs.toArray/\vs.length=sz α/\(∀u∈vs,u.oneCell'=true)/\rep w.heap M x vs:=by
 obtain⟨vs,h1,h2⟩:=h;simp only[hx,if_true] at h2;exact⟨vs,h2,bg.len h1,bg.one h1,h1⟩
end
end Go.K
namespace Go.K
open bg
structure New (w w':World) (o:Obj):Prop where
 ext:Ext No w w'
 at_:w'.heap[w.heap.size]?=some o
 size:w'.heap.size=w.heap.size+1
structure wh (w w':World) (b:Nat) (o:Obj):Prop where
 ext:Ext (One b) w w'
 at_:w'.heap[b]?=some o
 size:w'.heap.size=w.heap.size
theorem tf (w:World) (o:Obj):New w (w.alloc o) o:=
 ⟨⟨rfl,rfl,rfl,by simp,λb hb _=>heap_alloc_old w o hb,l8.refl rfl⟩,heap_alloc_new w o,by simp⟩
theorem uC (w:World) (o:Obj):New w (w.drew.alloc o) o:=
 ⟨⟨rfl,rfl,rfl,by simp,λb hb _=>heap_alloc_old w.drew o hb,l8.succ rfl⟩,heap_alloc_new w.drew o,by simp⟩
theorem EP {w:World} {b:Nat} {old cs:Array Value} {t:TypeId} {fr:Nat×Nat} (h:w.heap[b]?=some (.cells old t fr)):wh w (w.setRow b cs) b (.cells cs t fr):=
 ⟨⟨rfl,rfl,rfl,by simp[World.setRow],λk _ hk=>setRow_other w b k cs (λe=>hk e),l8.refl rfl⟩,setRow_heap w b old cs t fr h,by simp[World.setRow]⟩
def tg (P:Program) (t:TypeId):Option (List Value):=((P.info? t).bind (·.zero)).map (·.cells.toList)
section
variable {P:Program} {N:Nat} {env:Env} {w:World} {x y z:Operand} {t u e:TypeId} {v:Value}
theorem Cw {l:List Value} (h:tg P t=some l) (w:World):∃z,(zeroValue t).run P w=.ok z w/\z.cells=l.toArray:=by
 unfold tg at h;cases hi:P.info? t with
 |none=>rw[hi] at h;cases h
 |some i=>
  rw[hi] at h;cases hz:i.zero with
  |none=>simp[hz] at h
  |some z=>simp[hz] at h;subst h;exact⟨z,by simp[zeroValue,typeInfo,hi,hz],by simp⟩
theorem oP {op:Op} {T:Value->World->Prop} (h:∀ρ:Operand->Value,(∀x v,ev env x=some v->ρ x=v)->∀o:Oper,o.op=op->
  ∃v w',((execOp ρ o).run P w=.ok (.value v) w'\/((execOp ρ o).run P w=.ok .skip w'/\v=undef))/\T v w'):gZ P N env op w T:=
 λa ha o ho=>h a.eval (λx v hx=>ha.ev hx) o ho
theorem RC {l:List Value} (hz:tg P t=some l):
  gZ P N env (.alloc t) w (λv w'=>v=.pointer (some ⟨w.heap.size,0,none⟩)/\New w w' (.cells l.toArray t)):=oP λρ hρ o ho=>by
 obtain⟨kG,h1,h2⟩:=Cw hz w;refine⟨_,_,.inl ?_,rfl,tf w _⟩;unfold execOp;rw[ho];simp[go_sem,Instr.alloc,h1,newVar,newRow];exact congrArg (λc=>w.alloc (.cells c t)) h2
theorem JW {cs:List Value} (hx:ev env x=some v) (hc:v.cells=cs.toArray):
  gZ P N env (.box t x) w (λu w'=>u=.pointer (some ⟨w.heap.size,0,none⟩)/\New w w' (.cells cs.toArray t)):=oP λρ hρ o ho=>by
 refine⟨_,_,.inl ?_,rfl,tf w _⟩;unfold execOp;rw[ho];simp[hρ _ _ hx,go_sem,Instr.box,newVar,newRow];exact congrArg (λc=>w.alloc (.cells c t)) hc
theorem RD {b o n:Nat} {cs vs:List Value} {ty:TypeId} (hs:jg P t=some n) (hv:v.cells=vs.toArray) (hl:vs.length=n) (h1:∀u∈vs,u.oneCell'=true)
  (hb:w.heap[b]?=some (.cells cs.toArray ty (0,0))) (ho:o+n<=cs.length):
  (storeVar t ⟨b,o,none⟩ v).run P w=.ok () (w.setRow b (cs.take o++vs++cs.drop (o+n)).toArray):=by
 have hst:=run_storeCells_at P b o ty vs 0 cs.toArray w hb (by simpa[hl] using ho) h1;simp only[Nat.add_zero,hl] at hst;unfold storeVar;simp[oh hs,hv,hl,hst]
theorem Cx {b o n:Nat} {cs vs:List Value} {ty:TypeId} (hx:ev env x=some (.pointer (some ⟨b,o,none⟩))) (hy:ev env y=some v) (hs:jg P t=some n)
  (hv:v.cells=vs.toArray) (hl:vs.length=n) (h1:∀u∈vs,u.oneCell'=true) (hb:w.heap[b]?=some (.cells cs.toArray ty (0,0))) (ho:o+n<=cs.length):
  gZ P N env (.store t x y) w (λu w'=>u=undef/\wh w w' b (.cells (cs.take o++vs++cs.drop (o+n)).toArray ty (0,0))):=oP λρ hρ eY gu=>by
 refine⟨undef,_,.inr ⟨?_,rfl⟩,rfl,EP hb⟩;unfold execOp;rw[gu];simp only[hρ _ _ hx,hρ _ _ hy,Instr.storeAt,Instr.sureAddr,Sem.run_bind,Sem.run_pure,Result.andThen_ok];rw[RD hs hv hl h1 hb ho];rfl
theorem RE {b o:Nat} {cs:List Value} {ty:TypeId} (hx:ev env x=some (.pointer (some ⟨b,o,none⟩))) (hy:ev env y=some v) (hs:jg P t=some 1)
  (hv:v.cells=#[v]) (h1:v.oneCell'=true) (hb:w.heap[b]?=some (.cells cs.toArray ty (0,0))) (ho:o<cs.length):
  gZ P N env (.store t x y) w (λu w'=>u=undef/\wh w w' b (.cells (cs.set o v).toArray ty (0,0))):=by
 have h:=Cx (P:=P) (N:=N) (w:=w) (vs:=[v]) (n:=1) hx hy hs (by simpa using hv) rfl (by simpa using h1) hb ho;have e:cs.take o++[v]++cs.drop (o+1)=cs.set o v:=by
  rw[List.set_eq_take_append_cons_drop,if_pos ho];simp
 rwa [e] at h
end
def jG {α:Type} [bg α] (w:World) (M:Nat->Prop) (e:TypeId) (v:Value) (ys:List α):Prop:=
 (v=.slice none 0 0/\ys=[])\/
 ∃g cap cs,v=.slice (some ⟨g,0,none⟩) ys.length cap/\M g/\w.heap[g]?=some (.cells cs e (0,0))/\ys.length<=cap/\cs.size=cap*sz α/\
  ∀i (hi:i<ys.length),rep w.heap M ys[i] (cH cs (i*sz α) (sz α))
section
variable {α:Type} [bg α] {w w':World} {A M M':Nat->Prop} {e:TypeId} {v:Value} {ys zs:List α}
theorem jG.nil:jG w M e (.slice none 0 0) ([]:List α):=.inl ⟨rfl,rfl⟩
theorem jG.ext (h:jG w M e v ys) (he:Ext A w w') (hA:∀b,b<w.heap.size->A b->M b) (hv:∀b,cI v b->¬A b):jG w' M e v ys:=by
 rcases h with h|⟨g,cap,cs,z1,hg,hc,h1,h2,h3⟩
 ·exact .inl h
 ·refine .inr ⟨g,cap,cs,z1,hg,he.si hc (hv g (by subst z1;rfl)),h1,h2,λi hi=>bg.keep (h3 i hi) (λb hb hn=>he.block b hb (λha=>hn (hA b hb ha)))⟩
theorem jG.sub (h:jG w M e v ys) (gI:∀b,b<w.heap.size->M' b->M b) (hv:∀b,cI v b->M' b):jG w M' e v ys:=by
 rcases h with h|⟨g,cap,cs,z1,hg,hc,h1,h2,h3⟩
 ·exact .inl h
 ·exact .inr ⟨g,cap,cs,z1,hv g (by subst z1;rfl),hc,h1,h2,λi hi=>bg.sub (h3 i hi) gI⟩
theorem jG.fA (h:jG w M e v ys):∀b,cI v b->M b/\b<w.heap.size:=by
 intro b hb;rcases h with⟨rfl,_⟩|⟨g,cap,cs,rfl,hg,hc,_⟩
 ·cases hb
 ·simp only[cI,Value.ownBlock,Option.some.injEq] at hb;subst hb;exact⟨hg,pO hc⟩
theorem jG.len (h:jG w M e v ys):∃a c,v=.slice a ys.length c:=by
 rcases h with⟨rfl,rfl⟩|⟨g,cap,cs,rfl,_⟩
 ·exact⟨none,0,rfl⟩
 ·exact⟨_,_,rfl⟩
theorem jG.read (h:jG w M e v ys) (gI:∀b,b<w.heap.size->M' b->M b/\¬cI v b) (hl:ys.length<=9223372036854775807):aG w M' ys v:=by
 rcases h with⟨rfl,rfl⟩|⟨g,cap,cs,rfl,hg,hc,h1,h2,h3⟩
 ·exact jE
 ·refine kF.2 ⟨_,cap,rfl,h1,hl,.inr ⟨g,0,rfl,?_⟩⟩;refine⟨λhm=>(gI g (pO hc) hm).2 rfl,cs,e,_,hc,?_,λi hi=>?_⟩
  ·rw[Nat.zero_add,h2];exact Nat.mul_le_mul_right _ h1
  ·rw[Nat.zero_add];exact bg.sub (h3 i hi) (λb hb hm=>(gI b hb hm).1)
theorem pP {cs cs':Array Value} {o o' n:Nat} (h:∀j,j<n->cs[o+j]?=cs'[o'+j]?):cH cs o n=cH cs' o' n:=by
 apply List.ext_getElem?;intro j;simp only[cH,List.getElem?_take,List.getElem?_drop];split
 ·rename_i hj;simpa using h j hj
 ·rfl
variable {P:Program} {N:Nat} {env:Env} {x y:Operand} {t u:TypeId} {s:Value}
def om (P:Program) (t e n bytes:Nat):Bool:=match P.underlying t,P.info? e with
 |some (.slice e'),some i=>e'==e&&i.size==n&&i.bytes==bytes&&(match i.zero with|some z=>z.cells.size==n|none=>false)
 |_,_=>false
theorem uD {n bytes:Nat} (h:om P t e n bytes=true):∃i z,P.underlying t=some (.slice e)/\P.info? e=some i/\i.size=n/\i.bytes=bytes/\i.zero=some z/\z.cells.size=n:=by
 unfold om at h;split at h
 ·rename_i e' i hu hi;simp only[Bool.and_eq_true,beq_iff_eq] at h;obtain⟨⟨⟨rfl,h1⟩,h2⟩,h3⟩:=h;cases hz:i.zero with
  |none=>rw[hz] at h3;cases h3
  |some z=>rw[hz] at h3;exact⟨i,z,hu,hi,h1,h2,hz,by simpa using h3⟩
 ·cases h
theorem ER {bytes:Nat} (hx:ev env x=some v) (hy:ev env y=some s) (hrow:om P t e (sz α) bytes=true) (hsz:0<sz α)
  (hown:jG w M e v ys) (hsrc:aG w M zs s) (hlen: (ys.length+zs.length)*bytes<=140737488355328) (h63:ys.length+zs.length<=140737488355328):
  gZ P N env (.call {callee:=.builtin .append,args:=#[x,y],argTypes:=#[t,t]}) w (λv' w'=>
   jG w' (λb=>cI v' b\/M b) e v' (ys++zs)/\Ext (cI v) w w'/\(∀b,cI v' b->cI v b\/w.heap.size<=b)):=oP λρ hρ eY gu=>by
 obtain⟨i,z,hu,hi,pQ,hby,hz,hzs⟩:=uD hrow;obtain⟨a,c,rfl,hcap,hl0,Cy⟩:=kF.1 hsrc;have key:∃v' w',(Builtin.append_ #[t,t] eY.type #[v,.slice a zs.length c]).run P w=.ok v' w'/\
   jG w' (λb=>cI v' b\/M b) e v' (ys++zs)/\Ext (cI v) w w'/\(∀b,cI v' b->cI v b\/w.heap.size<=b):=by
  by_cases q5:zs=[]
  ·subst q5;refine⟨v,w,?_,?_,Ext.refl _ _,λb hb=> .inl hb⟩
   ·have hf: (Builtin.firstCells i.size 0 (.slice a 0 c)).run P w=.ok #[] w:=by cases a<;>simp[Builtin.firstCells,loadCells,loadCellsFrom]
    rcases hown with⟨rfl,_⟩|⟨g,cap,cs,rfl,hg,hc,h1,h2,h3⟩
    ·simp[Builtin.append_,run_underlying hu,sizeOf,typeInfo,hi,Builtin.lenOf,hf]
    ·simp[Builtin.append_,run_underlying hu,sizeOf,typeInfo,hi,Builtin.lenOf,hf,h1,storeCells]
   ·rw[List.append_nil];exact hown.sub (λb hb h=>h.elim (λho=>(hown.fA b ho).1) id) (λb hb=> .inl hb)
  ·rcases Cy with h|⟨sb,so,rfl,RF,pR,z6,z7,hsc,hsl,z8⟩
   ·exact absurd h q5
   ·have hm0:0<zs.length:=List.length_pos_iff.2 q5;obtain⟨news,z_⟩:∃news,news=cH pR so (zs.length*sz α):=⟨_,rfl⟩
    have hnl:news.length=zs.length*i.size:=by
     rw[z_,pQ];simp only[cH,List.length_take,List.length_drop,Array.length_toList];omega
    have uE:news.length=zs.length*sz α:=by rw[hnl,pQ]
    have k8:∀j,j<zs.length*sz α->news[j]?=pR[so+j]?:=λj hj=>by
     rw[z_];simp only[cH,List.getElem?_take,if_pos hj,List.getElem?_drop];simp
    have hnews:∀j v,news[j]?=some v->w.cell? ((⟨sb,so,none⟩:Addr).add j)=some v:=λj v hv=>by
     have hj:j<zs.length*sz α:=by rw[<-uE];exact(List.getElem?_eq_some_iff.1 hv).1
     rw[oO,cell_of_row w sb (so+j) pR z6 z7 hsc,<-k8 j hj,hv]
    have Aa:∀k (hk:k<zs.length),rep w.heap M zs[k] (cH news.toArray (k*sz α) (sz α)):=λk hk=>by
     have:=z8 k hk;rwa [show cH pR (so+k*sz α) (sz α)=cH news.toArray (k*sz α) (sz α) from pP (λj hj=>by
      have hb:k*sz α+j<zs.length*sz α:=by
       have:=Nat.mul_le_mul_right (sz α) (show k+1<=zs.length from hk);rw[Nat.succ_mul] at this;omega
      rw[show∀m,news.toArray[m]?=news[m]? from λm=>by simp,k8 _ hb,Nat.add_assoc])] at this
    have h1c:∀u∈news,u.oneCell'=true:=λu ES=>by
     obtain⟨j,hj,rfl⟩:=List.mem_iff_getElem.1 ES;have hjl:j<zs.length*sz α:=by rw[<-uE];exact hj
     have hk:j/sz α<zs.length:=(Nat.div_lt_iff_lt_mul hsz).2 hjl;refine bg.one (Aa (j/sz α) hk) _ ?_;apply List.mem_iff_getElem?.2;refine⟨j%sz α,?_⟩;have hmod:=Nat.mod_lt j hsz;simp only[cH,List.getElem?_take,if_pos hmod,List.getElem?_drop];rw[Nat.mul_comm,Nat.div_add_mod];simp[hj]
    have fresh:∀(olds:List Value) (cap:Nat) (o:Obj),olds.length=ys.length*sz α->(∀k (hk:k<ys.length),rep w.heap M ys[k] (cH olds.toArray (k*sz α) (sz α)))->
      o=.cells (olds.toArray++news.toArray++Builtin.zeroCells z.cells (cap-(ys.length+zs.length))) e (0,0)->ys.length+zs.length<=cap->
      jG (w.drew.alloc o) (λb=>cI (.slice (some ⟨w.heap.size,0,none⟩) (ys.length+zs.length) cap) b\/M b) e (.slice (some ⟨w.heap.size,0,none⟩) (ys.length+zs.length) cap) (ys++zs):=by
     intro olds cap o holds wj ho ET;subst ho;have hnew:=uC w (.cells (olds.toArray++news.toArray++Builtin.zeroCells z.cells (cap-(ys.length+zs.length))) e (0,0));refine .inr ⟨w.heap.size,cap,_,by rw[List.length_append],.inl rfl,hnew.at_,by rw[List.length_append];exact ET,?_,?_⟩
     ·simp only[Array.size_append,List.size_toArray,size_zeroCells,hzs,holds,uE,<-Nat.add_mul];congr 1;omega
     ·intro k hk;rw[List.length_append] at hk;have hkeep:∀(x:α) (vs:List Value),rep w.heap M x vs->rep (w.drew.alloc (.cells (olds.toArray++news.toArray++Builtin.zeroCells z.cells (cap-(ys.length+zs.length))) e (0,0))).heap
        (λb=>cI (.slice (some ⟨w.heap.size,0,none⟩) (ys.length+zs.length) cap) b\/M b) x vs:=λx vs hr=>
       bg.keep (bg.sub hr (λb hb h=>h.elim (λe=>by simp only[cI,Value.ownBlock,Option.some.injEq] at e;omega) id)) (λb hb _=>hnew.ext.block b hb (λh=>h))
      by_cases q6:k<ys.length
      ·rw[List.getElem_append_left q6];have:=wj k q6;rw[show cH olds.toArray (k*sz α) (sz α)=cH (olds.toArray++news.toArray++Builtin.zeroCells z.cells (cap-(ys.length+zs.length))) (k*sz α) (sz α) from pP (λj hj=>by
        have hb:k*sz α+j<ys.length*sz α:=by
         have:=Nat.mul_le_mul_right (sz α) (show k+1<=ys.length from q6);rw[Nat.succ_mul] at this;omega
        rw[Array.append_assoc,Array.getElem?_append_left (by simpa[holds] using hb)])] at this
       exact hkeep _ _ this
      ·rw[List.getElem_append_right (by omega)];have uF:k-ys.length<zs.length:=by omega
       have:=Aa (k-ys.length) uF;rw[show cH news.toArray ((k-ys.length)*sz α) (sz α)=cH (olds.toArray++news.toArray++Builtin.zeroCells z.cells (cap-(ys.length+zs.length))) (k*sz α) (sz α) from pP (λj hj=>by
        have hb: (k-ys.length)*sz α+j<zs.length*sz α:=by
         have:=Nat.mul_le_mul_right (sz α) (show k-ys.length+1<=zs.length from uF);rw[Nat.succ_mul] at this;omega
        have he:k*sz α=ys.length*sz α+(k-ys.length)*sz α:=by rw[<-Nat.add_mul];congr 1;omega
        rw[Array.getElem?_append_left (by simp only[Array.size_append,List.size_toArray,holds,uE];omega),Array.getElem?_append_right (by simp only[List.size_toArray,holds];omega)];congr 1;simp only[List.size_toArray,holds];omega)] at this
       exact hkeep _ _ this
    rcases hown with⟨rfl,rfl⟩|⟨g,cap,cs,rfl,hg,hc,h1,h2,h3⟩
    ·have hr:=run_append_nil (P:=P) w t eY.type e i z hu hi hz ⟨sb,so,none⟩ zs.length c news hnl hnews hm0 (by omega)
      (by rw[hby];simp only[List.length_nil,Nat.zero_add] at hlen;omega)
     have hfr:=fresh [] (grownCap w zs.length 0 e) _ (by simp) (λk hk=>by simp at hk) rfl (by simpa using grownCap_ge w zs.length 0 e);simp only[List.length_nil,Nat.zero_add,List.nil_append] at hfr;refine⟨_,_,hr,?_,?_,?_⟩
     ·simpa using hfr
     ·exact(uC w _).ext.mono (λb hb h=>h.elim)
     ·intro b hb;simp only[cI,Value.ownBlock,Option.some.injEq] at hb;exact .inr (by omega)
    ·have EU: (cH cs 0 (ys.length*sz α)).length=ys.length*sz α:=by
      have:=Nat.mul_le_mul_right (sz α) h1;simp only[cH,List.length_take,List.length_drop,Array.length_toList];omega
     have JX:∀j,j<ys.length*sz α->(cH cs 0 (ys.length*sz α))[j]?=cs[j]?:=λj hj=>by
      simp only[cH,List.getElem?_take,if_pos hj,List.getElem?_drop];simp
     have wj:∀k (hk:k<ys.length),rep w.heap M ys[k] (cH (cH cs 0 (ys.length*sz α)).toArray (k*sz α) (sz α)):=λk hk=>by
      have:=h3 k hk;rwa [show cH cs (k*sz α) (sz α)=cH (cH cs 0 (ys.length*sz α)).toArray (k*sz α) (sz α) from pP (λj hj=>by
       have hb:k*sz α+j<ys.length*sz α:=by
        have:=Nat.mul_le_mul_right (sz α) (show k+1<=ys.length from hk);rw[Nat.succ_mul] at this;omega
       rw[show∀m,(cH cs 0 (ys.length*sz α)).toArray[m]?=(cH cs 0 (ys.length*sz α))[m]? from λm=>by simp,JX _ hb])] at this
     by_cases hroom:ys.length+zs.length<=cap
     ·have hbound:ys.length*i.size+news.length<=cs.size:=by
       rw[hnl,pQ,h2,<-Nat.add_mul];exact Nat.mul_le_mul_right _ hroom
      have hr:=run_append_room (P:=P) w t eY.type e i hu hi g ys.length cap cs hc ⟨sb,so,none⟩ zs.length c news hnl hnews h1c hroom hbound;have EV:=EP (w:=w) (cs:=(cs.toList.take (ys.length*i.size)++news++cs.toList.drop (ys.length*i.size+news.length)).toArray) hc;refine⟨_,_,hr,.inr ⟨g,cap,_,by rw[List.length_append],.inr hg,EV.at_,by rw[List.length_append];exact hroom,?_,?_⟩,?_,?_⟩
      ·simp only[List.size_toArray,List.length_append,List.length_take,List.length_drop,Array.length_toList,hnl,pQ] at hbound⊢;omega
      ·intro k hk;rw[List.length_append] at hk;have hkeep:∀(x:α) (vs:List Value),rep w.heap M x vs->rep (w.setRow g (cs.toList.take (ys.length*i.size)++news++cs.toList.drop (ys.length*i.size+news.length)).toArray).heap
         (λb=>cI (.slice (some ⟨g,0,none⟩) (ys.length+zs.length) cap) b\/M b) x vs:=λx vs hr'=>
        bg.keep (bg.sub hr' (λb hb h=>h.elim (λe=>by simp only[cI,Value.ownBlock,Option.some.injEq] at e;subst e;exact hg) id))
         (λb hb hn=>EV.ext.block b hb (λh=>hn (.inr (by rw[show b=g from h];exact hg))))
       rw[pQ] at hbound;by_cases q6:k<ys.length
       ·rw[List.getElem_append_left q6];have:=h3 k q6;rw[show cH cs (k*sz α) (sz α)=cH (cs.toList.take (ys.length*i.size)++news++cs.toList.drop (ys.length*i.size+news.length)).toArray (k*sz α) (sz α) from pP (λj hj=>by
         have hb:k*sz α+j<ys.length*sz α:=by
          have:=Nat.mul_le_mul_right (sz α) (show k+1<=ys.length from q6);rw[Nat.succ_mul] at this;omega
         conv=>rhs;rw[List.getElem?_toArray,List.append_assoc,List.getElem?_append_left (by simp only[List.length_take,Array.length_toList,pQ];omega),List.getElem?_take,if_pos (by rw[pQ];exact hb)]
         simp)] at this
        exact hkeep _ _ this
       ·rw[List.getElem_append_right (by omega)];have uF:k-ys.length<zs.length:=by omega
        have:=Aa (k-ys.length) uF;rw[show cH news.toArray ((k-ys.length)*sz α) (sz α)=cH (cs.toList.take (ys.length*i.size)++news++cs.toList.drop (ys.length*i.size+news.length)).toArray (k*sz α) (sz α) from pP (λj hj=>by
         have hb: (k-ys.length)*sz α+j<zs.length*sz α:=by
          have:=Nat.mul_le_mul_right (sz α) (show k-ys.length+1<=zs.length from uF);rw[Nat.succ_mul] at this;omega
         have he:k*sz α=ys.length*sz α+(k-ys.length)*sz α:=by rw[<-Nat.add_mul];congr 1;omega
         have pT: (cs.toList.take (ys.length*i.size)).length=ys.length*sz α:=by simp only[List.length_take,Array.length_toList,pQ];omega
         rw[show∀m,news.toArray[m]?=news[m]? from λm=>by simp,show∀(l:List Value) m,l.toArray[m]?=l[m]? from λl m=>by simp,List.getElem?_append_left (by rw[List.length_append,pT];omega),List.getElem?_append_right (by rw[pT];omega),pT];congr 1;omega)] at this
        exact hkeep _ _ this
      ·exact EV.ext.mono (λb hb h=>by rw[show b=g from h];rfl)
      ·intro b hb;exact .inl hb
     ·have holds:∀j v,(cH cs 0 (ys.length*sz α))[j]?=some v->w.cell? ((⟨g,0,none⟩:Addr).add j)=some v:=λj v hv=>by
       have hj:j<ys.length*sz α:=by rw[<-EU];exact(List.getElem?_eq_some_iff.1 hv).1
       rw[oO,cell_of_row w g (0+j) cs e (0,0) hc,Nat.zero_add,<-JX j hj,hv]
      have hr:=run_append_grow (P:=P) w t eY.type e i z hu hi hz ⟨g,0,none⟩ ys.length cap (cH cs 0 (ys.length*sz α)) (by rw[pQ];exact EU) holds ⟨sb,so,none⟩ zs.length c news hnl hnews (by omega) (by omega)
       (growslice_fits (by omega) (by rw[hby];exact hlen))
      have hfr:=fresh _ (grownCap w (ys.length+zs.length) cap e) _ EU wj rfl (grownCap_ge w _ _ e);refine⟨_,_,hr,hfr,?_,?_⟩
      ·exact(uC w _).ext.mono (λb hb h=>h.elim)
      ·intro b hb;simp only[cI,Value.ownBlock,Option.some.injEq] at hb;exact .inr (by omega)
 obtain⟨v',w',hrun,hpost⟩:=key;refine⟨v',w',.inl ?_,hpost⟩;unfold execOp;rw[gu];simp[hρ _ _ hx,hρ _ _ hy,resolve,invoke,builtin,hrun]
end
def cl:Code->Code| .seq a _=>a| .cond _ a _=>a| .block _ b=>b| .loop b=>b| .scope b=>b|c=>c
def aJ:Code->Code| .seq _ b=>b| .cond _ _ b=>b|c=>c
def dy:Code->Array Oper| .region _ ops _=>ops|_=>#[]
def cz (fn:Func):Code:=match fn.body with|some c=>c|none=> .skip
section
variable {P:Program} {f:FuncId} {N:Nat} {k:List Item} {env:Env} {w w':World} {R:Value->World->Prop} {Q:Exit->Act->World->Prop}
variable {ops:Array Oper} {S:World->Prop} {i t:Nat} {L:List (Nat×Bool)} {op:Op} {v:Value} {x y z:Operand} {g:Option (Nat×Bool)}
theorem dH (hop:cZ ops i=some (some t,op,g)) (hw:fN ops env g=some true) (ht:Nat.blt t N=true)
 (hy:∀w',S w'->c5 P N env op w' v) (h:bR P N Q ops S L ((t,v)::env) w):bR P N Q ops S ((i,true)::L) env w:=ai.yield hop hw ht hy h
theorem RG (hop:cZ ops i=some (some t,op,g)) (hw:fN ops env g=some false) (ht:Nat.blt t N=true)
 (h:bR P N Q ops S L ((t,undef)::env) w):bR P N Q ops S ((i,true)::L) env w:=ai.pass hop hw ht h
theorem c9 (hop:cZ ops i=some (some t,op,g)) (hw:fN ops env g=some false) (ht:Nat.blt t N=true) (hS:S w)
 (h:bR P N Q ops S L ((t,undef)::env) w):bR P N Q ops S ((i,false)::L) env w:=ai.Rq hop hw ht hS h
theorem jH (hop:cZ ops i=some (some t,op,g)) (hw:fN ops env g=some true) (ht:Nat.blt t N=true) (hS:S w)
 (hy:c5 P N env op w v) (h:bR P N Q ops S L ((t,v)::env) w):bR P N Q ops S ((i,false)::L) env w:=ai.now hop hw ht hS hy h
theorem gi {T:Value->World->Prop} (hop:cZ ops i=some (some t,op,g)) (hw:fN ops env g=some true) (ht:Nat.blt t N=true)
 (hy:gZ P N env op w T) (h:∀v w',T v w'->S w'/\bR P N Q ops S L ((t,v)::env) w'):bR P N Q ops S ((i,false)::L) env w:=ai.act hop hw ht hy h
theorem oq {T:Value->World->Prop} (hop:cZ ops i=some (none,op,g)) (hw:fN ops env g=some true)
 (hy:gZ P N env op w T) (h:∀v w',T v w'->S w'/\bR P N Q ops S L env w'):bR P N Q ops S ((i,false)::L) env w:=ai.act hop hw rfl hy h
theorem gO {gf:FuncId} {args:Array Value} {T:Value->World->Prop} (hop:cZ ops i=some (some t,op,g)) (hw:fN ops env g=some true) (ht:Nat.blt t N=true)
 (hy:Enters P N env op w gf args) (hc:Calls P gf args w (bM T))
 (h:∀v w',T v w'->S w'/\bR P N Q ops S L ((t,v)::env) w'):bR P N Q ops S ((i,false)::L) env w:=ai.call hop hw ht hy hc h
theorem RH {gf:FuncId} {args:Array Value} {T:Value->World->Prop} (hop:cZ ops i=some (none,op,g)) (hw:fN ops env g=some true)
 (hy:Enters P N env op w gf args) (hc:Calls P gf args w (bM T))
 (h:∀v w',T v w'->S w'/\bR P N Q ops S L env w'):bR P N Q ops S ((i,false)::L) env w:=ai.call hop hw rfl hy hc h
theorem cL {gf:FuncId} {xs:Array Operand} {ts:Array TypeId} {vs:List Value}
  (l7:∀args w,(callFunc gf args).run P w=.ok (.enter gf args) w) (hargs:nI env xs.toList=some vs):
  Enters P N env (.call {callee:=.value (.func gf),args:=xs,argTypes:=ts}) w gf vs.toArray:=by
 have:=uB (P:=P) (N:=N) (env:=env) (w:=w) (ts:=ts) (x:=.func gf) (cap:=#[]) l7 rfl hargs;simpa using this
theorem kp {env':Env} (hs:Sub env' env) (h:Run P f N k env' w R):Run P f N k env w R:=h.sub hs
end
def aB (C:Nat->Nat):Nat->Prop:=λb=>C b≠0
def aM (w:World) (C:Nat->Nat):Prop:=∀b,C b≠0->b<w.heap.size
structure ay (I:List Nat) (w:World) (C:Nat->Nat) (w':World) (aP:Nat->Nat):Prop where
 ext:Ext (λb=>C b∈I) w w'
 col:∀b,b<w.heap.size->aP b=C b
structure dN (w:World) (C:Nat->Nat) (j b:Nat) (o:Obj):Prop where
 col:C b=j
 at_:w.heap[b]?=some o
structure bn {α:Type} [bg α] (w:World) (C:Nat->Nat) (j:Nat) (e:TypeId) (v:Value) (ys:List α):Prop where
 own:jG w (aB C) e v ys
 col:∀b,cI v b->C b=j
section
variable {α β:Type} [bg α] [bg β] {w w' w'':World} {I J:List Nat} {C aP Ab D:Nat->Nat} {x:α} {xs ys zs:List α} {v u:Value} {b o j n:Nat} {fA JY:Obj} {e:TypeId}
theorem ay.refl (I:List Nat) (w:World) (C:Nat->Nat):ay I w C w C:=⟨Ext.refl _ _,λ_ _=>rfl⟩
theorem ay.mJ (h:aM w C):ay [] w C w C:=ay.refl [] w C
theorem ay.trans (h:ay I w C w' aP) (h':ay J w' aP w'' Ab) (hJ:∀c∈J,c∈I):ay I w C w'' Ab:=
 ⟨h.ext.trans h'.ext (λb hb hc=>by rw[h.col b hb] at hc;exact hJ _ hc),λb hb=>(h'.col b (Nat.lt_of_lt_of_le hb h.ext.size)).trans (h.col b hb)⟩
theorem ay.mono (h:ay I w C w' aP) (hI:∀c∈I,c∈J):ay J w C w' aP:=⟨h.ext.mono (λb _ hc=>hI _ hc),h.col⟩
theorem ay.drew (I:List Nat) (w:World) (C:Nat->Nat):ay I w C {w with drawn:=w.drawn+1} C:=⟨Ext.drew _ _,λ_ _=>rfl⟩
theorem ay.size (h:ay I w C w' aP):w.heap.size<=w'.heap.size:=h.ext.size
theorem aM.st (h:aM w C) (hs:ay I w C w' C):aM w' C:=λb hb=>Nat.lt_of_lt_of_le (h b hb) hs.size
theorem aG.st (h:aG w (aB C) x v) (hs:ay I w C w' aP) (h0:0∉I):aG w' (aB aP) x v:=
 aG.ext (h.sub (M':=aB aP) (λb hb hc=>by unfold aB at*;rwa [hs.col b hb] at hc)) hs.ext (λb hb hc=>by unfold aB;rw[hs.col b hb];intro e;rw[e] at hc;exact h0 hc)
theorem bP.st (h:bP w (aB C) x b o) (hs:ay I w C w' aP) (h0:0∉I):bP w' (aB aP) x b o:=
 bP.ext (h.sub (M':=aB aP) (λb hb hc=>by unfold aB at*;rwa [hs.col b hb] at hc)) hs.ext (λb hb hc=>by unfold aB;rw[hs.col b hb];intro e;rw[e] at hc;exact h0 hc)
theorem dN.st (h:dN w C j b fA) (hs:ay I w C w' aP) (hj:j∉I):dN w' aP j b fA:=
 ⟨(hs.col b (pO h.at_)).trans h.col,hs.ext.si h.at_ (by rw[h.col];exact hj)⟩
theorem bn.st (h:bn w C j e v ys) (hs:ay I w C w' aP) (h0:0∉I) (hj:j∉I):bn w' aP j e v ys:=
 ⟨jG.ext (h.own.sub (M':=aB aP) (λb hb hc=>by unfold aB at*;rwa [hs.col b hb] at hc) (λb hb=>by have:=h.own.fA b hb;unfold aB at*;rw[hs.col b this.2];exact this.1))
   hs.ext (λb hb hc=>by unfold aB;rw[hs.col b hb];intro e;rw[e] at hc;exact h0 hc) (λb hb hc=>by rw[h.col b hb] at hc;exact hj hc),
  λb hb=>(hs.col b (h.own.fA b hb).2).trans (h.col b hb)⟩
theorem bn.nil:bn w C j e (.slice none 0 0) ([]:List α):=⟨jG.nil,λb hb=>by cases hb⟩
def uG (C:Nat->Nat) (b j:Nat):Nat->Nat:=λx=>if x=b then j else C x
def gj (C:Nat->Nat) (v:Value) (j:Nat):Nat->Nat:=λx=>if v.ownBlock=some x then j else C x
theorem New.st (h:New w w' fA) (C:Nat->Nat):ay [] w C w' C:=⟨h.ext.mono (λb _ h=>h.elim),λ_ _=>rfl⟩
theorem New.own (h:New w w' fA) (hF:aM w C) (j:Nat):∃aP,ay [] w C w' aP/\dN w' aP j w.heap.size fA/\aM w' aP:=
 ⟨uG C w.heap.size j,⟨h.ext.mono (λb _ h=>h.elim),λb hb=>by unfold uG;rw[if_neg (by omega)]⟩,⟨by simp[uG],h.at_⟩,λb hb=>by
  unfold uG at hb;rw[h.size];split at hb
  ·omega
  ·have:=hF b hb;omega⟩
theorem wh.own (h:wh w w' b JY) (ho:dN w C j b fA):ay [j] w C w' C/\dN w' C j b JY:=
 ⟨⟨h.ext.mono (λc _ hc=>by rw[show c=b from hc,ho.col];simp),λ_ _=>rfl⟩,⟨ho.col,h.at_⟩⟩
variable {P:Program} {N:Nat} {env:Env} {y z q:Operand} {t:TypeId}
theorem eU {cs:List Value} (hF:aM w C) (j:Nat) (hx:ev env y=some v) (hc:v.cells=cs.toArray):
  gZ P N env (.box t y) w (λu w'=>∃aP b,u=.pointer (some ⟨b,0,none⟩)/\ay [] w C w' aP/\dN w' aP j b (.cells cs.toArray t)/\aM w' aP):=λa ha o ho=>by
 obtain⟨u,w',h1,rfl,h2⟩:=JW (P:=P) (N:=N) (t:=t) (w:=w) hx hc a ha o ho;obtain⟨aP,h3,h4,h5⟩:=h2.own hF j;exact⟨_,w',h1,aP,_,rfl,h3,h4,h5⟩
theorem gJ {cs:List Value} (hF:aM w C) (j:Nat) (hz:tg P t=some cs):
  gZ P N env (.alloc t) w (λu w'=>∃aP b,u=.pointer (some ⟨b,0,none⟩)/\ay [] w C w' aP/\dN w' aP j b (.cells cs.toArray t)/\aM w' aP):=λa ha o ho=>by
 obtain⟨u,w',h1,rfl,h2⟩:=RC (P:=P) (N:=N) (env:=env) (t:=t) (w:=w) hz a ha o ho;obtain⟨aP,h3,h4,h5⟩:=h2.own hF j;exact⟨_,w',h1,aP,_,rfl,h3,h4,h5⟩
theorem k9 {cs:List Value} {ty:TypeId} (hx:ev env y=some (.pointer (some ⟨b,o,none⟩))) (hy:ev env z=some v) (hs:jg P t=some 1)
  (hv:v.cells=#[v]) (h1:v.oneCell'=true) (hb:dN w C j b (.cells cs.toArray ty)) (ho:o<cs.length):
  gZ P N env (.store t y z) w (λu w'=>u=undef/\ay [j] w C w' C/\dN w' C j b (.cells (cs.set o v).toArray ty)):=λa ha eY gu=>by
 obtain⟨u,w',h2,h3,h4⟩:=RE (P:=P) (N:=N) (w:=w) hx hy hs hv h1 hb.at_ ho a ha eY gu;exact⟨u,w',h2,h3,h4.own hb⟩
theorem RI {cs vs:List Value} {ty:TypeId} (hx:ev env y=some (.pointer (some ⟨b,o,none⟩))) (hy:ev env z=some v) (hs:jg P t=some n)
  (hv:v.cells=vs.toArray) (hl:vs.length=n) (h1:∀u∈vs,u.oneCell'=true) (hb:dN w C j b (.cells cs.toArray ty)) (ho:o+n<=cs.length):
  gZ P N env (.store t y z) w (λu w'=>u=undef/\ay [j] w C w' C/\dN w' C j b (.cells (cs.take o++vs++cs.drop (o+n)).toArray ty)):=λa ha eY gu=>by
 obtain⟨u,w',h2,h3,h4⟩:=Cx (P:=P) (N:=N) (w:=w) hx hy hs hv hl h1 hb.at_ ho a ha eY gu;exact⟨u,w',h2,h3,h4.own hb⟩
theorem fU {bytes:Nat} {s:Value} (hF:aM w C) (hj:j≠0) (hx:ev env y=some v) (hy:ev env z=some s) (hrow:om P t e (sz α) bytes=true) (hsz:0<sz α)
  (hown:bn w C j e v ys) (hsrc:aG w (aB C) zs s) (hlen: (ys.length+zs.length)*bytes<=140737488355328) (h63:ys.length+zs.length<=140737488355328):
  gZ P N env (.call {callee:=.builtin .append,args:=#[y,z],argTypes:=#[t,t]}) w (λv' w'=>∃aP,ay [j] w C w' aP/\bn w' aP j e v' (ys++zs)/\aM w' aP):=λa ha eY gu=>by
 obtain⟨v',w',h1,h2,h3,h4⟩:=ER (P:=P) (N:=N) hx hy hrow hsz hown.own hsrc hlen h63 a ha eY gu;have kr:∀b,b<w.heap.size->gj C v' j b=C b:=λb hb=>by
  unfold gj;split
  ·rename_i e;rcases h4 b e with h|h
   ·exact(hown.col b h).symm
   ·omega
  ·rfl
 refine⟨v',w',h1,gj C v' j,⟨h3.mono (λb _ hb=>by rw[hown.col b hb];simp),kr⟩,⟨h2.sub (λb hb hc=>?_) (λb hb=>?_),λb hb=>?_⟩,λb hb=>?_⟩
 ·by_cases ho:cI v' b
  ·exact .inl ho
  ·right;unfold aB gj at hc;rw[if_neg (show¬v'.ownBlock=some b from ho)] at hc;exact hc
 ·unfold aB gj;rw[if_pos (show v'.ownBlock=some b from hb)];exact hj
 ·unfold gj;rw[if_pos (show v'.ownBlock=some b from hb)]
 ·by_cases ho:cI v' b
  ·exact(h2.fA b ho).2
  ·unfold gj at hb;rw[if_neg (show¬v'.ownBlock=some b from ho)] at hb;exact Nat.lt_of_lt_of_le (hF b hb) h3.size
def bE (C:Nat->Nat):Nat->Nat:=λb=>if C b=0 then 0 else 1
def dS (C:Nat->Nat) (i:Nat):Nat->Nat:=λb=>if C b=0 then 0 else if C b=i then 2 else 1
theorem JZ (C:Nat->Nat) (b:Nat):bE C b≠0↔C b≠0:=by unfold bE;split<;>simp_all
theorem J1 (C:Nat->Nat) (i b:Nat):dS C i b≠0↔C b≠0:=by unfold dS;split<;>(try split)<;>simp_all
theorem fP (C:Nat->Nat):aB (bE C)=aB C:=by funext b;exact propext (JZ C b)
theorem jh (C:Nat->Nat) (i:Nat):aB (dS C i)=aB C:=by funext b;exact propext (J1 C i b)
theorem aM.bE (h:aM w C):aM w (bE C):=λb hb=>h b ((JZ C b).1 hb)
theorem aM.dS (h:aM w C) (i:Nat):aM w (dS C i):=λb hb=>h b ((J1 C i b).1 hb)
theorem dN.dS {i:Nat} (h:dN w C i b fA) (hi:i≠0):dN w (dS C i) 2 b fA:=⟨by unfold K.dS;rw[if_neg (by rw[h.col];exact hi),if_pos h.col],h.at_⟩
theorem ay.bW (h:ay I w (bE C) w' aP) (hI:∀c∈I,2<=c):ay [] w C w' C:=⟨h.ext.mono (λb _ hc=>by
 have:=hI _ hc;unfold K.bE at this;split at this<;>omega),λ_ _=>rfl⟩
theorem ay.iA {i:Nat} (h:ay I w (dS C i) w' aP) (hI:∀c∈I,2<=c):ay [i] w C w' C:=⟨h.ext.mono (λb _ hc=>by
 have:=hI _ hc;simp only[List.mem_singleton];unfold K.dS at this;split at this
 ·omega
 ·split at this
  ·assumption
  ·omega),λ_ _=>rfl⟩
theorem ay.EW (hs:ay I w D w' aP) (hF:aM w C) (hD:aB D=aB C):∀b,C b≠0->b<w.heap.size/\aP b=D b/\D b≠0:=λb hb=>by
 have h1:=hF b hb;refine⟨h1,hs.col b h1,?_⟩;have:aB D b:=by rw[hD];exact hb
 exact this
theorem aG.out (h:aG w' (aB aP) x v) (hs:ay I w D w' aP) (hF:aM w C) (hD:aB D=aB C):aG w' (aB C) x v:=
 h.sub (λb _ hb=>by obtain⟨h1,h2,h3⟩:=hs.EW hF hD b hb;unfold aB;rw[h2];exact h3)
theorem bn.out (h:bn w' aP j e v ys) (hs:ay I w D w' aP) (hF:aM w C) (hD:aB D=aB C) (hj:∀b,b<w.heap.size->D b≠j) (hl:ys.length<=9223372036854775807):aG w' (aB C) ys v:=
 h.own.read (λb _ hb=>by
  obtain⟨h1,h2,h3⟩:=hs.EW hF hD b hb;exact⟨by unfold aB;rw[h2];exact h3,λho=>hj b h1 (by rw[<-h2];exact h.col b ho)⟩) hl
theorem k_ (C:Nat->Nat) {j:Nat} (hj:2<=j) (b:Nat):bE C b≠j:=by unfold bE;split<;>omega
theorem jX (C:Nat->Nat) (i:Nat) {j:Nat} (hj:3<=j) (b:Nat):dS C i b≠j:=by unfold dS;split<;>(try split)<;>omega
theorem bP.stay (h:bP w (aB C) x b o) (hS:Ext (λb=>C b∈I) w w') (h0:0∉I):w'.heap[b]?=w.heap[b]?:=by
 obtain⟨hb,cs,ty,eP,hc,_⟩:=h;exact hS.block b (pO hc) (λhm=>hb (λe=>h0 (by rw[e] at hm;exact hm)))
theorem dN.stay (h:dN w C j b fA) (hS:Ext (λb=>C b∈I) w w') (hj:j∉I):w'.heap[b]?=some fA:=
 hS.si h.at_ (by rw[h.col];exact hj)
theorem bn.b8 (h:bn w C j e v ys) (hy:ev env y=some v) {d:TypeId} (ht:P.underlying t=some (.slice d)):
  ∀w',c5 P N env (.call {callee:=.builtin .len,args:=#[y],argTypes:=#[t]}) w' (.int .i64 ys.length):=λw'=>by
 obtain⟨a,c,rfl⟩:=h.own.len;exact vX hy ht
end
section
variable {P:Program} {f:FuncId} {N:Nat} {k:List Item} {env:Env} {w:World} {R:Value->World->Prop} {Q:Exit->Act->World->Prop}
theorem cw {c:Code} {id:Nat} {ops:Array Oper} (I:List Nat) (C:Nat->Nat) (L:List (Nat×Bool)) (hm:P.follows .mixedOrders=true) (hc:c=.region id ops true)
  (hn:Region.noSelect ops=true) (hk:JN ops ops.size (Array.replicate ops.size false) L=true)
  (h:∀w₁,ay [] w C w₁ C->ai P f N k R ops (λw'=>Ext (λb=>C b∈I) w₁ w') L env w₁):Run P f N (.code c::k) env w R:=
 Ro _ L hm hc hn hk (Ext.refl _ _) (h _ (ay.drew [] w C))
theorem Ac {c:Code} {id:Nat} {ops:Array Oper} (I:List Nat) (C:Nat->Nat) (A:List Nat) (i:Nat) (L:List (Nat×Bool)) (i':Nat) (L':List (Nat×Bool)) (hm:P.follows .mixedOrders=true) (hc:c=.region id ops true)
  (hn:Region.noSelect ops=true) (hk:JQ ops i L i' L' ops.size (Array.replicate ops.size false) A=true)
  (h:∀w₁,ay [] w C w₁ C->ai P f N k R ops (λw'=>Ext (λb=>C b∈I) w₁ w') (A.map (λj=>(j,true))++(i,false)::L) env w₁)
  (h':∀w₁,ay [] w C w₁ C->ai P f N k R ops (λw'=>Ext (λb=>C b∈I) w₁ w') (A.map (λj=>(j,true))++(i',false)::L') env w₁):Run P f N (.code c::k) env w R:=
 Rp _ A i L i' L' hm hc hn hk (Ext.refl _ _) (h _ (ay.drew [] w C)) (h' _ (ay.drew [] w C))
end
section
variable {α:Type} [bg α] {P:Program} {f:FuncId} {N:Nat} {k:List Item} {env:Env} {w:World} {R:Value->World->Prop} {Q:Exit->Act->World->Prop}
variable {ops:Array Oper} {S:World->Prop} {i t:Nat} {L:List (Nat×Bool)} {v:Value} {y z:Operand} {g:Option (Nat×Bool)} {ty e:TypeId} {M:Nat->Prop} {x:α} {xs:List α} {b o:Nat} {kd:IntKind} {n:Int}
theorem iS {w1:World} (hop:cZ ops i=some (some t,.indexAddr ty y z,g)) (hw:fN ops env g=some true) (ht:Nat.blt t N=true) (hl:aG w1 M xs v) (hy:ev env y=some v)
  (hf:jk P ty=some (e,sz α)) (hz:ev env z=some (.int kd n)) (h0:0<=n) (h1:n<xs.length)
  (h:∀b o,bP w1 M (xs[n.toNat]'(by omega)) b o->bR P N Q ops S L ((t,.pointer (some ⟨b,o,none⟩))::env) w):bR P N Q ops S ((i,true)::L) env w:=by
 obtain⟨b,o,h2,h3⟩:=hl.index (P:=P) (N:=N) hy hf hz h0 h1;exact dH hop hw ht (λw' _=>h3 w') (h b o h2)
theorem jt (hop:cZ ops i=some (some t,.load ty y,g)) (hw:fN ops env g=some true) (ht:Nat.blt t N=true) (hS:S w) (hr:bP w M x b o) (ha:jF P ty=some false) (hx:bg.agg α=false)
  (hy:ev env y=some (.pointer (some ⟨b,o,none⟩))) (h:∀v,aG w M x v->bR P N Q ops S L ((t,v)::env) w):bR P N Q ops S ((i,false)::L) env w:=by
 obtain⟨v,h2,h3⟩:=hr.load (P:=P) (N:=N) ha hx hy;exact jH hop hw ht hS (h3 w rfl) (h v h2)
theorem gK {w1:World} (hop:cZ ops i=some (some t,.load ty y,g)) (hw:fN ops env g=some true) (ht:Nat.blt t N=true) (hst:∀w',S w'->w'.heap[b]?=w1.heap[b]?) (hr:bP w1 M x b o) (ha:jF P ty=some false) (hx:bg.agg α=false)
  (hy:ev env y=some (.pointer (some ⟨b,o,none⟩))) (h:∀v,aG w1 M x v->bR P N Q ops S L ((t,v)::env) w):bR P N Q ops S ((i,true)::L) env w:=by
 obtain⟨v,h2,h3⟩:=hr.load (P:=P) (N:=N) ha hx hy;exact dH hop hw ht (λw' hS=>h3 w' (hst w' hS)) (h v h2)
theorem ku (hop:cZ ops i=some (some t,.load ty y,g)) (hw:fN ops env g=some true) (ht:Nat.blt t N=true) (hS:S w) (hr:bP w M x b o) (ha:jF P ty=some true) (hs:jg P ty=some (sz α)) (hx:bg.agg α=true)
  (hy:ev env y=some (.pointer (some ⟨b,o,none⟩))) (h:∀v,aG w M x v->bR P N Q ops S L ((t,v)::env) w):bR P N Q ops S ((i,false)::L) env w:=by
 obtain⟨v,h2,h3⟩:=hr.zZ (P:=P) (N:=N) ha hs hx hy;exact jH hop hw ht hS (h3 w rfl) (h v h2)
theorem cB {w1:World} (hop:cZ ops i=some (some t,.load ty y,g)) (hw:fN ops env g=some true) (ht:Nat.blt t N=true) (hst:∀w',S w'->w'.heap[b]?=w1.heap[b]?) (hr:bP w1 M x b o) (ha:jF P ty=some true) (hs:jg P ty=some (sz α)) (hx:bg.agg α=true)
  (hy:ev env y=some (.pointer (some ⟨b,o,none⟩))) (h:∀v,aG w1 M x v->bR P N Q ops S L ((t,v)::env) w):bR P N Q ops S ((i,true)::L) env w:=by
 obtain⟨v,h2,h3⟩:=hr.zZ (P:=P) (N:=N) ha hs hx hy;exact dH hop hw ht (λw' hS=>h3 w' (hst w' hS)) (h v h2)
end
def bO (n:Nat) (C:Nat->Nat):Nat->Nat:=λb=>if n<=C b then 0 else C b
section
variable {α:Type} [bg α] {w w' w₀:World} {I:List Nat} {C aP jY:Nat->Nat} {x:α} {ys:List α} {v:Value} {b o j n:Nat} {fA:Obj} {e:TypeId}
theorem xU (h:aB (bO n C) b):aB C b/\C b<n:=by
 unfold aB bO at*;split at h
 ·exact absurd rfl h
 ·exact⟨h,by omega⟩
theorem aM.bO (h:aM w C) (n:Nat):aM w (bO n C):=λb hb=>h b (xU hb).1
theorem aG.bO (h:aG w (aB C) x v) (n:Nat):aG w (aB (K.bO n C)) x v:=h.sub (λb _ hb=>(xU hb).1)
theorem bP.bO (h:bP w (aB C) x b o) (n:Nat):bP w (aB (K.bO n C)) x b o:=h.sub (λb _ hb=>(xU hb).1)
theorem bn.bO (h:bn w C j e v ys) (hj:n<=j) (hl:ys.length<=9223372036854775807):aG w (aB (K.bO n C)) ys v:=
 h.own.read (λb _ hb=>⟨(xU hb).1,λho=>by have:=(xU hb).2;rw[h.col b ho] at this;omega⟩) hl
theorem bn.EX (h:bn w C j e v ys) (hj:j<n):bn w (K.bO n C) j e v ys:=
 ⟨h.own.sub (λb _ hb=>(xU hb).1) (λb hb=>by unfold aB K.bO;rw[h.col b hb,if_neg (by omega)];have:=(h.own.fA b hb).1;unfold aB at this;rw[h.col b hb] at this;exact this),
  λb hb=>by unfold K.bO;rw[h.col b hb,if_neg (by omega)]⟩
theorem dN.bO (h:dN w C j b fA) (hj:j<n):dN w (K.bO n C) j b fA:=⟨by unfold K.bO;rw[h.col,if_neg (by omega)],h.at_⟩
theorem ay.bO (h:ay I w₀ jY w C) (h0:∀b,jY b<n):ay I w₀ jY w (K.bO n C):=
 ⟨h.ext,λb hb=>by unfold K.bO;rw[h.col b hb,if_neg (by have:=h0 b;omega)]⟩
theorem J2 (C:Nat->Nat) (i b:Nat):dS C i b<3:=by unfold dS;split<;>(try split)<;>omega
theorem xV (C:Nat->Nat) (b:Nat):bE C b<2:=by unfold bE;split<;>omega
theorem bn.one (h:bn w C j e v ys):v.cells=#[v]/\v.oneCell'=true:=by
 obtain⟨a,c,rfl⟩:=h.own.len;exact⟨rfl,rfl⟩
end
theorem RJ {env env':Env} {t:Nat} {v:Value} (h:look env t=none) (hs:Sub env env'):Sub env ((t,v)::env'):=λs x hx=>by
 simp only[look];cases hb:Nat.beq t s with
 |true=>rw[Nat.eq_of_beq_eq_true hb,hx] at h;cases h
 |false=>exact hs s x hx
section
variable {P:Program} {f:FuncId} {N:Nat} {k:List Item} {env:Env} {w:World} {R:Value->World->Prop} {Q:Exit->Act->World->Prop} {p:Prop} [Decidable p] {op:Op}
theorem kV (t:Nat) (b:Bool) (C:Nat->Nat) {c:Code}
  (RK: (∀w' env' v,ay [] w C w' C->look env' t=some v->v=.bool b->Sub env env'->Run P f N k env' w' R)->Run P f N (.code c::k) env w R)
  (RL:∀w',ay [] w C w' C->Run P f N k ((t,.bool b)::env) w' R):Run P f N (.code c::k) env w R:=
 RK λw' env' v hs hl hv hsub=>(RL w' hs).sub λs x hx=>by
  simp only[look] at hx;cases hb:Nat.beq t s with
  |true=>
   rw[hb] at hx;simp only[cond_true,Option.some.injEq] at hx;rw[<-Nat.eq_of_beq_eq_true hb,hl,hv,hx]
  |false=>rw[hb] at hx;exact hsub s x hx
theorem dW {v v':Value} (h:c5 P N env op w v) (e:v=v'):c5 P N env op w v':=e▸h
theorem dc (h:c5 P N env op w (.bool (decide p))) (hp:p):c5 P N env op w (.bool true):=by rwa [decide_eq_true hp] at h
theorem di (h:c5 P N env op w (.bool (decide p))) (hp:¬p):c5 P N env op w (.bool false):=by rwa [decide_eq_false hp] at h
end
abbrev af (i:Nat):Nat×Bool:=(i,true)
abbrev nn (i:Nat):Nat×Bool:=(i,false)
section
variable {ops:Array Oper} {i:Nat}
theorem au (t:Nat) (op:Op) (h:cZ ops i=some (some t,op,none):=by kernel_rfl):cZ ops i=some (some t,op,none):=h
theorem aA (t:Nat) (op:Op) (g:Nat) (b:Bool) (h:cZ ops i=some (some t,op,some (g,b)):=by kernel_rfl):cZ ops i=some (some t,op,some (g,b)):=h
theorem k0 (op:Op) (h:cZ ops i=some (none,op,none):=by kernel_rfl):cZ ops i=some (none,op,none):=h
end
def Ad (c:Code) (d:Bool):Bool:=match c with| .region _ _ d'=>d'==d|_=>false
theorem EY {c:Code} {d:Bool} (h:Ad c d=true):∃id,c=.region id (dy c) d:=by
 cases c with
 |region id ops d'=>exact⟨id,by unfold Ad at h;simp only[beq_iff_eq] at h;subst h;rfl⟩
 |_=>cases h
section
variable {P:Program} {f:FuncId} {N:Nat} {k:List Item} {env:Env} {w w':World} {R:Value->World->Prop} {Q:Exit->Act->World->Prop}
variable {ops:Array Oper} {S:World->Prop} {i t:Nat} {L:List (Nat×Bool)} {op:Op} {v:Value} {x y z:Operand} {g:Option (Nat×Bool)}
theorem ax (hop:cZ ops i=some (some t,op,g)) (hy:∀w',c5 P N env op w' v) (h:bR P N Q ops S L ((t,v)::env) w) (hw:fN ops env g=some true:=by rfl) (ht:Nat.blt t N=true:=by rfl):
 bR P N Q ops S ((i,true)::L) env w:=dH hop hw ht (λw' _=>hy w') h
theorem aq {c:Code} (L:List (Nat×Bool)) (h:ai P f N k R (dy c) (λ_=>True) L env w) (hc:Ad c false=true:=by kernel_rfl) (hL:L.map (·.1)=List.range (dy c).size:=by kernel_rfl):Run P f N (.code c::k) env w R:=by
 obtain⟨id,e⟩:=EY hc;exact Rn L e hL h
def J3 (c:Code):Bool:=match c with| .seq _ _=>true|_=>false
def Cz (c:Code) (i:Nat):Bool:=match c with| .block j _=>Nat.beq j i|_=>false
def RN (c:Code):Bool:=match c with| .skip=>true|_=>false
def J4 (c:Code) (i:Nat):Bool:=match c with| .exit j=>Nat.beq j i|_=>false
def RO (c:Code):Bool:=match c with| .loop _=>true|_=>false
def Z5 (c:Code):Operand:=match c with| .cond o _ _=>o|_=> .tmp 0
def xW (c:Code) (i:Nat):Bool:=match c with| .cond (.tmp j) _ _=>Nat.beq j i|_=>false
theorem aj {c:Code} (h:Run P f N (.code (cl c):: .code (aJ c)::k) env w R) (hc:J3 c=true:=by kernel_rfl):Run P f N (.code c::k) env w R:=
 run_seq (by cases c with|seq a b=>rfl|_=>cases hc) h
theorem bF {c:Code} (id:Nat) (h:Run P f N (.code (cl c):: .inBlock id::k) env w R) (hc:Cz c id=true:=by kernel_rfl):Run P f N (.code c::k) env w R:=
 Rh (by cases c with|block a b=>simp only[Cz] at hc;rw[Nat.eq_of_beq_eq_true hc];rfl|_=>cases hc) h
theorem bk {c:Code} (h:Run P f N k env w R) (hc:RN c=true:=by kernel_rfl):Run P f N (.code c::k) env w R:=
 Ri (by cases c with|skip=>rfl|_=>cases hc) h
theorem cA {c:Code} (id:Nat) {k':List Item} (h:Run P f N k' env w R) (hc:J4 c id=true:=by kernel_rfl) (hk:exitTo id k=some k':=by exact rfl):Run P f N (.code c::k) env w R:=
 Rj (by cases c with|exit a=>simp only[J4] at hc;rw[Nat.eq_of_beq_eq_true hc]|_=>cases hc) hk h
theorem CA {c:Code} {t:Nat} (hc:xW c t=true):c=.cond (.tmp t) (cl c) (aJ c):=by
 cases c with
 |cond o a b=>cases o with|tmp j=>simp only[xW] at hc;rw[Nat.eq_of_beq_eq_true hc];rfl|_=>cases hc
 |_=>cases hc
theorem bI {c:Code} (t:Nat) {p:Prop} [Decidable p] (hv:look env t=some (.bool (decide p))) (ht:p->Run P f N (.code (cl c)::k) env w R) (hf:¬p->Run P f N (.code (aJ c)::k) env w R) (hc:xW c t=true:=by kernel_rfl):Run P f N (.code c::k) env w R:=
 Rk (CA hc) hv ht hf
theorem iL {c:Code} (t:Nat) {b:Bool} (hv:look env t=some (.bool b)) (ht:b=true->Run P f N (.code (cl c)::k) env w R) (hf:b=false->Run P f N (.code (aJ c)::k) env w R) (hc:xW c t=true:=by kernel_rfl):Run P f N (.code c::k) env w R:=
 Cr (CA hc) hv ht hf
theorem jI {c:Code} (t:Nat) (h:Run P f N (.code (cl c)::k) env w R) (hc:xW c t=true:=by kernel_rfl) (hv:look env t=some (.bool true):=by exact rfl):Run P f N (.code c::k) env w R:=
 Cr (CA hc) hv (λ_=>h) (λh=>by cases h)
theorem gD {c:Code} (t:Nat) (h:Run P f N (.code (aJ c)::k) env w R) (hc:xW c t=true:=by kernel_rfl) (hv:look env t=some (.bool false):=by exact rfl):Run P f N (.code c::k) env w R:=
 Cr (CA hc) hv (λh=>by cases h) (λ_=>h)
theorem cM {c:Code} {ι:Type} (I:ι->World->Prop) (e:ι->Env) (m:ι->Nat) (cD:ι) (hs:Sub (e cD) env) (h0:I cD w)
 (hr:∀x w,I x w->(∀y w',I y w'->m y<m x->Run P f N (.inLoop (cl c)::k) (e y) w' R)->Run P f N (.code (cl c):: .inLoop (cl c)::k) (e x) w R) (hc:RO c=true:=by kernel_rfl):
 Run P f N (.code c::k) env w R:=Rl I e m cD (by cases c with|loop b=>rfl|_=>cases hc) hs h0 hr
theorem ah (t a:Nat) (h:bR P N Q ops S L ((t,v)::env) w) (hop:cZ ops i=some (some t,.move (.tmp a),none):=by kernel_rfl) (hy:look env a=some v:=by exact rfl) (ht:Nat.blt t N=true:=by rfl):
 bR P N Q ops S ((i,true)::L) env w:=ax hop (λ_=>zV hy) h rfl ht
theorem aD (t a:Nat) (h:bR P N Q ops S L ((t,v)::env) w) (hop:cZ ops i=some (some t,.assign (.tmp a),none):=by kernel_rfl) (hy:look env a=some v:=by exact rfl) (ht:Nat.blt t N=true:=by rfl):
 bR P N Q ops S ((i,true)::L) env w:=ax hop (λ_=>nJ hy) h rfl ht
theorem aR (t:Nat) (v:Value) (h:bR P N Q ops S L ((t,v)::env) w) (hop:cZ ops i=some (some t,.assign (.const v),none):=by kernel_rfl) (ht:Nat.blt t N=true:=by rfl):
 bR P N Q ops S ((i,true)::L) env w:=ax hop (λ_=>nJ rfl) h rfl ht
theorem eV (t a:Nat) {q:Addr} (h:bR P N Q ops S L ((t,.pointer (some q))::env) w) (hop:cZ ops i=some (some t,.nilCheck (.tmp a),none):=by kernel_rfl) (hy:look env a=some (.pointer (some q)):=by exact rfl) (ht:Nat.blt t N=true:=by rfl):
 bR P N Q ops S ((i,true)::L) env w:=ax hop (λ_=>zW hy) h rfl ht
theorem aX (t a:Nat) (j:Nat) (b:Bool) (h:bR P N Q ops S L ((t,v)::env) w) (hop:cZ ops i=some (some t,.move (.tmp a),some (j,b)):=by kernel_rfl) (hy:look env a=some v:=by exact rfl) (hw:fN ops env (some (j,b))=some true:=by rfl) (ht:Nat.blt t N=true:=by rfl):
 bR P N Q ops S ((i,true)::L) env w:=ax hop (λ_=>zV hy) h hw ht
theorem eo (t a b:Nat) (h:bR P N Q ops S L ((t,v)::env) w) (hop:cZ ops i=some (some t,.pick (.tmp a) (.const (.bool true)) (.tmp b),none):=by kernel_rfl) (ha:look env a=some (.bool false):=by exact rfl) (hy:look env b=some v:=by exact rfl) (ht:Nat.blt t N=true:=by rfl):
 bR P N Q ops S ((i,true)::L) env w:=ax hop (λ_=>kE ha hy) h rfl ht
theorem iM (t a b:Nat) (h:bR P N Q ops S L ((t,.bool true)::env) w) (hop:cZ ops i=some (some t,.pick (.tmp a) (.const (.bool true)) (.tmp b),none):=by kernel_rfl) (ha:look env a=some (.bool true):=by exact rfl) (ht:Nat.blt t N=true:=by rfl):
 bR P N Q ops S ((i,true)::L) env w:=ax hop (λ_=>kD ha rfl) h rfl ht
theorem en (t a b:Nat) (h:bR P N Q ops S L ((t,v)::env) w) (hop:cZ ops i=some (some t,.pick (.tmp a) (.tmp b) (.const (.bool false)),none):=by kernel_rfl) (ha:look env a=some (.bool true):=by exact rfl) (hy:look env b=some v:=by exact rfl) (ht:Nat.blt t N=true:=by rfl):
 bR P N Q ops S ((i,true)::L) env w:=ax hop (λ_=>kD ha hy) h rfl ht
theorem gl (t a b:Nat) (h:bR P N Q ops S L ((t,.bool false)::env) w) (hop:cZ ops i=some (some t,.pick (.tmp a) (.tmp b) (.const (.bool false)),none):=by kernel_rfl) (ha:look env a=some (.bool false):=by exact rfl) (ht:Nat.blt t N=true:=by rfl):
 bR P N Q ops S ((i,true)::L) env w:=ax hop (λ_=>kE ha rfl) h rfl ht
theorem bD (t T a q off:Nat) {b o:Nat} (h:bR P N Q ops S L ((t,.pointer (some ⟨b,o+off,none⟩))::env) w) (hop:cZ ops i=some (some t,.fieldAddr T (.tmp a) q,none):=by kernel_rfl) (hf:Cv P T q=some off:=by kernel_rfl) (hy:look env a=some (.pointer (some ⟨b,o,none⟩)):=by exact rfl) (ht:Nat.blt t N=true:=by rfl):
 bR P N Q ops S ((i,true)::L) env w:=ax hop (λ_=>JV (off:=off) hf hy) h rfl ht
theorem cW (t T a q off:Nat) (j:Nat) (bb:Bool) {b o:Nat} (h:bR P N Q ops S L ((t,.pointer (some ⟨b,o+off,none⟩))::env) w) (hop:cZ ops i=some (some t,.fieldAddr T (.tmp a) q,some (j,bb)):=by kernel_rfl) (hf:Cv P T q=some off:=by kernel_rfl) (hy:look env a=some (.pointer (some ⟨b,o,none⟩)):=by exact rfl) (hw:fN ops env (some (j,bb))=some true:=by rfl) (ht:Nat.blt t N=true:=by rfl):
 bR P N Q ops S ((i,true)::L) env w:=ax hop (λ_=>JV (off:=off) hf hy) h hw ht
def EZ (ops:Array Oper) (i:Nat):Option (Option Nat×Option (Nat×Bool)):=(cZ ops i).map (λx=>(x.1,x.2.2))
theorem RP {t:Option Nat} (h:EZ ops i=some (t,g)):∃op,cZ ops i=some (t,op,g):=by
 unfold EZ at h;cases hx:cZ ops i with
 |none=>rw[hx] at h;cases h
 |some y=>obtain⟨p,q,r⟩:=y;rw[hx] at h;simp only[Option.map_some,Option.some.injEq,Prod.mk.injEq] at h;exact⟨q,by rw[h.1,h.2]⟩
theorem aC (t j:Nat) (b:Bool) (h:bR P N Q ops S L ((t,undef)::env) w) (hop:EZ ops i=some (some t,some (j,b)):=by kernel_rfl) (hw:fN ops env (some (j,b))=some false:=by rfl) (ht:Nat.blt t N=true:=by rfl):
  bR P N Q ops S ((i,true)::L) env w:=by
 obtain⟨op,e⟩:=RP hop;exact RG e hw ht h
theorem ak (t:Nat) {v:Value} {env' env:Env} (h:Sub env' env) (hl:look env t=some v:=by exact rfl):Sub ((t,v)::env') env:=aL t hl rfl h
def CB (z:Env):Nat->Env->Bool
 |0,_=>true
 |n+1,(t,_)::e=>(match look z t with|none=>true|some _=>false)&&CB z n e
 |_+1,[]=>false
theorem J5 (z:Env):∀(n:Nat) (e:Env),e.drop n=z->CB z n e=true->Sub z e
 |0,e,he,_=>by rw[<-he];exact Sub.refl _
 |n+1,(t,v)::e,he,h=>by
  simp only[CB,Bool.and_eq_true] at h;exact RJ (by have:=h.1;split at this<;>first|assumption|cases this) (J5 z n e he h.2)
 |_+1,[],_,h=>by cases h
theorem ec (n:Nat) {env env':Env} (he:env'.drop n=env:=by exact rfl) (h:CB env n env'=true:=by kernel_rfl):Sub env env':=J5 env n env' he h
end
section
variable {α:Type} [bg α] {w w' w'':World} {I J:List Nat} {C aP Ab:Nat->Nat} {x:α} {ys:List α} {v:Value} {b o j:Nat} {fA:Obj} {e:TypeId}
theorem aG.t (h:aG w (aB C) x v) (hs:ay I w C w' aP) (h0:0∉I:=by first|decide|(simp<;>omega)):aG w' (aB aP) x v:=h.st hs h0
theorem bP.t (h:bP w (aB C) x b o) (hs:ay I w C w' aP) (h0:0∉I:=by first|decide|(simp<;>omega)):bP w' (aB aP) x b o:=h.st hs h0
theorem dN.t (h:dN w C j b fA) (hs:ay I w C w' aP) (hj:j∉I:=by first|decide|(simp<;>omega)):dN w' aP j b fA:=h.st hs hj
theorem bn.t (h:bn w C j e v ys) (hs:ay I w C w' aP) (h0:0∉I:=by first|decide|(simp<;>omega)) (hj:j∉I:=by first|decide|(simp<;>omega)):bn w' aP j e v ys:=h.st hs h0 hj
theorem ay.t (h:ay I w C w' aP) (h':ay J w' aP w'' Ab) (hJ:∀c∈J,c∈I:=by simp):ay I w C w'' Ab:=h.trans h' hJ
theorem bP.bu (h:bP w (aB C) x b o) (hS:Ext (λb=>C b∈I) w w') (h0:0∉I:=by first|decide|(simp<;>omega)):w'.heap[b]?=w.heap[b]?:=h.stay hS h0
theorem dN.bu (h:dN w C j b fA) (hS:Ext (λb=>C b∈I) w w') (hj:j∉I:=by first|decide|(simp<;>omega)):w'.heap[b]?=some fA:=h.stay hS hj
end
section
variable {P:Program} {f:FuncId} {N:Nat} {k:List Item} {env:Env} {w w':World} {R:Value->World->Prop} {Q:Exit->Act->World->Prop}
variable {ops:Array Oper} {S:World->Prop} {i t:Nat} {L:List (Nat×Bool)} {op:Op} {v:Value} {x y z:Operand} {g:Option (Nat×Bool)}
theorem bZ (t T a:Nat) (c:Int) {m:Int} (h:bR P N Q ops S L ((t,.int .i64 (m+c))::env) w) (hop:cZ ops i=some (some t,.binOp .add T (.tmp a) (.const (.int .i64 c)) T,none):=by kernel_rfl) (hy:look env a=some (.int .i64 m):=by exact rfl)
 (h1:-9223372036854775808<=m+c:=by omega) (h2:m+c<=9223372036854775807:=by omega) (ht:Nat.blt t N=true:=by rfl):bR P N Q ops S ((i,true)::L) env w:=ax hop (λ_=>iK hy rfl h1 h2) h rfl ht
theorem dm (t T a b:Nat) {kd:IntKind} {m n:Int} (h:bR P N Q ops S L ((t,.bool (decide (m<n)))::env) w) (hop:cZ ops i=some (some t,.binOp .lss T (.tmp a) (.tmp b) T,none):=by kernel_rfl) (hy:look env a=some (.int kd m):=by exact rfl) (hz:look env b=some (.int kd n):=by exact rfl)
 (ht:Nat.blt t N=true:=by rfl):bR P N Q ops S ((i,true)::L) env w:=ax hop (λ_=>eX hy hz) h rfl ht
theorem dX (t a q:Nat) {vs:Array Value} (h:bR P N Q ops S L ((t,v)::env) w) (hop:cZ ops i=some (some t,.extract (.tmp a) q,none):=by kernel_rfl) (hy:look env a=some (.tuple vs):=by exact rfl) (hz:vs[q]?=some v:=by exact rfl)
 (ht:Nat.blt t N=true:=by rfl):bR P N Q ops S ((i,true)::L) env w:=ax hop (λ_=>Rt hy hz) h rfl ht
theorem ig (t:Nat) (v:Value) (h:bR P N Q ops S L ((t,v)::env) w) (hop:cZ ops i=some (some t,.move (.const v),none):=by kernel_rfl) (ht:Nat.blt t N=true:=by rfl):
 bR P N Q ops S ((i,true)::L) env w:=ax hop (λ_=>zV rfl) h rfl ht
theorem dI (t gf:Nat) (xX tys:List Nat) {vs:List Value} {T:Value->World->Prop} (l7:∀args w,(callFunc gf args).run P w=.ok (.enter gf args) w) (hargs:nI env (xX.map .tmp)=some vs) (hc:Calls P gf vs.toArray w (bM T))
  (h:∀v w',T v w'->S w'/\bR P N Q ops S L ((t,v)::env) w') (hop:cZ ops i=some (some t,.call {callee:=.value (.func gf),args:=(xX.map .tmp).toArray,argTypes:=tys.toArray},none):=by kernel_rfl) (ht:Nat.blt t N=true:=by rfl):bR P N Q ops S ((i,false)::L) env w:=
 gO hop rfl ht (cL l7 (by simpa using hargs)) hc h
end
section
variable {P:Program} {N:Nat} {env:Env} {w:World} {Q:Exit->Act->World->Prop} {ops:Array Oper} {i t:Nat} {L:List (Nat×Bool)} {op:Op} {g:Option (Nat×Bool)} {T:Value->World->Prop}
theorem bT (hop:cZ ops i=some (some t,op,g)) (hw:fN ops env g=some true) (ht:Nat.blt t N=true) (hy:gZ P N env op w T) (h:∀v w',T v w'->bR P N Q ops (λ_=>True) L ((t,v)::env) w'):
 bR P N Q ops (λ_=>True) ((i,false)::L) env w:=gi hop hw ht hy λv w' hT=>⟨trivial,h v w' hT⟩
theorem cE (hop:cZ ops i=some (none,op,g)) (hw:fN ops env g=some true) (hy:gZ P N env op w T) (h:∀v w',T v w'->bR P N Q ops (λ_=>True) L env w'):
 bR P N Q ops (λ_=>True) ((i,false)::L) env w:=oq hop hw hy λv w' hT=>⟨trivial,h v w' hT⟩
theorem dY {gf:FuncId} {args:Array Value} (hop:cZ ops i=some (some t,op,g)) (hw:fN ops env g=some true) (ht:Nat.blt t N=true) (hy:Enters P N env op w gf args) (hc:Calls P gf args w (bM T))
 (h:∀v w',T v w'->bR P N Q ops (λ_=>True) L ((t,v)::env) w'):bR P N Q ops (λ_=>True) ((i,false)::L) env w:=gO hop hw ht hy hc λv w' hT=>⟨trivial,h v w' hT⟩
theorem Z6 {gf:FuncId} {args:Array Value} (hop:cZ ops i=some (none,op,g)) (hw:fN ops env g=some true) (hy:Enters P N env op w gf args) (hc:Calls P gf args w (bM T))
 (h:∀v w',T v w'->bR P N Q ops (λ_=>True) L env w'):bR P N Q ops (λ_=>True) ((i,false)::L) env w:=RH hop hw hy hc λv w' hT=>⟨trivial,h v w' hT⟩
theorem bU (t gf:Nat) (xX tys:List Nat) {vs:List Value} (l7:∀args w,(callFunc gf args).run P w=.ok (.enter gf args) w) (hargs:nI env (xX.map .tmp)=some vs) (hc:Calls P gf vs.toArray w (bM T))
 (h:∀v w',T v w'->bR P N Q ops (λ_=>True) L ((t,v)::env) w') (hop:cZ ops i=some (some t,.call {callee:=.value (.func gf),args:=(xX.map .tmp).toArray,argTypes:=tys.toArray},none):=by kernel_rfl) (ht:Nat.blt t N=true:=by rfl):
 bR P N Q ops (λ_=>True) ((i,false)::L) env w:=dI t gf xX tys l7 hargs hc (λv w' hT=>⟨trivial,h v w' hT⟩) hop ht
end
theorem ct {P:Program} {f:FuncId} {fn:Func} (c:Code) (N:Nat) (args:List Value) {w:World} {R:Value->World->Prop} (hf:P.funcs[f]?=some fn) (h:Run P f N [.code c] (xS 0 args) w R)
 (hb:fn.body=some c:=by kernel_rfl) (hN:fn.ntmps=N:=by kernel_rfl) (hsz:Nat.ble args.length N=true:=by kernel_rfl):Calls P f args.toArray w (bM R):=Rs args hf hb hN hsz h
theorem bN {P:Program} {f:FuncId} {N:Nat} {k:List Item} {env:Env} {w:World} {R:Value->World->Prop} {c:Code} {fn:Func} {t:Nat} {v:Value} (hf:P.funcs[f]?=some fn) (hres:fn.results=#[.tmp t]) (hR:R v w) (hv:look env t=some v:=by exact rfl) (hc:c=.ret:=by kernel_rfl):Run P f N (.code c::k) env w R:=Rm hc hf hres hv hR
def uH (place:Nat->Option (Nat×Nat)):List Value->List (Nat×List Value)->Option (List Value)
 |cells,[]=>some cells
 |cells,(i,vs)::rest=>match place i with
  |none=>none
  |some (off,size)=>if vs.length=size/\off+vs.length<=cells.length then uH place (cells.take off++vs++cells.drop (off+vs.length)) rest else none
theorem J6:∀(vs:List Value) (k off:Nat) (cs:List Value),off+k+vs.length<=cs.length->
  ((vs.zipIdx k).foldl (λ(acc:Array Value) (p:Value×Nat)=>acc.setIfInBounds (off+p.2) p.1) cs.toArray)=(cs.take (off+k)++vs++cs.drop (off+k+vs.length)).toArray
 |[],k,off,cs,h=>by simp
 |v::vs,k,off,cs,h=>by
  rw[List.length_cons] at h;rw[List.zipIdx_cons,List.foldl_cons];have e1:cs.toArray.setIfInBounds (off+k) v=(cs.set (off+k) v).toArray:=by simp
  rw[e1,J6 vs (k+1) off (cs.set (off+k) v) (by simp;omega)];congr 1;have hlt:off+k<cs.length:=by omega
  rw[List.set_eq_take_append_cons_drop,if_pos hlt];have e2:off+(k+1)=(cs.take (off+k)).length+1:=by simp;omega
  have fV:off+(k+1)+vs.length=(cs.take (off+k)).length+(1+vs.length):=by simp;omega
  rw[show List.take (off+(k+1)) (cs.take (off+k)++v::cs.drop (off+k+1))=cs.take (off+k)++[v] from by
   rw[e2,List.take_append];simp[Nat.min_eq_left (Nat.le_of_lt hlt),List.take_take,Nat.min_eq_right (Nat.le_succ (off+k))]]
  rw[show List.drop (off+(k+1)+vs.length) (cs.take (off+k)++v::cs.drop (off+k+1))=cs.drop (off+k+(vs.length+1)) from by
   rw[fV,List.drop_append];simp only[Nat.add_sub_cancel_left];rw[List.drop_eq_nil_of_le (by omega),List.nil_append,Nat.add_comm 1,List.drop_succ_cons,List.drop_drop];congr 1;omega]
  simp
theorem fill_eq (place:Nat->Option (Nat×Nat)):∀(ps:List (Nat×Value)) (eS:List (Nat×List Value)) (cs cs':List Value),
  ps.map (λp=>(p.1,p.2.cells))=eS.map (λq=>(q.1,q.2.toArray))->uH place cs eS=some cs'->Instr.fill place cs.toArray ps=some cs'.toArray
 |[],[],cs,cs',_,h=>by simp only[uH,Option.some.injEq] at h;subst h;rfl
 |[],q::eS,_,_,h,_=>by simp at h
 |p::ps,[],_,_,h,_=>by simp at h
 |(i,v)::ps,(j,vs)::eS,cs,cs',h,hf=>by
  simp only[List.map_cons,List.cons.injEq,Prod.mk.injEq] at h;obtain⟨⟨rfl,hv⟩,hr⟩:=h;simp only[uH] at hf;unfold Instr.fill;cases hp:place i with
  |none=>rw[hp] at hf;cases hf
  |some os=>
   obtain⟨off,size⟩:=os;rw[hp] at hf;simp only at hf⊢;split at hf
   ·rename_i hc;rw[hv];have hn:¬(vs.toArray.size≠size\/off+vs.toArray.size>cs.toArray.size):=by simp;omega
    simp only[List.size_toArray] at hn⊢;rw[if_neg (by simpa using hn)];have e: (vs.toArray.zipIdx.foldl (λ(acc:Array Value) (p:Value×Nat)=>acc.setIfInBounds (off+p.2) p.1) cs.toArray)=(cs.take off++vs++cs.drop (off+vs.length)).toArray:=by
     have:=J6 vs 0 off cs (by simpa using hc.2);simpa using this
    rw[show(vs.toArray.zipIdx.foldl (λcs (x:Value×Nat)=>match x with|(c,j)=>cs.setIfInBounds (off+j) c) cs.toArray)=_ from e];exact fill_eq place ps eS _ cs' hr hf
   ·cases hf
def tj (env:Env):List (Nat×Operand)->List (Nat×List Value)->Prop
 |[],[]=>True
 |(i,x)::ps,(j,vs)::eS=>i=j/\(∃v,ev env x=some v/\v.cells=vs.toArray)/\tj env ps eS
 |_,_=>False
def J7 (P:Program) (t:TypeId):Option (List (Nat×Nat)):=match P.underlying t with
 |some (.struct fs)=>fs.toList.mapM λf=>(jg P f.type).map λn=>(f.offset,n)
 |_=>none
section
variable {P:Program} {N:Nat} {env:Env} {w:World} {t:TypeId} {ρ:Operand->Value}
theorem tj.map (hρ:∀x v,ev env x=some v->ρ x=v):∀{ps:List (Nat×Operand)} {eS:List (Nat×List Value)},tj env ps eS->
  (ps.map λp=>(p.1,ρ p.2)).map (λp=>(p.1,p.2.cells))=eS.map (λq=>(q.1,q.2.toArray))
 |[],[],_=>rfl
 |[],_::_,h=>h.elim
 |_::_,[],h=>h.elim
 |(i,x)::ps,(j,vs)::eS,h=>by
  obtain⟨rfl,⟨v,hv,hc⟩,hr⟩:=h;simp only[List.map_cons,hρ x v hv,hc];rw[tj.map hρ hr]
theorem run_map {α β:Type} (g:α->β) (s:Sem α) (w:World): (g<$>s).run P w=(s.run P w).andThen λa w'=> .ok (g a) w':=by
 show(Sem.run P (Sem.bind s (λa=>Sem.pure (g a))) w)=_;exact Sem.run_bind _ _ _ _
theorem run_places {ps:List (Nat×Nat)} {fs:Array Field} (h:fs.toList.mapM (λf=>(jg P f.type).map λn=>(f.offset,n))=some ps) (w:World):
  (fs.mapM λf=>do pure (f.offset,<-sizeOf f.type):Sem (Array (Nat×Nat))).run P w=.ok ps.toArray w:=by
 rw[Array.mapM_eq_mapM_toList];have main:∀(l:List Field) (ps:List (Nat×Nat)),l.mapM (λf=>(jg P f.type).map λn=>(f.offset,n))=some ps->
   (l.mapM λf=>do pure (f.offset,<-sizeOf f.type):Sem (List (Nat×Nat))).run P w=.ok ps w:=by
  intro l
  induction l with
  |nil=>intro ps h;simp at h;subst h;rfl
  |cons f l ih=>
   intro ps h;rw[List.mapM_cons] at h;simp only[Option.bind_eq_bind,Option.bind_eq_some_iff,Option.map_eq_some_iff,Option.pure_def,Option.some.injEq] at h;obtain⟨p,⟨n,hn,rfl⟩,eS,hq,rfl⟩:=h;rw[List.mapM_cons];rw[Sem.run_bind,Sem.run_bind,oh hn,Result.andThen_ok,Sem.run_pure,Result.andThen_ok,Sem.run_bind,ih eS hq,Result.andThen_ok,Sem.run_pure]
 rw[run_map,main _ _ h];rfl
theorem ji {parts:Array (Nat×Operand)} {zs cs:List Value} {ps:List (Nat×Nat)} {eS:List (Nat×List Value)} (hz:tg P t=some zs) (hp:J7 P t=some ps)
  (hq:tj env parts.toList eS) (hf:uH (ps[·]?) zs eS=some cs):c5 P N env (.build t parts) w (.agg cs.toArray):=mk' λρ hρ o ho=>by
 obtain⟨z,h1,h2⟩:=Cw hz w;unfold J7 at hp;split at hp
 ·rename_i fs hu;have ou:=run_places hp w;have hmap:=tj.map hρ hq;have ng:=fill_eq (ps[·]?) (parts.toList.map λp=>(p.1,ρ p.2)) eS zs cs (by rw[<-hmap]) hf;have RQ:Instr.fill (λx=>ps.toArray[x]?) z.cells (parts.map λx=>(x.1,ρ x.2)).toList=some cs.toArray:=by
   rw[h2];have: (parts.map λx=>(x.1,ρ x.2)).toList=parts.toList.map λp=>(p.1,ρ p.2):=by simp
   rw[this,<-ng];congr 1;funext x;simp
  unfold execOp;rw[ho];simp only[Instr.build,Sem.run_bind,h1,Result.andThen_ok,run_underlying hu,ou];rw[show(parts.map λx=>match x with|(i,x)=>(i,ρ x)).toList=(parts.map λx=>(x.1,ρ x.2)).toList from rfl,RQ];rfl
 ·cases hp
end
section
variable {α:Type} [bg α] {P:Program} {N:Nat} {env:Env} {w:World} {M:Nat->Prop} {C:Nat->Nat} {t e:TypeId}
def CD (env:Env) (w:World) (M:Nat->Prop):Nat->List (Nat×Operand)->List α->Prop
 |_,[],[]=>True
 |k,(i,x)::ps,y::ys=>i=k/\(∃v,ev env x=some v/\aG w M y v)/\CD env w M (k+1) ps ys
 |_,_,_=>False
theorem aG.cells {x:α} {v:Value} (h:aG w M x v):∃vs,v.cells=vs.toArray/\bg.rep w.heap M x vs:=by
 cases hx:bg.agg α with
 |true=>obtain⟨vs,rfl,_,_,hr⟩:=h.many hx;exact⟨vs,rfl,hr⟩
 |false=>
  have h1:=(h.one hx).1;obtain⟨vs,hr,hv⟩:=h;have hl:=bg.len hr;rw[bg.flat hx] at hl;obtain⟨u,rfl⟩:=List.length_eq_one_iff.1 hl;simp only[hx,Bool.false_eq_true,if_false,List.headD_cons] at hv;subst hv;exact⟨[v],h1,hr⟩
theorem E0:∀{ps:List (Nat×Operand)} {ys:List α} {k:Nat} (pre post:List Value),CD env w M k ps ys->pre.length=k*sz α->post.length=ys.length*sz α->
  ∃eS news,tj env ps eS/\uH (λi=>some (i*sz α,sz α)) (pre++post) eS=some (pre++news)/\news.length=ys.length*sz α/\
   ∀i (hi:i<ys.length),bg.rep w.heap M ys[i] ((news.drop (i*sz α)).take (sz α))
 |[],[],k,pre,post,_,_,hpost=>by
  have:post=[]:=List.eq_nil_of_length_eq_zero (by simpa using hpost);subst this;exact⟨[],[],trivial,by simp[uH],by simp,λi hi=>by simp at hi⟩
 |[],_::_,_,_,_,h,_,_=>h.elim
 |_::_,[],_,_,_,h,_,_=>h.elim
 |(i,x)::ps,y::ys,k,pre,post,h,hpre,hpost=>by
  obtain⟨rfl,⟨v,hv,hr⟩,RR⟩:=h;obtain⟨vs,hc,q7⟩:=hr.cells;have hl:=bg.len q7;rw[List.length_cons,Nat.succ_mul] at hpost;obtain⟨eS,news,h1,h2,h3,h4⟩:=E0 (k:=i+1) (pre++vs) (post.drop (sz α)) RR (by rw[List.length_append,hpre,hl,Nat.succ_mul]) (by rw[List.length_drop,hpost];omega);refine⟨(i,vs)::eS,vs++news,⟨rfl,⟨v,hv,hc⟩,h1⟩,?_,?_,?_⟩
  ·simp only[uH];rw[if_pos ⟨hl,by rw[List.length_append,hpre,hl,hpost];omega⟩];rw[show List.take (i*sz α) (pre++post)=pre from by rw[<-hpre];exact List.take_left,show List.drop (i*sz α+vs.length) (pre++post)=post.drop (sz α) from by rw[<-hpre,hl,List.drop_append];simp];rw[h2,List.append_assoc]
  ·rw[List.length_append,hl,h3,List.length_cons,Nat.succ_mul];omega
  ·intro j hj;cases j with
   |zero=>simpa[<-hl] using q7
   |succ j=>
    have:=h4 j (by simpa using hj);rw[show(j+1)*sz α=vs.length+j*sz α from by rw[hl,Nat.succ_mul];omega,List.drop_append,List.drop_eq_nil_of_le (Nat.le_add_right vs.length (j*sz α))];simpa using this
theorem fI {n bytes:Nat} {parts:Array (Nat×Operand)} {ys:List α} (hF:aM w C) (hrow:om P t e (sz α) bytes=true) (hn:n=ys.length) (qu:n*sz α<=16777216) (hsz:0<sz α)
  (hp:CD env w (aB C) 0 parts.toList ys):
  gZ P N env (.buildSlice t n parts) w (λv w'=>ay [] w C w' C/\aG w' (aB C) ys v/\aM w' C):=oP λρ hρ eY gu=>by
 subst hn;obtain⟨i,z,hu,hi,hsi,hby,hz,hzs⟩:=uD hrow
 let zs:List Value:=((Array.range (ys.length*sz α)).map λj=>(if ys.length*sz α=0 then(#[]:Array Value) else z.cells)[j%(if ys.length*sz α=0 then(#[]:Array Value) else z.cells).size]!).toList
 obtain⟨eS,news,h1,h2,h3,h4⟩:=E0 (k:=0) [] zs hp (by simp) (by simp[zs]);simp only[List.nil_append] at h2;have hmap:=tj.map hρ h1;have ng:=fill_eq _ (parts.toList.map λp=>(p.1,ρ p.2)) eS zs news (by rw[<-hmap]) h2;have hnew:=tf w (.cells news.toArray e);have hrun: (Instr.buildSlice t ys.length (parts.map λx=>(x.1,ρ x.2))).run P w=.ok (.slice (some ⟨w.heap.size,0,none⟩) ys.length ys.length) (w.alloc (.cells news.toArray e)):=by
  have hle:¬(ys.length*sz α>2^24):=by omega
  have ou: (parts.map λx=>(x.1,ρ x.2)).toList=parts.toList.map λp=>(p.1,ρ p.2):=by simp
  have Ae: (sizeOf e).run P w=.ok (sz α) w:=by simp[sizeOf,typeInfo,hi,hsi]
  unfold Instr.buildSlice;simp only[Sem.run_bind,run_underlying hu,Result.andThen_ok,Ae,if_neg hle,Sem.run_pure,ou];by_cases h0:ys.length*sz α=0
  ·have q5:zs=((Array.range (ys.length*sz α)).map λj=>(#[]:Array Value)[j%(#[]:Array Value).size]!).toList:=by simp only[zs,h0,if_true]
   rw[q5] at ng;simp only[h0,if_true,Sem.run_bind,Sem.run_pure,Result.andThen_ok] at ng⊢;simp only[Array.toArray_toList] at ng;rw[ng];simp[newRow]
  ·have q5:zs=((Array.range (ys.length*sz α)).map λj=>z.cells[j%z.cells.size]!).toList:=by simp only[zs,h0,if_false]
   rw[q5] at ng;have E1: (zeroValue e).run P w=.ok z w:=by simp[zeroValue,typeInfo,hi,hz]
   simp only[h0,if_false,Sem.run_bind,E1,Sem.run_pure,Result.andThen_ok];simp only[Array.toArray_toList] at ng;rw[ng];simp[newRow]
 refine⟨.slice (some ⟨w.heap.size,0,none⟩) ys.length ys.length,w.alloc (.cells news.toArray e),.inl ?_,hnew.st C,?_,hF.st (hnew.st C)⟩
 ·unfold execOp;rw[gu];simp only[Sem.run_bind];rw[show(parts.map λx=>match x with|(i,x)=>(i,ρ x))=(parts.map λx=>(x.1,ρ x.2)) from rfl,hrun];rfl
 ·refine kF.2 ⟨_,_,rfl,Nat.le_refl _,?_,.inr ⟨w.heap.size,0,rfl,λhm=>?_,news.toArray,e,(0,0),hnew.at_,?_,λi hi=>?_⟩⟩
  ·have:ys.length<=ys.length*sz α:=Nat.le_mul_of_pos_right _ hsz;omega
  ·have:=hF _ hm;omega
  ·simp only[Nat.zero_add,List.size_toArray,h3];exact Nat.le_refl _
  ·have:=h4 i hi;rw[Nat.zero_add];exact bg.keep this (λb hb hm=>hnew.ext.block b hb (λh=>h))
end
section
variable {P:Program} {N:Nat} {env:Env} {w:World} {C:Nat->Nat} {y z:Operand} {t ty:TypeId} {v:Value} {b j n:Nat}
theorem gB {cs vs:List Value} (hx:ev env y=some (.pointer (some ⟨b,0,none⟩))) (hy:ev env z=some v) (hs:jg P t=some n)
  (hv:v.cells=vs.toArray) (hl:vs.length=n) (h1:∀u∈vs,u.oneCell'=true) (hb:dN w C j b (.cells cs.toArray ty)) (ho:cs.length=n):
  gZ P N env (.store t y z) w (λu w'=>u=undef/\ay [j] w C w' C/\dN w' C j b (.cells vs.toArray ty)):=λa ha eY gu=>by
 obtain⟨u,w',h2,h3,h4,h5⟩:=RI (P:=P) (N:=N) (w:=w) (o:=0) hx hy hs hv hl h1 hb (by omega) a ha eY gu;have e:List.take 0 cs++vs++List.drop (0+n) cs=vs:=by
  rw[List.drop_eq_nil_of_le (by omega)];simp
 rw[e] at h5;exact⟨u,w',h2,h3,h4,h5⟩
end
structure Raw (n:Nat) where
 vals:List Value
 len:vals.length=n
 one:∀v∈vals,v.oneCell'=true
instance {n:Nat}:bg (Raw n) where
 sz:=n
 agg:=true
 flat h:=by cases h
 rep _ _ x vs:=vs=x.vals
 len h:=by subst h;rename_i x;exact x.len
 one h:=by subst h;rename_i x;exact x.one
 keep h _:=h
 sub h _:=h
structure Block where
 hash:Int
 ids:List Int
instance:bg Block:=bg.via (λb:Block=>((⟨b.hash⟩:Ry),b.ids))
structure av where
 a:Int
 b:Int
 deriving DecidableEq
instance:bg av:=bg.via (λc:av=>(c.a,c.b))
section
variable {w:World} {M:Nat->Prop} {b o:Nat} {v:Value}
theorem bY {x:av}:aG w M x v↔v=.agg #[.int .i64 x.a,.int .i64 x.b]:=
 ⟨λh=>by
   obtain⟨vs,⟨us,ws,rfl,h1,h2⟩,hv⟩:=h;have uI:us=[.int .i64 x.a]:=h1;have wk:ws=[.int .i64 x.b]:=h2;subst uI;subst wk;exact hv,
  λh=>⟨[.int .i64 x.a,.int .i64 x.b],⟨_,_,rfl,rfl,rfl⟩,h⟩⟩
end
structure gL where
 list:List Int
 at_:Nat
 state:Int
def gL.x (d:gL):Int:=if h:d.at_<d.list.length then IntKind.u64.wrap d.list[d.at_] else 0
def mix (s x:Int):Int:=IntKind.u64.wrap (IntKind.u64.wrap (IntKind.u64.wrap (s+x)*6364136223846793005)+1442695040888963407)
def E2 (s:Int):Int:=bitsOf .xor .u64 s (s.fdiv (2^min (33:Int).toNat IntKind.u64.bits))
def E3 (y:Int):Int:=bitsOf .xor .u64 y (y.fdiv (2^min (29:Int).toNat IntKind.u64.bits))
def gL.next (d:gL):gL:={list:=d.list,at_:=if d.at_<d.list.length then d.at_+1 else d.at_,state:=mix d.state d.x}
def gL.word (d:gL):Int:=E3 (IntKind.u64.wrap (E2 d.next.state*18397679294719823053))
theorem RS (n:Int):0<=IntKind.u64.wrap n/\IntKind.u64.wrap n<18446744073709551616:=by
 have h:IntKind.u64.wrap n=n%18446744073709551616:=by simp[IntKind.wrap,IntKind.signed,IntKind.bits]
 rw[h];exact⟨Int.emod_nonneg _ (by decide),Int.emod_lt_of_pos _ (by decide)⟩
theorem gL.RT (d:gL):0<=d.word/\d.word<18446744073709551616:=RS _
def gL.num (d:gL) (n:Int):Int:=if n<1 then 0 else(d.word/2)%n
def gL.after (d:gL) (n:Int):gL:=if n<1 then d else d.next
theorem gL.RU (d:gL) {n:Int} (h:1<=n):0<=d.num n/\d.num n<n:=by
 unfold gL.num;rw[if_neg (by omega)];exact⟨Int.emod_nonneg _ (by omega),Int.emod_lt_of_pos _ (by omega)⟩
theorem gL.RW (d:gL) (n:Int): (d.after n).list=d.list:=by unfold gL.after;split<;>rfl
def lM (t:TypeId) (w:World) (C:Nat->Nat) (i b:Nat) (d:gL):Prop:=
 d.at_<=d.list.length/\∃v,aG w (aB C) d.list v/\dN w C i b (.cells [v,.int .i64 d.at_,.int .u64 d.state].toArray t)
section
variable {t:TypeId} {w w':World} {C aP:Nat->Nat} {i b:Nat} {d:gL} {I:List Nat}
theorem lM.st (h:lM t w C i b d) (hs:ay I w C w' aP) (h0:0∉I) (hi:i∉I):lM t w' aP i b d:=by
 obtain⟨h1,v,h2,h3⟩:=h;exact⟨h1,v,h2.st hs h0,h3.st hs hi⟩
theorem lM.dS (h:lM t w C i b d) (hi:i≠0):lM t w (dS C i) 2 b d:=by
 obtain⟨h1,v,h2,h3⟩:=h;exact⟨h1,v,by rw[jh];exact h2,h3.dS hi⟩
theorem lM.bO (h:lM t w C i b d) {n:Nat} (hi:i<n):lM t w (K.bO n C) i b d:=by
 obtain⟨h1,v,h2,h3⟩:=h;exact⟨h1,v,h2.bO n,h3.bO hi⟩
theorem lM.out {w₀:World} {jY:Nat->Nat} (h:lM t w' aP 2 b d) (hs:ay I w₀ (K.dS jY i) w' aP) (hF:aM w₀ jY) (hb:jY b=i):lM t w' jY i b d:=by
 obtain⟨h1,v,h2,h3⟩:=h;exact⟨h1,v,h2.out hs hF (jh jY i),⟨hb,h3.at_⟩⟩
end
section
variable {α:Type} [bg α] {w w':World} {C aP:Nat->Nat} {P:Program} {N:Nat} {env:Env} {x y z q:Operand} {t ty e:TypeId} {v u:Value} {xs:List α} {j b g n:Nat}
theorem J8 {zs:List Value} {s:Nat} (hz:zs.length=s) {c i:Nat} (h:i<c):cH (madeCells zs.toArray (c*s)) (i*s) s=zs:=by
 apply List.ext_getElem?;intro k;have hb: (i+1)*s<=c*s:=Nat.mul_le_mul_right s h;rw[Nat.succ_mul] at hb;simp only[cH,List.getElem?_take,List.getElem?_drop];split
 ·rename_i hk;have h1:i*s+k<c*s:=by omega
  have h2: (i*s+k)%s=k:=by rw[Nat.mul_comm,Nat.mul_add_mod];exact Nat.mod_eq_of_lt hk
  simp[madeCells,h1,hz,h2,List.getElem?_eq_getElem (show k<zs.length by omega)]
 ·rename_i hk;rw[List.getElem?_eq_none (by omega)]
theorem CF {bytes l c:Nat} {kl kc:IntKind} {x0:α} {zs:List Value} (hF:aM w C) (hj:j≠0) (hrow:om P t e (sz α) bytes=true) (CG:tg P e=some zs)
  (hy:ev env y=some (.int kl l)) (hz:ev env z=some (.int kc c)) (hlc:l<=c) (hlen:bytes*c<=140737488355328) (h63:c<=140737488355328) (h0:∀h M,rep h M x0 zs):
  gZ P N env (.makeSlice t y z) w (λv w'=>∃aP,ay [] w C w' aP/\bn w' aP j e v (List.replicate l x0)/\aM w' aP):=oP λρ hρ eY gu=>by
 obtain⟨i,kG,hu,hi,hsi,hby,CH,hzs⟩:=uD hrow;have tq:kG.cells=zs.toArray:=by
  unfold tg at CG;rw[hi] at CG;simp[CH] at CG;rw[<-CG]
 have hzl:zs.length=sz α:=by rw[<-hzs,tq];simp
 have hbc: (i.bytes:Int)*c<=281474976710656:=by
  have: ((bytes*c:Nat):Int)<=140737488355328:=by omega
  rw[Int.natCast_mul] at this;rw[hby];omega
 have hr:=run_make (P:=P) w t e i kG hu hi CH kl kc l c (by omega) (by omega) hbc (by omega);simp only[Int.toNat_natCast,hsi,tq] at hr;have hn:=tf w (.cells (madeCells zs.toArray (c*sz α)) e (0,0));obtain⟨aP,h1,h2,h3⟩:=hn.own hF j;refine⟨_,_,.inl ?_,aP,h1,⟨.inr ⟨w.heap.size,c,madeCells zs.toArray (c*sz α),by rw[List.length_replicate],?_,h2.at_,by rw[List.length_replicate];exact hlc,by simp[madeCells],λk hk=>?_⟩,λb hb=>?_⟩,h3⟩
 ·unfold execOp;rw[gu];simp only[hρ _ _ hy,hρ _ _ hz,Sem.run_bind];rw[hr];rfl
 ·unfold aB;rw[h2.col];exact hj
 ·rw[List.length_replicate] at hk;rw[J8 hzl (show k<c by omega),List.getElem_replicate];exact h0 _ _
 ·simp only[cI,Value.ownBlock,Option.some.injEq] at hb;subst hb;exact h2.col
theorem bn.sn (h:bn w C j e v xs) (hne:0<xs.length):∃g cap cs,v=.slice (some ⟨g,0,none⟩) xs.length cap/\C g=j/\aB C g/\w.heap[g]?=some (.cells cs e (0,0))/\xs.length<=cap/\cs.size=cap*sz α/\
  ∀i (hi:i<xs.length),rep w.heap (aB C) xs[i] (cH cs (i*sz α) (sz α)):=by
 rcases h.own with⟨_,rfl⟩|⟨g,cap,cs,hv,hg,hc,h1,h2,h3⟩
 ·simp at hne
 ·exact⟨g,cap,cs,hv,h.col g (by subst hv;rfl),hg,hc,h1,h2,h3⟩
theorem bn.index (h:bn w C j e v xs) (hy:ev env y=some v) {e':Nat} {kd:IntKind} {i:Int} (hf:jk P t=some (e',sz α)) (hz:ev env z=some (.int kd i)) (h0:0<=i) (h1:i<xs.length):
  ∃g,cI v g/\∀w',c5 P N env (.indexAddr t y z) w' (.pointer (some ⟨g,i.toNat*sz α,none⟩)):=by
 obtain⟨g,cap,cs,rfl,_,_,hc,_⟩:=h.sn (by omega);refine⟨g,rfl,λw'=>?_⟩;have:=EO (P:=P) (N:=N) (w:=w') hf hy hz h0 h1;rwa [Nat.zero_add] at this
theorem bn.load (h:bn w C j e v xs) (hg:cI v g) {i:Nat} (hi:i<xs.length) (ha:jF P t=some false) (hx:bg.agg α=false) (hy:ev env y=some (.pointer (some ⟨g,i*sz α,none⟩))):
  ∃u,aG w (aB C) xs[i] u/\∀w',w'.heap[g]?=w.heap[g]?->c5 P N env (.load t y) w' u:=by
 obtain⟨g',cap,cs,rfl,_,_,hc,h1,h2,h3⟩:=h.sn (by omega);simp only[cI,Value.ownBlock,Option.some.injEq] at hg;subst hg;have hr:=h3 i hi;have hl:=bg.len hr;rw[bg.flat hx] at hr hl;obtain⟨u,hu⟩:=List.length_eq_one_iff.1 hl;rw[hu] at hr;refine⟨u,zY hr hx,λw' hw=>?_⟩;have RX:cs[i*1]?=some u:=by
  have:=congrArg (λl=>l[0]?) hu;simpa[cH] using this
 refine vZ (cs:=cs.toList) (by rw[hw];simpa using hc) ha ?_ hy;rw[bg.flat hx];simpa using RX
theorem bn.zZ (h:bn w C j e v xs) (hg:cI v g) {i:Nat} (hi:i<xs.length) (ha:jF P t=some true) (hs:jg P t=some (sz α)) (hx:bg.agg α=true) (hy:ev env y=some (.pointer (some ⟨g,i*sz α,none⟩))):
  ∃u,aG w (aB C) xs[i] u/\∀w',w'.heap[g]?=w.heap[g]?->c5 P N env (.load t y) w' u:=by
 obtain⟨g',cap,cs,rfl,_,_,hc,h1,h2,h3⟩:=h.sn (by omega);simp only[cI,Value.ownBlock,Option.some.injEq] at hg;subst hg;have hr:=h3 i hi;refine⟨.agg (cH cs (i*sz α) (sz α)).toArray,⟨_,hr,by simp[hx]⟩,λw' hw=>?_⟩;exact eL (cs:=cs.toList) (by rw[hw];simpa using hc) ha hs rfl (bg.len hr) hy
theorem fQ {x0:α} {i:Nat} (h:bn w C j e v xs) (hg:cI v g) (hi:i<xs.length) (hy:ev env y=some (.pointer (some ⟨g,i*sz α,none⟩))) (hz:ev env z=some u) (hs:jg P t=some (sz α)) (hr:aG w (aB C) x0 u):
  gZ P N env (.store t y z) w (λu' w'=>u'=undef/\ay [j] w C w' C/\bn w' C j e v (xs.set i x0)):=λa ha eY gu=>by
 obtain⟨g',cap,cs,rfl,kr,gI,hc,h1,h2,h3⟩:=h.sn (by omega);simp only[cI,Value.ownBlock,Option.some.injEq] at hg;subst hg;obtain⟨vs,hv,q7⟩:=hr.cells;have hb: (i+1)*sz α<=cap*sz α:=Nat.mul_le_mul_right _ (by omega);rw[Nat.succ_mul] at hb;have hvl:=bg.len q7;obtain⟨u',w',k1,k2,tu⟩:=Cx (P:=P) (N:=N) (cs:=cs.toList) (n:=sz α) (vs:=vs) hy hz hs hv hvl (bg.one q7) (by simpa using hc) (by simp only[Array.length_toList];omega) a ha eY gu;have hst:ay [j] w C w' C:=⟨tu.ext.mono (λb _ hb=>by rw[show b=g' from hb,kr];simp),λ_ _=>rfl⟩
 have keep:∀{x:α} {vs:List Value},rep w.heap (aB C) x vs->rep w'.heap (aB C) x vs:=λhr=>bg.keep hr (λb hb hn=>tu.ext.block b hb (λe=>hn (by rw[show b=g' from e];exact gI)));refine⟨u',w',k1,k2,hst,⟨.inr ⟨g',cap,_,by rw[List.length_set],gI,tu.at_,by rw[List.length_set];exact h1,?_,λk hk=>?_⟩,h.col⟩⟩
 ·simp only[List.size_toArray,List.length_append,List.length_take,List.length_drop,Array.length_toList,hvl];omega
 ·rw[List.length_set] at hk;rw[List.getElem_set];split
  ·rename_i hik;subst hik;have:cH (cs.toList.take (i*sz α)++vs++cs.toList.drop (i*sz α+sz α)).toArray (i*sz α) (sz α)=vs:=by
    unfold cH;simp only[List.append_assoc];rw[List.drop_append_of_le_length (by simp only[List.length_take,Array.length_toList];omega),List.drop_eq_nil_of_le (by simp only[List.length_take];omega),List.nil_append,<-hvl,List.take_left]
   rw[this];exact keep q7
  ·rename_i hik;have:cH (cs.toList.take (i*sz α)++vs++cs.toList.drop (i*sz α+sz α)).toArray (k*sz α) (sz α)=cH cs (k*sz α) (sz α):=pP (λm hm=>by
    rw[show∀(l:List Value) (p:Nat),l.toArray[p]?=l[p]? from λl p=>by simp,<-Array.getElem?_toList];rcases Nat.lt_or_ge k i with hlt|hge
    ·have:=Nat.mul_le_mul_right (sz α) (show k+1<=i from hlt);rw[Nat.succ_mul] at this;rw[List.append_assoc,List.getElem?_append_left (by simp only[List.length_take,Array.length_toList];omega),List.getElem?_take,if_pos (by omega)]
    ·have:=Nat.mul_le_mul_right (sz α) (show i+1<=k by omega);rw[Nat.succ_mul] at this;rw[List.getElem?_append_right (by simp only[List.length_append,List.length_take,Array.length_toList,hvl];omega),List.getElem?_drop];congr 1;simp only[List.length_append,List.length_take,Array.length_toList,hvl];omega)
   rw[this];exact keep (h3 k hk)
end
section
variable {α:Type} [bg α] {w:World} {C:Nat->Nat} {P:Program} {f:FuncId} {N:Nat} {k:List Item} {R:Value->World->Prop} {Q:Exit->Act->World->Prop} {env:Env} {ops:Array Oper} {S:World->Prop} {i t:Nat} {L:List (Nat×Bool)} {v:Value} {y z:Operand} {gV:Option (Nat×Bool)} {ty e e':TypeId} {xs:List α} {j g:Nat} {kd:IntKind} {n:Int}
theorem nh (hop:cZ ops i=some (some t,.indexAddr ty y z,gV)) (hw:fN ops env gV=some true) (ht:Nat.blt t N=true) (hl:bn w C j e v xs) (hy:ev env y=some v)
  (hf:jk P ty=some (e',sz α)) (hz:ev env z=some (.int kd n)) (h0:0<=n) (h1:n<xs.length)
  (h:∀g,cI v g->bR P N Q ops S L ((t,.pointer (some ⟨g,n.toNat*sz α,none⟩))::env) w):bR P N Q ops S ((i,true)::L) env w:=by
 obtain⟨g,h2,h3⟩:=hl.index (P:=P) (N:=N) hy hf hz h0 h1;exact dH hop hw ht (λw' _=>h3 w') (h g h2)
theorem ni {i':Nat} (hop:cZ ops i=some (some t,.load ty y,gV)) (hw:fN ops env gV=some true) (ht:Nat.blt t N=true) (hS:S w) (hl:bn w C j e v xs) (hg:cI v g) (hi:i'<xs.length) (ha:jF P ty=some false) (hx:bg.agg α=false)
  (hy:ev env y=some (.pointer (some ⟨g,i'*sz α,none⟩))) (h:∀v,aG w (aB C) xs[i'] v->bR P N Q ops S L ((t,v)::env) w):bR P N Q ops S ((i,false)::L) env w:=by
 obtain⟨v,h2,h3⟩:=hl.load (P:=P) (N:=N) hg hi ha hx hy;exact jH hop hw ht hS (h3 w rfl) (h v h2)
theorem jl {i':Nat} (hop:cZ ops i=some (some t,.load ty y,gV)) (hw:fN ops env gV=some true) (ht:Nat.blt t N=true) (hS:S w) (hl:bn w C j e v xs) (hg:cI v g) (hi:i'<xs.length) (ha:jF P ty=some true) (hs:jg P ty=some (sz α)) (hx:bg.agg α=true)
  (hy:ev env y=some (.pointer (some ⟨g,i'*sz α,none⟩))) (h:∀v,aG w (aB C) xs[i'] v->bR P N Q ops S L ((t,v)::env) w):bR P N Q ops S ((i,false)::L) env w:=by
 obtain⟨v,h2,h3⟩:=hl.zZ (P:=P) (N:=N) hg hi ha hs hx hy;exact jH hop hw ht hS (h3 w rfl) (h v h2)
theorem bn.stay {w':World} {I:List Nat} (h:bn w C j e v xs) (hg:cI v g) (hS:Ext (λb=>C b∈I) w w') (hj:j∉I):w'.heap[g]?=w.heap[g]?:=
 hS.block g (h.own.fA g hg).2 (by rw[h.col g hg];exact hj)
theorem bn.bu {w':World} {I:List Nat} (h:bn w C j e v xs) (hg:cI v g) (hS:Ext (λb=>C b∈I) w w') (hj:j∉I:=by first|decide|(simp<;>omega)):w'.heap[g]?=w.heap[g]?:=h.stay hg hS hj
theorem nK {i':Nat} {I:List Nat} (hop:cZ ops i=some (some t,.load ty y,gV)) (hw:fN ops env gV=some true) (ht:Nat.blt t N=true) (hl:bn w C j e v xs) (hg:cI v g) (hst:∀w',S w'->w'.heap[g]?=w.heap[g]?) (hi:i'<xs.length) (ha:jF P ty=some false) (hx:bg.agg α=false)
  (hy:ev env y=some (.pointer (some ⟨g,i'*sz α,none⟩))) (h:∀v,aG w (aB C) xs[i'] v->bR P N Q ops S L ((t,v)::env) w):bR P N Q ops S ((i,true)::L) env w:=by
 obtain⟨v,h2,h3⟩:=hl.load (P:=P) (N:=N) hg hi ha hx hy;exact dH hop hw ht (λw' hS=>h3 w' (hst w' hS)) (h v h2)
theorem qv {i':Nat} {I:List Nat} (hop:cZ ops i=some (some t,.load ty y,gV)) (hw:fN ops env gV=some true) (ht:Nat.blt t N=true) (hl:bn w C j e v xs) (hg:cI v g) (hst:∀w',S w'->w'.heap[g]?=w.heap[g]?) (hi:i'<xs.length) (ha:jF P ty=some true) (hs:jg P ty=some (sz α)) (hx:bg.agg α=true)
  (hy:ev env y=some (.pointer (some ⟨g,i'*sz α,none⟩))) (h:∀v,aG w (aB C) xs[i'] v->bR P N Q ops S L ((t,v)::env) w):bR P N Q ops S ((i,true)::L) env w:=by
 obtain⟨v,h2,h3⟩:=hl.zZ (P:=P) (N:=N) hg hi ha hs hx hy;exact dH hop hw ht (λw' hS=>h3 w' (hst w' hS)) (h v h2)
end
section
variable {α:Type} [bg α] {w w1:World} {M:Nat->Prop} {C:Nat->Nat} {P:Program} {N:Nat} {Q:Exit->Act->World->Prop} {env:Env} {ops:Array Oper} {S:World->Prop} {i:Nat} {L:List (Nat×Bool)} {v:Value} {e1:TypeId} {xs:List α} {j:Nat} {kd:IntKind} {n:Int}
theorem cq (e t ty a b:Nat) (hl:aG w1 M xs v) (hz:look env b=some (.int kd n)) (hop:cZ ops i=some (some t,.indexAddr ty (.tmp a) (.tmp b),none):=by kernel_rfl) (hy:look env a=some v:=by exact rfl) (hf:jk P ty=some (e,sz α):=by kernel_rfl)
 (h0:0<=n:=by omega) (h1:n<xs.length:=by omega) (ht:Nat.blt t N=true:=by rfl) (h:∀b o,bP w1 M (xs[n.toNat]'(by omega)) b o->bR P N Q ops S L ((t,.pointer (some ⟨b,o,none⟩))::env) w):bR P N Q ops S ((i,true)::L) env w:=iS hop rfl ht hl hy hf hz h0 h1 h
theorem cQ (e' t ty a b:Nat) (hl:bn w C j e1 v xs) (hz:look env b=some (.int kd n)) (h1:n<xs.length) (hop:cZ ops i=some (some t,.indexAddr ty (.tmp a) (.tmp b),none):=by kernel_rfl) (hy:look env a=some v:=by exact rfl) (hf:jk P ty=some (e',sz α):=by kernel_rfl)
 (h0:0<=n:=by omega) (ht:Nat.blt t N=true:=by rfl) (h:∀g,cI v g->bR P N Q ops S L ((t,.pointer (some ⟨g,n.toNat*sz α,none⟩))::env) w):bR P N Q ops S ((i,true)::L) env w:=nh hop rfl ht hl hy hf hz h0 h1 h
theorem dL (t T a:Nat) {b o:Nat} {cs:List Value} {ty:TypeId} {eP:Nat×Nat} (hc:w.heap[b]?=some (.cells cs.toArray ty eP)) (hy:look env a=some (.pointer (some ⟨b,o,none⟩))) (hv:cs[o]?=some v) (h:bR P N Q ops (λ_=>True) L ((t,v)::env) w)
 (hop:cZ ops i=some (some t,.load T (.tmp a),none):=by kernel_rfl) (ha:jF P T=some false:=by kernel_rfl) (ht:Nat.blt t N=true:=by rfl):bR P N Q ops (λ_=>True) ((i,false)::L) env w:=jH hop rfl ht trivial (vZ hc ha hv hy) h
theorem zE (t a T:Nat) (hv:∀w',c5 P N env (.call {callee:=.builtin .len,args:=#[.tmp a],argTypes:=#[T]}) w' v) (h:bR P N Q ops S L ((t,v)::env) w)
 (hop:cZ ops i=some (some t,.call {callee:=.builtin .len,args:=#[.tmp a],argTypes:=#[T]},none):=by kernel_rfl) (ht:Nat.blt t N=true:=by rfl):bR P N Q ops S ((i,true)::L) env w:=dH hop rfl ht (λw' _=>hv w') h
theorem uJ (t a T g:Nat) (b:Bool) (hv:∀w',c5 P N env (.call {callee:=.builtin .len,args:=#[.tmp a],argTypes:=#[T]}) w' v) (h:bR P N Q ops S L ((t,v)::env) w)
 (hop:cZ ops i=some (some t,.call {callee:=.builtin .len,args:=#[.tmp a],argTypes:=#[T]},some (g,b)):=by kernel_rfl) (hw:fN ops env (some (g,b))=some true:=by rfl) (ht:Nat.blt t N=true:=by rfl):bR P N Q ops S ((i,true)::L) env w:=dH hop hw ht (λw' _=>hv w') h
theorem dz (t T a n:Nat) {b o:Nat} {cs:List Value} {ty:TypeId} {eP:Nat×Nat} (vs:List Value) (hc:w.heap[b]?=some (.cells cs.toArray ty eP)) (h:bR P N Q ops (λ_=>True) L ((t,.agg vs.toArray)::env) w)
 (hop:cZ ops i=some (some t,.load T (.tmp a),none):=by kernel_rfl) (ha:jF P T=some true:=by kernel_rfl) (hs:jg P T=some n:=by kernel_rfl) (hy:look env a=some (.pointer (some ⟨b,o,none⟩)):=by exact rfl) (hv: (cs.drop o).take n=vs:=by exact rfl) (hl:vs.length=n:=by exact rfl) (ht:Nat.blt t N=true:=by rfl):
 bR P N Q ops (λ_=>True) ((i,false)::L) env w:=jH hop rfl ht trivial (eL hc ha hs hv hl hy) h
theorem lg (t T a g:Nat) (bb:Bool) (n:Nat) {b o:Nat} {cs:List Value} {ty:TypeId} {eP:Nat×Nat} (vs:List Value) (hc:w.heap[b]?=some (.cells cs.toArray ty eP)) (h:bR P N Q ops (λ_=>True) L ((t,.agg vs.toArray)::env) w)
 (hop:cZ ops i=some (some t,.load T (.tmp a),some (g,bb)):=by kernel_rfl) (hw:fN ops env (some (g,bb))=some true:=by rfl) (ha:jF P T=some true:=by kernel_rfl) (hs:jg P T=some n:=by kernel_rfl) (hy:look env a=some (.pointer (some ⟨b,o,none⟩)):=by exact rfl) (hv: (cs.drop o).take n=vs:=by exact rfl) (hl:vs.length=n:=by exact rfl) (ht:Nat.blt t N=true:=by rfl):
 bR P N Q ops (λ_=>True) ((i,false)::L) env w:=jH hop hw ht trivial (eL hc ha hs hv hl hy) h
theorem gP (t T a g:Nat) (bb:Bool) {b o:Nat} {cs:List Value} {ty:TypeId} {eP:Nat×Nat} (hc:w.heap[b]?=some (.cells cs.toArray ty eP)) (h:bR P N Q ops (λ_=>True) L ((t,v)::env) w)
 (hop:cZ ops i=some (some t,.load T (.tmp a),some (g,bb)):=by kernel_rfl) (hw:fN ops env (some (g,bb))=some true:=by rfl) (ha:jF P T=some false:=by kernel_rfl) (hy:look env a=some (.pointer (some ⟨b,o,none⟩)):=by exact rfl) (hv:cs[o]?=some v:=by exact rfl) (ht:Nat.blt t N=true:=by rfl):
 bR P N Q ops (λ_=>True) ((i,false)::L) env w:=jH hop hw ht trivial (vZ hc ha hv hy) h
theorem iN (t T a n:Nat) {b o:Nat} {cs:List Value} {ty:TypeId} {eP:Nat×Nat} (vs:List Value) (hc:∀{w':World},S w'->w'.heap[b]?=some (.cells cs.toArray ty eP)) (h:bR P N Q ops S L ((t,.agg vs.toArray)::env) w)
 (hop:cZ ops i=some (some t,.load T (.tmp a),none):=by kernel_rfl) (ha:jF P T=some true:=by kernel_rfl) (hs:jg P T=some n:=by kernel_rfl) (hy:look env a=some (.pointer (some ⟨b,o,none⟩)):=by exact rfl) (hv: (cs.drop o).take n=vs:=by exact rfl) (hl:vs.length=n:=by exact rfl) (ht:Nat.blt t N=true:=by rfl):
 bR P N Q ops S ((i,true)::L) env w:=dH hop rfl ht (λ_ hS=>eL (hc hS) ha hs hv hl hy) h
theorem gM (t T a:Nat) {b o:Nat} {cs:List Value} {ty:TypeId} {eP:Nat×Nat} (hc:∀{w':World},S w'->w'.heap[b]?=some (.cells cs.toArray ty eP)) (h:bR P N Q ops S L ((t,v)::env) w)
 (hop:cZ ops i=some (some t,.load T (.tmp a),none):=by kernel_rfl) (ha:jF P T=some false:=by kernel_rfl) (hy:look env a=some (.pointer (some ⟨b,o,none⟩)):=by exact rfl) (hv:cs[o]?=some v:=by exact rfl) (ht:Nat.blt t N=true:=by rfl):
 bR P N Q ops S ((i,true)::L) env w:=dH hop rfl ht (λ_ hS=>vZ (hc hS) ha hv hy) h
end
theorem CJ {P:Program} {N:Nat} {env:Env} {op:Op} {w:World} {p:Prop} [Decidable p] (h:c5 P N env op w (.bool (decide p))) (hp:¬p):c5 P N env op w (.bool false):=by rwa [decide_eq_false hp] at h
theorem E4 {P:Program} {N:Nat} {env:Env} {op:Op} {w:World} {p:Prop} [Decidable p] (h:c5 P N env op w (.bool (decide p))) (hp:p):c5 P N env op w (.bool true):=by rwa [decide_eq_true hp] at h
theorem z9 (w:World) (C:Nat->Nat):ay [2,3,4,5,6,7,8,9] w (bE C) w (bE C):=ay.refl _ _ _
theorem g_ {vs:List Value} (h:vs.all (·.oneCell')=true):∀u∈vs,u.oneCell'=true:=List.all_eq_true.1 h
theorem CK:∀u∈([]:List Value),u.oneCell'=true:=λ_ h=>nomatch h
theorem CL {v:Value} {vs:List Value} (h:v.oneCell'=true) (t:∀u∈vs,u.oneCell'=true):∀u∈v::vs,u.oneCell'=true:=λ_ hu=>(List.mem_cons.1 hu).elim (λe=>e▸h) (t _)
theorem aI (n:Nat): (n:Int).toNat=n:=rfl
theorem bn.u {α:Type} [bg α] {w w':World} {C aP:Nat->Nat} {I:List Nat} {j:Nat} {e:TypeId} {v:Value} {ys:List α} (h:bn w C j e v ys) (hs:ay I w C w' aP) (h0:0∉I:=by first|decide|(simp<;>omega)) (hj:j∉I:=by first|decide|(simp<;>omega)):bn w' aP j e v ys:=h.st hs h0 hj
theorem aG.c1 {α:Type} [bg α] {w:World} {C:Nat->Nat} {x:α} {v:Value} (h:aG w (aB C) x v):aG w (aB (bE C)) x v:=by rw[fP];exact h
def xY (n:Nat) (v v2:Value) (k m:Nat):Prop:=∃g l c c',v=.slice (some ⟨g,0,none⟩) l c/\v2=.slice (some ⟨g,k*n,none⟩) m c'
section
variable {α:Type} [bg α] {w w':World} {C aP:Nat->Nat} {P:Program} {N:Nat} {env:Env} {x y z q:Operand} {t ty e:TypeId} {v v2 u:Value} {xs:List α} {j b g n k m e':Nat}
theorem wo {kd:IntKind} {i:Int} {y:Nat} {code:BoundsCode} {w:World} (h0:0<=i) (h1:i<=y): (Instr.sliceBound (.int kd i) y code).run P w=.ok i.toNat w:=by
 simp[Instr.sliceBound,asIntOf,h0,h1]
theorem bn.from_ (h:bn w C j e v xs) (hy:ev env y=some v) {kd:IntKind} {i:Int} (hf:jk P t=some (e',sz α)) (hz:ev env z=some (.int kd i)) (h0:0<=i) (h1:i<xs.length):
  ∃v2,xY (sz α) v v2 i.toNat (xs.length-i.toNat)/\∀w',c5 P N env (.slice t y (some z) none none) w' v2:=by
 obtain⟨g,cap,cs,rfl,_,_,hc,hle,_⟩:=h.sn (by omega);refine⟨.slice (some ⟨g,i.toNat*sz α,none⟩) (xs.length-i.toNat) (cap-i.toNat),⟨g,_,_,_,rfl,rfl⟩,λw'=>mk' λρ hρ eY ho=>?_⟩;unfold jk at hf;split at hf
 ·rename_i e1 hu;split at hf
  ·rename_i n' hn;simp only[Option.some.injEq,Prod.mk.injEq] at hf;obtain⟨rfl,rfl⟩:=hf;have hb:=wo (P:=P) (kd:=kd) (y:=xs.length) (code:=.sliceB) (w:=w') h0 (by omega);have hne:¬cap=i.toNat:=by omega
   unfold execOp;rw[ho];simp[hρ _ _ hy,hρ _ _ hz,Instr.sliceAt,Instr.slice,Instr.sliceBounds,run_underlying hu,oh hn,hb,hne,oO]
  ·cases hf
 ·cases hf
theorem bn.E5 (h:bn w C j e v xs) (hy:ev env y=some v) {kd:IntKind} {i:Int} (hf:jk P t=some (e',sz α)) (hz:ev env z=some (.int kd i)) (h0:0<=i) (h1:i<=xs.length) (hne:0<xs.length):
  ∃v2,bn w C j e v2 (xs.take i.toNat)/\∀w',c5 P N env (.slice t y none (some z) none) w' v2:=by
 obtain⟨g,cap,cs,rfl,kr,gI,hc,hle,hsz,hr⟩:=h.sn hne;have hl: (xs.take i.toNat).length=i.toNat:=by rw[List.length_take];omega
 refine⟨.slice (some ⟨g,0,none⟩) (xs.take i.toNat).length cap,⟨.inr ⟨g,cap,cs,rfl,gI,hc,by omega,hsz,λk hk=>?_⟩,h.col⟩,λw'=>mk' λρ hρ eY ho=>?_⟩
 ·rw[List.getElem_take];exact hr k (by omega)
 ·unfold jk at hf;split at hf
  ·rename_i e1 hu;split at hf
   ·rename_i n' hn;simp only[Option.some.injEq,Prod.mk.injEq] at hf;obtain⟨rfl,rfl⟩:=hf;have hb:=wo (P:=P) (kd:=kd) (y:=cap) (code:=.sliceAcap) (w:=w') h0 (by omega);unfold execOp;rw[ho];rw[hl];simp[hρ _ _ hy,hρ _ _ hz,Instr.sliceAt,Instr.slice,Instr.sliceBounds,run_underlying hu,oh hn,hb,oO]
   ·cases hf
  ·cases hf
theorem aG.from_ {M:Nat->Prop} (h:aG w M xs v) (hy:ev env y=some v) {kd:IntKind} {i:Int} (hf:jk P t=some (e',sz α)) (hz:ev env z=some (.int kd i)) (h0:0<=i) (h1:i<=xs.length):
  ∃v2,aG w M (xs.drop i.toNat) v2/\∀w',c5 P N env (.slice t y (some z) none none) w' v2:=by
 obtain⟨a,c,rfl,hc,hm,hs⟩:=kF.1 h;have hval:∀w',c5 P N env (.slice t y (some z) none none) w' (.slice (if c=i.toNat then a else a.map (·.add (i.toNat*sz α))) (xs.length-i.toNat) (c-i.toNat)):=λw'=>mk' λρ hρ eY ho=>by
  unfold jk at hf;split at hf
  ·rename_i e1 hu;split at hf
   ·rename_i n' hn;simp only[Option.some.injEq,Prod.mk.injEq] at hf;obtain⟨rfl,rfl⟩:=hf;have hb:=wo (P:=P) (kd:=kd) (y:=xs.length) (code:=.sliceB) (w:=w') h0 (by omega);unfold execOp;rw[ho];simp[hρ _ _ hy,hρ _ _ hz,Instr.sliceAt,Instr.slice,Instr.sliceBounds,run_underlying hu,oh hn,hb]
   ·cases hf
  ·cases hf
 refine⟨_,?_,hval⟩;rw[<-List.length_drop];refine kF.2 ⟨_,_,rfl,by rw[List.length_drop];omega,by rw[List.length_drop];omega,?_⟩;by_cases hd:xs.drop i.toNat=[]
 ·exact .inl hd
 ·have hlt:i.toNat<xs.length:=by
   rcases Nat.lt_or_ge i.toNat xs.length with h|h
   ·exact h
   ·exact absurd (List.drop_eq_nil_of_le h) hd
  rcases hs with rfl|⟨b,o,rfl,hs⟩
  ·simp at hlt
  ·refine .inr ⟨b,o+i.toNat*sz α,?_,?_⟩
   ·rw[if_neg (by omega)];simp[oO]
   ·obtain⟨hb,cs,ty,eP,uK,hl,hr⟩:=hs;refine⟨hb,cs,ty,eP,uK,?_,λk hk=>?_⟩
    ·rw[List.length_drop];have:i.toNat*sz α+(xs.length-i.toNat)*sz α=xs.length*sz α:=by rw[<-Nat.add_mul];congr 1;omega
     omega
    ·rw[List.length_drop] at hk;have:=hr (i.toNat+k) (by omega);rw[List.getElem_drop,show o+i.toNat*sz α+k*sz α=o+(i.toNat+k)*sz α from by rw[Nat.add_mul];omega];exact this
theorem aG.E5 {M:Nat->Prop} (h:aG w M xs v) (hy:ev env y=some v) {kd:IntKind} {i:Int} (hf:jk P t=some (e',sz α)) (hz:ev env z=some (.int kd i)) (h0:0<=i) (h1:i<=xs.length):
  ∃v2,aG w M (xs.take i.toNat) v2/\∀w',c5 P N env (.slice t y none (some z) none) w' v2:=by
 obtain⟨a,c,rfl,hc,hm,hs⟩:=kF.1 h;have hl: (xs.take i.toNat).length=i.toNat:=by rw[List.length_take];omega
 have hval:∀w',c5 P N env (.slice t y none (some z) none) w' (.slice a (xs.take i.toNat).length c):=λw'=>mk' λρ hρ eY ho=>by
  unfold jk at hf;split at hf
  ·rename_i e1 hu;split at hf
   ·rename_i n' hn;simp only[Option.some.injEq,Prod.mk.injEq] at hf;obtain⟨rfl,rfl⟩:=hf;have hb:=wo (P:=P) (kd:=kd) (y:=c) (code:=.sliceAcap) (w:=w') h0 (by omega);have jv: (if c=0 then a else a.map (·.add 0))=a:=by
     cases a with
     |none=>simp
     |some a=>simp[Addr.add]
    unfold execOp;rw[ho,hl];simp[hρ _ _ hy,hρ _ _ hz,Instr.sliceAt,Instr.slice,Instr.sliceBounds,run_underlying hu,oh hn,hb,jv]
   ·cases hf
  ·cases hf
 refine⟨_,?_,hval⟩;refine kF.2 ⟨_,_,rfl,by omega,by omega,?_⟩;rcases hs with rfl|⟨b,o,rfl,hb,cs,ty,eP,uK,hl',hr⟩
 ·left;simp
 ·refine .inr ⟨b,o,rfl,hb,cs,ty,eP,uK,?_,λk hk=>?_⟩
  ·rw[hl];have:=Nat.mul_le_mul_right (sz α) (show i.toNat<=xs.length by omega);omega
  ·rw[List.getElem_take];exact hr k (by omega)
theorem E6 {e':Nat} {kd:IntKind} {i:Int} (hs:xY n v v2 k m) (hg:cI v g) (hf:jk P t=some (e',n)) (hy:ev env y=some v2) (hz:ev env z=some (.int kd i))
  (h0:0<=i) (h1:i<m):c5 P N env (.indexAddr t y z) w (.pointer (some ⟨g,(k+i.toNat)*n,none⟩)):=by
 obtain⟨g',l,c,c',rfl,rfl⟩:=hs;simp only[cI,Value.ownBlock,Option.some.injEq] at hg;subst hg;have:=EO (P:=P) (N:=N) (w:=w) hf hy hz h0 h1;rwa [<-Nat.add_mul] at this
theorem xY.b8 (hs:xY n v v2 k m) (hy:ev env y=some v2) {d:TypeId} (ht:P.underlying t=some (.slice d)):
  ∀w',c5 P N env (.call {callee:=.builtin .len,args:=#[y],argTypes:=#[t]}) w' (.int .i64 m):=λw'=>by
 obtain⟨g',l,c,c',rfl,rfl⟩:=hs;exact vX hy ht
theorem bn.J9 (h:bn w C j e v xs) (hne:0<xs.length):∃g,cI v g:=by
 obtain⟨g,cap,cs,rfl,_⟩:=h.sn hne;exact⟨g,rfl⟩
theorem RY {x0:α} {zs:List Value} (h:bn w C j e v xs) (hs:xY (sz α) v v2 k m) (hkm:k+m=xs.length) (hm:0<m) (hu:P.underlying t=some (.slice ty)) (hz:tg P ty=some zs) (h0:∀h M,rep h M x0 zs) (hy:ev env y=some v2):
  gZ P N env (.call {callee:=.builtin .clear,args:=#[y],argTypes:=#[t]}) w (λu' w'=>ay [j] w C w' C/\bn w' C j e v (xs.take k++List.replicate m x0)):=oP λρ hρ eY gu=>by
 obtain⟨g,cap,cs,rfl,kr,gI,hc,h1,h2,h3⟩:=h.sn (by omega);obtain⟨g',l,c,c',e1,rfl⟩:=hs;simp only[Value.slice.injEq,Option.some.injEq,Addr.mk.injEq,and_true] at e1;obtain⟨rfl,rfl,rfl⟩:=e1;obtain⟨kG,wq,xZ⟩:=Cw hz w;have hzl:zs.length=sz α:=bg.len (h0 w.heap (aB C));have RZ:kG.cells.size=sz α:=by rw[xZ];simpa using hzl
 have tq: (Builtin.zeroCells kG.cells m).toList.length=m*sz α:=by rw[Array.length_toList,size_zeroCells,RZ]
 have hb: (k+m)*sz α<=cap*sz α:=Nat.mul_le_mul_right _ (by omega);rw[Nat.add_mul] at hb;have hcell:∀i,i<m->cH (Builtin.zeroCells kG.cells m) (i*sz α) (sz α)=zs:=λi hi=>by
  have:=J8 hzl hi;rw[xZ];unfold madeCells at this;unfold Builtin.zeroCells;first|exact this|(rw[List.size_toArray,hzl];exact this)|simpa[hzl] using this
 have hone:∀u∈(Builtin.zeroCells kG.cells m).toList,u.oneCell'=true:=λu ES=>by
  obtain⟨p,hp,rfl⟩:=List.mem_iff_getElem.1 ES;rw[tq] at hp;by_cases hs0:sz α=0
  ·rw[hs0] at hp;omega
  ·have hk:p/sz α<m:=(Nat.div_lt_iff_lt_mul (by omega)).2 hp;refine bg.one (h0 w.heap (aB C)) _ ?_;rw[<-hcell _ hk];apply List.mem_iff_getElem?.2;refine⟨p%sz α,?_⟩;have hmod:=Nat.mod_lt p (show 0<sz α by omega);simp only[cH,List.getElem?_take,if_pos hmod,List.getElem?_drop];rw[Nat.mul_comm,Nat.div_add_mod];simp[hp,tq]
 have hst:=run_storeCells_at P g (k*sz α) e (Builtin.zeroCells kG.cells m).toList 0 cs w hc (by rw[tq];omega) hone;simp only[Nat.add_zero,tq] at hst;have E7:=EP (cs:=(List.take (k*sz α) cs.toList++(Builtin.zeroCells kG.cells m).toList++List.drop (k*sz α+m*sz α) cs.toList).toArray) hc;have CM:ay [j] w C _ C:=⟨E7.ext.mono (λb _ hb=>by rw[show b=g from hb,kr];simp),λ_ _=>rfl⟩
 have keep:∀{x:α} {vs:List Value},rep w.heap (aB C) x vs->rep _ (aB C) x vs:=λhr=>bg.keep hr (λb hb hn=>E7.ext.block b hb (λe=>hn (by rw[show b=g from e];exact gI)));refine⟨.tuple #[],_,.inl ?_,CM,⟨.inr ⟨g,cap,_,?_,gI,E7.at_,?_,?_,λi hi=>?_⟩,h.col⟩⟩
 ·unfold execOp;rw[gu];have hm0:m≠0:=by omega
  have hrun: (Builtin.clear_ #[t] eY.type #[.slice (some ⟨g,k*sz α,none⟩) m c']).run P w=.ok (.tuple #[]) (w.setRow g (List.take (k*sz α) cs.toList++(Builtin.zeroCells kG.cells m).toList++List.drop (k*sz α+m*sz α) cs.toList).toArray):=by
   cases m with
   |zero=>exact absurd rfl hm0
   |succ m=>simp[Builtin.clear_,run_underlying hu,wq,hst]
  simp[hρ _ _ hy,resolve,invoke,builtin,hrun]
 ·simp;omega
 ·simp;omega
 ·simp only[List.size_toArray,List.length_append,List.length_take,List.length_drop,tq,Array.length_toList];omega
 ·have k8:∀(l:List Value) (p:Nat),l.toArray[p]?=l[p]?:=λl p=>by simp
  by_cases hik:i<k
  ·have Af:i<(xs.take k).length:=by rw[List.length_take];omega
   rw[List.getElem_append_left Af,List.getElem_take];have ff:=Nat.mul_le_mul_right (sz α) (show i+1<=k from hik);rw[Nat.succ_mul] at ff;have hce:cH (List.take (k*sz α) cs.toList++(Builtin.zeroCells kG.cells m).toList++List.drop (k*sz α+m*sz α) cs.toList).toArray (i*sz α) (sz α)=cH cs (i*sz α) (sz α):=pP (λr hr=>by
    rw[k8,List.append_assoc,List.getElem?_append_left (by simp only[List.length_take,Array.length_toList];omega),List.getElem?_take,if_pos (by omega),Array.getElem?_toList])
   rw[hce];exact keep (h3 i (by omega))
  ·have pT: (xs.take k).length=k:=by rw[List.length_take];omega
   rw[List.getElem_append_right (by omega),List.getElem_replicate];have him:i-k<m:=by simp at hi;omega
   have Ag:=Nat.mul_le_mul_right (sz α) (show i-k+1<=m from him);rw[Nat.succ_mul] at Ag;have Z7:i*sz α=k*sz α+(i-k)*sz α:=by rw[<-Nat.add_mul];congr 1;omega
   have hce:cH (List.take (k*sz α) cs.toList++(Builtin.zeroCells kG.cells m).toList++List.drop (k*sz α+m*sz α) cs.toList).toArray (i*sz α) (sz α)=cH (Builtin.zeroCells kG.cells m) ((i-k)*sz α) (sz α):=pP (λr hr=>by
    rw[k8,List.append_assoc,List.getElem?_append_right (by simp only[List.length_take,Array.length_toList];omega),List.getElem?_append_left (by simp only[List.length_take,Array.length_toList,tq];omega),Array.getElem?_toList];congr 1;simp only[List.length_take,Array.length_toList];omega)
   rw[hce,hcell _ him];exact h0 _ _
end
section
variable {α:Type} [bg α] {w:World} {C:Nat->Nat} {P:Program} {f:FuncId} {N:Nat} {k:List Item} {R:Value->World->Prop} {Q:Exit->Act->World->Prop} {env:Env} {ops:Array Oper} {S:World->Prop} {i t:Nat} {L:List (Nat×Bool)} {v v2:Value} {y z:Operand} {gV:Option (Nat×Bool)} {ty e e':TypeId} {xs:List α} {j g:Nat} {kd:IntKind} {n:Int}
theorem J_ (hop:cZ ops i=some (some t,.slice ty y (some z) none none,gV)) (hw:fN ops env gV=some true) (ht:Nat.blt t N=true) (hl:bn w C j e v xs) (hy:ev env y=some v)
  (hf:jk P ty=some (e',sz α)) (hz:ev env z=some (.int kd n)) (h0:0<=n) (h1:n<xs.length)
  (h:∀v2,xY (sz α) v v2 n.toNat (xs.length-n.toNat)->bR P N Q ops S L ((t,v2)::env) w):bR P N Q ops S ((i,true)::L) env w:=by
 obtain⟨v2,h2,h3⟩:=hl.from_ (P:=P) (N:=N) hy hf hz h0 h1;exact dH hop hw ht (λw' _=>h3 w') (h v2 h2)
theorem Ka (hop:cZ ops i=some (some t,.slice ty y none (some z) none,gV)) (hw:fN ops env gV=some true) (ht:Nat.blt t N=true) (hl:bn w C j e v xs) (hy:ev env y=some v)
  (hf:jk P ty=some (e',sz α)) (hz:ev env z=some (.int kd n)) (h0:0<=n) (h1:n<=xs.length) (hne:0<xs.length)
  (h:∀v2,bn w C j e v2 (xs.take n.toNat)->bR P N Q ops S L ((t,v2)::env) w):bR P N Q ops S ((i,true)::L) env w:=by
 obtain⟨v2,h2,h3⟩:=hl.E5 (P:=P) (N:=N) hy hf hz h0 h1 hne;exact dH hop hw ht (λw' _=>h3 w') (h v2 h2)
theorem Ah {M:Nat->Prop} (hop:cZ ops i=some (some t,.slice ty y (some z) none none,gV)) (hw:fN ops env gV=some true) (ht:Nat.blt t N=true) (hl:aG w M xs v) (hy:ev env y=some v)
  (hf:jk P ty=some (e',sz α)) (hz:ev env z=some (.int kd n)) (h0:0<=n) (h1:n<=xs.length)
  (h:∀v2,aG w M (xs.drop n.toNat) v2->bR P N Q ops S L ((t,v2)::env) w):bR P N Q ops S ((i,true)::L) env w:=by
 obtain⟨v2,h2,h3⟩:=hl.from_ (P:=P) (N:=N) hy hf hz h0 h1;exact dH hop hw ht (λw' _=>h3 w') (h v2 h2)
theorem q8 {M:Nat->Prop} (hop:cZ ops i=some (some t,.slice ty y none (some z) none,gV)) (hw:fN ops env gV=some true) (ht:Nat.blt t N=true) (hl:aG w M xs v) (hy:ev env y=some v)
  (hf:jk P ty=some (e',sz α)) (hz:ev env z=some (.int kd n)) (h0:0<=n) (h1:n<=xs.length)
  (h:∀v2,aG w M (xs.take n.toNat) v2->bR P N Q ops S L ((t,v2)::env) w):bR P N Q ops S ((i,true)::L) env w:=by
 obtain⟨v2,h2,h3⟩:=hl.E5 (P:=P) (N:=N) hy hf hz h0 h1;exact dH hop hw ht (λw' _=>h3 w') (h v2 h2)
end
section
variable {P:Program} {f:FuncId} {N:Nat} {k:List Item} {env:Env} {w:World} {R:Value->World->Prop} {Q:Exit->Act->World->Prop}
theorem Kc {b x4:Nat} {cs:List Value} {eP:Nat×Nat} {ty n:Nat} (hc:w.heap[b]?=some (.cells cs.toArray x4 eP)) (ha:jF P ty=some true) (hs:jg P ty=some n) (hl:cs.length=n):
  (loadVar ty ⟨b,0,none⟩).run P w=.ok (.agg cs.toArray) w:=by
 have hcells: (loadCells ⟨b,0,none⟩ n).run P w=.ok cs.toArray w:=by
  have:=run_loadCells_list (P:=P) w ⟨b,0,none⟩ cs (λj u hu=>by
   rw[oO,cell_of_row w b (0+j) cs.toArray x4 eP hc];rw[<-hu];simp)
  rwa [hl] at this
 simp only[loadCells] at hcells;simp[loadVar,vY ha,oh hs,loadCells,hcells]
theorem E8 {c:Code} {fn:Func} {a ty b:Nat} {x4:Nat} {cs:List Value} {eP:Nat×Nat} {n:Nat} (hc:c=.ret) (hf:P.funcs[f]?=some fn) (hres:fn.results=#[.cell a ty]) (hv:look env a=some (.pointer (some ⟨b,0,none⟩)))
  (hb:w.heap[b]?=some (.cells cs.toArray x4 eP)) (ha:jF P ty=some true) (hs:jg P ty=some n) (hl:cs.length=n)
  (hR:R (.agg cs.toArray) w):Run P f N (.code c::k) env w R:=λa' jv=>by
 subst hc;refine xQ hf jv.defers ?_ hR;have h1:=jv.slot a _ hv;have h2:=Kc hb ha hs hl;simp only[results,hres];simp[h1,Array.getD_eq_getD_getElem?,asAddr,h2]
theorem E9 {c:Code} {fn:Func} {a ty b u:Nat} {x:Value} {x4:Nat} {cs:List Value} {eP:Nat×Nat} {n:Nat} (hc:c=.ret) (hf:P.funcs[f]?=some fn) (hres:fn.results=#[.cell a ty,.tmp u]) (hv:look env a=some (.pointer (some ⟨b,0,none⟩)))
  (hx:look env u=some x) (hb:w.heap[b]?=some (.cells cs.toArray x4 eP)) (ha:jF P ty=some true) (hs:jg P ty=some n) (hl:cs.length=n)
  (hR:R (.tuple #[.agg cs.toArray,x]) w):Run P f N (.code c::k) env w R:=λa' jv=>by
 subst hc;refine xQ hf jv.defers ?_ hR;have h1:=jv.slot a _ hv;have h3:=jv.slot u _ hx;have h2:=Kc hb ha hs hl;simp only[results,hres];simp[h1,h3,Array.getD_eq_getD_getElem?,asAddr,h2]
end
section
variable {P:Program} {N:Nat} {env:Env} {w:World} {x y:Operand} {t u:TypeId} {m n r:Int}
theorem R1 (hx:ev env x=some (.int .i64 m)) (hy:ev env y=some (.int .i64 n)) (ht:P.underlying t=some (.int .i64)):
  c5 P N env (.call {callee:=.builtin .min,args:=#[x,y],argTypes:=#[t,t]}) w (.int .i64 (min m n)):=mk' λρ hρ o ho=>by
 unfold execOp;rw[ho];simp[hρ _ _ hx,hρ _ _ hy,go_sem,resolve,invoke,builtin,Builtin.min_,Builtin.min2];by_cases h:n<m
 ·rw[if_pos h];exact(Int.min_eq_right (by omega)).symm
 ·rw[if_neg h];exact(Int.min_eq_left (by omega)).symm
end
section
variable {P:Program} {f:FuncId} {N:Nat} {k:List Item} {env:Env} {w:World} {R:Value->World->Prop} {Q:Exit->Act->World->Prop}
theorem ov {fn:Func} (hf:P.funcs[f]?=some fn) (hres:fn.results=#[]) (hR:R (.tuple #[]) w):Run P f N [] env w R:=λa ha cs=>
 ⟨.tuple #[],w,_,hR,.one step_end,rfl,rfl,ha.defers,rfl,fn,hf,by simp[results,hres,Sem.run,pure]⟩
theorem wu {fn:Fn} {xs ys:Array Operand} {us vs:List Value} (hx:nI env xs.toList=some us) (hy:nI env ys.toList=some vs):
  c5 P N env (.makeFunc fn xs ys) w (.func fn us.toArray vs.toArray):=λa ha o ho=>by
 have h1:xs.map a.eval=us.toArray:=by rw[<-ha.nI hx,<-List.map_toArray]
 have h2:ys.map a.eval=vs.toArray:=by rw[<-ha.nI hy,<-List.map_toArray]
 unfold execOp;rw[ho];simp only[h1,h2];rfl
end
def E_ (P:Program) (t:TypeId) {de:Type} [DecidableEq de] (kv:de->Value):Prop:=
 ∀d a b w,(Op.equalIn (d+8) t (kv a) (kv b)).run P w=.ok (decide (a=b)) w
structure tv (P:Program) (t:TypeId) {de:Type} [DecidableEq de] (kv:de->Value):Prop where
 check:∀e k w,(Instr.checkKey e 10000 t (kv k)).run P w=.ok () w
 find:∀k (es:List MapEntry) (ks:List de) w,es.map (·.key)=ks.map kv->
  (Instr.findKey t (kv k) es).run P w=.ok ((ks.findIdx? (λx=>decide (x=k))).bind λi=>(es[i]?).map λe=>(i,e.val)) w
 bits:∀k,Instr.sameBits 10000 (kv k) (kv k)=true
 inj:∀a b,kv a=kv b->a=b
theorem R2 {kind:TypeDesc} {de:Type} [DecidableEq de] {kv:de->Value} (hs:∀a b,Instr.sameNow kind (kv a) (kv b)=some (decide (a=b))) (k:de):
  ∀(es:List MapEntry) (ks:List de) (n:Nat),es.map (·.key)=ks.map kv->
   Instr.findNow kind (kv k) es n=some ((ks.findIdx? (λx=>decide (x=k))).bind λi=>(es[i]?).map λe=>(n+i,e.val))
 |[],[],n,_=>by simp[Instr.findNow]
 |[],_::_,n,h=>by simp at h
 |_::_,[],n,h=>by simp at h
 |e::es,x::ks,n,h=>by
  simp only[List.map_cons,List.cons.injEq] at h;obtain⟨h1,h2⟩:=h;unfold Instr.findNow;rw[h1,hs];by_cases hx:k=x
  ·subst hx;simp[List.findIdx?_cons]
  ·simp only[hx,decide_false];rw[R2 hs k es ks (n+1) h2,List.findIdx?_cons];have:¬x=k:=λe=>hx e.symm;simp only[this,decide_false,Bool.false_eq_true,if_false];cases ks.findIdx? (λx=>decide (x=k)) with
   |none=>rfl
   |some i=>simp[Nat.add_assoc,Nat.add_comm 1]
theorem Ke {P:Program} {t:TypeId} {de:Type} [DecidableEq de] {kv:de->Value} (heq:E_ P t kv) (k:de) (w:World):
  ∀(es:List MapEntry) (ks:List de) (n:Nat),es.map (·.key)=ks.map kv->
   (Instr.findAsking t (kv k) es n).run P w=.ok ((ks.findIdx? (λx=>decide (x=k))).bind λi=>(es[i]?).map λe=>(n+i,e.val)) w
 |[],[],n,_=>by simp[Instr.findAsking]
 |[],_::_,n,h=>by simp at h
 |_::_,[],n,h=>by simp at h
 |e::es,x::ks,n,h=>by
  simp only[List.map_cons,List.cons.injEq] at h;obtain⟨h1,h2⟩:=h;unfold Instr.findAsking Op.equal;rw[h1,Sem.run_bind,show Op.maxDepth=9992+8 from rfl,heq];simp only[Result.andThen_ok];by_cases hx:k=x
  ·subst hx;simp[List.findIdx?_cons]
  ·simp only[hx,decide_false,Bool.false_eq_true,if_false];rw[Ke heq k w es ks (n+1) h2,List.findIdx?_cons];have:¬x=k:=λe=>hx e.symm;simp only[this,decide_false,Bool.false_eq_true,if_false];cases ks.findIdx? (λx=>decide (x=k)) with
   |none=>rfl
   |some i=>simp[Nat.add_assoc,Nat.add_comm 1]
theorem Kf {P:Program} {t:TypeId} {fs:Array Field} {de:Type} [DecidableEq de] {kv:de->Value} (h:P.underlying t=some (.struct fs)) (heq:E_ P t kv)
  (hc:∀e k w,(Instr.checkKey e 10000 t (kv k)).run P w=.ok () w) (hb:∀k,Instr.sameBits 10000 (kv k) (kv k)=true) (hi:∀a b,kv a=kv b->a=b):tv P t kv where
 check:=hc
 find k es ks w hk:=by
  rw[run_findKey_eq w (by rw[h]) (kv k) es];simpa using Ke heq k w es ks 0 hk
 bits:=hb
 inj:=hi
section
variable {de β:Type} [DecidableEq de]
def eM:List (de×β)->de->Option β
 |[],_=>none
 |(x,v)::m,k=>if x=k then some v else eM m k
def gE:List (de×β)->de->β->List (de×β)
 |[],k,v=>[(k,v)]
 |(x,u)::m,k,v=>if x=k then(k,v)::m else(x,u)::gE m k v
def keys (m:List (de×β)):List de:=m.map (·.1)
theorem l9 (m:List (de×β)) (k:de) (v:β) (j:de):eM (gE m k v) j=if k=j then some v else eM m j:=by
 induction m with
 |nil=>simp[gE,eM]
 |cons p m ih=>
  obtain⟨x,u⟩:=p;unfold gE;split
  ·rename_i h;subst h;simp only[eM];split<;>rfl
  ·rename_i h;simp only[eM,ih];by_cases h1:x=j
   ·subst h1;rw[if_pos rfl,if_neg (λe=>h e.symm),if_pos rfl]
   ·rw[if_neg h1,if_neg h1]
theorem R3 (m:List (de×β)) (k:de) (v:β) (j:de):j∈keys (gE m k v)↔j=k\/j∈keys m:=by
 induction m with
 |nil=>simp[gE,keys]
 |cons p m ih=>
  obtain⟨x,u⟩:=p;unfold gE;split
  ·rename_i h;subst h;simp[keys]
  ·simp only[keys,List.map_cons,List.mem_cons] at ih⊢;rw[ih];constructor
   ·rintro(h|h|h)
    ·exact .inr (.inl h)
    ·exact .inl h
    ·exact .inr (.inr h)
   ·rintro(h|h|h)
    ·exact .inr (.inl h)
    ·exact .inl h
    ·exact .inr (.inr h)
theorem R4 {m:List (de×β)} (h: (keys m).Nodup) (k:de) (v:β): (keys (gE m k v)).Nodup:=by
 induction m with
 |nil=>simp[gE,keys]
 |cons p m ih=>
  obtain⟨x,u⟩:=p;unfold gE;simp only[keys,List.map_cons,List.nodup_cons] at h;split
  ·rename_i hx;subst hx;simpa[keys] using h
  ·rename_i hx;simp only[keys,List.map_cons,List.nodup_cons];refine⟨λhm=>?_,ih h.2⟩;rcases(R3 m k v x).1 hm with e|e
   ·exact hx e
   ·exact h.1 e
theorem Kg (m:List (de×β)) (k:de): ((keys m).findIdx? (λx=>decide (x=k))).bind (λi=>(m[i]?).map (·.2))=eM m k:=by
 induction m with
 |nil=>simp[eM,keys]
 |cons p m ih=>
  obtain⟨x,u⟩:=p;simp only[eM,keys,List.map_cons,List.findIdx?_cons] at ih⊢;split
  ·rename_i h;rw[if_pos (by simpa using h)];simp
  ·rename_i h;rw[if_neg (by simpa using h),<-ih];cases (m.map (·.1)).findIdx? (λx=>decide (x=k))<;>simp
theorem Kh {m:List (de×β)} {k:de} (h: (keys m).findIdx? (λx=>decide (x=k))=none) (v:β):gE m k v=m++[(k,v)]:=by
 induction m with
 |nil=>rfl
 |cons p m ih=>
  obtain⟨x,u⟩:=p;simp only[keys,List.map_cons,List.findIdx?_cons] at h;split at h
  ·cases h
  ·rename_i hx;simp only[Option.map_eq_none_iff] at h;unfold gE;rw[if_neg (by simpa using hx),ih h];rfl
theorem R5 {m:List (de×β)} {k:de} {i:Nat} (h: (keys m).findIdx? (λx=>decide (x=k))=some i):∃u,m[i]?=some (k,u):=by
 obtain⟨hlt,h1,_⟩:=List.findIdx?_eq_some_iff_getElem.1 h;simp only[keys,List.getElem_map,decide_eq_true_eq] at h1;simp only[keys,List.length_map] at hlt;exact⟨m[i].2,by rw[List.getElem?_eq_getElem hlt,<-h1]⟩
theorem R6 {m:List (de×β)} {k:de} {i:Nat} (h: (keys m).findIdx? (λx=>decide (x=k))=some i) (v:β):gE m k v=m.set i (k,v)/\∃u,m[i]?=some (k,u):=by
 induction m generalizing i with
 |nil=>simp[keys] at h
 |cons p m ih=>
  obtain⟨x,u⟩:=p;simp only[keys,List.map_cons,List.findIdx?_cons] at h;unfold gE;split at h
  ·rename_i hx;simp only[Option.some.injEq] at h;subst h;have hx':x=k:=by simpa using hx
   subst hx';rw[if_pos rfl];exact⟨rfl,u,rfl⟩
  ·rename_i hx;simp only[Option.map_eq_some_iff] at h;obtain⟨j,hj,rfl⟩:=h;obtain⟨h1,u',h2⟩:=ih hj;rw[if_neg (by simpa using hx),h1];exact⟨rfl,u',by simpa using h2⟩
end
section
variable {de β:Type} [DecidableEq de] {kv:de->Value} {cV:β->Value} {m:List (de×β)}
structure qw (kv:de->Value) (cV:β->Value) (m:List (de×β)) (es:Array MapEntry) (clock:Nat):Prop where
 key:es.toList.map (·.key)=(keys m).map kv
 val:es.toList.map (·.val)=m.map (λp=>cV p.2)
 nodup: (keys m).Nodup
 born:∀e∈es.toList,e.born<clock
 Fa:es.toList.Pairwise (λa b=>a.born<b.born)
def fK (w:World) (C:Nat->Nat) (j b:Nat) (kv:de->Value) (cV:β->Value) (m:List (de×β)):Prop:=
 C b=j/\∃es clock,w.heap[b]?=some (.map es clock)/\qw kv cV m es clock
def q9 (w:World) (M:Nat->Prop) (kv:de->Value) (cV:β->Value) (m:List (de×β)) (v:Value):Prop:=
 ∃b,v=.map (some b)/\¬M b/\∃es clock,w.heap[b]?=some (.map es clock)/\qw kv cV m es clock
variable {w w':World} {I:List Nat} {C aP:Nat->Nat} {j b n:Nat} {v:Value}
theorem fK.st (h:fK w C j b kv cV m) (hs:ay I w C w' aP) (hj:j∉I):fK w' aP j b kv cV m:=by
 obtain⟨hc,es,clock,hb,hm⟩:=h;exact⟨(hs.col b (pO hb)).trans hc,es,clock,hs.ext.si hb (by rw[hc];exact hj),hm⟩
theorem q9.st (h:q9 w (aB C) kv cV m v) (hs:ay I w C w' aP) (h0:0∉I):q9 w' (aB aP) kv cV m v:=by
 obtain⟨b,e,hn,es,clock,hb,hm⟩:=h;have hc:C b=0:=by by_cases hz:C b=0;exact hz;exact absurd hz hn
 refine⟨b,e,?_,es,clock,hs.ext.si hb (by rw[hc];exact h0),hm⟩;unfold aB;rw[hs.col b (pO hb)];exact hn
theorem fK.t (h:fK w C j b kv cV m) (hs:ay I w C w' aP) (hj:j∉I:=by first|decide|(simp<;>omega)):fK w' aP j b kv cV m:=h.st hs hj
theorem q9.t (h:q9 w (aB C) kv cV m v) (hs:ay I w C w' aP) (h0:0∉I:=by first|decide|(simp<;>omega)):q9 w' (aB aP) kv cV m v:=h.st hs h0
theorem fK.out {w₀:World} {jY D:Nat->Nat} (h:fK w' aP j b kv cV m) (hs:ay I w₀ D w' aP) (hF:aM w₀ jY) (hD:aB D=aB jY) (hj:∀b,b<w₀.heap.size->D b≠j):q9 w' (aB jY) kv cV m (.map (some b)):=by
 obtain⟨hc,r⟩:=h;refine⟨b,rfl,λhm=>?_,r⟩;obtain⟨h1,h2,h3⟩:=hs.EW hF hD b hm;exact hj b h1 (by rw[<-h2];exact hc)
variable {P:Program} {N:Nat} {env:Env} {x y z q:Operand} {t kt et:TypeId}
theorem Ki {es:Array MapEntry} {clock:Nat} (hm:qw kv cV m es clock) (k:de):
  ((keys m).findIdx? (λx=>decide (x=k))).bind (λi=>(es.toList[i]?).map λe=>(i,e.val))=
   ((keys m).findIdx? (λx=>decide (x=k))).bind (λi=>(m[i]?).map λp=>(i,cV p.2)):=by
 cases (keys m).findIdx? (λx=>decide (x=k)) with
 |none=>rfl
 |some i=>
  simp only[Option.bind_some];have h1: (es.toList.map (·.val))[i]?=(m.map (λp=>cV p.2))[i]?:=by rw[hm.val]
  simp only[List.getElem?_map] at h1;cases h2:es.toList[i]? with
  |none=>rw[h2] at h1;cases h3:m[i]? with
   |none=>rfl
   |some p=>rw[h3] at h1;cases h1
  |some e=>rw[h2] at h1;cases h3:m[i]? with
   |none=>rw[h3] at h1;cases h1
   |some p=>rw[h3] at h1;simp only[Option.map_some,Option.some.injEq] at h1⊢;rw[h1]
theorem Z8 {es:Array MapEntry} {clock:Nat} (ht:P.underlying t=some (.map kt et)) (hk:tv P kt kv) {z0:β} (hz:tg P et=some [cV z0]) (hagg:∀z:Value,z.cells=#[cV z0]->z=cV z0)
  (hb:w.heap[b]?=some (.map es clock)) (hm:qw kv cV m es clock) (k:de) (ok:Bool):
  (Instr.lookup t (.map (some b)) (kv k) ok).run P w=.ok (if ok then .tuple #[cV ((eM m k).getD z0),.bool (eM m k).isSome] else cV ((eM m k).getD z0)) w:=by
 obtain⟨kG,h1,h2⟩:=Cw hz w;have h3:=hagg kG (by simpa using h2);subst h3;have hf:=hk.find k es.toList (keys m) w hm.key;rw[Ki hm] at hf;have hg:=Kg m k;have k8: (getObj b).run P w=.ok (.map es clock) w:=by simp[getObj,Sem.run,hb]
 unfold Instr.lookup;simp only[Sem.run_bind,run_underlying ht,Result.andThen_ok,k8,Sem.run_pure,hk.check,hf];cases hi: (keys m).findIdx? (λx=>decide (x=k)) with
 |none=>
  rw[hi] at hg;simp only[Option.bind_none] at hg⊢;simp only[Sem.run_bind,h1,Result.andThen_ok,Sem.run_pure,<-hg];cases ok<;>rfl
 |some i=>
  rw[hi] at hg;simp only[Option.bind_some] at hg⊢;cases hp:m[i]? with
  |none=>
   have:=(List.findIdx?_eq_some_iff_getElem.1 hi).1;simp only[keys,List.length_map] at this;rw[List.getElem?_eq_none_iff] at hp;omega
  |some p=>
   rw[hp] at hg;simp only[Option.map_some] at hg⊢;simp only[Sem.run_pure,Result.andThen_ok,<-hg];cases ok<;>rfl
end
section
variable {de β:Type} [DecidableEq de] {kv:de->Value} {cV:β->Value} {m:List (de×β)} {es:Array MapEntry} {clock:Nat}
theorem qw.push (h:qw kv cV m es clock) {k:de} (hk: (keys m).findIdx? (λx=>decide (x=k))=none) (x:β):
  qw kv cV (gE m k x) (es.push {key:=kv k,val:=cV x,born:=clock}) (clock+1) where
 key:=by rw[Kh hk];simp[keys,h.key]
 val:=by rw[Kh hk];simp[h.val]
 nodup:=R4 h.nodup k x
 born e he:=by
  simp only[Array.toList_push,List.mem_append,List.mem_singleton] at he;rcases he with he|rfl
  ·have:=h.born e he;omega
  ·exact Nat.lt_succ_self _
 Fa:=by
  rw[Array.toList_push,List.pairwise_append];refine⟨h.Fa,List.pairwise_singleton _ _,λa ha b hb=>?_⟩;simp only[List.mem_singleton] at hb;subst hb;exact h.born a ha
theorem Kj {γ:Type} (f:MapEntry->γ) (g:MapEntry->MapEntry) (i:Nat) (l:List MapEntry) (hg:∀e,l[i]?=some e->f (g e)=f e): (l.modify i g).map f=l.map f:=by
 apply List.ext_getElem?;intro j;simp only[List.getElem?_map,List.getElem?_modify];cases hj:l[j]? with
 |none=>rfl
 |some e=>
  simp only[Option.map_some];split
  ·rename_i h;subst h;simp[hg e hj]
  ·simp
theorem qw.modify (h:qw kv cV m es clock) {k:de} {i:Nat} (hk: (keys m).findIdx? (λx=>decide (x=k))=some i) (x:β):
  qw kv cV (gE m k x) (es.modify i λe=>{e with key:=kv k,val:=cV x}) clock:=by
 obtain⟨h1,u,h2⟩:=R6 hk x;have hkeys:keys (gE m k x)=keys m:=by
  rw[h1];apply List.ext_getElem?;intro j;simp only[keys,List.getElem?_map,List.getElem?_set];split
  ·rename_i e;subst e;split
   ·rw[h2];rfl
   ·rename_i hlt;rw[List.getElem?_eq_none (by omega)]
  ·rfl
 have hmem:∀e,e∈(es.modify i λe=>{e with key:=kv k,val:=cV x}).toList->∃e'∈es.toList,e'.born=e.born:=λe he=>by
  rw[Array.toList_modify] at he;obtain⟨j,hj⟩:=List.mem_iff_getElem?.1 he;rw[List.getElem?_modify] at hj;cases hjj:es.toList[j]? with
  |none=>rw[hjj] at hj;cases hj
  |some e'=>
   rw[hjj] at hj;refine⟨e',List.mem_of_getElem? hjj,?_⟩;simp only[Option.map_eq_map,Option.map_some,Option.some.injEq] at hj;split at hj<;>subst hj<;>rfl
 refine⟨?_,?_,by rw[hkeys];exact h.nodup,λe he=>?_,?_⟩
 ·rw[Array.toList_modify,hkeys,<-h.key];refine Kj _ _ _ _ (λe he=>?_);have: (es.toList.map (·.key))[i]?=((keys m).map kv)[i]?:=by rw[h.key]
  simp only[List.getElem?_map,he,Option.map_some,keys,h2] at this;simpa using this.symm
 ·rw[Array.toList_modify,h1];apply List.ext_getElem?;intro j;have hval: (es.toList.map (·.val))[j]?=(m.map (λp=>cV p.2))[j]?:=by rw[h.val]
  simp only[List.getElem?_map] at hval;simp only[List.getElem?_map,List.getElem?_modify,List.getElem?_set];by_cases hij:i=j
  ·subst hij;have hlt:i<m.length:=(List.getElem?_eq_some_iff.1 h2).1;rw[h2] at hval;cases he:es.toList[i]? with
   |none=>rw[he] at hval;cases hval
   |some e=>simp[hlt]
  ·simp only[if_neg hij,Option.map_id',id_eq];simpa using hval
 ·obtain⟨e',he',hb⟩:=hmem e he;rw[<-hb];exact h.born e' he'
 ·rw[Array.toList_modify];have hp: (es.toList.map (·.born)).Pairwise (·<·):=by rw[List.pairwise_map];exact h.Fa
  have hq: ((es.toList.modify i λe=>{e with key:=kv k,val:=cV x}).map (·.born)).Pairwise (·<·):=by
   rw[Kj (λe=>e.born) (λe=>{e with key:=kv k,val:=cV x}) i es.toList (λe _=>rfl)];exact hp
  rw[List.pairwise_map] at hq;exact hq
variable {w w':World} {I:List Nat} {C aP:Nat->Nat} {M:Nat->Prop} {j b n:Nat} {v:Value} {P:Program} {N:Nat} {env:Env} {x y z q:Operand} {t kt et:TypeId}
theorem Kk {o o':Obj} (hb:w.heap[b]?=some o) (hno:∀c e f,o≠ .cells c e f): (setObj b o').run P w=.ok () {w with heap:=w.heap.setIfInBounds b o'}:=by
 unfold setObj Sem.run;rw[hb];cases o with
 |cells c e f=>exact absurd rfl (hno c e f)
 |_=>rfl
theorem Kl {o:Obj} (o':Obj) (hb:w.heap[b]?=some o):wh w {w with heap:=w.heap.setIfInBounds b o'} b o':=by
 have hlt:=pO hb;refine⟨⟨rfl,rfl,rfl,by simp,λc _ hc=>?_,l8.refl rfl⟩,?_,by simp⟩
 ·simp only[Array.getElem?_setIfInBounds];rw[if_neg (λe=>hc e.symm)]
 ·simp[Array.getElem?_setIfInBounds,hlt]
theorem Km {o o':Obj} (h:wh w w' b o') (hc:C b=j):ay [j] w C w' C:=⟨h.ext.mono (λc _ hcb=>by rw[show c=b from hcb,hc];simp),λ_ _=>rfl⟩
theorem R7 (h:qw kv cV m es clock) {k:de} {i:Nat} (hk: (keys m).findIdx? (λx=>decide (x=k))=some i): (es[i]?).map (·.key)=some (kv k):=by
 obtain⟨u,h2⟩:=R5 hk;have: (es.toList.map (·.key))[i]?=((keys m).map kv)[i]?:=by rw[h.key]
 simp only[List.getElem?_map,keys,h2,Option.map_some] at this;rw[<-this];simp
theorem x5 (hF:aM w C) (j:Nat) (kv:de->Value) (cV:β->Value):gZ P N env (.makeMap t none) w (λv w'=>∃aP b,v=.map (some b)/\ay [] w C w' aP/\fK w' aP j b kv cV []/\aM w' aP):=oP λρ hρ o ho=>by
 have hn:=tf w (.map #[] 0);obtain⟨aP,h1,h2,h3⟩:=hn.own hF j;refine⟨.map (some w.heap.size),w.alloc (.map #[] 0),.inl ?_,aP,_,rfl,h1,⟨h2.col,#[],0,h2.at_,⟨rfl,rfl,by simp[keys],λe he=>by simp at he,by simp⟩⟩,h3⟩;unfold execOp;rw[ho];simp[go_sem,Instr.makeMap]
variable {z0:β}
def CN (P:Program) (et:TypeId) (v:Value):Prop:=∀w,(zeroValue et).run P w=.ok v w
theorem Fb (ht:P.underlying t=some (.map kt et)) (hk:tv P kt kv) (hz:CN P et (cV z0)) (hb:w.heap[b]?=some (.map es clock)) (hm:qw kv cV m es clock) {k:de} {ok:Bool}
  (hx:ev env x=some (.map (some b))) (hy:ev env y=some (kv k)):
  c5 P N env (.lookup t x y ok) w (if ok then .tuple #[cV ((eM m k).getD z0),.bool (eM m k).isSome] else cV ((eM m k).getD z0)):=mk' λρ hρ o ho=>by
 have hf:=hk.find k es.toList (keys m) w hm.key;rw[Ki hm] at hf;have hg:=Kg m k;have k8: (getObj b).run P w=.ok (.map es clock) w:=by simp[getObj,Sem.run,hb]
 unfold execOp;rw[ho];simp only[hρ _ _ hx,hρ _ _ hy];unfold Instr.lookup;simp only[Sem.run_bind,run_underlying ht,Result.andThen_ok,k8,Sem.run_pure,hk.check,hf];cases hi: (keys m).findIdx? (λx=>decide (x=k)) with
 |none=>
  rw[hi] at hg;simp only[Option.bind_none] at hg⊢;simp only[Sem.run_bind,hz w,Result.andThen_ok,Sem.run_pure,<-hg];cases ok<;>rfl
 |some i=>
  rw[hi] at hg;simp only[Option.bind_some] at hg⊢;cases hp:m[i]? with
  |none=>
   have:=(List.findIdx?_eq_some_iff_getElem.1 hi).1;simp only[keys,List.length_map] at this;rw[List.getElem?_eq_none_iff] at hp;omega
  |some p=>
   rw[hp] at hg;simp only[Option.map_some] at hg⊢;simp only[Sem.run_pure,Result.andThen_ok,<-hg];cases ok<;>rfl
theorem fK.lookup (h:fK w C j b kv cV m) (ht:P.underlying t=some (.map kt et)) (hk:tv P kt kv) (hz:CN P et (cV z0)) {k:de}
  (hx:ev env x=some (.map (some b))) (hy:ev env y=some (kv k)):c5 P N env (.lookup t x y false) w (cV ((eM m k).getD z0)):=by
 obtain⟨_,es,clock,hb,hm⟩:=h;exact Fb (ok:=false) ht hk hz hb hm hx hy
theorem fK.Kn (h:fK w C j b kv cV m) (ht:P.underlying t=some (.map kt et)) (hk:tv P kt kv) (hz:CN P et (cV z0)) {k:de}
  (hx:ev env x=some (.map (some b))) (hy:ev env y=some (kv k)):c5 P N env (.lookup t x y true) w (.tuple #[cV ((eM m k).getD z0),.bool (eM m k).isSome]):=by
 obtain⟨_,es,clock,hb,hm⟩:=h;exact Fb (ok:=true) ht hk hz hb hm hx hy
theorem q9.lookup (h:q9 w M kv cV m v) (ht:P.underlying t=some (.map kt et)) (hk:tv P kt kv) (hz:CN P et (cV z0)) {k:de}
  (hx:ev env x=some v) (hy:ev env y=some (kv k)):c5 P N env (.lookup t x y false) w (cV ((eM m k).getD z0)):=by
 obtain⟨b,rfl,_,es,clock,hb,hm⟩:=h;exact Fb (ok:=false) ht hk hz hb hm hx hy
theorem tw (h:fK w C j b kv cV m) (ht:P.underlying t=some (.map kt et)) (hk:tv P kt kv) {k:de} {u:β}
  (hx:ev env x=some (.map (some b))) (hy:ev env y=some (kv k)) (hz:ev env z=some (cV u)):
  gZ P N env (.mapUpdate t x y z) w (λv w'=>v=undef/\ay [j] w C w' C/\fK w' C j b kv cV (gE m k u)):=oP λρ hρ o ho=>by
 obtain⟨hc,es,clock,hb,hm⟩:=h;have hf:=hk.find k es.toList (keys m) w hm.key;have k8: (getObj b).run P w=.ok (.map es clock) w:=by simp[getObj,Sem.run,hb]
 cases hi: (keys m).findIdx? (λx=>decide (x=k)) with
 |none=>
  rw[hi] at hf;have hu:=Kl (.map (es.push {key:=kv k,val:=cV u,born:=clock}) (clock+1)) hb;refine⟨undef,_,.inr ⟨?_,rfl⟩,rfl,Km (o:=.map #[] 0) hu hc,hc,_,_,hu.at_,hm.push hi u⟩;unfold execOp;rw[ho];simp only[hρ _ _ hx,hρ _ _ hy,hρ _ _ hz];unfold Instr.mapUpdate;simp only[Sem.run_bind,run_underlying ht,Result.andThen_ok,k8,hk.check,hf,Option.bind_none];rw[Kk hb (λ_ _ _ h=>by cases h)];rfl
 |some i=>
  rw[hi] at hf;have hu:=Kl (.map (es.modify i λe=>{e with key:=kv k,val:=cV u}) clock) hb;have hke:=R7 hm hi;have hlt:i<es.size:=by
   have:=(List.findIdx?_eq_some_iff_getElem.1 hi).1;have h2:=congrArg List.length hm.key;simp only[List.length_map,Array.length_toList] at h2;omega
  have R8: ((es[i]?).map (·.key)).getD (kv k)=kv k:=by rw[hke];rfl
  refine⟨undef,_,.inr ⟨?_,rfl⟩,rfl,Km (o:=.map #[] 0) hu hc,hc,_,_,hu.at_,hm.modify hi u⟩;unfold execOp;rw[ho];simp only[hρ _ _ hx,hρ _ _ hy,hρ _ _ hz];unfold Instr.mapUpdate;have hel:es.toList[i]?=some es[i]:=by simp[hlt]
  simp only[Sem.run_bind,run_underlying ht,Result.andThen_ok,k8,hk.check,hf,Option.bind_some,hel,Option.map_some];simp only[Sem.run_bind,Instr.keyThatStays,R8,hk.bits,if_true,Sem.run_pure,Result.andThen_ok];rw[Kk hb (λ_ _ _ h=>by cases h)];rfl
end
section
variable {de β:Type} [DecidableEq de] {kv:de->Value} {cV:β->Value} {m:List (de×β)} {es:Array MapEntry} {clock:Nat}
variable {w w':World} {I:List Nat} {C aP:Nat->Nat} {M:Nat->Prop} {j b n:Nat} {v:Value} {P:Program} {N:Nat} {env:Env} {x y z q:Operand} {t kt et:TypeId} {z0:β}
variable {it ei:Nat} {left:List (de×β)} {cur:Option (de×β)}
end
abbrev Fc:Bool->Value:=λb=> .bool b
abbrev dg:av->Value:=λc=> .agg #[.int .i64 c.a,.int .i64 c.b]
abbrev x6:Nat->Value:=λn=> .int .i64 (n:Int)
def ij:List Int->Int
 |[]=>0
 |a::l=>if a=0 then ij l else a
def jZ (x y:Int):Int:=if x<y then-1 else if y<x then 1 else 0
def jJ (x y:av):Int:=ij [jZ x.a y.a,jZ x.b y.b]
theorem R9 {l:List Int} {i:Nat} (h:i<l.length):ij (l.drop i)=if l[i]=0 then ij (l.drop (i+1)) else l[i]:=by
 rw[List.drop_eq_getElem_cons h];rfl
section
variable {P:Program} {t ti:TypeId} {n0 n1 q_ ri rj rm:String} {e0 e1:Bool} {y0 y1:Nat}
theorem Ai (hi:P.underlying ti=some (.int .i64)) (a b:Int) (i:Nat) (v:Value) (w:World) (hv: (#[Value.int .i64 a,Value.int .i64 b])[i]?=some v): (part ti #[.int .i64 a,.int .i64 b] i).run P w=.ok v w:=
 run_part_plain w (by simp[Program.plainKey,hi]) hv
theorem Fe (h:P.underlying t=some (.struct #[⟨n0,ti,0,e0,q_,rj,y0⟩,⟨n1,ti,1,e1,ri,rm,y1⟩])) (h0:n0≠"_") (h1:n1≠"_") (hS:P.stoodInHeld t=false)
  (hi:P.underlying ti=some (.int .i64)):E_ P t dg:=λd a b w=>by
 have hpt:=λa b i v w=>Ai (P:=P) hi a b i v w;have hf:P.fieldsOf t=#[⟨n0,ti,0,e0,q_,rj,y0⟩,⟨n1,ti,1,e1,ri,rm,y1⟩]:=by simp[Program.fieldsOf,h]
 have he:=λ(x y:Int)=>run_equalIn_int (P:=P) w (d+6) ti .i64 .i64 x y hi;rw[show d+8=(d+7)+1 from rfl,run_equalIn_struct w (d+7) t _ _ (by rw[hf];exact h) hS,hf];have oQ:∀c:av,(part ti #[.int .i64 c.a,.int .i64 c.b] 0).run P w=.ok (.int .i64 c.a) w:=λc=>hpt _ _ 0 _ w rfl;have p1:∀c:av,(part ti #[.int .i64 c.a,.int .i64 c.b] 1).run P w=.ok (.int .i64 c.b) w:=λc=>hpt _ _ 1 _ w rfl;have hd: (decide (a=b))=((a.a==b.a)&&(a.b==b.b)):=by
  cases a;cases b;simp only[av.mk.injEq,Bool.decide_and];rfl
 simp only[Op.eqFields,Sem.run_bind,Sem.run_ite,h0,h1,ne_eq,not_false_eq_true,if_true,oQ,p1,Result.andThen_ok,he,hd];cases (a.a==b.a)<;>cases (a.b==b.b)<;>simp
theorem mb (h:P.underlying t=some (.struct #[⟨n0,ti,0,e0,q_,rj,y0⟩,⟨n1,ti,1,e1,ri,rm,y1⟩])) (h0:n0≠"_") (h1:n1≠"_") (hS:P.stoodInHeld t=false)
  (hi:P.underlying ti=some (.int .i64)):tv P t dg:=by
 have hpt:=λa b i v w=>Ai (P:=P) hi a b i v w;refine Kf h (Fe h h0 h1 hS hi) (λe k w=>?_) (λk=>by simp[Instr.sameBits]) (λa b hab=>?_)
 ·have oQ: (part ti #[.int .i64 k.a,.int .i64 k.b] 0).run P w=.ok (.int .i64 k.a) w:=hpt _ _ 0 _ w rfl;have p1: (part ti #[.int .i64 k.a,.int .i64 k.b] 1).run P w=.ok (.int .i64 k.b) w:=hpt _ _ 1 _ w rfl;have q:∀(x:Int),(Instr.checkKey e 9999 ti (.int .i64 x)).run P w=.ok () w:=λx=>by unfold Instr.checkKey;simp[run_underlying hi]
  rw[show(10000:Nat)=9999+1 from rfl,Instr.checkKey];simp only[Sem.run_bind,run_underlying h,Result.andThen_ok];rw[<-Array.forIn_toList];simp only[List.forIn_cons,List.forIn_nil,Sem.run_bind,Sem.run_ite,h0,h1,ne_eq,not_false_eq_true,if_true,oQ,p1,q,Result.andThen_ok,Sem.run_pure]
 ·cases a;cases b;simp at hab;simp[hab]
theorem Ko (h:P.underlying t=some (.struct #[⟨n0,ti,0,e0,q_,rj,y0⟩,⟨n1,ti,1,e1,ri,rm,y1⟩])) (h0:n0≠"_") (h1:n1≠"_")
  (hi:P.underlying ti=some (.int .i64)) (d:Nat) (a b:av) (w:World): (Op.eqGuardIn (d+2) t (dg a) (dg b)).run P w=.ok false w:=by
 have hpt:=λa b i v w=>Ai (P:=P) hi a b i v w;have oQ:∀c:av,(part ti #[.int .i64 c.a,.int .i64 c.b] 0).run P w=.ok (.int .i64 c.a) w:=λc=>hpt _ _ 0 _ w rfl;have p1:∀c:av,(part ti #[.int .i64 c.a,.int .i64 c.b] 1).run P w=.ok (.int .i64 c.b) w:=λc=>hpt _ _ 1 _ w rfl;have q:∀(x y:Int),(Op.eqGuardIn (d+1) ti (.int .i64 x) (.int .i64 y)).run P w=.ok false w:=λx y=>by unfold Op.eqGuardIn;simp[run_underlying hi]
 rw[show d+2=(d+1)+1 from rfl,Op.eqGuardIn];simp only[Sem.run_bind,run_underlying h,Result.andThen_ok];rw[<-Array.forIn_toList];simp only[List.forIn_cons,List.forIn_nil,Sem.run_bind,Sem.run_ite,h0,h1,ne_eq,not_false_eq_true,if_true,oQ,p1,q,Result.andThen_ok,Sem.run_pure,Bool.false_eq_true,if_false]
variable {N:Nat} {env:Env} {x y:Operand} {u:TypeId} {a b:av} {w:World}
theorem iY (h:P.underlying t=some (.struct #[⟨n0,ti,0,e0,q_,rj,y0⟩,⟨n1,ti,1,e1,ri,rm,y1⟩])) (h0:n0≠"_") (h1:n1≠"_") (hS:P.stoodInHeld t=false)
  (hi:P.underlying ti=some (.int .i64)) (hx:ev env x=some (dg a)) (hy:ev env y=some (dg b)):c5 P N env (.binOp .eql t x y u) w (.bool (decide (a=b))):=mk' λρ hρ o ho=>by
 have h5:=Fe h h0 h1 hS hi (Op.maxDepth-8) a b w;have h6:=Ko h h0 h1 hi (Op.maxDepth-2) a b w;have h7: (Op.equal t (dg a) (dg b)).run P w=.ok (decide (a=b)) w:=h5;have h8: (Op.eqGuardIn Op.maxDepth t (dg a) (dg b)).run P w=.ok false w:=h6;have e7: (eqGuard .eql t x y (dg a) (dg b)).run P w=.ok () w:=by
  unfold eqGuard;simp only[Sem.run_bind,Sem.run_pure,Sem.run_ite,run_program,Result.andThen_ok,h8,Bool.not_true,Bool.false_eq_true,if_false];cases P.eqGuardType P.depth t<;>simp[h8]
 have jm: (binOp .eql t (dg a) (dg b)).run P w=.ok (.bool (decide (a=b))) w:=by
  show(Op.equal t (dg a) (dg b)>>=λz=>pure (Value.bool z)).run P w=_;rw[Sem.run_bind,h7];rfl
 unfold execOp;rw[ho];simp only[hρ _ _ hx,hρ _ _ hy];simp[Sem.run_bind,e7,jm]
theorem CO (h:P.underlying t=some (.struct #[⟨n0,ti,0,e0,q_,rj,y0⟩,⟨n1,ti,1,e1,ri,rm,y1⟩])) (h0:n0≠"_") (h1:n1≠"_") (hS:P.stoodInHeld t=false)
  (hi:P.underlying ti=some (.int .i64)) (hx:ev env x=some (dg a)) (hy:ev env y=some (dg b)):c5 P N env (.binOp .neq t x y u) w (.bool (decide (a≠b))):=mk' λρ hρ o ho=>by
 have h5:=Fe h h0 h1 hS hi (Op.maxDepth-8) a b w;have h6:=Ko h h0 h1 hi (Op.maxDepth-2) a b w;have h7: (Op.equal t (dg a) (dg b)).run P w=.ok (decide (a=b)) w:=h5;have h8: (Op.eqGuardIn Op.maxDepth t (dg a) (dg b)).run P w=.ok false w:=h6;have e7: (eqGuard .neq t x y (dg a) (dg b)).run P w=.ok () w:=by
  unfold eqGuard;simp only[Sem.run_bind,Sem.run_pure,Sem.run_ite,run_program,Result.andThen_ok,h8,Bool.not_true,Bool.false_eq_true,if_false];cases P.eqGuardType P.depth t<;>simp[h8]
 have jm: (binOp .neq t (dg a) (dg b)).run P w=.ok (.bool (decide (a≠b))) w:=by
  show(Op.equal t (dg a) (dg b)>>=λz=>pure (Value.bool (!z))).run P w=_;rw[Sem.run_bind,h7];simp
 unfold execOp;rw[ho];simp only[hρ _ _ hx,hρ _ _ hy];simp[Sem.run_bind,e7,jm]
end
def nL (x y:av):Bool:=!decide (jJ y x<0)
def iq (l:List av):List av:=l.mergeSort nL
theorem CP (x y:av):jJ x y=if x.a<y.a then-1 else if y.a<x.a then 1 else if x.b<y.b then-1 else if y.b<x.b then 1 else 0:=by
 unfold jJ ij ij ij jZ;by_cases h1:x.a<y.a<;>by_cases h2:y.a<x.a<;>by_cases h3:x.b<y.b<;>by_cases h4:y.b<x.b<;>simp[h1,h2,h3,h4]
theorem uL (x y:av):nL x y=true↔x.a<y.a\/x.a=y.a/\x.b<=y.b:=by
 unfold nL;rw[CP];simp only[Bool.not_eq_true',decide_eq_false_iff_not];split
 ·omega
 ·split
  ·omega
  ·split
   ·omega
   ·split<;>omega
theorem R_ (x y z:av) (h:nL x y=true) (h':nL y z=true):nL x z=true:=by rw[uL] at*;omega
theorem Sb (x y:av): (nL x y||nL y x)=true:=by rw[Bool.or_eq_true,uL,uL];omega
theorem Ff (x y:av) (h:nL x y=true) (h':nL y x=true):x=y:=by
 rw[uL] at*;have h1:x.a=y.a:=by omega
 have h2:x.b=y.b:=by omega
 cases x;cases y;simp only at h1 h2;rw[h1,h2]
theorem Kq (l:List av): (iq l).Pairwise (λx y=>nL x y=true):=List.pairwise_mergeSort R_ Sb l
theorem tA (l:List av): (iq l).Perm l:=List.mergeSort_perm l nL
theorem Kr {γ:Type} {le:γ->γ->Bool} (ha:∀x y,le x y=true->le y x=true->x=y):∀{l l':List γ},l.Perm l'->l.Pairwise (λx y=>le x y=true)->l'.Pairwise (λx y=>le x y=true)->l=l'
 |[],l',hp,_,_=>by simpa using hp.symm.eq_nil.symm
 |a::l,[],hp,_,_=>by simpa using hp.eq_nil
 |a::l,b::l',hp,h1,h2=>by
  have hab:a=b:=by
   by_cases e:a=b
   ·exact e
   ·have hb:b∈a::l:=hp.symm.subset (by simp);have jv:a∈b::l':=hp.subset (by simp);rcases List.mem_cons.1 hb with hb|hb
    ·exact hb.symm
    ·rcases List.mem_cons.1 jv with jv|jv
     ·exact jv
     ·exact ha _ _ ((List.pairwise_cons.1 h1).1 b hb) ((List.pairwise_cons.1 h2).1 a jv)
  subst hab;rw[Kr ha hp.cons_inv (List.pairwise_cons.1 h1).2 (List.pairwise_cons.1 h2).2]
section
variable {α:Type} [DecidableEq α]
def iO:List α->List α
 |[]=>[]
 |[a]=>[a]
 |a::b::l=>if a=b then iO (b::l) else a::iO (b::l)
theorem Ks (b:α):∀(l:List α) (h:l≠[]),iO (l++[b])=if l.getLast h=b then iO l else iO l++[b]
 |[],h=>absurd rfl h
 |[a],_=>by
  by_cases e:a=b
  ·subst e;simp[iO]
  ·simp[iO,e]
 |a::c::l,h=>by
  have ih:=Ks b (c::l) (by simp);simp only[List.cons_append,iO] at ih⊢;rw[List.getLast_cons (by simp)];by_cases hac:a=c
  ·rw[if_pos hac,if_pos hac];exact ih
  ·rw[if_neg hac,if_neg hac,ih];split<;>simp
theorem Kt {l:List α} {k:Nat} (h0:0<k) (h:k<l.length):iO (l.take (k+1))=if l[k-1]'(by omega)=l[k] then iO (l.take k) else iO (l.take k)++[l[k]]:=by
 have hne:l.take k≠[]:=by
  intro e;have: (l.take k).length=0:=by rw[e];rfl
  rw[List.length_take] at this;omega
 rw[List.take_succ_eq_append_getElem h,Ks _ _ hne];have: (l.take k).getLast hne=l[k-1]'(by omega):=by
  rw[List.getLast_eq_getElem];simp only[List.length_take,List.getElem_take];congr 1;omega
 rw[this]
theorem Fg {a:α}:∀{l:List α},a∈iO l↔a∈l
 |[]=>by simp[iO]
 |[b]=>by simp[iO]
 |b::c::l=>by
  have ih:=Fg (a:=a) (l:=c::l);unfold iO;split
  ·rename_i e;subst e;rw[ih];simp
  ·rw[List.mem_cons,ih,List.mem_cons (a:=a) (b:=b)]
theorem Fh:∀l:List α,(iO l).Sublist l
 |[]=>by simp[iO]
 |[b]=>by simp[iO]
 |b::c::l=>by
  have ih:=Fh (c::l);unfold iO;split
  ·exact ih.cons b
  ·exact ih.cons_cons b
theorem Sc (l:List α): (iO l).length<=l.length:=(Fh l).length_le
theorem Ku {le:α->α->Prop} (ha:∀x y,le x y->le y x->x=y):∀{l:List α},l.Pairwise le->(iO l).Nodup
 |[],_=>by simp[iO]
 |[b],_=>by simp[iO]
 |b::c::l,h=>by
  have h2:=(List.pairwise_cons.1 h).2;have ih:=Ku ha h2;unfold iO;split
  ·exact ih
  ·rename_i hne;refine List.nodup_cons.2 ⟨λhm=>?_,ih⟩;rw[Fg] at hm;have hbc:=(List.pairwise_cons.1 h).1 c (by simp);rcases List.mem_cons.1 hm with e|hm
   ·exact hne e
   ·exact hne (ha _ _ hbc ((List.pairwise_cons.1 h2).1 b hm))
end
def Kv:av->List Value:=λc=>[.int .i64 c.a,.int .i64 c.b]
instance:Inhabited av:=⟨⟨0,0⟩⟩
theorem Sd {h:Array Obj} {M:Nat->Prop}:rep h M (⟨0,0⟩:av) [.int .i64 0,.int .i64 0]:=⟨[_],[_],rfl,rfl,rfl⟩
structure aO where
 A:av
 B:av
 w:Int
 deriving DecidableEq
instance:bg aO:=bg.via (λx:aO=>(x.A,(x.B,x.w)))
instance:Inhabited aO:=⟨⟨⟨0,0⟩,⟨0,0⟩,0⟩⟩
abbrev j0 (x:aO):List Value:=[.int .i64 x.A.a,.int .i64 x.A.b,.int .i64 x.B.a,.int .i64 x.B.b,.int .i64 x.w]
abbrev aZ (x:av):List Value:=[.int .i64 x.a,.int .i64 x.b]
section
variable {w:World} {M:Nat->Prop} {b o:Nat} {v:Value}
theorem bP.kH {x:aO} (h:bP w M x b o):bP w M x.A b o:=bP.fst (p:=(x.A,(x.B,x.w))) h
theorem bP.nj {x:aO} (h:bP w M x b o):bP w M x.B b (o+2):=bP.fst (p:=(x.B,x.w)) (bP.snd (p:=(x.A,(x.B,x.w))) h)
theorem bP.rq {x:aO} (h:bP w M x b o):bP w M x.w b (o+4):=bP.snd (p:=(x.B,x.w)) (bP.snd (p:=(x.A,(x.B,x.w))) h)
theorem qx {h:Array Obj} {x:av} {vs:List Value}:rep h M x vs↔vs=aZ x:=
 ⟨λhr=>by
   obtain⟨us,ws,rfl,h1,h2⟩:=hr;rw[show us=[.int .i64 x.a] from h1,show ws=[.int .i64 x.b] from h2];rfl,
  λhr=>by subst hr;exact⟨[_],[_],rfl,rfl,rfl⟩⟩
theorem uM {h:Array Obj} {x:aO} {vs:List Value}:rep h M x vs↔vs=j0 x:=
 ⟨λhr=>by
   obtain⟨us,ws,rfl,h1,Se,Kw,rfl,h2,h3⟩:=hr;have e1:=(qx (M:=M) (h:=h) (x:=x.A)).1 h1;have e2:=(qx (M:=M) (h:=h) (x:=x.B)).1 h2;have fV:Kw=[.int .i64 x.w]:=h3;subst e1 e2 fV;rfl,
  λhr=>by
   subst hr;exact⟨aZ x.A,aZ x.B++[.int .i64 x.w],rfl,(qx (M:=M)).2 rfl,aZ x.B,[.int .i64 x.w],rfl,(qx (M:=M)).2 rfl,rfl⟩⟩
theorem jK {x:aO}:aG w M x v↔v=.agg (j0 x).toArray:=
 ⟨λh=>by obtain⟨vs,h1,h2⟩:=h;rw[uM.1 h1] at h2;exact h2,λh=>⟨_,uM.2 rfl,h⟩⟩
end
structure fL where
 v:Value
instance:Inhabited fL:=⟨⟨.slice none 0 0⟩⟩
instance:bg fL where
 sz:=1
 agg:=false
 flat _:=rfl
 rep _ _ x vs:=vs=[x.v]/\x.v.oneCell'=true
 len h:=by obtain⟨rfl,_⟩:=h;rfl
 one h:=by obtain⟨rfl,h1⟩:=h;intro v hv;simp at hv;subst hv;exact h1
 keep h _:=h
 sub h _:=h
section
variable {w:World} {M:Nat->Prop} {v:Value} {β:Type} [bg β]
theorem kI {x:fL}:aG w M x v↔v=x.v/\x.v.oneCell'=true:=⟨λ⟨vs,h,e⟩=>by obtain⟨rfl,h⟩:=h;exact⟨e,h⟩,λh=>⟨_,⟨rfl,h.2⟩,h.1⟩⟩
theorem aG.Fi {xs:List fL} {ys:List β} (h:aG w M xs v) (hb:bg.agg β=false) (hl:ys.length=xs.length) (he:∀i (h1:i<ys.length) (h2:i<xs.length),aG w M ys[i] xs[i].v):aG w M ys v:=by
 obtain⟨a,c,rfl,hc,h63,h0⟩:=kF.1 h;refine kF.2 ⟨a,c,by rw[hl],by rw[hl];exact hc,by rw[hl];exact h63,?_⟩;rcases h0 with h0|⟨b,o,rfl,ff,cs,ty,eP,hcs,hsz,hr⟩
 ·left;subst h0;exact List.eq_nil_of_length_eq_zero hl
 ·right;have s1:sz β=1:=bg.flat hb;refine⟨b,o,rfl,ff,cs,ty,eP,hcs,by rw[hl,s1];exact hsz,λi hi=>?_⟩;have hi2:i<xs.length:=by omega
  have hv:cH cs (o+i*1) 1=[xs[i].v]:=(hr i hi2).1;rw[s1,hv];exact(he i hi hi2).Rz hb
end
def dV (x y:av):Prop:=x.a<y.a\/x.a=y.a/\x.b<y.b
instance (x y:av):Decidable (dV x y):=by unfold dV;infer_instance
theorem Aj (x:av):¬dV x x:=by unfold dV;omega
theorem x7 {x y z:av} (h:dV x y) (h':dV y z):dV x z:=by unfold dV at*;omega
theorem CQ {x y:av}:nL x y=true↔¬dV y x:=by rw[uL];unfold dV;omega
theorem Ak {x y:av} (h1:x.a=y.a) (h2:x.b=y.b):x=y:=by cases x;cases y;simp_all
theorem Kx (x y:av):dV x y\/x=y\/dV y x:=by
 unfold dV;by_cases h1:x.a=y.a<;>by_cases h2:x.b=y.b
 ·exact .inr (.inl (Ak h1 h2))
 all_goals omega
theorem Ky {x y:av}:jJ x y=0↔x=y:=by
 rw[CP];constructor
 ·intro h;apply Ak<;>(split at h<;>first|omega|(split at h<;>first|omega|(split at h<;>first|omega|(split at h<;>omega))))
 ·intro h;subst h;simp
theorem sq {x y:av}:jJ x y<0↔dV x y:=by
 rw[CP];unfold dV;split
 ·omega
 ·split
  ·omega
  ·split
   ·omega
   ·split<;>omega
def jL (x y:aO):Prop:=dV x.A y.A\/x.A=y.A/\dV x.B y.B
instance (x y:aO):Decidable (jL x y):=by unfold jL;infer_instance
def ru (a b c d:av):Int:=ij [jJ a c,jJ b d]
theorem Sf {x y:aO}:0<=ru x.A x.B y.A y.B↔¬jL x y:=by
 unfold ru jL ij ij ij;have h1:= @Ky x.A y.A;have h2:= @sq x.A y.A;have h3:= @Ky x.B y.B;have h4:= @sq x.B y.B;split
 ·rename_i h;have e:=h1.1 h;rw[<-h4,e];have:¬dV y.A y.A:=Aj _;split
  ·simp_all
  ·simp only[this,false_or,true_and,<-h4];omega
 ·rename_i h;have:¬x.A=y.A:=λe=>h (h1.2 e);rw[<-h2];simp[this]
def lP (r:av):Bool:=decide (0<=r.a)&&decide (r.a<4)&&decide (1<=r.b)&&decide (r.b<=1048576)
def iZ (a b:av):Bool:=lP a&&lP b&&decide (a.a<b.a)
def ry (l:List aO) (i:Nat):Int:=
 if iZ l[i]!.A l[i]!.B=false then 41 else if l[i]!.w<1\/1048576<l[i]!.w then 40 else if 0<i/\¬jL l[i-1]! l[i]! then 12 else 0
def gQ (l:List aO):Int:=if 4096<l.length then 1 else ij ((List.range l.length).map (ry l))
theorem Sg (a b:List Int):ij (a++b)=if ij a=0 then ij b else ij a:=by
 induction a with
 |nil=>simp[ij]
 |cons x a ih=>simp only[List.cons_append,ij];split<;>simp_all
theorem Kz {l:List Int} (h:∀x∈l,x=0):ij l=0:=by
 induction l with
 |nil=>rfl
 |cons x l ih=>simp only[ij];rw[if_pos (h x (by simp))];exact ih (λy hy=>h y (by simp[hy]))
theorem Sh {l:List Int} (h:ij l=0):∀x∈l,x=0:=by
 induction l with
 |nil=>simp
 |cons x l ih=>
  simp only[ij] at h;split at h
  ·rename_i e;intro y hy;rcases List.mem_cons.1 hy with rfl|hy
   ·exact e
   ·exact ih h y hy
  ·rename_i e;exact absurd h e
theorem KA {l:List aO} (h:4096<l.length):gQ l=1:=by unfold gQ;rw[if_pos h]
theorem Fj {l:List aO} (hl:l.length<=4096) (h0:∀k,k<l.length->ry l k=0):gQ l=0:=by
 unfold gQ;rw[if_neg (by omega)];refine Kz λx hx=>?_;obtain⟨k,hk,rfl⟩:=List.mem_map.1 hx;exact h0 k (List.mem_range.1 hk)
theorem range_split {i n:Nat} (h:i<n):List.range n=List.range i++(i::(List.range n).drop (i+1)):=by
 have h1: (List.range n).take i=List.range i:=by rw[List.take_range,Nat.min_eq_left (by omega)]
 have h2: (List.range n).drop i=i::(List.range n).drop (i+1):=by
  rw[List.drop_eq_getElem_cons (by simpa using h)];simp
 rw[<-h1,<-h2,List.take_append_drop]
theorem x8 {l:List aO} {i:Nat} (hl:l.length<=4096) (h:i<l.length) (h0:∀k,k<i->ry l k=0) (he:ry l i≠0):gQ l=ry l i:=by
 unfold gQ;rw[if_neg (by omega),range_split h,List.map_append,Sg,if_pos]
 ·simp only[List.map_cons,ij];rw[if_neg he]
 ·refine Kz λx hx=>?_;obtain⟨k,hk,rfl⟩:=List.mem_map.1 hx;exact h0 k (List.mem_range.1 hk)
theorem KB {l:List aO} (h:gQ l=0):l.length<=4096/\∀k,k<l.length->ry l k=0:=by
 unfold gQ at h;split at h
 ·cases h
 ·exact⟨by omega,λk hk=>Sh h _ (List.mem_map.2 ⟨k,List.mem_range.2 hk,rfl⟩)⟩
theorem Al {l:List aO} (h:gQ l=0):l.length<=4096:=(KB h).1
theorem Fk {l:List aO} {i:Nat} (h:i<l.length):ry l i=if iZ l[i].A l[i].B=false then 41 else if l[i].w<1\/1048576<l[i].w then 40 else if 0<i/\¬jL (l[i-1]'(by omega)) l[i] then 12 else 0:=by
 unfold ry;rw[getElem!_pos l i h,getElem!_pos l (i-1) (by omega)]
def okB (x:aO):Prop:=iZ x.A x.B=true/\1<=x.w/\x.w<=1048576
def oT (l:List aO):Prop:=l.length<=4096/\(∀x∈l,okB x)/\l.Pairwise jL
theorem oT.check {l:List aO} (h:oT l):gQ l=0:=by
 obtain⟨h1,h2,h3⟩:=h;refine Fj h1 λk hk=>?_;have hx:=h2 l[k] (List.getElem_mem hk);unfold ry;rw[getElem!_pos l k hk,if_neg (by simp[hx.1]),if_neg (by have:=hx.2;omega)];split
 ·rename_i h;exfalso;obtain⟨h0,hn⟩:=h;rw[getElem!_pos l (k-1) (by omega)] at hn;exact hn (List.pairwise_iff_getElem.1 h3 (k-1) k (by omega) hk (by omega))
 ·rfl
theorem oT.sub {l l':List aO} (h:oT l) (hs:l'.Sublist l):oT l':=⟨Nat.le_trans hs.length_le h.1,λx hx=>h.2.1 x (hs.subset hx),h.2.2.sublist hs⟩
def lp (l:List aO):List av:=l.flatMap λx=>[x.A,x.B]
def aW (l:List aO):List av:=iO (iq (lp l))
theorem Si (l:List aO) (x:aO):lp (l++[x])=lp l++[x.A,x.B]:=by simp[lp]
theorem KC {l:List aO} {i:Nat} (h:i<l.length):lp (l.take (i+1))=lp (l.take i)++[l[i].A,l[i].B]:=by
 rw[List.take_succ_eq_append_getElem h,Si]
theorem Am (l:List aO): (lp l).length=2*l.length:=by
 induction l with
 |nil=>rfl
 |cons x l ih=>simp only[lp,List.flatMap_cons,List.length_append,List.length_cons,List.length_nil] at*;omega
theorem Sj (l:List av): (iq l).length=l.length:=(tA l).length_eq
theorem kW (l:List aO): (aW l).length<=2*l.length:=by
 unfold aW;have:=Sc (iq (lp l));rw[Sj,Am] at this;exact this
theorem jM {l:List aO} {r:av}:r∈aW l↔∃x∈l,r=x.A\/r=x.B:=by
 unfold aW;rw[Fg,(tA _).mem_iff];simp[lp,List.mem_flatMap]
theorem tB (l:List aO): (aW l).Pairwise dV:=by
 unfold aW;have h1:=Kq (lp l);have h2:=Ku (le:=λx y=>nL x y=true) Ff h1;have h3:=h1.sublist (Fh _);refine(h3.and h2).imp λ{x y} ⟨h4,h5⟩=>?_;rcases Kx x y with h|h|h
 ·exact h
 ·exact absurd h h5
 ·exact absurd h (CQ.1 h4)
theorem wv {l:List av} (h:l.Pairwise dV):l.Nodup:=h.imp λ{x y} hxy e=>by subst e;exact Aj _ hxy
theorem tC (l:List aO): (aW l).Nodup:=wv (tB l)
theorem An {l l':List av} (h:l.Pairwise dV) (h':l'.Pairwise dV) (hm:∀r,r∈l↔r∈l'):l=l':=by
 have hp:l.Perm l':=(List.perm_ext_iff_of_nodup (wv h) (wv h')).2 hm;refine Kr Ff hp (h.imp λ{x y} hxy=>CQ.2 λh2=>Aj _ (x7 hxy h2)) (h'.imp λ{x y} hxy=>CQ.2 λh2=>Aj _ (x7 hxy h2))
def pU (ρ:av->av) (a b:av):av->av:=λr=>if ρ r=ρ a then ρ b else ρ r
def uN (ρ:av->av) (l:List aO):av->av:=l.foldl (λρ x=>pU ρ x.A x.B) ρ
def b_ (l:List aO):av->av:=uN id l
theorem Sk (l:List aO) (x:aO):b_ (l++[x])=pU (b_ l) x.A x.B:=by unfold b_ uN;rw[List.foldl_append];rfl
theorem KD {γ:Type} (p:av->γ):∀(l:List aO) (ρ:av->av),(∀x∈l,p x.A=p x.B)->(∀r,p (ρ r)=p r)->∀r,p (uN ρ l r)=p r
 |[],ρ,_,h,r=>h r
 |x::l,ρ,hx,h,r=>by
  show p (uN (pU ρ x.A x.B) l r)=p r;refine KD p l _ (λy hy=>hx y (by simp[hy])) (λs=>?_) r;unfold pU;split
  ·rename_i e;rw[h,<-hx x (by simp),<-h x.A,<-e,h]
  ·exact h s
theorem uO {γ:Type} {p:av->γ} {l:List aO} (hx:∀x∈l,p x.A=p x.B) (r:av):p (b_ l r)=p r:=KD p l id hx (λ_=>rfl) r
theorem KE:∀(l:List aO) (ρ:av->av) {r s:av},ρ r=ρ s->uN ρ l r=uN ρ l s
 |[],_,_,_,h=>h
 |x::l,ρ,r,s,h=>KE l (pU ρ x.A x.B) (by unfold pU;rw[h])
theorem KF:∀(l:List aO) (ρ:av->av) {x:aO},x∈l->uN ρ l x.A=uN ρ l x.B
 |y::l,ρ,x,h=>by
  rcases List.mem_cons.1 h with rfl|h
  ·exact KE l (pU ρ x.A x.B) (by unfold pU;rw[if_pos rfl];split<;>rfl)
  ·exact KF l _ h
theorem wz {l:List aO} {x:aO} (h:x∈l):b_ l x.A=b_ l x.B:=KF l id h
theorem Fl {l l':List aO} (h:∀x∈l,x∈l') {r s:av} (e:b_ l r=b_ l s):b_ l' r=b_ l' s:=by
 have hp:∀x∈l,b_ l' x.A=b_ l' x.B:=λx hx=>wz (h x hx);rw[<-uO hp r,<-uO hp s,e]
theorem KG {l:List aO} {r:av}:b_ l r∈aW l↔r∈aW l:=by
 have:=uO (p:=λr=>decide (r∈aW l)) (l:=l) (λx hx=>by
  rw[decide_eq_true (jM.2 ⟨x,hx,.inl rfl⟩),decide_eq_true (jM.2 ⟨x,hx,.inr rfl⟩)]) r
 simpa using this
theorem KH {l:List aO} {r:av} (h:r∉aW l):b_ l r=r:=by
 have:=uO (p:=λs=>if s∈aW l then none else some s) (l:=l) (λx hx=>by
  rw[if_pos (jM.2 ⟨x,hx,.inl rfl⟩),if_pos (jM.2 ⟨x,hx,.inr rfl⟩)]) r
 rw[if_neg h,if_neg (λhm=>h (KG.1 hm))] at this;simpa using this
section
variable {α β:Type} [DecidableEq β]
def dP (f:α->β) (xs:List α):List α:=xs.foldl (λacc r=>if acc.any (λq=>decide (f q=f r)) then acc else acc++[r]) []
def gR (f:α->β) (xs:List α):List (List α):=(dP f xs).map λq=>xs.filter λr=>decide (f r=f q)
theorem x9 (f:α->β) (xs:List α) (r:α):dP f (xs++[r])=if(dP f xs).any (λq=>decide (f q=f r)) then dP f xs else dP f xs++[r]:=by
 unfold dP;rw[List.foldl_append];rfl
theorem Fm {p:List α->Prop} (h0:p []) (h1:∀l a,p l->p (l++[a])) (l:List α):p l:=by
 rw[<-List.reverse_reverse l]
 induction l.reverse with
 |nil=>exact h0
 |cons a l ih=>rw[List.reverse_cons];exact h1 _ a ih
theorem Ao (f:α->β) (xs:List α): (dP f xs).Sublist xs:=by
 induction xs using Fm with
 |h0=>exact List.Sublist.refl _
 |h1 l a ih=>
  rw[x9];split
  ·exact ih.trans (List.sublist_append_left _ _)
  ·exact ih.append (List.Sublist.refl _)
theorem CS {f:α->β} {xs:List α} {r:α}: (dP f xs).any (λq=>decide (f q=f r))=true↔∃q∈xs,f q=f r:=by
 induction xs using Fm with
 |h0=>simp[dP]
 |h1 l a ih=>
  rw[x9];split
  ·rename_i h;rw[ih];constructor
   ·rintro⟨q,hq,e⟩;exact⟨q,by simp[hq],e⟩
   ·rintro⟨q,hq,e⟩;rcases List.mem_append.1 hq with hq|hq
    ·exact⟨q,hq,e⟩
    ·simp only[List.mem_singleton] at hq;subst hq;obtain⟨s,hs,e2⟩:=List.any_eq_true.1 h;exact⟨s,(Ao f l).subset hs,by simpa[e] using e2⟩
  ·simp only[List.any_append,Bool.or_eq_true,ih,List.any_cons,List.any_nil,Bool.or_false,decide_eq_true_eq];constructor
   ·rintro(⟨q,hq,e⟩|e)
    ·exact⟨q,by simp[hq],e⟩
    ·exact⟨a,by simp,e⟩
   ·rintro⟨q,hq,e⟩;rcases List.mem_append.1 hq with hq|hq
    ·exact .inl ⟨q,hq,e⟩
    ·simp only[List.mem_singleton] at hq;subst hq;exact .inr e
theorem KI {f:α->β} {xs:List α} {r:α} (h:r∈xs):∃q∈dP f xs,f q=f r:=by
 have:=(CS (f:=f) (xs:=xs) (r:=r)).2 ⟨r,h,rfl⟩;obtain⟨q,hq,e⟩:=List.any_eq_true.1 this;exact⟨q,hq,by simpa using e⟩
theorem KJ (f:α->β) (xs:List α): ((dP f xs).map f).Nodup:=by
 induction xs using Fm with
 |h0=>simp[dP]
 |h1 l a ih=>
  rw[x9];split
  ·exact ih
  ·rename_i h;rw[List.map_append,List.nodup_append];refine⟨ih,by simp,λx hx y hy e=>h ?_⟩;obtain⟨q,hq,rfl⟩:=List.mem_map.1 hx;simp only[List.map_cons,List.map_nil,List.mem_singleton] at hy;exact List.any_eq_true.2 ⟨q,hq,by simp[e,hy]⟩
theorem mK (f:α->β) (xs:List α): (gR f xs).length=(dP f xs).length:=by simp[gR]
theorem Ap {f:α->β} {xs:List α} {i:Nat} (h:i<(gR f xs).length): (gR f xs)[i]=xs.filter λr=>decide (f r=f ((dP f xs)[i]'(by rwa [mK] at h))):=by simp[gR]
theorem KK {f:α->β} {xs:List α} {r:α} {i:Nat} (hi:i<(dP f xs).length) (e:f (dP f xs)[i]=f r):
  dP f (xs++[r])=dP f xs/\gR f (xs++[r])=(gR f xs).modify i (·++[r]):=by
 have h1:dP f (xs++[r])=dP f xs:=by
  rw[x9,if_pos (List.any_eq_true.2 ⟨_,List.getElem_mem hi,by simp[e]⟩)]
 refine⟨h1,?_⟩;apply List.ext_getElem?;intro j;unfold gR;rw[h1,List.getElem?_modify,List.getElem?_map,List.getElem?_map];by_cases hj:j<(dP f xs).length
 ·rw[List.getElem?_eq_getElem hj];simp only[Option.map_some,Option.some.injEq];by_cases hij:i=j
  ·subst hij;simp[List.filter_append,e]
  ·rw[List.filter_append];have:¬f r=f (dP f xs)[j]:=λh2=>hij (by
    have hn:=List.pairwise_iff_getElem.1 (KJ f xs);rcases Nat.lt_trichotomy i j with h3|h3|h3
    ·exact absurd (by rw[List.getElem_map,List.getElem_map,e,h2]) (hn i j (by simpa using hi) (by simpa using hj) h3)
    ·exact h3
    ·exact absurd (by rw[List.getElem_map,List.getElem_map,e,h2]) (hn j i (by simpa using hj) (by simpa using hi) h3))
   simp[hij,this]
 ·rw[List.getElem?_eq_none (by omega)];simp
theorem KL {f:α->β} {xs:List α} {r:α} (h:∀q∈dP f xs,f q≠f r):
  dP f (xs++[r])=dP f xs++[r]/\gR f (xs++[r])=gR f xs++[[r]]:=by
 have h0:¬(dP f xs).any (λq=>decide (f q=f r))=true:=λha=>by
  obtain⟨q,hq,e⟩:=List.any_eq_true.1 ha;exact h q hq (by simpa using e)
 have h1:dP f (xs++[r])=dP f xs++[r]:=by rw[x9,if_neg h0]
 refine⟨h1,?_⟩;unfold gR;rw[h1,List.map_append];congr 1
 ·refine List.map_congr_left λq hq=>?_;rw[List.filter_append];simp[Ne.symm (h q hq)]
 ·simp only[List.map_cons,List.map_nil,List.filter_append,List.cons.injEq,and_true];have:xs.filter (λr_1=>decide (f r_1=f r))=[]:=by
   rw[List.filter_eq_nil_iff];intro q hq hd;exact h0 (CS.2 ⟨q,hq,by simpa using hd⟩)
  rw[this];simp
end
def dO (l:List aO):List (List av):=gR (b_ l) (aW l)
def a_ (l:List aO):List (List aO):=(dP (b_ l) (aW l)).map λq=>l.filter λx=>decide (b_ l x.A=b_ l q)
theorem Fo (l:List aO): (dO l).length<=2*l.length:=by
 unfold dO;rw[mK];exact Nat.le_trans (Ao _ _).length_le (kW l)
theorem KM (l:List aO): (a_ l).length=(dO l).length:=by simp[a_,dO,gR]
def mL (u:List (av×av)) (ρ:av->av) (d:av->Nat):Prop:=
 ∀r v,eM u r=some v->(∃v',eM u v=some v')/\ρ v=ρ r/\(v≠r->d v<d r)/\(v=r->ρ r=r)
def Dom (u:List (av×av)) (xs:List av):Prop:=∀r∈xs,∃v,eM u r=some v
theorem Dom.put {u:List (av×av)} {xs:List av} (h:Dom u xs) (a b:av):Dom (gE u a b) xs:=λr hr=>by
 rw[l9];split
 ·exact⟨_,rfl⟩
 ·exact h r hr
theorem Dom.Sl {u:List (av×av)} {xs:List av} (h:Dom u xs) (a b:av):Dom (gE u a b) (xs++[a]):=λr hr=>by
 rw[l9];split
 ·exact⟨_,rfl⟩
 ·rename_i e;rcases List.mem_append.1 hr with hr|hr
  ·exact h r hr
  ·simp only[List.mem_singleton] at hr;exact absurd hr.symm e
theorem mL.self {u:List (av×av)} {d:av->Nat} (h:mL u id d) (r:av):mL (gE u r r) id d:=λs v hs=>by
 rw[l9] at hs;split at hs
 ·rename_i e;obtain rfl:r=v:=by simpa using hs
  subst e;exact⟨⟨r,by rw[l9,if_pos rfl]⟩,rfl,λh=>absurd rfl h,λ_=>rfl⟩
 ·obtain⟨⟨v',h1⟩,h2,h3,h4⟩:=h s v hs;refine⟨?_,h2,h3,h4⟩;rw[l9];split
  ·exact⟨_,rfl⟩
  ·exact⟨_,h1⟩
theorem mL.Sm {u:List (av×av)} {ρ:av->av} {d:av->Nat} (h:mL u ρ d) {r v v2:av} (hr:eM u r=some v) (hv:eM u v=some v2) (hne:v≠r):mL (gE u r v2) ρ d:=λs x hs=>by
 have hd:∀{y:av},(∃v',eM u y=some v')->∃v',eM (gE u r v2) y=some v':=λ{y} hy=>by
  rw[l9];split
  ·exact⟨_,rfl⟩
  ·exact hy
 rw[l9] at hs;split at hs
 ·rename_i e;obtain rfl:v2=x:=by simpa using hs
  subst e;obtain⟨_,h2,h3,h4⟩:=h r v hr;obtain⟨g1,g2,g3,g4⟩:=h v v2 hv;refine⟨hd g1,g2.trans h2,λ_=>?_,λe=>?_⟩
  ·have:=h3 hne;by_cases e:v2=v
   ·rw[e];exact this
   ·have:=g3 e;omega
  ·exfalso;have a1:=h3 hne;by_cases e2:v2=v
   ·exact hne (e2.symm.trans e)
   ·have:=g3 e2;rw[e] at this;omega
 ·obtain⟨h1,h2⟩:=h s x hs;exact⟨hd h1,h2⟩
theorem mL.join {u:List (av×av)} {ρ:av->av} {d:av->Nat} (h:mL u ρ d) {a b:av} (ha:eM u (ρ a)=some (ρ a)) (hb:eM u (ρ b)=some (ρ b)):∃d',mL (gE u (ρ a) (ρ b)) (pU ρ a b) d':=by
 have fG:=(h _ _ ha).2.2.2 rfl;have ib:=(h _ _ hb).2.2.2 rfl;refine⟨λx=>if ρ x=ρ a/\ρ a≠ρ b then d x+d (ρ b)+1 else d x,λs x hs=>?_⟩;have hd:∀{y:av},(∃v',eM u y=some v')->∃v',eM (gE u (ρ a) (ρ b)) y=some v':=λ{y} hy=>by
  rw[l9];split
  ·exact⟨_,rfl⟩
  ·exact hy
 rw[l9] at hs;split at hs
 ·rename_i e;obtain rfl:ρ b=x:=by simpa using hs
  subst e;refine⟨hd ⟨_,hb⟩,?_,λhne=>?_,λe=>?_⟩
  ·unfold pU;rw[fG,ib];simp
  ·simp only;rw[if_neg (λh=>hne (ib.symm.trans h.1)),if_pos ⟨fG,λe=>hne e.symm⟩];omega
  ·unfold pU;rw[fG,if_pos rfl,e]
 ·rename_i hne;obtain⟨h1,h2,h3,h4⟩:=h s x hs;refine⟨hd h1,?_,λhx=>?_,λe=>?_⟩
  ·unfold pU;rw[h2]
  ·have:=h3 hx;simp only[h2];split<;>omega
  ·have:=h4 e;unfold pU;rw[if_neg (λe2=>hne (by rw[<-e2,this])),this]
section
variable {α:Type} [bg α] {w w':World} {C bC D D':Nat->Nat} {I:List Nat} {e:TypeId} {v:Value} {ys:List α} {x:α} {j j1 i b:Nat} {t:TypeId}
theorem bn.kX (h:bn w' bC j1 e v ys) (hs:ay I w D w' bC) (hF:aM w C) (hD:aB D=aB C) (hj:∀b,b<w.heap.size->D b≠j1) (h1:j1≠0) (j:Nat) (hjj:j≠0):
  ∃aP,(∀b,b<w.heap.size->aP b=C b)/\aM w' aP/\(∀b,aB aP b->aB bC b)/\bn w' aP j e v ys:=by
 have old:∀b,aB C b->aB bC b:=λb hb=>by
  have hlt:=hF b hb;unfold aB;rw[hs.col b hlt];have:aB D b:=by rw[hD];exact hb
  exact this
 have fresh:∀b,cI v b->¬b<w.heap.size:=λb hb hlt=>hj b hlt (by rw[<-hs.col b hlt];exact h.col b hb);refine⟨gj C v j,λb hb=>?_,λb hb=>?_,λb hb=>?_,⟨h.own.sub (λb _ hb=>?_) (λb hb=>?_),λb hb=>?_⟩⟩
 ·unfold gj;rw[if_neg (show¬v.ownBlock=some b from λe=>fresh b e hb)]
 ·by_cases ho:cI v b
  ·exact(h.own.fA b ho).2
  ·unfold gj at hb;rw[if_neg (show¬v.ownBlock=some b from ho)] at hb;exact Nat.lt_of_lt_of_le (hF b hb) hs.size
 ·by_cases ho:cI v b
  ·unfold aB;rw[h.col b ho];exact h1
  ·unfold aB gj at hb;rw[if_neg (show¬v.ownBlock=some b from ho)] at hb;exact old b hb
 ·by_cases ho:cI v b
  ·unfold aB;rw[h.col b ho];exact h1
  ·unfold aB gj at hb;rw[if_neg (show¬v.ownBlock=some b from ho)] at hb;exact old b hb
 ·unfold aB gj;rw[if_pos (show v.ownBlock=some b from hb)];exact hjj
 ·unfold gj;rw[if_pos (show v.ownBlock=some b from hb)]
theorem ay.kX {aP:Nat->Nat} (h:ay I w C w' D') (hc:∀b,b<w.heap.size->aP b=C b):ay I w C w' aP:=⟨h.ext,hc⟩
theorem aG.kX {aP:Nat->Nat} (h:aG w' (aB bC) x v) (gI:∀b,aB aP b->aB bC b):aG w' (aB aP) x v:=h.sub (λb _ hb=>gI b hb)
end
end Go.K
namespace Go.K
open bg Go.Proofs Go.Shelf Go.Sort
theorem KN {W w':World} (h:Ext (λ_=>False) W w'):∃q os',w'=grow (W.drewN q) os':=by
 refine⟨w'.drawn-W.drawn,w'.heap.extract W.heap.size w'.heap.size,?_⟩;obtain⟨h1,h2,h3,h4,h5,h6⟩:=h;obtain⟨hp,tp,Z9,os,out⟩:=w';simp only at h1 h2 h3 h4 h5 h6;unfold l8 at h6;simp only at h6;subst h1 h2 h3;simp only[grow,World.drewN,World.mk.injEq,and_true,true_and];refine⟨?_,by omega⟩;apply Array.ext_getElem?;intro b;rw[Array.getElem?_append];split
 ·rename_i hb;exact h5 b hb (λh=>h)
 ·rename_i hb;rw[Array.getElem?_extract];simp only[Nat.min_self];split
  ·congr 1;omega
  ·rw[Array.getElem?_eq_none (by omega)]
section
variable {P:Program} {ρ:Ren} {α:Type} [Inhabited α] [bg α] {enc:α->List Value} {cf:α->α->Int} {w:World} {C:Nat->Nat} {j g0:Nat} {e:TypeId} {v:Value} {ys:List α}
def ya (cf:α->α->Int):α->α->Bool:=λx y=>!(ltOf cf) y x
theorem Sn {F cs:Array Value} (h:F.size<=cs.size) (t:Nat): (putCells id 0 F cs)[t]?=if t<F.size then F[t]? else cs[t]?:=by
 unfold putCells;rw[Array.getElem?_mapIdx];by_cases ht:t<cs.size
 ·rw[Array.getElem?_eq_getElem ht];simp only[Option.map_some,Nat.zero_le,true_and,Nat.zero_add,Nat.sub_zero,id];split
  ·rename_i h1;rw[Array.getElem?_eq_getElem h1,getElem!_pos F t h1]
  ·rfl
 ·rw[Array.getElem?_eq_none (by omega),if_neg (by omega)];rfl
theorem KP {k:Nat} (hk:∀x,(enc x).length=k) (d:Array α) {i r:Nat} (hi:i<d.size) (hr:r<k): (flatK enc k d)[i*k+r]?=(enc d[i])[r]?:=by
 have hlt:i*k+r<d.size*k:=by
  have:=Nat.mul_le_mul_right k (show i+1<=d.size from hi);rw[Nat.succ_mul] at this;omega
 have hdiv: (i*k+r)/k=i:=by rw[Nat.mul_comm,Nat.mul_add_div (by omega),Nat.div_eq_of_lt hr];rfl
 have hmod: (i*k+r)%k=r:=by rw[Nat.mul_comm,Nat.mul_add_mod,Nat.mod_eq_of_lt hr]
 have h:=get_flatK enc k d (i*k+r) hlt;rw[hdiv,hmod,getElem!_pos d i hi,getElem!_pos (flatK enc k d) _ (by rw[size_flatK];exact hlt),getElem!_pos (enc d[i]) r (by rw[hk];exact hr)] at h;rw[Array.getElem?_eq_getElem (by rw[size_flatK];exact hlt),h,List.getElem?_eq_getElem]
theorem Sq (L:SlLaysF0.n6 P ρ) (aE:∀w,(isAgg (ρ.t 24)).run P w=.ok true w) (zE:∀w,(Go.sizeOf (ρ.t 24)).run P w=.ok (sz α) w)
  (Aq:∀h M x vs,rep h M x vs↔vs=enc x) (hk:∀x:α,(enc x).length=sz α) (h0:0<sz α) (h1:∀x,∀u∈enc x,u.oneCell'=true) (hO:SWO (ltOf cf)) (hT:∀x y,(ltOf cf) x y=false->(ltOf cf) y x=false->x=y)
  (eg:∀args w,(callFunc g0 args).run P w=.ok (.enter g0 args) w)
  (hcmp:∀W x y,Calls P g0 #[.agg (enc x).toArray,.agg (enc y).toArray] W (bM λu w'=>u=.int .i64 (cf x y)/\Ext (λ_=>False) W w'))
  (hF:aM w C) (ho:bn w C j e v ys) (hlen:ys.length<=140737488355328):
  Calls P (ρ.f 6) #[v,.func (.func g0) #[] #[]] w (bM λu w'=>u=.tuple #[]/\ay [j] w C w' C/\bn w' C j e v (ys.mergeSort (ya cf))/\aM w' C):=by
 obtain⟨hown,kr⟩:=ho;rcases hown with⟨rfl,rfl⟩|⟨g,cap,cs,rfl,hg,hc,hcap,h2,h3⟩
 ·refine(AnyF.slices_SortFunc_none (P:=P) (ρ:=ρ) {L with} none 0 (.func (.func g0) #[] #[]) w).mono ?_;rintro e' w' ⟨rfl,rfl⟩;exact⟨_,rfl,rfl,ay.refl _ _ _,by simpa using(bn.nil (α:=α)),hF⟩
 ·have hcell:∀i (hi:i<ys.length) r,r<sz α->cs[i*sz α+r]?=(enc ys[i])[r]?:=λi hi r hr=>by
   have h:=(Aq _ _ _ _).1 (h3 i hi);have:=congrArg (λl=>l[r]?) h;simp only[cH,List.getElem?_take,if_pos hr,List.getElem?_drop,Array.getElem?_toList] at this;exact this
  have hH:HoldsK enc (sz α) w g 0 ys.toArray:=λt ht=>by
   rw[size_flatK] at ht;simp only[List.size_toArray] at ht;have hi:t/sz α<ys.length:=Nat.div_lt_of_lt_mul (by rwa [Nat.mul_comm] at ht);have hr:=Nat.mod_lt t h0;have Sr:t/sz α*sz α+t%sz α=t:=by rw[Nat.mul_comm];exact Nat.div_add_mod t (sz α)
   have h5:=hcell _ hi _ hr;have h6:=KP hk ys.toArray (i:=t/sz α) (r:=t%sz α) (by simpa using hi) hr;rw[Sr] at h5 h6;refine⟨?_,?_⟩
   ·rw[cell_of_row w g (0+t) cs e (0,0) hc,Nat.zero_add,h5];simp only[List.getElem_toArray] at h6;rw[<-h6,id];rw[getElem!_pos _ t (by rw[size_flatK];simpa using ht),Array.getElem?_eq_getElem]
   ·simp[World.frozen?,hc]
  have Fp:CmpLays P g0 #[] enc (sz α) cf g 0 ys.toArray.size w:=λm os dk hd x y=>by
   have h:=hcmp (sortWorldK enc (sz α) w g 0 m dk os) x y;rw[Array.append_empty];refine h.mono ?_;rintro e' w' ⟨u,rfl,rfl,hx⟩;exact⟨rfl,KN hx⟩
  have hsort:=AnyQ.slices_SortFunc_total L (sz α) aE zE enc hk h1 cf hO g0 #[] g 0 cap ys.toArray w eg Fp hH (pO hc) (by simp;omega) hT;refine hsort.mono ?_;rintro e' w' ⟨rfl,n,os,hw⟩;have rz:=List.mergeSort_perm ys (ya cf);have hl:=rz.length_eq;have hle: (flatK enc (sz α) (ys.mergeSort (ya cf)).toArray).size<=cs.size:=by
   rw[size_flatK,h2];simp only[List.size_toArray,hl];exact Nat.mul_le_mul_right _ hcap
  have jw:w'.heap[g]?=some (.cells (putCells id 0 (flatK enc (sz α) (ys.mergeSort (ya cf)).toArray) cs) e (0,0)):=by
   rw[hw];show(grow (putRow id (Sort.ahead w n) g 0 (flatK enc (sz α) (ys.mergeSort (ya cf)).toArray)) os).heap[g]?=_;simp only[grow,putRow,mapBlock,Sort.ahead];rw[Array.getElem?_append_left (by simpa using pO hc),Array.getElem?_modify,if_pos rfl,hc];rfl
  have CM:ay [j] w C w' C:=⟨⟨by rw[hw];rfl,by rw[hw];rfl,by rw[hw];rfl,by
    rw[hw];show w.heap.size<=(grow (putRow id (Sort.ahead w n) g 0 _) os).heap.size;simp[grow,putRow,mapBlock,Sort.ahead],λb hb hn=>by
    have Fq:g≠b:=λe=>hn (by rw[<-e,kr g rfl];simp);rw[hw];show(grow (putRow id (Sort.ahead w n) g 0 _) os).heap[b]?=_;simp only[grow,putRow,mapBlock,Sort.ahead];rw[Array.getElem?_append_left (by simpa using hb),Array.getElem?_modify,if_neg Fq],by
    rw[hw];unfold l8;exact Nat.le_add_right _ _⟩,λ_ _=>rfl⟩
  refine⟨_,rfl,rfl,CM,⟨.inr ⟨g,cap,_,by rw[hl],hg,jw,by rw[hl];exact hcap,?_,?_⟩,kr⟩,hF.st CM⟩
  ·simp only[putCells,Array.size_mapIdx];exact h2
  ·intro i hi;refine(Aq _ _ _ _).2 ?_;apply List.ext_getElem?;intro r;simp only[cH,List.getElem?_take,List.getElem?_drop,Array.getElem?_toList];split
   ·rename_i hr;have hlt:i*sz α+r<(flatK enc (sz α) (ys.mergeSort (ya cf)).toArray).size:=by
     rw[size_flatK];simp only[List.size_toArray];have:=Nat.mul_le_mul_right (sz α) (show i+1<=_ from hi);rw[Nat.succ_mul] at this;omega
    rw[Sn hle,if_pos hlt,KP hk _ (by simpa using hi) hr];simp
   ·rename_i hr;rw[List.getElem?_eq_none (by rw[hk];omega)]
end
end Go.K
namespace Go.K
open bg
section
variable {de β:Type} {kv:de->Value} {cV:β->Value} {m:List (de×β)} {w w' w₀:World} {I:List Nat} {C aP jY:Nat->Nat} {i j b:Nat}
theorem fK.dS (h:fK w C i b kv cV m) (hi:i≠0):fK w (K.dS C i) 2 b kv cV m:=⟨by unfold K.dS;rw[if_neg (by rw[h.1];exact hi),if_pos h.1],h.2⟩
theorem fK.Ss (h:fK w' aP j b kv cV m) (hb:jY b=i):fK w' jY i b kv cV m:=⟨hb,h.2⟩
theorem fK.stay [DecidableEq de] (h:fK w C j b kv cV m) (hS:Ext (λb=>C b∈I) w w') (hj:j∉I):fK w' C j b kv cV m:=h.st (I:=I) ⟨hS,λ_ _=>rfl⟩ hj
theorem fK.kX {D:Nat->Nat} (h:fK w' aP j b kv cV m) (hs:ay I w₀ D w' aP) (hF:aM w₀ jY) (hj:∀b,b<w₀.heap.size->D b≠j) (i:Nat):
  ∃bC,(∀b,b<w₀.heap.size->bC b=jY b)/\fK w' bC i b kv cV m/\aM w' bC:=by
 obtain⟨hc,es,clock,hb,hm⟩:=h;have hge:w₀.heap.size<=b:=by
  rcases Nat.lt_or_ge b w₀.heap.size with h1|h1
  ·exact absurd (by rw[<-hs.col b h1];exact hc) (hj b h1)
  ·exact h1
 refine⟨uG jY b i,λc hc=>by unfold uG;rw[if_neg (by omega)],⟨by simp[uG],es,clock,hb,hm⟩,λc hc=>?_⟩;unfold uG at hc;split at hc
 ·rename_i e;rw[e];exact pO hb
 ·exact Nat.lt_of_lt_of_le (hF c hc) hs.size
end
theorem mL.idem {u:List (av×av)} {ρ:av->av} {d:av->Nat} (h:mL u ρ d) {r:av} (hr:eM u r=some r):ρ r=r:=(h r r hr).2.2.2 rfl
def rA (m:List (av×Nat)) (ts:List av):Prop:=∀t i,eM m t=some i↔ts[i]?=some t
theorem rA.nil:rA [] []:=λt i=>by simp[eM]
theorem rA.new {m:List (av×Nat)} {ts:List av} (h:rA m ts) {t:av} (hn:eM m t=none):rA (gE m t ts.length) (ts++[t]):=λs i=>by
 rw[l9];split
 ·rename_i e;subst e;constructor
  ·intro hi;obtain rfl:ts.length=i:=by simpa using hi
   simp
  ·intro hi;rw[List.getElem?_append] at hi;split at hi
   ·have:=(h t i).2 hi;rw[hn] at this;cases this
   ·rename_i hlt;have:i-ts.length=0:=by
     rcases Nat.lt_or_ge (i-ts.length) 1 with h1|h1
     ·omega
     ·rw[List.getElem?_eq_none (by simpa using h1)] at hi;cases hi
    simp;omega
 ·rename_i e;rw[h s i,List.getElem?_append];split
  ·exact Iff.rfl
  ·rename_i hlt;rw[List.getElem?_eq_none (by omega)];constructor
   ·intro h;cases h
   ·intro h3;exfalso;rcases Nat.lt_or_ge (i-ts.length) 1 with h1|h1
    ·have:i-ts.length=0:=by omega
     rw[this] at h3;simp at h3;exact e h3
    ·rw[List.getElem?_eq_none (by simpa using h1)] at h3;cases h3
theorem rA.lt {m:List (av×Nat)} {ts:List av} (h:rA m ts) {t:av} {i:Nat} (hi:eM m t=some i):∃hl:i<ts.length,ts[i]=t:=List.getElem?_eq_some_iff.1 ((h t i).1 hi)
theorem rA.none {m:List (av×Nat)} {ts:List av} (h:rA m ts) {t:av} (hn:eM m t=none):t∉ts:=λhm=>by
 obtain⟨i,hi,e⟩:=List.mem_iff_getElem.1 hm;have:=(h t i).2 (by rw[List.getElem?_eq_getElem hi,e]);rw[hn] at this;cases this
theorem Fs {n:Nat}:∀c∈([2,3,4,5,6,7,8,9]++List.range' 10 n:List Nat),2<=c:=by
 intro c hc;simp only[List.mem_append,List.mem_cons,List.not_mem_nil,or_false,List.mem_range'_1] at hc;omega
def jo (f:Nat->Value) (k:Nat) (y:Value):Nat->Value:=λx=>if x=k then y else f x
def jN (gn:Nat->Value) (n:Nat):List fL:=(List.range n).map λi=>⟨gn i⟩
theorem su (gn:Nat->Value) (n:Nat): (jN gn n).length=n:=by simp[jN]
theorem Ar {gn:Nat->Value} {n i:Nat} (h:i<(jN gn n).length): (jN gn n)[i].v=gn i:=by simp[jN]
theorem CT {gn:Nat->Value} {n i:Nat} (y:Value): (jN gn n).set i ⟨y⟩=jN (jo gn i y) n:=by
 apply List.ext_getElem?;intro j;rw[List.getElem?_set];simp only[su];by_cases hj:j<n
 ·have e1: (jN gn n)[j]?=some ⟨gn j⟩:=by simp[jN,hj]
  have e2: (jN (jo gn i y) n)[j]?=some ⟨jo gn i y j⟩:=by simp[jN,hj]
  rw[e1,e2];by_cases h:i=j
  ·subst h;simp[jo,hj]
  ·rw[if_neg h];simp[jo,Ne.symm h]
 ·have e1: (jN gn n)[j]?=none:=by simp[jN];omega
  have e2: (jN (jo gn i y) n)[j]?=none:=by simp[jN];omega
  rw[e1,e2];split
  ·rw[if_neg (by omega)]
  ·rfl
theorem Sw {gn:Nat->Value} {n:Nat} (y:Value):jN gn n++[⟨y⟩]=jN (jo gn n y) (n+1):=by
 unfold jN;rw[List.range_succ,List.map_append];congr 1
 ·refine List.map_congr_left λi hi=>?_;have:=List.mem_range.1 hi;simp only[jo];rw[if_neg (by omega)]
 ·simp[jo]
theorem KQ (n:Nat) (y:Value):List.replicate n (⟨y⟩:fL)=jN (λ_=>y) n:=by
 unfold jN;apply List.ext_getElem
 ·simp
 ·intro i h1 h2;simp
section
variable {α β:Type} [DecidableEq β] {f:α->β} {xs:List α} {r:α} {i0:Nat}
theorem Sx (hi:i0<(dP f xs).length) (e:f (dP f xs)[i0]=f r):
  dP f (xs++[r])=dP f xs/\∀i,(gR f (xs++[r])).getD i []=if i=i0 then(gR f xs).getD i0 []++[r] else(gR f xs).getD i []:=by
 obtain⟨h1,h2⟩:=KK hi e;refine⟨h1,λi=>?_⟩;rw[h2];simp only[List.getD_eq_getElem?_getD,List.getElem?_modify];by_cases h:i=i0
 ·subst h;have:i<(gR f xs).length:=by rw[mK];exact hi
  simp[this]
 ·rw[if_neg h];have:¬i0=i:=λe=>h e.symm;simp[this]
theorem Sy (h:∀q∈dP f xs,f q≠f r) (h0:i0=(dP f xs).length):
  dP f (xs++[r])=dP f xs++[r]/\∀i,(gR f (xs++[r])).getD i []=if i=i0 then(gR f xs).getD i0 []++[r] else(gR f xs).getD i []:=by
 obtain⟨h1,h2⟩:=KL h;refine⟨h1,λi=>?_⟩;subst h0;rw[h2,<-mK];simp only[List.getD_eq_getElem?_getD,List.getElem?_append];by_cases h:i=(gR f xs).length
 ·subst h;simp
 ·rw[if_neg h];by_cases h3:i<(gR f xs).length
  ·rw[if_pos h3]
  ·rw[if_neg h3,List.getElem?_eq_none (by simp;omega),List.getElem?_eq_none (by omega)]
theorem Ft (f:α->β) (xs:List α) (i:Nat) {n:Nat} (h:xs.length<=n): ((gR f xs).getD i []).length<=n:=by
 rw[List.getD_eq_getElem?_getD];by_cases hi:i<(gR f xs).length
 ·rw[List.getElem?_eq_getElem hi,Ap];exact Nat.le_trans (List.length_filter_le _ _) h
 ·rw[List.getElem?_eq_none (by omega)];simp
theorem Sz {i:Nat} (h: (dP f xs).length<=i): (gR f xs).getD i []=[]:=by
 rw[List.getD_eq_getElem?_getD,List.getElem?_eq_none (by rw[mK];exact h)];rfl
end
theorem Fu {α:Type} [bg α] {w:World} {M:Nat->Prop} {gn:Nat->Value} {ls:List (List α)} {v:Value} (h:aG w M (jN gn ls.length) v) (he:∀i,i<ls.length->aG w M (ls.getD i []) (gn i)):aG w M ls v:=
 aG.Fi h rfl (by rw[su]) λi h1 h2=>by
  rw[Ar];have:=he i h1;rwa [List.getD_eq_getElem?_getD,List.getElem?_eq_getElem h1] at this
def Ix (pV:List (av×Nat)) (P:List (List av)) (k j:Nat):Prop:=∀i r,(i<k/\r∈P.getD i [])\/(i=k/\r∈(P.getD k []).take j)->eM pV r=some i
theorem Ix.nil (P:List (List av)):Ix [] P 0 0:=λi r h=>by
 rcases h with⟨h,_⟩|⟨_,h⟩
 ·omega
 ·simp at h
theorem Ix.next {pV:List (av×Nat)} {P:List (List av)} {k j:Nat} (h:Ix pV P k j) (hj: (P.getD k []).length<=j):Ix pV P (k+1) 0:=λi r hi=>by
 rcases hi with⟨h1,h2⟩|⟨_,h2⟩
 ·by_cases e:i=k
  ·subst e;exact h i r (.inr ⟨rfl,by rw[List.take_of_length_le hj];exact h2⟩)
  ·exact h i r (.inl ⟨by omega,h2⟩)
 ·simp at h2
theorem yb {l:List aO} {i:Nat} {r:av}:r∈(dO l).getD i []↔∃hi:i<(dP (b_ l) (aW l)).length,r∈aW l/\b_ l r=b_ l (dP (b_ l) (aW l))[i]:=by
 rw[List.getD_eq_getElem?_getD];by_cases hi:i<(dO l).length
 ·rw[List.getElem?_eq_getElem hi];have hi2:i<(dP (b_ l) (aW l)).length:=by unfold dO at hi;rwa [mK] at hi
  have: (dO l)[i]=(aW l).filter λr=>decide (b_ l r=b_ l (dP (b_ l) (aW l))[i]):=Ap hi;rw[Option.getD_some,this,List.mem_filter,decide_eq_true_eq];exact⟨λh=>⟨hi2,h⟩,λ⟨_,h⟩=>h⟩
 ·rw[List.getElem?_eq_none (by omega)];simp only[Option.getD_none,List.not_mem_nil,false_iff];rintro⟨h,_⟩;exact hi (by unfold dO;rwa [mK])
theorem Fw {α β:Type} [DecidableEq β] {f:α->β} {xs:List α} {i j:Nat} (hi:i<(dP f xs).length) (hj:j<(dP f xs).length) (e:f (dP f xs)[i]=f (dP f xs)[j]):i=j:=by
 have hn:=List.pairwise_iff_getElem.1 (KJ f xs);rcases Nat.lt_trichotomy i j with h3|h3|h3
 ·exact absurd (by rw[List.getElem_map,List.getElem_map,e]) (hn i j (by simpa using hi) (by simpa using hj) h3)
 ·exact h3
 ·exact absurd (by rw[List.getElem_map,List.getElem_map,e]) (hn j i (by simpa using hj) (by simpa using hi) h3)
theorem KR {l:List aO} {i j:Nat} {r:av} (h:r∈(dO l).getD i []) (h':r∈(dO l).getD j []):i=j:=by
 obtain⟨hi,_,h1⟩:=yb.1 h;obtain⟨hj,_,h2⟩:=yb.1 h';exact Fw hi hj (h1.symm.trans h2)
theorem Ix.put {pV:List (av×Nat)} {l:List aO} {k j:Nat} (h:Ix pV (dO l) k j) (hk:k<(dO l).length) (hj:j<(dO l)[k].length):Ix (gE pV (dO l)[k][j] k) (dO l) k (j+1):=λi r hi=>by
 have hg: (dO l).getD k []=(dO l)[k]:=by rw[List.getD_eq_getElem?_getD,List.getElem?_eq_getElem hk];rfl
 rw[l9];split
 ·rename_i e;subst e;have hm: (dO l)[k][j]∈(dO l).getD k []:=by rw[hg];exact List.getElem_mem hj
  rcases hi with⟨h1,h2⟩|⟨h1,_⟩
  ·exact absurd (KR h2 hm) (by omega)
  ·rw[h1]
 ·rename_i e;refine h i r ?_;rcases hi with hi|⟨h1,h2⟩
  ·exact .inl hi
  ·refine .inr ⟨h1,?_⟩;rw[hg] at h2⊢;rw[List.take_succ_eq_append_getElem hj] at h2;rcases List.mem_append.1 h2 with h2|h2
   ·exact h2
   ·simp only[List.mem_singleton] at h2;exact absurd h2.symm e
theorem KS {l:List aO} {r:av} (h:r∈aW l):∃i,r∈(dO l).getD i []:=by
 obtain⟨q,hq,e⟩:=KI (f:=b_ l) h;obtain⟨i,hi,rfl⟩:=List.mem_iff_getElem.1 hq;exact⟨i,yb.2 ⟨hi,h,e.symm⟩⟩
def oU (l:List aO) (k:Nat):List (List aO):=(dP (b_ l) (aW l)).map λq=>(l.take k).filter λx=>decide (b_ l x.A=b_ l q)
theorem CU (l:List aO):oU l l.length=a_ l:=by unfold oU a_;rw[List.take_length]
theorem CV {l:List aO} {k i:Nat} (hi:i<(dP (b_ l) (aW l)).length): (oU l k).getD i []=(l.take k).filter λx=>decide (b_ l x.A=b_ l (dP (b_ l) (aW l))[i]):=by
 rw[List.getD_eq_getElem?_getD,List.getElem?_eq_getElem (by simpa[oU] using hi)];simp[oU]
theorem KT (l:List aO) (i:Nat): (oU l 0).getD i []=[]:=by
 rw[List.getD_eq_getElem?_getD];unfold oU;by_cases hi:i<(dP (b_ l) (aW l)).length
 ·rw[List.getElem?_eq_getElem (by simpa using hi)];simp
 ·rw[List.getElem?_eq_none (by simp;omega)];rfl
theorem CW (l:List aO) (k i:Nat): ((oU l k).getD i []).length<=l.length:=by
 by_cases hi:i<(dP (b_ l) (aW l)).length
 ·rw[CV hi];exact Nat.le_trans (List.length_filter_le _ _) (by rw[List.length_take];omega)
 ·rw[List.getD_eq_getElem?_getD,List.getElem?_eq_none (by simp[oU];omega)];simp
theorem KU {l:List aO} {k i0 i:Nat} (hk:k<l.length) (h0:l[k].A∈(dO l).getD i0 []) (hi:i<(dO l).length):
  (oU l (k+1)).getD i []=if i=i0 then(oU l k).getD i0 []++[l[k]] else(oU l k).getD i []:=by
 have hi2:i<(dP (b_ l) (aW l)).length:=by unfold dO at hi;rwa [mK] at hi
 obtain⟨Fx,_,e⟩:=yb.1 h0;rw[CV hi2,List.take_succ_eq_append_getElem hk,List.filter_append];by_cases h:i=i0
 ·subst h;rw[if_pos rfl,CV hi2];simp[e]
 ·rw[if_neg h,CV hi2];have:¬b_ l l[k].A=b_ l (dP (b_ l) (aW l))[i]:=λe2=>h (Fw hi2 Fx (e2.symm.trans e));simp[this]
theorem Fy {α:Type} (f:α->Nat) (N:Nat):∀(l:List α) (lo:Nat),l.Pairwise (λx y=>f x<f y)->(∀x∈l,lo<=f x/\f x<N)->l.length<=N-lo
 |[],_,_,_=>Nat.zero_le _
 |x::l,lo,hp,h=>by
  obtain⟨h1,h2⟩:=List.pairwise_cons.1 hp;have hx:=h x (by simp);have ih:=Fy f N l (f x+1) h2 (λy hy=>⟨h1 y hy,(h y (by simp[hy])).2⟩);simp only[List.length_cons];omega
def pY (R I:Nat) (x:aO):Prop:=0<=x.A.a/\x.A.a<x.B.a/\x.B.a<R/\1<=x.A.b/\x.A.b<=I/\1<=x.B.b/\x.B.b<=I/\1<=x.w/\x.w<=9
def sv (r i s k:Nat) (x:aO):Prop:=x.A.a<r\/x.A.a=r/\(x.A.b<i\/x.A.b=i/\(x.B.a<s\/x.B.a=s/\x.B.b<k))
def nk (R I r i s k:Nat) (l:List aO):Prop:=(∀x∈l,pY R I x/\sv r i s k x)/\l.Pairwise jL
def KV (R I:Nat) (l:List aO):Prop:=(∀x∈l,pY R I x)/\l.Pairwise jL/\l.length<=4096
theorem nk.nil (R I r i s k:Nat):nk R I r i s k []:=⟨λx h=>by simp at h,List.Pairwise.nil⟩
theorem nk.to {R I r i s k r' i' s' k':Nat} {l:List aO} (h:nk R I r i s k l) (hc:∀x,pY R I x->sv r i s k x->sv r' i' s' k' x):nk R I r' i' s' k' l:=
 ⟨λx hx=>⟨(h.1 x hx).1,hc x (h.1 x hx).1 (h.1 x hx).2⟩,h.2⟩
theorem nk.len {R I r i s k:Nat} {l:List aO} (h:nk R I r i s k l) (hR:R<=7) (hI:I<=7):l.length<=4096:=by
 have hb:∀x∈l,pY R I x:=λx hx=>(h.1 x hx).1;have:=Fy (λx:aO=>(x.A.a*512+x.A.b*64+x.B.a*8+x.B.b).toNat) 4096 l 0 (h.2.imp_of_mem λ{x y} hx hy hxy=>by
  have h1:=hb x hx;have h2:=hb y hy;unfold pY at h1 h2;unfold jL dV at hxy;show(x.A.a*512+x.A.b*64+x.B.a*8+x.B.b).toNat<(y.A.a*512+y.A.b*64+y.B.a*8+y.B.b).toNat;rcases hxy with(h3|⟨h3,h4⟩)|⟨h3,h4|⟨h4,h5⟩⟩
  ·omega
  ·omega
  ·rw[h3] at*;omega
  ·rw[h3] at*;omega) (λx hx=>by
  have h1:=hb x hx;unfold pY at h1;show 0<=_/\(x.A.a*512+x.A.b*64+x.B.a*8+x.B.b).toNat<4096;omega)
 simpa using this
theorem nk.push {R I r i s k:Nat} {l:List aO} {q:Nat} (h:nk R I r i s k l) (hr:r<s) (hs:s<R) (hi:1<=i/\i<=I) (hk:1<=k/\k<=I) (hq: (q:Int)<9):nk R I r i s (k+1) (l++[⟨⟨r,i⟩,⟨s,k⟩,1+q⟩]):=by
 refine⟨λx hx=>?_,?_⟩
 ·rcases List.mem_append.1 hx with hx|hx
  ·obtain⟨h1,h2⟩:=h.1 x hx;refine⟨h1,?_⟩;unfold sv at*;omega
  ·simp only[List.mem_singleton] at hx;subst hx;refine⟨?_,?_⟩
   ·unfold pY;refine⟨by show(0:Int)<=r;omega,by show(r:Int)<s;omega,by show(s:Int)<R;omega,by show(1:Int)<=i;omega,by show(i:Int)<=I;omega,by show(1:Int)<=k;omega,by show(k:Int)<=I;omega,by show(1:Int)<=1+q;omega,by show(1:Int)+q<=9;omega⟩
   ·exact .inr ⟨rfl,.inr ⟨rfl,.inr ⟨rfl,by show(k:Int)<(k+1:Nat);omega⟩⟩⟩
 ·rw[List.pairwise_append];refine⟨h.2,by simp,λx hx y hy=>?_⟩;simp only[List.mem_singleton] at hy;subst hy;obtain⟨h1,h2⟩:=h.1 x hx;unfold sv at h2;unfold pY at h1;unfold jL dV;rcases h2 with h2|⟨h2,h3|⟨h3,h4⟩⟩
  ·exact .inl (.inl h2)
  ·exact .inl (.inr ⟨h2,h3⟩)
  ·exact .inr ⟨Ak h2 h3,h4⟩
theorem nk.fin {R I r i s k:Nat} {l:List aO} (h:nk R I r i s k l) (hR:R<=7) (hI:I<=7):KV R I l:=⟨λx hx=>(h.1 x hx).1,h.2,h.len hR hI⟩
end Go.K
