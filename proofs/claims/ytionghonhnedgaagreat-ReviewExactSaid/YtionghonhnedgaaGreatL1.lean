/- A calculus of steps over the model: a frame is known by a list of slots, code is walked with what is left to do as a list. -/
import Derived.WalkKit
import Derived.OrdersHeld
import Derived.KernelRfl
import Derived.Laws.MakeOwn
import Derived.WideKeyRuns
import Derived.MapKept
import Derived.Laws.StructEq
import Derived.ChangeKeysEq
import Derived.Lib.AppendZeros
set_option linter.unusedVariables false
set_option linter.unusedSimpArgs false
set_option linter.unusedSectionVars false
namespace Go.K
def ye (f:FuncId):Frame:={(default:Frame) with fn:=f,kind:=.normal}
def bW (R:Value->World->Prop):Ending->World->Prop:=λe w=>∃v,e=.returned v/\R v w
theorem bW.mono {R R':Value->World->Prop} (h:∀v w,R v w->R' v w) (e:Ending) (w:World) (hr:bW R e w):bW R' e w:=
 let⟨v,he,hv⟩:=hr;⟨v,he,h v w hv⟩
def nU (P:Program) (f:FuncId) (k:List Item) (a:Act) (w:World) (R:Value->World->Prop):Prop:=
 ∀cs,∃v w' fr,R v w'/\Steps P (lone ((ye f).at a k) cs w) (lone fr cs w')/\fr.fn=f/\fr.leaving P w' (.returned v)
theorem NU {P:Program} {f:FuncId} {fn:Func} {c:Code} {args:Array Value} {w:World} {R:Value->World->Prop}
  (hf:P.funcs[f]?=some fn) (hb:fn.body=some c)
  (h:nU P f [.code c] {tmps:=args++Array.replicate (fn.ntmps-args.size) undef,defers:=[]} w R):Calls P f args w (bW R):=by
 intro cs;have NV:Frame.enter P f args .normal=(ye f).at {tmps:=args++Array.replicate (fn.ntmps-args.size) undef,defers:=[]} [.code c]:=by
  simp[Frame.enter,Frame.at,hf,hb,ye]
 obtain⟨v,w',fr,hR,hs,hfn,hl⟩:=h cs;exact⟨.returned v,w',fr,⟨v,rfl,hR⟩,by rw[NV];exact hs,hfn,hl⟩
section
variable {P:Program} {f:FuncId} {k:List Item} {a:Act} {w:World} {R:Value->World->Prop}
theorem nU.step {a':Act} {k':List Item} {w':World}
  (hs:∀cs,step P (lone ((ye f).at a k) cs w)=.next (lone ((ye f).at a' k') cs w')) (h:nU P f k' a' w' R):nU P f k a w R:=λcs=>
 let⟨v,w'',fr,hR,hst,hfn,hl⟩:=h cs
 ⟨v,w'',fr,hR,.head (hs cs) hst,hfn,hl⟩
def yf (P:Program) (f:FuncId) (k:List Item) (R:Value->World->Prop):Exit->Act->World->Prop
 | .normal,a,w=>nU P f k a w R
 |_,_,_=>False
theorem Ai {c:Code} (h:c.wp P (yf P f k R) a w):nU P f (.code c::k) a w R:=by
 intro cs;obtain⟨e,a',w',hq,NW⟩:=h (ye f) k cs;cases e with
 |normal=>
  obtain⟨v,w'',fr,hR,hst,hfn,hl⟩:=hq cs;exact⟨v,w'',fr,hR,Steps.trans NW hst,hfn,hl⟩
 |_=>exact hq.elim
theorem wA {fn:Func} {v:Value} (hf:P.funcs[f]?=some fn) (hd:a.defers=[]) (hr: (results fn a.tmps).run P w=.ok v w) (hR:R v w):
  nU P f (.code .ret::k) a w R:=λcs=>
 ⟨v,w,_,hR,.one step_ret,rfl,rfl,hd,rfl,fn,hf,hr⟩
end
def yg:List (Nat×Bool)->Bool
 |[]=>false
 |_::_=>true
def HZ:List (Nat×Bool)->Bool
 |[]=>true
 |[(_,b)]=>!b
 |_::_::_=>false
def jw (P:Program) (ops:Array Oper) (S:World->Prop) (Q:Exit->Act->World->Prop):List (Nat×Bool)->Act->World->Prop
 |[],a,w=>Q .normal a w
 |(i,true)::L,a,w=>∃o v,ops[i]?=some o/\YieldsIf P ops S o v a/\jw P ops S Q L (a.put o.dst v) w
 |(i,false)::L,a,w=>wpOp P ops Q i (λa' w'=>(yg L=true->S w')/\jw P ops S Q L a' w') a w
section
variable {P:Program} {ops:Array Oper} {S:World->Prop} {Q:Exit->Act->World->Prop}
theorem Ev:∀(L:List (Nat×Bool)) (a:Act) (w:World),jw P ops (λ_=>True) Q L a w->wpOps P ops Q (L.map (·.1)) a w
 |[],a,w,h=>h
 |(i,true)::L,a,w,h=>by
  obtain⟨o,v,hi,hy,h⟩:=h;rw[List.map_cons,wpOps_cons];exact hy.wpOp hi trivial (Ev L _ _ h)
 |(i,false)::L,a,w,h=>by
  rw[List.map_cons,wpOps_cons];exact wpOp_mono (λa' w' h'=>Ev L a' w' h'.2) h
theorem NY:∀(L:List (Nat×Bool)) (a:Act) (w:World),HZ L=true->jw P ops (λ_=>True) Q L a w->jw P ops S Q L a w
 |[],a,w,_,h=>h
 |[(i,true)],a,w,hs,h=>by cases hs
 |[(i,false)],a,w,hs,h=>wpOp_mono (λa' w' h'=>⟨λe=>(by cases e),h'.2⟩) h
 |_::_::_,a,w,hs,h=>by cases hs
def sv (P:Program) (ops:Array Oper) (Q:Exit->Act->World->Prop) (S:World->Prop) (en:Nat):Nat->Array Bool->Act->World->Prop
 |0,listed,a,w=>Region.ready .any ops listed=[]/\Q .normal a w
 |fuel+1,listed,a,w=>
  (Region.ready .any ops listed=[]->Q .normal a w)/\
  ∀i∈Region.ready .any ops listed,wpOp P ops Q i (λa' w'=>((listed.setIfInBounds i true).getD en false=false->S w')/\sv P ops Q S en fuel (listed.setIfInBounds i true) a' w') a w
theorem yh {en:Nat}:∀(fuel:Nat) (listed:Array Bool) (a:Act) (w:World),sv P ops Q S en fuel listed a w->wpAny P .any ops Q fuel listed a w
 |0,_,_,_,h=>h
 |fuel+1,_,_,_,h=>⟨h.1,λi hi=>wpOp_mono (λa' w' h'=>yh fuel _ a' w' h'.2) (h.2 i hi)⟩
def qD (ops:Array Oper) (listed:Array Bool):Prop:=
 listed.size=ops.size/\∀k ok,ops[k]?=some ok->listed.getD k false=true->∀e∈ok.after,Region.binds .any e=true->listed.getD e.on false=true
theorem oU {j:Nat} {listed:Array Bool} (hc:qD ops listed) (hj:j∈Region.ready .any ops listed):qD ops (listed.setIfInBounds j true):=by
 refine⟨by simp[hc.1],λk ok hk hl e he hb=>?_⟩;by_cases hkj:k=j
 ·subst hkj;obtain⟨_,o,ho,hall⟩:=mem_ready.1 hj;rw[hk] at ho;cases ho;exact getD_set_true (hall e he hb)
 ·rw[getD_set_ne false (Ne.symm hkj)] at hl;exact getD_set_true (hc.2 k ok hk hl e he hb)
def needs (ops:Array Oper):Nat->Nat->Nat->Bool
 |0,j,i=>Nat.beq j i
 |n+1,j,i=>Nat.beq j i||(match ops[j]? with|some o=>o.after.any (λe=>Region.binds .any e&&Nat.beq e.on i)||o.after.any (λe=>Region.binds .any e&&needs ops n e.on i)|none=>false)
theorem H6 {i:Nat} {listed:Array Bool} (hc:qD ops listed):∀(n j:Nat),needs ops n j i=true->listed.getD j false=true->listed.getD i false=true
 |0,j,h,hj=>by rw[<-Nat.eq_of_beq_eq_true h];exact hj
 |n+1,j,h,hj=>by
  unfold needs at h;rw[Bool.or_eq_true] at h;rcases h with h|h
  ·rw[<-Nat.eq_of_beq_eq_true h];exact hj
  ·cases ho:ops[j]? with
   |none=>rw[ho] at h;cases h
   |some o=>
    rw[ho] at h;simp only[Bool.or_eq_true] at h;rcases h with h|h
    ·obtain⟨e,he,hb⟩:=Array.any_eq_true'.1 h;rw[Bool.and_eq_true] at hb;rw[<-Nat.eq_of_beq_eq_true hb.2];exact hc.2 j o ho hj e he hb.1
    ·obtain⟨e,he,hb⟩:=Array.any_eq_true'.1 h;rw[Bool.and_eq_true] at hb;exact H6 hc n e.on hb.2 (hc.2 j o ho hj e he hb.1)
theorem B8 {en i:Nat} {oi:Oper} {v:Value} (hi:ops[i]?=some oi) (hsel:∀(j:Nat) (o:Oper) cs b,ops[j]?=some o->o.op≠ .select cs b)
  (hQ:∀c a w,Q (.panic c) (a.put oi.dst v) w->Q (.panic c) a w) (hne:i≠en) (NZ:∀listed,qD ops listed->listed.getD en false=true->listed.getD i false=true):
  ∀(fuel:Nat) (listed:Array Bool) (a:Act) (w:World),qD ops listed->
   (∀j oj,ops[j]?=some oj->j≠i->listed.getD j true=false->(∀e∈oj.after,Region.binds .any e=true->e.on≠i)->oi.apart ops oj=true)->
   i∈Region.ready .any ops listed->YieldsIf P ops S oi v a->S w->
   sv P ops Q S en fuel (listed.setIfInBounds i true) (a.put oi.dst v) w->sv P ops Q S en (fuel+1) listed a w:=by
 intro fuel
 induction fuel with
 |zero=>
  intro listed a w gT _ hr hy hS H;refine⟨λh=>(by rw[h] at hr;cases hr),λj hj=>?_⟩;by_cases hji:j=i
  ·subst hji;exact hy.wpOp hi hS ⟨λ_=>hS,H⟩
  ·have:=ready_mono hj hji;rw[H.1] at this;cases this
 |succ fuel ih=>
  intro listed a w gT hfree hr hy hS H;refine⟨λh=>(by rw[h] at hr;cases hr),λj hj=>?_⟩;by_cases hji:j=i
  ·subst hji;exact hy.wpOp hi hS ⟨λ_=>hS,H⟩
  ·have h1:=H.2 j (ready_mono hj hji);obtain⟨H7,oj,Ew,hall⟩:=mem_ready.1 hj;have H8:=(mem_ready.1 hr).1;have hif:∀l:Array Bool,l.getD i true=false->l.getD i false=false:=λl h=>by
    rcases Nat.lt_or_ge i l.size with h'|h'
    ·simp[h'] at h⊢;exact h
    ·simp[Array.getElem?_eq_none h']
   have hnot:∀e∈oj.after,Region.binds .any e=true->e.on≠i:=λe he hb heq=>by
    have h1:=hall e he hb;rw[heq,hif _ H8] at h1;cases h1
   have H9:=oU gT hj;have N0: (listed.setIfInBounds j true).getD i true=false:=by rw[getD_set_ne true hji];exact H8
   have N1: (listed.setIfInBounds j true).getD en false=false:=by
    cases hb: (listed.setIfInBounds j true).getD en false with
    |false=>rfl
    |true=>have:=NZ _ H9 hb;rw[hif _ N0] at this;cases this
   have H_: ((listed.setIfInBounds i true).setIfInBounds j true).getD en false=false:=by
    rw[Array.setIfInBounds_comm _ _ (Ne.symm hji),getD_set_ne false hne];exact N1
   have h2:=wpOp_putIf Ew (hfree j oj Ew hji H7 hnot) (λcs b=>hsel i oi cs b hi) (λcs b=>hsel j oj cs b Ew) hQ hy h1;have N2:∀k ok,ops[k]?=some ok->k≠i->(listed.setIfInBounds j true).getD k true=false->
     (∀e∈ok.after,Region.binds .any e=true->e.on≠i)->oi.apart ops ok=true:=λk ok hk hki hun hno=>by
    refine hfree k ok hk hki ?_ hno;by_cases hjk:j=k
    ·subst hjk;exact H7
    ·rw[getD_set_ne true hjk] at hun;exact hun
   refine wpOp_mono (λa' w' h3=>⟨λ_=>h3.2.1 H_,ih (listed.setIfInBounds j true) a' w' H9 N2 (ready_mono hr (Ne.symm hji)) h3.1 (h3.2.1 H_) ?_⟩) h2;rw[Array.setIfInBounds_comm _ _ hji];exact h3.2.2
def B9 (n:Nat):List (Nat×Bool)->Nat
 |[]=>n
 |[(i,b)]=>if b then n else i
 |_::x::L=>B9 n (x::L)
def sw (ops:Array Oper) (en:Nat):Nat->Array Bool->List (Nat×Bool)->Bool
 |_,listed,[]=>(Region.ready .any ops listed).isEmpty
 |0,_,_::_=>false
 |n+1,listed,(i,true)::L=>!Nat.beq i en&&(Nat.ble ops.size en||needs ops 8 en i)&&Region.free .any ops listed i&&(Region.ready .any ops listed).contains i&&sw ops en n (listed.setIfInBounds i true) L
 |n+1,listed,(i,false)::L=>(Region.ready .any ops listed==[i])&&((listed.setIfInBounds i true).getD en false||yg L)&&sw ops en n (listed.setIfInBounds i true) L
def Ia (ops:Array Oper) (n:Nat) (listed:Array Bool) (L:List (Nat×Bool)):Bool:=sw ops (B9 ops.size L) n listed L
theorem B_ {en i:Nat} (h: (Nat.ble ops.size en||needs ops 8 en i)=true):∀listed,qD ops listed->listed.getD en false=true->listed.getD i false=true:=λlisted hc hj=>by
 rw[Bool.or_eq_true] at h;rcases h with h|h
 ·have:=Nat.le_of_ble_eq_true h;rw[Array.getD_eq_getD_getElem?,Array.getElem?_eq_none (by rw[hc.1];exact this)] at hj;cases hj
 ·exact H6 hc _ _ h hj
theorem wB (hs:Region.noSelect ops=true) (hQ:∀c a d v w,Q (.panic c) (Act.put a d v) w->Q (.panic c) a w) {en:Nat}:
  ∀(n:Nat) (listed:Array Bool) (L:List (Nat×Bool)) (a:Act) (w:World),sw ops en n listed L=true->qD ops listed->(yg L=true->S w)->jw P ops S Q L a w->
   sv P ops Q S en n listed a w
 |n,listed,[],a,w,hc,_,_,h=>by
  have hr:Region.ready .any ops listed=[]:=by simpa[sw] using hc
  cases n with
  |zero=>exact⟨hr,h⟩
  |succ n=>exact⟨λ_=>h,by rw[hr];simp⟩
 |0,_,x::L,a,w,hc,_,_,_=>by cases hc
 |n+1,listed,(i,true)::L,a,w,hc,gT,hS,h=>by
  simp only[sw,Bool.and_eq_true] at hc;obtain⟨⟨⟨⟨h1,h2⟩,h3⟩,h4⟩,h5⟩:=hc;obtain⟨o,v,hi,hy,h⟩:=h;have hr:i∈Region.ready .any ops listed:=by simpa using h4
  have Ib:=hS rfl;refine B8 hi (Region.noSelect_spec hs) (λc a w hq=>hQ c a _ _ w hq) (λe=>by subst e;simp at h1) (B_ h2) n listed a w gT (Region.free_spec hi h3) hr hy Ib (wB hs hQ n _ L _ w h5 (oU gT hr) (λ_=>Ib) h)
 |n+1,listed,(i,false)::L,a,w,hc,gT,hS,h=>by
  simp only[sw,Bool.and_eq_true,beq_iff_eq] at hc;obtain⟨⟨h1,h2⟩,h3⟩:=hc;have hr:i∈Region.ready .any ops listed:=by rw[h1];simp
  refine⟨λh0=>(by rw[h0] at h1;cases h1),λj hj=>?_⟩;rw[h1,List.mem_singleton] at hj;subst hj;refine wpOp_mono (λa' w' h'=>⟨λhb=>h'.1 ?_,wB hs hQ n _ L a' w' h3 (oU gT hr) h'.1 h'.2⟩) h;rw[hb] at h2;simpa using h2
theorem N3 {o:Oper} {v v':Value} {a:Act} {w:World} (h:YieldsIf P ops S o v a) (h':YieldsIf P ops S o v' a) (hS:S w):v=v':=by
 rcases h with⟨h1,h2⟩|⟨h1,rfl⟩<;>rcases h' with⟨h3,h4⟩|⟨h3,rfl⟩
 ·have:=(h2 w hS).symm.trans (h4 w hS);simpa using this
 ·rw[h1] at h3;cases h3
 ·rw[h1] at h3;cases h3
 ·rfl
def Aj (ops:Array Oper) (en i:Nat) (L:List (Nat×Bool)) (i':Nat) (L':List (Nat×Bool)):Nat->Array Bool->List Nat->Bool
 |0,_,_=>false
 |n+1,listed,[]=>(Region.ready .any ops listed==[i,i'])&&((listed.setIfInBounds i true).getD en false||yg L)&&sw ops en n (listed.setIfInBounds i true) L&&((listed.setIfInBounds i' true).getD en false||yg L')&&sw ops en n (listed.setIfInBounds i' true) L'
 |n+1,listed,j::A=>!Nat.beq j en&&(Nat.ble ops.size en||needs ops 8 en j)&&Region.free .any ops listed j&&(Region.ready .any ops listed).contains j&&Aj ops en i L i' L' n (listed.setIfInBounds j true) A
def Ic (ops:Array Oper) (i:Nat) (L:List (Nat×Bool)) (i':Nat) (L':List (Nat×Bool)) (n:Nat) (listed:Array Bool) (A:List Nat):Bool:=Aj ops (B9 ops.size ((i,false)::L)) i L i' L' n listed A
theorem Ie (hs:Region.noSelect ops=true) (hQ:∀c a d v w,Q (.panic c) (Act.put a d v) w->Q (.panic c) a w) {en i i':Nat} {L L':List (Nat×Bool)}:
  ∀(n:Nat) (listed:Array Bool) (A:List Nat) (a:Act) (w:World),Aj ops en i L i' L' n listed A=true->qD ops listed->S w->
   jw P ops S Q (A.map (λj=>(j,true))++(i,false)::L) a w->jw P ops S Q (A.map (λj=>(j,true))++(i',false)::L') a w->sv P ops Q S en n listed a w
 |0,_,_,_,_,hc,_,_,_,_=>by cases hc
 |n+1,listed,[],a,w,hc,gT,hS,h,h'=>by
  simp only[Aj,Bool.and_eq_true,beq_iff_eq] at hc;obtain⟨⟨⟨⟨h0,h1⟩,h2⟩,h3⟩,h4⟩:=hc;have hr:i∈Region.ready .any ops listed:=by rw[h0];simp
  have hr':i'∈Region.ready .any ops listed:=by rw[h0];simp
  refine⟨λwC=>(by rw[wC] at h0;cases h0),λj hj=>?_⟩;rw[h0] at hj;simp only[List.mem_cons,List.not_mem_nil,or_false] at hj;rcases hj with rfl|rfl
  ·exact wpOp_mono (λa' w' g=>⟨λhb=>g.1 (by rw[hb] at h1;simpa using h1),wB hs hQ n _ L a' w' h2 (oU gT hr) g.1 g.2⟩) h
  ·exact wpOp_mono (λa' w' g=>⟨λhb=>g.1 (by rw[hb] at h3;simpa using h3),wB hs hQ n _ L' a' w' h4 (oU gT hr') g.1 g.2⟩) h'
 |n+1,listed,j::A,a,w,hc,gT,hS,h,h'=>by
  simp only[Aj,Bool.and_eq_true] at hc;obtain⟨⟨⟨⟨h1,h2⟩,h3⟩,h4⟩,h5⟩:=hc;obtain⟨o,v,hi,hy,h⟩:=h;obtain⟨o',v',hi',hy',h'⟩:=h';rw[hi] at hi';cases hi';obtain rfl:=N3 hy hy' hS;have hr:j∈Region.ready .any ops listed:=by simpa using h4
  exact B8 hi (Region.noSelect_spec hs) (λc a w hq=>hQ c a _ _ w hq) (λe=>by subst e;simp at h1) (B_ h2) n listed a w gT (Region.free_spec hi h3) hr hy hS (Ie hs hQ n _ A _ w h5 (oU gT hr) hS h h')
theorem Ca (ops:Array Oper):qD ops (Array.replicate ops.size false):=⟨by simp,λk ok _ hl=>by
 rcases Nat.lt_or_ge k ops.size with h|h
 ·simp[h] at hl
 ·simp[Array.getElem?_eq_none,h] at hl⟩
end
abbrev Env:=List (Nat×Value)
def look:Env->Nat->Option Value
 |[],_=>none
 |(t,v)::e,u=>bif Nat.beq t u then some v else look e u
structure nV (N:Nat) (env:Env) (a:Act):Prop where
 size:a.tmps.size=N
 defers:a.defers=[]
 slot:∀t v,look env t=some v->a.tmps[t]?=some v
def uV (d:Option Nat) (v:Value) (env:Env):Env:=match d with|some t=>(t,v)::env|none=>env
def uW (N:Nat) (d:Option Nat):Bool:=match d with|some t=>Nat.blt t N|none=>true
theorem nV.put {N:Nat} {env:Env} {a:Act} (h:nV N env a) {d:Option Nat} (hd:uW N d=true) (v:Value):nV N (uV d v env) (a.put d v):=by
 cases d with
 |none=>exact⟨h.size,h.defers,h.slot⟩
 |some t=>
  have ht:t<N:=by
     have h:t+1<=N:=by simpa[uW,Nat.blt] using hd
     omega
  refine⟨by simp[Act.put,h.size],h.defers,λu x hx=>?_⟩;simp only[uV,look] at hx;simp only[Act.put,Array.getElem?_setIfInBounds];by_cases e:t=u
  ·subst e;simp at hx;simp[h.size,ht,hx]
  ·have e':Nat.beq t u=false:=by
    cases hb:Nat.beq t u with
    |false=>rfl
    |true=>exact absurd (Nat.eq_of_beq_eq_true hb) e
   rw[e'] at hx;simp only[cond_false] at hx;simp[e,h.slot u x hx]
def ev (env:Env):Operand->Option Value
 | .tmp t=>look env t
 | .const v=>some v
 | .func g=>some (.func (.func g) #[] #[])
 | .global g=>some (.pointer (some ⟨g,0,none⟩))
theorem nV.ev {N:Nat} {env:Env} {a:Act} (h:nV N env a) {x:Operand} {v:Value} (hx:ev env x=some v):a.eval x=v:=by
 cases x with
 |tmp t=>
  have:=h.slot t v hx;simp only[Act.eval];rw[Array.getD_eq_getD_getElem?,this];rfl
 |const u=>simpa[K.ev,Act.eval] using hx
 |func g=>simpa[K.ev,Act.eval] using hx
 |global g=>simpa[K.ev,Act.eval] using hx
def oV (env:Env):List Operand->Option (List Value)
 |[]=>some []
 |x::l=>match ev env x,oV env l with|some v,some r=>some (v::r)|_,_=>none
theorem nV.oV {N:Nat} {env:Env} {a:Act} (h:nV N env a):∀{l:List Operand} {vs:List Value},oV env l=some vs->l.map a.eval=vs
 |[],vs,hl=>by simpa[K.oV] using hl
 |x::l,vs,hl=>by
  simp only[K.oV] at hl;cases hx:K.ev env x with
  |none=>rw[hx] at hl;cases hl
  |some v=>
   cases hr:K.oV env l with
   |none=>rw[hx,hr] at hl;cases hl
   |some r=>
    rw[hx,hr] at hl;simp only[Option.some.injEq] at hl;subst hl;simp[h.ev hx,h.oV hr]
def Sub (env' env:Env):Prop:=∀t v,look env' t=some v->look env t=some v
theorem b6 (env:Env):Sub [] env:=λt v h=>by cases h
theorem cA (t:Nat) {u v:Value} {env' env:Env} (hl:look env t=some u) (hv:u=v) (h:Sub env' env):Sub ((t,v)::env') env:=by
 subst hv;intro s x hx;simp only[look] at hx;cases hb:Nat.beq t s with
 |true=>
  rw[hb] at hx;simp only[cond_true,Option.some.injEq] at hx;rw[<-Nat.eq_of_beq_eq_true hb,hl,hx]
 |false=>rw[hb] at hx;exact h s x hx
theorem Sub.refl (env:Env):Sub env env:=λ_ _ h=>h
theorem nV.sub {N:Nat} {env env':Env} {a:Act} (h:nV N env a) (hs:Sub env' env):nV N env' a:=⟨h.size,h.defers,λt v ht=>h.slot t v (hs t v ht)⟩
def Run (P:Program) (f:FuncId) (N:Nat) (k:List Item) (env:Env) (w:World) (R:Value->World->Prop):Prop:=
 ∀a,nV N env a->nU P f k a w R
def bO (P:Program) (N:Nat) (Q:Exit->Act->World->Prop) (ops:Array Oper) (S:World->Prop) (L:List (Nat×Bool)) (env:Env) (w:World):Prop:=
 ∀a,nV N env a->jw P ops S Q L a w
abbrev ai (P:Program) (f:FuncId) (N:Nat) (k:List Item) (R:Value->World->Prop) (ops:Array Oper) (S:World->Prop) (L:List (Nat×Bool)) (env:Env) (w:World):Prop:=
 bO P N (yf P f k R) ops S L env w
section
variable {P:Program} {f:FuncId} {N:Nat} {k:List Item} {env:Env} {w:World} {R:Value->World->Prop}
theorem Run.sub {env':Env} (hs:Sub env' env) (h:Run P f N k env' w R):Run P f N k env w R:=λa ha=>h a (ha.sub hs)
theorem run_seq {c x y:Code} (hc:c=.seq x y) (h:Run P f N (.code x:: .code y::k) env w R):Run P f N (.code c::k) env w R:=λa ha=>by
 subst hc;exact nU.step (λ_=>step_seq) (h a ha)
theorem N4 {c x:Code} {id:Nat} (hc:c=.block id x) (h:Run P f N (.code x:: .inBlock id::k) env w R):Run P f N (.code c::k) env w R:=λa ha=>by
 subst hc;exact nU.step (λ_=>step_block) (h a ha)
theorem dZ {id:Nat} (h:Run P f N k env w R):Run P f N (.inBlock id::k) env w R:=λa ha=>
 nU.step (λ_=>step_inBlock) (h a ha)
theorem N5 {c:Code} (hc:c=.skip) (h:Run P f N k env w R):Run P f N (.code c::k) env w R:=λa ha=>by
 subst hc;exact nU.step (λ_=>step_skip) (h a ha)
theorem N6 {c:Code} {id:Nat} {k':List Item} (hc:c=.exit id) (hk:exitTo id k=some k') (h:Run P f N k' env w R):Run P f N (.code c::k) env w R:=λa ha=>by
 subst hc;exact nU.step (λ_=>step_exit hk) (h a ha)
theorem Ak {c x y:Code} {o:Operand} {b:Bool} (hc:c=.cond o x y) (hv:ev env o=some (.bool b))
  (ht:b=true->Run P f N (.code x::k) env w R) (hf:b=false->Run P f N (.code y::k) env w R):Run P f N (.code c::k) env w R:=λa ha=>by
 subst hc;have:=ha.ev hv;cases b with
 |true=>exact nU.step (λ_=>step_cond this) (ht rfl a ha)
 |false=>exact nU.step (λ_=>step_cond this) (hf rfl a ha)
theorem N7 {c x y:Code} {o:Operand} {p:Prop} [Decidable p] (hc:c=.cond o x y) (hv:ev env o=some (.bool (decide p)))
  (ht:p->Run P f N (.code x::k) env w R) (hf:¬p->Run P f N (.code y::k) env w R):Run P f N (.code c::k) env w R:=
 Ak hc hv (λh=>ht (of_decide_eq_true h)) (λh=>hf (of_decide_eq_false h))
theorem N8 {c body:Code} {ι:Type} (I:ι->World->Prop) (e:ι->Env) (m:ι->Nat) (eZ:ι) (hc:c=.loop body)
  (hs:Sub (e eZ) env) (h0:I eZ w)
  (hr:∀x w,I x w->(∀y w',I y w'->m y<m x->Run P f N (.inLoop body::k) (e y) w' R)->Run P f N (.code body:: .inLoop body::k) (e x) w R):
  Run P f N (.code c::k) env w R:=by
 subst hc;have main:∀n x w,m x<=n->I x w->Run P f N (.inLoop body::k) (e x) w R:=by
  intro n
  induction n with
  |zero=>
   intro x w hm hI a ha;exact nU.step (λ_=>step_inLoop) (hr x w hI (λy w' hy hlt=>by omega) a ha)
  |succ n ih=>
   intro x w hm hI a ha;exact nU.step (λ_=>step_inLoop) (hr x w hI (λy w' hy hlt=>ih y w' (by omega) hy) a ha)
 intro a ha;exact nU.step (λ_=>step_loop) (hr eZ w h0 (λy w' hy hlt=>main (m y) y w' (Nat.le_refl _) hy) a (ha.sub hs))
theorem N9 {c:Code} {fn:Func} {t:Nat} {v:Value} (hc:c=.ret) (hf:P.funcs[f]?=some fn) (hres:fn.results=#[.tmp t]) (hv:look env t=some v)
  (hR:R v w):Run P f N (.code c::k) env w R:=λa ha=>by
 subst hc;refine wA hf ha.defers ?_ hR;have:=ha.slot t v hv;simp only[results,hres];simp[this,Sem.run,pure,Array.getD_eq_getD_getElem?]
theorem N_ {c:Code} {fn:Func} (hc:c=.ret) (hf:P.funcs[f]?=some fn) (hres:fn.results=#[])
  (hR:R (.tuple #[]) w):Run P f N (.code c::k) env w R:=λa ha=>by
 subst hc;refine wA hf ha.defers ?_ hR;simp[results,hres,Sem.run,pure]
theorem gE {c:Code} {fn:Func} {t u:Nat} {v x:Value} (hc:c=.ret) (hf:P.funcs[f]?=some fn) (hres:fn.results=#[.tmp t,.tmp u]) (hv:look env t=some v) (hx:look env u=some x)
  (hR:R (.tuple #[v,x]) w):Run P f N (.code c::k) env w R:=λa ha=>by
 subst hc;refine wA hf ha.defers ?_ hR;rw[results_tmp2 hres];have h1:=ha.slot t v hv;have h2:=ha.slot u x hx;simp[h1,h2,Array.getD_eq_getD_getElem?]
theorem Oa {c:Code} {id:Nat} {ops:Array Oper} (L:List (Nat×Bool)) (hc:c=.region id ops false)
  (hL:L.map (·.1)=List.range ops.size) (h:ai P f N k R ops (λ_=>True) L env w):Run P f N (.code c::k) env w R:=λa ha=>by
 subst hc;exact Ai (wp_region (by rw[<-hL];exact Ev L a w (h a ha)))
theorem Oc {c:Code} {id:Nat} {ops:Array Oper} (S:World->Prop) (L:List (Nat×Bool)) (hm:P.follows .mixedOrders=true) (hc:c=.region id ops true)
  (hn:Region.noSelect ops=true) (hk:Ia ops ops.size (Array.replicate ops.size false) L=true) (hS:S {w with drawn:=w.drawn+1})
  (h:ai P f N k R ops S L env {w with drawn:=w.drawn+1}):Run P f N (.code c::k) env w R:=λa ha=>by
 subst hc;exact Ai (wp_region_any hm (yh _ _ _ _ (wB hn (λc a d v w h=>h.elim) _ _ L a _ hk (Ca ops) (λ_=>hS) (h a ha))))
theorem Od {c:Code} {id:Nat} {ops:Array Oper} (S:World->Prop) (A:List Nat) (i:Nat) (L:List (Nat×Bool)) (i':Nat) (L':List (Nat×Bool)) (hm:P.follows .mixedOrders=true) (hc:c=.region id ops true)
  (hn:Region.noSelect ops=true) (hk:Ic ops i L i' L' ops.size (Array.replicate ops.size false) A=true) (hS:S {w with drawn:=w.drawn+1})
  (h:ai P f N k R ops S (A.map (λj=>(j,true))++(i,false)::L) env {w with drawn:=w.drawn+1}) (h':ai P f N k R ops S (A.map (λj=>(j,true))++(i',false)::L') env {w with drawn:=w.drawn+1}):Run P f N (.code c::k) env w R:=λa ha=>by
 subst hc;exact Ai (wp_region_any hm (yh _ _ _ _ (Ie hn (λc a d v w h=>h.elim) _ _ A a _ hk (Ca ops) hS (h a ha) (h' a ha))))
def eT (ops:Array Oper) (i:Nat):Option (Option Tmp×Op×Option (Nat×Bool)):=(ops[i]?).map λo=>(o.dst,o.op,o.guard)
def Ig (ops:Array Oper) (i:Nat):Option Tmp:=(ops[i]?).bind (·.dst)
def ew (P:Program) (N:Nat) (env:Env) (op:Op) (w:World) (v:Value):Prop:=
 ∀a,nV N env a->∀o:Oper,o.op=op->(execOp a.eval o).run P w=.ok (.value v) w
variable {Q:Exit->Act->World->Prop} {ops:Array Oper} {S:World->Prop} {i:Nat} {L:List (Nat×Bool)} {d:Option Nat} {op:Op} {v:Value}
theorem ai.free (hs:HZ L=true) (h:bO P N Q ops (λ_=>True) L env w):bO P N Q ops S L env w:=λa ha=>NY L a w hs (h a ha)
theorem ai.nil (h:Run P f N k env w R):ai P f N k R ops S [] env w:=λa ha=>h a ha
theorem Al {g:Option (Nat×Bool)} (h:eT ops i=some (d,op,g)):∃o,ops[i]?=some o/\o.dst=d/\o.op=op/\o.guard=g:=by
 unfold eT at h;cases ho:ops[i]? with
 |none=>rw[ho] at h;cases h
 |some o=>
  rw[ho] at h;simp only[Option.map_some,Option.some.injEq,Prod.mk.injEq] at h;exact⟨o,rfl,h⟩
def g_ (ops:Array Oper) (env:Env):Option (Nat×Bool)->Option Bool
 |none=>some true
 |some (j,want)=>match Ig ops j with
  |none=>some false
  |some t=>match look env t with
   |none=>none
   |some (.bool b)=>some (b==want)
   |some _=>some false
theorem nV.wanted {a:Act} (ha:nV N env a) {o:Oper} {b:Bool} (h:g_ ops env o.guard=some b):Region.wanted o (yielded ops a.tmps)=b:=by
 unfold Region.wanted;cases hg:o.guard with
 |none=>rw[hg] at h;simpa[g_] using h
 |some p=>
  obtain⟨j,want⟩:=p;rw[hg] at h;simp only[g_,Ig] at h;simp only[yielded];cases hj: (ops[j]?).bind (·.dst) with
  |none=>rw[hj] at h;simp only[Option.some.injEq] at h;subst h;rfl
  |some t=>
   rw[hj] at h;simp only at h;cases hl:look env t with
   |none=>rw[hl] at h;cases h
   |some u=>
    rw[hl] at h;have:=ha.slot t u hl;simp only[Option.bind_some,this];cases u<;>simp only[Option.some.injEq] at h<;>subst h<;>first|rfl|(rename_i x;cases x<;>cases want<;>rfl)
theorem ai.yield {g:Option (Nat×Bool)} (hop:eT ops i=some (d,op,g)) (hw:g_ ops env g=some true) (hd:uW N d=true)
  (hy:∀w',S w'->ew P N env op w' v) (h:bO P N Q ops S L (uV d v env) w):bO P N Q ops S ((i,true)::L) env w:=λa ha=>by
 obtain⟨o,ho,rfl,rfl,rfl⟩:=Al hop;exact⟨o,v,ho,.inl ⟨ha.wanted hw,λw' hS=>hy w' hS a ha o rfl⟩,h _ (ha.put hd v)⟩
theorem ai.pass {g:Option (Nat×Bool)} (hop:eT ops i=some (d,op,g)) (hw:g_ ops env g=some false) (hd:uW N d=true)
  (h:bO P N Q ops S L (uV d undef env) w):bO P N Q ops S ((i,true)::L) env w:=λa ha=>by
 obtain⟨o,ho,rfl,rfl,rfl⟩:=Al hop;exact⟨o,undef,ho,.inr ⟨ha.wanted hw,rfl⟩,h _ (ha.put hd undef)⟩
theorem ai.Oe {g:Option (Nat×Bool)} (hop:eT ops i=some (d,op,g)) (hw:g_ ops env g=some false) (hd:uW N d=true) (hS:S w)
  (h:bO P N Q ops S L (uV d undef env) w):bO P N Q ops S ((i,false)::L) env w:=λa ha=>by
 obtain⟨o,ho,rfl,rfl,rfl⟩:=Al hop;simp only[jw,wpOp,ho,ha.wanted hw,Bool.false_eq_true,if_false];exact⟨λ_=>hS,h _ (ha.put hd undef)⟩
def iY (P:Program) (N:Nat) (env:Env) (op:Op) (w:World) (T:Value->World->Prop):Prop:=
 ∀a,nV N env a->∀o:Oper,o.op=op->∃v w',((execOp a.eval o).run P w=.ok (.value v) w'\/((execOp a.eval o).run P w=.ok .skip w'/\v=undef))/\T v w'
theorem ai.act {g:Option (Nat×Bool)} {T:Value->World->Prop} (hop:eT ops i=some (d,op,g)) (hw:g_ ops env g=some true) (hd:uW N d=true)
  (hy:iY P N env op w T) (h:∀v w',T v w'->S w'/\bO P N Q ops S L (uV d v env) w'):bO P N Q ops S ((i,false)::L) env w:=λa ha=>by
 obtain⟨o,ho,rfl,rfl,rfl⟩:=Al hop;simp only[jw,wpOp,ho,ha.wanted hw,if_true];obtain⟨v,w',hrun,hT⟩:=hy a ha o rfl;left;unfold Oper.wp;obtain⟨h1,h2⟩:=h v w' hT;rcases hrun with hrun|⟨hrun,rfl⟩
 ·rw[hrun];exact⟨λ_=>h1,h2 _ (ha.put hd v)⟩
 ·rw[hrun];exact⟨λ_=>h1,h2 _ (ha.put hd undef)⟩
theorem ew.acts (h:ew P N env op w v):iY P N env op w (λx w'=>x=v/\w'=w):=λa ha o ho=>⟨v,w,.inl (h a ha o ho),rfl,rfl⟩
theorem ai.now {g:Option (Nat×Bool)} (hop:eT ops i=some (d,op,g)) (hw:g_ ops env g=some true) (hd:uW N d=true) (hS:S w)
  (hy:ew P N env op w v) (h:bO P N Q ops S L (uV d v env) w):bO P N Q ops S ((i,false)::L) env w:=
 ai.act hop hw hd hy.acts (by rintro _ _ ⟨rfl,rfl⟩;exact⟨hS,h⟩)
def Enters (P:Program) (N:Nat) (env:Env) (op:Op) (w:World) (g:FuncId) (args:Array Value):Prop:=
 ∀a,nV N env a->∀o:Oper,o.op=op->(execOp a.eval o).run P w=.ok (.enter g args) w
theorem ai.call {mK:Option (Nat×Bool)} {g:FuncId} {args:Array Value} {T:Value->World->Prop} (hop:eT ops i=some (d,op,mK)) (hw:g_ ops env mK=some true) (hd:uW N d=true)
  (hy:Enters P N env op w g args) (hc:Calls P g args w (bW T))
  (h:∀v w',T v w'->S w'/\bO P N Q ops S L (uV d v env) w'):bO P N Q ops S ((i,false)::L) env w:=λa ha=>by
 obtain⟨o,ho,rfl,rfl,rfl⟩:=Al hop;simp only[jw,wpOp,ho,ha.wanted hw,if_true];left;unfold Oper.wp;rw[hy a ha o rfl];simp only[Oper.upon];refine hc.mono λe w' he=>?_;obtain⟨v,rfl,hT⟩:=he;obtain⟨h1,h2⟩:=h v w' hT;exact⟨λ_=>h1,h2 _ (ha.put hd v)⟩
end
theorem Og {P:Program} {f:FuncId} {fn:Func} {c:Code} {args:List Value} {N:Nat} {env:Env} {w:World} {R:Value->World->Prop}
  (hf:P.funcs[f]?=some fn) (hb:fn.body=some c) (hN:fn.ntmps=N) (hsz:Nat.ble args.length N=true) (he:∀t v,look env t=some v->args[t]?=some v)
  (h:Run P f N [.code c] env w R):Calls P f args.toArray w (bW R):=by
 refine NU hf hb (h _ ?_);have:args.length<=N:=Nat.le_of_ble_eq_true hsz;refine⟨by simp[hN];omega,rfl,λt v ht=>?_⟩;have h1:=he t v ht;have h2:t<args.length:=by
  rcases Nat.lt_or_ge t args.length with h|h
  ·exact h
  ·rw[List.getElem?_eq_none h] at h1;cases h1
 simp only;rw[Array.getElem?_append_left (by simpa using h2)];simpa using h1
def Am:Nat->List Value->Env
 |_,[]=>[]
 |n,v::l=>(n,v)::Am (n+1) l
theorem Ih:∀(l:List Value) (n t:Nat) (v:Value),look (Am n l) t=some v->n<=t/\l[t-n]?=some v
 |[],_,_,_,h=>by cases h
 |x::l,n,t,v,h=>by
  simp only[Am,look] at h;cases hb:Nat.beq n t with
  |true=>
   rw[hb] at h;have e:=Nat.eq_of_beq_eq_true hb;subst e;simp at h;simp[h]
  |false=>
   rw[hb] at h;have hne:n≠t:=λe=>by subst e;simp at hb
   obtain⟨h1,h2⟩:=Ih l (n+1) t v h;refine⟨by omega,?_⟩;have:t-n=(t-(n+1))+1:=by omega
   rw[this];simpa using h2
theorem Oh {P:Program} {f:FuncId} {fn:Func} {c:Code} (args:List Value) {N:Nat} {w:World} {R:Value->World->Prop}
  (hf:P.funcs[f]?=some fn) (hb:fn.body=some c) (hN:fn.ntmps=N) (hsz:Nat.ble args.length N=true)
  (h:Run P f N [.code c] (Am 0 args) w R):Calls P f args.toArray w (bW R):=
 Og hf hb hN hsz (λt v ht=>by simpa using(Ih args 0 t v ht).2) h
section
variable {P:Program} {N:Nat} {env:Env} {w:World} {x y z:Operand} {t u:TypeId} {k:IntKind} {m n:Int} {v:Value}
theorem mk' {op:Op} (h:∀ρ:Operand->Value,(∀x v,ev env x=some v->ρ x=v)->∀o:Oper,o.op=op->(execOp ρ o).run P w=.ok (.value v) w):ew P N env op w v:=
 λa ha o ho=>h a.eval (λx v hx=>ha.ev hx) o ho
theorem Ex (hx:ev env x=some v):ew P N env (.move x) w v:=mk' λρ hρ o ho=>by
 unfold execOp;rw[ho];simp[hρ _ _ hx,go_sem]
theorem sx (hx:ev env x=some v):ew P N env (.assign x) w v:=mk' λρ hρ o ho=>by
 unfold execOp;rw[ho];simp[hρ _ _ hx,go_sem]
theorem Cc {v₁:Value} (hx:ev env x=some (.bool true)) (hy:ev env y=some v₁):
  ew P N env (.pick x y z) w v₁:=mk' λρ hρ o ho=>by
 unfold execOp;rw[ho];simp[hρ _ _ hx,hρ _ _ hy,go_sem,asBool]
theorem An {v₂:Value} (hx:ev env x=some (.bool false)) (hz:ev env z=some v₂):
  ew P N env (.pick x y z) w v₂:=mk' λρ hρ o ho=>by
 unfold execOp;rw[ho];simp[hρ _ _ hx,hρ _ _ hz,go_sem,asBool]
theorem Oi {a:Addr} (hx:ev env x=some (.pointer (some a))):ew P N env (.nilCheck x) w (.pointer (some a)):=mk' λρ hρ o ho=>by
 unfold execOp;rw[ho];simp[hρ _ _ hx,go_sem]
theorem Oj {vs:Array Value} {i:Nat} (hx:ev env x=some (.tuple vs)) (hv:vs[i]?=some v):ew P N env (.extract x i) w v:=mk' λρ hρ o ho=>by
 unfold execOp;rw[ho];simp[hρ _ _ hx,go_sem,Instr.extract,hv]
theorem qj (op:BinOp) (t:TypeId) (x y:Operand) (k j:IntKind) (m n:Int) (w:World):
  (eqGuard op t x y (.int k m) (.int j n)).run P w=.ok () w:=by
 unfold eqGuard;simp[go_sem]
theorem val_add (hx:ev env x=some (.int k m)) (hy:ev env y=some (.int k n)):ew P N env (.binOp .add t x y u) w (.int k (k.wrap (m+n))):=mk' λρ hρ o ho=>by
 unfold execOp;rw[ho];simp[hρ _ _ hx,hρ _ _ hy,go_sem,qj,binOp,Op.intArith]
theorem val_sub (hx:ev env x=some (.int k m)) (hy:ev env y=some (.int k n)):ew P N env (.binOp .sub t x y u) w (.int k (k.wrap (m-n))):=mk' λρ hρ o ho=>by
 unfold execOp;rw[ho];simp[hρ _ _ hx,hρ _ _ hy,go_sem,qj,binOp,Op.intArith]
theorem val_mul (hx:ev env x=some (.int k m)) (hy:ev env y=some (.int k n)):ew P N env (.binOp .mul t x y u) w (.int k (k.wrap (m*n))):=mk' λρ hρ o ho=>by
 unfold execOp;rw[ho];simp[hρ _ _ hx,hρ _ _ hy,go_sem,qj,binOp,Op.intArith]
theorem Ol (hx:ev env x=some (.int k m)) (hy:ev env y=some (.int k n)) (hn:n≠0):ew P N env (.binOp .quo t x y u) w (.int k (k.wrap (m.tdiv n))):=mk' λρ hρ o ho=>by
 unfold execOp;rw[ho];simp[hρ _ _ hx,hρ _ _ hy,go_sem,qj,binOp,Op.intDiv,hn]
theorem Om (hx:ev env x=some (.int k m)) (hy:ev env y=some (.int k n)) (hn:n≠0):ew P N env (.binOp .rem t x y u) w (.int k (m.tmod n)):=mk' λρ hρ o ho=>by
 unfold execOp;rw[ho];simp[hρ _ _ hx,hρ _ _ hy,go_sem,qj,binOp,Op.intDiv,hn]
theorem dV (hx:ev env x=some (.int k m)) (hy:ev env y=some (.int k n)):ew P N env (.binOp .lss t x y u) w (.bool (decide (m<n))):=mk' λρ hρ o ho=>by
 unfold execOp;rw[ho];simp[hρ _ _ hx,hρ _ _ hy,go_sem,qj,binOp,Op.intCmp]
theorem qE (hx:ev env x=some (.int k m)) (hy:ev env y=some (.int k n)):ew P N env (.binOp .leq t x y u) w (.bool (decide (m<=n))):=mk' λρ hρ o ho=>by
 unfold execOp;rw[ho];simp[hρ _ _ hx,hρ _ _ hy,go_sem,qj,binOp,Op.intCmp]
theorem eL (hx:ev env x=some (.int k m)) (hy:ev env y=some (.int k n)):ew P N env (.binOp .gtr t x y u) w (.bool (decide (n<m))):=mk' λρ hρ o ho=>by
 unfold execOp;rw[ho];simp[hρ _ _ hx,hρ _ _ hy,go_sem,qj,binOp,Op.intCmp]
theorem ga (hx:ev env x=some (.int k m)) (hy:ev env y=some (.int k n)):ew P N env (.binOp .geq t x y u) w (.bool (decide (n<=m))):=mk' λρ hρ o ho=>by
 unfold execOp;rw[ho];simp[hρ _ _ hx,hρ _ _ hy,go_sem,qj,binOp,Op.intCmp]
theorem gB (hx:ev env x=some (.int k m)) (hy:ev env y=some (.int k n)):ew P N env (.binOp .eql t x y u) w (.bool (decide (m=n))):=mk' λρ hρ o ho=>by
 unfold execOp;rw[ho];simp[hρ _ _ hx,hρ _ _ hy,go_sem,qj,binOp,Op.intCmp];rfl
theorem fc (hx:ev env x=some (.int k m)) (hy:ev env y=some (.int k n)):ew P N env (.binOp .neq t x y u) w (.bool (decide (m≠n))):=mk' λρ hρ o ho=>by
 unfold execOp;rw[ho];simp[hρ _ _ hx,hρ _ _ hy,go_sem,qj,binOp,Op.intCmp];by_cases h:m=n<;>simp[h]
def bitsOf (op:BinOp) (k:IntKind) (m n:Int):Int:=
 k.wrap ((match op with
  | .and=>BitVec.ofInt k.bits m&&&BitVec.ofInt k.bits n
  | .or=>BitVec.ofInt k.bits m|||BitVec.ofInt k.bits n
  | .xor=>BitVec.ofInt k.bits m^^^BitVec.ofInt k.bits n
  |_=>BitVec.ofInt k.bits m&&&~~~(BitVec.ofInt k.bits n):BitVec k.bits).toNat)
theorem Ce (hx:ev env x=some (.int k m)) (hy:ev env y=some (.int k n)):ew P N env (.binOp .xor t x y u) w (.int k (bitsOf .xor k m n)):=mk' λρ hρ o ho=>by
 unfold execOp;rw[ho];simp[hρ _ _ hx,hρ _ _ hy,Sem.run_bind,Sem.run_pure,qj,binOp,Op.intBits,bitsOf]
theorem WC {j:IntKind} (hx:ev env x=some (.int k m)) (hy:ev env y=some (.int j n)) (hn:0<=n):
  ew P N env (.binOp .shl t x y u) w (.int k (k.wrap (m*2^min n.toNat k.bits))):=mk' λρ hρ o ho=>by
 have:¬n<0:=by omega
 unfold execOp;rw[ho];simp[hρ _ _ hx,hρ _ _ hy,Sem.run_bind,Sem.run_pure,qj,binOp,Op.shift,this]
theorem yj {j:IntKind} (hx:ev env x=some (.int k m)) (hy:ev env y=some (.int j n)) (hn:0<=n):
  ew P N env (.binOp .shr t x y u) w (.int k (m.fdiv (2^min n.toNat k.bits))):=mk' λρ hρ o ho=>by
 have:¬n<0:=by omega
 unfold execOp;rw[ho];simp[hρ _ _ hx,hρ _ _ hy,Sem.run_bind,Sem.run_pure,qj,binOp,Op.shift,this]
theorem eC {b:Bool} (hx:ev env x=some (.bool b)):ew P N env (.unOp .not t x) w (.bool (!b)):=mk' λρ hρ o ho=>by
 unfold execOp;rw[ho];simp[hρ _ _ hx,go_sem,Op.unary]
theorem wD {p:Prop} [Decidable p] (hx:ev env x=some (.bool (decide p))):ew P N env (.unOp .not t x) w (.bool (decide (¬p))):=mk' λρ hρ o ho=>by
 unfold execOp;rw[ho];simp[hρ _ _ hx,go_sem,Op.unary]
theorem Cf {j:IntKind} (hx:ev env x=some (.int j m)) (ht:∃d,P.underlying t=some d) (hu:P.underlying u=some (.int k)):ew P N env (.convert t u x) w (.int k (k.wrap m)):=mk' λρ hρ o ho=>by
 obtain⟨d,hd⟩:=ht;unfold execOp;rw[ho];simp[hρ _ _ hx,go_sem,convert,run_underlying hd,run_underlying hu,Conv.intToInt]
theorem uX {b:Option Addr} {c l:Nat} {e:TypeId} (hx:ev env x=some (.slice b l c)) (ht:P.underlying t=some (.slice e)):
  ew P N env (.call {callee:=.builtin .len,args:=#[x],argTypes:=#[t]}) w (.int .i64 l):=mk' λρ hρ o ho=>by
 unfold execOp;rw[ho];simp[hρ _ _ hx,go_sem,resolve,invoke,builtin,Builtin.len_,run_underlying ht,goInt]
theorem ym {s:ByteArray} (hx:ev env x=some (.string s)) (ht:P.underlying t=some .string):
  ew P N env (.call {callee:=.builtin .len,args:=#[x],argTypes:=#[t]}) w (.int .i64 s.size):=mk' λρ hρ o ho=>by
 unfold execOp;rw[ho];simp[hρ _ _ hx,go_sem,resolve,invoke,builtin,Builtin.len_,run_underlying ht,goInt]
theorem uY {g:FuncId} {xs:Array Operand} {ts:Array TypeId} {vs:List Value} {cap:Array Value} {w:World}
  (wE:∀args w,(callFunc g args).run P w=.ok (.enter g args) w) (hx:ev env x=some (.func (.func g) #[] cap)) (hargs:oV env xs.toList=some vs):
  Enters P N env (.call {callee:=.value x,args:=xs,argTypes:=ts}) w g (vs++cap.toList).toArray:=λa ha o ho=>by
 have h1:xs.map a.eval=vs.toArray:=by
  rw[<-ha.oV hargs,<-List.map_toArray]
 unfold execOp;rw[ho];simp only[resolve,Deferred.ofValue,ha.ev hx,h1,Sem.run_bind,Sem.run_pure,Result.andThen_ok,invoke];rw[wE];simp
end
theorem wrap_i64 {n:Int} (h1:-9223372036854775808<=n) (h2:n<=9223372036854775807):IntKind.i64.wrap n=n:=IntWalk.i64_in n ⟨h1,h2⟩
theorem wrap_u64 {n:Int} (h1:0<=n) (h2:n<=18446744073709551615):IntKind.u64.wrap n=n:=by
 have h:IntKind.u64.wrap n=n%18446744073709551616:=by simp[IntKind.wrap,IntKind.signed,IntKind.bits]
 rw[h];exact Int.emod_eq_of_lt h1 (by omega)
theorem eq_int {k:IntKind} {a b:Int} (h:a=b):Value.int k a=Value.int k b:=by rw[h]
section
variable {P:Program} {N:Nat} {env:Env} {w:World} {x y:Operand} {t u:TypeId} {m n:Int}
theorem gU (hx:ev env x=some (.int .i64 m)) (hy:ev env y=some (.int .i64 n)) (h1:-9223372036854775808<=m+n) (h2:m+n<=9223372036854775807):
  ew P N env (.binOp .add t x y u) w (.int .i64 (m+n)):=by
 have:=val_add (P:=P) (N:=N) (w:=w) (t:=t) (u:=u) hx hy;rwa [wrap_i64 h1 h2] at this
theorem jo (hx:ev env x=some (.int .i64 m)) (hy:ev env y=some (.int .i64 n)) (h1:-9223372036854775808<=m-n) (h2:m-n<=9223372036854775807):
  ew P N env (.binOp .sub t x y u) w (.int .i64 (m-n)):=by
 have:=val_sub (P:=P) (N:=N) (w:=w) (t:=t) (u:=u) hx hy;rwa [wrap_i64 h1 h2] at this
theorem Ii (hx:ev env x=some (.int .i64 m)) (hy:ev env y=some (.int .i64 n)) (h1:-9223372036854775808<=m*n) (h2:m*n<=9223372036854775807):
  ew P N env (.binOp .mul t x y u) w (.int .i64 (m*n)):=by
 have:=val_mul (P:=P) (N:=N) (w:=w) (t:=t) (u:=u) hx hy;rwa [wrap_i64 h1 h2] at this
theorem Ey (hx:ev env x=some (.int .i64 m)) (hy:ev env y=some (.int .i64 n)) (h0:0<=m) (h1:1<=n) (h2:m<=9223372036854775807):
  ew P N env (.binOp .quo t x y u) w (.int .i64 (m/n)):=by
 have:=Ol (P:=P) (N:=N) (w:=w) (t:=t) (u:=u) hx hy (by omega);have h3:m/n<=m:=Int.ediv_le_self _ h0;have h4:0<=m/n:=Int.ediv_nonneg h0 (by omega);rwa [Int.tdiv_eq_ediv_of_nonneg h0,wrap_i64 (by omega) (by omega)] at this
theorem Ez (hx:ev env x=some (.int .i64 m)) (hy:ev env y=some (.int .i64 n)) (h0:0<=m) (h1:1<=n):
  ew P N env (.binOp .rem t x y u) w (.int .i64 (m%n)):=by
 have:=Om (P:=P) (N:=N) (w:=w) (t:=t) (u:=u) hx hy (by omega);rwa [Int.tmod_eq_emod_of_nonneg h0] at this
end
section
variable {P:Program} {N:Nat} {env:Env} {w:World} {x y:Operand} {t u:TypeId} {m n r:Int} {k j:IntKind}
theorem On (hx:ev env x=some (.int k m)) (hy:ev env y=some (.int j n)) (hn:0<=n) (h:m.fdiv (2^min n.toNat k.bits)=r):ew P N env (.binOp .shr t x y u) w (.int k r):=by
 subst h;exact yj hx hy hn
theorem Ch (hx:ev env x=some (.int j m)) (ht:∃d,P.underlying t=some d) (hu:P.underlying u=some (.int k)) (h:k.wrap m=r):ew P N env (.convert t u x) w (.int k r):=by
 subst h;exact Cf hx ht hu
end
def nW (w w':World):Prop:=w.drawn<=w'.drawn
theorem nW.refl {w w':World} (h:w'.drawn=w.drawn):nW w w':=Nat.le_of_eq h.symm
theorem nW.succ {w w':World} (h:w'.drawn=w.drawn+1):nW w w':=by unfold nW;omega
theorem nW.trans {w w' w'':World} (h:nW w w') (h':nW w' w''):nW w w'':=Nat.le_trans h h'
structure Ext (A:Nat->Prop) (w w':World):Prop where
 os:w'.os=w.os
 tape:w'.tape=w.tape
 output:w'.output=w.output
 size:w.heap.size<=w'.heap.size
 block:∀b,b<w.heap.size->¬A b->w'.heap[b]?=w.heap[b]?
 drawn:nW w w'
def No:Nat->Prop:=λ_=>False
def One (b:Nat):Nat->Prop:=λx=>x=b
def fE (v:Value):Nat->Prop:=λx=>v.ownBlock=some x
section
variable {A A' M M':Nat->Prop} {w w' w'':World}
theorem Ext.refl (A:Nat->Prop) (w:World):Ext A w w:=⟨rfl,rfl,rfl,Nat.le_refl _,λ_ _ _=>rfl,nW.refl rfl⟩
theorem Ext.trans (h:Ext A w w') (h':Ext A' w' w'') (hA:∀b,b<w.heap.size->A' b->A b):Ext A w w'':=
 ⟨h'.os.trans h.os,h'.tape.trans h.tape,h'.output.trans h.output,Nat.le_trans h.size h'.size,λb hb hn=>
  (h'.block b (Nat.lt_of_lt_of_le hb h.size) (λha=>hn (hA b hb ha))).trans (h.block b hb hn),nW.trans h.drawn h'.drawn⟩
theorem Ext.mono (h:Ext A w w') (hA:∀b,b<w.heap.size->A b->A' b):Ext A' w w':=
 ⟨h.os,h.tape,h.output,h.size,λb hb hn=>h.block b hb (λha=>hn (hA b hb ha)),h.drawn⟩
theorem Ext.drew (A:Nat->Prop) (w:World):Ext A w {w with drawn:=w.drawn+1}:=⟨rfl,rfl,rfl,Nat.le_refl _,λ_ _ _=>rfl,nW.succ rfl⟩
theorem Ext.below (h:Ext A w w') {B:Nat} (hB:B<=w.heap.size) (hA:∀b,A b->B<=b):Go.RowKit.Below B w w':=
 ⟨h.os,h.tape,h.output,h.size,λk hk=>h.block k (Nat.lt_of_lt_of_le hk hB) (λha=>by have:=hA k ha;omega)⟩
theorem Ext.Ao (h:Ext A w w') {b:Nat} {o:Obj} (hb:w.heap[b]?=some o) (hn:¬A b):w'.heap[b]?=some o:=
 (h.block b (Array.getElem?_eq_some_iff.1 hb).1 hn).trans hb
theorem yo {b:Nat} {o:Obj} (hb:w.heap[b]?=some o):b<w.heap.size:=(Array.getElem?_eq_some_iff.1 hb).1
end
class bF (α:Type) where
 sz:Nat
 agg:Bool
 flat:agg=false->sz=1
 rep:Array Obj->(Nat->Prop)->α->List Value->Prop
 len:∀{h M x vs},rep h M x vs->vs.length=sz
 one:∀{h M x vs},rep h M x vs->∀v∈vs,v.oneCell'=true
 keep:∀{h h' M x vs},rep h M x vs->(∀b,b<h.size->¬M b->h'[b]?=h[b]?)->rep h' M x vs
 sub:∀{h M M' x vs},rep h M x vs->(∀b,b<h.size->M' b->M b)->rep h M' x vs
open bF
instance:bF Int where
 sz:=1
 agg:=false
 flat _:=rfl
 rep _ _ x vs:=vs=[.int .i64 x]
 len h:=by subst h;rfl
 one h:=by subst h;intro v hv;simp at hv;subst hv;rfl
 keep h _:=h
 sub h _:=h
instance:bF Nat where
 sz:=1
 agg:=false
 flat _:=rfl
 rep _ _ x vs:=vs=[.int .i64 (x:Int)]
 len h:=by subst h;rfl
 one h:=by subst h;intro v hv;simp at hv;subst hv;rfl
 keep h _:=h
 sub h _:=h
structure Ij (k:IntKind) where
 n:Int
abbrev Oo:=Ij .u64
instance {k:IntKind}:bF (Ij k) where
 sz:=1
 agg:=false
 flat _:=rfl
 rep _ _ x vs:=vs=[.int k x.n]
 len h:=by subst h;rfl
 one h:=by subst h;intro v hv;simp at hv;subst hv;rfl
 keep h _:=h
 sub h _:=h
instance:bF Bool where
 sz:=1
 agg:=false
 flat _:=rfl
 rep _ _ x vs:=vs=[.bool x]
 len h:=by subst h;rfl
 one h:=by subst h;intro v hv;simp at hv;subst hv;rfl
 keep h _:=h
 sub h _:=h
instance:bF ByteArray where
 sz:=1
 agg:=false
 flat _:=rfl
 rep _ _ x vs:=vs=[.string x]/\x.size<=9223372036854775807
 len h:=by obtain⟨rfl,_⟩:=h;rfl
 one h:=by obtain⟨rfl,_⟩:=h;intro v hv;simp at hv;subst hv;rfl
 keep h _:=h
 sub h _:=h
instance {α β:Type} [bF α] [bF β]:bF (α×β) where
 sz:=sz α+sz β
 agg:=true
 flat h:=by cases h
 rep h M x vs:=∃us ws,vs=us++ws/\rep h M x.1 us/\rep h M x.2 ws
 len h:=by obtain⟨us,ws,rfl,h1,h2⟩:=h;rw[List.length_append,len h1,len h2]
 one h:=by
  obtain⟨us,ws,rfl,h1,h2⟩:=h;intro v hv;rcases List.mem_append.1 hv with hv|hv
  ·exact one h1 v hv
  ·exact one h2 v hv
 keep h hk:=by obtain⟨us,ws,e,h1,h2⟩:=h;exact⟨us,ws,e,keep h1 hk,keep h2 hk⟩
 sub h hk:=by obtain⟨us,ws,e,h1,h2⟩:=h;exact⟨us,ws,e,sub h1 hk,sub h2 hk⟩
@[reducible] def bF.via {α β:Type} [bF β] (f:α->β):bF α where
 sz:=sz β
 agg:=true
 flat h:=by cases h
 rep h M x vs:=rep h M (f x) vs
 len h:=len h
 one h:=one h
 keep h hk:=keep h hk
 sub h hk:=sub h hk
def cB (cs:Array Value) (o n:Nat):List Value:=(cs.toList.drop o).take n
def At {α:Type} [bF α] (h:Array Obj) (M:Nat->Prop) (b o:Nat) (x:α):Prop:=
 ¬M b/\∃cs ty fL,h[b]?=some (.cells cs ty fL)/\rep h M x (cB cs o (sz α))
def tf {α:Type} [bF α] (h:Array Obj) (M:Nat->Prop) (b o:Nat) (xs:List α):Prop:=
 ¬M b/\∃cs ty fL,h[b]?=some (.cells cs ty fL)/\o+xs.length*sz α<=cs.size/\∀i (hi:i<xs.length),rep h M xs[i] (cB cs (o+i*sz α) (sz α))
section
variable {α:Type} [bF α] {h h':Array Obj} {M M':Nat->Prop} {b o:Nat} {x:α} {xs:List α}
theorem At.keep (ha:At h M b o x) (hk:∀b,b<h.size->¬M b->h'[b]?=h[b]?):At h' M b o x:=by
 obtain⟨hb,cs,ty,fL,hc,hr⟩:=ha;exact⟨hb,cs,ty,fL,(hk b (Array.getElem?_eq_some_iff.1 hc).1 hb).trans hc,bF.keep hr hk⟩
theorem At.sub (ha:At h M b o x) (hk:∀b,b<h.size->M' b->M b):At h M' b o x:=by
 obtain⟨hb,cs,ty,fL,hc,hr⟩:=ha;exact⟨λh'=>hb (hk b (Array.getElem?_eq_some_iff.1 hc).1 h'),cs,ty,fL,hc,bF.sub hr hk⟩
theorem tf.keep (ha:tf h M b o xs) (hk:∀b,b<h.size->¬M b->h'[b]?=h[b]?):tf h' M b o xs:=by
 obtain⟨hb,cs,ty,fL,hc,hl,hr⟩:=ha;exact⟨hb,cs,ty,fL,(hk b (Array.getElem?_eq_some_iff.1 hc).1 hb).trans hc,hl,λi hi=>bF.keep (hr i hi) hk⟩
theorem tf.sub (ha:tf h M b o xs) (hk:∀b,b<h.size->M' b->M b):tf h M' b o xs:=by
 obtain⟨hb,cs,ty,fL,hc,hl,hr⟩:=ha;exact⟨λh'=>hb (hk b (Array.getElem?_eq_some_iff.1 hc).1 h'),cs,ty,fL,hc,hl,λi hi=>bF.sub (hr i hi) hk⟩
theorem tf.Ao (ha:tf h M b o xs) (i:Nat) (hi:i<xs.length):At h M b (o+i*sz α) xs[i]:=by
 obtain⟨hb,cs,ty,fL,hc,hl,hr⟩:=ha;exact⟨hb,cs,ty,fL,hc,hr i hi⟩
end
instance {α:Type} [bF α]:bF (List α) where
 sz:=1
 agg:=false
 flat _:=rfl
 rep h M xs vs:=∃a c,vs=[.slice a xs.length c]/\xs.length<=c/\xs.length<=9223372036854775807/\(xs=[]\/∃b o,a=some ⟨b,o,none⟩/\tf h M b o xs)
 len h:=by obtain⟨a,c,rfl,_⟩:=h;rfl
 one h:=by obtain⟨a,c,rfl,_⟩:=h;intro v hv;simp at hv;subst hv;rfl
 keep h hk:=by
  obtain⟨a,c,e,h1,h2,h3⟩:=h;exact⟨a,c,e,h1,h2,h3.imp id (λ⟨b,o,ha,hs⟩=>⟨b,o,ha,hs.keep hk⟩)⟩
 sub h hk:=by
  obtain⟨a,c,e,h1,h2,h3⟩:=h;exact⟨a,c,e,h1,h2,h3.imp id (λ⟨b,o,ha,hs⟩=>⟨b,o,ha,hs.sub hk⟩)⟩
def aF {α:Type} [bF α] (w:World) (M:Nat->Prop) (x:α) (v:Value):Prop:=∃vs,rep w.heap M x vs/\v=if agg α then .agg vs.toArray else vs.headD undef
def dF {α:Type} [bF α] (w:World) (M:Nat->Prop) (x:α) (b o:Nat):Prop:=At w.heap M b o x
section
variable {α β:Type} [bF α] [bF β] {w w':World} {A M M':Nat->Prop} {x:α} {xs:List α} {v:Value} {b o:Nat}
theorem aF.ext (hr:aF w M x v) (he:Ext A w w') (hA:∀b,b<w.heap.size->A b->M b):aF w' M x v:=
 let⟨vs,h1,h2⟩:=hr;⟨vs,bF.keep h1 (λb hb hn=>he.block b hb (λha=>hn (hA b hb ha))),h2⟩
theorem aF.sub (hr:aF w M x v) (hA:∀b,b<w.heap.size->M' b->M b):aF w M' x v:=let⟨vs,h1,h2⟩:=hr;⟨vs,bF.sub h1 hA,h2⟩
theorem dF.ext (hr:dF w M x b o) (he:Ext A w w') (hA:∀b,b<w.heap.size->A b->M b):dF w' M x b o:=
 At.keep hr (λb hb hn=>he.block b hb (λha=>hn (hA b hb ha)))
theorem dF.sub (hr:dF w M x b o) (hA:∀b,b<w.heap.size->M' b->M b):dF w M' x b o:=At.sub hr hA
theorem eo {n:Int}:aF w M n v↔v=.int .i64 n:=⟨λ⟨vs,h,e⟩=>by subst h;exact e,λh=>⟨_,rfl,h⟩⟩
theorem fu {n:Nat}:aF w M n v↔v=.int .i64 (n:Int):=⟨λ⟨vs,h,e⟩=>by subst h;exact e,λh=>⟨_,rfl,h⟩⟩
theorem wF {n:Bool}:aF w M n v↔v=.bool n:=⟨λ⟨vs,h,e⟩=>by subst h;exact e,λh=>⟨_,rfl,h⟩⟩
theorem nX {s:ByteArray}:aF w M s v↔v=.string s/\s.size<=9223372036854775807:=⟨λ⟨vs,h,e⟩=>by obtain⟨rfl,h⟩:=h;exact⟨e,h⟩,λh=>⟨_,⟨rfl,h.2⟩,h.1⟩⟩
theorem mL:aF w M xs v↔∃a c,v=.slice a xs.length c/\xs.length<=c/\xs.length<=9223372036854775807/\(xs=[]\/∃b o,a=some ⟨b,o,none⟩/\tf w.heap M b o xs):=
 ⟨λ⟨vs,h,e⟩=>by obtain⟨a,c,rfl,h⟩:=h;exact⟨a,c,e,h⟩,λ⟨a,c,h⟩=>⟨_,⟨a,c,rfl,h.2⟩,h.1⟩⟩
theorem fF:aF w M ([]:List α) (.slice none 0 0):=mL.2 ⟨none,0,rfl,Nat.le_refl _,by simp,.inl rfl⟩
theorem dF.fst {p:α×β} (h:dF w M p b o):dF w M p.1 b o:=by
 obtain⟨hb,cs,ty,fL,hc,us,ws,he,h1,h2⟩:=h;refine⟨hb,cs,ty,fL,hc,?_⟩;have:cB cs o (sz α)=us:=by
  have e:cB cs o (sz (α×β))=us++ws:=he;have hl:=bF.len h1;have:cB cs o (sz α)=(cB cs o (sz (α×β))).take (sz α):=by
   simp only[cB,List.take_take];congr 1;exact(Nat.min_eq_left (Nat.le_add_right _ _)).symm
  rw[this,e,<-hl,List.take_left]
 rw[this];exact h1
theorem dF.snd {p:α×β} (h:dF w M p b o):dF w M p.2 b (o+sz α):=by
 obtain⟨hb,cs,ty,fL,hc,us,ws,he,h1,h2⟩:=h;refine⟨hb,cs,ty,fL,hc,?_⟩;have:cB cs (o+sz α) (sz β)=ws:=by
  have e:cB cs o (sz (α×β))=us++ws:=he;have hl:=bF.len h1;have:cB cs (o+sz α) (sz β)=(cB cs o (sz (α×β))).drop (sz α):=by
   simp only[cB,List.drop_take,List.drop_drop];congr 1;exact(Nat.add_sub_cancel_left _ _).symm
  rw[this,e,<-hl,List.drop_left]
 rw[this];exact h2
theorem aF.yp (h:aF w M x v) (hx:bF.agg α=false):rep w.heap M x [v]:=by
 obtain⟨vs,hr,hv⟩:=h;have hl:=bF.len hr;rw[bF.flat hx] at hl;obtain⟨u,rfl⟩:=List.length_eq_one_iff.1 hl;simp only[hx,Bool.false_eq_true,if_false,List.headD_cons] at hv;subst hv;exact hr
theorem qk (h:rep w.heap M x [v]) (hx:bF.agg α=false):aF w M x v:=⟨[v],h,by simp[hx]⟩
def iW (P:Program) (t:TypeId):Option Bool:=match P.underlying t with|some (.struct _)=>some true|some (.array _ _)=>some true|some _=>some false|none=>none
def iy (P:Program) (t:TypeId):Option Nat:=(P.info? t).map (·.size)
variable {P:Program} {N:Nat} {env:Env} {t u:TypeId} {y z:Operand}
theorem tV {b:Bool} (h:iW P t=some b) (w:World): (isAgg t).run P w=.ok b w:=by
 unfold iW at h;split at h<;>rename_i hu<;>first|(simp only[Option.some.injEq] at h;subst h)|cases h
 all_goals simp[isAgg,run_underlying hu]
theorem oq {n:Nat} (h:iy P t=some n) (w:World): (sizeOf t).run P w=.ok n w:=by
 unfold iy at h;cases hi:P.info? t with
 |none=>rw[hi] at h;cases h
 |some i=>rw[hi] at h;simp only[Option.map_some,Option.some.injEq] at h;subst h;simp[sizeOf,typeInfo,hi]
theorem Ik {cs:Array Value} {o n:Nat} {vs:List Value} (h:cB cs o n=vs) (hl:vs.length=n) {j:Nat} (hj:j<n):cs[o+j]?=vs[j]?:=by
 subst h;simp only[cB,List.getElem?_take,List.getElem?_drop,if_pos hj];simp
theorem oW (b o n:Nat): (⟨b,o,none⟩:Addr).add n=⟨b,o+n,none⟩:=by unfold Addr.add;split<;>simp_all
theorem dF.load (h:dF w M x b o) (ha:iW P t=some false) (hx:bF.agg α=false) (hy:ev env y=some (.pointer (some ⟨b,o,none⟩))):
  ∃v,aF w M x v/\∀w',w'.heap[b]?=w.heap[b]?->ew P N env (.load t y) w' v:=by
 obtain⟨hb,cs,ty,fL,hc,hr⟩:=h;have h1:sz α=1:=bF.flat hx;obtain⟨v,hv⟩:∃v,cB cs o (sz α)=[v]:=List.length_eq_one_iff.1 (by rw[len hr,h1]);rw[hv] at hr;refine⟨v,⟨[v],hr,by simp[hx]⟩,λw' hw=>mk' λρ hρ gi ho=>?_⟩;rw[<-hw] at hc;have h2:cs[o]?=some v:=by have:=Ik (j:=0) hv (by simp[h1]) (by omega);simpa using this
 unfold execOp;rw[ho];simp[hρ _ _ hy,go_sem,Instr.loadAt,Instr.sureAddr,loadVar,tV ha,World.cell?,hc,h2]
theorem dF.Ap (h:dF w M x b o) (ha:iW P t=some true) (hs:iy P t=some (sz α)) (hx:bF.agg α=true) (hy:ev env y=some (.pointer (some ⟨b,o,none⟩))):
  ∃v,aF w M x v/\∀w',w'.heap[b]?=w.heap[b]?->ew P N env (.load t y) w' v:=by
 obtain⟨hb,cs,ty,fL,hc,hr⟩:=h;refine⟨.agg (cB cs o (sz α)).toArray,⟨_,hr,by simp only[hx,if_true]⟩,λw' hw=>mk' λρ hρ gi ho=>?_⟩;rw[<-hw] at hc;have hl:=len hr;have hcells: (loadCells ⟨b,o,none⟩ (sz α)).run P w'=.ok (cB cs o (sz α)).toArray w':=by
  have:=run_loadCells_list (P:=P) w' ⟨b,o,none⟩ (cB cs o (sz α)) (λj v hv=>by
   have hj:j<sz α:=by rw[<-hl];exact(List.getElem?_eq_some_iff.1 hv).1
   rw[oW,cell_of_row w' b (o+j) cs ty fL hc,Ik rfl hl hj,hv])
  rwa [hl] at this
 simp only[loadCells] at hcells;unfold execOp;rw[ho];simp[hρ _ _ hy,go_sem,Instr.loadAt,Instr.sureAddr,loadVar,tV ha,oq hs,loadCells,hcells]
theorem oZ {cs:List Value} {ty:TypeId} {fL:Nat×Nat} (hc:w.heap[b]?=some (.cells cs.toArray ty fL)) (ha:iW P t=some false) (hv:cs[o]?=some v)
  (hy:ev env y=some (.pointer (some ⟨b,o,none⟩))):ew P N env (.load t y) w v:=mk' λρ hρ gi ho=>by
 have h2:cs.toArray[o]?=some v:=by simpa using hv
 unfold execOp;rw[ho];simp[hρ _ _ hy,go_sem,Instr.loadAt,Instr.sureAddr,loadVar,tV ha,World.cell?,hc,h2]
theorem jf {cs:List Value} {ty:TypeId} {fL:Nat×Nat} {n:Nat} {vs:List Value} (hc:w.heap[b]?=some (.cells cs.toArray ty fL)) (ha:iW P t=some true) (hs:iy P t=some n)
  (hv: (cs.drop o).take n=vs) (hl:vs.length=n) (hy:ev env y=some (.pointer (some ⟨b,o,none⟩))):ew P N env (.load t y) w (.agg vs.toArray):=mk' λρ hρ gi ho=>by
 have hcells: (loadCells ⟨b,o,none⟩ n).run P w=.ok vs.toArray w:=by
  have:=run_loadCells_list (P:=P) w ⟨b,o,none⟩ vs (λj u hu=>by
   have hj:j<n:=by rw[<-hl];exact(List.getElem?_eq_some_iff.1 hu).1
   rw[oW,cell_of_row w b (o+j) cs.toArray ty fL hc];rw[<-hu,<-hv,List.getElem?_take,if_pos hj,List.getElem?_drop];simp)
  rwa [hl] at this
 simp only[loadCells] at hcells;unfold execOp;rw[ho];simp[hρ _ _ hy,go_sem,Instr.loadAt,Instr.sureAddr,loadVar,tV ha,oq hs,loadCells,hcells]
def Ci (P:Program) (t:TypeId) (f:Nat):Option Nat:=match P.underlying t with
 |some (.struct fs)=>match fs[f]? with
  |some fl=>match iy P fl.type with|some (_+1)=>some fl.offset|_=>none
  |none=>none
 |_=>none
theorem Il {f off:Nat} (hf:Ci P t f=some off) (hy:ev env y=some (.pointer (some ⟨b,o,none⟩))):
  ew P N env (.fieldAddr t y f) w (.pointer (some ⟨b,o+off,none⟩)):=mk' λρ hρ gi ho=>by
 unfold Ci at hf;split at hf
 ·rename_i fs hu;split at hf
  ·rename_i fl hfl;split at hf
   ·rename_i n hn;simp only[Option.some.injEq] at hf;subst hf;unfold execOp;rw[ho];simp[hρ _ _ hy,go_sem,Instr.fieldAt,run_underlying hu,hfl,Instr.sureAddr,fieldPlace,oq hn,oW]
   ·cases hf
  ·cases hf
 ·cases hf
def nE (P:Program) (t:TypeId):Option (TypeId×Nat):=match P.underlying t with
 |some (.slice e)=>match iy P e with|some n=>some (e,n)|none=>none
 |_=>none
theorem Im {e n l c:Nat} {k:IntKind} {i:Int} (hf:nE P t=some (e,n)) (hy:ev env y=some (.slice (some ⟨b,o,none⟩) l c)) (hz:ev env z=some (.int k i))
  (h0:0<=i) (h1:i<l):ew P N env (.indexAddr t y z) w (.pointer (some ⟨b,o+i.toNat*n,none⟩)):=mk' λρ hρ gi ho=>by
 unfold nE at hf;split at hf
 ·rename_i e' hu;split at hf
  ·rename_i n' hn;simp only[Option.some.injEq,Prod.mk.injEq] at hf;obtain⟨rfl,rfl⟩:=hf;unfold execOp;rw[ho];simp only[hρ _ _ hy,hρ _ _ hz];simp[go_sem,Instr.indexAt,run_underlying hu,asIntOf,oq hn,h0,h1,oW]
  ·cases hf
 ·cases hf
theorem aF.index (h:aF w M xs v) (hy:ev env y=some v) {e:Nat} {k:IntKind} {i:Int} (hf:nE P t=some (e,sz α)) (hz:ev env z=some (.int k i))
  (h0:0<=i) (h1:i<xs.length):∃b o,dF w M (xs[i.toNat]'(by omega)) b o/\∀w',ew P N env (.indexAddr t y z) w' (.pointer (some ⟨b,o,none⟩)):=by
 obtain⟨a,c,rfl,hc,hm,hs⟩:=mL.1 h;rcases hs with rfl|⟨b,o,rfl,hs⟩
 ·simp at h1;omega
 ·exact⟨b,o+i.toNat*sz α,hs.Ao _ _,λw'=>Im hf hy hz h0 h1⟩
theorem aF.len (h:aF w M xs v):∃a c,v=.slice a xs.length c:=let⟨a,c,e,_⟩:=mL.1 h;⟨a,c,e⟩
theorem aF.le (h:aF w M xs v):xs.length<=9223372036854775807:=let⟨a,c,_,_,e,_⟩:=mL.1 h;e
theorem aF.cz (h:aF w M xs v) (hy:ev env y=some v) {e:TypeId} (ht:P.underlying t=some (.slice e)):
  ∀w',ew P N env (.call {callee:=.builtin .len,args:=#[y],argTypes:=#[t]}) w' (.int .i64 xs.length):=λw'=>by
 obtain⟨a,c,rfl⟩:=h.len;exact uX hy ht
theorem aF.one (h:aF w M x v) (hx:bF.agg α=false):v.cells=#[v]/\v.oneCell'=true:=by
 obtain⟨vs,h1,h2⟩:=h;have hl:=bF.len h1;rw[bF.flat hx] at hl;obtain⟨u,rfl⟩:=List.length_eq_one_iff.1 hl;simp only[hx,Bool.false_eq_true,if_false,List.headD_cons] at h2;subst h2;have h3:=bF.one h1 v (by simp);refine⟨?_,h3⟩;cases v<;>first|rfl|simp[Value.oneCell'] at h3
theorem aF.many (h:aF w M x v) (hx:bF.agg α=true):∃vs,v=.agg vs.toArray/\vs.length=sz α/\(∀u∈vs,u.oneCell'=true)/\rep w.heap M x vs:=by
 obtain⟨vs,h1,h2⟩:=h;simp only[hx,if_true] at h2;exact⟨vs,h2,bF.len h1,bF.one h1,h1⟩
end
end Go.K
namespace Go.K
open bF
structure New (w w':World) (o:Obj):Prop where
 ext:Ext No w w'
 at_:w'.heap[w.heap.size]?=some o
 size:w'.heap.size=w.heap.size+1
structure Aq (w w':World) (b:Nat) (o:Obj):Prop where
 ext:Ext (One b) w w'
 at_:w'.heap[b]?=some o
 size:w'.heap.size=w.heap.size
theorem yq (w:World) (o:Obj):New w (w.alloc o) o:=
 ⟨⟨rfl,rfl,rfl,by simp,λb hb _=>heap_alloc_old w o hb,nW.refl rfl⟩,heap_alloc_new w o,by simp⟩
theorem tW (w:World) (o:Obj):New w (w.drew.alloc o) o:=
 ⟨⟨rfl,rfl,rfl,by simp,λb hb _=>heap_alloc_old w.drew o hb,nW.succ rfl⟩,heap_alloc_new w.drew o,by simp⟩
theorem EA {w:World} {b:Nat} {old cs:Array Value} {t:TypeId} {fr:Nat×Nat} (h:w.heap[b]?=some (.cells old t fr)):Aq w (w.setRow b cs) b (.cells cs t fr):=
 ⟨⟨rfl,rfl,rfl,by simp[World.setRow],λk _ hk=>setRow_other w b k cs (λe=>hk e),nW.refl rfl⟩,setRow_heap w b old cs t fr h,by simp[World.setRow]⟩
def uZ (P:Program) (t:TypeId):Option (List Value):=((P.info? t).bind (·.zero)).map (·.cells.toList)
section
variable {P:Program} {N:Nat} {env:Env} {w:World} {x y z:Operand} {t u e:TypeId} {v:Value}
theorem EB {l:List Value} (h:uZ P t=some l) (w:World):∃z,(zeroValue t).run P w=.ok z w/\z.cells=l.toArray:=by
 unfold uZ at h;cases hi:P.info? t with
 |none=>rw[hi] at h;cases h
 |some i=>
  rw[hi] at h;cases hz:i.zero with
  |none=>simp[hz] at h
  |some z=>simp[hz] at h;subst h;exact⟨z,by simp[zeroValue,typeInfo,hi,hz],by simp⟩
theorem qm {op:Op} {T:Value->World->Prop} (h:∀ρ:Operand->Value,(∀x v,ev env x=some v->ρ x=v)->∀o:Oper,o.op=op->
  ∃v w',((execOp ρ o).run P w=.ok (.value v) w'\/((execOp ρ o).run P w=.ok .skip w'/\v=undef))/\T v w'):iY P N env op w T:=
 λa ha o ho=>h a.eval (λx v hx=>ha.ev hx) o ho
theorem Oq {l:List Value} (hz:uZ P t=some l):
  iY P N env (.alloc t) w (λv w'=>v=.pointer (some ⟨w.heap.size,0,none⟩)/\New w w' (.cells l.toArray t)):=qm λρ hρ o ho=>by
 obtain⟨fW,h1,h2⟩:=EB hz w;refine⟨_,_,.inl ?_,rfl,yq w _⟩;unfold execOp;rw[ho];simp[go_sem,Instr.alloc,h1,newVar,newRow];exact congrArg (λc=>w.alloc (.cells c t)) h2
theorem Ot {cs:List Value} (hx:ev env x=some v) (hc:v.cells=cs.toArray):
  iY P N env (.box t x) w (λu w'=>u=.pointer (some ⟨w.heap.size,0,none⟩)/\New w w' (.cells cs.toArray t)):=qm λρ hρ o ho=>by
 refine⟨_,_,.inl ?_,rfl,yq w _⟩;unfold execOp;rw[ho];simp[hρ _ _ hx,go_sem,Instr.box,newVar,newRow];exact congrArg (λc=>w.alloc (.cells c t)) hc
theorem Ou {b o n:Nat} {cs vs:List Value} {ty:TypeId} (hs:iy P t=some n) (hv:v.cells=vs.toArray) (hl:vs.length=n) (h1:∀u∈vs,u.oneCell'=true)
  (hb:w.heap[b]?=some (.cells cs.toArray ty (0,0))) (ho:o+n<=cs.length):
  (storeVar t ⟨b,o,none⟩ v).run P w=.ok () (w.setRow b (cs.take o++vs++cs.drop (o+n)).toArray):=by
 have hst:=run_storeCells_at P b o ty vs 0 cs.toArray w hb (by simpa[hl] using ho) h1;simp only[Nat.add_zero,hl] at hst;unfold storeVar;simp[oq hs,hv,hl,hst]
theorem Cj {b o n:Nat} {cs vs:List Value} {ty:TypeId} (hx:ev env x=some (.pointer (some ⟨b,o,none⟩))) (hy:ev env y=some v) (hs:iy P t=some n)
  (hv:v.cells=vs.toArray) (hl:vs.length=n) (h1:∀u∈vs,u.oneCell'=true) (hb:w.heap[b]?=some (.cells cs.toArray ty (0,0))) (ho:o+n<=cs.length):
  iY P N env (.store t x y) w (λu w'=>u=undef/\Aq w w' b (.cells (cs.take o++vs++cs.drop (o+n)).toArray ty (0,0))):=qm λρ hρ gi ic=>by
 refine⟨undef,_,.inr ⟨?_,rfl⟩,rfl,EA hb⟩;unfold execOp;rw[ic];simp only[hρ _ _ hx,hρ _ _ hy,Instr.storeAt,Instr.sureAddr,Sem.run_bind,Sem.run_pure,Result.andThen_ok];rw[Ou hs hv hl h1 hb ho];rfl
theorem Ov {b o:Nat} {cs:List Value} {ty:TypeId} (hx:ev env x=some (.pointer (some ⟨b,o,none⟩))) (hy:ev env y=some v) (hs:iy P t=some 1)
  (hv:v.cells=#[v]) (h1:v.oneCell'=true) (hb:w.heap[b]?=some (.cells cs.toArray ty (0,0))) (ho:o<cs.length):
  iY P N env (.store t x y) w (λu w'=>u=undef/\Aq w w' b (.cells (cs.set o v).toArray ty (0,0))):=by
 have h:=Cj (P:=P) (N:=N) (w:=w) (vs:=[v]) (n:=1) hx hy hs (by simpa using hv) rfl (by simpa using h1) hb ho;have e:cs.take o++[v]++cs.drop (o+1)=cs.set o v:=by
  rw[List.set_eq_take_append_cons_drop,if_pos ho];simp
 rwa [e] at h
end
def k7 {α:Type} [bF α] (w:World) (M:Nat->Prop) (e:TypeId) (v:Value) (ys:List α):Prop:=
 (v=.slice none 0 0/\ys=[])\/
 ∃g cap cs,v=.slice (some ⟨g,0,none⟩) ys.length cap/\M g/\w.heap[g]?=some (.cells cs e (0,0))/\ys.length<=cap/\cs.size=cap*sz α/\
  ∀i (hi:i<ys.length),rep w.heap M ys[i] (cB cs (i*sz α) (sz α))
section
variable {α:Type} [bF α] {w w':World} {A M M':Nat->Prop} {e:TypeId} {v:Value} {ys zs:List α}
theorem k7.nil:k7 w M e (.slice none 0 0) ([]:List α):=.inl ⟨rfl,rfl⟩
theorem k7.ext (h:k7 w M e v ys) (he:Ext A w w') (hA:∀b,b<w.heap.size->A b->M b) (hv:∀b,fE v b->¬A b):k7 w' M e v ys:=by
 rcases h with h|⟨g,cap,cs,Ar,hg,hc,h1,h2,h3⟩
 ·exact .inl h
 ·refine .inr ⟨g,cap,cs,Ar,hg,he.Ao hc (hv g (by subst Ar;rfl)),h1,h2,λi hi=>bF.keep (h3 i hi) (λb hb hn=>he.block b hb (λha=>hn (hA b hb ha)))⟩
theorem k7.sub (h:k7 w M e v ys) (pO:∀b,b<w.heap.size->M' b->M b) (hv:∀b,fE v b->M' b):k7 w M' e v ys:=by
 rcases h with h|⟨g,cap,cs,Ar,hg,hc,h1,h2,h3⟩
 ·exact .inl h
 ·exact .inr ⟨g,cap,cs,Ar,hv g (by subst Ar;rfl),hc,h1,h2,λi hi=>bF.sub (h3 i hi) pO⟩
theorem k7.iz (h:k7 w M e v ys):∀b,fE v b->M b/\b<w.heap.size:=by
 intro b hb;rcases h with⟨rfl,_⟩|⟨g,cap,cs,rfl,hg,hc,_⟩
 ·cases hb
 ·simp only[fE,Value.ownBlock,Option.some.injEq] at hb;subst hb;exact⟨hg,yo hc⟩
theorem k7.len (h:k7 w M e v ys):∃a c,v=.slice a ys.length c:=by
 rcases h with⟨rfl,rfl⟩|⟨g,cap,cs,rfl,_⟩
 ·exact⟨none,0,rfl⟩
 ·exact⟨_,_,rfl⟩
theorem k7.read (h:k7 w M e v ys) (pO:∀b,b<w.heap.size->M' b->M b/\¬fE v b) (hl:ys.length<=9223372036854775807):aF w M' ys v:=by
 rcases h with⟨rfl,rfl⟩|⟨g,cap,cs,rfl,hg,hc,h1,h2,h3⟩
 ·exact fF
 ·refine mL.2 ⟨_,cap,rfl,h1,hl,.inr ⟨g,0,rfl,?_⟩⟩;refine⟨λhm=>(pO g (yo hc) hm).2 rfl,cs,e,_,hc,?_,λi hi=>?_⟩
  ·rw[Nat.zero_add,h2];exact Nat.mul_le_mul_right _ h1
  ·rw[Nat.zero_add];exact bF.sub (h3 i hi) (λb hb hm=>(pO b hb hm).1)
theorem sA {cs cs':Array Value} {o o' n:Nat} (h:∀j,j<n->cs[o+j]?=cs'[o'+j]?):cB cs o n=cB cs' o' n:=by
 apply List.ext_getElem?;intro j;simp only[cB,List.getElem?_take,List.getElem?_drop];split
 ·rename_i hj;simpa using h j hj
 ·rfl
variable {P:Program} {N:Nat} {env:Env} {x y:Operand} {t u:TypeId} {s:Value}
def o_ (P:Program) (t e n bytes:Nat):Bool:=match P.underlying t,P.info? e with
 |some (.slice e'),some i=>e'==e&&i.size==n&&i.bytes==bytes&&(match i.zero with|some z=>z.cells.size==n|none=>false)
 |_,_=>false
theorem sB {n bytes:Nat} (h:o_ P t e n bytes=true):∃i z,P.underlying t=some (.slice e)/\P.info? e=some i/\i.size=n/\i.bytes=bytes/\i.zero=some z/\z.cells.size=n:=by
 unfold o_ at h;split at h
 ·rename_i e' i hu hi;simp only[Bool.and_eq_true,beq_iff_eq] at h;obtain⟨⟨⟨rfl,h1⟩,h2⟩,h3⟩:=h;cases hz:i.zero with
  |none=>rw[hz] at h3;cases h3
  |some z=>rw[hz] at h3;exact⟨i,z,hu,hi,h1,h2,hz,by simpa using h3⟩
 ·cases h
theorem Ow {bytes:Nat} (hx:ev env x=some v) (hy:ev env y=some s) (hrow:o_ P t e (sz α) bytes=true) (hsz:0<sz α)
  (hown:k7 w M e v ys) (hsrc:aF w M zs s) (hlen: (ys.length+zs.length)*bytes<=140737488355328) (h63:ys.length+zs.length<=140737488355328):
  iY P N env (.call {callee:=.builtin .append,args:=#[x,y],argTypes:=#[t,t]}) w (λv' w'=>
   k7 w' (λb=>fE v' b\/M b) e v' (ys++zs)/\Ext (fE v) w w'/\(∀b,fE v' b->fE v b\/w.heap.size<=b)):=qm λρ hρ gi ic=>by
 obtain⟨i,z,hu,hi,qF,hby,hz,hzs⟩:=sB hrow;obtain⟨a,c,rfl,hcap,hl0,Ck⟩:=mL.1 hsrc;have key:∃v' w',(Builtin.append_ #[t,t] gi.type #[v,.slice a zs.length c]).run P w=.ok v' w'/\
   k7 w' (λb=>fE v' b\/M b) e v' (ys++zs)/\Ext (fE v) w w'/\(∀b,fE v' b->fE v b\/w.heap.size<=b):=by
  by_cases sC:zs=[]
  ·subst sC;refine⟨v,w,?_,?_,Ext.refl _ _,λb hb=> .inl hb⟩
   ·have hf: (Builtin.firstCells i.size 0 (.slice a 0 c)).run P w=.ok #[] w:=by cases a<;>simp[Builtin.firstCells,loadCells,loadCellsFrom]
    rcases hown with⟨rfl,_⟩|⟨g,cap,cs,rfl,hg,hc,h1,h2,h3⟩
    ·simp[Builtin.append_,run_underlying hu,sizeOf,typeInfo,hi,Builtin.lenOf,hf]
    ·simp[Builtin.append_,run_underlying hu,sizeOf,typeInfo,hi,Builtin.lenOf,hf,h1,storeCells]
   ·rw[List.append_nil];exact hown.sub (λb hb h=>h.elim (λho=>(hown.iz b ho).1) id) (λb hb=> .inl hb)
  ·rcases Ck with h|⟨sb,so,rfl,hsb,qG,As,Au,hsc,hsl,Av⟩
   ·exact absurd h sC
   ·have hm0:0<zs.length:=List.length_pos_iff.2 sC;obtain⟨news,Aw⟩:∃news,news=cB qG so (zs.length*sz α):=⟨_,rfl⟩
    have hnl:news.length=zs.length*i.size:=by
     rw[Aw,qF];simp only[cB,List.length_take,List.length_drop,Array.length_toList];omega
    have u0:news.length=zs.length*sz α:=by rw[hnl,qF]
    have sD:∀j,j<zs.length*sz α->news[j]?=qG[so+j]?:=λj hj=>by
     rw[Aw];simp only[cB,List.getElem?_take,if_pos hj,List.getElem?_drop];simp
    have hnews:∀j v,news[j]?=some v->w.cell? ((⟨sb,so,none⟩:Addr).add j)=some v:=λj v hv=>by
     have hj:j<zs.length*sz α:=by rw[<-u0];exact(List.getElem?_eq_some_iff.1 hv).1
     rw[oW,cell_of_row w sb (so+j) qG As Au hsc,<-sD j hj,hv]
    have Ax:∀k (hk:k<zs.length),rep w.heap M zs[k] (cB news.toArray (k*sz α) (sz α)):=λk hk=>by
     have:=Av k hk;rwa [show cB qG (so+k*sz α) (sz α)=cB news.toArray (k*sz α) (sz α) from sA (λj hj=>by
      have hb:k*sz α+j<zs.length*sz α:=by
       have:=Nat.mul_le_mul_right (sz α) (show k+1<=zs.length from hk);rw[Nat.succ_mul] at this;omega
      rw[show∀m,news.toArray[m]?=news[m]? from λm=>by simp,sD _ hb,Nat.add_assoc])] at this
    have h1c:∀u∈news,u.oneCell'=true:=λu Ox=>by
     obtain⟨j,hj,rfl⟩:=List.mem_iff_getElem.1 Ox;have hjl:j<zs.length*sz α:=by rw[<-u0];exact hj
     have hk:j/sz α<zs.length:=(Nat.div_lt_iff_lt_mul hsz).2 hjl;refine bF.one (Ax (j/sz α) hk) _ ?_;apply List.mem_iff_getElem?.2;refine⟨j%sz α,?_⟩;have hmod:=Nat.mod_lt j hsz;simp only[cB,List.getElem?_take,if_pos hmod,List.getElem?_drop];rw[Nat.mul_comm,Nat.div_add_mod];simp[hj]
    have fresh:∀(olds:List Value) (cap:Nat) (o:Obj),olds.length=ys.length*sz α->(∀k (hk:k<ys.length),rep w.heap M ys[k] (cB olds.toArray (k*sz α) (sz α)))->
      o=.cells (olds.toArray++news.toArray++Builtin.zeroCells z.cells (cap-(ys.length+zs.length))) e (0,0)->ys.length+zs.length<=cap->
      k7 (w.drew.alloc o) (λb=>fE (.slice (some ⟨w.heap.size,0,none⟩) (ys.length+zs.length) cap) b\/M b) e (.slice (some ⟨w.heap.size,0,none⟩) (ys.length+zs.length) cap) (ys++zs):=by
     intro olds cap o holds wG ho EC;subst ho;have hnew:=tW w (.cells (olds.toArray++news.toArray++Builtin.zeroCells z.cells (cap-(ys.length+zs.length))) e (0,0));refine .inr ⟨w.heap.size,cap,_,by rw[List.length_append],.inl rfl,hnew.at_,by rw[List.length_append];exact EC,?_,?_⟩
     ·simp only[Array.size_append,List.size_toArray,size_zeroCells,hzs,holds,u0,<-Nat.add_mul];congr 1;omega
     ·intro k hk;rw[List.length_append] at hk;have hkeep:∀(x:α) (vs:List Value),rep w.heap M x vs->rep (w.drew.alloc (.cells (olds.toArray++news.toArray++Builtin.zeroCells z.cells (cap-(ys.length+zs.length))) e (0,0))).heap
        (λb=>fE (.slice (some ⟨w.heap.size,0,none⟩) (ys.length+zs.length) cap) b\/M b) x vs:=λx vs hr=>
       bF.keep (bF.sub hr (λb hb h=>h.elim (λe=>by simp only[fE,Value.ownBlock,Option.some.injEq] at e;omega) id)) (λb hb _=>hnew.ext.block b hb (λh=>h))
      by_cases sE:k<ys.length
      ·rw[List.getElem_append_left sE];have:=wG k sE;rw[show cB olds.toArray (k*sz α) (sz α)=cB (olds.toArray++news.toArray++Builtin.zeroCells z.cells (cap-(ys.length+zs.length))) (k*sz α) (sz α) from sA (λj hj=>by
        have hb:k*sz α+j<ys.length*sz α:=by
         have:=Nat.mul_le_mul_right (sz α) (show k+1<=ys.length from sE);rw[Nat.succ_mul] at this;omega
        rw[Array.append_assoc,Array.getElem?_append_left (by simpa[holds] using hb)])] at this
       exact hkeep _ _ this
      ·rw[List.getElem_append_right (by omega)];have u5:k-ys.length<zs.length:=by omega
       have:=Ax (k-ys.length) u5;rw[show cB news.toArray ((k-ys.length)*sz α) (sz α)=cB (olds.toArray++news.toArray++Builtin.zeroCells z.cells (cap-(ys.length+zs.length))) (k*sz α) (sz α) from sA (λj hj=>by
        have hb: (k-ys.length)*sz α+j<zs.length*sz α:=by
         have:=Nat.mul_le_mul_right (sz α) (show k-ys.length+1<=zs.length from u5);rw[Nat.succ_mul] at this;omega
        have he:k*sz α=ys.length*sz α+(k-ys.length)*sz α:=by rw[<-Nat.add_mul];congr 1;omega
        rw[Array.getElem?_append_left (by simp only[Array.size_append,List.size_toArray,holds,u0];omega),Array.getElem?_append_right (by simp only[List.size_toArray,holds];omega)];congr 1;simp only[List.size_toArray,holds];omega)] at this
       exact hkeep _ _ this
    rcases hown with⟨rfl,rfl⟩|⟨g,cap,cs,rfl,hg,hc,h1,h2,h3⟩
    ·have hr:=run_append_nil (P:=P) w t gi.type e i z hu hi hz ⟨sb,so,none⟩ zs.length c news hnl hnews hm0 (by omega)
      (by rw[hby];simp only[List.length_nil,Nat.zero_add] at hlen;omega)
     have hfr:=fresh [] (grownCap w zs.length 0 e) _ (by simp) (λk hk=>by simp at hk) rfl (by simpa using grownCap_ge w zs.length 0 e);simp only[List.length_nil,Nat.zero_add,List.nil_append] at hfr;refine⟨_,_,hr,?_,?_,?_⟩
     ·simpa using hfr
     ·exact(tW w _).ext.mono (λb hb h=>h.elim)
     ·intro b hb;simp only[fE,Value.ownBlock,Option.some.injEq] at hb;exact .inr (by omega)
    ·have ED: (cB cs 0 (ys.length*sz α)).length=ys.length*sz α:=by
      have:=Nat.mul_le_mul_right (sz α) h1;simp only[cB,List.length_take,List.length_drop,Array.length_toList];omega
     have Io:∀j,j<ys.length*sz α->(cB cs 0 (ys.length*sz α))[j]?=cs[j]?:=λj hj=>by
      simp only[cB,List.getElem?_take,if_pos hj,List.getElem?_drop];simp
     have wG:∀k (hk:k<ys.length),rep w.heap M ys[k] (cB (cB cs 0 (ys.length*sz α)).toArray (k*sz α) (sz α)):=λk hk=>by
      have:=h3 k hk;rwa [show cB cs (k*sz α) (sz α)=cB (cB cs 0 (ys.length*sz α)).toArray (k*sz α) (sz α) from sA (λj hj=>by
       have hb:k*sz α+j<ys.length*sz α:=by
        have:=Nat.mul_le_mul_right (sz α) (show k+1<=ys.length from hk);rw[Nat.succ_mul] at this;omega
       rw[show∀m,(cB cs 0 (ys.length*sz α)).toArray[m]?=(cB cs 0 (ys.length*sz α))[m]? from λm=>by simp,Io _ hb])] at this
     by_cases hroom:ys.length+zs.length<=cap
     ·have hbound:ys.length*i.size+news.length<=cs.size:=by
       rw[hnl,qF,h2,<-Nat.add_mul];exact Nat.mul_le_mul_right _ hroom
      have hr:=run_append_room (P:=P) w t gi.type e i hu hi g ys.length cap cs hc ⟨sb,so,none⟩ zs.length c news hnl hnews h1c hroom hbound;have yt:=EA (w:=w) (cs:=(cs.toList.take (ys.length*i.size)++news++cs.toList.drop (ys.length*i.size+news.length)).toArray) hc;refine⟨_,_,hr,.inr ⟨g,cap,_,by rw[List.length_append],.inr hg,yt.at_,by rw[List.length_append];exact hroom,?_,?_⟩,?_,?_⟩
      ·simp only[List.size_toArray,List.length_append,List.length_take,List.length_drop,Array.length_toList,hnl,qF] at hbound⊢;omega
      ·intro k hk;rw[List.length_append] at hk;have hkeep:∀(x:α) (vs:List Value),rep w.heap M x vs->rep (w.setRow g (cs.toList.take (ys.length*i.size)++news++cs.toList.drop (ys.length*i.size+news.length)).toArray).heap
         (λb=>fE (.slice (some ⟨g,0,none⟩) (ys.length+zs.length) cap) b\/M b) x vs:=λx vs hr'=>
        bF.keep (bF.sub hr' (λb hb h=>h.elim (λe=>by simp only[fE,Value.ownBlock,Option.some.injEq] at e;subst e;exact hg) id))
         (λb hb hn=>yt.ext.block b hb (λh=>hn (.inr (by rw[show b=g from h];exact hg))))
       rw[qF] at hbound;by_cases sE:k<ys.length
       ·rw[List.getElem_append_left sE];have:=h3 k sE;rw[show cB cs (k*sz α) (sz α)=cB (cs.toList.take (ys.length*i.size)++news++cs.toList.drop (ys.length*i.size+news.length)).toArray (k*sz α) (sz α) from sA (λj hj=>by
         have hb:k*sz α+j<ys.length*sz α:=by
          have:=Nat.mul_le_mul_right (sz α) (show k+1<=ys.length from sE);rw[Nat.succ_mul] at this;omega
         conv=>rhs;rw[List.getElem?_toArray,List.append_assoc,List.getElem?_append_left (by simp only[List.length_take,Array.length_toList,qF];omega),List.getElem?_take,if_pos (by rw[qF];exact hb)]
         simp)] at this
        exact hkeep _ _ this
       ·rw[List.getElem_append_right (by omega)];have u5:k-ys.length<zs.length:=by omega
        have:=Ax (k-ys.length) u5;rw[show cB news.toArray ((k-ys.length)*sz α) (sz α)=cB (cs.toList.take (ys.length*i.size)++news++cs.toList.drop (ys.length*i.size+news.length)).toArray (k*sz α) (sz α) from sA (λj hj=>by
         have hb: (k-ys.length)*sz α+j<zs.length*sz α:=by
          have:=Nat.mul_le_mul_right (sz α) (show k-ys.length+1<=zs.length from u5);rw[Nat.succ_mul] at this;omega
         have he:k*sz α=ys.length*sz α+(k-ys.length)*sz α:=by rw[<-Nat.add_mul];congr 1;omega
         have nY: (cs.toList.take (ys.length*i.size)).length=ys.length*sz α:=by simp only[List.length_take,Array.length_toList,qF];omega
         rw[show∀m,news.toArray[m]?=news[m]? from λm=>by simp,show∀(l:List Value) m,l.toArray[m]?=l[m]? from λl m=>by simp,List.getElem?_append_left (by rw[List.length_append,nY];omega),List.getElem?_append_right (by rw[nY];omega),nY];congr 1;omega)] at this
        exact hkeep _ _ this
      ·exact yt.ext.mono (λb hb h=>by rw[show b=g from h];rfl)
      ·intro b hb;exact .inl hb
     ·have holds:∀j v,(cB cs 0 (ys.length*sz α))[j]?=some v->w.cell? ((⟨g,0,none⟩:Addr).add j)=some v:=λj v hv=>by
       have hj:j<ys.length*sz α:=by rw[<-ED];exact(List.getElem?_eq_some_iff.1 hv).1
       rw[oW,cell_of_row w g (0+j) cs e (0,0) hc,Nat.zero_add,<-Io j hj,hv]
      have hr:=run_append_grow (P:=P) w t gi.type e i z hu hi hz ⟨g,0,none⟩ ys.length cap (cB cs 0 (ys.length*sz α)) (by rw[qF];exact ED) holds ⟨sb,so,none⟩ zs.length c news hnl hnews (by omega) (by omega)
       (growslice_fits (by omega) (by rw[hby];exact hlen))
      have hfr:=fresh _ (grownCap w (ys.length+zs.length) cap e) _ ED wG rfl (grownCap_ge w _ _ e);refine⟨_,_,hr,hfr,?_,?_⟩
      ·exact(tW w _).ext.mono (λb hb h=>h.elim)
      ·intro b hb;simp only[fE,Value.ownBlock,Option.some.injEq] at hb;exact .inr (by omega)
 obtain⟨v',w',hrun,hpost⟩:=key;refine⟨v',w',.inl ?_,hpost⟩;unfold execOp;rw[ic];simp[hρ _ _ hx,hρ _ _ hy,resolve,invoke,builtin,hrun]
end
def cl:Code->Code| .seq a _=>a| .cond _ a _=>a| .block _ b=>b| .loop b=>b| .scope b=>b|c=>c
def aZ:Code->Code| .seq _ b=>b| .cond _ _ b=>b|c=>c
def fG:Code->Array Oper| .region _ ops _=>ops|_=>#[]
def dL (fn:Func):Code:=match fn.body with|some c=>c|none=> .skip
section
variable {P:Program} {f:FuncId} {N:Nat} {k:List Item} {env:Env} {w w':World} {R:Value->World->Prop} {Q:Exit->Act->World->Prop}
variable {ops:Array Oper} {S:World->Prop} {i t:Nat} {L:List (Nat×Bool)} {op:Op} {v:Value} {x y z:Operand} {g:Option (Nat×Bool)}
theorem fN (hop:eT ops i=some (some t,op,g)) (hw:g_ ops env g=some true) (ht:Nat.blt t N=true)
 (hy:∀w',S w'->ew P N env op w' v) (h:bO P N Q ops S L ((t,v)::env) w):bO P N Q ops S ((i,true)::L) env w:=ai.yield hop hw ht hy h
theorem Oy (hop:eT ops i=some (some t,op,g)) (hw:g_ ops env g=some false) (ht:Nat.blt t N=true)
 (h:bO P N Q ops S L ((t,undef)::env) w):bO P N Q ops S ((i,true)::L) env w:=ai.pass hop hw ht h
theorem bN (hop:eT ops i=some (some t,op,g)) (hw:g_ ops env g=some false) (ht:Nat.blt t N=true) (hS:S w)
 (h:bO P N Q ops S L ((t,undef)::env) w):bO P N Q ops S ((i,false)::L) env w:=ai.Oe hop hw ht hS h
theorem ot (hop:eT ops i=some (some t,op,g)) (hw:g_ ops env g=some true) (ht:Nat.blt t N=true) (hS:S w)
 (hy:ew P N env op w v) (h:bO P N Q ops S L ((t,v)::env) w):bO P N Q ops S ((i,false)::L) env w:=ai.now hop hw ht hS hy h
theorem eW {T:Value->World->Prop} (hop:eT ops i=some (some t,op,g)) (hw:g_ ops env g=some true) (ht:Nat.blt t N=true)
 (hy:iY P N env op w T) (h:∀v w',T v w'->S w'/\bO P N Q ops S L ((t,v)::env) w'):bO P N Q ops S ((i,false)::L) env w:=ai.act hop hw ht hy h
theorem iZ {T:Value->World->Prop} (hop:eT ops i=some (none,op,g)) (hw:g_ ops env g=some true)
 (hy:iY P N env op w T) (h:∀v w',T v w'->S w'/\bO P N Q ops S L env w'):bO P N Q ops S ((i,false)::L) env w:=ai.act hop hw rfl hy h
theorem jy {jO:FuncId} {args:Array Value} {T:Value->World->Prop} (hop:eT ops i=some (some t,op,g)) (hw:g_ ops env g=some true) (ht:Nat.blt t N=true)
 (hy:Enters P N env op w jO args) (hc:Calls P jO args w (bW T))
 (h:∀v w',T v w'->S w'/\bO P N Q ops S L ((t,v)::env) w'):bO P N Q ops S ((i,false)::L) env w:=ai.call hop hw ht hy hc h
theorem Oz {jO:FuncId} {args:Array Value} {T:Value->World->Prop} (hop:eT ops i=some (none,op,g)) (hw:g_ ops env g=some true)
 (hy:Enters P N env op w jO args) (hc:Calls P jO args w (bW T))
 (h:∀v w',T v w'->S w'/\bO P N Q ops S L env w'):bO P N Q ops S ((i,false)::L) env w:=ai.call hop hw rfl hy hc h
theorem dn {jO:FuncId} {xs:Array Operand} {ts:Array TypeId} {vs:List Value}
  (wE:∀args w,(callFunc jO args).run P w=.ok (.enter jO args) w) (hargs:oV env xs.toList=some vs):
  Enters P N env (.call {callee:=.value (.func jO),args:=xs,argTypes:=ts}) w jO vs.toArray:=by
 have:=uY (P:=P) (N:=N) (env:=env) (w:=w) (ts:=ts) (x:=.func jO) (cap:=#[]) wE rfl hargs;simpa using this
theorem kp {env':Env} (hs:Sub env' env) (h:Run P f N k env' w R):Run P f N k env w R:=h.sub hs
theorem sc (t:Nat) {v:Value} {env' env:Env} (hl:look env t=some v) (h:Sub env' env):Sub ((t,v)::env') env:=cA t hl rfl h
end
def aA (C:Nat->Nat):Nat->Prop:=λb=>C b≠0
def bA (w:World) (C:Nat->Nat):Prop:=∀b,C b≠0->b<w.heap.size
structure aH (I:List Nat) (w:World) (C:Nat->Nat) (w':World) (bL:Nat->Nat):Prop where
 ext:Ext (λb=>C b∈I) w w'
 col:∀b,b<w.heap.size->bL b=C b
structure ck (w:World) (C:Nat->Nat) (j b:Nat) (o:Obj):Prop where
 col:C b=j
 at_:w.heap[b]?=some o
structure cC {α:Type} [bF α] (w:World) (C:Nat->Nat) (j:Nat) (e:TypeId) (v:Value) (ys:List α):Prop where
 own:k7 w (aA C) e v ys
 col:∀b,fE v b->C b=j
section
variable {α β:Type} [bF α] [bF β] {w w' w'':World} {I J:List Nat} {C bL Ay D:Nat->Nat} {x:α} {xs ys zs:List α} {v u:Value} {b o j n:Nat} {iz Ip:Obj} {e:TypeId}
theorem aH.refl (I:List Nat) (w:World) (C:Nat->Nat):aH I w C w C:=⟨Ext.refl _ _,λ_ _=>rfl⟩
theorem aH.gC (h:bA w C):aH [] w C w C:=aH.refl [] w C
theorem aH.trans (h:aH I w C w' bL) (h':aH J w' bL w'' Ay) (hJ:∀c∈J,c∈I):aH I w C w'' Ay:=
 ⟨h.ext.trans h'.ext (λb hb hc=>by rw[h.col b hb] at hc;exact hJ _ hc),λb hb=>(h'.col b (Nat.lt_of_lt_of_le hb h.ext.size)).trans (h.col b hb)⟩
theorem aH.mono (h:aH I w C w' bL) (hI:∀c∈I,c∈J):aH J w C w' bL:=⟨h.ext.mono (λb _ hc=>hI _ hc),h.col⟩
theorem aH.drew (I:List Nat) (w:World) (C:Nat->Nat):aH I w C {w with drawn:=w.drawn+1} C:=⟨Ext.drew _ _,λ_ _=>rfl⟩
theorem aH.size (h:aH I w C w' bL):w.heap.size<=w'.heap.size:=h.ext.size
theorem bA.st (h:bA w C) (hs:aH I w C w' C):bA w' C:=λb hb=>Nat.lt_of_lt_of_le (h b hb) hs.size
theorem aF.st (h:aF w (aA C) x v) (hs:aH I w C w' bL) (h0:0∉I):aF w' (aA bL) x v:=
 aF.ext (h.sub (M':=aA bL) (λb hb hc=>by unfold aA at*;rwa [hs.col b hb] at hc)) hs.ext (λb hb hc=>by unfold aA;rw[hs.col b hb];intro e;rw[e] at hc;exact h0 hc)
theorem dF.st (h:dF w (aA C) x b o) (hs:aH I w C w' bL) (h0:0∉I):dF w' (aA bL) x b o:=
 dF.ext (h.sub (M':=aA bL) (λb hb hc=>by unfold aA at*;rwa [hs.col b hb] at hc)) hs.ext (λb hb hc=>by unfold aA;rw[hs.col b hb];intro e;rw[e] at hc;exact h0 hc)
theorem ck.st (h:ck w C j b iz) (hs:aH I w C w' bL) (hj:j∉I):ck w' bL j b iz:=
 ⟨(hs.col b (yo h.at_)).trans h.col,hs.ext.Ao h.at_ (by rw[h.col];exact hj)⟩
theorem cC.st (h:cC w C j e v ys) (hs:aH I w C w' bL) (h0:0∉I) (hj:j∉I):cC w' bL j e v ys:=
 ⟨k7.ext (h.own.sub (M':=aA bL) (λb hb hc=>by unfold aA at*;rwa [hs.col b hb] at hc) (λb hb=>by have:=h.own.iz b hb;unfold aA at*;rw[hs.col b this.2];exact this.1))
   hs.ext (λb hb hc=>by unfold aA;rw[hs.col b hb];intro e;rw[e] at hc;exact h0 hc) (λb hb hc=>by rw[h.col b hb] at hc;exact hj hc),
  λb hb=>(hs.col b (h.own.iz b hb).2).trans (h.col b hb)⟩
theorem cC.nil:cC w C j e (.slice none 0 0) ([]:List α):=⟨k7.nil,λb hb=>by cases hb⟩
def Cl (C:Nat->Nat) (b j:Nat):Nat->Nat:=λx=>if x=b then j else C x
def mX (C:Nat->Nat) (v:Value) (j:Nat):Nat->Nat:=λx=>if v.ownBlock=some x then j else C x
theorem New.st (h:New w w' iz) (C:Nat->Nat):aH [] w C w' C:=⟨h.ext.mono (λb _ h=>h.elim),λ_ _=>rfl⟩
theorem New.own (h:New w w' iz) (hF:bA w C) (j:Nat):∃bL,aH [] w C w' bL/\ck w' bL j w.heap.size iz/\bA w' bL:=
 ⟨Cl C w.heap.size j,⟨h.ext.mono (λb _ h=>h.elim),λb hb=>by unfold Cl;rw[if_neg (by omega)]⟩,⟨by simp[Cl],h.at_⟩,λb hb=>by
  unfold Cl at hb;rw[h.size];split at hb
  ·omega
  ·have:=hF b hb;omega⟩
theorem Aq.own (h:Aq w w' b Ip) (ho:ck w C j b iz):aH [j] w C w' C/\ck w' C j b Ip:=
 ⟨⟨h.ext.mono (λc _ hc=>by rw[show c=b from hc,ho.col];simp),λ_ _=>rfl⟩,⟨ho.col,h.at_⟩⟩
variable {P:Program} {N:Nat} {env:Env} {y z q:Operand} {t:TypeId}
theorem cW {cs:List Value} (hF:bA w C) (j:Nat) (hx:ev env y=some v) (hc:v.cells=cs.toArray):
  iY P N env (.box t y) w (λu w'=>∃bL b,u=.pointer (some ⟨b,0,none⟩)/\aH [] w C w' bL/\ck w' bL j b (.cells cs.toArray t)/\bA w' bL):=λa ha o ho=>by
 obtain⟨u,w',h1,rfl,h2⟩:=Ot (P:=P) (N:=N) (t:=t) (w:=w) hx hc a ha o ho;obtain⟨bL,h3,h4,h5⟩:=h2.own hF j;exact⟨_,w',h1,bL,_,rfl,h3,h4,h5⟩
theorem eO {cs:List Value} (hF:bA w C) (j:Nat) (hz:uZ P t=some cs):
  iY P N env (.alloc t) w (λu w'=>∃bL b,u=.pointer (some ⟨b,0,none⟩)/\aH [] w C w' bL/\ck w' bL j b (.cells cs.toArray t)/\bA w' bL):=λa ha o ho=>by
 obtain⟨u,w',h1,rfl,h2⟩:=Oq (P:=P) (N:=N) (env:=env) (t:=t) (w:=w) hz a ha o ho;obtain⟨bL,h3,h4,h5⟩:=h2.own hF j;exact⟨_,w',h1,bL,_,rfl,h3,h4,h5⟩
theorem jW {cs:List Value} {ty:TypeId} (hx:ev env y=some (.pointer (some ⟨b,o,none⟩))) (hy:ev env z=some v) (hs:iy P t=some 1)
  (hv:v.cells=#[v]) (h1:v.oneCell'=true) (hb:ck w C j b (.cells cs.toArray ty)) (ho:o<cs.length):
  iY P N env (.store t y z) w (λu w'=>u=undef/\aH [j] w C w' C/\ck w' C j b (.cells (cs.set o v).toArray ty)):=λa ha gi ic=>by
 obtain⟨u,w',h2,h3,h4⟩:=Ov (P:=P) (N:=N) (w:=w) hx hy hs hv h1 hb.at_ ho a ha gi ic;exact⟨u,w',h2,h3,h4.own hb⟩
theorem OA {cs vs:List Value} {ty:TypeId} (hx:ev env y=some (.pointer (some ⟨b,o,none⟩))) (hy:ev env z=some v) (hs:iy P t=some n)
  (hv:v.cells=vs.toArray) (hl:vs.length=n) (h1:∀u∈vs,u.oneCell'=true) (hb:ck w C j b (.cells cs.toArray ty)) (ho:o+n<=cs.length):
  iY P N env (.store t y z) w (λu w'=>u=undef/\aH [j] w C w' C/\ck w' C j b (.cells (cs.take o++vs++cs.drop (o+n)).toArray ty)):=λa ha gi ic=>by
 obtain⟨u,w',h2,h3,h4⟩:=Cj (P:=P) (N:=N) (w:=w) hx hy hs hv hl h1 hb.at_ ho a ha gi ic;exact⟨u,w',h2,h3,h4.own hb⟩
theorem gJ {bytes:Nat} {s:Value} (hF:bA w C) (hj:j≠0) (hx:ev env y=some v) (hy:ev env z=some s) (hrow:o_ P t e (sz α) bytes=true) (hsz:0<sz α)
  (hown:cC w C j e v ys) (hsrc:aF w (aA C) zs s) (hlen: (ys.length+zs.length)*bytes<=140737488355328) (h63:ys.length+zs.length<=140737488355328):
  iY P N env (.call {callee:=.builtin .append,args:=#[y,z],argTypes:=#[t,t]}) w (λv' w'=>∃bL,aH [j] w C w' bL/\cC w' bL j e v' (ys++zs)/\bA w' bL):=λa ha gi ic=>by
 obtain⟨v',w',h1,h2,h3,h4⟩:=Ow (P:=P) (N:=N) hx hy hrow hsz hown.own hsrc hlen h63 a ha gi ic;have nF:∀b,b<w.heap.size->mX C v' j b=C b:=λb hb=>by
  unfold mX;split
  ·rename_i e;rcases h4 b e with h|h
   ·exact(hown.col b h).symm
   ·omega
  ·rfl
 refine⟨v',w',h1,mX C v' j,⟨h3.mono (λb _ hb=>by rw[hown.col b hb];simp),nF⟩,⟨h2.sub (λb hb hc=>?_) (λb hb=>?_),λb hb=>?_⟩,λb hb=>?_⟩
 ·by_cases ho:fE v' b
  ·exact .inl ho
  ·right;unfold aA mX at hc;rw[if_neg (show¬v'.ownBlock=some b from ho)] at hc;exact hc
 ·unfold aA mX;rw[if_pos (show v'.ownBlock=some b from hb)];exact hj
 ·unfold mX;rw[if_pos (show v'.ownBlock=some b from hb)]
 ·by_cases ho:fE v' b
  ·exact(h2.iz b ho).2
  ·unfold mX at hb;rw[if_neg (show¬v'.ownBlock=some b from ho)] at hb;exact Nat.lt_of_lt_of_le (hF b hb) h3.size
def bX (C:Nat->Nat):Nat->Nat:=λb=>if C b=0 then 0 else 1
def eN (C:Nat->Nat) (i:Nat):Nat->Nat:=λb=>if C b=0 then 0 else if C b=i then 2 else 1
theorem Iq (C:Nat->Nat) (b:Nat):bX C b≠0↔C b≠0:=by unfold bX;split<;>simp_all
theorem Ir (C:Nat->Nat) (i b:Nat):eN C i b≠0↔C b≠0:=by unfold eN;split<;>(try split)<;>simp_all
theorem fJ (C:Nat->Nat):aA (bX C)=aA C:=by funext b;exact propext (Iq C b)
theorem jX (C:Nat->Nat) (i:Nat):aA (eN C i)=aA C:=by funext b;exact propext (Ir C i b)
theorem bA.bX (h:bA w C):bA w (bX C):=λb hb=>h b ((Iq C b).1 hb)
theorem bA.eN (h:bA w C) (i:Nat):bA w (eN C i):=λb hb=>h b ((Ir C i b).1 hb)
theorem ck.eN {i:Nat} (h:ck w C i b iz) (hi:i≠0):ck w (eN C i) 2 b iz:=⟨by unfold K.eN;rw[if_neg (by rw[h.col];exact hi),if_pos h.col],h.at_⟩
theorem aH.bV (h:aH I w (bX C) w' bL) (hI:∀c∈I,2<=c):aH [] w C w' C:=⟨h.ext.mono (λb _ hc=>by
 have:=hI _ hc;unfold K.bX at this;split at this<;>omega),λ_ _=>rfl⟩
theorem aH.jY {i:Nat} (h:aH I w (eN C i) w' bL) (hI:∀c∈I,2<=c):aH [i] w C w' C:=⟨h.ext.mono (λb _ hc=>by
 have:=hI _ hc;simp only[List.mem_singleton];unfold K.eN at this;split at this
 ·omega
 ·split at this
  ·assumption
  ·omega),λ_ _=>rfl⟩
theorem aH.Is (hs:aH I w D w' bL) (hF:bA w C) (fH:aA D=aA C):∀b,C b≠0->b<w.heap.size/\bL b=D b/\D b≠0:=λb hb=>by
 have h1:=hF b hb;refine⟨h1,hs.col b h1,?_⟩;have:aA D b:=by rw[fH];exact hb
 exact this
theorem aF.out (h:aF w' (aA bL) x v) (hs:aH I w D w' bL) (hF:bA w C) (fH:aA D=aA C):aF w' (aA C) x v:=
 h.sub (λb _ hb=>by obtain⟨h1,h2,h3⟩:=hs.Is hF fH b hb;unfold aA;rw[h2];exact h3)
theorem cC.out (h:cC w' bL j e v ys) (hs:aH I w D w' bL) (hF:bA w C) (fH:aA D=aA C) (hj:∀b,b<w.heap.size->D b≠j) (hl:ys.length<=9223372036854775807):aF w' (aA C) ys v:=
 h.own.read (λb _ hb=>by
  obtain⟨h1,h2,h3⟩:=hs.Is hF fH b hb;exact⟨by unfold aA;rw[h2];exact h3,λho=>hj b h1 (by rw[<-h2];exact h.col b ho)⟩) hl
theorem kf (C:Nat->Nat) {j:Nat} (hj:2<=j) (b:Nat):bX C b≠j:=by unfold bX;split<;>omega
theorem pP (C:Nat->Nat) (i:Nat) {j:Nat} (hj:3<=j) (b:Nat):eN C i b≠j:=by unfold eN;split<;>(try split)<;>omega
theorem dF.stay (h:dF w (aA C) x b o) (hS:Ext (λb=>C b∈I) w w') (h0:0∉I):w'.heap[b]?=w.heap[b]?:=by
 obtain⟨hb,cs,ty,fL,hc,_⟩:=h;exact hS.block b (yo hc) (λhm=>hb (λe=>h0 (by rw[e] at hm;exact hm)))
theorem ck.stay (h:ck w C j b iz) (hS:Ext (λb=>C b∈I) w w') (hj:j∉I):w'.heap[b]?=some iz:=
 hS.Ao h.at_ (by rw[h.col];exact hj)
theorem cC.cz (h:cC w C j e v ys) (hy:ev env y=some v) {d:TypeId} (ht:P.underlying t=some (.slice d)):
  ∀w',ew P N env (.call {callee:=.builtin .len,args:=#[y],argTypes:=#[t]}) w' (.int .i64 ys.length):=λw'=>by
 obtain⟨a,c,rfl⟩:=h.own.len;exact uX hy ht
end
section
variable {P:Program} {f:FuncId} {N:Nat} {k:List Item} {env:Env} {w:World} {R:Value->World->Prop} {Q:Exit->Act->World->Prop}
theorem eU {c:Code} {id:Nat} {ops:Array Oper} (I:List Nat) (C:Nat->Nat) (L:List (Nat×Bool)) (hm:P.follows .mixedOrders=true) (hc:c=.region id ops true)
  (hn:Region.noSelect ops=true) (hk:Ia ops ops.size (Array.replicate ops.size false) L=true)
  (h:∀w₁,aH [] w C w₁ C->ai P f N k R ops (λw'=>Ext (λb=>C b∈I) w₁ w') L env w₁):Run P f N (.code c::k) env w R:=
 Oc _ L hm hc hn hk (Ext.refl _ _) (h _ (aH.drew [] w C))
theorem Cm {c:Code} {id:Nat} {ops:Array Oper} (I:List Nat) (C:Nat->Nat) (A:List Nat) (i:Nat) (L:List (Nat×Bool)) (i':Nat) (L':List (Nat×Bool)) (hm:P.follows .mixedOrders=true) (hc:c=.region id ops true)
  (hn:Region.noSelect ops=true) (hk:Ic ops i L i' L' ops.size (Array.replicate ops.size false) A=true)
  (h:∀w₁,aH [] w C w₁ C->ai P f N k R ops (λw'=>Ext (λb=>C b∈I) w₁ w') (A.map (λj=>(j,true))++(i,false)::L) env w₁)
  (h':∀w₁,aH [] w C w₁ C->ai P f N k R ops (λw'=>Ext (λb=>C b∈I) w₁ w') (A.map (λj=>(j,true))++(i',false)::L') env w₁):Run P f N (.code c::k) env w R:=
 Od _ A i L i' L' hm hc hn hk (Ext.refl _ _) (h _ (aH.drew [] w C)) (h' _ (aH.drew [] w C))
end
section
variable {α:Type} [bF α] {P:Program} {f:FuncId} {N:Nat} {k:List Item} {env:Env} {w:World} {R:Value->World->Prop} {Q:Exit->Act->World->Prop}
variable {ops:Array Oper} {S:World->Prop} {i t:Nat} {L:List (Nat×Bool)} {v:Value} {y z:Operand} {g:Option (Nat×Bool)} {ty e:TypeId} {M:Nat->Prop} {x:α} {xs:List α} {b o:Nat} {kd:IntKind} {n:Int}
theorem iS {w1:World} (hop:eT ops i=some (some t,.indexAddr ty y z,g)) (hw:g_ ops env g=some true) (ht:Nat.blt t N=true) (hl:aF w1 M xs v) (hy:ev env y=some v)
  (hf:nE P ty=some (e,sz α)) (hz:ev env z=some (.int kd n)) (h0:0<=n) (h1:n<xs.length)
  (h:∀b o,dF w1 M (xs[n.toNat]'(by omega)) b o->bO P N Q ops S L ((t,.pointer (some ⟨b,o,none⟩))::env) w):bO P N Q ops S ((i,true)::L) env w:=by
 obtain⟨b,o,h2,h3⟩:=hl.index (P:=P) (N:=N) hy hf hz h0 h1;exact fN hop hw ht (λw' _=>h3 w') (h b o h2)
theorem gK (hop:eT ops i=some (some t,.load ty y,g)) (hw:g_ ops env g=some true) (ht:Nat.blt t N=true) (hS:S w) (hr:dF w M x b o) (ha:iW P ty=some false) (hx:bF.agg α=false)
  (hy:ev env y=some (.pointer (some ⟨b,o,none⟩))) (h:∀v,aF w M x v->bO P N Q ops S L ((t,v)::env) w):bO P N Q ops S ((i,false)::L) env w:=by
 obtain⟨v,h2,h3⟩:=hr.load (P:=P) (N:=N) ha hx hy;exact ot hop hw ht hS (h3 w rfl) (h v h2)
theorem mM {w1:World} (hop:eT ops i=some (some t,.load ty y,g)) (hw:g_ ops env g=some true) (ht:Nat.blt t N=true) (hst:∀w',S w'->w'.heap[b]?=w1.heap[b]?) (hr:dF w1 M x b o) (ha:iW P ty=some false) (hx:bF.agg α=false)
  (hy:ev env y=some (.pointer (some ⟨b,o,none⟩))) (h:∀v,aF w1 M x v->bO P N Q ops S L ((t,v)::env) w):bO P N Q ops S ((i,true)::L) env w:=by
 obtain⟨v,h2,h3⟩:=hr.load (P:=P) (N:=N) ha hx hy;exact fN hop hw ht (λw' hS=>h3 w' (hst w' hS)) (h v h2)
theorem sF (hop:eT ops i=some (some t,.load ty y,g)) (hw:g_ ops env g=some true) (ht:Nat.blt t N=true) (hS:S w) (hr:dF w M x b o) (ha:iW P ty=some true) (hs:iy P ty=some (sz α)) (hx:bF.agg α=true)
  (hy:ev env y=some (.pointer (some ⟨b,o,none⟩))) (h:∀v,aF w M x v->bO P N Q ops S L ((t,v)::env) w):bO P N Q ops S ((i,false)::L) env w:=by
 obtain⟨v,h2,h3⟩:=hr.Ap (P:=P) (N:=N) ha hs hx hy;exact ot hop hw ht hS (h3 w rfl) (h v h2)
theorem mY {w1:World} (hop:eT ops i=some (some t,.load ty y,g)) (hw:g_ ops env g=some true) (ht:Nat.blt t N=true) (hst:∀w',S w'->w'.heap[b]?=w1.heap[b]?) (hr:dF w1 M x b o) (ha:iW P ty=some true) (hs:iy P ty=some (sz α)) (hx:bF.agg α=true)
  (hy:ev env y=some (.pointer (some ⟨b,o,none⟩))) (h:∀v,aF w1 M x v->bO P N Q ops S L ((t,v)::env) w):bO P N Q ops S ((i,true)::L) env w:=by
 obtain⟨v,h2,h3⟩:=hr.Ap (P:=P) (N:=N) ha hs hx hy;exact fN hop hw ht (λw' hS=>h3 w' (hst w' hS)) (h v h2)
end
def cD (n:Nat) (C:Nat->Nat):Nat->Nat:=λb=>if n<=C b then 0 else C b
section
variable {α:Type} [bF α] {w w' w₀:World} {I:List Nat} {C bL pQ:Nat->Nat} {x:α} {ys:List α} {v:Value} {b o j n:Nat} {iz:Obj} {e:TypeId}
theorem yu (h:aA (cD n C) b):aA C b/\C b<n:=by
 unfold aA cD at*;split at h
 ·exact absurd rfl h
 ·exact⟨h,by omega⟩
theorem bA.cD (h:bA w C) (n:Nat):bA w (cD n C):=λb hb=>h b (yu hb).1
theorem aF.cD (h:aF w (aA C) x v) (n:Nat):aF w (aA (K.cD n C)) x v:=h.sub (λb _ hb=>(yu hb).1)
theorem cC.cD (h:cC w C j e v ys) (hj:n<=j) (hl:ys.length<=9223372036854775807):aF w (aA (K.cD n C)) ys v:=
 h.own.read (λb _ hb=>⟨(yu hb).1,λho=>by have:=(yu hb).2;rw[h.col b ho] at this;omega⟩) hl
theorem cC.WD (h:cC w C j e v ys) (hj:j<n):cC w (K.cD n C) j e v ys:=
 ⟨h.own.sub (λb _ hb=>(yu hb).1) (λb hb=>by unfold aA K.cD;rw[h.col b hb,if_neg (by omega)];have:=(h.own.iz b hb).1;unfold aA at this;rw[h.col b hb] at this;exact this),
  λb hb=>by unfold K.cD;rw[h.col b hb,if_neg (by omega)]⟩
theorem ck.cD (h:ck w C j b iz) (hj:j<n):ck w (K.cD n C) j b iz:=⟨by unfold K.cD;rw[h.col,if_neg (by omega)],h.at_⟩
theorem ck.OB (h:ck w C j b iz) (hj:n<=j):¬aA (K.cD n C) b:=λhm=>by have:=(yu hm).2;rw[h.col] at this;omega
theorem aH.cD (h:aH I w₀ pQ w C) (h0:∀b,pQ b<n):aH I w₀ pQ w (K.cD n C):=
 ⟨h.ext,λb hb=>by unfold K.cD;rw[h.col b hb,if_neg (by have:=h0 b;omega)]⟩
theorem OC (C:Nat->Nat) (i b:Nat):eN C i b<3:=by unfold eN;split<;>(try split)<;>omega
theorem Az (C:Nat->Nat) (b:Nat):bX C b<2:=by unfold bX;split<;>omega
theorem cC.one (h:cC w C j e v ys):v.cells=#[v]/\v.oneCell'=true:=by
 obtain⟨a,c,rfl⟩:=h.own.len;exact⟨rfl,rfl⟩
end
theorem OD {env env':Env} {t:Nat} {v:Value} (h:look env t=none) (hs:Sub env env'):Sub env ((t,v)::env'):=λs x hx=>by
 simp only[look];cases hb:Nat.beq t s with
 |true=>rw[Nat.eq_of_beq_eq_true hb,hx] at h;cases h
 |false=>exact hs s x hx
section
variable {P:Program} {f:FuncId} {N:Nat} {k:List Item} {env:Env} {w:World} {R:Value->World->Prop} {Q:Exit->Act->World->Prop} {p:Prop} [Decidable p] {op:Op}
theorem i_ (t:Nat) (b:Bool) (C:Nat->Nat) {c:Code}
  (OE: (∀w' env' v,aH [] w C w' C->look env' t=some v->v=.bool b->Sub env env'->Run P f N k env' w' R)->Run P f N (.code c::k) env w R)
  (OG:∀w',aH [] w C w' C->Run P f N k ((t,.bool b)::env) w' R):Run P f N (.code c::k) env w R:=
 OE λw' env' v hs hl hv hsub=>(OG w' hs).sub λs x hx=>by
  simp only[look] at hx;cases hb:Nat.beq t s with
  |true=>
   rw[hb] at hx;simp only[cond_true,Option.some.injEq] at hx;rw[<-Nat.eq_of_beq_eq_true hb,hl,hv,hx]
  |false=>rw[hb] at hx;exact hsub s x hx
theorem qH {v v':Value} (h:ew P N env op w v) (e:v=v'):ew P N env op w v':=e▸h
theorem eE (h:ew P N env op w (.bool (decide p))) (hp:p):ew P N env op w (.bool true):=by rwa [decide_eq_true hp] at h
theorem dN (h:ew P N env op w (.bool (decide p))) (hp:¬p):ew P N env op w (.bool false):=by rwa [decide_eq_false hp] at h
end
abbrev af (i:Nat):Nat×Bool:=(i,true)
abbrev nn (i:Nat):Nat×Bool:=(i,false)
section
variable {ops:Array Oper} {i:Nat}
theorem kq (t:Nat) (op:Op) (h:eT ops i=some (some t,op,none):=by kernel_rfl):eT ops i=some (some t,op,none):=h
theorem ax (t:Nat) (op:Op) (g:Nat) (b:Bool) (h:eT ops i=some (some t,op,some (g,b)):=by kernel_rfl):eT ops i=some (some t,op,some (g,b)):=h
theorem k0 (op:Op) (h:eT ops i=some (none,op,none):=by kernel_rfl):eT ops i=some (none,op,none):=h
end
def EE (c:Code) (d:Bool):Bool:=match c with| .region _ _ d'=>d'==d|_=>false
theorem OH {c:Code} {d:Bool} (h:EE c d=true):∃id,c=.region id (fG c) d:=by
 cases c with
 |region id ops d'=>exact⟨id,by unfold EE at h;simp only[beq_iff_eq] at h;subst h;rfl⟩
 |_=>cases h
section
variable {P:Program} {f:FuncId} {N:Nat} {k:List Item} {env:Env} {w w':World} {R:Value->World->Prop} {Q:Exit->Act->World->Prop}
variable {ops:Array Oper} {S:World->Prop} {i t:Nat} {L:List (Nat×Bool)} {op:Op} {v:Value} {x y z:Operand} {g:Option (Nat×Bool)}
theorem au (hop:eT ops i=some (some t,op,g)) (hy:∀w',ew P N env op w' v) (h:bO P N Q ops S L ((t,v)::env) w) (hw:g_ ops env g=some true:=by rfl) (ht:Nat.blt t N=true:=by rfl):
 bO P N Q ops S ((i,true)::L) env w:=fN hop hw ht (λw' _=>hy w') h
theorem aq {c:Code} (L:List (Nat×Bool)) (h:ai P f N k R (fG c) (λ_=>True) L env w) (hc:EE c false=true:=by kernel_rfl) (hL:L.map (·.1)=List.range (fG c).size:=by kernel_rfl):Run P f N (.code c::k) env w R:=by
 obtain⟨id,e⟩:=OH hc;exact Oa L e hL h
def OI (c:Code):Bool:=match c with| .seq _ _=>true|_=>false
def Iu (c:Code) (i:Nat):Bool:=match c with| .block j _=>Nat.beq j i|_=>false
def OJ (c:Code):Bool:=match c with| .skip=>true|_=>false
def Iv (c:Code) (i:Nat):Bool:=match c with| .exit j=>Nat.beq j i|_=>false
def OL (c:Code):Bool:=match c with| .loop _=>true|_=>false
def WE (c:Code):Operand:=match c with| .cond o _ _=>o|_=> .tmp 0
def yw (c:Code) (i:Nat):Bool:=match c with| .cond (.tmp j) _ _=>Nat.beq j i|_=>false
theorem aj {c:Code} (h:Run P f N (.code (cl c):: .code (aZ c)::k) env w R) (hc:OI c=true:=by kernel_rfl):Run P f N (.code c::k) env w R:=
 run_seq (by cases c with|seq a b=>rfl|_=>cases hc) h
theorem dm {c:Code} (id:Nat) (h:Run P f N (.code (cl c):: .inBlock id::k) env w R) (hc:Iu c id=true:=by kernel_rfl):Run P f N (.code c::k) env w R:=
 N4 (by cases c with|block a b=>simp only[Iu] at hc;rw[Nat.eq_of_beq_eq_true hc];rfl|_=>cases hc) h
theorem bK {c:Code} (h:Run P f N k env w R) (hc:OJ c=true:=by kernel_rfl):Run P f N (.code c::k) env w R:=
 N5 (by cases c with|skip=>rfl|_=>cases hc) h
theorem fq {c:Code} (id:Nat) {k':List Item} (h:Run P f N k' env w R) (hc:Iv c id=true:=by kernel_rfl) (hk:exitTo id k=some k':=by exact rfl):Run P f N (.code c::k) env w R:=
 N6 (by cases c with|exit a=>simp only[Iv] at hc;rw[Nat.eq_of_beq_eq_true hc]|_=>cases hc) hk h
theorem Cn {c:Code} {t:Nat} (hc:yw c t=true):c=.cond (.tmp t) (cl c) (aZ c):=by
 cases c with
 |cond o a b=>cases o with|tmp j=>simp only[yw] at hc;rw[Nat.eq_of_beq_eq_true hc];rfl|_=>cases hc
 |_=>cases hc
theorem cV {c:Code} (t:Nat) {p:Prop} [Decidable p] (hv:look env t=some (.bool (decide p))) (ht:p->Run P f N (.code (cl c)::k) env w R) (hf:¬p->Run P f N (.code (aZ c)::k) env w R) (hc:yw c t=true:=by kernel_rfl):Run P f N (.code c::k) env w R:=
 N7 (Cn hc) hv ht hf
theorem iT {c:Code} (t:Nat) {b:Bool} (hv:look env t=some (.bool b)) (ht:b=true->Run P f N (.code (cl c)::k) env w R) (hf:b=false->Run P f N (.code (aZ c)::k) env w R) (hc:yw c t=true:=by kernel_rfl):Run P f N (.code c::k) env w R:=
 Ak (Cn hc) hv ht hf
theorem k9 {c:Code} (t:Nat) (h:Run P f N (.code (cl c)::k) env w R) (hc:yw c t=true:=by kernel_rfl) (hv:look env t=some (.bool true):=by exact rfl):Run P f N (.code c::k) env w R:=
 Ak (Cn hc) hv (λ_=>h) (λh=>by cases h)
theorem fe {c:Code} (t:Nat) (h:Run P f N (.code (aZ c)::k) env w R) (hc:yw c t=true:=by kernel_rfl) (hv:look env t=some (.bool false):=by exact rfl):Run P f N (.code c::k) env w R:=
 Ak (Cn hc) hv (λh=>by cases h) (λ_=>h)
theorem fD {c:Code} {ι:Type} (I:ι->World->Prop) (e:ι->Env) (m:ι->Nat) (eZ:ι) (hs:Sub (e eZ) env) (h0:I eZ w)
 (hr:∀x w,I x w->(∀y w',I y w'->m y<m x->Run P f N (.inLoop (cl c)::k) (e y) w' R)->Run P f N (.code (cl c):: .inLoop (cl c)::k) (e x) w R) (hc:OL c=true:=by kernel_rfl):
 Run P f N (.code c::k) env w R:=N8 I e m eZ (by cases c with|loop b=>rfl|_=>cases hc) hs h0 hr
theorem ah (t a:Nat) (h:bO P N Q ops S L ((t,v)::env) w) (hop:eT ops i=some (some t,.move (.tmp a),none):=by kernel_rfl) (hy:look env a=some v:=by exact rfl) (ht:Nat.blt t N=true:=by rfl):
 bO P N Q ops S ((i,true)::L) env w:=au hop (λ_=>Ex hy) h rfl ht
theorem aJ (t a:Nat) (h:bO P N Q ops S L ((t,v)::env) w) (hop:eT ops i=some (some t,.assign (.tmp a),none):=by kernel_rfl) (hy:look env a=some v:=by exact rfl) (ht:Nat.blt t N=true:=by rfl):
 bO P N Q ops S ((i,true)::L) env w:=au hop (λ_=>sx hy) h rfl ht
theorem aO (t:Nat) (v:Value) (h:bO P N Q ops S L ((t,v)::env) w) (hop:eT ops i=some (some t,.assign (.const v),none):=by kernel_rfl) (ht:Nat.blt t N=true:=by rfl):
 bO P N Q ops S ((i,true)::L) env w:=au hop (λ_=>sx rfl) h rfl ht
theorem qn (t a:Nat) {q:Addr} (h:bO P N Q ops S L ((t,.pointer (some q))::env) w) (hop:eT ops i=some (some t,.nilCheck (.tmp a),none):=by kernel_rfl) (hy:look env a=some (.pointer (some q)):=by exact rfl) (ht:Nat.blt t N=true:=by rfl):
 bO P N Q ops S ((i,true)::L) env w:=au hop (λ_=>Oi hy) h rfl ht
theorem dI (t a:Nat) (j:Nat) (b:Bool) (h:bO P N Q ops S L ((t,v)::env) w) (hop:eT ops i=some (some t,.move (.tmp a),some (j,b)):=by kernel_rfl) (hy:look env a=some v:=by exact rfl) (hw:g_ ops env (some (j,b))=some true:=by rfl) (ht:Nat.blt t N=true:=by rfl):
 bO P N Q ops S ((i,true)::L) env w:=au hop (λ_=>Ex hy) h hw ht
theorem de (t a b:Nat) (h:bO P N Q ops S L ((t,v)::env) w) (hop:eT ops i=some (some t,.pick (.tmp a) (.const (.bool true)) (.tmp b),none):=by kernel_rfl) (ha:look env a=some (.bool false):=by exact rfl) (hy:look env b=some v:=by exact rfl) (ht:Nat.blt t N=true:=by rfl):
 bO P N Q ops S ((i,true)::L) env w:=au hop (λ_=>An ha hy) h rfl ht
theorem ef (t a b:Nat) (h:bO P N Q ops S L ((t,.bool true)::env) w) (hop:eT ops i=some (some t,.pick (.tmp a) (.const (.bool true)) (.tmp b),none):=by kernel_rfl) (ha:look env a=some (.bool true):=by exact rfl) (ht:Nat.blt t N=true:=by rfl):
 bO P N Q ops S ((i,true)::L) env w:=au hop (λ_=>Cc ha rfl) h rfl ht
theorem eR (t a b:Nat) (h:bO P N Q ops S L ((t,v)::env) w) (hop:eT ops i=some (some t,.pick (.tmp a) (.tmp b) (.const (.bool false)),none):=by kernel_rfl) (ha:look env a=some (.bool true):=by exact rfl) (hy:look env b=some v:=by exact rfl) (ht:Nat.blt t N=true:=by rfl):
 bO P N Q ops S ((i,true)::L) env w:=au hop (λ_=>Cc ha hy) h rfl ht
theorem fT (t a b:Nat) (h:bO P N Q ops S L ((t,.bool false)::env) w) (hop:eT ops i=some (some t,.pick (.tmp a) (.tmp b) (.const (.bool false)),none):=by kernel_rfl) (ha:look env a=some (.bool false):=by exact rfl) (ht:Nat.blt t N=true:=by rfl):
 bO P N Q ops S ((i,true)::L) env w:=au hop (λ_=>An ha rfl) h rfl ht
theorem aL (t T a q off:Nat) {b o:Nat} (h:bO P N Q ops S L ((t,.pointer (some ⟨b,o+off,none⟩))::env) w) (hop:eT ops i=some (some t,.fieldAddr T (.tmp a) q,none):=by kernel_rfl) (hf:Ci P T q=some off:=by kernel_rfl) (hy:look env a=some (.pointer (some ⟨b,o,none⟩)):=by exact rfl) (ht:Nat.blt t N=true:=by rfl):
 bO P N Q ops S ((i,true)::L) env w:=au hop (λ_=>Il (off:=off) hf hy) h rfl ht
theorem bT (t T a q off:Nat) (j:Nat) (bb:Bool) {b o:Nat} (h:bO P N Q ops S L ((t,.pointer (some ⟨b,o+off,none⟩))::env) w) (hop:eT ops i=some (some t,.fieldAddr T (.tmp a) q,some (j,bb)):=by kernel_rfl) (hf:Ci P T q=some off:=by kernel_rfl) (hy:look env a=some (.pointer (some ⟨b,o,none⟩)):=by exact rfl) (hw:g_ ops env (some (j,bb))=some true:=by rfl) (ht:Nat.blt t N=true:=by rfl):
 bO P N Q ops S ((i,true)::L) env w:=au hop (λ_=>Il (off:=off) hf hy) h hw ht
def EF (ops:Array Oper) (i:Nat):Option (Option Nat×Option (Nat×Bool)):=(eT ops i).map (λx=>(x.1,x.2.2))
theorem OM {t:Option Nat} (h:EF ops i=some (t,g)):∃op,eT ops i=some (t,op,g):=by
 unfold EF at h;cases hx:eT ops i with
 |none=>rw[hx] at h;cases h
 |some y=>obtain⟨p,q,r⟩:=y;rw[hx] at h;simp only[Option.map_some,Option.some.injEq,Prod.mk.injEq] at h;exact⟨q,by rw[h.1,h.2]⟩
theorem aG (t j:Nat) (b:Bool) (h:bO P N Q ops S L ((t,undef)::env) w) (hop:EF ops i=some (some t,some (j,b)):=by kernel_rfl) (hw:g_ ops env (some (j,b))=some false:=by rfl) (ht:Nat.blt t N=true:=by rfl):
  bO P N Q ops S ((i,true)::L) env w:=by
 obtain⟨op,e⟩:=OM hop;exact Oy e hw ht h
theorem ak (t:Nat) {v:Value} {env' env:Env} (h:Sub env' env) (hl:look env t=some v:=by exact rfl):Sub ((t,v)::env') env:=cA t hl rfl h
def Co (z:Env):Nat->Env->Bool
 |0,_=>true
 |n+1,(t,_)::e=>(match look z t with|none=>true|some _=>false)&&Co z n e
 |_+1,[]=>false
theorem Iw (z:Env):∀(n:Nat) (e:Env),e.drop n=z->Co z n e=true->Sub z e
 |0,e,he,_=>by rw[<-he];exact Sub.refl _
 |n+1,(t,v)::e,he,h=>by
  simp only[Co,Bool.and_eq_true] at h;exact OD (by have:=h.1;split at this<;>first|assumption|cases this) (Iw z n e he h.2)
 |_+1,[],_,h=>by cases h
theorem ei (n:Nat) {env env':Env} (he:env'.drop n=env:=by exact rfl) (h:Co env n env'=true:=by kernel_rfl):Sub env env':=Iw env n env' he h
end
section
variable {α:Type} [bF α] {w w' w'':World} {I J:List Nat} {C bL Ay:Nat->Nat} {x:α} {ys:List α} {v:Value} {b o j:Nat} {iz:Obj} {e:TypeId}
theorem aF.t (h:aF w (aA C) x v) (hs:aH I w C w' bL) (h0:0∉I:=by first|decide|(simp<;>omega)):aF w' (aA bL) x v:=h.st hs h0
theorem dF.t (h:dF w (aA C) x b o) (hs:aH I w C w' bL) (h0:0∉I:=by first|decide|(simp<;>omega)):dF w' (aA bL) x b o:=h.st hs h0
theorem ck.t (h:ck w C j b iz) (hs:aH I w C w' bL) (hj:j∉I:=by first|decide|(simp<;>omega)):ck w' bL j b iz:=h.st hs hj
theorem cC.t (h:cC w C j e v ys) (hs:aH I w C w' bL) (h0:0∉I:=by first|decide|(simp<;>omega)) (hj:j∉I:=by first|decide|(simp<;>omega)):cC w' bL j e v ys:=h.st hs h0 hj
theorem aH.t (h:aH I w C w' bL) (h':aH J w' bL w'' Ay) (hJ:∀c∈J,c∈I:=by simp):aH I w C w'' Ay:=h.trans h' hJ
theorem dF.cR (h:dF w (aA C) x b o) (hS:Ext (λb=>C b∈I) w w') (h0:0∉I:=by first|decide|(simp<;>omega)):w'.heap[b]?=w.heap[b]?:=h.stay hS h0
theorem ck.cR (h:ck w C j b iz) (hS:Ext (λb=>C b∈I) w w') (hj:j∉I:=by first|decide|(simp<;>omega)):w'.heap[b]?=some iz:=h.stay hS hj
end
section
variable {P:Program} {f:FuncId} {N:Nat} {k:List Item} {env:Env} {w w':World} {R:Value->World->Prop} {Q:Exit->Act->World->Prop}
variable {ops:Array Oper} {S:World->Prop} {i t:Nat} {L:List (Nat×Bool)} {op:Op} {v:Value} {x y z:Operand} {g:Option (Nat×Bool)}
theorem eG (t T a:Nat) (c:Int) {m:Int} (h:bO P N Q ops S L ((t,.int .i64 (m+c))::env) w) (hop:eT ops i=some (some t,.binOp .add T (.tmp a) (.const (.int .i64 c)) T,none):=by kernel_rfl) (hy:look env a=some (.int .i64 m):=by exact rfl)
 (h1:-9223372036854775808<=m+c:=by omega) (h2:m+c<=9223372036854775807:=by omega) (ht:Nat.blt t N=true:=by rfl):bO P N Q ops S ((i,true)::L) env w:=au hop (λ_=>gU hy rfl h1 h2) h rfl ht
theorem fM (t T a b:Nat) {kd:IntKind} {m n:Int} (h:bO P N Q ops S L ((t,.bool (decide (m<n)))::env) w) (hop:eT ops i=some (some t,.binOp .lss T (.tmp a) (.tmp b) T,none):=by kernel_rfl) (hy:look env a=some (.int kd m):=by exact rfl) (hz:look env b=some (.int kd n):=by exact rfl)
 (ht:Nat.blt t N=true:=by rfl):bO P N Q ops S ((i,true)::L) env w:=au hop (λ_=>dV hy hz) h rfl ht
theorem dY (t a q:Nat) {vs:Array Value} (h:bO P N Q ops S L ((t,v)::env) w) (hop:eT ops i=some (some t,.extract (.tmp a) q,none):=by kernel_rfl) (hy:look env a=some (.tuple vs):=by exact rfl) (hz:vs[q]?=some v:=by exact rfl)
 (ht:Nat.blt t N=true:=by rfl):bO P N Q ops S ((i,true)::L) env w:=au hop (λ_=>Oj hy hz) h rfl ht
theorem mN (t:Nat) (v:Value) (h:bO P N Q ops S L ((t,v)::env) w) (hop:eT ops i=some (some t,.move (.const v),none):=by kernel_rfl) (ht:Nat.blt t N=true:=by rfl):
 bO P N Q ops S ((i,true)::L) env w:=au hop (λ_=>Ex rfl) h rfl ht
theorem gj (t jO:Nat) (yx tys:List Nat) {vs:List Value} {T:Value->World->Prop} (wE:∀args w,(callFunc jO args).run P w=.ok (.enter jO args) w) (hargs:oV env (yx.map .tmp)=some vs) (hc:Calls P jO vs.toArray w (bW T))
  (h:∀v w',T v w'->S w'/\bO P N Q ops S L ((t,v)::env) w') (hop:eT ops i=some (some t,.call {callee:=.value (.func jO),args:=(yx.map .tmp).toArray,argTypes:=tys.toArray},none):=by kernel_rfl) (ht:Nat.blt t N=true:=by rfl):bO P N Q ops S ((i,false)::L) env w:=
 jy hop rfl ht (dn wE (by simpa using hargs)) hc h
end
section
variable {P:Program} {N:Nat} {env:Env} {w:World} {Q:Exit->Act->World->Prop} {ops:Array Oper} {i t:Nat} {L:List (Nat×Bool)} {op:Op} {g:Option (Nat×Bool)} {T:Value->World->Prop}
theorem bD (hop:eT ops i=some (some t,op,g)) (hw:g_ ops env g=some true) (ht:Nat.blt t N=true) (hy:iY P N env op w T) (h:∀v w',T v w'->bO P N Q ops (λ_=>True) L ((t,v)::env) w'):
 bO P N Q ops (λ_=>True) ((i,false)::L) env w:=eW hop hw ht hy λv w' hT=>⟨trivial,h v w' hT⟩
theorem dD (hop:eT ops i=some (none,op,g)) (hw:g_ ops env g=some true) (hy:iY P N env op w T) (h:∀v w',T v w'->bO P N Q ops (λ_=>True) L env w'):
 bO P N Q ops (λ_=>True) ((i,false)::L) env w:=iZ hop hw hy λv w' hT=>⟨trivial,h v w' hT⟩
theorem dS {jO:FuncId} {args:Array Value} (hop:eT ops i=some (some t,op,g)) (hw:g_ ops env g=some true) (ht:Nat.blt t N=true) (hy:Enters P N env op w jO args) (hc:Calls P jO args w (bW T))
 (h:∀v w',T v w'->bO P N Q ops (λ_=>True) L ((t,v)::env) w'):bO P N Q ops (λ_=>True) ((i,false)::L) env w:=jy hop hw ht hy hc λv w' hT=>⟨trivial,h v w' hT⟩
theorem WG {jO:FuncId} {args:Array Value} (hop:eT ops i=some (none,op,g)) (hw:g_ ops env g=some true) (hy:Enters P N env op w jO args) (hc:Calls P jO args w (bW T))
 (h:∀v w',T v w'->bO P N Q ops (λ_=>True) L env w'):bO P N Q ops (λ_=>True) ((i,false)::L) env w:=Oz hop hw hy hc λv w' hT=>⟨trivial,h v w' hT⟩
theorem cE (t jO:Nat) (yx tys:List Nat) {vs:List Value} (wE:∀args w,(callFunc jO args).run P w=.ok (.enter jO args) w) (hargs:oV env (yx.map .tmp)=some vs) (hc:Calls P jO vs.toArray w (bW T))
 (h:∀v w',T v w'->bO P N Q ops (λ_=>True) L ((t,v)::env) w') (hop:eT ops i=some (some t,.call {callee:=.value (.func jO),args:=(yx.map .tmp).toArray,argTypes:=tys.toArray},none):=by kernel_rfl) (ht:Nat.blt t N=true:=by rfl):
 bO P N Q ops (λ_=>True) ((i,false)::L) env w:=gj t jO yx tys wE hargs hc (λv w' hT=>⟨trivial,h v w' hT⟩) hop ht
end
theorem cM {P:Program} {f:FuncId} {fn:Func} (c:Code) (N:Nat) (args:List Value) {w:World} {R:Value->World->Prop} (hf:P.funcs[f]?=some fn) (h:Run P f N [.code c] (Am 0 args) w R)
 (hb:fn.body=some c:=by kernel_rfl) (hN:fn.ntmps=N:=by kernel_rfl) (hsz:Nat.ble args.length N=true:=by kernel_rfl):Calls P f args.toArray w (bW R):=Oh args hf hb hN hsz h
theorem cq {P:Program} {f:FuncId} {N:Nat} {k:List Item} {env:Env} {w:World} {R:Value->World->Prop} {c:Code} {fn:Func} {t:Nat} {v:Value} (hf:P.funcs[f]?=some fn) (hres:fn.results=#[.tmp t]) (hR:R v w) (hv:look env t=some v:=by exact rfl) (hc:c=.ret:=by kernel_rfl):Run P f N (.code c::k) env w R:=N9 hc hf hres hv hR
def tX (place:Nat->Option (Nat×Nat)):List Value->List (Nat×List Value)->Option (List Value)
 |cells,[]=>some cells
 |cells,(i,vs)::rest=>match place i with
  |none=>none
  |some (off,size)=>if vs.length=size/\off+vs.length<=cells.length then tX place (cells.take off++vs++cells.drop (off+vs.length)) rest else none
theorem Ix:∀(vs:List Value) (k off:Nat) (cs:List Value),off+k+vs.length<=cs.length->
  ((vs.zipIdx k).foldl (λ(acc:Array Value) (p:Value×Nat)=>acc.setIfInBounds (off+p.2) p.1) cs.toArray)=(cs.take (off+k)++vs++cs.drop (off+k+vs.length)).toArray
 |[],k,off,cs,h=>by simp
 |v::vs,k,off,cs,h=>by
  rw[List.length_cons] at h;rw[List.zipIdx_cons,List.foldl_cons];have e1:cs.toArray.setIfInBounds (off+k) v=(cs.set (off+k) v).toArray:=by simp
  rw[e1,Ix vs (k+1) off (cs.set (off+k) v) (by simp;omega)];congr 1;have hlt:off+k<cs.length:=by omega
  rw[List.set_eq_take_append_cons_drop,if_pos hlt];have e2:off+(k+1)=(cs.take (off+k)).length+1:=by simp;omega
  have iA:off+(k+1)+vs.length=(cs.take (off+k)).length+(1+vs.length):=by simp;omega
  rw[show List.take (off+(k+1)) (cs.take (off+k)++v::cs.drop (off+k+1))=cs.take (off+k)++[v] from by
   rw[e2,List.take_append];simp[Nat.min_eq_left (Nat.le_of_lt hlt),List.take_take,Nat.min_eq_right (Nat.le_succ (off+k))]]
  rw[show List.drop (off+(k+1)+vs.length) (cs.take (off+k)++v::cs.drop (off+k+1))=cs.drop (off+k+(vs.length+1)) from by
   rw[iA,List.drop_append];simp only[Nat.add_sub_cancel_left];rw[List.drop_eq_nil_of_le (by omega),List.nil_append,Nat.add_comm 1,List.drop_succ_cons,List.drop_drop];congr 1;omega]
  simp
theorem fill_eq (place:Nat->Option (Nat×Nat)):∀(ps:List (Nat×Value)) (ez:List (Nat×List Value)) (cs cs':List Value),
  ps.map (λp=>(p.1,p.2.cells))=ez.map (λq=>(q.1,q.2.toArray))->tX place cs ez=some cs'->Instr.fill place cs.toArray ps=some cs'.toArray
 |[],[],cs,cs',_,h=>by simp only[tX,Option.some.injEq] at h;subst h;rfl
 |[],q::ez,_,_,h,_=>by simp at h
 |p::ps,[],_,_,h,_=>by simp at h
 |(i,v)::ps,(j,vs)::ez,cs,cs',h,hf=>by
  simp only[List.map_cons,List.cons.injEq,Prod.mk.injEq] at h;obtain⟨⟨rfl,hv⟩,hr⟩:=h;simp only[tX] at hf;unfold Instr.fill;cases hp:place i with
  |none=>rw[hp] at hf;cases hf
  |some os=>
   obtain⟨off,size⟩:=os;rw[hp] at hf;simp only at hf⊢;split at hf
   ·rename_i hc;rw[hv];have hn:¬(vs.toArray.size≠size\/off+vs.toArray.size>cs.toArray.size):=by simp;omega
    simp only[List.size_toArray] at hn⊢;rw[if_neg (by simpa using hn)];have e: (vs.toArray.zipIdx.foldl (λ(acc:Array Value) (p:Value×Nat)=>acc.setIfInBounds (off+p.2) p.1) cs.toArray)=(cs.take off++vs++cs.drop (off+vs.length)).toArray:=by
     have:=Ix vs 0 off cs (by simpa using hc.2);simpa using this
    rw[show(vs.toArray.zipIdx.foldl (λcs (x:Value×Nat)=>match x with|(c,j)=>cs.setIfInBounds (off+j) c) cs.toArray)=_ from e];exact fill_eq place ps ez _ cs' hr hf
   ·cases hf
def sG (env:Env):List (Nat×Operand)->List (Nat×List Value)->Prop
 |[],[]=>True
 |(i,x)::ps,(j,vs)::ez=>i=j/\(∃v,ev env x=some v/\v.cells=vs.toArray)/\sG env ps ez
 |_,_=>False
def Iy (P:Program) (t:TypeId):Option (List (Nat×Nat)):=match P.underlying t with
 |some (.struct fs)=>fs.toList.mapM λf=>(iy P f.type).map λn=>(f.offset,n)
 |_=>none
section
variable {P:Program} {N:Nat} {env:Env} {w:World} {t:TypeId} {ρ:Operand->Value}
theorem sG.map (hρ:∀x v,ev env x=some v->ρ x=v):∀{ps:List (Nat×Operand)} {ez:List (Nat×List Value)},sG env ps ez->
  (ps.map λp=>(p.1,ρ p.2)).map (λp=>(p.1,p.2.cells))=ez.map (λq=>(q.1,q.2.toArray))
 |[],[],_=>rfl
 |[],_::_,h=>h.elim
 |_::_,[],h=>h.elim
 |(i,x)::ps,(j,vs)::ez,h=>by
  obtain⟨rfl,⟨v,hv,hc⟩,hr⟩:=h;simp only[List.map_cons,hρ x v hv,hc];rw[sG.map hρ hr]
theorem run_map {α β:Type} (g:α->β) (s:Sem α) (w:World): (g<$>s).run P w=(s.run P w).andThen λa w'=> .ok (g a) w':=by
 show(Sem.run P (Sem.bind s (λa=>Sem.pure (g a))) w)=_;exact Sem.run_bind _ _ _ _
theorem run_places {ps:List (Nat×Nat)} {fs:Array Field} (h:fs.toList.mapM (λf=>(iy P f.type).map λn=>(f.offset,n))=some ps) (w:World):
  (fs.mapM λf=>do pure (f.offset,<-sizeOf f.type):Sem (Array (Nat×Nat))).run P w=.ok ps.toArray w:=by
 rw[Array.mapM_eq_mapM_toList];have main:∀(l:List Field) (ps:List (Nat×Nat)),l.mapM (λf=>(iy P f.type).map λn=>(f.offset,n))=some ps->
   (l.mapM λf=>do pure (f.offset,<-sizeOf f.type):Sem (List (Nat×Nat))).run P w=.ok ps w:=by
  intro l
  induction l with
  |nil=>intro ps h;simp at h;subst h;rfl
  |cons f l ih=>
   intro ps h;rw[List.mapM_cons] at h;simp only[Option.bind_eq_bind,Option.bind_eq_some_iff,Option.map_eq_some_iff,Option.pure_def,Option.some.injEq] at h;obtain⟨p,⟨n,hn,rfl⟩,ez,hq,rfl⟩:=h;rw[List.mapM_cons];rw[Sem.run_bind,Sem.run_bind,oq hn,Result.andThen_ok,Sem.run_pure,Result.andThen_ok,Sem.run_bind,ih ez hq,Result.andThen_ok,Sem.run_pure]
 rw[run_map,main _ _ h];rfl
theorem fO {parts:Array (Nat×Operand)} {zs cs:List Value} {ps:List (Nat×Nat)} {ez:List (Nat×List Value)} (hz:uZ P t=some zs) (hp:Iy P t=some ps)
  (hq:sG env parts.toList ez) (hf:tX (ps[·]?) zs ez=some cs):ew P N env (.build t parts) w (.agg cs.toArray):=mk' λρ hρ o ho=>by
 obtain⟨z,h1,h2⟩:=EB hz w;unfold Iy at hp;split at hp
 ·rename_i fs hu;have yz:=run_places hp w;have hmap:=sG.map hρ hq;have nG:=fill_eq (ps[·]?) (parts.toList.map λp=>(p.1,ρ p.2)) ez zs cs (by rw[<-hmap]) hf;have EG:Instr.fill (λx=>ps.toArray[x]?) z.cells (parts.map λx=>(x.1,ρ x.2)).toList=some cs.toArray:=by
   rw[h2];have: (parts.map λx=>(x.1,ρ x.2)).toList=parts.toList.map λp=>(p.1,ρ p.2):=by simp
   rw[this,<-nG];congr 1;funext x;simp
  unfold execOp;rw[ho];simp only[Instr.build,Sem.run_bind,h1,Result.andThen_ok,run_underlying hu,yz];rw[show(parts.map λx=>match x with|(i,x)=>(i,ρ x)).toList=(parts.map λx=>(x.1,ρ x.2)).toList from rfl,EG];rfl
 ·cases hp
end
section
variable {α:Type} [bF α] {P:Program} {N:Nat} {env:Env} {w:World} {M:Nat->Prop} {C:Nat->Nat} {t e:TypeId}
def Cp (env:Env) (w:World) (M:Nat->Prop):Nat->List (Nat×Operand)->List α->Prop
 |_,[],[]=>True
 |k,(i,x)::ps,y::ys=>i=k/\(∃v,ev env x=some v/\aF w M y v)/\Cp env w M (k+1) ps ys
 |_,_,_=>False
theorem aF.cells {x:α} {v:Value} (h:aF w M x v):∃vs,v.cells=vs.toArray/\bF.rep w.heap M x vs:=by
 cases hx:bF.agg α with
 |true=>obtain⟨vs,rfl,_,_,hr⟩:=h.many hx;exact⟨vs,rfl,hr⟩
 |false=>
  have h1:=(h.one hx).1;obtain⟨vs,hr,hv⟩:=h;have hl:=bF.len hr;rw[bF.flat hx] at hl;obtain⟨u,rfl⟩:=List.length_eq_one_iff.1 hl;simp only[hx,Bool.false_eq_true,if_false,List.headD_cons] at hv;subst hv;exact⟨[v],h1,hr⟩
theorem EH:∀{ps:List (Nat×Operand)} {ys:List α} {k:Nat} (pre post:List Value),Cp env w M k ps ys->pre.length=k*sz α->post.length=ys.length*sz α->
  ∃ez news,sG env ps ez/\tX (λi=>some (i*sz α,sz α)) (pre++post) ez=some (pre++news)/\news.length=ys.length*sz α/\
   ∀i (hi:i<ys.length),bF.rep w.heap M ys[i] ((news.drop (i*sz α)).take (sz α))
 |[],[],k,pre,post,_,_,hpost=>by
  have:post=[]:=List.eq_nil_of_length_eq_zero (by simpa using hpost);subst this;exact⟨[],[],trivial,by simp[tX],by simp,λi hi=>by simp at hi⟩
 |[],_::_,_,_,_,h,_,_=>h.elim
 |_::_,[],_,_,_,h,_,_=>h.elim
 |(i,x)::ps,y::ys,k,pre,post,h,hpre,hpost=>by
  obtain⟨rfl,⟨v,hv,hr⟩,OO⟩:=h;obtain⟨vs,hc,yB⟩:=hr.cells;have hl:=bF.len yB;rw[List.length_cons,Nat.succ_mul] at hpost;obtain⟨ez,news,h1,h2,h3,h4⟩:=EH (k:=i+1) (pre++vs) (post.drop (sz α)) OO (by rw[List.length_append,hpre,hl,Nat.succ_mul]) (by rw[List.length_drop,hpost];omega);refine⟨(i,vs)::ez,vs++news,⟨rfl,⟨v,hv,hc⟩,h1⟩,?_,?_,?_⟩
  ·simp only[tX];rw[if_pos ⟨hl,by rw[List.length_append,hpre,hl,hpost];omega⟩];rw[show List.take (i*sz α) (pre++post)=pre from by rw[<-hpre];exact List.take_left,show List.drop (i*sz α+vs.length) (pre++post)=post.drop (sz α) from by rw[<-hpre,hl,List.drop_append];simp];rw[h2,List.append_assoc]
  ·rw[List.length_append,hl,h3,List.length_cons,Nat.succ_mul];omega
  ·intro j hj;cases j with
   |zero=>simpa[<-hl] using yB
   |succ j=>
    have:=h4 j (by simpa using hj);rw[show(j+1)*sz α=vs.length+j*sz α from by rw[hl,Nat.succ_mul];omega,List.drop_append,List.drop_eq_nil_of_le (Nat.le_add_right vs.length (j*sz α))];simpa using this
theorem ig {n bytes:Nat} {parts:Array (Nat×Operand)} {ys:List α} (hF:bA w C) (hrow:o_ P t e (sz α) bytes=true) (hn:n=ys.length) (OP:n*sz α<=16777216) (hsz:0<sz α)
  (hp:Cp env w (aA C) 0 parts.toList ys):
  iY P N env (.buildSlice t n parts) w (λv w'=>aH [] w C w' C/\aF w' (aA C) ys v/\bA w' C):=qm λρ hρ gi ic=>by
 subst hn;obtain⟨i,z,hu,hi,hsi,hby,hz,hzs⟩:=sB hrow
 let zs:List Value:=((Array.range (ys.length*sz α)).map λj=>(if ys.length*sz α=0 then(#[]:Array Value) else z.cells)[j%(if ys.length*sz α=0 then(#[]:Array Value) else z.cells).size]!).toList
 obtain⟨ez,news,h1,h2,h3,h4⟩:=EH (k:=0) [] zs hp (by simp) (by simp[zs]);simp only[List.nil_append] at h2;have hmap:=sG.map hρ h1;have nG:=fill_eq _ (parts.toList.map λp=>(p.1,ρ p.2)) ez zs news (by rw[<-hmap]) h2;have hnew:=yq w (.cells news.toArray e);have hrun: (Instr.buildSlice t ys.length (parts.map λx=>(x.1,ρ x.2))).run P w=.ok (.slice (some ⟨w.heap.size,0,none⟩) ys.length ys.length) (w.alloc (.cells news.toArray e)):=by
  have hle:¬(ys.length*sz α>2^24):=by omega
  have yz: (parts.map λx=>(x.1,ρ x.2)).toList=parts.toList.map λp=>(p.1,ρ p.2):=by simp
  have AA: (sizeOf e).run P w=.ok (sz α) w:=by simp[sizeOf,typeInfo,hi,hsi]
  unfold Instr.buildSlice;simp only[Sem.run_bind,run_underlying hu,Result.andThen_ok,AA,if_neg hle,Sem.run_pure,yz];by_cases h0:ys.length*sz α=0
  ·have sC:zs=((Array.range (ys.length*sz α)).map λj=>(#[]:Array Value)[j%(#[]:Array Value).size]!).toList:=by simp only[zs,h0,if_true]
   rw[sC] at nG;simp only[h0,if_true,Sem.run_bind,Sem.run_pure,Result.andThen_ok] at nG⊢;simp only[Array.toArray_toList] at nG;rw[nG];simp[newRow]
  ·have sC:zs=((Array.range (ys.length*sz α)).map λj=>z.cells[j%z.cells.size]!).toList:=by simp only[zs,h0,if_false]
   rw[sC] at nG;have cK: (zeroValue e).run P w=.ok z w:=by simp[zeroValue,typeInfo,hi,hz]
   simp only[h0,if_false,Sem.run_bind,cK,Sem.run_pure,Result.andThen_ok];simp only[Array.toArray_toList] at nG;rw[nG];simp[newRow]
 refine⟨.slice (some ⟨w.heap.size,0,none⟩) ys.length ys.length,w.alloc (.cells news.toArray e),.inl ?_,hnew.st C,?_,hF.st (hnew.st C)⟩
 ·unfold execOp;rw[ic];simp only[Sem.run_bind];rw[show(parts.map λx=>match x with|(i,x)=>(i,ρ x))=(parts.map λx=>(x.1,ρ x.2)) from rfl,hrun];rfl
 ·refine mL.2 ⟨_,_,rfl,Nat.le_refl _,?_,.inr ⟨w.heap.size,0,rfl,λhm=>?_,news.toArray,e,(0,0),hnew.at_,?_,λi hi=>?_⟩⟩
  ·have:ys.length<=ys.length*sz α:=Nat.le_mul_of_pos_right _ hsz;omega
  ·have:=hF _ hm;omega
  ·simp only[Nat.zero_add,List.size_toArray,h3];exact Nat.le_refl _
  ·have:=h4 i hi;rw[Nat.zero_add];exact bF.keep this (λb hb hm=>hnew.ext.block b hb (λh=>h))
end
section
variable {P:Program} {N:Nat} {env:Env} {w:World} {C:Nat->Nat} {y z:Operand} {t ty:TypeId} {v:Value} {b j n:Nat}
theorem dP {cs vs:List Value} (hx:ev env y=some (.pointer (some ⟨b,0,none⟩))) (hy:ev env z=some v) (hs:iy P t=some n)
  (hv:v.cells=vs.toArray) (hl:vs.length=n) (h1:∀u∈vs,u.oneCell'=true) (hb:ck w C j b (.cells cs.toArray ty)) (ho:cs.length=n):
  iY P N env (.store t y z) w (λu w'=>u=undef/\aH [j] w C w' C/\ck w' C j b (.cells vs.toArray ty)):=λa ha gi ic=>by
 obtain⟨u,w',h2,h3,h4,h5⟩:=OA (P:=P) (N:=N) (w:=w) (o:=0) hx hy hs hv hl h1 hb (by omega) a ha gi ic;have e:List.take 0 cs++vs++List.drop (0+n) cs=vs:=by
  rw[List.drop_eq_nil_of_le (by omega)];simp
 rw[e] at h5;exact⟨u,w',h2,h3,h4,h5⟩
end
structure Raw (n:Nat) where
 vals:List Value
 len:vals.length=n
 one:∀v∈vals,v.oneCell'=true
instance {n:Nat}:bF (Raw n) where
 sz:=n
 agg:=true
 flat h:=by cases h
 rep _ _ x vs:=vs=x.vals
 len h:=by subst h;rename_i x;exact x.len
 one h:=by subst h;rename_i x;exact x.one
 keep h _:=h
 sub h _:=h
structure Block where
 hash:Int
 ids:List Int
instance:bF Block:=bF.via (λb:Block=>((⟨b.hash⟩:Oo),b.ids))
structure dh where
 a:Int
 b:Int
 deriving DecidableEq
instance:bF dh:=bF.via (λc:dh=>(c.a,c.b))
section
variable {w:World} {M:Nat->Prop} {b o:Nat} {v:Value}
theorem rI {x:dh}:aF w M x v↔v=.agg #[.int .i64 x.a,.int .i64 x.b]:=
 ⟨λh=>by
   obtain⟨vs,⟨us,ws,rfl,h1,h2⟩,hv⟩:=h;have EI:us=[.int .i64 x.a]:=h1;have qI:ws=[.int .i64 x.b]:=h2;subst EI;subst qI;exact hv,
  λh=>⟨[.int .i64 x.a,.int .i64 x.b],⟨_,_,rfl,rfl,rfl⟩,h⟩⟩
end
structure iB where
 list:List Int
 at_:Nat
 state:Int
def iB.x (d:iB):Int:=if h:d.at_<d.list.length then IntKind.u64.wrap d.list[d.at_] else 0
def mix (s x:Int):Int:=IntKind.u64.wrap (IntKind.u64.wrap (IntKind.u64.wrap (s+x)*6364136223846793005)+1442695040888963407)
def EJ (s:Int):Int:=bitsOf .xor .u64 s (s.fdiv (2^min (33:Int).toNat IntKind.u64.bits))
def EK (y:Int):Int:=bitsOf .xor .u64 y (y.fdiv (2^min (29:Int).toNat IntKind.u64.bits))
def iB.next (d:iB):iB:={list:=d.list,at_:=if d.at_<d.list.length then d.at_+1 else d.at_,state:=mix d.state d.x}
def iB.word (d:iB):Int:=EK (IntKind.u64.wrap (EJ d.next.state*18397679294719823053))
theorem OQ (n:Int):0<=IntKind.u64.wrap n/\IntKind.u64.wrap n<18446744073709551616:=by
 have h:IntKind.u64.wrap n=n%18446744073709551616:=by simp[IntKind.wrap,IntKind.signed,IntKind.bits]
 rw[h];exact⟨Int.emod_nonneg _ (by decide),Int.emod_lt_of_pos _ (by decide)⟩
theorem iB.OS (d:iB):0<=d.word/\d.word<18446744073709551616:=OQ _
def iB.num (d:iB) (n:Int):Int:=if n<1 then 0 else(d.word/2)%n
def iB.after (d:iB) (n:Int):iB:=if n<1 then d else d.next
theorem iB.OT (d:iB) {n:Int} (h:1<=n):0<=d.num n/\d.num n<n:=by
 unfold iB.num;rw[if_neg (by omega)];exact⟨Int.emod_nonneg _ (by omega),Int.emod_lt_of_pos _ (by omega)⟩
theorem iB.OU (d:iB) (n:Int): (d.after n).list=d.list:=by unfold iB.after;split<;>rfl
def nt (t:TypeId) (w:World) (C:Nat->Nat) (i b:Nat) (d:iB):Prop:=
 d.at_<=d.list.length/\∃v,aF w (aA C) d.list v/\ck w C i b (.cells [v,.int .i64 d.at_,.int .u64 d.state].toArray t)
section
variable {t:TypeId} {w w':World} {C bL:Nat->Nat} {i b:Nat} {d:iB} {I:List Nat}
theorem nt.st (h:nt t w C i b d) (hs:aH I w C w' bL) (h0:0∉I) (hi:i∉I):nt t w' bL i b d:=by
 obtain⟨h1,v,h2,h3⟩:=h;exact⟨h1,v,h2.st hs h0,h3.st hs hi⟩
theorem nt.eN (h:nt t w C i b d) (hi:i≠0):nt t w (eN C i) 2 b d:=by
 obtain⟨h1,v,h2,h3⟩:=h;exact⟨h1,v,by rw[jX];exact h2,h3.eN hi⟩
theorem nt.cD (h:nt t w C i b d) {n:Nat} (hi:i<n):nt t w (K.cD n C) i b d:=by
 obtain⟨h1,v,h2,h3⟩:=h;exact⟨h1,v,h2.cD n,h3.cD hi⟩
theorem nt.out {w₀:World} {pQ:Nat->Nat} (h:nt t w' bL 2 b d) (hs:aH I w₀ (K.eN pQ i) w' bL) (hF:bA w₀ pQ) (hb:pQ b=i):nt t w' pQ i b d:=by
 obtain⟨h1,v,h2,h3⟩:=h;exact⟨h1,v,h2.out hs hF (jX pQ i),⟨hb,h3.at_⟩⟩
end
section
variable {α:Type} [bF α] {w w':World} {C bL:Nat->Nat} {P:Program} {N:Nat} {env:Env} {x y z q:Operand} {t ty e:TypeId} {v u:Value} {xs:List α} {j b g n:Nat}
theorem OV {zs:List Value} {s:Nat} (hz:zs.length=s) {c i:Nat} (h:i<c):cB (madeCells zs.toArray (c*s)) (i*s) s=zs:=by
 apply List.ext_getElem?;intro k;have hb: (i+1)*s<=c*s:=Nat.mul_le_mul_right s h;rw[Nat.succ_mul] at hb;simp only[cB,List.getElem?_take,List.getElem?_drop];split
 ·rename_i hk;have h1:i*s+k<c*s:=by omega
  have h2: (i*s+k)%s=k:=by rw[Nat.mul_comm,Nat.mul_add_mod];exact Nat.mod_eq_of_lt hk
  simp[madeCells,h1,hz,h2,List.getElem?_eq_getElem (show k<zs.length by omega)]
 ·rename_i hk;rw[List.getElem?_eq_none (by omega)]
theorem OW {bytes l c:Nat} {kl kc:IntKind} {x0:α} {zs:List Value} (hF:bA w C) (hj:j≠0) (hrow:o_ P t e (sz α) bytes=true) (Cr:uZ P e=some zs)
  (hy:ev env y=some (.int kl l)) (hz:ev env z=some (.int kc c)) (hlc:l<=c) (hlen:bytes*c<=140737488355328) (h63:c<=140737488355328) (h0:∀h M,rep h M x0 zs):
  iY P N env (.makeSlice t y z) w (λv w'=>∃bL,aH [] w C w' bL/\cC w' bL j e v (List.replicate l x0)/\bA w' bL):=qm λρ hρ gi ic=>by
 obtain⟨i,fW,hu,hi,hsi,hby,yD,hzs⟩:=sB hrow;have Iz:fW.cells=zs.toArray:=by
  unfold uZ at Cr;rw[hi] at Cr;simp[yD] at Cr;rw[<-Cr]
 have hzl:zs.length=sz α:=by rw[<-hzs,Iz];simp
 have hbc: (i.bytes:Int)*c<=281474976710656:=by
  have: ((bytes*c:Nat):Int)<=140737488355328:=by omega
  rw[Int.natCast_mul] at this;rw[hby];omega
 have hr:=run_make (P:=P) w t e i fW hu hi yD kl kc l c (by omega) (by omega) hbc (by omega);simp only[Int.toNat_natCast,hsi,Iz] at hr;have hn:=yq w (.cells (madeCells zs.toArray (c*sz α)) e (0,0));obtain⟨bL,h1,h2,h3⟩:=hn.own hF j;refine⟨_,_,.inl ?_,bL,h1,⟨.inr ⟨w.heap.size,c,madeCells zs.toArray (c*sz α),by rw[List.length_replicate],?_,h2.at_,by rw[List.length_replicate];exact hlc,by simp[madeCells],λk hk=>?_⟩,λb hb=>?_⟩,h3⟩
 ·unfold execOp;rw[ic];simp only[hρ _ _ hy,hρ _ _ hz,Sem.run_bind];rw[hr];rfl
 ·unfold aA;rw[h2.col];exact hj
 ·rw[List.length_replicate] at hk;rw[OV hzl (show k<c by omega),List.getElem_replicate];exact h0 _ _
 ·simp only[fE,Value.ownBlock,Option.some.injEq] at hb;subst hb;exact h2.col
theorem cC.yG (h:cC w C j e v xs) (hne:0<xs.length):∃g cap cs,v=.slice (some ⟨g,0,none⟩) xs.length cap/\C g=j/\aA C g/\w.heap[g]?=some (.cells cs e (0,0))/\xs.length<=cap/\cs.size=cap*sz α/\
  ∀i (hi:i<xs.length),rep w.heap (aA C) xs[i] (cB cs (i*sz α) (sz α)):=by
 rcases h.own with⟨_,rfl⟩|⟨g,cap,cs,hv,hg,hc,h1,h2,h3⟩
 ·simp at hne
 ·exact⟨g,cap,cs,hv,h.col g (by subst hv;rfl),hg,hc,h1,h2,h3⟩
theorem cC.index (h:cC w C j e v xs) (hy:ev env y=some v) {e':Nat} {kd:IntKind} {i:Int} (hf:nE P t=some (e',sz α)) (hz:ev env z=some (.int kd i)) (h0:0<=i) (h1:i<xs.length):
  ∃g,fE v g/\∀w',ew P N env (.indexAddr t y z) w' (.pointer (some ⟨g,i.toNat*sz α,none⟩)):=by
 obtain⟨g,cap,cs,rfl,_,_,hc,_⟩:=h.yG (by omega);refine⟨g,rfl,λw'=>?_⟩;have:=Im (P:=P) (N:=N) (w:=w') hf hy hz h0 h1;rwa [Nat.zero_add] at this
theorem cC.load (h:cC w C j e v xs) (hg:fE v g) {i:Nat} (hi:i<xs.length) (ha:iW P t=some false) (hx:bF.agg α=false) (hy:ev env y=some (.pointer (some ⟨g,i*sz α,none⟩))):
  ∃u,aF w (aA C) xs[i] u/\∀w',w'.heap[g]?=w.heap[g]?->ew P N env (.load t y) w' u:=by
 obtain⟨g',cap,cs,rfl,_,_,hc,h1,h2,h3⟩:=h.yG (by omega);simp only[fE,Value.ownBlock,Option.some.injEq] at hg;subst hg;have hr:=h3 i hi;have hl:=bF.len hr;rw[bF.flat hx] at hr hl;obtain⟨u,hu⟩:=List.length_eq_one_iff.1 hl;rw[hu] at hr;refine⟨u,qk hr hx,λw' hw=>?_⟩;have OX:cs[i*1]?=some u:=by
  have:=congrArg (λl=>l[0]?) hu;simpa[cB] using this
 refine oZ (cs:=cs.toList) (by rw[hw];simpa using hc) ha ?_ hy;rw[bF.flat hx];simpa using OX
theorem cC.Ap (h:cC w C j e v xs) (hg:fE v g) {i:Nat} (hi:i<xs.length) (ha:iW P t=some true) (hs:iy P t=some (sz α)) (hx:bF.agg α=true) (hy:ev env y=some (.pointer (some ⟨g,i*sz α,none⟩))):
  ∃u,aF w (aA C) xs[i] u/\∀w',w'.heap[g]?=w.heap[g]?->ew P N env (.load t y) w' u:=by
 obtain⟨g',cap,cs,rfl,_,_,hc,h1,h2,h3⟩:=h.yG (by omega);simp only[fE,Value.ownBlock,Option.some.injEq] at hg;subst hg;have hr:=h3 i hi;refine⟨.agg (cB cs (i*sz α) (sz α)).toArray,⟨_,hr,by simp[hx]⟩,λw' hw=>?_⟩;exact jf (cs:=cs.toList) (by rw[hw];simpa using hc) ha hs rfl (bF.len hr) hy
theorem qJ {x0:α} {i:Nat} (h:cC w C j e v xs) (hg:fE v g) (hi:i<xs.length) (hy:ev env y=some (.pointer (some ⟨g,i*sz α,none⟩))) (hz:ev env z=some u) (hs:iy P t=some (sz α)) (hr:aF w (aA C) x0 u):
  iY P N env (.store t y z) w (λu' w'=>u'=undef/\aH [j] w C w' C/\cC w' C j e v (xs.set i x0)):=λa ha gi ic=>by
 obtain⟨g',cap,cs,rfl,nF,pO,hc,h1,h2,h3⟩:=h.yG (by omega);simp only[fE,Value.ownBlock,Option.some.injEq] at hg;subst hg;obtain⟨vs,hv,yB⟩:=hr.cells;have hb: (i+1)*sz α<=cap*sz α:=Nat.mul_le_mul_right _ (by omega);rw[Nat.succ_mul] at hb;have hvl:=bF.len yB;obtain⟨u',w',k1,k2,tY⟩:=Cj (P:=P) (N:=N) (cs:=cs.toList) (n:=sz α) (vs:=vs) hy hz hs hv hvl (bF.one yB) (by simpa using hc) (by simp only[Array.length_toList];omega) a ha gi ic;have hst:aH [j] w C w' C:=⟨tY.ext.mono (λb _ hb=>by rw[show b=g' from hb,nF];simp),λ_ _=>rfl⟩
 have keep:∀{x:α} {vs:List Value},rep w.heap (aA C) x vs->rep w'.heap (aA C) x vs:=λhr=>bF.keep hr (λb hb hn=>tY.ext.block b hb (λe=>hn (by rw[show b=g' from e];exact pO)));refine⟨u',w',k1,k2,hst,⟨.inr ⟨g',cap,_,by rw[List.length_set],pO,tY.at_,by rw[List.length_set];exact h1,?_,λk hk=>?_⟩,h.col⟩⟩
 ·simp only[List.size_toArray,List.length_append,List.length_take,List.length_drop,Array.length_toList,hvl];omega
 ·rw[List.length_set] at hk;rw[List.getElem_set];split
  ·rename_i hik;subst hik;have:cB (cs.toList.take (i*sz α)++vs++cs.toList.drop (i*sz α+sz α)).toArray (i*sz α) (sz α)=vs:=by
    unfold cB;simp only[List.append_assoc];rw[List.drop_append_of_le_length (by simp only[List.length_take,Array.length_toList];omega),List.drop_eq_nil_of_le (by simp only[List.length_take];omega),List.nil_append,<-hvl,List.take_left]
   rw[this];exact keep yB
  ·rename_i hik;have:cB (cs.toList.take (i*sz α)++vs++cs.toList.drop (i*sz α+sz α)).toArray (k*sz α) (sz α)=cB cs (k*sz α) (sz α):=sA (λm hm=>by
    rw[show∀(l:List Value) (p:Nat),l.toArray[p]?=l[p]? from λl p=>by simp,<-Array.getElem?_toList];rcases Nat.lt_or_ge k i with hlt|hge
    ·have:=Nat.mul_le_mul_right (sz α) (show k+1<=i from hlt);rw[Nat.succ_mul] at this;rw[List.append_assoc,List.getElem?_append_left (by simp only[List.length_take,Array.length_toList];omega),List.getElem?_take,if_pos (by omega)]
    ·have:=Nat.mul_le_mul_right (sz α) (show i+1<=k by omega);rw[Nat.succ_mul] at this;rw[List.getElem?_append_right (by simp only[List.length_append,List.length_take,Array.length_toList,hvl];omega),List.getElem?_drop];congr 1;simp only[List.length_append,List.length_take,Array.length_toList,hvl];omega)
   rw[this];exact keep (h3 k hk)
end
section
variable {α:Type} [bF α] {w:World} {C:Nat->Nat} {P:Program} {f:FuncId} {N:Nat} {k:List Item} {R:Value->World->Prop} {Q:Exit->Act->World->Prop} {env:Env} {ops:Array Oper} {S:World->Prop} {i t:Nat} {L:List (Nat×Bool)} {v:Value} {y z:Operand} {mK:Option (Nat×Bool)} {ty e e':TypeId} {xs:List α} {j g:Nat} {kd:IntKind} {n:Int}
theorem sH (hop:eT ops i=some (some t,.indexAddr ty y z,mK)) (hw:g_ ops env mK=some true) (ht:Nat.blt t N=true) (hl:cC w C j e v xs) (hy:ev env y=some v)
  (hf:nE P ty=some (e',sz α)) (hz:ev env z=some (.int kd n)) (h0:0<=n) (h1:n<xs.length)
  (h:∀g,fE v g->bO P N Q ops S L ((t,.pointer (some ⟨g,n.toNat*sz α,none⟩))::env) w):bO P N Q ops S ((i,true)::L) env w:=by
 obtain⟨g,h2,h3⟩:=hl.index (P:=P) (N:=N) hy hf hz h0 h1;exact fN hop hw ht (λw' _=>h3 w') (h g h2)
theorem AB {i':Nat} (hop:eT ops i=some (some t,.load ty y,mK)) (hw:g_ ops env mK=some true) (ht:Nat.blt t N=true) (hS:S w) (hl:cC w C j e v xs) (hg:fE v g) (hi:i'<xs.length) (ha:iW P ty=some false) (hx:bF.agg α=false)
  (hy:ev env y=some (.pointer (some ⟨g,i'*sz α,none⟩))) (h:∀v,aF w (aA C) xs[i'] v->bO P N Q ops S L ((t,v)::env) w):bO P N Q ops S ((i,false)::L) env w:=by
 obtain⟨v,h2,h3⟩:=hl.load (P:=P) (N:=N) hg hi ha hx hy;exact ot hop hw ht hS (h3 w rfl) (h v h2)
theorem tZ {i':Nat} (hop:eT ops i=some (some t,.load ty y,mK)) (hw:g_ ops env mK=some true) (ht:Nat.blt t N=true) (hS:S w) (hl:cC w C j e v xs) (hg:fE v g) (hi:i'<xs.length) (ha:iW P ty=some true) (hs:iy P ty=some (sz α)) (hx:bF.agg α=true)
  (hy:ev env y=some (.pointer (some ⟨g,i'*sz α,none⟩))) (h:∀v,aF w (aA C) xs[i'] v->bO P N Q ops S L ((t,v)::env) w):bO P N Q ops S ((i,false)::L) env w:=by
 obtain⟨v,h2,h3⟩:=hl.Ap (P:=P) (N:=N) hg hi ha hs hx hy;exact ot hop hw ht hS (h3 w rfl) (h v h2)
theorem cC.stay {w':World} {I:List Nat} (h:cC w C j e v xs) (hg:fE v g) (hS:Ext (λb=>C b∈I) w w') (hj:j∉I):w'.heap[g]?=w.heap[g]?:=
 hS.block g (h.own.iz g hg).2 (by rw[h.col g hg];exact hj)
theorem cC.cR {w':World} {I:List Nat} (h:cC w C j e v xs) (hg:fE v g) (hS:Ext (λb=>C b∈I) w w') (hj:j∉I:=by first|decide|(simp<;>omega)):w'.heap[g]?=w.heap[g]?:=h.stay hg hS hj
theorem wH {i':Nat} {I:List Nat} (hop:eT ops i=some (some t,.load ty y,mK)) (hw:g_ ops env mK=some true) (ht:Nat.blt t N=true) (hl:cC w C j e v xs) (hg:fE v g) (hst:∀w',S w'->w'.heap[g]?=w.heap[g]?) (hi:i'<xs.length) (ha:iW P ty=some false) (hx:bF.agg α=false)
  (hy:ev env y=some (.pointer (some ⟨g,i'*sz α,none⟩))) (h:∀v,aF w (aA C) xs[i'] v->bO P N Q ops S L ((t,v)::env) w):bO P N Q ops S ((i,true)::L) env w:=by
 obtain⟨v,h2,h3⟩:=hl.load (P:=P) (N:=N) hg hi ha hx hy;exact fN hop hw ht (λw' hS=>h3 w' (hst w' hS)) (h v h2)
theorem Ct {i':Nat} {I:List Nat} (hop:eT ops i=some (some t,.load ty y,mK)) (hw:g_ ops env mK=some true) (ht:Nat.blt t N=true) (hl:cC w C j e v xs) (hg:fE v g) (hst:∀w',S w'->w'.heap[g]?=w.heap[g]?) (hi:i'<xs.length) (ha:iW P ty=some true) (hs:iy P ty=some (sz α)) (hx:bF.agg α=true)
  (hy:ev env y=some (.pointer (some ⟨g,i'*sz α,none⟩))) (h:∀v,aF w (aA C) xs[i'] v->bO P N Q ops S L ((t,v)::env) w):bO P N Q ops S ((i,true)::L) env w:=by
 obtain⟨v,h2,h3⟩:=hl.Ap (P:=P) (N:=N) hg hi ha hs hx hy;exact fN hop hw ht (λw' hS=>h3 w' (hst w' hS)) (h v h2)
end
section
variable {α:Type} [bF α] {w w1:World} {M:Nat->Prop} {C:Nat->Nat} {P:Program} {N:Nat} {Q:Exit->Act->World->Prop} {env:Env} {ops:Array Oper} {S:World->Prop} {i:Nat} {L:List (Nat×Bool)} {v:Value} {e1:TypeId} {xs:List α} {j:Nat} {kd:IntKind} {n:Int}
theorem eX (e t ty a b:Nat) (hl:aF w1 M xs v) (hz:look env b=some (.int kd n)) (hop:eT ops i=some (some t,.indexAddr ty (.tmp a) (.tmp b),none):=by kernel_rfl) (hy:look env a=some v:=by exact rfl) (hf:nE P ty=some (e,sz α):=by kernel_rfl)
 (h0:0<=n:=by omega) (h1:n<xs.length:=by omega) (ht:Nat.blt t N=true:=by rfl) (h:∀b o,dF w1 M (xs[n.toNat]'(by omega)) b o->bO P N Q ops S L ((t,.pointer (some ⟨b,o,none⟩))::env) w):bO P N Q ops S ((i,true)::L) env w:=iS hop rfl ht hl hy hf hz h0 h1 h
theorem ki (e' t ty a b:Nat) (hl:cC w C j e1 v xs) (hz:look env b=some (.int kd n)) (h1:n<xs.length) (hop:eT ops i=some (some t,.indexAddr ty (.tmp a) (.tmp b),none):=by kernel_rfl) (hy:look env a=some v:=by exact rfl) (hf:nE P ty=some (e',sz α):=by kernel_rfl)
 (h0:0<=n:=by omega) (ht:Nat.blt t N=true:=by rfl) (h:∀g,fE v g->bO P N Q ops S L ((t,.pointer (some ⟨g,n.toNat*sz α,none⟩))::env) w):bO P N Q ops S ((i,true)::L) env w:=sH hop rfl ht hl hy hf hz h0 h1 h
theorem cm (t T a:Nat) {b o:Nat} {cs:List Value} {ty:TypeId} {fL:Nat×Nat} (hc:w.heap[b]?=some (.cells cs.toArray ty fL)) (hy:look env a=some (.pointer (some ⟨b,o,none⟩))) (hv:cs[o]?=some v) (h:bO P N Q ops (λ_=>True) L ((t,v)::env) w)
 (hop:eT ops i=some (some t,.load T (.tmp a),none):=by kernel_rfl) (ha:iW P T=some false:=by kernel_rfl) (ht:Nat.blt t N=true:=by rfl):bO P N Q ops (λ_=>True) ((i,false)::L) env w:=ot hop rfl ht trivial (oZ hc ha hv hy) h
theorem zE (t a T:Nat) (hv:∀w',ew P N env (.call {callee:=.builtin .len,args:=#[.tmp a],argTypes:=#[T]}) w' v) (h:bO P N Q ops S L ((t,v)::env) w)
 (hop:eT ops i=some (some t,.call {callee:=.builtin .len,args:=#[.tmp a],argTypes:=#[T]},none):=by kernel_rfl) (ht:Nat.blt t N=true:=by rfl):bO P N Q ops S ((i,true)::L) env w:=fN hop rfl ht (λw' _=>hv w') h
theorem hG (t a T g:Nat) (b:Bool) (hv:∀w',ew P N env (.call {callee:=.builtin .len,args:=#[.tmp a],argTypes:=#[T]}) w' v) (h:bO P N Q ops S L ((t,v)::env) w)
 (hop:eT ops i=some (some t,.call {callee:=.builtin .len,args:=#[.tmp a],argTypes:=#[T]},some (g,b)):=by kernel_rfl) (hw:g_ ops env (some (g,b))=some true:=by rfl) (ht:Nat.blt t N=true:=by rfl):bO P N Q ops S ((i,true)::L) env w:=fN hop hw ht (λw' _=>hv w') h
theorem bI (t T a n:Nat) {b o:Nat} {cs:List Value} {ty:TypeId} {fL:Nat×Nat} (vs:List Value) (hc:w.heap[b]?=some (.cells cs.toArray ty fL)) (h:bO P N Q ops (λ_=>True) L ((t,.agg vs.toArray)::env) w)
 (hop:eT ops i=some (some t,.load T (.tmp a),none):=by kernel_rfl) (ha:iW P T=some true:=by kernel_rfl) (hs:iy P T=some n:=by kernel_rfl) (hy:look env a=some (.pointer (some ⟨b,o,none⟩)):=by exact rfl) (hv: (cs.drop o).take n=vs:=by exact rfl) (hl:vs.length=n:=by exact rfl) (ht:Nat.blt t N=true:=by rfl):
 bO P N Q ops (λ_=>True) ((i,false)::L) env w:=ot hop rfl ht trivial (jf hc ha hs hv hl hy) h
theorem jg (t T a g:Nat) (bb:Bool) (n:Nat) {b o:Nat} {cs:List Value} {ty:TypeId} {fL:Nat×Nat} (vs:List Value) (hc:w.heap[b]?=some (.cells cs.toArray ty fL)) (h:bO P N Q ops (λ_=>True) L ((t,.agg vs.toArray)::env) w)
 (hop:eT ops i=some (some t,.load T (.tmp a),some (g,bb)):=by kernel_rfl) (hw:g_ ops env (some (g,bb))=some true:=by rfl) (ha:iW P T=some true:=by kernel_rfl) (hs:iy P T=some n:=by kernel_rfl) (hy:look env a=some (.pointer (some ⟨b,o,none⟩)):=by exact rfl) (hv: (cs.drop o).take n=vs:=by exact rfl) (hl:vs.length=n:=by exact rfl) (ht:Nat.blt t N=true:=by rfl):
 bO P N Q ops (λ_=>True) ((i,false)::L) env w:=ot hop hw ht trivial (jf hc ha hs hv hl hy) h
theorem cv (t T a g:Nat) (bb:Bool) {b o:Nat} {cs:List Value} {ty:TypeId} {fL:Nat×Nat} (hc:w.heap[b]?=some (.cells cs.toArray ty fL)) (h:bO P N Q ops (λ_=>True) L ((t,v)::env) w)
 (hop:eT ops i=some (some t,.load T (.tmp a),some (g,bb)):=by kernel_rfl) (hw:g_ ops env (some (g,bb))=some true:=by rfl) (ha:iW P T=some false:=by kernel_rfl) (hy:look env a=some (.pointer (some ⟨b,o,none⟩)):=by exact rfl) (hv:cs[o]?=some v:=by exact rfl) (ht:Nat.blt t N=true:=by rfl):
 bO P N Q ops (λ_=>True) ((i,false)::L) env w:=ot hop hw ht trivial (oZ hc ha hv hy) h
theorem gX (t T a n:Nat) {b o:Nat} {cs:List Value} {ty:TypeId} {fL:Nat×Nat} (vs:List Value) (hc:∀{w':World},S w'->w'.heap[b]?=some (.cells cs.toArray ty fL)) (h:bO P N Q ops S L ((t,.agg vs.toArray)::env) w)
 (hop:eT ops i=some (some t,.load T (.tmp a),none):=by kernel_rfl) (ha:iW P T=some true:=by kernel_rfl) (hs:iy P T=some n:=by kernel_rfl) (hy:look env a=some (.pointer (some ⟨b,o,none⟩)):=by exact rfl) (hv: (cs.drop o).take n=vs:=by exact rfl) (hl:vs.length=n:=by exact rfl) (ht:Nat.blt t N=true:=by rfl):
 bO P N Q ops S ((i,true)::L) env w:=fN hop rfl ht (λ_ hS=>jf (hc hS) ha hs hv hl hy) h
theorem eY (t T a:Nat) {b o:Nat} {cs:List Value} {ty:TypeId} {fL:Nat×Nat} (hc:∀{w':World},S w'->w'.heap[b]?=some (.cells cs.toArray ty fL)) (h:bO P N Q ops S L ((t,v)::env) w)
 (hop:eT ops i=some (some t,.load T (.tmp a),none):=by kernel_rfl) (ha:iW P T=some false:=by kernel_rfl) (hy:look env a=some (.pointer (some ⟨b,o,none⟩)):=by exact rfl) (hv:cs[o]?=some v:=by exact rfl) (ht:Nat.blt t N=true:=by rfl):
 bO P N Q ops S ((i,true)::L) env w:=fN hop rfl ht (λ_ hS=>oZ (hc hS) ha hv hy) h
end
theorem fU {P:Program} {N:Nat} {env:Env} {op:Op} {w:World} {p:Prop} [Decidable p] (h:ew P N env op w (.bool (decide p))) (hp:¬p):ew P N env op w (.bool false):=by rwa [decide_eq_false hp] at h
theorem kj {P:Program} {N:Nat} {env:Env} {op:Op} {w:World} {p:Prop} [Decidable p] (h:ew P N env op w (.bool (decide p))) (hp:p):ew P N env op w (.bool true):=by rwa [decide_eq_true hp] at h
theorem z9 (w:World) (C:Nat->Nat):aH [2,3,4,5,6,7,8,9] w (bX C) w (bX C):=aH.refl _ _ _
theorem iq {vs:List Value} (h:vs.all (·.oneCell')=true):∀u∈vs,u.oneCell'=true:=List.all_eq_true.1 h
theorem ff:∀u∈([]:List Value),u.oneCell'=true:=λ_ h=>nomatch h
theorem fh {v:Value} {vs:List Value} (h:v.oneCell'=true) (t:∀u∈vs,u.oneCell'=true):∀u∈v::vs,u.oneCell'=true:=λ_ hu=>(List.mem_cons.1 hu).elim (λe=>e▸h) (t _)
theorem b_ (n:Nat): (n:Int).toNat=n:=rfl
theorem cC.u {α:Type} [bF α] {w w':World} {C bL:Nat->Nat} {I:List Nat} {j:Nat} {e:TypeId} {v:Value} {ys:List α} (h:cC w C j e v ys) (hs:aH I w C w' bL) (h0:0∉I:=by first|decide|(simp<;>omega)) (hj:j∉I:=by first|decide|(simp<;>omega)):cC w' bL j e v ys:=h.st hs h0 hj
theorem aF.c1 {α:Type} [bF α] {w:World} {C:Nat->Nat} {x:α} {v:Value} (h:aF w (aA C) x v):aF w (aA (bX C)) x v:=by rw[fJ];exact h
section
variable {α:Type} [bF α] {w w':World} {C bL:Nat->Nat} {P:Program} {N:Nat} {env:Env} {x y z q:Operand} {t ty e:TypeId} {v v2 u:Value} {xs:List α} {j b g n k m e':Nat}
theorem Cu {kd:IntKind} {i:Int} {y:Nat} {code:BoundsCode} {w:World} (h0:0<=i) (h1:i<=y): (Instr.sliceBound (.int kd i) y code).run P w=.ok i.toNat w:=by
 simp[Instr.sliceBound,asIntOf,h0,h1]
theorem aF.from_ {M:Nat->Prop} (h:aF w M xs v) (hy:ev env y=some v) {kd:IntKind} {i:Int} (hf:nE P t=some (e',sz α)) (hz:ev env z=some (.int kd i)) (h0:0<=i) (h1:i<=xs.length):
  ∃v2,aF w M (xs.drop i.toNat) v2/\∀w',ew P N env (.slice t y (some z) none none) w' v2:=by
 obtain⟨a,c,rfl,hc,hm,hs⟩:=mL.1 h;have hval:∀w',ew P N env (.slice t y (some z) none none) w' (.slice (if c=i.toNat then a else a.map (·.add (i.toNat*sz α))) (xs.length-i.toNat) (c-i.toNat)):=λw'=>mk' λρ hρ gi ho=>by
  unfold nE at hf;split at hf
  ·rename_i e1 hu;split at hf
   ·rename_i n' hn;simp only[Option.some.injEq,Prod.mk.injEq] at hf;obtain⟨rfl,rfl⟩:=hf;have hb:=Cu (P:=P) (kd:=kd) (y:=xs.length) (code:=.sliceB) (w:=w') h0 (by omega);unfold execOp;rw[ho];simp[hρ _ _ hy,hρ _ _ hz,Instr.sliceAt,Instr.slice,Instr.sliceBounds,run_underlying hu,oq hn,hb]
   ·cases hf
  ·cases hf
 refine⟨_,?_,hval⟩;rw[<-List.length_drop];refine mL.2 ⟨_,_,rfl,by rw[List.length_drop];omega,by rw[List.length_drop];omega,?_⟩;by_cases hd:xs.drop i.toNat=[]
 ·exact .inl hd
 ·have hlt:i.toNat<xs.length:=by
   rcases Nat.lt_or_ge i.toNat xs.length with h|h
   ·exact h
   ·exact absurd (List.drop_eq_nil_of_le h) hd
  rcases hs with rfl|⟨b,o,rfl,hs⟩
  ·simp at hlt
  ·refine .inr ⟨b,o+i.toNat*sz α,?_,?_⟩
   ·rw[if_neg (by omega)];simp[oW]
   ·obtain⟨hb,cs,ty,fL,rJ,hl,hr⟩:=hs;refine⟨hb,cs,ty,fL,rJ,?_,λk hk=>?_⟩
    ·rw[List.length_drop];have:i.toNat*sz α+(xs.length-i.toNat)*sz α=xs.length*sz α:=by rw[<-Nat.add_mul];congr 1;omega
     omega
    ·rw[List.length_drop] at hk;have:=hr (i.toNat+k) (by omega);rw[List.getElem_drop,show o+i.toNat*sz α+k*sz α=o+(i.toNat+k)*sz α from by rw[Nat.add_mul];omega];exact this
theorem aF.OY {M:Nat->Prop} (h:aF w M xs v) (hy:ev env y=some v) {kd:IntKind} {i:Int} (hf:nE P t=some (e',sz α)) (hz:ev env z=some (.int kd i)) (h0:0<=i) (h1:i<=xs.length):
  ∃v2,aF w M (xs.take i.toNat) v2/\∀w',ew P N env (.slice t y none (some z) none) w' v2:=by
 obtain⟨a,c,rfl,hc,hm,hs⟩:=mL.1 h;have hl: (xs.take i.toNat).length=i.toNat:=by rw[List.length_take];omega
 have hval:∀w',ew P N env (.slice t y none (some z) none) w' (.slice a (xs.take i.toNat).length c):=λw'=>mk' λρ hρ gi ho=>by
  unfold nE at hf;split at hf
  ·rename_i e1 hu;split at hf
   ·rename_i n' hn;simp only[Option.some.injEq,Prod.mk.injEq] at hf;obtain⟨rfl,rfl⟩:=hf;have hb:=Cu (P:=P) (kd:=kd) (y:=c) (code:=.sliceAcap) (w:=w') h0 (by omega);have jP: (if c=0 then a else a.map (·.add 0))=a:=by
     cases a with
     |none=>simp
     |some a=>simp[Addr.add]
    unfold execOp;rw[ho,hl];simp[hρ _ _ hy,hρ _ _ hz,Instr.sliceAt,Instr.slice,Instr.sliceBounds,run_underlying hu,oq hn,hb,jP]
   ·cases hf
  ·cases hf
 refine⟨_,?_,hval⟩;refine mL.2 ⟨_,_,rfl,by omega,by omega,?_⟩;rcases hs with rfl|⟨b,o,rfl,hb,cs,ty,fL,rJ,hl',hr⟩
 ·left;simp
 ·refine .inr ⟨b,o,rfl,hb,cs,ty,fL,rJ,?_,λk hk=>?_⟩
  ·rw[hl];have:=Nat.mul_le_mul_right (sz α) (show i.toNat<=xs.length by omega);omega
  ·rw[List.getElem_take];exact hr k (by omega)
end
section
variable {α:Type} [bF α] {w:World} {C:Nat->Nat} {P:Program} {f:FuncId} {N:Nat} {k:List Item} {R:Value->World->Prop} {Q:Exit->Act->World->Prop} {env:Env} {ops:Array Oper} {S:World->Prop} {i t:Nat} {L:List (Nat×Bool)} {v v2:Value} {y z:Operand} {mK:Option (Nat×Bool)} {ty e e':TypeId} {xs:List α} {j g:Nat} {kd:IntKind} {n:Int}
theorem wI {M:Nat->Prop} (hop:eT ops i=some (some t,.slice ty y (some z) none none,mK)) (hw:g_ ops env mK=some true) (ht:Nat.blt t N=true) (hl:aF w M xs v) (hy:ev env y=some v)
  (hf:nE P ty=some (e',sz α)) (hz:ev env z=some (.int kd n)) (h0:0<=n) (h1:n<=xs.length)
  (h:∀v2,aF w M (xs.drop n.toNat) v2->bO P N Q ops S L ((t,v2)::env) w):bO P N Q ops S ((i,true)::L) env w:=by
 obtain⟨v2,h2,h3⟩:=hl.from_ (P:=P) (N:=N) hy hf hz h0 h1;exact fN hop hw ht (λw' _=>h3 w') (h v2 h2)
theorem yH {M:Nat->Prop} (hop:eT ops i=some (some t,.slice ty y none (some z) none,mK)) (hw:g_ ops env mK=some true) (ht:Nat.blt t N=true) (hl:aF w M xs v) (hy:ev env y=some v)
  (hf:nE P ty=some (e',sz α)) (hz:ev env z=some (.int kd n)) (h0:0<=n) (h1:n<=xs.length)
  (h:∀v2,aF w M (xs.take n.toNat) v2->bO P N Q ops S L ((t,v2)::env) w):bO P N Q ops S ((i,true)::L) env w:=by
 obtain⟨v2,h2,h3⟩:=hl.OY (P:=P) (N:=N) hy hf hz h0 h1;exact fN hop hw ht (λw' _=>h3 w') (h v2 h2)
end
section
variable {P:Program} {f:FuncId} {N:Nat} {k:List Item} {env:Env} {w:World} {R:Value->World->Prop} {Q:Exit->Act->World->Prop}
theorem AE {b tg:Nat} {cs:List Value} {fL:Nat×Nat} {ty n:Nat} (hc:w.heap[b]?=some (.cells cs.toArray tg fL)) (ha:iW P ty=some true) (hs:iy P ty=some n) (hl:cs.length=n):
  (loadVar ty ⟨b,0,none⟩).run P w=.ok (.agg cs.toArray) w:=by
 have hcells: (loadCells ⟨b,0,none⟩ n).run P w=.ok cs.toArray w:=by
  have:=run_loadCells_list (P:=P) w ⟨b,0,none⟩ cs (λj u hu=>by
   rw[oW,cell_of_row w b (0+j) cs.toArray tg fL hc];rw[<-hu];simp)
  rwa [hl] at this
 simp only[loadCells] at hcells;simp[loadVar,tV ha,oq hs,loadCells,hcells]
theorem tj {c:Code} {fn:Func} {a ty b:Nat} {tg:Nat} {cs:List Value} {fL:Nat×Nat} {n:Nat} (hc:c=.ret) (hf:P.funcs[f]?=some fn) (hres:fn.results=#[.cell a ty]) (hv:look env a=some (.pointer (some ⟨b,0,none⟩)))
  (hb:w.heap[b]?=some (.cells cs.toArray tg fL)) (ha:iW P ty=some true) (hs:iy P ty=some n) (hl:cs.length=n)
  (hR:R (.agg cs.toArray) w):Run P f N (.code c::k) env w R:=λa' jP=>by
 subst hc;refine wA hf jP.defers ?_ hR;have h1:=jP.slot a _ hv;have h2:=AE hb ha hs hl;simp only[results,hres];simp[h1,Array.getD_eq_getD_getElem?,asAddr,h2]
theorem pe {c:Code} {fn:Func} {a ty b u:Nat} {x:Value} {tg:Nat} {cs:List Value} {fL:Nat×Nat} {n:Nat} (hc:c=.ret) (hf:P.funcs[f]?=some fn) (hres:fn.results=#[.cell a ty,.tmp u]) (hv:look env a=some (.pointer (some ⟨b,0,none⟩)))
  (hx:look env u=some x) (hb:w.heap[b]?=some (.cells cs.toArray tg fL)) (ha:iW P ty=some true) (hs:iy P ty=some n) (hl:cs.length=n)
  (hR:R (.tuple #[.agg cs.toArray,x]) w):Run P f N (.code c::k) env w R:=λa' jP=>by
 subst hc;refine wA hf jP.defers ?_ hR;have h1:=jP.slot a _ hv;have h3:=jP.slot u _ hx;have h2:=AE hb ha hs hl;simp only[results,hres];simp[h1,h3,Array.getD_eq_getD_getElem?,asAddr,h2]
end
section
variable {P:Program} {N:Nat} {env:Env} {w:World} {x y:Operand} {t u:TypeId} {m n r:Int}
theorem OZ (hx:ev env x=some (.int .i64 m)) (hy:ev env y=some (.int .i64 n)) (ht:P.underlying t=some (.int .i64)):
  ew P N env (.call {callee:=.builtin .max,args:=#[x,y],argTypes:=#[t,t]}) w (.int .i64 (max m n)):=mk' λρ hρ o ho=>by
 unfold execOp;rw[ho];simp[hρ _ _ hx,hρ _ _ hy,go_sem,resolve,invoke,builtin,Builtin.max_,Builtin.max2];by_cases h:m<n
 ·rw[if_pos h];exact(Int.max_eq_right (by omega)).symm
 ·rw[if_neg h];exact(Int.max_eq_left (by omega)).symm
end
section
variable {P:Program} {f:FuncId} {N:Nat} {k:List Item} {env:Env} {w:World} {R:Value->World->Prop} {Q:Exit->Act->World->Prop}
theorem AF {fn:Func} (hf:P.funcs[f]?=some fn) (hres:fn.results=#[]) (hR:R (.tuple #[]) w):Run P f N [] env w R:=λa ha cs=>
 ⟨.tuple #[],w,_,hR,.one step_end,rfl,rfl,ha.defers,rfl,fn,hf,by simp[results,hres,Sem.run,pure]⟩
theorem O1 {fn:Fn} {xs ys:Array Operand} {us vs:List Value} (hx:oV env xs.toList=some us) (hy:oV env ys.toList=some vs):
  ew P N env (.makeFunc fn xs ys) w (.func fn us.toArray vs.toArray):=λa ha o ho=>by
 have h1:xs.map a.eval=us.toArray:=by rw[<-ha.oV hx,<-List.map_toArray]
 have h2:ys.map a.eval=vs.toArray:=by rw[<-ha.oV hy,<-List.map_toArray]
 unfold execOp;rw[ho];simp only[h1,h2];rfl
end
def AG (P:Program) (t:TypeId) {jA:Type} [DecidableEq jA] (kv:jA->Value):Prop:=
 ∀d a b w,(Op.equalIn (d+8) t (kv a) (kv b)).run P w=.ok (decide (a=b)) w
section
variable {jA β:Type} [DecidableEq jA]
end
section
variable {jA β:Type} [DecidableEq jA] {kv:jA->Value} {eV:β->Value} {m:List (jA×β)}
variable {w w':World} {I:List Nat} {C bL:Nat->Nat} {j b n:Nat} {v:Value}
variable {P:Program} {N:Nat} {env:Env} {x y z q:Operand} {t kt et:TypeId}
end
section
variable {jA β:Type} [DecidableEq jA] {kv:jA->Value} {eV:β->Value} {m:List (jA×β)} {es:Array MapEntry} {clock:Nat}
variable {w w':World} {I:List Nat} {C bL:Nat->Nat} {M:Nat->Prop} {j b n:Nat} {v:Value} {P:Program} {N:Nat} {env:Env} {x y z q:Operand} {t kt et:TypeId}
variable {z0:β}
end
section
variable {jA β:Type} [DecidableEq jA] {kv:jA->Value} {eV:β->Value} {m:List (jA×β)} {es:Array MapEntry} {clock:Nat}
variable {w w':World} {I:List Nat} {C bL:Nat->Nat} {M:Nat->Prop} {j b n:Nat} {v:Value} {P:Program} {N:Nat} {env:Env} {x y z q:Operand} {t kt et:TypeId} {z0:β}
variable {it en:Nat} {left:List (jA×β)} {cur:Option (jA×β)}
end
abbrev iC:dh->Value:=λc=> .agg #[.int .i64 c.a,.int .i64 c.b]
def nu:List Int->Int
 |[]=>0
 |a::l=>if a=0 then nu l else a
def gn (x y:Int):Int:=if x<y then-1 else if y<x then 1 else 0
def nH (x y:dh):Int:=nu [gn x.a y.a,gn x.b y.b]
theorem O2 {l:List Int} {i:Nat} (h:i<l.length):nu (l.drop i)=if l[i]=0 then nu (l.drop (i+1)) else l[i]:=by
 rw[List.drop_eq_getElem_cons h];rfl
section
variable {P:Program} {t ti:TypeId} {n0 n1 qK qL qM qN:String} {e0 e1:Bool} {y0 y1:Nat}
theorem IA (hi:P.underlying ti=some (.int .i64)) (a b:Int) (i:Nat) (v:Value) (w:World) (hv: (#[Value.int .i64 a,Value.int .i64 b])[i]?=some v): (part ti #[.int .i64 a,.int .i64 b] i).run P w=.ok v w:=
 run_part_plain w (by simp[Program.plainKey,hi]) hv
theorem Cv (h:P.underlying t=some (.struct #[⟨n0,ti,0,e0,qK,qM,y0⟩,⟨n1,ti,1,e1,qL,qN,y1⟩])) (h0:n0≠"_") (h1:n1≠"_") (hS:P.stoodInHeld t=false)
  (hi:P.underlying ti=some (.int .i64)):AG P t iC:=λd a b w=>by
 have hpt:=λa b i v w=>IA (P:=P) hi a b i v w;have hf:P.fieldsOf t=#[⟨n0,ti,0,e0,qK,qM,y0⟩,⟨n1,ti,1,e1,qL,qN,y1⟩]:=by simp[Program.fieldsOf,h]
 have he:=λ(x y:Int)=>run_equalIn_int (P:=P) w (d+6) ti .i64 .i64 x y hi;rw[show d+8=(d+7)+1 from rfl,run_equalIn_struct w (d+7) t _ _ (by rw[hf];exact h) hS,hf];have rK:∀c:dh,(part ti #[.int .i64 c.a,.int .i64 c.b] 0).run P w=.ok (.int .i64 c.a) w:=λc=>hpt _ _ 0 _ w rfl;have p1:∀c:dh,(part ti #[.int .i64 c.a,.int .i64 c.b] 1).run P w=.ok (.int .i64 c.b) w:=λc=>hpt _ _ 1 _ w rfl;have hd: (decide (a=b))=((a.a==b.a)&&(a.b==b.b)):=by
  cases a;cases b;simp only[dh.mk.injEq,Bool.decide_and];rfl
 simp only[Op.eqFields,Sem.run_bind,Sem.run_ite,h0,h1,ne_eq,not_false_eq_true,if_true,rK,p1,Result.andThen_ok,he,hd];cases (a.a==b.a)<;>cases (a.b==b.b)<;>simp
theorem IB (h:P.underlying t=some (.struct #[⟨n0,ti,0,e0,qK,qM,y0⟩,⟨n1,ti,1,e1,qL,qN,y1⟩])) (h0:n0≠"_") (h1:n1≠"_")
  (hi:P.underlying ti=some (.int .i64)) (d:Nat) (a b:dh) (w:World): (Op.eqGuardIn (d+2) t (iC a) (iC b)).run P w=.ok false w:=by
 have hpt:=λa b i v w=>IA (P:=P) hi a b i v w;have rK:∀c:dh,(part ti #[.int .i64 c.a,.int .i64 c.b] 0).run P w=.ok (.int .i64 c.a) w:=λc=>hpt _ _ 0 _ w rfl;have p1:∀c:dh,(part ti #[.int .i64 c.a,.int .i64 c.b] 1).run P w=.ok (.int .i64 c.b) w:=λc=>hpt _ _ 1 _ w rfl;have q:∀(x y:Int),(Op.eqGuardIn (d+1) ti (.int .i64 x) (.int .i64 y)).run P w=.ok false w:=λx y=>by unfold Op.eqGuardIn;simp[run_underlying hi]
 rw[show d+2=(d+1)+1 from rfl,Op.eqGuardIn];simp only[Sem.run_bind,run_underlying h,Result.andThen_ok];rw[<-Array.forIn_toList];simp only[List.forIn_cons,List.forIn_nil,Sem.run_bind,Sem.run_ite,h0,h1,ne_eq,not_false_eq_true,if_true,rK,p1,q,Result.andThen_ok,Sem.run_pure,Bool.false_eq_true,if_false]
variable {N:Nat} {env:Env} {x y:Operand} {u:TypeId} {a b:dh} {w:World}
theorem wJ (h:P.underlying t=some (.struct #[⟨n0,ti,0,e0,qK,qM,y0⟩,⟨n1,ti,1,e1,qL,qN,y1⟩])) (h0:n0≠"_") (h1:n1≠"_") (hS:P.stoodInHeld t=false)
  (hi:P.underlying ti=some (.int .i64)) (hx:ev env x=some (iC a)) (hy:ev env y=some (iC b)):ew P N env (.binOp .eql t x y u) w (.bool (decide (a=b))):=mk' λρ hρ o ho=>by
 have h5:=Cv h h0 h1 hS hi (Op.maxDepth-8) a b w;have h6:=IB h h0 h1 hi (Op.maxDepth-2) a b w;have h7: (Op.equal t (iC a) (iC b)).run P w=.ok (decide (a=b)) w:=h5;have h8: (Op.eqGuardIn Op.maxDepth t (iC a) (iC b)).run P w=.ok false w:=h6;have iI: (eqGuard .eql t x y (iC a) (iC b)).run P w=.ok () w:=by
  unfold eqGuard;simp only[Sem.run_bind,Sem.run_pure,Sem.run_ite,run_program,Result.andThen_ok,h8,Bool.not_true,Bool.false_eq_true,if_false];cases P.eqGuardType P.depth t<;>simp[h8]
 have ou: (binOp .eql t (iC a) (iC b)).run P w=.ok (.bool (decide (a=b))) w:=by
  show(Op.equal t (iC a) (iC b)>>=λz=>pure (Value.bool z)).run P w=_;rw[Sem.run_bind,h7];rfl
 unfold execOp;rw[ho];simp only[hρ _ _ hx,hρ _ _ hy];simp[Sem.run_bind,iI,ou]
theorem IC (h:P.underlying t=some (.struct #[⟨n0,ti,0,e0,qK,qM,y0⟩,⟨n1,ti,1,e1,qL,qN,y1⟩])) (h0:n0≠"_") (h1:n1≠"_") (hS:P.stoodInHeld t=false)
  (hi:P.underlying ti=some (.int .i64)) (hx:ev env x=some (iC a)) (hy:ev env y=some (iC b)):ew P N env (.binOp .neq t x y u) w (.bool (decide (a≠b))):=mk' λρ hρ o ho=>by
 have h5:=Cv h h0 h1 hS hi (Op.maxDepth-8) a b w;have h6:=IB h h0 h1 hi (Op.maxDepth-2) a b w;have h7: (Op.equal t (iC a) (iC b)).run P w=.ok (decide (a=b)) w:=h5;have h8: (Op.eqGuardIn Op.maxDepth t (iC a) (iC b)).run P w=.ok false w:=h6;have iI: (eqGuard .neq t x y (iC a) (iC b)).run P w=.ok () w:=by
  unfold eqGuard;simp only[Sem.run_bind,Sem.run_pure,Sem.run_ite,run_program,Result.andThen_ok,h8,Bool.not_true,Bool.false_eq_true,if_false];cases P.eqGuardType P.depth t<;>simp[h8]
 have ou: (binOp .neq t (iC a) (iC b)).run P w=.ok (.bool (decide (a≠b))) w:=by
  show(Op.equal t (iC a) (iC b)>>=λz=>pure (Value.bool (!z))).run P w=_;rw[Sem.run_bind,h7];simp
 unfold execOp;rw[ho];simp only[hρ _ _ hx,hρ _ _ hy];simp[Sem.run_bind,iI,ou]
end
theorem O4 (x y:dh):nH x y=if x.a<y.a then-1 else if y.a<x.a then 1 else if x.b<y.b then-1 else if y.b<x.b then 1 else 0:=by
 unfold nH nu nu nu gn;by_cases h1:x.a<y.a<;>by_cases h2:y.a<x.a<;>by_cases h3:x.b<y.b<;>by_cases h4:y.b<x.b<;>simp[h1,h2,h3,h4]
theorem IE {γ:Type} {le:γ->γ->Bool} (ha:∀x y,le x y=true->le y x=true->x=y):∀{l l':List γ},l.Perm l'->l.Pairwise (λx y=>le x y=true)->l'.Pairwise (λx y=>le x y=true)->l=l'
 |[],l',hp,_,_=>by simpa using hp.symm.eq_nil.symm
 |a::l,[],hp,_,_=>by simpa using hp.eq_nil
 |a::l,b::l',hp,h1,h2=>by
  have hab:a=b:=by
   by_cases e:a=b
   ·exact e
   ·have hb:b∈a::l:=hp.symm.subset (by simp);have jP:a∈b::l':=hp.subset (by simp);rcases List.mem_cons.1 hb with hb|hb
    ·exact hb.symm
    ·rcases List.mem_cons.1 jP with jP|jP
     ·exact jP
     ·exact ha _ _ ((List.pairwise_cons.1 h1).1 b hb) ((List.pairwise_cons.1 h2).1 a jP)
  subst hab;rw[IE ha hp.cons_inv (List.pairwise_cons.1 h1).2 (List.pairwise_cons.1 h2).2]
section
variable {α:Type} [DecidableEq α]
end
instance:Inhabited dh:=⟨⟨0,0⟩⟩
structure AH where
 A:dh
 B:dh
 w:Int
 deriving DecidableEq
instance:bF AH:=bF.via (λx:AH=>(x.A,(x.B,x.w)))
instance:Inhabited AH:=⟨⟨⟨0,0⟩,⟨0,0⟩,0⟩⟩
abbrev dU (x:dh):List Value:=[.int .i64 x.a,.int .i64 x.b]
section
variable {w:World} {M:Nat->Prop} {b o:Nat} {v:Value}
theorem qO {h:Array Obj} {x:dh} {vs:List Value}:rep h M x vs↔vs=dU x:=
 ⟨λhr=>by
   obtain⟨us,ws,rfl,h1,h2⟩:=hr;rw[show us=[.int .i64 x.a] from h1,show ws=[.int .i64 x.b] from h2];rfl,
  λhr=>by subst hr;exact⟨[_],[_],rfl,rfl,rfl⟩⟩
end
structure IF where
 v:Value
instance:Inhabited IF:=⟨⟨.slice none 0 0⟩⟩
instance:bF IF where
 sz:=1
 agg:=false
 flat _:=rfl
 rep _ _ x vs:=vs=[x.v]/\x.v.oneCell'=true
 len h:=by obtain⟨rfl,_⟩:=h;rfl
 one h:=by obtain⟨rfl,h1⟩:=h;intro v hv;simp at hv;subst hv;exact h1
 keep h _:=h
 sub h _:=h
section
variable {w:World} {M:Nat->Prop} {v:Value} {β:Type} [bF β]
end
def qP (x y:dh):Prop:=x.a<y.a\/x.a=y.a/\x.b<y.b
instance (x y:dh):Decidable (qP x y):=by unfold qP;infer_instance
theorem IG {x y:dh} (h1:x.a=y.a) (h2:x.b=y.b):x=y:=by cases x;cases y;simp_all
def II (x y:AH):Prop:=qP x.A y.A\/x.A=y.A/\qP x.B y.B
instance (x y:AH):Decidable (II x y):=by unfold II;infer_instance
def tq (a b c d:dh):Int:=nu [nH a c,nH b d]
def iU (r:dh):Bool:=decide (0<=r.a)&&decide (r.a<4)&&decide (1<=r.b)&&decide (r.b<=1048576)
def iO (a b:dh):Bool:=iU a&&iU b&&decide (a.a<b.a)
section
variable {α β:Type} [DecidableEq β]
end
section
variable {jA β:Type} {kv:jA->Value} {eV:β->Value} {m:List (jA×β)} {w w' w₀:World} {I:List Nat} {C bL pQ:Nat->Nat} {i j b:Nat}
end
section
variable {α β:Type} [DecidableEq β] {f:α->β} {xs:List α} {r:α} {i0:Nat}
end
end Go.K
namespace Go.K
theorem IJ:∀(m n:Nat) (f:Nat->Nat),(∀i,i<m->f i<n)->(∀i i',i<m->i'<m->f i=f i'->i=i')->m<=n
 |0,_,_,_,_=>Nat.zero_le _
 |m+1,0,f,h,_=>by have:=h 0 (Nat.succ_pos _);omega
 |m+1,n+1,f,h,hi=>by
  have:=IJ m n (λi=>if f i=n then f m else f i) (λi hm=>by
   have h1:=h i (by omega);have h2:=h m (by omega);split
   ·rename_i e;have:f m≠n:=λe2=>by have:=hi i m (by omega) (by omega) (e.trans e2.symm);omega
    omega
   ·omega) (λi i' hm hm' e=>by
   split at e<;>split at e
   ·rename_i e1 e2;exact hi i i' (by omega) (by omega) (e1.trans e2.symm)
   ·have:=hi m i' (by omega) (by omega) e;omega
   ·have:=hi i m (by omega) (by omega) e;omega
   ·exact hi i i' (by omega) (by omega) e)
  omega
section
variable {k:Nat} {c:Nat->Nat->Int} {W O5:Int} {n at_ T:Nat} {u v u2 v2:Nat->Int} {row way O6:Nat->Nat} {least O7:Nat->Int} {cl:Nat->Bool} {rk:Nat->Nat}
end
section
variable {N M:Nat} {wt:Nat->Nat->Int} {U V:Nat->Int} {f:Nat->Nat}
end
end Go.K
namespace Go.K
open bF
theorem iJ {α:Type} {l:List α} {i:Nat} {d:α} (h:i<l.length):l.getD i d=l[i]:=by rw[List.getD_eq_getElem?_getD,List.getElem?_eq_getElem h];rfl
section
variable {P:Program} {N:Nat} {env:Env} {w:World} {x y:Operand} {t u:TypeId} {m n:Int}
end
section
variable {c:Nat->Nat->Int} {u v:Nat->Int} {cl:Nat->Bool} {least WH O7:Nat->Int} {way WI O6:Nat->Nat} {i a k j:Nat} {l1:Nat->Int} {O5 delta:Int} {next:Nat}
variable {row:Nat->Nat} {u' v' u2 v2 l l' l2:Nat->Int}
end
structure Edge where
 a:Int
 b:Int
 w:Int
 deriving DecidableEq
instance:bF Edge:=bF.via (λx:Edge=>(x.a,(x.b,x.w)))
instance:Inhabited Edge:=⟨⟨0,0,0⟩⟩
section
variable {w:World} {M:Nat->Prop} {b o:Nat} {v:Value}
end
section
variable {P:Program} {ops:Array Oper} {Q:Exit->Act->World->Prop}
end
theorem wK {P:Program} {f:FuncId} {N:Nat} {k k':List Item} {env:Env} {w:World} {R:Value->World->Prop} {ι:Type} (I:ι->World->Prop) (e:ι->Env)
 (hr:∀x w,I x w->Run P f N k (e x) w R) (hm: (∀x w,I x w->Run P f N k (e x) w R)->Run P f N k' env w R):Run P f N k' env w R:=hm hr
structure EL where
 n:Int
 m:Int
 U:List Int
 V:List Int
 tot:Int
 edge:List (List Bool)
instance:bF EL:=bF.via (λx:EL=>(x.n,(x.m,(x.U,(x.V,(x.tot,x.edge))))))
section
variable {w w' w₀:World} {M:Nat->Prop} {b o:Nat} {v:Value} {x:EL}
end
section
variable {n m:Nat} {wt:Nat->Nat->Int} {W:Int}
end
section
variable {P:Program} {N:Nat} {env:Env} {y z:Operand} {t e:TypeId} {b o o' n len:Nat} {k:IntKind} {i:Int} {w:World}
theorem O8 (hu:P.underlying t=some (.array len e)) (hn:iy P e=some n) (hy:ev env y=some (.pointer (some ⟨b,o,none⟩))) (hz:ev env z=some (.int k i))
  (h0:0<=i) (h1:i<len) (ho':o'=o+i.toNat*n):ew P N env (.indexAddr t y z) w (.pointer (some ⟨b,o',none⟩)):=mk' λρ hρ gi ho=>by
 subst ho';unfold execOp;rw[ho];simp only[hρ _ _ hy,hρ _ _ hz];simp[go_sem,Instr.indexAt,run_underlying hu,asIntOf,oq hn,h0,h1,oW,Instr.sureAddr]
end
section
variable {α:Type} {ys zs us:List α} {σ u6:Nat->Nat} {a b i j n:Nat}
structure nZ (ys:List α) (σ:Nat->Nat) (zs:List α):Prop where
 len:zs.length=ys.length
 at_:∀i,i<ys.length->σ i<ys.length/\zs[i]?=ys[σ i]?
theorem nZ.id (ys:List α):nZ ys (λi=>i) ys:=⟨rfl,λi h=>⟨h,rfl⟩⟩
theorem nZ.get (h:nZ ys σ zs) (hi:i<ys.length):zs[i]'(by rw[h.len];exact hi)=ys[σ i]'(h.at_ i hi).1:=by
 have:=(h.at_ i hi).2;rw[List.getElem?_eq_getElem (by rw[h.len];exact hi),List.getElem?_eq_getElem (h.at_ i hi).1] at this;exact Option.some.inj this
def ov (σ:Nat->Nat) (i j:Nat):Nat->Nat:=λk=>if k=i then σ j else if k=j then σ i else σ k
theorem nZ.swap (h:nZ ys σ zs) (hi:i<ys.length) (hj:j<ys.length) {x y:α} (hx:x=zs[j]'(by rw[h.len];exact hj)) (hy:y=zs[i]'(by rw[h.len];exact hi)):nZ ys (ov σ i j) ((zs.set i x).set j y):=by
 subst hx hy;have hl:=h.len;refine⟨by simp[h.len],λk hk=>?_⟩;have hki:=h.at_ i hi;have hkj:=h.at_ j hj;have hkk:=h.at_ k hk;unfold ov;rw[List.getElem?_set,List.getElem?_set];by_cases e1:k=i
 ·subst e1;rw[if_pos rfl];refine⟨hkj.1,?_⟩;by_cases e2:j=k
  ·subst e2;simp[hl,hk,<-hkk.2,List.getElem?_eq_getElem (show j<zs.length by omega)]
  ·rw[if_neg e2];simp[hl,hk,<-hkj.2,List.getElem?_eq_getElem (show j<zs.length by omega)]
 ·rw[if_neg e1];by_cases e2:k=j
  ·subst e2;rw[if_pos rfl];refine⟨hki.1,?_⟩;simp[hl,hk,<-hki.2,List.getElem?_eq_getElem (show i<zs.length by omega)]
  ·rw[if_neg e2];refine⟨hkk.1,?_⟩;simp[Ne.symm e1,Ne.symm e2,hkk.2]
structure jZ (σ:Nat->Nat) (a b:Nat):Prop where
 out:∀i,¬(a<=i/\i<b)->σ i=i
 tu:∀i,a<=i->i<b->a<=σ i/\σ i<b
 inj:∀i j,σ i=σ j->i=j
theorem jZ.id (a b:Nat):jZ (λi=>i) a b:=⟨λ_ _=>rfl,λ_ h1 h2=>⟨h1,h2⟩,λ_ _ h=>h⟩
theorem jZ.swap (h:jZ σ a b) (hi:a<=i/\i<b) (hj:a<=j/\j<b):jZ (ov σ i j) a b:=by
 refine⟨λk hk=>?_,λk h1 h2=>?_,λk k' e=>?_⟩
 ·unfold ov;rw[if_neg (by intro e;subst e;exact hk hi),if_neg (by intro e;subst e;exact hk hj)];exact h.out k hk
 ·unfold ov;split
  ·exact h.tu j hj.1 hj.2
  ·split
   ·exact h.tu i hi.1 hi.2
   ·exact h.tu k h1 h2
 ·unfold ov at e;by_cases e1:k=i
  ·by_cases e2:k'=i
   ·omega
   ·rw[if_pos e1,if_neg e2] at e;by_cases iA:k'=j
    ·rw[if_pos iA] at e;have:=h.inj _ _ e;omega
    ·rw[if_neg iA] at e;have:=h.inj _ _ e;omega
  ·rw[if_neg e1] at e;by_cases mq:k=j
   ·rw[if_pos mq] at e;by_cases e2:k'=i
    ·rw[if_pos e2] at e;have:=h.inj _ _ e;omega
    ·rw[if_neg e2] at e;by_cases iA:k'=j
     ·omega
     ·rw[if_neg iA] at e;have:=h.inj _ _ e;omega
   ·rw[if_neg mq] at e;by_cases e2:k'=i
    ·rw[if_pos e2] at e;have:=h.inj _ _ e;omega
    ·rw[if_neg e2] at e;by_cases iA:k'=j
     ·rw[if_pos iA] at e;have:=h.inj _ _ e;omega
     ·rw[if_neg iA] at e;exact h.inj _ _ e
theorem jZ.mono {a' b':Nat} (h:jZ σ a b) (ha:a'<=a) (hb:b<=b'):jZ σ a' b':=⟨λi hi=>h.out i (λe=>hi ⟨by omega,by omega⟩),λi h1 h2=>by
 by_cases e:a<=i/\i<b
 ·have:=h.tu i e.1 e.2;omega
 ·rw[h.out i e];exact⟨h1,h2⟩,h.inj⟩
def tv (T:Nat->Nat->Prop) (σ:Nat->Nat) (a b:Nat):Prop:=∀i j,a<=i->i<j->j<b->T (σ i) (σ j)
def iK (c:α->α->Int) (ys:List α) (i j:Nat):Prop:=∃(hi:i<ys.length) (hj:j<ys.length),c ys[i] ys[j]<0\/c ys[i] ys[j]=0/\i<j
structure nx (c:α->α->Int) (P:α->Prop):Prop where
 anti:∀x y,P x->P y->(c x y<0↔0<c y x)
 trans:∀x y z,P x->P y->P z->c x y<=0->c y z<=0->c x z<=0
theorem nx.eq {c:α->α->Int} {P:α->Prop} (h:nx c P) {x y:α} (hx:P x) (hy:P y):c x y=0↔c y x=0:=by
 have h1:=h.anti x y hx hy;have h2:=h.anti y x hy hx;omega
theorem nx.IK {c:α->α->Int} {P:α->Prop} (h:nx c P) {x y z:α} (hx:P x) (hy:P y) (hz:P z) (h1:c x y<0) (h2:c y z<=0):c x z<0:=by
 have h3:=h.trans x y z hx hy hz (by omega) h2;have h4:=h.anti x y hx hy;apply Classical.byContradiction;intro hn;have e:c x z=0:=by omega
 have e2:=(h.eq hx hz).1 e;have:=h.trans y z x hy hz hx h2 (by omega);omega
theorem nx.O9 {c:α->α->Int} {P:α->Prop} (h:nx c P) {x y z:α} (hx:P x) (hy:P y) (hz:P z) (h1:c x y<=0) (h2:c y z<0):c x z<0:=by
 have h3:=h.trans x y z hx hy hz h1 (by omega);have h4:=h.anti y z hy hz;apply Classical.byContradiction;intro hn;have e:c x z=0:=by omega
 have e2:=(h.eq hx hz).1 e;have:=h.trans z x y hz hx hy (by omega) h1;omega
theorem IL {c:α->α->Int} {P:α->Prop} (h:nx c P) (hP:∀x∈ys,P x) {i j k:Nat} (h1:iK c ys i j) (h2:iK c ys j k):iK c ys i k:=by
 obtain⟨hi,hj,h1⟩:=h1;obtain⟨_,hk,h2⟩:=h2;have p1:=hP _ (List.getElem_mem hi);have p2:=hP _ (List.getElem_mem hj);have p3:=hP _ (List.getElem_mem hk);refine⟨hi,hk,?_⟩;rcases h1 with h1|⟨h1,e1⟩
 ·exact .inl (h.IK p1 p2 p3 h1 (by rcases h2 with h2|h2<;>omega))
 ·rcases h2 with h2|⟨h2,e2⟩
  ·exact .inl (h.O9 p1 p2 p3 (by omega) h2)
  ·refine .inr ⟨?_,by omega⟩;have a:=h.trans _ _ _ p1 p2 p3 (by omega) (by omega);have b:=h.trans _ _ _ p3 p2 p1 (by rw[(h.eq p3 p2).2 h2];omega) (by rw[(h.eq p2 p1).2 h1];omega);have:=h.anti _ _ p1 p3;have:=h.anti _ _ p3 p1;omega
theorem EM {c:α->α->Int} {P:α->Prop} (h:nx c P) (hP:∀x∈ys,P x) {i j:Nat} (hi:i<ys.length) (hj:j<ys.length) (hne:i≠j):iK c ys i j\/iK c ys j i:=by
 have p1:=hP _ (List.getElem_mem hi);have p2:=hP _ (List.getElem_mem hj);have h1:=h.anti _ _ p1 p2;have h2:=h.anti _ _ p2 p1;by_cases e1:c ys[i] ys[j]<0
 ·exact .inl ⟨hi,hj,.inl e1⟩
 ·by_cases e2:c ys[j] ys[i]<0
  ·exact .inr ⟨hj,hi,.inl e2⟩
  ·have iA:c ys[i] ys[j]=0:=by omega
   have mq:c ys[j] ys[i]=0:=by omega
   rcases Nat.lt_or_gt_of_ne hne with h|h
   ·exact .inl ⟨hi,hj,.inr ⟨iA,h⟩⟩
   ·exact .inr ⟨hj,hi,.inr ⟨mq,h⟩⟩
theorem IP {c:α->α->Int} {P:α->Prop} (h:nx c P) (hP:∀x∈ys,P x) {i j:Nat} (h1:iK c ys i j) (h2:iK c ys j i):False:=by
 obtain⟨hi,hj,h1⟩:=h1;obtain⟨_,_,h2⟩:=h2;have p1:=hP _ (List.getElem_mem hi);have p2:=hP _ (List.getElem_mem hj);have:=h.anti _ _ p1 p2;have:=h.anti _ _ p2 p1;rcases h1 with h1|h1<;>rcases h2 with h2|h2<;>omega
theorem O_ {c:α->α->Int} {P:α->Prop} (h:nx c P) (hP:∀x∈ys,P x) {i j:Nat} (hi:i<ys.length) (hj:j<ys.length) (hij:i<j):iK c ys j i↔c ys[j] ys[i]<0:=by
 constructor
 ·rintro⟨_,_,h1|h1⟩
  ·exact h1
  ·omega
 ·intro h1;exact⟨hj,hi,.inl h1⟩
structure pR (c:α->α->Int) (ys:List α) (σ:Nat->Nat) (a i j:Nat):Prop where
 within:jZ σ a (i+1)
 le:a<=j/\j<=i
 yJ:σ j=i
 AJ:∀p q,a<=p->p<q->q<=i->p≠j->q≠j->iK c ys (σ p) (σ q)
 IQ:∀q,j<q->q<=i->iK c ys i (σ q)
theorem pR.start {c:α->α->Int} (h:jZ σ a i) (ha:a<=i) (hs:tv (iK c ys) σ a i):pR c ys σ a i i:=
 ⟨h.mono (Nat.le_refl _) (by omega),⟨ha,Nat.le_refl _⟩,h.out i (by omega),λp q h1 h2 h3 h4 h5=>hs p q h1 h2 (by omega),λq h1 h2=>by omega⟩
theorem pR.step {c:α->α->Int} (h:pR c ys σ a i j) (hj:a<j) (hlt:iK c ys i (σ (j-1))):pR c ys (ov σ j (j-1)) a i (j-1):=by
 have e0:ov σ j (j-1) (j-1)=i:=by unfold ov;rw[if_neg (by omega),if_pos rfl];exact h.yJ
 have e1:ov σ j (j-1) j=σ (j-1):=by unfold ov;rw[if_pos rfl]
 have e2:∀k,k≠j->k≠j-1->ov σ j (j-1) k=σ k:=λk h1 h2=>by unfold ov;rw[if_neg h1,if_neg h2]
 have hle:=h.le;refine⟨h.within.swap ⟨by omega,by omega⟩ ⟨by omega,by omega⟩,⟨by omega,by omega⟩,e0,λp q h1 h2 h3 h4 h5=>?_,λq h1 h2=>?_⟩
 ·by_cases yK:p=j
  ·subst yK;rw[e1,e2 q (by omega) (by omega)];exact h.AJ (p-1) q (by omega) (by omega) h3 (by omega) (by omega)
  ·by_cases eq:q=j
   ·subst eq;rw[e1,e2 p (by omega) (by omega)];exact h.AJ p (q-1) h1 (by omega) (by omega) (by omega) (by omega)
   ·rw[e2 p yK h4,e2 q eq h5];exact h.AJ p q h1 h2 h3 yK eq
 ·by_cases eq:q=j
  ·subst eq;rw[e1];exact hlt
  ·rw[e2 q eq (by omega)];exact h.IQ q (by omega) h2
theorem pR.done {c:α->α->Int} {P:α->Prop} (hc:nx c P) (hP:∀x∈ys,P x) (h:pR c ys σ a i j) (hi:i<ys.length) (hj:j=a\/¬iK c ys i (σ (j-1))):jZ σ a (i+1)/\tv (iK c ys) σ a (i+1):=by
 have hle:=h.le;refine⟨h.within,λp q h1 h2 h3=>?_⟩;by_cases yK:p=j
 ·subst yK;rw[h.yJ];exact h.IQ q h2 (by omega)
 ·by_cases eq:q=j
  ·subst eq;rw[h.yJ];rcases hj with hj|hj
   ·omega
   ·have hw:=h.within.tu (q-1) (by omega) (by omega);have hne:σ (q-1)≠i:=λe=>by have:=h.within.inj (q-1) q (by rw[e,h.yJ]);omega
    have hl:iK c ys (σ (q-1)) i:=(EM hc hP (by omega) hi hne).resolve_right hj;by_cases e:p=q-1
    ·rw[e];exact hl
    ·exact IL hc hP (h.AJ p (q-1) h1 (by omega) (by omega) (by omega) (by omega)) hl
  ·exact h.AJ p q h1 h2 (by omega) yK eq
end
inductive rL where
 |run (L:List (Nat×Bool))
 |one (A:List Nat) (i:Nat) (t:rL)
 |fork (A:List Nat) (i:Nat) (t:rL) (i':Nat) (t':rL)
 |yO (A:List Nat) (i:Nat) (t:rL) (i':Nat) (t':rL) (i2:Nat) (t2:rL)
def mu (Q:Exit->Act->World->Prop) (K:Act->World->Prop):Exit->Act->World->Prop
 | .normal,a,w=>K a w
 |e,a,w=>Q e a w
def jB (P:Program) (ops:Array Oper) (S:World->Prop) (Q:Exit->Act->World->Prop):rL->Act->World->Prop
 | .run L,a,w=>jw P ops S Q L a w
 | .one A i t,a,w=>jw P ops S (mu Q λa w=>wpOp P ops Q i (λa' w'=>S w'/\jB P ops S Q t a' w') a w) (A.map λj=>(j,true)) a w
 | .fork A i t i' t',a,w=>jw P ops S (mu Q λa w=>wpOp P ops Q i (λa' w'=>S w'/\jB P ops S Q t a' w') a w/\wpOp P ops Q i' (λa' w'=>S w'/\jB P ops S Q t' a' w') a w) (A.map λj=>(j,true)) a w
 | .yO A i t i' t' i2 t2,a,w=>jw P ops S (mu Q λa w=>wpOp P ops Q i (λa' w'=>S w'/\jB P ops S Q t a' w') a w/\wpOp P ops Q i' (λa' w'=>S w'/\jB P ops S Q t' a' w') a w/\wpOp P ops Q i2 (λa' w'=>S w'/\jB P ops S Q t2 a' w') a w) (A.map λj=>(j,true)) a w
def u7 (ops:Array Oper) (en:Nat) (k:Nat->Array Bool->Bool):Nat->Array Bool->List Nat->Bool
 |n,listed,[]=>k n listed
 |0,_,_::_=>false
 |n+1,listed,j::A=>!Nat.beq j en&&(Nat.ble ops.size en||needs ops 8 en j)&&Region.free .any ops listed j&&(Region.ready .any ops listed).contains j&&u7 ops en k n (listed.setIfInBounds j true) A
def u9 (ops:Array Oper) (en:Nat):rL->Nat->Array Bool->Bool
 | .run L,n,listed=>sw ops en n listed L
 | .one A i t,n,listed=>u7 ops en (λn l=>match n with|0=>false|n+1=>(Region.ready .any ops l==[i])&&u9 ops en t n (l.setIfInBounds i true)) n listed A
 | .fork A i t i' t',n,listed=>u7 ops en (λn l=>match n with
  |0=>false
  |n+1=>((Region.ready .any ops l==[i,i'])||(Region.ready .any ops l==[i',i]))&&u9 ops en t n (l.setIfInBounds i true)&&u9 ops en t' n (l.setIfInBounds i' true)) n listed A
 | .yO A i t i' t' i2 t2,n,listed=>u7 ops en (λn l=>match n with
  |0=>false
  |n+1=>(Region.ready .any ops l).all (λj=>Nat.beq j i||Nat.beq j i'||Nat.beq j i2)&&(Region.ready .any ops l).contains i&&(Region.ready .any ops l).contains i'&&(Region.ready .any ops l).contains i2&&u9 ops en t n (l.setIfInBounds i true)&&u9 ops en t' n (l.setIfInBounds i' true)&&u9 ops en t2 n (l.setIfInBounds i2 true)) n listed A
section
variable {P:Program} {ops:Array Oper} {S:World->Prop} {Q:Exit->Act->World->Prop}
theorem Cw (hs:Region.noSelect ops=true) (hQ:∀c a d v w,Q (.panic c) (Act.put a d v) w->Q (.panic c) a w) {en:Nat} {k:Nat->Array Bool->Bool} {K:Act->World->Prop}
  (hk:∀n listed a w,k n listed=true->qD ops listed->S w->K a w->sv P ops Q S en n listed a w):
  ∀(n:Nat) (listed:Array Bool) (A:List Nat) (a:Act) (w:World),u7 ops en k n listed A=true->qD ops listed->S w->
   jw P ops S (mu Q K) (A.map λj=>(j,true)) a w->sv P ops Q S en n listed a w
 |n,listed,[],a,w,hc,gT,hS,h=>by
  unfold u7 at hc;exact hk n listed a w hc gT hS h
 |0,listed,_::_,a,w,hc,_,_,_=>by simp[u7] at hc
 |n+1,listed,j::A,a,w,hc,gT,hS,h=>by
  simp only[u7,Bool.and_eq_true] at hc;obtain⟨⟨⟨⟨h1,h2⟩,h3⟩,h4⟩,h5⟩:=hc;obtain⟨o,v,hi,hy,h⟩:=h;have hr:j∈Region.ready .any ops listed:=by simpa using h4
  exact B8 hi (Region.noSelect_spec hs) (λc a w hq=>hQ c a _ _ w hq) (λe=>by subst e;simp at h1) (B_ h2) n listed a w gT (Region.free_spec hi h3) hr hy hS (Cw hs hQ hk n _ A _ w h5 (oU gT hr) hS h)
theorem wL (hs:Region.noSelect ops=true) (hQ:∀c a d v w,Q (.panic c) (Act.put a d v) w->Q (.panic c) a w) {en:Nat}:
  ∀(t:rL) (n:Nat) (listed:Array Bool) (a:Act) (w:World),u9 ops en t n listed=true->qD ops listed->S w->jB P ops S Q t a w->sv P ops Q S en n listed a w
 | .run L,n,listed,a,w,hc,gT,hS,h=>wB hs hQ n listed L a w hc gT (λ_=>hS) h
 | .one A i t,n,listed,a,w,hc,gT,hS,h=>by
  refine Cw hs hQ (λn listed a w hk gT hS h=>?_) n listed A a w hc gT hS h;cases n with
  |zero=>cases hk
  |succ n=>
   simp only[Bool.and_eq_true,beq_iff_eq] at hk;obtain⟨h0,h1⟩:=hk;have hr:i∈Region.ready .any ops listed:=by rw[h0];simp
   refine⟨λwC=>(by rw[wC] at h0;cases h0),λj hj=>?_⟩;rw[h0,List.mem_singleton] at hj;subst hj;exact wpOp_mono (λa' w' g=>⟨λ_=>g.1,wL hs hQ t n _ a' w' h1 (oU gT hr) g.1 g.2⟩) h
 | .fork A i t i' t',n,listed,a,w,hc,gT,hS,h=>by
  refine Cw hs hQ (λn listed a w hk gT hS h=>?_) n listed A a w hc gT hS h;cases n with
  |zero=>cases hk
  |succ n=>
   simp only[Bool.and_eq_true,Bool.or_eq_true,beq_iff_eq] at hk;obtain⟨⟨h0,h1⟩,h2⟩:=hk;have hm:∀j,j∈Region.ready .any ops listed↔j=i\/j=i':=λj=>by
    rcases h0 with e|e<;>rw[e]<;>simp[or_comm]
   have hr:i∈Region.ready .any ops listed:=(hm i).2 (.inl rfl);have hr':i'∈Region.ready .any ops listed:=(hm i').2 (.inr rfl);refine⟨λwC=>(by rw[wC] at hr;cases hr),λj hj=>?_⟩;rcases(hm j).1 hj with rfl|rfl
   ·exact wpOp_mono (λa' w' g=>⟨λ_=>g.1,wL hs hQ t n _ a' w' h1 (oU gT hr) g.1 g.2⟩) h.1
   ·exact wpOp_mono (λa' w' g=>⟨λ_=>g.1,wL hs hQ t' n _ a' w' h2 (oU gT hr') g.1 g.2⟩) h.2
 | .yO A i t i' t' i2 t2,n,listed,a,w,hc,gT,hS,h=>by
  refine Cw hs hQ (λn listed a w hk gT hS h=>?_) n listed A a w hc gT hS h;cases n with
  |zero=>cases hk
  |succ n=>
   simp only[Bool.and_eq_true] at hk;obtain⟨⟨⟨⟨⟨⟨h0,r1⟩,r2⟩,r3⟩,h1⟩,h2⟩,h3⟩:=hk;have hr:i∈Region.ready .any ops listed:=by simpa using r1
   have hr':i'∈Region.ready .any ops listed:=by simpa using r2
   have Pa:i2∈Region.ready .any ops listed:=by simpa using r3
   refine⟨λwC=>(by rw[wC] at hr;cases hr),λj hj=>?_⟩;have hj2:=List.all_eq_true.1 h0 j hj;simp only[Bool.or_eq_true] at hj2;rcases hj2 with(e|e)|e<;>have e:=Nat.eq_of_beq_eq_true e<;>subst e
   ·exact wpOp_mono (λa' w' g=>⟨λ_=>g.1,wL hs hQ t n _ a' w' h1 (oU gT hr) g.1 g.2⟩) h.1
   ·exact wpOp_mono (λa' w' g=>⟨λ_=>g.1,wL hs hQ t' n _ a' w' h2 (oU gT hr') g.1 g.2⟩) h.2.1
   ·exact wpOp_mono (λa' w' g=>⟨λ_=>g.1,wL hs hQ t2 n _ a' w' h3 (oU gT Pa) g.1 g.2⟩) h.2.2
theorem IU {K:Act->World->Prop} (h:LetsOut (mu Q K)):LetsOut Q:=h
theorem wM {i:Nat} {a:Act} {w:World} {K X:Act->World->Prop} (h:wpOp P ops (mu Q K) i X a w):wpOp P ops Q i X a w:=by
 unfold wpOp at*;cases ho:ops[i]? with
 |none=>rw[ho] at h;exact h
 |some o=>
  rw[ho] at h;simp only at h⊢;split at h
  ·rename_i hw;rw[if_pos hw];refine h.imp (λh=>?_) (λh=>⟨h.1,IU h.2⟩);unfold Oper.wp at*;generalize (execOp a.eval o).run P w=r at*;cases r with
   |ok n w'=>
    cases n<;>simp only[Oper.upon] at h⊢<;>first|exact h|exact Calls.mono h (λe w'' he=>by cases e<;>first|exact he|exact IU he)
   |halt x w'=>cases x<;>simp only[Oper.upon] at h⊢<;>exact h
  ·rename_i hw;rw[if_neg hw];exact h
end
def AK (P:Program) (N:Nat) (Q:Exit->Act->World->Prop) (ops:Array Oper) (S:World->Prop) (t:rL) (env:Env) (w:World):Prop:=∀a,nV N env a->jB P ops S Q t a w
section
variable {P:Program} {N:Nat} {Q:Exit->Act->World->Prop} {ops:Array Oper} {S S':World->Prop} {A:List Nat} {i i' i2:Nat} {t t' t2:rL} {L:List (Nat×Bool)} {env:Env} {w:World}
theorem mO (h:bO P N Q ops S L env w):AK P N Q ops S (.run L) env w:=h
theorem qQ (h:bO P N (mu Q λa w=>wpOp P ops Q i (λa' w'=>S w'/\jB P ops S Q t a' w') a w/\wpOp P ops Q i' (λa' w'=>S w'/\jB P ops S Q t' a' w') a w) ops S (A.map λj=>(j,true)) env w):AK P N Q ops S (.fork A i t i' t') env w:=h
theorem IV (h:bO P N (mu Q λa w=>wpOp P ops Q i (λa' w'=>S w'/\jB P ops S Q t a' w') a w/\wpOp P ops Q i' (λa' w'=>S w'/\jB P ops S Q t' a' w') a w/\wpOp P ops Q i2 (λa' w'=>S w'/\jB P ops S Q t2 a' w') a w) ops S (A.map λj=>(j,true)) env w):AK P N Q ops S (.yO A i t i' t' i2 t2) env w:=h
theorem IW (h:bO P N (mu Q λa w=>S w/\jB P ops S Q t a w) ops S [(i,false)] env w) (h':bO P N (mu Q λa w=>S w/\jB P ops S Q t' a w) ops S [(i',false)] env w) (h2:bO P N (mu Q λa w=>S w/\jB P ops S Q t2 a w) ops S [(i2,false)] env w):
  bO P N (mu Q λa w=>wpOp P ops Q i (λa' w'=>S w'/\jB P ops S Q t a' w') a w/\wpOp P ops Q i' (λa' w'=>S w'/\jB P ops S Q t' a' w') a w/\wpOp P ops Q i2 (λa' w'=>S w'/\jB P ops S Q t2 a' w') a w) ops S [] env w:=λa ha=>by
 show wpOp P ops Q i (λa' w'=>S w'/\jB P ops S Q t a' w') a w/\wpOp P ops Q i' (λa' w'=>S w'/\jB P ops S Q t' a' w') a w/\wpOp P ops Q i2 (λa' w'=>S w'/\jB P ops S Q t2 a' w') a w;exact⟨wpOp_mono (λa' w' g=>g.2) (wM (h a ha)),wpOp_mono (λa' w' g=>g.2) (wM (h' a ha)),wpOp_mono (λa' w' g=>g.2) (wM (h2 a ha))⟩
theorem qR (h:bO P N (mu Q λa w=>S w/\jB P ops S Q t a w) ops S [(i,false)] env w) (h':bO P N (mu Q λa w=>S w/\jB P ops S Q t' a w) ops S [(i',false)] env w):
  bO P N (mu Q λa w=>wpOp P ops Q i (λa' w'=>S w'/\jB P ops S Q t a' w') a w/\wpOp P ops Q i' (λa' w'=>S w'/\jB P ops S Q t' a' w') a w) ops S [] env w:=λa ha=>by
 show wpOp P ops Q i (λa' w'=>S w'/\jB P ops S Q t a' w') a w/\wpOp P ops Q i' (λa' w'=>S w'/\jB P ops S Q t' a' w') a w;exact⟨wpOp_mono (λa' w' g=>g.2) (wM (h a ha)),wpOp_mono (λa' w' g=>g.2) (wM (h' a ha))⟩
theorem ja (hS:S w) (h:AK P N Q ops S t env w):bO P N (mu Q λa w=>S w/\jB P ops S Q t a w) ops S' [] env w:=λa ha=>⟨hS,h a ha⟩
variable {f:FuncId} {k:List Item} {R:Value->World->Prop}
theorem AL {c:Code} {id:Nat} (I:List Nat) (C:Nat->Nat) (en:Nat) (t:rL) (hm:P.follows .mixedOrders=true) (hc:c=.region id ops true)
  (hn:Region.noSelect ops=true) (hk:u9 ops en t ops.size (Array.replicate ops.size false)=true)
  (h:∀w₁,aH [] w C w₁ C->AK P N (yf P f k R) ops (λw'=>Ext (λb=>C b∈I) w₁ w') t env w₁):Run P f N (.code c::k) env w R:=λa ha=>by
 subst hc;exact Ai (wp_region_any hm (yh _ _ _ _ (wL hn (λc a d v w h=>h.elim) t _ _ a _ hk (Ca ops) (Ext.refl _ _) (h _ (aH.drew [] w C) a ha))))
end
def wN (ops:Array Oper) (en:Nat) (mZ:List (Nat×Bool)):Nat->Array Bool->List (Nat×Bool)->Bool
 |0,_,[]=>false
 |n+1,listed,[]=>(Region.ready .any ops listed==[en])&&(listed.setIfInBounds en true).getD en false&&sw ops (B9 ops.size mZ) n (listed.setIfInBounds en true) mZ
 |0,_,_::_=>false
 |n+1,listed,(i,true)::L=>!Nat.beq i en&&needs ops 8 en i&&Region.free .any ops listed i&&(Region.ready .any ops listed).contains i&&wN ops en mZ n (listed.setIfInBounds i true) L
 |n+1,listed,(i,false)::L=>(Region.ready .any ops listed==[i])&&!Nat.beq i en&&wN ops en mZ n (listed.setIfInBounds i true) L
section
variable {P:Program} {ops:Array Oper} {S:World->Prop} {Q:Exit->Act->World->Prop}
theorem IX {en:Nat}:∀(fuel:Nat) (listed:Array Bool) (a:Act) (w:World),listed.getD en false=true->wpAny P .any ops Q fuel listed a w->sv P ops Q S en fuel listed a w
 |0,listed,a,w,_,h=>h
 |fuel+1,listed,a,w,hj,h=>⟨h.1,λi hi=>wpOp_mono (λa' w' h'=>⟨λe=>(by rw[getD_set_true hj] at e;cases e),IX fuel _ a' w' (getD_set_true hj) h'⟩) (h.2 i hi)⟩
theorem EN (hs:Region.noSelect ops=true) (hQ:∀c a d v w,Q (.panic c) (Act.put a d v) w->Q (.panic c) a w) {en:Nat} {mZ:List (Nat×Bool)}:
  ∀(n:Nat) (listed:Array Bool) (L:List (Nat×Bool)) (a:Act) (w:World),wN ops en mZ n listed L=true->qD ops listed->S w->
   jw P ops S (mu Q λa w=>S w/\wpOp P ops Q en (λa' w'=>jw P ops (λ_=>True) Q mZ a' w') a w) L a w->sv P ops Q S en n listed a w
 |0,_,[],a,w,hc,_,_,_=>by cases hc
 |0,_,_::_,a,w,hc,_,_,_=>by cases hc
 |n+1,listed,[],a,w,hc,gT,hS,h=>by
  simp only[wN,Bool.and_eq_true,beq_iff_eq] at hc;obtain⟨⟨h1,h2⟩,h3⟩:=hc;have h:S w/\wpOp P ops Q en (λa' w'=>jw P ops (λ_=>True) Q mZ a' w') a w:=h;have hr:en∈Region.ready .any ops listed:=by rw[h1];simp
  refine⟨λh0=>(by rw[h0] at h1;cases h1),λj hj=>?_⟩;rw[h1,List.mem_singleton] at hj;subst hj;exact wpOp_mono (λa' w' h'=>⟨λe=>(by rw[h2] at e;cases e),IX n _ a' w' h2 (yh _ _ _ _ (wB hs hQ n _ mZ a' w' h3 (oU gT hr) (λ_=>trivial) h'))⟩) h.2
 |n+1,listed,(i,true)::L,a,w,hc,gT,hS,h=>by
  simp only[wN,Bool.and_eq_true] at hc;obtain⟨⟨⟨⟨h1,h2⟩,h3⟩,h4⟩,h5⟩:=hc;obtain⟨o,v,hi,hy,h⟩:=h;have hr:i∈Region.ready .any ops listed:=by simpa using h4
  exact B8 hi (Region.noSelect_spec hs) (λc a w hq=>hQ c a _ _ w hq) (λe=>by subst e;simp at h1) (B_ (by rw[h2,Bool.or_true])) n listed a w gT (Region.free_spec hi h3) hr hy hS (EN hs hQ n _ L _ w h5 (oU gT hr) hS h)
 |n+1,listed,(i,false)::L,a,w,hc,gT,hS,h=>by
  simp only[wN,Bool.and_eq_true,beq_iff_eq] at hc;obtain⟨⟨h1,h2⟩,h3⟩:=hc;have hr:i∈Region.ready .any ops listed:=by rw[h1];simp
  have h:=wM (h:wpOp P ops (mu Q λa w=>S w/\wpOp P ops Q en (λa' w'=>jw P ops (λ_=>True) Q mZ a' w') a w) i (λa' w'=>(yg L=true->S w')/\jw P ops S (mu Q λa w=>S w/\wpOp P ops Q en (λa' w'=>jw P ops (λ_=>True) Q mZ a' w') a w) L a' w') a w);refine⟨λh0=>(by rw[h0] at h1;cases h1),λj hj=>?_⟩;rw[h1,List.mem_singleton] at hj;subst hj;refine wpOp_mono (λa' w' h'=>?_) h;have Cx:S w':=by
   cases L with
   |nil=>have:S w'/\wpOp P ops Q en (λa' w'=>jw P ops (λ_=>True) Q mZ a' w') a' w':=h'.2;exact this.1
   |cons x L=>exact h'.1 rfl
  exact⟨λ_=>Cx,EN hs hQ n _ L a' w' h3 (oU gT hr) Cx h'.2⟩
end
section
variable {P:Program} {N:Nat} {Q:Exit->Act->World->Prop} {ops:Array Oper} {S S':World->Prop} {en:Nat} {mZ:List (Nat×Bool)} {env:Env} {w:World}
theorem Cy (hS:S w) (h:bO P N (mu Q λa w=>jw P ops (λ_=>True) Q mZ a w) ops (λ_=>True) [(en,false)] env w):
  bO P N (mu Q λa w=>S w/\wpOp P ops Q en (λa' w'=>jw P ops (λ_=>True) Q mZ a' w') a w) ops S [] env w:=λa ha=>by
 show S w/\wpOp P ops Q en (λa' w'=>jw P ops (λ_=>True) Q mZ a' w') a w;exact⟨hS,wpOp_mono (λa' w' g=>g.2) (wM (h a ha))⟩
theorem CA (h:bO P N Q ops (λ_=>True) mZ env w):bO P N (mu Q λa w=>jw P ops (λ_=>True) Q mZ a w) ops (λ_=>True) [] env w:=λa ha=>h a ha
variable {f:FuncId} {k:List Item} {R:Value->World->Prop}
theorem CB {c:Code} {id:Nat} (I:List Nat) (C:Nat->Nat) (en:Nat) (L mZ:List (Nat×Bool)) (hm:P.follows .mixedOrders=true) (hc:c=.region id ops true)
  (hn:Region.noSelect ops=true) (hk:wN ops en mZ ops.size (Array.replicate ops.size false) L=true)
  (h:∀w₁,aH [] w C w₁ C->bO P N (mu (yf P f k R) λa w=>Ext (λb=>C b∈I) w₁ w/\wpOp P ops (yf P f k R) en (λa' w'=>jw P ops (λ_=>True) (yf P f k R) mZ a' w') a w) ops (λw'=>Ext (λb=>C b∈I) w₁ w') L env w₁):Run P f N (.code c::k) env w R:=λa ha=>by
 subst hc;exact Ai (wp_region_any hm (yh _ _ _ _ (EN hn (λc a d v w h=>h.elim) _ _ L a _ hk (Ca ops) (Ext.refl _ _) (h _ (aH.drew [] w C) a ha))))
end
structure IY where
 pr:Int
 av:List Int
 df:List Int
instance:bF IY:=bF.via (λx:IY=>(x.pr,(x.av,x.df)))
section
variable {P:Program} {N:Nat} {env:Env} {y z:Operand} {t e:TypeId} {b o o' n len:Nat} {k:IntKind} {i:Int} {w:World} {v:Value} {M:Nat->Prop}
theorem CD {cs:List Value} (hu:P.underlying t=some (.array len e)) (hn:iy P e=some 1) (ha:iW P e=some false) (hy:ev env y=some (.agg cs.toArray)) (hz:ev env z=some (.int k i))
  (h0:0<=i) (h1:i<len) (hv:cs[i.toNat]?=some v):ew P N env (.index t y z) w v:=mk' λρ hρ gi ho=>by
 unfold execOp;rw[ho];simp[hρ _ _ hy,hρ _ _ hz,go_sem,Instr.index,asIntOf,run_underlying hu,oq hn,h0,h1,part,tV ha,hv]
theorem EO {parts:Array (Nat×Operand)} {zs cs:List Value} {ez:List (Nat×List Value)} (hu:P.underlying t=some (.array len e)) (hn:iy P e=some n) (hz:uZ P t=some zs)
  (hq:sG env parts.toList ez) (hf:tX (λi=>some (i*n,n)) zs ez=some cs):ew P N env (.build t parts) w (.agg cs.toArray):=mk' λρ hρ o ho=>by
 obtain⟨z,h1,h2⟩:=EB hz w;have hmap:=sG.map hρ hq;have nG:=fill_eq (λi=>some (i*n,n)) (parts.toList.map λp=>(p.1,ρ p.2)) ez zs cs (by rw[<-hmap]) hf;have EG:Instr.fill (λi=>some (i*n,n)) z.cells (parts.map λx=>(x.1,ρ x.2)).toList=some cs.toArray:=by
  rw[h2];have: (parts.map λx=>(x.1,ρ x.2)).toList=parts.toList.map λp=>(p.1,ρ p.2):=by simp
  rw[this,<-nG]
 unfold execOp;rw[ho];simp only[Instr.build,Sem.run_bind,h1,Result.andThen_ok,run_underlying hu,oq hn];rw[show(parts.map λx=>match x with|(i,x)=>(i,ρ x)).toList=(parts.map λx=>(x.1,ρ x.2)).toList from rfl,EG];rfl
end
def gY (x:Int):Prop:=-65536<=x/\x<=65536
instance (x:Int):Decidable (gY x):=by unfold gY;infer_instance
structure gA (pr:Int) (av df:List Int):Prop where
 l1:1<=av.length
 k_:av.length<=5
 ld:df.length=av.length
 fp:gY pr
 fa:∀i (h:i<av.length),gY av[i]
 fd:∀i (h:i<df.length),gY df[i]
def kD (p i:Nat):Nat:=p/3^i%3
def m_ (p n:Nat):List Nat:=(List.range n).map (kD p)
theorem yP (p i:Nat):kD p i<3:=Nat.mod_lt _ (by decide)
theorem sI (p n:Nat): (m_ p n).length=n:=by simp[m_]
theorem t_ {p n i:Nat} (h:i<(m_ p n).length): (m_ p n)[i]=kD p i:=by simp[m_]
theorem IZ (p n:Nat):m_ p (n+1)=m_ p n++[kD p n]:=by simp[m_,List.range_succ]
def ua (av df:List Int) (f:Nat):List Int:=[0,df.getD f 0,av.getD f 0]
def kE (av df:List Int) (p f:Nat):Int:=(ua av df f).getD (kD p f) 0
def jC (pr:Int) (av df:List Int) (p:Nat):Nat->Int
 |0=>pr
 |k+1=>jC pr av df p k+kE av df p k
theorem gA.a {pr:Int} {av df:List Int} (h:gA pr av df) {i:Nat} (hi:i<av.length):-65536<=av.getD i 0/\av.getD i 0<=65536:=by rw[iJ hi];exact h.fa i hi
theorem gA.d {pr:Int} {av df:List Int} (h:gA pr av df) {i:Nat} (hi:i<av.length):-65536<=df.getD i 0/\df.getD i 0<=65536:=by rw[iJ (by rw[h.ld];exact hi)];exact h.fd i (by rw[h.ld];exact hi)
theorem gA.AO {pr:Int} {av df:List Int} (h:gA pr av df) {i:Nat} (hi:i<av.length) (p:Nat):-65536<=kE av df p i/\kE av df p i<=65536:=by
 have h1:=h.a hi;have h2:=h.d hi;have h3:=yP p i;unfold kE ua
 match e:kD p i,h3 with
 |0,_=>simp
 |1,_=>simpa using h2
 |2,_=>simpa using h1
theorem gA.I1 {pr:Int} {av df:List Int} (h:gA pr av df) (p:Nat):∀k,k<=av.length->-65536*((k:Int)+1)<=jC pr av df p k/\jC pr av df p k<=65536*((k:Int)+1)
 |0,_=>by have:=h.fp;unfold gY at this;unfold jC;constructor<;>omega
 |k+1,hk=>by
  have h1:=h.I1 p k (by omega);have h2:=h.AO (i:=k) (by omega) p;unfold jC;constructor<;>omega
theorem gA.sc {pr:Int} {av df:List Int} (h:gA pr av df) (p:Nat) {k:Nat} (hk:k<=av.length):-393216<=jC pr av df p k/\jC pr av df p k<=393216:=by
 have:=h.I1 p k hk;have:=h.k_;omega
theorem CF {n:Nat} (h:n<=5):3^n<=243:=Nat.le_trans (Nat.pow_le_pow_right (by decide) h) (by decide)
theorem EP {n:Nat} (h:n<=5): ([.int .i64 1,.int .i64 3,.int .i64 9,.int .i64 27,.int .i64 81,.int .i64 243]:List Value)[((n:Nat):Int).toNat]?=some (.int .i64 ((3^n:Nat):Int)):=by
 rw[Int.toNat_natCast]
 match n,h with
 |0,_=>rfl
 |1,_=>rfl
 |2,_=>rfl
 |3,_=>rfl
 |4,_=>rfl
 |5,_=>rfl
section
variable {P:Program} {f:FuncId} {N:Nat} {k:List Item} {env:Env} {w:World} {R:Value->World->Prop}
theorem CG {c:Code} {fn:Func} {a ty b u:Nat} {x:Value} {tg:Nat} {cs:List Value} {fL:Nat×Nat} {n:Nat} {a2 ER b2 Pb:Nat} {lg:List Value} {Pc:Nat×Nat} {n2:Nat} (hc:c=.ret) (hf:P.funcs[f]?=some fn) (hres:fn.results=#[.cell a ty,.cell a2 ER,.tmp u]) (hv:look env a=some (.pointer (some ⟨b,0,none⟩))) (bQ:look env a2=some (.pointer (some ⟨b2,0,none⟩)))
  (hx:look env u=some x) (hb:w.heap[b]?=some (.cells cs.toArray tg fL)) (ha:iW P ty=some true) (hs:iy P ty=some n) (hl:cs.length=n)
  (wO:w.heap[b2]?=some (.cells lg.toArray Pb Pc)) (ha2:iW P ER=some true) (hs2:iy P ER=some n2) (yQ:lg.length=n2)
  (hR:R (.tuple #[.agg cs.toArray,.agg lg.toArray,x]) w):Run P f N (.code c::k) env w R:=λa' jP=>by
 subst hc;refine wA hf jP.defers ?_ hR;have h1:=jP.slot a _ hv;have h4:=jP.slot a2 _ bQ;have h3:=jP.slot u _ hx;have h2:=AE hb ha hs hl;have h5:=AE wO ha2 hs2 yQ;simp only[results,hres];simp[h1,h3,h4,Array.getD_eq_getD_getElem?,asAddr,h2,h5]
end
structure wP (lo hi:Int):Prop where
 h1:1<=hi
 h2:hi<=65536
 l1:-65536<=lo
 l2:lo<=hi
structure sJ (n:Nat) (av df:List Int):Prop where
 la:av.length=n
 ld:df.length=n
 ba:∀x∈av,-3<=x/\x<=60
 bd:∀x∈df,-60<=x/\x<=3
theorem sJ.nil:sJ 0 [] []:=⟨rfl,rfl,by simp,by simp⟩
theorem sJ.snoc {n:Nat} {av df:List Int} {p q:Int} (h:sJ n av df) (h1:-3<=p) (h2:p<=60) (h3:-60<=q) (h4:q<=3):sJ (n+1) (av++[p]) (df++[q]):=
 ⟨by simp[h.la],by simp[h.ld],λx hx=>by
  rcases List.mem_append.1 hx with hx|hx
  ·exact h.ba x hx
  ·rw[List.mem_singleton.1 hx];exact⟨h1,h2⟩,λx hx=>by
  rcases List.mem_append.1 hx with hx|hx
  ·exact h.bd x hx
  ·rw[List.mem_singleton.1 hx];exact⟨h3,h4⟩⟩
theorem sJ.ok {n:Nat} {pr:Int} {av df:List Int} (h:sJ n av df) (h1:1<=n) (h5:n<=5) (h2:-40<=pr) (h3:pr<=10):gA pr av df:=
 ⟨by rw[h.la];exact h1,by rw[h.la];exact h5,by rw[h.la,h.ld],by unfold gY;omega,λi hi=>by have:=h.ba _ (List.getElem_mem hi);unfold gY;omega,λi hi=>by have:=h.bd _ (List.getElem_mem hi);unfold gY;omega⟩
section
variable {α:Type} {ys zs:List α} {σ:Nat->Nat} {a b i j:Nat} {c:α->α->Int} {P:α->Prop}
theorem jZ.thin (h:jZ σ a (a+1)) (hb:a<=b):jZ σ a b:=by
 have hid:∀i,σ i=i:=λi=>by
  by_cases e:a<=i/\i<a+1
  ·have:=h.tu i e.1 e.2;omega
  ·exact h.out i e
 exact⟨λi _=>hid i,λi h1 h2=>by rw[hid i];exact⟨h1,h2⟩,h.inj⟩
theorem pR.lt (h:pR c ys σ a i j) (hj:a<j):σ (j-1)<i:=by
 have hl:=h.le;have h1:=h.within.tu (j-1) (by omega) (by omega);have h2:σ (j-1)≠i:=λe=>by have:=h.within.inj (j-1) j (by rw[e,h.yJ]);omega
 omega
theorem pR.ord (hc:nx c P) (hP:∀x∈ys,P x) (hL:nZ ys σ zs) (h:pR c ys σ a i j) (hj:a<j) (hi:i<ys.length) (h1:j<zs.length) (h2:j-1<zs.length):iK c ys i (σ (j-1))↔c zs[j] zs[j-1]<0:=by
 have hl:=h.le;have e1:=hL.get (show j<ys.length by omega);have e2:=hL.get (show j-1<ys.length by omega);have hlt:=h.lt hj;rw[e1,e2,O_ hc hP (by omega) hi hlt];simp only[h.yJ]
end
theorem sK {x y:Int}:gn x y<0↔x<y:=by unfold gn;split<;>(try split)<;>omega
theorem yR:nx gn (λ_=>True):=⟨λx y _ _=>by unfold gn;split<;>split<;>(try split)<;>(try split)<;>omega,λx y z _ _ _=>by unfold gn;split<;>split<;>(try split)<;>(try split)<;>(try split)<;>omega⟩
theorem Pd {n:Nat} (h:n<=12):IntKind.u8.wrap ((n:Nat):Int)=n:=by
 unfold IntKind.wrap;simp[IntKind.signed,IntKind.bits];omega
theorem Pe {n:Nat} (h:n<=12):IntKind.u64.wrap ((n:Nat):Int)=n:=by
 unfold IntKind.wrap;simp[IntKind.signed,IntKind.bits];omega
theorem Pf {s:ByteArray} {n:Nat} (h:n<s.size):∃b:UInt8,s[((n:Nat):Int).toNat]?=some b:=⟨_,by rw[Int.toNat_natCast];exact getElem?_pos s n h⟩
section
variable {P:Program} {N:Nat} {env:Env} {y z:Operand} {t:TypeId} {k:IntKind} {n:Nat} {s:ByteArray} {b:UInt8} {w:World}
theorem Pg (hy:ev env y=some (.string s)) (hz:ev env z=some (.int k n)) (hu:P.underlying t=some .string) (hb:s[((n:Nat):Int).toNat]?=some b):ew P N env (.index t y z) w (.int .u8 (b.toNat:Nat)):=mk' λρ hρ gi ho=>by
 rw[Int.toNat_natCast] at hb;unfold execOp;rw[ho];simp[hρ _ _ hy,hρ _ _ hz,go_sem,Instr.index,asIntOf,run_underlying hu,hb]
end
def ES (c:Code) (b:Bool):Bool:=match c with| .cond (.const (.bool b')) _ _=>b==b'|_=>false
theorem Ph {c:Code} {b:Bool} (h:ES c b=true):c=.cond (.const (.bool b)) (cl c) (aZ c):=by
 unfold ES at h;split at h
 ·rw[beq_iff_eq] at h;subst h;rfl
 ·cases h
section
variable {P:Program} {f:FuncId} {N:Nat} {k:List Item} {env:Env} {w:World} {R:Value->World->Prop}
theorem Pj {c:Code} (hc:ES c false=true) (h:Run P f N (.code (aZ c)::k) env w R):Run P f N (.code c::k) env w R:=
 Ak (Ph hc) rfl (λh=>by cases h) (λ_=>h)
end
def jQ (x y:dh):Int:=gn y.b x.b
theorem wQ:nx jQ (λ_=>True):=⟨λx y _ _=>by unfold jQ gn;split<;>split<;>(try split)<;>(try split)<;>omega,λx y z _ _ _=>by unfold jQ gn;split<;>split<;>(try split)<;>(try split)<;>(try split)<;>omega⟩
section
variable {α:Type} {ys zs us:List α} {σ u6:Nat->Nat} {c:α->α->Int} {P:α->Prop}
def gp (c:α->α->Int) (ys zs:List α):Prop:=∃σ,nZ ys σ zs/\jZ σ 0 ys.length/\tv (iK c ys) σ 0 ys.length
theorem Pk {n:Nat} (hc:nx c P) (hP:∀x∈ys,P x) (hn:n=ys.length) (h1:jZ σ 0 n) (h2:tv (iK c ys) σ 0 n) (t1:jZ u6 0 n) (t2:tv (iK c ys) u6 0 n):∀i,i<n->σ i=u6 i:=by
 intro i
 induction i using Nat.strongRecOn with
 |ind i ih=>
  intro hi;apply Classical.byContradiction;intro hne;have key:∀(ρ tw:Nat->Nat),jZ ρ 0 n->tv (iK c ys) ρ 0 n->jZ tw 0 n->(∀k,k<i->ρ k=tw k)->ρ i≠tw i->iK c ys (ρ i) (tw i):=by
   intro ρ tw r1 r2 p1 hk hne;have Pm:∃m,m<n/\ρ m=tw i:=by
    apply Classical.byContradiction;intro hno;have h1:=p1.tu i (by omega) hi;have:=IJ n (n-1) (λm=>if ρ m<tw i then ρ m else ρ m-1) (λm hm=>by
     have h2:=r1.tu m (by omega) hm;have h3:ρ m≠tw i:=λe=>hno ⟨m,hm,e⟩;split<;>omega) (λm m' hm hm' e=>by
     have h3:ρ m≠tw i:=λe=>hno ⟨m,hm,e⟩;have h4:ρ m'≠tw i:=λe=>hno ⟨m',hm',e⟩;refine r1.inj _ _ ?_;split at e<;>split at e<;>omega)
    omega
   obtain⟨m,hm,e⟩:=Pm;have ET:i<m:=by
    rcases Nat.lt_trichotomy m i with h|h|h
    ·have:=hk m h;rw[e] at this;have:=p1.inj _ _ this;omega
    ·subst h;exact absurd e hne
    ·exact h
   rw[<-e];exact r2 i m (by omega) ET hm
  have a:=key σ u6 h1 h2 t1 (λk hk=>ih k hk (by omega)) hne;have b:=key u6 σ t1 t2 h1 (λk hk=>(ih k hk (by omega)).symm) (Ne.symm hne);exact IP hc hP a b
theorem gp.uniq (hc:nx c P) (hP:∀x∈ys,P x) (h:gp c ys zs) (h':gp c ys us):zs=us:=by
 obtain⟨σ,a1,a2,a3⟩:=h;obtain⟨u6,b1,b2,b3⟩:=h';have he:=Pk hc hP rfl a2 a3 b2 b3;apply List.ext_getElem?;intro i;by_cases hi:i<ys.length
 ·rw[(a1.at_ i hi).2,(b1.at_ i hi).2,he i hi]
 ·rw[List.getElem?_eq_none (by rw[a1.len];omega),List.getElem?_eq_none (by rw[b1.len];omega)]
noncomputable def AP (c:α->α->Int) (ys:List α):List α:=open Classical in if h:∃zs,gp c ys zs then h.choose else ys
theorem gp.eq (hc:nx c P) (hP:∀x∈ys,P x) (h:gp c ys zs):zs=AP c ys:=by
 have he:∃zs,gp c ys zs:=⟨zs,h⟩
 unfold AP;rw[dif_pos he];exact h.uniq hc hP he.choose_spec
end
def gF (av df:List Int) (p:Nat):Nat->List dh
 |0=>[]
 |k+1=>gF av df p k++if 0<av.getD k 0-kE av df p k then[⟨(k:Int),av.getD k 0-kE av df p k⟩] else[]
theorem CH (av df:List Int) (p:Nat):∀k,(gF av df p k).length<=k
 |0=>by simp[gF]
 |k+1=>by
  have:=CH av df p k;rw[gF,List.length_append];split<;>simp only[List.length_cons,List.length_nil]<;>omega
theorem Pn {av df:List Int} {p k:Nat} (h1:k<av.length) (h2:k<df.length): ([.int .i64 0,.int .i64 df[k],.int .i64 av[k]]:List Value)[((kD p k:Nat):Int).toNat]?=some (.int .i64 (kE av df p k)):=by
 rw[Int.toNat_natCast];unfold kE ua;rw[iJ h1,iJ h2];have h3:=yP p k;generalize kD p k=d at*;obtain rfl|rfl|rfl:d=0\/d=1\/d=2:=by omega
 all_goals simp
section
variable {α:Type} {ys zs:List α} {c:α->α->Int}
theorem gp.len (h:gp c ys zs):zs.length=ys.length:=by obtain⟨σ,h1,_⟩:=h;exact h1.len
theorem gp.sub (h:gp c ys zs):∀x∈zs,x∈ys:=λx hx=>by
 obtain⟨σ,h1,_⟩:=h;obtain⟨i,hi,rfl⟩:=List.getElem_of_mem hx;rw[h1.get (by rw[<-h1.len];exact hi)];exact List.getElem_mem _
end
theorem CK {av df:List Int} {p:Nat}:∀{k:Nat} {x:dh},x∈gF av df p k->∃i,i<k/\x=⟨(i:Int),av.getD i 0-kE av df p i⟩/\0<av.getD i 0-kE av df p i
 |0,x,h=>by simp[gF] at h
 |k+1,x,h=>by
  rw[gF,List.mem_append] at h;rcases h with h|h
  ·obtain⟨i,h1,h2⟩:=CK h;exact⟨i,by omega,h2⟩
  ·split at h
   ·rename_i hp;rw[List.mem_singleton] at h;exact⟨k,by omega,h,hp⟩
   ·simp at h
theorem gA.I2 {pr:Int} {av df:List Int} (h:gA pr av df) {p:Nat} {x:dh} (hx:x∈gF av df p av.length):0<x.b/\x.b<=131072/\0<=x.a/\x.a<av.length:=by
 obtain⟨i,hi,rfl,h2⟩:=CK hx;have h3:=h.a hi;have h4:=h.AO hi p;exact⟨h2,by simp only;omega,by simp only;omega,by simp only;omega⟩
def kF (s:Int) (gs:List dh):Nat->Int
 |0=>s
 |k+1=>kF s gs k+(gs.getD k ⟨0,0⟩).b
theorem AQ {s:Int} {gs:List dh} (h:∀x∈gs,0<x.b/\x.b<=131072):∀k,k<=gs.length->s<=kF s gs k/\kF s gs k<=s+131072*(k:Int)
 |0,_=>by unfold kF;omega
 |k+1,hk=>by
  have h1:=AQ (s:=s) h k (by omega);have h2:=h _ (List.getElem_mem (show k<gs.length by omega));rw[kF,iJ (show k<gs.length by omega)];constructor<;>omega
def rM (lo hi s:Int):Int:=if hi<=s then 2 else if lo<=s then 1 else 0
def sL (pr:Int) (av df:List Int) (lo hi:Int) (p:Nat) (fl:List Int) (ok:Bool):Prop:=
 (¬(lo<=jC pr av df p av.length/\jC pr av df p av.length<hi)/\ok=false/\fl=[])\/
 ((lo<=jC pr av df p av.length/\jC pr av df p av.length<hi)/\∃gs k,gp jQ (gF av df p av.length) gs/\k<=gs.length/\(∀j,j<k->kF (jC pr av df p av.length) gs j<hi)/\
  ((kF (jC pr av df p av.length) gs k<hi/\k=gs.length/\ok=false/\fl=[])\/(hi<=kF (jC pr av df p av.length) gs k/\ok=true/\gp gn ((gs.take k).map (·.a)) fl)))
structure bZ where
 r:dh
 ver:Int
 eF:Int
 ch:Int
 deriving DecidableEq
instance:bF bZ:=bF.via (λx:bZ=>(x.r,(x.ver,(x.eF,x.ch))))
instance:Inhabited bZ:=⟨⟨⟨0,0⟩,0,0,0⟩⟩
abbrev fP (x:bZ):List Value:=[.int .i64 x.r.a,.int .i64 x.r.b,.int .i64 x.ver,.int .i64 x.eF,.int .i64 x.ch]
structure bP where
 A:dh
 B:dh
 aI:Int
 ek:Int
 same:Bool
 deriving DecidableEq
instance:bF bP:=bF.via (λx:bP=>(x.A,(x.B,(x.aI,(x.ek,x.same)))))
instance:Inhabited bP:=⟨⟨⟨0,0⟩,⟨0,0⟩,0,0,false⟩⟩
abbrev fk (x:bP):List Value:=[.int .i64 x.A.a,.int .i64 x.A.b,.int .i64 x.B.a,.int .i64 x.B.b,.int .i64 x.aI,.int .i64 x.ek,.bool x.same]
section
variable {w:World} {M:Nat->Prop} {b o:Nat} {v:Value}
theorem EU {h:Array Obj} {x:bZ} {vs:List Value}:rep h M x vs↔vs=fP x:=
 ⟨λhr=>by
   obtain⟨us,ws,rfl,h1,wR,AU,rfl,h2,AV,CL,rfl,h3,h4⟩:=hr;have e1:=(qO (M:=M) (h:=h) (x:=x.r)).1 h1;have e2:wR=[.int .i64 x.ver]:=h2;have iA:AV=[.int .i64 x.eF]:=h3;have mq:CL=[.int .i64 x.ch]:=h4;subst e1 e2 iA mq;rfl,
  λhr=>by
   subst hr;exact⟨dU x.r,[.int .i64 x.ver,.int .i64 x.eF,.int .i64 x.ch],rfl,(qO (M:=M)).2 rfl,[_],[_,_],rfl,rfl,[_],[_],rfl,rfl,rfl⟩⟩
theorem n5 {x:bZ}:aF w M x v↔v=.agg (fP x).toArray:=
 ⟨λh=>by obtain⟨vs,h1,h2⟩:=h;rw[EU.1 h1] at h2;exact h2,λh=>⟨_,EU.2 rfl,h⟩⟩
theorem tC {h:Array Obj} {x:bP} {vs:List Value}:rep h M x vs↔vs=fk x:=
 ⟨λhr=>by
   obtain⟨us,ws,rfl,h1,wR,AU,rfl,h2,AV,CL,rfl,h3,Po,Pp,rfl,h4,h5⟩:=hr;have e1:=(qO (M:=M) (h:=h) (x:=x.A)).1 h1;have e2:=(qO (M:=M) (h:=h) (x:=x.B)).1 h2;have iA:AV=[.int .i64 x.aI]:=h3;have mq:Po=[.int .i64 x.ek]:=h4;have AW:Pp=[.bool x.same]:=h5;subst e1 e2 iA mq AW;rfl,
  λhr=>by
   subst hr;exact⟨dU x.A,dU x.B++[.int .i64 x.aI,.int .i64 x.ek,.bool x.same],rfl,(qO (M:=M)).2 rfl,dU x.B,[_,_,_],rfl,(qO (M:=M)).2 rfl,[_],[_,_],rfl,rfl,[_],[_],rfl,rfl,rfl⟩⟩
theorem nI {x:bP}:aF w M x v↔v=.agg (fk x).toArray:=
 ⟨λh=>by obtain⟨vs,h1,h2⟩:=h;rw[tC.1 h1] at h2;exact h2,λh=>⟨_,tC.2 rfl,h⟩⟩
end
def iF (x y:bZ):Int:=nu [nH x.r y.r,gn x.ver y.ver,gn x.eF y.eF]
def fZ (x y:bP):Int:=nu [tq x.A x.B y.A y.B,gn x.aI y.aI,gn x.ek y.ek]
def fV (n:Int):Bool:=decide (1<=n/\n<=1048576)
def CM (x:bZ):Prop:=iU x.r=true/\fV x.ver=true/\0<=x.eF/\x.eF<5/\0<=x.ch/\x.ch<=64
def AX (x:bP):Prop:=iO x.A x.B=true/\fV x.aI=true/\fV x.ek=true
structure u_ (aK:Int) (sh:List bZ) (ds:List bP):Prop where
 b0:0<=aK
 b1:aK<=65536
 ls:sh.length<=4096
 ld:ds.length<=4096
 so:∀i (h:i<sh.length),CM sh[i]
 sa:∀i (h:i+1<sh.length),iF sh[i] sh[i+1]<0
 Pq:∀i (h:i<ds.length),AX ds[i]
 da:∀i (h:i+1<ds.length),fZ ds[i] ds[i+1]<0
structure Key where
 comps:List dh
instance:bF Key where
 sz:=1
 agg:=true
 flat h:=by cases h
 rep h M x vs:=rep h M x.comps vs
 len h:=bF.len (α:=List dh) h
 one h:=bF.one (α:=List dh) h
 keep h hk:=bF.keep (α:=List dh) h hk
 sub h hk:=bF.sub (α:=List dh) h hk
structure Pr where
 val:Value
 one:val.oneCell'=true
instance:bF Pr where
 sz:=1
 agg:=false
 flat _:=rfl
 rep _ _ x vs:=vs=[x.val]
 len h:=by subst h;rfl
 one h:=by subst h;rename_i x;intro v hv;simp at hv;subst hv;exact x.one
 keep h _:=h
 sub h _:=h
section
variable {w:World} {M:Nat->Prop} {b o:Nat} {v:Value}
end
def idxOf {α:Type} (p:α->Bool) (l:List α):Int:=if l.any p then(l.findIdx p:Int) else-1
theorem EV {α:Type} {p:α->Bool} {l:List α} {k:Nat} (h:k<l.length) (h0:∀i (hi:i<k),p (l[i]'(by omega))=false) (hp:p l[k]=true):idxOf p l=k:=by
 unfold idxOf;rw[if_pos (List.any_eq_true.2 ⟨l[k],List.getElem_mem h,hp⟩)];have:l.findIdx p=k:=(List.findIdx_eq h).2 ⟨hp,λj hj=>by simpa using h0 j hj⟩;rw[this]
theorem EW {α:Type} {p:α->Bool} {l:List α} (h0:∀i (hi:i<l.length),p l[i]=false):idxOf p l= -1:=by
 unfold idxOf;rw[if_neg];intro h;obtain⟨x,hx,hp⟩:=List.any_eq_true.1 h;obtain⟨i,hi,rfl⟩:=List.mem_iff_getElem.1 hx;rw[h0 i hi] at hp;cases hp
theorem EX {α:Type} {p:α->Bool} {l:List α}:decide (0<=idxOf p l)=l.any p:=by
 unfold idxOf;cases h:l.any p
 ·rfl
 ·simp only[if_true];exact decide_eq_true (by omega)
section
variable {α:Type} [bF α] {w w':World} {C cO D D':Nat->Nat} {I:List Nat} {e:TypeId} {v:Value} {ys:List α} {x:α} {j j1 i b:Nat} {t:TypeId}
theorem cC.jD (h:cC w' cO j1 e v ys) (hs:aH I w D w' cO) (hF:bA w C) (fH:aA D=aA C) (hj:∀b,b<w.heap.size->D b≠j1) (h1:j1≠0) (j:Nat) (hjj:j≠0):
  ∃bL,(∀b,b<w.heap.size->bL b=C b)/\bA w' bL/\(∀b,aA bL b->aA cO b)/\cC w' bL j e v ys:=by
 have old:∀b,aA C b->aA cO b:=λb hb=>by
  have hlt:=hF b hb;unfold aA;rw[hs.col b hlt];have:aA D b:=by rw[fH];exact hb
  exact this
 have fresh:∀b,fE v b->¬b<w.heap.size:=λb hb hlt=>hj b hlt (by rw[<-hs.col b hlt];exact h.col b hb);refine⟨mX C v j,λb hb=>?_,λb hb=>?_,λb hb=>?_,⟨h.own.sub (λb _ hb=>?_) (λb hb=>?_),λb hb=>?_⟩⟩
 ·unfold mX;rw[if_neg (show¬v.ownBlock=some b from λe=>fresh b e hb)]
 ·by_cases ho:fE v b
  ·exact(h.own.iz b ho).2
  ·unfold mX at hb;rw[if_neg (show¬v.ownBlock=some b from ho)] at hb;exact Nat.lt_of_lt_of_le (hF b hb) hs.size
 ·by_cases ho:fE v b
  ·unfold aA;rw[h.col b ho];exact h1
  ·unfold aA mX at hb;rw[if_neg (show¬v.ownBlock=some b from ho)] at hb;exact old b hb
 ·by_cases ho:fE v b
  ·unfold aA;rw[h.col b ho];exact h1
  ·unfold aA mX at hb;rw[if_neg (show¬v.ownBlock=some b from ho)] at hb;exact old b hb
 ·unfold aA mX;rw[if_pos (show v.ownBlock=some b from hb)];exact hjj
 ·unfold mX;rw[if_pos (show v.ownBlock=some b from hb)]
theorem aH.jD {bL:Nat->Nat} (h:aH I w C w' D') (hc:∀b,b<w.heap.size->bL b=C b):aH I w C w' bL:=⟨h.ext,hc⟩
theorem aF.jD {bL:Nat->Nat} (h:aF w' (aA cO) x v) (pO:∀b,aA bL b->aA cO b):aF w' (aA bL) x v:=h.sub (λb _ hb=>pO b hb)
end
section
variable {α:Type} [bF α] {P:Program} {N:Nat} {env:Env} {w:World} {M:Nat->Prop} {t e e':TypeId} {v s:Value} {x y z q:Operand} {xs ys zs:List α}
theorem I3 {zs:List α} {sb so:Nat} {qG:Array Value} {As:TypeId} {Au:Nat×Nat} (hsc:w.heap[sb]?=some (.cells qG As Au)) (hsl:so+zs.length*sz α<=qG.size)
  (Av:∀k (hk:k<zs.length),rep w.heap M zs[k] (cB qG (so+k*sz α) (sz α))):
  ∃news:List Value,news.length=zs.length*sz α/\(∀j v,news[j]?=some v->w.cell? ((⟨sb,so,none⟩:Addr).add j)=some v)/\∀k (hk:k<zs.length),rep w.heap M zs[k] (cB news.toArray (k*sz α) (sz α)):=by
 obtain⟨news,Aw⟩:∃news,news=cB qG so (zs.length*sz α):=⟨_,rfl⟩
 have hnl:news.length=zs.length*sz α:=by
  rw[Aw];simp only[cB,List.length_take,List.length_drop,Array.length_toList];omega
 have sD:∀j,j<zs.length*sz α->news[j]?=qG[so+j]?:=λj hj=>by
  rw[Aw];simp only[cB,List.getElem?_take,if_pos hj,List.getElem?_drop];simp
 refine⟨news,hnl,λj v hv=>?_,λk hk=>?_⟩
 ·have hj:j<zs.length*sz α:=by rw[<-hnl];exact(List.getElem?_eq_some_iff.1 hv).1
  rw[oW,cell_of_row w sb (so+j) qG As Au hsc,<-sD j hj,hv]
 ·have:=Av k hk;rwa [show cB qG (so+k*sz α) (sz α)=cB news.toArray (k*sz α) (sz α) from sA (λj hj=>by
   have hb:k*sz α+j<zs.length*sz α:=by
    have:=Nat.mul_le_mul_right (sz α) (show k+1<=zs.length from hk);rw[Nat.succ_mul] at this;omega
   rw[show∀m,news.toArray[m]?=news[m]? from λm=>by simp,sD _ hb,Nat.add_assoc])] at this
theorem Pt {bytes:Nat} {a:Option Addr} (hx:ev env x=some (.slice a ys.length ys.length)) (hy:ev env y=some s) (hrow:o_ P t e (sz α) bytes=true) (hsz:0<sz α)
  (hown:aF w M ys (.slice a ys.length ys.length)) (hsrc:aF w M zs s) (yT:zs≠[]) (hlen: (ys.length+zs.length)*bytes<=140737488355328) (h63:ys.length+zs.length<=140737488355328):
  iY P N env (.call {callee:=.builtin .append,args:=#[x,y],argTypes:=#[t,t]}) w (λv' w'=>
   k7 w' (λb=>fE v' b\/M b) e v' (ys++zs)/\Ext (λ_=>False) w w'/\(∀b,fE v' b->w.heap.size<=b)):=qm λρ hρ gi ic=>by
 obtain⟨i,z,hu,hi,qF,hby,hz,hzs⟩:=sB hrow;obtain⟨a2,c,rfl,hcap,hl0,Ck⟩:=mL.1 hsrc;have key:∃v' w',(Builtin.append_ #[t,t] gi.type #[.slice a ys.length ys.length,.slice a2 zs.length c]).run P w=.ok v' w'/\
   k7 w' (λb=>fE v' b\/M b) e v' (ys++zs)/\Ext (λ_=>False) w w'/\(∀b,fE v' b->w.heap.size<=b):=by
  rcases Ck with h|⟨sb,so,rfl,hsb,qG,As,Au,hsc,hsl,Av⟩
  ·exact absurd h yT
  ·have hm0:0<zs.length:=List.length_pos_iff.2 yT;obtain⟨news,hnl,hnews,Ax⟩:=I3 (w:=w) (M:=M) hsc hsl Av;have u0:news.length=zs.length*i.size:=by rw[hnl,qF]
   have fresh:∀(olds:List Value) (cap:Nat) (o:Obj),olds.length=ys.length*sz α->(∀k (hk:k<ys.length),rep w.heap M ys[k] (cB olds.toArray (k*sz α) (sz α)))->
     o=.cells (olds.toArray++news.toArray++Builtin.zeroCells z.cells (cap-(ys.length+zs.length))) e (0,0)->ys.length+zs.length<=cap->
     k7 (w.drew.alloc o) (λb=>fE (.slice (some ⟨w.heap.size,0,none⟩) (ys.length+zs.length) cap) b\/M b) e (.slice (some ⟨w.heap.size,0,none⟩) (ys.length+zs.length) cap) (ys++zs):=by
    intro olds cap o holds wG ho EC;subst ho;have hnew:=tW w (.cells (olds.toArray++news.toArray++Builtin.zeroCells z.cells (cap-(ys.length+zs.length))) e (0,0));refine .inr ⟨w.heap.size,cap,_,by rw[List.length_append],.inl rfl,hnew.at_,by rw[List.length_append];exact EC,?_,?_⟩
    ·simp only[Array.size_append,List.size_toArray,size_zeroCells,hzs,holds,hnl,<-Nat.add_mul];congr 1;omega
    ·intro k hk;rw[List.length_append] at hk;have hkeep:∀(x:α) (vs:List Value),rep w.heap M x vs->rep (w.drew.alloc (.cells (olds.toArray++news.toArray++Builtin.zeroCells z.cells (cap-(ys.length+zs.length))) e (0,0))).heap
       (λb=>fE (.slice (some ⟨w.heap.size,0,none⟩) (ys.length+zs.length) cap) b\/M b) x vs:=λx vs hr=>
      bF.keep (bF.sub hr (λb hb h=>h.elim (λe=>by simp only[fE,Value.ownBlock,Option.some.injEq] at e;omega) id)) (λb hb _=>hnew.ext.block b hb (λh=>h))
     by_cases sE:k<ys.length
     ·rw[List.getElem_append_left sE];have:=wG k sE;rw[show cB olds.toArray (k*sz α) (sz α)=cB (olds.toArray++news.toArray++Builtin.zeroCells z.cells (cap-(ys.length+zs.length))) (k*sz α) (sz α) from sA (λj hj=>by
       have hb:k*sz α+j<ys.length*sz α:=by
        have:=Nat.mul_le_mul_right (sz α) (show k+1<=ys.length from sE);rw[Nat.succ_mul] at this;omega
       rw[Array.append_assoc,Array.getElem?_append_left (by simpa[holds] using hb)])] at this
      exact hkeep _ _ this
     ·rw[List.getElem_append_right (by omega)];have u5:k-ys.length<zs.length:=by omega
      have:=Ax (k-ys.length) u5;rw[show cB news.toArray ((k-ys.length)*sz α) (sz α)=cB (olds.toArray++news.toArray++Builtin.zeroCells z.cells (cap-(ys.length+zs.length))) (k*sz α) (sz α) from sA (λj hj=>by
       have hb: (k-ys.length)*sz α+j<zs.length*sz α:=by
        have:=Nat.mul_le_mul_right (sz α) (show k-ys.length+1<=zs.length from u5);rw[Nat.succ_mul] at this;omega
       have he:k*sz α=ys.length*sz α+(k-ys.length)*sz α:=by rw[<-Nat.add_mul];congr 1;omega
       rw[Array.getElem?_append_left (by simp only[Array.size_append,List.size_toArray,holds,hnl];omega),Array.getElem?_append_right (by simp only[List.size_toArray,holds];omega)];congr 1;simp only[List.size_toArray,holds];omega)] at this
      exact hkeep _ _ this
   by_cases hys:ys=[]
   ·subst hys;rcases a with _|ab
    case' some=>
     have hr:=run_append_grow (P:=P) w t gi.type e i z hu hi hz ab 0 0 [] (by simp) (λj v hv=>by simp at hv) ⟨sb,so,none⟩ zs.length c news u0 hnews (by omega) (by omega)
      (growslice_fits (by omega) (by rw[hby];exact hlen))
     have hfr:=fresh [] (grownCap w (0+zs.length) 0 e) _ (by simp) (λk hk=>by simp at hk) rfl (grownCap_ge w _ _ e);refine⟨_,_,hr,hfr,?_,?_⟩
     ·exact(tW w _).ext.mono (λb hb h=>h.elim)
     ·intro b hb;simp only[fE,Value.ownBlock,Option.some.injEq] at hb;omega
    have hr:=run_append_nil (P:=P) w t gi.type e i z hu hi hz ⟨sb,so,none⟩ zs.length c news u0 hnews hm0 (by omega)
     (by rw[hby];simp only[List.length_nil,Nat.zero_add] at hlen;omega)
    have hfr:=fresh [] (grownCap w zs.length 0 e) _ (by simp) (λk hk=>by simp at hk) rfl (by simpa using grownCap_ge w zs.length 0 e);simp only[List.length_nil,Nat.zero_add,List.nil_append] at hfr;refine⟨_,_,hr,?_,?_,?_⟩
    ·simpa using hfr
    ·exact(tW w _).ext.mono (λb hb h=>h.elim)
    ·intro b hb;simp only[fE,Value.ownBlock,Option.some.injEq] at hb;omega
   ·obtain⟨a3,c3,Pu,_,_,Pv⟩:=mL.1 hown;injection Pu with h1 h2 h3;subst h1;rcases Pv with h|⟨iz,Pw,eu,WJ,WK,WL,WM,Px,I4,Py⟩
    ·exact absurd h hys
    ·subst eu;obtain⟨olds,yU,holds,wG⟩:=I3 (w:=w) (M:=M) Px I4 Py;have hr:=run_append_grow (P:=P) w t gi.type e i z hu hi hz ⟨iz,Pw,none⟩ ys.length ys.length olds (by rw[qF];exact yU) holds ⟨sb,so,none⟩ zs.length c news u0 hnews (by omega) (by omega)
      (growslice_fits (by omega) (by rw[hby];exact hlen))
     have hfr:=fresh _ (grownCap w (ys.length+zs.length) ys.length e) _ yU wG rfl (grownCap_ge w _ _ e);refine⟨_,_,hr,hfr,?_,?_⟩
     ·exact(tW w _).ext.mono (λb hb h=>h.elim)
     ·intro b hb;simp only[fE,Value.ownBlock,Option.some.injEq] at hb;omega
 obtain⟨v',w',hrun,hpost⟩:=key;refine⟨v',w',.inl ?_,hpost⟩;unfold execOp;rw[ic];simp[hρ _ _ hx,hρ _ _ hy,resolve,invoke,builtin,hrun]
end
section
variable {α:Type} [bF α] {P:Program} {N:Nat} {env:Env} {w w':World} {C bL:Nat->Nat} {I:List Nat} {t e e':TypeId} {v s:Value} {y z:Operand} {xs ys zs:List α} {j b n ty:Nat} {iz WN:Obj}
theorem CN {bytes:Nat} {a:Option Addr} (hF:bA w C) (hj:j≠0) (hx:ev env y=some (.slice a ys.length ys.length)) (hy:ev env z=some s) (hrow:o_ P t e (sz α) bytes=true) (hsz:0<sz α)
  (hown:aF w (aA C) ys (.slice a ys.length ys.length)) (hsrc:aF w (aA C) zs s) (yT:zs≠[]) (hlen: (ys.length+zs.length)*bytes<=140737488355328) (h63:ys.length+zs.length<=140737488355328):
  iY P N env (.call {callee:=.builtin .append,args:=#[y,z],argTypes:=#[t,t]}) w (λv' w'=>∃bL,aH [] w C w' bL/\cC w' bL j e v' (ys++zs)/\bA w' bL):=λa' jP gi ic=>by
 obtain⟨v',w',h1,h2,h3,h4⟩:=Pt (P:=P) (N:=N) hx hy hrow hsz hown hsrc yT hlen h63 a' jP gi ic;have nF:∀b,b<w.heap.size->mX C v' j b=C b:=λb hb=>by
  unfold mX;split
  ·rename_i e;have:=h4 b e;omega
  ·rfl
 refine⟨v',w',h1,mX C v' j,⟨h3.mono (λb _ hb=>hb.elim),nF⟩,⟨h2.sub (λb hb hc=>?_) (λb hb=>?_),λb hb=>?_⟩,λb hb=>?_⟩
 ·by_cases ho:fE v' b
  ·exact .inl ho
  ·right;unfold aA mX at hc;rw[if_neg (show¬v'.ownBlock=some b from ho)] at hc;exact hc
 ·unfold aA mX;rw[if_pos (show v'.ownBlock=some b from hb)];exact hj
 ·unfold mX;rw[if_pos (show v'.ownBlock=some b from hb)]
 ·by_cases ho:fE v' b
  ·exact(h2.iz b ho).2
  ·unfold mX at hb;rw[if_neg (show¬v'.ownBlock=some b from ho)] at hb;exact Nat.lt_of_lt_of_le (hF b hb) h3.size
theorem ck.EY {x:α} {vs:List Value} (h:ck w C j b (.cells vs.toArray ty)) (hj:n<=j) (hr:rep w.heap (aA (K.cD n C)) x vs):dF w (aA (K.cD n C)) x b 0:=by
 refine⟨h.OB hj,_,_,_,h.at_,?_⟩;have hl:=bF.len hr;have:cB vs.toArray 0 (sz α)=vs:=by simp[cB,<-hl]
 rw[this];exact hr
end
end Go.K
namespace Go.K
open bF
section
variable {α:Type} [bF α] {w:World} {C:Nat->Nat} {P:Program} {f:FuncId} {N:Nat} {k:List Item} {R:Value->World->Prop} {Q:Exit->Act->World->Prop} {env:Env} {ops:Array Oper} {S:World->Prop} {i t:Nat} {L:List (Nat×Bool)} {v:Value} {y z q:Operand} {mK:Option (Nat×Bool)} {ty e e':TypeId} {xs:List α} {kd WO:IntKind}
end
theorem Pz {l:List Int} {u:Int}: (l.any λy=>decide (u=y))=decide (u∈l):=by
 rw[Bool.eq_iff_iff];simp only[List.any_eq_true,decide_eq_true_eq];exact⟨λ⟨y,h,e⟩=>by rw[e];exact h,λh=>⟨u,h,rfl⟩⟩
def qo (r:dh) (ver eF:Int) (s:bZ):Bool:=decide (s.r=r/\s.ver=ver/\s.eF=eF)
def jE (sh:List bZ) (r:dh) (ver eF:Int):Bool:=sh.any (qo r ver eF)
theorem I5 {w:World} {M:Nat->Prop} {x:Int}:rep w.heap M x [.int .i64 x]:=rfl
def dw (sh:List bZ) (r:dh) (ver:Int) (vals:List ByteArray) (fl:List Int):Nat->List bZ
 |0=>[]
 |k+1=>dw sh r ver vals fl k++if(k:Int)∈fl/\jE sh r ver k=false then[⟨r,ver,k,((vals.getD k ByteArray.empty).size:Nat)⟩] else[]
def eP (l:List bZ):Int:=(l.map (·.ch)).sum
theorem EZ (l m:List bZ):eP (l++m)=eP l+eP m:=by simp[eP]
theorem uc (sh:List bZ) (r:dh) (ver:Int) (vals:List ByteArray) (fl:List Int):∀k,(dw sh r ver vals fl k).length<=k
 |0=>by simp[dw]
 |k+1=>by
  have:=uc sh r ver vals fl k;rw[dw,List.length_append];split<;>simp only[List.length_cons,List.length_nil]<;>omega
theorem yW {sh:List bZ} {r:dh} {ver:Int} {vals:List ByteArray} {fl:List Int} (h:∀i (hi:i<vals.length),(vals[i]).size<=64):∀k,k<=vals.length->0<=eP (dw sh r ver vals fl k)/\eP (dw sh r ver vals fl k)<=64*(k:Int)
 |0,_=>by simp[dw,eP]
 |k+1,hk=>by
  have h1:=yW (sh:=sh) (r:=r) (ver:=ver) (fl:=fl) h k (by omega);have h2:=h k (by omega);rw[dw,EZ];split
  ·rw[iJ (show k<vals.length by omega)];simp only[eP,List.map_cons,List.map_nil,List.sum_cons,List.sum_nil];unfold eP at h1;constructor<;>omega
  ·simp only[eP,List.map_nil,List.sum_nil];unfold eP at h1;constructor<;>omega
end Go.K
namespace Go.K
theorem CO (x:Int):IntKind.i64.wrap x=(x+9223372036854775808)%18446744073709551616-9223372036854775808:=by
 have e1: (2^IntKind.i64.bits:Int)=18446744073709551616:=by decide
 have e2: (2^(IntKind.i64.bits-1):Int)=9223372036854775808:=by decide
 unfold IntKind.wrap;simp only[e1,e2,show IntKind.i64.signed=true from rfl,Bool.true_and];by_cases h:x%18446744073709551616>=9223372036854775808
 ·rw[if_pos (decide_eq_true h)];omega
 ·rw[if_neg (by rw[decide_eq_false h];simp)];omega
theorem I6 (a b:Int):IntKind.i64.wrap (IntKind.i64.wrap a+b)=IntKind.i64.wrap (a+b):=by
 rw[CO,CO,CO];omega
theorem E0 {a:Int} (h:0<=a) (h2:a<=9223372036854775807):IntKind.i64.wrap a=a:=by rw[CO];omega
end Go.K
namespace Go.K
open bF
section
variable {α:Type} [bF α] {P:Program} {N:Nat} {env:Env} {w w':World} {C bL:Nat->Nat} {t e u:TypeId} {v s:Value} {x y z:Operand} {a b:Addr} {l c n:Nat} {M:Nat->Prop}
theorem yX (hx:ev env x=some (.slice (some b) l c)) (ht:P.underlying t=some (.slice e)):ew P N env (.binOp .eql t x (.const (.slice none 0 0)) u) w (.bool false):=mk' λρ hρ o ho=>by
 unfold execOp;rw[ho];have hc:ρ (.const (.slice none 0 0))=.slice none 0 0:=hρ _ _ rfl;have h1: (Op.equalIn Op.maxDepth t (.slice (some b) l c) (.slice none 0 0)).run P w=.ok false w:=by rw[show Op.maxDepth=9999+1 from rfl,Op.equalIn];simp[run_underlying ht]
 simp[hρ _ _ hx,hc,go_sem,eqGuard,binOp,Op.equal,h1]
theorem E1 (hx:ev env x=some (.slice none l c)) (ht:P.underlying t=some (.slice e)):ew P N env (.binOp .eql t x (.const (.slice none 0 0)) u) w (.bool true):=mk' λρ hρ o ho=>by
 unfold execOp;rw[ho];have hc:ρ (.const (.slice none 0 0))=.slice none 0 0:=hρ _ _ rfl;have h1: (Op.equalIn Op.maxDepth t (.slice none l c) (.slice none 0 0)).run P w=.ok true w:=by rw[show Op.maxDepth=9999+1 from rfl,Op.equalIn];simp[run_underlying ht]
 simp[hρ _ _ hx,hc,go_sem,eqGuard,binOp,Op.equal,h1]
theorem yY {bytes:Nat} (hF:bA w C) (hrow:o_ P t e n bytes=true):iY P N env (.buildSlice t 0 #[]) w (λv w'=>(∃a,v=.slice (some a) 0 0)/\aH [] w C w' C/\bA w' C):=qm λρ hρ gi ic=>by
 obtain⟨i,z,hu,hi,hsi,hby,hz,hzs⟩:=sB hrow;have AA: (sizeOf e).run P w=.ok n w:=by simp[sizeOf,typeInfo,hi,hsi]
 have hnew:=yq w (.cells #[] e);have hrun: (Instr.buildSlice t 0 #[]).run P w=.ok (.slice (some ⟨w.heap.size,0,none⟩) 0 0) (w.alloc (.cells #[] e)):=by
  unfold Instr.buildSlice;simp[run_underlying hu,AA,Instr.fill,newRow,show Array.range 0=(#[]:Array Nat) from by simp[Array.range]]
 refine⟨.slice (some ⟨w.heap.size,0,none⟩) 0 0,w.alloc (.cells #[] e),.inl ?_,⟨_,rfl⟩,hnew.st C,hF.st (hnew.st C)⟩;unfold execOp;rw[ic];simp only[Sem.run_bind];rw[show Array.map (λx:Nat×Operand=>(x.fst,ρ x.snd)) #[]=#[] from by simp,hrun];rfl
theorem E2 {bytes:Nat} (hx:ev env x=some (.slice (some a) 0 0)) (hy:ev env y=some s) (hrow:o_ P t e (sz α) bytes=true) (hsrc:aF w M ([]:List α) s):
  iY P N env (.call {callee:=.builtin .append,args:=#[x,y],argTypes:=#[t,t]}) w (λv' w'=>v'=.slice (some a) 0 0/\aH [] w C w' C):=qm λρ hρ gi ic=>by
 obtain⟨i,z,hu,hi,qF,hby,hz,hzs⟩:=sB hrow;obtain⟨a2,c,rfl,hcap,hl0,Ck⟩:=mL.1 hsrc;have hf: (Builtin.firstCells i.size 0 (.slice a2 0 c)).run P w=.ok #[] w:=by cases a2<;>simp[Builtin.firstCells,loadCells,loadCellsFrom]
 have hrun: (Builtin.append_ #[t,t] gi.type #[.slice (some a) 0 0,.slice a2 0 c]).run P w=.ok (.slice (some a) 0 0) w:=by
  simp[Builtin.append_,run_underlying hu,sizeOf,typeInfo,hi,Builtin.lenOf,hf,storeCells]
 refine⟨_,w,.inl ?_,rfl,aH.refl _ _ _⟩;unfold execOp;rw[ic];simp[hρ _ _ hx,hρ _ _ hy,resolve,invoke,builtin,hrun]
theorem wS {a:Addr}:aF w M ([]:List α) (.slice (some a) 0 0):=mL.2 ⟨_,0,rfl,Nat.le_refl _,by simp,.inl rfl⟩
end
section
variable {α:Type} [bF α] {P:Program} {N:Nat} {env:Env} {w:World} {C:Nat->Nat} {t ti e j n l c:Nat} {y z:Operand} {a:Addr}
theorem PA {bytes:Nat} (hF:bA w C) (hj:j≠0) (hy:ev env y=some (.slice none 0 0)) (hz:ev env z=some (.int .i64 n)) (hrow:o_ P t e (sz α) bytes=true) (hsz:0<sz α) (hby:bytes<=100000)
  (E3:P.underlying ti=some (.int .i64)) (h0:0<n) (hn:n<=1000000):
  iY P N env (.call {callee:=.builtin .append,args:=#[y,z],argTypes:=#[t,ti]}) w (λv w'=>∃bL g cap,v=.slice (some ⟨g,0,none⟩) n cap/\aH [] w C w' bL/\cC w' bL j e (.slice (some ⟨g,0,none⟩) 0 cap) ([]:List α)/\bA w' bL):=qm λρ hρ gi ic=>by
 obtain⟨i,fW,hu,hi,hsi,hb,yD,hzs⟩:=sB hrow;have hr:=Lib.run_append_nil_zeros (P:=P) w t ti gi.type e i fW .i64 .i64 hu E3 hi yD n h0 (by rw[hsi];exact hsz) (by omega) (by rw[hb];have:=Nat.mul_le_mul hn hby;omega);have hge:=grownCap_ge w n 0 e;obtain⟨cap,hcap⟩:∃cap,cap=grownCap w n 0 e:=⟨_,rfl⟩
 rw[<-hcap] at hr hge;have wT:=tW w (.cells (Builtin.zeroCells fW.cells n++Builtin.zeroCells fW.cells (cap-n)) e (0,0));obtain⟨bL,h1,h2,h3⟩:=wT.own hF j;refine⟨_,_,.inl ?_,bL,_,cap,rfl,h1,⟨.inr ⟨w.heap.size,cap,_,rfl,?_,h2.at_,Nat.zero_le _,?_,λk hk=>by simp at hk⟩,λb hb=>?_⟩,h3⟩
 ·unfold execOp;rw[ic];simp[hρ _ _ hy,hρ _ _ hz,resolve,invoke,builtin,hr]
 ·unfold aA;rw[h2.col];exact hj
 ·rw[Array.size_append,size_zeroCells,size_zeroCells,hzs,<-Nat.add_mul];congr 1;omega
 ·simp only[fE,Value.ownBlock,Option.some.injEq] at hb;subst hb;exact h2.col
theorem E4 {b:Option Addr} (hx:ev env y=some (.slice b l c)) (ht:P.underlying t=some (.slice e)):
  ew P N env (.call {callee:=.builtin .cap,args:=#[y],argTypes:=#[t]}) w (.int .i64 c):=mk' λρ hρ o ho=>by
 unfold execOp;rw[ho];simp[hρ _ _ hx,go_sem,resolve,invoke,builtin,Builtin.cap_,run_underlying ht,goInt]
theorem PB (hx:ev env y=some (.slice none 0 0)) (hz:ev env z=some (.int .i64 0)) (hu:P.underlying t=some (.slice e)) (hi: (P.info? e).isSome=true):ew P N env (.slice t y none (some z) none) w (.slice none 0 0):=mk' λρ hρ o ho=>by
 obtain⟨i,hi⟩:=Option.isSome_iff_exists.1 hi;unfold execOp;rw[ho];simp[hρ _ _ hx,hρ _ _ hz,Instr.sliceAt,Instr.slice,run_underlying hu,Instr.sliceBounds,Instr.sliceBound,asIntOf,sizeOf,typeInfo,hi]
theorem PD {g:Nat} (hx:ev env y=some (.slice (some ⟨g,0,none⟩) l c)) (hz:ev env z=some (.int .i64 0)) (hu:P.underlying t=some (.slice e)) (hi: (P.info? e).isSome=true):ew P N env (.slice t y none (some z) none) w (.slice (some ⟨g,0,none⟩) 0 c):=mk' λρ hρ o ho=>by
 obtain⟨i,hi⟩:=Option.isSome_iff_exists.1 hi;unfold execOp;rw[ho];simp[hρ _ _ hx,hρ _ _ hz,Instr.sliceAt,Instr.slice,run_underlying hu,Instr.sliceBounds,Instr.sliceBound,asIntOf,sizeOf,typeInfo,hi];exact λ_=>rfl
end
section
variable {α:Type}
theorem CP {ll:List (List α)} {k:Nat} (h:k<ll.length): (ll.take (k+1)).flatten=(ll.take k).flatten++ll[k]:=by
 rw[List.take_succ_eq_append_getElem h,List.flatten_append];simp
theorem ve {ll:List (List α)} (k:Nat): (ll.take k).flatten.length<=ll.flatten.length:=by
 have:ll.flatten.length=(ll.take k).flatten.length+(ll.drop k).flatten.length:=by rw[<-List.length_append,<-List.flatten_append,List.take_append_drop]
 omega
end
def ow (x y:bZ):Prop:=x.r.a<y.r.a\/(x.r.a=y.r.a/\(x.r.b<y.r.b\/(x.r.b=y.r.b/\(x.ver<y.ver\/(x.ver=y.ver/\x.eF<y.eF)))))
theorem tD {x y:Int}:gn x y=0↔x=y:=by unfold gn;split<;>(try split)<;>omega
theorem ud {x y:Int}:0<gn x y↔y<x:=by unfold gn;split<;>(try split)<;>omega
theorem ue (a b c:Int):nu [a,b,c]=if a≠0 then a else if b≠0 then b else c:=by
 unfold nu;by_cases h:a=0
 ·simp[h];unfold nu;by_cases h2:b=0
  ·simp[h2,nu];exact λe=>e.symm
  ·simp[h2]
 ·simp[h]
theorem uh (a b:Int):nu [a,b]=if a≠0 then a else b:=by
 unfold nu;by_cases h:a=0
 ·simp[h,nu];exact λe=>e.symm
 ·simp[h]
theorem pT {x y:bZ}:iF x y<0↔ow x y:=by
 unfold iF nH ow;rw[ue,uh];have a1:= @sK x.r.a y.r.a;have a2:= @tD x.r.a y.r.a;have b1:= @sK x.r.b y.r.b;have b2:= @tD x.r.b y.r.b;have c1:= @sK x.ver y.ver;have c2:= @tD x.ver y.ver;have d1:= @sK x.eF y.eF;by_cases h1:gn x.r.a y.r.a=0
 ·rw[if_neg (show¬(gn x.r.a y.r.a≠0) by omega)];by_cases h2:gn x.r.b y.r.b=0
  ·rw[if_neg (by omega)];by_cases h3:gn x.ver y.ver=0
   ·rw[if_neg (by omega)];omega
   ·rw[if_pos h3];omega
  ·rw[if_pos h2];omega
 ·rw[if_pos h1,if_pos h1];omega
theorem wU {x y:bZ}:0<iF x y↔ow y x:=by
 unfold iF nH ow;rw[ue,uh];have a1:= @ud x.r.a y.r.a;have a2:= @tD x.r.a y.r.a;have b1:= @ud x.r.b y.r.b;have b2:= @tD x.r.b y.r.b;have c1:= @ud x.ver y.ver;have c2:= @tD x.ver y.ver;have d1:= @ud x.eF y.eF;by_cases h1:gn x.r.a y.r.a=0
 ·rw[if_neg (show¬(gn x.r.a y.r.a≠0) by omega)];by_cases h2:gn x.r.b y.r.b=0
  ·rw[if_neg (by omega)];by_cases h3:gn x.ver y.ver=0
   ·rw[if_neg (by omega)];omega
   ·rw[if_pos h3];omega
  ·rw[if_pos h2];omega
 ·rw[if_pos h1,if_pos h1];omega
theorem PE:nx iF (λ_=>True):=⟨λx y _ _=>by rw[pT,wU],λx y z _ _ _ h1 h2=>by
 have a:¬ow y x:=λe=>by have:=wU.2 e;omega
 have b:¬ow z y:=λe=>by have:=wU.2 e;omega
 have c:¬ow z x:=by unfold ow at*;omega
 have:= @wU x z;apply Classical.byContradiction;intro hn;exact c (this.1 (by omega))⟩
def I7 (av:List Int) (vals:List ByteArray) (ver:Int):Prop:=vals.length=av.length/\fV ver=true/\∀i (h:i<vals.length),(vals[i]).size<=64
theorem sL.no {pr:Int} {av df:List Int} {lo hi:Int} {p:Nat} {fl:List Int} (h:sL pr av df lo hi p fl false):fl=[]:=by
 rcases h with⟨_,_,h⟩|⟨_,gs,k,_,_,_,⟨_,_,_,h⟩|⟨_,h,_⟩⟩
 ·exact h
 ·exact h
 ·cases h
section
variable {P:Program} {f:FuncId} {N:Nat} {k:List Item} {env:Env} {w:World} {R:Value->World->Prop}
theorem yZ {c:Code} {fn:Func} {a ty b u u2:Nat} {x tE:Value} {tg:Nat} {cs:List Value} {fL:Nat×Nat} {n:Nat} (hc:c=.ret) (hf:P.funcs[f]?=some fn) (hres:fn.results=#[.cell a ty,.tmp u,.tmp u2]) (hv:look env a=some (.pointer (some ⟨b,0,none⟩)))
  (hx:look env u=some x) (hx2:look env u2=some tE) (hb:w.heap[b]?=some (.cells cs.toArray tg fL)) (ha:iW P ty=some true) (hs:iy P ty=some n) (hl:cs.length=n)
  (hR:R (.tuple #[.agg cs.toArray,x,tE]) w):Run P f N (.code c::k) env w R:=λa' jP=>by
 subst hc;refine wA hf jP.defers ?_ hR;have h1:=jP.slot a _ hv;have h3:=jP.slot u _ hx;have h4:=jP.slot u2 _ hx2;have h2:=AE hb ha hs hl;simp only[results,hres];simp[h1,h3,h4,Array.getD_eq_getD_getElem?,asAddr,h2]
end
end Go.K
