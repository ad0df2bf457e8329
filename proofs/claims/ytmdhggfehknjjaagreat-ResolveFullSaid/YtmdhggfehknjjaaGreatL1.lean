/- A calculus of steps over the model: a frame is known by a list of slots, code is walked with what is left to do as a list. -/
import Derived.WalkKit
import Derived.OrdersHeld
import Derived.KernelRfl
import Derived.Laws.MakeOwn
import Derived.WideKeyRuns
import Derived.MapKept
set_option linter.unusedVariables false
set_option linter.unusedSimpArgs false
set_option linter.unusedSectionVars false
namespace Go.K
def jm:Nat->Nat->List (Nat×Bool)->List (Nat×Bool)
 |0,_,L=>L
 |n+1,i,L=>(i,true)::jm n (i+1) L
abbrev Sz (x y:Operand) (t:TypeId):Op:=.call {callee:=.builtin .append,args:=#[x,y],argTypes:=#[t,t]}
abbrev mV (f:FuncId) (a:Array Operand) (t:Array TypeId):Op:=.call {callee:=.value (.func f),args:=a,argTypes:=t}
instance (n:Nat):OfNat Operand n:=⟨.tmp n⟩
theorem aD {P:Prop} (h:P:=by first|omega|(simp only;omega)):P:=h
theorem af {P:Prop} (h:P:=by omega):P:=h
theorem ai {P:Prop} (h:P:=by kernel_rfl):P:=h
theorem ak {P:Prop} (h:P:=by decide):P:=h
theorem dH {P:Prop} (h:P:=by simp only[List.length_cons,List.length_nil];omega):P:=h
theorem l7 {P:Prop} (h:P:=by simp only[List.length_append,List.length_take,List.length_nil,List.length_drop,List.length_cons];omega):P:=h
theorem jC {P:Prop} (h:P:=by first|omega|(simp only[List.length_set];omega)):P:=h
theorem sM {P:Prop} (h:P:=by first|omega|(simp only[List.length_set,List.length_append,List.length_cons,List.length_nil];omega)):P:=h
theorem b_ {P:Prop} (h:P:=by simp):P:=h
theorem Cv {P:Prop} (h:P:=by simp only[List.length_append,List.length_cons,List.length_nil];omega):P:=h
theorem tA {P:Prop} (h:P:=by rw[List.length_take];omega):P:=h
theorem xA {P:Prop} (h:P:=by simp only[List.length_nil];omega):P:=h
theorem JF {P:Prop} (h:P:=by simp only[List.length_cons,List.length_nil,List.length_map];omega):P:=h
theorem sN {P:Prop} (h:P:=by simp;omega):P:=h
theorem En {P:Prop} (h:P:=by rw[List.length_zipWith];omega):P:=h
theorem MB {P:Prop} (h:P:=by first|omega|(simp only[List.length_map];omega)):P:=h
theorem SA {P:Prop} (h:P:=by simp only[List.length_cons,List.length_nil,List.length_append];omega):P:=h
def Eo (f:FuncId):Frame:={(default:Frame) with fn:=f,kind:=.normal}
def aZ (R:Value->World->Prop):Ending->World->Prop:=λe w=>∃v,e=.returned v/\R v w
theorem aZ.mono {R R':Value->World->Prop} (h:∀v w,R v w->R' v w) (e:Ending) (w:World) (hr:aZ R e w):aZ R' e w:=
 let⟨v,he,hv⟩:=hr;⟨v,he,h v w hv⟩
def nA (P:Program) (f:FuncId) (k:List Item) (a:Act) (w:World) (R:Value->World->Prop):Prop:=
 ∀cs,∃v w' fr,R v w'/\Steps P (lone ((Eo f).at a k) cs w) (lone fr cs w')/\fr.fn=f/\fr.leaving P w' (.returned v)
theorem sx {P:Program} {f:FuncId} {fn:Func} {c:Code} {args:Array Value} {w:World} {R:Value->World->Prop}
  (hf:P.funcs[f]?=some fn) (hb:fn.body=some c)
  (h:nA P f [.code c] {tmps:=args++Array.replicate (fn.ntmps-args.size) undef,defers:=[]} w R):Calls P f args w (aZ R):=by
 intro cs;have zN:Frame.enter P f args .normal=(Eo f).at {tmps:=args++Array.replicate (fn.ntmps-args.size) undef,defers:=[]} [.code c]:=by
  simp[Frame.enter,Frame.at,hf,hb,Eo]
 obtain⟨v,w',fr,hR,hs,hfn,hl⟩:=h cs;exact⟨.returned v,w',fr,⟨v,rfl,hR⟩,by rw[zN];exact hs,hfn,hl⟩
theorem nA.mono {P:Program} {f:FuncId} {k:List Item} {a:Act} {w:World} {R R':Value->World->Prop}
  (h:nA P f k a w R) (hr:∀v w,R v w->R' v w):nA P f k a w R':=λcs=>
 let⟨v,w',fr,hR,rest⟩:=h cs;⟨v,w',fr,hr _ _ hR,rest⟩
section
variable {P:Program} {f:FuncId} {k:List Item} {a:Act} {w:World} {R:Value->World->Prop}
theorem nA.step {a':Act} {k':List Item} {w':World}
  (hs:∀cs,step P (lone ((Eo f).at a k) cs w)=.next (lone ((Eo f).at a' k') cs w')) (h:nA P f k' a' w' R):nA P f k a w R:=λcs=>
 let⟨v,w'',fr,hR,hst,hfn,hl⟩:=h cs
 ⟨v,w'',fr,hR,.head (hs cs) hst,hfn,hl⟩
def pI (P:Program) (f:FuncId) (k:List Item) (R:Value->World->Prop):Exit->Act->World->Prop
 | .normal,a,w=>nA P f k a w R
 |_,_,_=>False
theorem Cw {c:Code} (h:c.wp P (pI P f k R) a w):nA P f (.code c::k) a w R:=by
 intro cs;obtain⟨e,a',w',hq,w8⟩:=h (Eo f) k cs;cases e with
 |normal=>
  obtain⟨v,w'',fr,hR,hst,hfn,hl⟩:=hq cs;exact⟨v,w'',fr,hR,Steps.trans w8 hst,hfn,hl⟩
 |_=>exact hq.elim
theorem Cx {fn:Func} {v:Value} (hf:P.funcs[f]?=some fn) (hd:a.defers=[]) (hr: (results fn a.tmps).run P w=.ok v w) (hR:R v w):
  nA P f (.code .ret::k) a w R:=λcs=>
 ⟨v,w,_,hR,.one step_ret,rfl,rfl,hd,rfl,fn,hf,hr⟩
end
def Ep:List (Nat×Bool)->Bool
 |[]=>false
 |_::_=>true
def MC:List (Nat×Bool)->Bool
 |[]=>true
 |[(_,b)]=>!b
 |_::_::_=>false
def kC (P:Program) (ops:Array Oper) (S:World->Prop) (Q:Exit->Act->World->Prop):List (Nat×Bool)->Act->World->Prop
 |[],a,w=>Q .normal a w
 |(i,true)::L,a,w=>∃o v,ops[i]?=some o/\YieldsIf P ops S o v a/\kC P ops S Q L (a.put o.dst v) w
 |(i,false)::L,a,w=>wpOp P ops Q i (λa' w'=>(Ep L=true->S w')/\kC P ops S Q L a' w') a w
section
variable {P:Program} {ops:Array Oper} {S:World->Prop} {Q:Exit->Act->World->Prop}
theorem MD:∀(L:List (Nat×Bool)) (a:Act) (w:World),kC P ops (λ_=>True) Q L a w->wpOps P ops Q (L.map (·.1)) a w
 |[],a,w,h=>h
 |(i,true)::L,a,w,h=>by
  obtain⟨o,v,hi,hy,h⟩:=h;rw[List.map_cons,wpOps_cons];exact hy.wpOp hi trivial (MD L _ _ h)
 |(i,false)::L,a,w,h=>by
  rw[List.map_cons,wpOps_cons];exact wpOp_mono (λa' w' h'=>MD L a' w' h'.2) h
theorem kq:∀(L:List (Nat×Bool)) (a:Act) (w:World),MC L=true->kC P ops (λ_=>True) Q L a w->kC P ops S Q L a w
 |[],a,w,_,h=>h
 |[(i,true)],a,w,hs,h=>by cases hs
 |[(i,false)],a,w,hs,h=>wpOp_mono (λa' w' h'=>⟨λe=>(by cases e),h'.2⟩) h
 |_::_::_,a,w,hs,h=>by cases hs
def sO (P:Program) (ops:Array Oper) (Q:Exit->Act->World->Prop) (S:World->Prop) (dh:Nat):Nat->Array Bool->Act->World->Prop
 |0,listed,a,w=>Region.ready .any ops listed=[]/\Q .normal a w
 |fuel+1,listed,a,w=>
  (Region.ready .any ops listed=[]->Q .normal a w)/\
  ∀i∈Region.ready .any ops listed,wpOp P ops Q i (λa' w'=>((listed.setIfInBounds i true).getD dh false=false->S w')/\sO P ops Q S dh fuel (listed.setIfInBounds i true) a' w') a w
theorem Cy {dh:Nat}:∀(fuel:Nat) (listed:Array Bool) (a:Act) (w:World),sO P ops Q S dh fuel listed a w->wpAny P .any ops Q fuel listed a w
 |0,_,_,_,h=>h
 |fuel+1,_,_,_,h=>⟨h.1,λi hi=>wpOp_mono (λa' w' h'=>Cy fuel _ a' w' h'.2) (h.2 i hi)⟩
def qm (ops:Array Oper) (listed:Array Bool):Prop:=
 listed.size=ops.size/\∀k ok,ops[k]?=some ok->listed.getD k false=true->∀e∈ok.after,Region.binds .any e=true->listed.getD e.on false=true
theorem pJ {j:Nat} {listed:Array Bool} (hc:qm ops listed) (hj:j∈Region.ready .any ops listed):qm ops (listed.setIfInBounds j true):=by
 refine⟨by simp[hc.1],λk ok hk hl e he hb=>?_⟩;by_cases hkj:k=j
 ·subst hkj;obtain⟨_,o,ho,hall⟩:=mem_ready.1 hj;rw[hk] at ho;cases ho;exact getD_set_true (hall e he hb)
 ·rw[getD_set_ne false (Ne.symm hkj)] at hl;exact getD_set_true (hc.2 k ok hk hl e he hb)
def needs (ops:Array Oper):Nat->Nat->Nat->Bool
 |0,j,i=>Nat.beq j i
 |n+1,j,i=>Nat.beq j i||(match ops[j]? with|some o=>o.after.any (λe=>Region.binds .any e&&Nat.beq e.on i)||o.after.any (λe=>Region.binds .any e&&needs ops n e.on i)|none=>false)
theorem SB {i:Nat} {listed:Array Bool} (hc:qm ops listed):∀(n j:Nat),needs ops n j i=true->listed.getD j false=true->listed.getD i false=true
 |0,j,h,hj=>by rw[<-Nat.eq_of_beq_eq_true h];exact hj
 |n+1,j,h,hj=>by
  unfold needs at h;rw[Bool.or_eq_true] at h;rcases h with h|h
  ·rw[<-Nat.eq_of_beq_eq_true h];exact hj
  ·cases ho:ops[j]? with
   |none=>rw[ho] at h;cases h
   |some o=>
    rw[ho] at h;simp only[Bool.or_eq_true] at h;rcases h with h|h
    ·obtain⟨e,he,hb⟩:=Array.any_eq_true'.1 h;rw[Bool.and_eq_true] at hb;rw[<-Nat.eq_of_beq_eq_true hb.2];exact hc.2 j o ho hj e he hb.1
    ·obtain⟨e,he,hb⟩:=Array.any_eq_true'.1 h;rw[Bool.and_eq_true] at hb;exact SB hc n e.on hb.2 (hc.2 j o ho hj e he hb.1)
theorem Gf {dh i:Nat} {oi:Oper} {v:Value} (hi:ops[i]?=some oi) (hsel:∀(j:Nat) (o:Oper) cs b,ops[j]?=some o->o.op≠ .select cs b)
  (hQ:∀c a w,Q (.panic c) (a.put oi.dst v) w->Q (.panic c) a w) (hne:i≠dh) (oo:∀listed,qm ops listed->listed.getD dh false=true->listed.getD i false=true):
  ∀(fuel:Nat) (listed:Array Bool) (a:Act) (w:World),qm ops listed->
   (∀j oj,ops[j]?=some oj->j≠i->listed.getD j true=false->(∀e∈oj.after,Region.binds .any e=true->e.on≠i)->oi.apart ops oj=true)->
   i∈Region.ready .any ops listed->YieldsIf P ops S oi v a->S w->
   sO P ops Q S dh fuel (listed.setIfInBounds i true) (a.put oi.dst v) w->sO P ops Q S dh (fuel+1) listed a w:=by
 intro fuel
 induction fuel with
 |zero=>
  intro listed a w dM _ hr hy hS H;refine⟨λh=>(by rw[h] at hr;cases hr),λj hj=>?_⟩;by_cases hji:j=i
  ·subst hji;exact hy.wpOp hi hS ⟨λ_=>hS,H⟩
  ·have:=ready_mono hj hji;rw[H.1] at this;cases this
 |succ fuel ih=>
  intro listed a w dM hfree hr hy hS H;refine⟨λh=>(by rw[h] at hr;cases hr),λj hj=>?_⟩;by_cases hji:j=i
  ·subst hji;exact hy.wpOp hi hS ⟨λ_=>hS,H⟩
  ·have h1:=H.2 j (ready_mono hj hji);obtain⟨SC,oj,ME,hall⟩:=mem_ready.1 hj;have SD:=(mem_ready.1 hr).1;have hif:∀l:Array Bool,l.getD i true=false->l.getD i false=false:=λl h=>by
    rcases Nat.lt_or_ge i l.size with h'|h'
    ·simp[h'] at h⊢;exact h
    ·simp[Array.getElem?_eq_none h']
   have hnot:∀e∈oj.after,Region.binds .any e=true->e.on≠i:=λe he hb heq=>by
    have h1:=hall e he hb;rw[heq,hif _ SD] at h1;cases h1
   have SF:=pJ dM hj;have h9: (listed.setIfInBounds j true).getD i true=false:=by rw[getD_set_ne true hji];exact SD
   have ob: (listed.setIfInBounds j true).getD dh false=false:=by
    cases hb: (listed.setIfInBounds j true).getD dh false with
    |false=>rfl
    |true=>have:=oo _ SF hb;rw[hif _ h9] at this;cases this
   have SG: ((listed.setIfInBounds i true).setIfInBounds j true).getD dh false=false:=by
    rw[Array.setIfInBounds_comm _ _ (Ne.symm hji),getD_set_ne false hne];exact ob
   have h2:=wpOp_putIf ME (hfree j oj ME hji SC hnot) (λcs b=>hsel i oi cs b hi) (λcs b=>hsel j oj cs b ME) hQ hy h1;have vf:∀k ok,ops[k]?=some ok->k≠i->(listed.setIfInBounds j true).getD k true=false->
     (∀e∈ok.after,Region.binds .any e=true->e.on≠i)->oi.apart ops ok=true:=λk ok hk hki hun hno=>by
    refine hfree k ok hk hki ?_ hno;by_cases hjk:j=k
    ·subst hjk;exact SC
    ·rw[getD_set_ne true hjk] at hun;exact hun
   refine wpOp_mono (λa' w' h3=>⟨λ_=>h3.2.1 SG,ih (listed.setIfInBounds j true) a' w' SF vf (ready_mono hr (Ne.symm hji)) h3.1 (h3.2.1 SG) ?_⟩) h2;rw[Array.setIfInBounds_comm _ _ hji];exact h3.2.2
def JG (n:Nat):List (Nat×Bool)->Nat
 |[]=>n
 |[(i,b)]=>if b then n else i
 |_::x::L=>JG n (x::L)
def vU (ops:Array Oper) (dh:Nat):Nat->Array Bool->List (Nat×Bool)->Bool
 |_,listed,[]=>(Region.ready .any ops listed).isEmpty
 |0,_,_::_=>false
 |n+1,listed,(i,true)::L=>!Nat.beq i dh&&(Nat.ble ops.size dh||needs ops 8 dh i)&&Region.free .any ops listed i&&(Region.ready .any ops listed).contains i&&vU ops dh n (listed.setIfInBounds i true) L
 |n+1,listed,(i,false)::L=>(Region.ready .any ops listed==[i])&&((listed.setIfInBounds i true).getD dh false||Ep L)&&vU ops dh n (listed.setIfInBounds i true) L
def MF (ops:Array Oper) (n:Nat) (listed:Array Bool) (L:List (Nat×Bool)):Bool:=vU ops (JG ops.size L) n listed L
theorem JH {dh i:Nat} (h: (Nat.ble ops.size dh||needs ops 8 dh i)=true):∀listed,qm ops listed->listed.getD dh false=true->listed.getD i false=true:=λlisted hc hj=>by
 rw[Bool.or_eq_true] at h;rcases h with h|h
 ·have:=Nat.le_of_ble_eq_true h;rw[Array.getD_eq_getD_getElem?,Array.getElem?_eq_none (by rw[hc.1];exact this)] at hj;cases hj
 ·exact SB hc _ _ h hj
theorem Cz (hs:Region.noSelect ops=true) (hQ:∀c a d v w,Q (.panic c) (Act.put a d v) w->Q (.panic c) a w) {dh:Nat}:
  ∀(n:Nat) (listed:Array Bool) (L:List (Nat×Bool)) (a:Act) (w:World),vU ops dh n listed L=true->qm ops listed->(Ep L=true->S w)->kC P ops S Q L a w->
   sO P ops Q S dh n listed a w
 |n,listed,[],a,w,hc,_,_,h=>by
  have hr:Region.ready .any ops listed=[]:=by simpa[vU] using hc
  cases n with
  |zero=>exact⟨hr,h⟩
  |succ n=>exact⟨λ_=>h,by rw[hr];simp⟩
 |0,_,x::L,a,w,hc,_,_,_=>by cases hc
 |n+1,listed,(i,true)::L,a,w,hc,dM,hS,h=>by
  simp only[vU,Bool.and_eq_true] at hc;obtain⟨⟨⟨⟨h1,h2⟩,h3⟩,h4⟩,h5⟩:=hc;obtain⟨o,v,hi,hy,h⟩:=h;have hr:i∈Region.ready .any ops listed:=by simpa using h4
  have SH:=hS rfl;refine Gf hi (Region.noSelect_spec hs) (λc a w hq=>hQ c a _ _ w hq) (λe=>by subst e;simp at h1) (JH h2) n listed a w dM (Region.free_spec hi h3) hr hy SH (Cz hs hQ n _ L _ w h5 (pJ dM hr) (λ_=>SH) h)
 |n+1,listed,(i,false)::L,a,w,hc,dM,hS,h=>by
  simp only[vU,Bool.and_eq_true,beq_iff_eq] at hc;obtain⟨⟨h1,h2⟩,h3⟩:=hc;have hr:i∈Region.ready .any ops listed:=by rw[h1];simp
  refine⟨λh0=>(by rw[h0] at h1;cases h1),λj hj=>?_⟩;rw[h1,List.mem_singleton] at hj;subst hj;refine wpOp_mono (λa' w' h'=>⟨λhb=>h'.1 ?_,Cz hs hQ n _ L a' w' h3 (pJ dM hr) h'.1 h'.2⟩) h;rw[hb] at h2;simpa using h2
theorem w9 {o:Oper} {v v':Value} {a:Act} {w:World} (h:YieldsIf P ops S o v a) (h':YieldsIf P ops S o v' a) (hS:S w):v=v':=by
 rcases h with⟨h1,h2⟩|⟨h1,rfl⟩<;>rcases h' with⟨h3,h4⟩|⟨h3,rfl⟩
 ·have:=(h2 w hS).symm.trans (h4 w hS);simpa using this
 ·rw[h1] at h3;cases h3
 ·rw[h1] at h3;cases h3
 ·rfl
def Gg (ops:Array Oper) (dh i:Nat) (L:List (Nat×Bool)) (i':Nat) (L':List (Nat×Bool)):Nat->Array Bool->List Nat->Bool
 |0,_,_=>false
 |n+1,listed,[]=>(Region.ready .any ops listed==[i,i'])&&((listed.setIfInBounds i true).getD dh false||Ep L)&&vU ops dh n (listed.setIfInBounds i true) L&&((listed.setIfInBounds i' true).getD dh false||Ep L')&&vU ops dh n (listed.setIfInBounds i' true) L'
 |n+1,listed,j::A=>!Nat.beq j dh&&(Nat.ble ops.size dh||needs ops 8 dh j)&&Region.free .any ops listed j&&(Region.ready .any ops listed).contains j&&Gg ops dh i L i' L' n (listed.setIfInBounds j true) A
def SI (ops:Array Oper) (i:Nat) (L:List (Nat×Bool)) (i':Nat) (L':List (Nat×Bool)) (n:Nat) (listed:Array Bool) (A:List Nat):Bool:=Gg ops (JG ops.size ((i,false)::L)) i L i' L' n listed A
theorem SJ (hs:Region.noSelect ops=true) (hQ:∀c a d v w,Q (.panic c) (Act.put a d v) w->Q (.panic c) a w) {dh i i':Nat} {L L':List (Nat×Bool)}:
  ∀(n:Nat) (listed:Array Bool) (A:List Nat) (a:Act) (w:World),Gg ops dh i L i' L' n listed A=true->qm ops listed->S w->
   kC P ops S Q (A.map (λj=>(j,true))++(i,false)::L) a w->kC P ops S Q (A.map (λj=>(j,true))++(i',false)::L') a w->sO P ops Q S dh n listed a w
 |0,_,_,_,_,hc,_,_,_,_=>by cases hc
 |n+1,listed,[],a,w,hc,dM,hS,h,h'=>by
  simp only[Gg,Bool.and_eq_true,beq_iff_eq] at hc;obtain⟨⟨⟨⟨h0,h1⟩,h2⟩,h3⟩,h4⟩:=hc;have hr:i∈Region.ready .any ops listed:=by rw[h0];simp
  have hr':i'∈Region.ready .any ops listed:=by rw[h0];simp
  refine⟨λCA=>(by rw[CA] at h0;cases h0),λj hj=>?_⟩;rw[h0] at hj;simp only[List.mem_cons,List.not_mem_nil,or_false] at hj;rcases hj with rfl|rfl
  ·exact wpOp_mono (λa' w' g=>⟨λhb=>g.1 (by rw[hb] at h1;simpa using h1),Cz hs hQ n _ L a' w' h2 (pJ dM hr) g.1 g.2⟩) h
  ·exact wpOp_mono (λa' w' g=>⟨λhb=>g.1 (by rw[hb] at h3;simpa using h3),Cz hs hQ n _ L' a' w' h4 (pJ dM hr') g.1 g.2⟩) h'
 |n+1,listed,j::A,a,w,hc,dM,hS,h,h'=>by
  simp only[Gg,Bool.and_eq_true] at hc;obtain⟨⟨⟨⟨h1,h2⟩,h3⟩,h4⟩,h5⟩:=hc;obtain⟨o,v,hi,hy,h⟩:=h;obtain⟨o',v',hi',hy',h'⟩:=h';rw[hi] at hi';cases hi';obtain rfl:=w9 hy hy' hS;have hr:j∈Region.ready .any ops listed:=by simpa using h4
  exact Gf hi (Region.noSelect_spec hs) (λc a w hq=>hQ c a _ _ w hq) (λe=>by subst e;simp at h1) (JH h2) n listed a w dM (Region.free_spec hi h3) hr hy hS (SJ hs hQ n _ A _ w h5 (pJ dM hr) hS h h')
theorem Gh (ops:Array Oper):qm ops (Array.replicate ops.size false):=⟨by simp,λk ok _ hl=>by
 rcases Nat.lt_or_ge k ops.size with h|h
 ·simp[h] at hl
 ·simp[Array.getElem?_eq_none,h] at hl⟩
end
abbrev Env:=List (Nat×Value)
def look:Env->Nat->Option Value
 |[],_=>none
 |(t,v)::e,u=>bif Nat.beq t u then some v else look e u
structure jf (N:Nat) (env:Env) (a:Act):Prop where
 size:a.tmps.size=N
 defers:a.defers=[]
 slot:∀t v,look env t=some v->a.tmps[t]?=some v
def tB (d:Option Nat) (v:Value) (env:Env):Env:=match d with|some t=>(t,v)::env|none=>env
def uI (N:Nat) (d:Option Nat):Bool:=match d with|some t=>Nat.blt t N|none=>true
theorem jf.put {N:Nat} {env:Env} {a:Act} (h:jf N env a) {d:Option Nat} (hd:uI N d=true) (v:Value):jf N (tB d v env) (a.put d v):=by
 cases d with
 |none=>exact⟨h.size,h.defers,h.slot⟩
 |some t=>
  have ht:t<N:=by
     have h:t+1<=N:=by simpa[uI,Nat.blt] using hd
     omega
  refine⟨by simp[Act.put,h.size],h.defers,λu x hx=>?_⟩;simp only[tB,look] at hx;simp only[Act.put,Array.getElem?_setIfInBounds];by_cases e:t=u
  ·subst e;simp at hx;simp[h.size,ht,hx]
  ·have e':Nat.beq t u=false:=by
    cases hb:Nat.beq t u with
    |false=>rfl
    |true=>exact absurd (Nat.eq_of_beq_eq_true hb) e
   rw[e'] at hx;simp only[cond_false] at hx;simp[e,h.slot u x hx]
def ev (env:Env):Operand->Option Value
 | .tmp t=>look env t
 | .const v=>some v
 | .func g=>some (.func (.func g) #[] #[])
 | .global g=>some (.pointer (some ⟨g,0,none⟩))
theorem jf.ev {N:Nat} {env:Env} {a:Act} (h:jf N env a) {x:Operand} {v:Value} (hx:ev env x=some v):a.eval x=v:=by
 cases x with
 |tmp t=>
  have:=h.slot t v hx;simp only[Act.eval];rw[Array.getD_eq_getD_getElem?,this];rfl
 |const u=>simpa[K.ev,Act.eval] using hx
 |func g=>simpa[K.ev,Act.eval] using hx
 |global g=>simpa[K.ev,Act.eval] using hx
def l8 (env:Env):List Operand->Option (List Value)
 |[]=>some []
 |x::l=>match ev env x,l8 env l with|some v,some r=>some (v::r)|_,_=>none
theorem jf.l8 {N:Nat} {env:Env} {a:Act} (h:jf N env a):∀{l:List Operand} {vs:List Value},l8 env l=some vs->l.map a.eval=vs
 |[],vs,hl=>by simpa[K.l8] using hl
 |x::l,vs,hl=>by
  simp only[K.l8] at hl;cases hx:K.ev env x with
  |none=>rw[hx] at hl;cases hl
  |some v=>
   cases hr:K.l8 env l with
   |none=>rw[hx,hr] at hl;cases hl
   |some r=>
    rw[hx,hr] at hl;simp only[Option.some.injEq] at hl;subst hl;simp[h.ev hx,h.l8 hr]
def Sub (env' env:Env):Prop:=∀t v,look env' t=some v->look env t=some v
theorem fL (env:Env):Sub [] env:=λt v h=>by cases h
theorem fD (t:Nat) {u v:Value} {env' env:Env} (hl:look env t=some u) (hv:u=v) (h:Sub env' env):Sub ((t,v)::env') env:=by
 subst hv;intro s x hx;simp only[look] at hx;cases hb:Nat.beq t s with
 |true=>
  rw[hb] at hx;simp only[cond_true,Option.some.injEq] at hx;rw[<-Nat.eq_of_beq_eq_true hb,hl,hx]
 |false=>rw[hb] at hx;exact h s x hx
theorem Sub.refl (env:Env):Sub env env:=λ_ _ h=>h
theorem jf.sub {N:Nat} {env env':Env} {a:Act} (h:jf N env a) (hs:Sub env' env):jf N env' a:=⟨h.size,h.defers,λt v ht=>h.slot t v (hs t v ht)⟩
def Run (P:Program) (f:FuncId) (N:Nat) (k:List Item) (env:Env) (w:World) (R:Value->World->Prop):Prop:=
 ∀a,jf N env a->nA P f k a w R
def bN (P:Program) (N:Nat) (Q:Exit->Act->World->Prop) (ops:Array Oper) (S:World->Prop) (L:List (Nat×Bool)) (env:Env) (w:World):Prop:=
 ∀a,jf N env a->kC P ops S Q L a w
abbrev bQ (P:Program) (f:FuncId) (N:Nat) (k:List Item) (R:Value->World->Prop) (ops:Array Oper) (S:World->Prop) (L:List (Nat×Bool)) (env:Env) (w:World):Prop:=
 bN P N (pI P f k R) ops S L env w
section
variable {P:Program} {f:FuncId} {N:Nat} {k:List Item} {env:Env} {w:World} {R:Value->World->Prop}
theorem Run.sub {env':Env} (hs:Sub env' env) (h:Run P f N k env' w R):Run P f N k env w R:=λa ha=>h a (ha.sub hs)
theorem run_seq {c x y:Code} (hc:c=.seq x y) (h:Run P f N (.code x:: .code y::k) env w R):Run P f N (.code c::k) env w R:=λa ha=>by
 subst hc;exact nA.step (λ_=>step_seq) (h a ha)
theorem SK {c x:Code} {id:Nat} (hc:c=.block id x) (h:Run P f N (.code x:: .inBlock id::k) env w R):Run P f N (.code c::k) env w R:=λa ha=>by
 subst hc;exact nA.step (λ_=>step_block) (h a ha)
theorem PL {id:Nat} (h:Run P f N k env w R):Run P f N (.inBlock id::k) env w R:=λa ha=>
 nA.step (λ_=>step_inBlock) (h a ha)
theorem SL {c:Code} (hc:c=.skip) (h:Run P f N k env w R):Run P f N (.code c::k) env w R:=λa ha=>by
 subst hc;exact nA.step (λ_=>step_skip) (h a ha)
theorem SM {c:Code} {id:Nat} {k':List Item} (hc:c=.exit id) (hk:exitTo id k=some k') (h:Run P f N k' env w R):Run P f N (.code c::k) env w R:=λa ha=>by
 subst hc;exact nA.step (λ_=>step_exit hk) (h a ha)
theorem Er {c x y:Code} {o:Operand} {b:Bool} (hc:c=.cond o x y) (hv:ev env o=some (.bool b))
  (ht:b=true->Run P f N (.code x::k) env w R) (hf:b=false->Run P f N (.code y::k) env w R):Run P f N (.code c::k) env w R:=λa ha=>by
 subst hc;have:=ha.ev hv;cases b with
 |true=>exact nA.step (λ_=>step_cond this) (ht rfl a ha)
 |false=>exact nA.step (λ_=>step_cond this) (hf rfl a ha)
theorem ia {c x y:Code} {o:Operand} {p:Prop} [Decidable p] (hc:c=.cond o x y) (hv:ev env o=some (.bool (decide p)))
  (ht:p->Run P f N (.code x::k) env w R) (hf:¬p->Run P f N (.code y::k) env w R):Run P f N (.code c::k) env w R:=
 Er hc hv (λh=>ht (of_decide_eq_true h)) (λh=>hf (of_decide_eq_false h))
theorem SN {c body:Code} {ι:Type} (I:ι->World->Prop) (e:ι->Env) (m:ι->Nat) (nB:ι) (hc:c=.loop body)
  (hs:Sub (e nB) env) (h0:I nB w)
  (hr:∀x w,I x w->(∀y w',I y w'->m y<m x->Run P f N (.inLoop body::k) (e y) w' R)->Run P f N (.code body:: .inLoop body::k) (e x) w R):
  Run P f N (.code c::k) env w R:=by
 subst hc;have main:∀n x w,m x<=n->I x w->Run P f N (.inLoop body::k) (e x) w R:=by
  intro n
  induction n with
  |zero=>
   intro x w hm hI a ha;exact nA.step (λ_=>step_inLoop) (hr x w hI (λy w' hy hlt=>by omega) a ha)
  |succ n ih=>
   intro x w hm hI a ha;exact nA.step (λ_=>step_inLoop) (hr x w hI (λy w' hy hlt=>ih y w' af hy) a ha)
 intro a ha;exact nA.step (λ_=>step_loop) (hr nB w h0 (λy w' hy hlt=>main (m y) y w' (Nat.le_refl _) hy) a (ha.sub hs))
theorem SP {c:Code} {fn:Func} {t:Nat} {v:Value} (hc:c=.ret) (hf:P.funcs[f]?=some fn) (hres:fn.results=#[.tmp t]) (hv:look env t=some v)
  (hR:R v w):Run P f N (.code c::k) env w R:=λa ha=>by
 subst hc;refine Cx hf ha.defers ?_ hR;have:=ha.slot t v hv;simp only[results,hres];simp[this,Sem.run,pure,Array.getD_eq_getD_getElem?]
theorem AZ {c:Code} {fn:Func} (hc:c=.ret) (hf:P.funcs[f]?=some fn) (hres:fn.results=#[])
  (hR:R (.tuple #[]) w):Run P f N (.code c::k) env w R:=λa ha=>by
 subst hc;refine Cx hf ha.defers ?_ hR;simp[results,hres,Sem.run,pure]
theorem jo {c:Code} {fn:Func} {t u:Nat} {v x:Value} (hc:c=.ret) (hf:P.funcs[f]?=some fn) (hres:fn.results=#[.tmp t,.tmp u]) (hv:look env t=some v) (hx:look env u=some x)
  (hR:R (.tuple #[v,x]) w):Run P f N (.code c::k) env w R:=λa ha=>by
 subst hc;refine Cx hf ha.defers ?_ hR;rw[results_tmp2 hres];have h1:=ha.slot t v hv;have h2:=ha.slot u x hx;simp[h1,h2,Array.getD_eq_getD_getElem?]
theorem SQ {c:Code} {id:Nat} {ops:Array Oper} (L:List (Nat×Bool)) (hc:c=.region id ops false)
  (hL:L.map (·.1)=List.range ops.size) (h:bQ P f N k R ops (λ_=>True) L env w):Run P f N (.code c::k) env w R:=λa ha=>by
 subst hc;exact Cw (wp_region (by rw[<-hL];exact MD L a w (h a ha)))
theorem ZN {c:Code} {id:Nat} {ops:Array Oper} (S:World->Prop) (L:List (Nat×Bool)) (hm:P.follows .mixedOrders=true) (hc:c=.region id ops true)
  (hn:Region.noSelect ops=true) (hk:MF ops ops.size (Array.replicate ops.size false) L=true) (hS:S {w with drawn:=w.drawn+1})
  (h:bQ P f N k R ops S L env {w with drawn:=w.drawn+1}):Run P f N (.code c::k) env w R:=λa ha=>by
 subst hc;exact Cw (wp_region_any hm (Cy _ _ _ _ (Cz hn (λc a d v w h=>h.elim) _ _ L a _ hk (Gh ops) (λ_=>hS) (h a ha))))
theorem Sv {c:Code} {id:Nat} {ops:Array Oper} (S:World->Prop) (A:List Nat) (i:Nat) (L:List (Nat×Bool)) (i':Nat) (L':List (Nat×Bool)) (hm:P.follows .mixedOrders=true) (hc:c=.region id ops true)
  (hn:Region.noSelect ops=true) (hk:SI ops i L i' L' ops.size (Array.replicate ops.size false) A=true) (hS:S {w with drawn:=w.drawn+1})
  (h:bQ P f N k R ops S (A.map (λj=>(j,true))++(i,false)::L) env {w with drawn:=w.drawn+1}) (h':bQ P f N k R ops S (A.map (λj=>(j,true))++(i',false)::L') env {w with drawn:=w.drawn+1}):Run P f N (.code c::k) env w R:=λa ha=>by
 subst hc;exact Cw (wp_region_any hm (Cy _ _ _ _ (SJ hn (λc a d v w h=>h.elim) _ _ A a _ hk (Gh ops) hS (h a ha) (h' a ha))))
def bY (ops:Array Oper) (i:Nat):Option (Option Tmp×Op×Option (Nat×Bool)):=(ops[i]?).map λo=>(o.dst,o.op,o.guard)
def SR (ops:Array Oper) (i:Nat):Option Tmp:=(ops[i]?).bind (·.dst)
def cE (P:Program) (N:Nat) (env:Env) (op:Op) (w:World) (v:Value):Prop:=
 ∀a,jf N env a->∀o:Oper,o.op=op->(execOp a.eval o).run P w=.ok (.value v) w
variable {Q:Exit->Act->World->Prop} {ops:Array Oper} {S:World->Prop} {i:Nat} {L:List (Nat×Bool)} {d:Option Nat} {op:Op} {v:Value}
theorem bQ.free (hs:MC L=true) (h:bN P N Q ops (λ_=>True) L env w):bN P N Q ops S L env w:=λa ha=>kq L a w hs (h a ha)
theorem bQ.nil (h:Run P f N k env w R):bQ P f N k R ops S [] env w:=λa ha=>h a ha
theorem bQ.sub {env':Env} (hs:Sub env' env) (h:bN P N Q ops S L env' w):bN P N Q ops S L env w:=λa ha=>h a (ha.sub hs)
theorem vV {g:Option (Nat×Bool)} (h:bY ops i=some (d,op,g)):∃o,ops[i]?=some o/\o.dst=d/\o.op=op/\o.guard=g:=by
 unfold bY at h;cases ho:ops[i]? with
 |none=>rw[ho] at h;cases h
 |some o=>
  rw[ho] at h;simp only[Option.map_some,Option.some.injEq,Prod.mk.injEq] at h;exact⟨o,rfl,h⟩
def eo (ops:Array Oper) (env:Env):Option (Nat×Bool)->Option Bool
 |none=>some true
 |some (j,want)=>match SR ops j with
  |none=>some false
  |some t=>match look env t with
   |none=>none
   |some (.bool b)=>some (b==want)
   |some _=>some false
theorem jf.wanted {a:Act} (ha:jf N env a) {o:Oper} {b:Bool} (h:eo ops env o.guard=some b):Region.wanted o (yielded ops a.tmps)=b:=by
 unfold Region.wanted;cases hg:o.guard with
 |none=>rw[hg] at h;simpa[eo] using h
 |some p=>
  obtain⟨j,want⟩:=p;rw[hg] at h;simp only[eo,SR] at h;simp only[yielded];cases hj: (ops[j]?).bind (·.dst) with
  |none=>rw[hj] at h;simp only[Option.some.injEq] at h;subst h;rfl
  |some t=>
   rw[hj] at h;simp only at h;cases hl:look env t with
   |none=>rw[hl] at h;cases h
   |some u=>
    rw[hl] at h;have:=ha.slot t u hl;simp only[Option.bind_some,this];cases u<;>simp only[Option.some.injEq] at h<;>subst h<;>first|rfl|(rename_i x;cases x<;>cases want<;>rfl)
theorem bQ.yield {g:Option (Nat×Bool)} (hop:bY ops i=some (d,op,g)) (hw:eo ops env g=some true) (hd:uI N d=true)
  (hy:∀w',S w'->cE P N env op w' v) (h:bN P N Q ops S L (tB d v env) w):bN P N Q ops S ((i,true)::L) env w:=λa ha=>by
 obtain⟨o,ho,rfl,rfl,rfl⟩:=vV hop;exact⟨o,v,ho,.inl ⟨ha.wanted hw,λw' hS=>hy w' hS a ha o rfl⟩,h _ (ha.put hd v)⟩
theorem bQ.pass {g:Option (Nat×Bool)} (hop:bY ops i=some (d,op,g)) (hw:eo ops env g=some false) (hd:uI N d=true)
  (h:bN P N Q ops S L (tB d undef env) w):bN P N Q ops S ((i,true)::L) env w:=λa ha=>by
 obtain⟨o,ho,rfl,rfl,rfl⟩:=vV hop;exact⟨o,undef,ho,.inr ⟨ha.wanted hw,rfl⟩,h _ (ha.put hd undef)⟩
theorem bQ.tr {g:Option (Nat×Bool)} (hop:bY ops i=some (d,op,g)) (hw:eo ops env g=some false) (hd:uI N d=true) (hS:S w)
  (h:bN P N Q ops S L (tB d undef env) w):bN P N Q ops S ((i,false)::L) env w:=λa ha=>by
 obtain⟨o,ho,rfl,rfl,rfl⟩:=vV hop;simp only[kC,wpOp,ho,ha.wanted hw,Bool.false_eq_true,if_false];exact⟨λ_=>hS,h _ (ha.put hd undef)⟩
def g_ (P:Program) (N:Nat) (env:Env) (op:Op) (w:World) (T:Value->World->Prop):Prop:=
 ∀a,jf N env a->∀o:Oper,o.op=op->∃v w',((execOp a.eval o).run P w=.ok (.value v) w'\/((execOp a.eval o).run P w=.ok .skip w'/\v=undef))/\T v w'
theorem bQ.act {g:Option (Nat×Bool)} {T:Value->World->Prop} (hop:bY ops i=some (d,op,g)) (hw:eo ops env g=some true) (hd:uI N d=true)
  (hy:g_ P N env op w T) (h:∀v w',T v w'->S w'/\bN P N Q ops S L (tB d v env) w'):bN P N Q ops S ((i,false)::L) env w:=λa ha=>by
 obtain⟨o,ho,rfl,rfl,rfl⟩:=vV hop;simp only[kC,wpOp,ho,ha.wanted hw,if_true];obtain⟨v,w',hrun,hT⟩:=hy a ha o rfl;left;unfold Oper.wp;obtain⟨h1,h2⟩:=h v w' hT;rcases hrun with hrun|⟨hrun,rfl⟩
 ·rw[hrun];exact⟨λ_=>h1,h2 _ (ha.put hd v)⟩
 ·rw[hrun];exact⟨λ_=>h1,h2 _ (ha.put hd undef)⟩
theorem cE.acts (h:cE P N env op w v):g_ P N env op w (λx w'=>x=v/\w'=w):=λa ha o ho=>⟨v,w,.inl (h a ha o ho),rfl,rfl⟩
theorem bQ.now {g:Option (Nat×Bool)} (hop:bY ops i=some (d,op,g)) (hw:eo ops env g=some true) (hd:uI N d=true) (hS:S w)
  (hy:cE P N env op w v) (h:bN P N Q ops S L (tB d v env) w):bN P N Q ops S ((i,false)::L) env w:=
 bQ.act hop hw hd hy.acts (by rintro _ _ ⟨rfl,rfl⟩;exact⟨hS,h⟩)
def Enters (P:Program) (N:Nat) (env:Env) (op:Op) (w:World) (g:FuncId) (args:Array Value):Prop:=
 ∀a,jf N env a->∀o:Oper,o.op=op->(execOp a.eval o).run P w=.ok (.enter g args) w
theorem bQ.call {iG:Option (Nat×Bool)} {g:FuncId} {args:Array Value} {T:Value->World->Prop} (hop:bY ops i=some (d,op,iG)) (hw:eo ops env iG=some true) (hd:uI N d=true)
  (hy:Enters P N env op w g args) (hc:Calls P g args w (aZ T))
  (h:∀v w',T v w'->S w'/\bN P N Q ops S L (tB d v env) w'):bN P N Q ops S ((i,false)::L) env w:=λa ha=>by
 obtain⟨o,ho,rfl,rfl,rfl⟩:=vV hop;simp only[kC,wpOp,ho,ha.wanted hw,if_true];left;unfold Oper.wp;rw[hy a ha o rfl];simp only[Oper.upon];refine hc.mono λe w' he=>?_;obtain⟨v,rfl,hT⟩:=he;obtain⟨h1,h2⟩:=h v w' hT;exact⟨λ_=>h1,h2 _ (ha.put hd v)⟩
end
theorem vr {P:Program} {f:FuncId} {fn:Func} {c:Code} {args:List Value} {N:Nat} {env:Env} {w:World} {R:Value->World->Prop}
  (hf:P.funcs[f]?=some fn) (hb:fn.body=some c) (hN:fn.ntmps=N) (hsz:Nat.ble args.length N=true) (he:∀t v,look env t=some v->args[t]?=some v)
  (h:Run P f N [.code c] env w R):Calls P f args.toArray w (aZ R):=by
 refine sx hf hb (h _ ?_);have:args.length<=N:=Nat.le_of_ble_eq_true hsz;refine⟨by simp[hN];omega,rfl,λt v ht=>?_⟩;have h1:=he t v ht;have h2:t<args.length:=by
  rcases Nat.lt_or_ge t args.length with h|h
  ·exact h
  ·rw[List.getElem?_eq_none h] at h1;cases h1
 simp only;rw[Array.getElem?_append_left (by simpa using h2)];simpa using h1
def CB:Nat->List Value->Env
 |_,[]=>[]
 |n,v::l=>(n,v)::CB (n+1) l
theorem MG:∀(l:List Value) (n t:Nat) (v:Value),look (CB n l) t=some v->n<=t/\l[t-n]?=some v
 |[],_,_,_,h=>by cases h
 |x::l,n,t,v,h=>by
  simp only[CB,look] at h;cases hb:Nat.beq n t with
  |true=>
   rw[hb] at h;have e:=Nat.eq_of_beq_eq_true hb;subst e;simp at h;simp[h]
  |false=>
   rw[hb] at h;have hne:n≠t:=λe=>by subst e;simp at hb
   obtain⟨h1,h2⟩:=MG l (n+1) t v h;refine⟨by omega,?_⟩;have:t-n=(t-(n+1))+1:=by omega
   rw[this];simpa using h2
theorem SS {P:Program} {f:FuncId} {fn:Func} {c:Code} (args:List Value) {N:Nat} {w:World} {R:Value->World->Prop}
  (hf:P.funcs[f]?=some fn) (hb:fn.body=some c) (hN:fn.ntmps=N) (hsz:Nat.ble args.length N=true)
  (h:Run P f N [.code c] (CB 0 args) w R):Calls P f args.toArray w (aZ R):=
 vr hf hb hN hsz (λt v ht=>by simpa using(MG args 0 t v ht).2) h
section
variable {P:Program} {N:Nat} {env:Env} {w:World} {x y z:Operand} {t u:TypeId} {k:IntKind} {m n:Int} {v:Value}
theorem mk' {op:Op} (h:∀ρ:Operand->Value,(∀x v,ev env x=some v->ρ x=v)->∀o:Oper,o.op=op->(execOp ρ o).run P w=.ok (.value v) w):cE P N env op w v:=
 λa ha o ho=>h a.eval (λx v hx=>ha.ev hx) o ho
theorem A0 (hx:ev env x=some v):cE P N env (.move x) w v:=mk' λρ hρ o ho=>by
 unfold execOp;rw[ho];simp[hρ _ _ hx,go_sem]
theorem Gi (hx:ev env x=some v):cE P N env (.assign x) w v:=mk' λρ hρ o ho=>by
 unfold execOp;rw[ho];simp[hρ _ _ hx,go_sem]
theorem MH {v₁:Value} (hx:ev env x=some (.bool true)) (hy:ev env y=some v₁):
  cE P N env (.pick x y z) w v₁:=mk' λρ hρ o ho=>by
 unfold execOp;rw[ho];simp[hρ _ _ hx,hρ _ _ hy,go_sem,asBool]
theorem MI {v₂:Value} (hx:ev env x=some (.bool false)) (hz:ev env z=some v₂):
  cE P N env (.pick x y z) w v₂:=mk' λρ hρ o ho=>by
 unfold execOp;rw[ho];simp[hρ _ _ hx,hρ _ _ hz,go_sem,asBool]
theorem SU {a:Addr} (hx:ev env x=some (.pointer (some a))):cE P N env (.nilCheck x) w (.pointer (some a)):=mk' λρ hρ o ho=>by
 unfold execOp;rw[ho];simp[hρ _ _ hx,go_sem]
theorem SV {vs:Array Value} {i:Nat} (hx:ev env x=some (.tuple vs)) (hv:vs[i]?=some v):cE P N env (.extract x i) w v:=mk' λρ hρ o ho=>by
 unfold execOp;rw[ho];simp[hρ _ _ hx,go_sem,Instr.extract,hv]
theorem qO (op:BinOp) (t:TypeId) (x y:Operand) (k j:IntKind) (m n:Int) (w:World):
  (eqGuard op t x y (.int k m) (.int j n)).run P w=.ok () w:=by
 unfold eqGuard;simp[go_sem]
theorem val_add (hx:ev env x=some (.int k m)) (hy:ev env y=some (.int k n)):cE P N env (.binOp .add t x y u) w (.int k (k.wrap (m+n))):=mk' λρ hρ o ho=>by
 unfold execOp;rw[ho];simp[hρ _ _ hx,hρ _ _ hy,go_sem,qO,binOp,Op.intArith]
theorem val_sub (hx:ev env x=some (.int k m)) (hy:ev env y=some (.int k n)):cE P N env (.binOp .sub t x y u) w (.int k (k.wrap (m-n))):=mk' λρ hρ o ho=>by
 unfold execOp;rw[ho];simp[hρ _ _ hx,hρ _ _ hy,go_sem,qO,binOp,Op.intArith]
theorem val_mul (hx:ev env x=some (.int k m)) (hy:ev env y=some (.int k n)):cE P N env (.binOp .mul t x y u) w (.int k (k.wrap (m*n))):=mk' λρ hρ o ho=>by
 unfold execOp;rw[ho];simp[hρ _ _ hx,hρ _ _ hy,go_sem,qO,binOp,Op.intArith]
theorem hM (hx:ev env x=some (.int k m)) (hy:ev env y=some (.int k n)) (hn:n≠0):cE P N env (.binOp .quo t x y u) w (.int k (k.wrap (m.tdiv n))):=mk' λρ hρ o ho=>by
 unfold execOp;rw[ho];simp[hρ _ _ hx,hρ _ _ hy,go_sem,qO,binOp,Op.intDiv,hn]
theorem hU (hx:ev env x=some (.int k m)) (hy:ev env y=some (.int k n)) (hn:n≠0):cE P N env (.binOp .rem t x y u) w (.int k (m.tmod n)):=mk' λρ hρ o ho=>by
 unfold execOp;rw[ho];simp[hρ _ _ hx,hρ _ _ hy,go_sem,qO,binOp,Op.intDiv,hn]
theorem jq (hx:ev env x=some (.int k m)) (hy:ev env y=some (.int k n)):cE P N env (.binOp .lss t x y u) w (.bool (decide (m<n))):=mk' λρ hρ o ho=>by
 unfold execOp;rw[ho];simp[hρ _ _ hx,hρ _ _ hy,go_sem,qO,binOp,Op.intCmp]
theorem Es (hx:ev env x=some (.int k m)) (hy:ev env y=some (.int k n)):cE P N env (.binOp .leq t x y u) w (.bool (decide (m<=n))):=mk' λρ hρ o ho=>by
 unfold execOp;rw[ho];simp[hρ _ _ hx,hρ _ _ hy,go_sem,qO,binOp,Op.intCmp]
theorem jr (hx:ev env x=some (.int k m)) (hy:ev env y=some (.int k n)):cE P N env (.binOp .gtr t x y u) w (.bool (decide (n<m))):=mk' λρ hρ o ho=>by
 unfold execOp;rw[ho];simp[hρ _ _ hx,hρ _ _ hy,go_sem,qO,binOp,Op.intCmp]
theorem lH (hx:ev env x=some (.int k m)) (hy:ev env y=some (.int k n)):cE P N env (.binOp .geq t x y u) w (.bool (decide (n<=m))):=mk' λρ hρ o ho=>by
 unfold execOp;rw[ho];simp[hρ _ _ hx,hρ _ _ hy,go_sem,qO,binOp,Op.intCmp]
theorem CD (hx:ev env x=some (.int k m)) (hy:ev env y=some (.int k n)):cE P N env (.binOp .eql t x y u) w (.bool (decide (m=n))):=mk' λρ hρ o ho=>by
 unfold execOp;rw[ho];simp[hρ _ _ hx,hρ _ _ hy,go_sem,qO,binOp,Op.intCmp];rfl
theorem jQ (hx:ev env x=some (.int k m)) (hy:ev env y=some (.int k n)):cE P N env (.binOp .neq t x y u) w (.bool (decide (m≠n))):=mk' λρ hρ o ho=>by
 unfold execOp;rw[ho];simp[hρ _ _ hx,hρ _ _ hy,go_sem,qO,binOp,Op.intCmp];by_cases h:m=n<;>simp[h]
def bitsOf (op:BinOp) (k:IntKind) (m n:Int):Int:=
 k.wrap ((match op with
  | .and=>BitVec.ofInt k.bits m&&&BitVec.ofInt k.bits n
  | .or=>BitVec.ofInt k.bits m|||BitVec.ofInt k.bits n
  | .xor=>BitVec.ofInt k.bits m^^^BitVec.ofInt k.bits n
  |_=>BitVec.ofInt k.bits m&&&~~~(BitVec.ofInt k.bits n):BitVec k.bits).toNat)
theorem gd (hx:ev env x=some (.int k m)) (hy:ev env y=some (.int k n)):cE P N env (.binOp .and t x y u) w (.int k (bitsOf .and k m n)):=mk' λρ hρ o ho=>by
 unfold execOp;rw[ho];simp[hρ _ _ hx,hρ _ _ hy,Sem.run_bind,Sem.run_pure,qO,binOp,Op.intBits,bitsOf]
theorem Dk (hx:ev env x=some (.int k m)) (hy:ev env y=some (.int k n)):cE P N env (.binOp .or t x y u) w (.int k (bitsOf .or k m n)):=mk' λρ hρ o ho=>by
 unfold execOp;rw[ho];simp[hρ _ _ hx,hρ _ _ hy,Sem.run_bind,Sem.run_pure,qO,binOp,Op.intBits,bitsOf]
theorem e4 (hx:ev env x=some (.int k m)) (hy:ev env y=some (.int k n)):cE P N env (.binOp .xor t x y u) w (.int k (bitsOf .xor k m n)):=mk' λρ hρ o ho=>by
 unfold execOp;rw[ho];simp[hρ _ _ hx,hρ _ _ hy,Sem.run_bind,Sem.run_pure,qO,binOp,Op.intBits,bitsOf]
theorem aiQ {j:IntKind} (hx:ev env x=some (.int k m)) (hy:ev env y=some (.int j n)) (hn:0<=n):
  cE P N env (.binOp .shl t x y u) w (.int k (k.wrap (m*2^min n.toNat k.bits))):=mk' λρ hρ o ho=>by
 have:¬n<0:=by omega
 unfold execOp;rw[ho];simp[hρ _ _ hx,hρ _ _ hy,Sem.run_bind,Sem.run_pure,qO,binOp,Op.shift,this]
theorem qP {j:IntKind} (hx:ev env x=some (.int k m)) (hy:ev env y=some (.int j n)) (hn:0<=n):
  cE P N env (.binOp .shr t x y u) w (.int k (m.fdiv (2^min n.toNat k.bits))):=mk' λρ hρ o ho=>by
 have:¬n<0:=by omega
 unfold execOp;rw[ho];simp[hρ _ _ hx,hρ _ _ hy,Sem.run_bind,Sem.run_pure,qO,binOp,Op.shift,this]
theorem oz {b:Bool} (hx:ev env x=some (.bool b)):cE P N env (.unOp .not t x) w (.bool (!b)):=mk' λρ hρ o ho=>by
 unfold execOp;rw[ho];simp[hρ _ _ hx,go_sem,Op.unary]
theorem CF {p:Prop} [Decidable p] (hx:ev env x=some (.bool (decide p))):cE P N env (.unOp .not t x) w (.bool (decide (¬p))):=mk' λρ hρ o ho=>by
 unfold execOp;rw[ho];simp[hρ _ _ hx,go_sem,Op.unary]
theorem A4 {j:IntKind} (hx:ev env x=some (.int j m)) (ht:∃d,P.underlying t=some d) (hu:P.underlying u=some (.int k)):cE P N env (.convert t u x) w (.int k (k.wrap m)):=mk' λρ hρ o ho=>by
 obtain⟨d,hd⟩:=ht;unfold execOp;rw[ho];simp[hρ _ _ hx,go_sem,convert,run_underlying hd,run_underlying hu,Conv.intToInt]
theorem A5 {b:Option Addr} {c l:Nat} {e:TypeId} (hx:ev env x=some (.slice b l c)) (ht:P.underlying t=some (.slice e)):
  cE P N env (.call {callee:=.builtin .len,args:=#[x],argTypes:=#[t]}) w (.int .i64 l):=mk' λρ hρ o ho=>by
 unfold execOp;rw[ho];simp[hρ _ _ hx,go_sem,resolve,invoke,builtin,Builtin.len_,run_underlying ht,goInt]
theorem rM {g:FuncId} {xs:Array Operand} {ts:Array TypeId} {vs:List Value} {cap:Array Value} {w:World}
  (gW:∀args w,(callFunc g args).run P w=.ok (.enter g args) w) (hx:ev env x=some (.func (.func g) #[] cap)) (hargs:l8 env xs.toList=some vs):
  Enters P N env (.call {callee:=.value x,args:=xs,argTypes:=ts}) w g (vs++cap.toList).toArray:=λa ha o ho=>by
 have h1:xs.map a.eval=vs.toArray:=by
  rw[<-ha.l8 hargs,<-List.map_toArray]
 unfold execOp;rw[ho];simp only[resolve,Deferred.ofValue,ha.ev hx,h1,Sem.run_bind,Sem.run_pure,Result.andThen_ok,invoke];rw[gW];simp
end
theorem wrap_i64 {n:Int} (h1:-9223372036854775808<=n) (h2:n<=9223372036854775807):IntKind.i64.wrap n=n:=IntWalk.i64_in n ⟨h1,h2⟩
theorem wrap_u64 {n:Int} (h1:0<=n) (h2:n<=18446744073709551615):IntKind.u64.wrap n=n:=by
 have h:IntKind.u64.wrap n=n%18446744073709551616:=by simp[IntKind.wrap,IntKind.signed,IntKind.bits]
 rw[h];exact Int.emod_eq_of_lt h1 af
theorem eq_int {k:IntKind} {a b:Int} (h:a=b):Value.int k a=Value.int k b:=by rw[h]
section
variable {P:Program} {N:Nat} {env:Env} {w:World} {x y:Operand} {t u:TypeId} {m n:Int}
theorem MJ (hx:ev env x=some (.int .i64 m)) (hy:ev env y=some (.int .i64 n)) (h1:-9223372036854775808<=m+n) (h2:m+n<=9223372036854775807):
  cE P N env (.binOp .add t x y u) w (.int .i64 (m+n)):=by
 have:=val_add (P:=P) (N:=N) (w:=w) (t:=t) (u:=u) hx hy;rwa [wrap_i64 h1 h2] at this
theorem br (hx:ev env x=some (.int .i64 m)) (hy:ev env y=some (.int .i64 n)) (h1:-9223372036854775808<=m-n) (h2:m-n<=9223372036854775807):
  cE P N env (.binOp .sub t x y u) w (.int .i64 (m-n)):=by
 have:=val_sub (P:=P) (N:=N) (w:=w) (t:=t) (u:=u) hx hy;rwa [wrap_i64 h1 h2] at this
theorem SX (hx:ev env x=some (.int .i64 m)) (hy:ev env y=some (.int .i64 n)) (h1:-9223372036854775808<=m*n) (h2:m*n<=9223372036854775807):
  cE P N env (.binOp .mul t x y u) w (.int .i64 (m*n)):=by
 have:=val_mul (P:=P) (N:=N) (w:=w) (t:=t) (u:=u) hx hy;rwa [wrap_i64 h1 h2] at this
theorem MK (hx:ev env x=some (.int .i64 m)) (hy:ev env y=some (.int .i64 n)) (h0:0<=m) (h1:1<=n) (h2:m<=9223372036854775807):
  cE P N env (.binOp .quo t x y u) w (.int .i64 (m/n)):=by
 have:=hM (P:=P) (N:=N) (w:=w) (t:=t) (u:=u) hx hy af;have h3:m/n<=m:=Int.ediv_le_self _ h0;have h4:0<=m/n:=Int.ediv_nonneg h0 af;rwa [Int.tdiv_eq_ediv_of_nonneg h0,wrap_i64 af af] at this
theorem ML (hx:ev env x=some (.int .i64 m)) (hy:ev env y=some (.int .i64 n)) (h0:0<=m) (h1:1<=n):
  cE P N env (.binOp .rem t x y u) w (.int .i64 (m%n)):=by
 have:=hU (P:=P) (N:=N) (w:=w) (t:=t) (u:=u) hx hy af;rwa [Int.tmod_eq_emod_of_nonneg h0] at this
end
section
variable {P:Program} {N:Nat} {env:Env} {w:World} {x y:Operand} {t u:TypeId} {m n r:Int} {k j:IntKind}
theorem St (hx:ev env x=some (.int k m)) (hy:ev env y=some (.int j n)) (hn:0<=n) (h:m.fdiv (2^min n.toNat k.bits)=r):cE P N env (.binOp .shr t x y u) w (.int k r):=by
 subst h;exact qP hx hy hn
theorem Gj (hx:ev env x=some (.int j m)) (ht:∃d,P.underlying t=some d) (hu:P.underlying u=some (.int k)) (h:k.wrap m=r):cE P N env (.convert t u x) w (.int k r):=by
 subst h;exact A4 hx ht hu
end
def oA (w w':World):Prop:=w.drawn<=w'.drawn
theorem oA.refl {w w':World} (h:w'.drawn=w.drawn):oA w w':=Nat.le_of_eq h.symm
theorem oA.succ {w w':World} (h:w'.drawn=w.drawn+1):oA w w':=by unfold oA;omega
theorem oA.trans {w w' w'':World} (h:oA w w') (h':oA w' w''):oA w w'':=Nat.le_trans h h'
structure Ext (A:Nat->Prop) (w w':World):Prop where
 os:w'.os=w.os
 tape:w'.tape=w.tape
 output:w'.output=w.output
 size:w.heap.size<=w'.heap.size
 block:∀b,b<w.heap.size->¬A b->w'.heap[b]?=w.heap[b]?
 drawn:oA w w'
def No:Nat->Prop:=λ_=>False
def One (b:Nat):Nat->Prop:=λx=>x=b
def cQ (v:Value):Nat->Prop:=λx=>v.ownBlock=some x
section
variable {A A' M M':Nat->Prop} {w w' w'':World}
theorem Ext.refl (A:Nat->Prop) (w:World):Ext A w w:=⟨rfl,rfl,rfl,Nat.le_refl _,λ_ _ _=>rfl,oA.refl rfl⟩
theorem Ext.trans (h:Ext A w w') (h':Ext A' w' w'') (hA:∀b,b<w.heap.size->A' b->A b):Ext A w w'':=
 ⟨h'.os.trans h.os,h'.tape.trans h.tape,h'.output.trans h.output,Nat.le_trans h.size h'.size,λb hb hn=>
  (h'.block b (Nat.lt_of_lt_of_le hb h.size) (λha=>hn (hA b hb ha))).trans (h.block b hb hn),oA.trans h.drawn h'.drawn⟩
theorem Ext.mono (h:Ext A w w') (hA:∀b,b<w.heap.size->A b->A' b):Ext A' w w':=
 ⟨h.os,h.tape,h.output,h.size,λb hb hn=>h.block b hb (λha=>hn (hA b hb ha)),h.drawn⟩
theorem Ext.drew (A:Nat->Prop) (w:World):Ext A w {w with drawn:=w.drawn+1}:=⟨rfl,rfl,rfl,Nat.le_refl _,λ_ _ _=>rfl,oA.succ rfl⟩
theorem Ext.below (h:Ext A w w') {B:Nat} (hB:B<=w.heap.size) (hA:∀b,A b->B<=b):Go.RowKit.Below B w w':=
 ⟨h.os,h.tape,h.output,h.size,λk hk=>h.block k (Nat.lt_of_lt_of_le hk hB) (λha=>by have:=hA k ha;omega)⟩
theorem Ext.xB (h:Ext A w w') {b:Nat} {o:Obj} (hb:w.heap[b]?=some o) (hn:¬A b):w'.heap[b]?=some o:=
 (h.block b (Array.getElem?_eq_some_iff.1 hb).1 hn).trans hb
theorem tC {b:Nat} {o:Obj} (hb:w.heap[b]?=some o):b<w.heap.size:=(Array.getElem?_eq_some_iff.1 hb).1
end
class bn (α:Type) where
 sz:Nat
 agg:Bool
 flat:agg=false->sz=1
 rep:Array Obj->(Nat->Prop)->α->List Value->Prop
 len:∀{h M x vs},rep h M x vs->vs.length=sz
 one:∀{h M x vs},rep h M x vs->∀v∈vs,v.oneCell'=true
 keep:∀{h h' M x vs},rep h M x vs->(∀b,b<h.size->¬M b->h'[b]?=h[b]?)->rep h' M x vs
 sub:∀{h M M' x vs},rep h M x vs->(∀b,b<h.size->M' b->M b)->rep h M' x vs
open bn
instance:bn Int where
 sz:=1
 agg:=false
 flat _:=rfl
 rep _ _ x vs:=vs=[.int .i64 x]
 len h:=by subst h;rfl
 one h:=by subst h;intro v hv;simp at hv;subst hv;rfl
 keep h _:=h
 sub h _:=h
instance:bn Nat where
 sz:=1
 agg:=false
 flat _:=rfl
 rep _ _ x vs:=vs=[.int .i64 (x:Int)]
 len h:=by subst h;rfl
 one h:=by subst h;intro v hv;simp at hv;subst hv;rfl
 keep h _:=h
 sub h _:=h
structure A6 (k:IntKind) where
 n:Int
abbrev j5:=A6 .u64
instance {k:IntKind}:bn (A6 k) where
 sz:=1
 agg:=false
 flat _:=rfl
 rep _ _ x vs:=vs=[.int k x.n]
 len h:=by subst h;rfl
 one h:=by subst h;intro v hv;simp at hv;subst hv;rfl
 keep h _:=h
 sub h _:=h
instance:bn Bool where
 sz:=1
 agg:=false
 flat _:=rfl
 rep _ _ x vs:=vs=[.bool x]
 len h:=by subst h;rfl
 one h:=by subst h;intro v hv;simp at hv;subst hv;rfl
 keep h _:=h
 sub h _:=h
instance:bn ByteArray where
 sz:=1
 agg:=false
 flat _:=rfl
 rep _ _ x vs:=vs=[.string x]/\x.size<=9223372036854775807
 len h:=by obtain⟨rfl,_⟩:=h;rfl
 one h:=by obtain⟨rfl,_⟩:=h;intro v hv;simp at hv;subst hv;rfl
 keep h _:=h
 sub h _:=h
instance {α β:Type} [bn α] [bn β]:bn (α×β) where
 sz:=sz α+sz β
 agg:=true
 flat h:=by cases h
 rep h M x vs:=∃us ws,vs=us++ws/\rep h M x.1 us/\rep h M x.2 ws
 len h:=by obtain⟨us,ws,rfl,h1,h2⟩:=h;rw[List.length_append,len h1,len h2]
 one h:=by
  obtain⟨us,ws,rfl,h1,h2⟩:=h;intro v hv;rcases List.mem_append.1 hv with hv|hv
  ·exact one h1 v hv
  ·exact one h2 v hv
 keep h hk:=by obtain⟨us,ws,e,h1,h2⟩:=h;exact⟨us,ws,e,keep h1 hk,keep h2 hk⟩
 sub h hk:=by obtain⟨us,ws,e,h1,h2⟩:=h;exact⟨us,ws,e,sub h1 hk,sub h2 hk⟩
@[reducible] def bn.via {α β:Type} [bn β] (f:α->β):bn α where
 sz:=sz β
 agg:=true
 flat h:=by cases h
 rep h M x vs:=rep h M (f x) vs
 len h:=len h
 one h:=one h
 keep h hk:=keep h hk
 sub h hk:=sub h hk
def cR (cs:Array Value) (o n:Nat):List Value:=(cs.toList.drop o).take n
def At {α:Type} [bn α] (h:Array Obj) (M:Nat->Prop) (b o:Nat) (x:α):Prop:=
 ¬M b/\∃cs ty eV,h[b]?=some (.cells cs ty eV)/\rep h M x (cR cs o (sz α))
def xC {α:Type} [bn α] (h:Array Obj) (M:Nat->Prop) (b o:Nat) (xs:List α):Prop:=
 ¬M b/\∃cs ty eV,h[b]?=some (.cells cs ty eV)/\o+xs.length*sz α<=cs.size/\∀i (hi:i<xs.length),rep h M xs[i] (cR cs (o+i*sz α) (sz α))
section
variable {α:Type} [bn α] {h h':Array Obj} {M M':Nat->Prop} {b o:Nat} {x:α} {xs:List α}
theorem At.keep (ha:At h M b o x) (hk:∀b,b<h.size->¬M b->h'[b]?=h[b]?):At h' M b o x:=by
 obtain⟨hb,cs,ty,eV,hc,hr⟩:=ha;exact⟨hb,cs,ty,eV,(hk b (Array.getElem?_eq_some_iff.1 hc).1 hb).trans hc,bn.keep hr hk⟩
theorem At.sub (ha:At h M b o x) (hk:∀b,b<h.size->M' b->M b):At h M' b o x:=by
 obtain⟨hb,cs,ty,eV,hc,hr⟩:=ha;exact⟨λh'=>hb (hk b (Array.getElem?_eq_some_iff.1 hc).1 h'),cs,ty,eV,hc,bn.sub hr hk⟩
theorem xC.keep (ha:xC h M b o xs) (hk:∀b,b<h.size->¬M b->h'[b]?=h[b]?):xC h' M b o xs:=by
 obtain⟨hb,cs,ty,eV,hc,hl,hr⟩:=ha;exact⟨hb,cs,ty,eV,(hk b (Array.getElem?_eq_some_iff.1 hc).1 hb).trans hc,hl,λi hi=>bn.keep (hr i hi) hk⟩
theorem xC.sub (ha:xC h M b o xs) (hk:∀b,b<h.size->M' b->M b):xC h M' b o xs:=by
 obtain⟨hb,cs,ty,eV,hc,hl,hr⟩:=ha;exact⟨λh'=>hb (hk b (Array.getElem?_eq_some_iff.1 hc).1 h'),cs,ty,eV,hc,hl,λi hi=>bn.sub (hr i hi) hk⟩
theorem xC.xB (ha:xC h M b o xs) (i:Nat) (hi:i<xs.length):At h M b (o+i*sz α) xs[i]:=by
 obtain⟨hb,cs,ty,eV,hc,hl,hr⟩:=ha;exact⟨hb,cs,ty,eV,hc,hr i hi⟩
end
instance {α:Type} [bn α]:bn (List α) where
 sz:=1
 agg:=false
 flat _:=rfl
 rep h M xs vs:=∃a c,vs=[.slice a xs.length c]/\xs.length<=c/\xs.length<=9223372036854775807/\(xs=[]\/∃b o,a=some ⟨b,o,none⟩/\xC h M b o xs)
 len h:=by obtain⟨a,c,rfl,_⟩:=h;rfl
 one h:=by obtain⟨a,c,rfl,_⟩:=h;intro v hv;simp at hv;subst hv;rfl
 keep h hk:=by
  obtain⟨a,c,e,h1,h2,h3⟩:=h;exact⟨a,c,e,h1,h2,h3.imp id (λ⟨b,o,ha,hs⟩=>⟨b,o,ha,hs.keep hk⟩)⟩
 sub h hk:=by
  obtain⟨a,c,e,h1,h2,h3⟩:=h;exact⟨a,c,e,h1,h2,h3.imp id (λ⟨b,o,ha,hs⟩=>⟨b,o,ha,hs.sub hk⟩)⟩
def aq {α:Type} [bn α] (w:World) (M:Nat->Prop) (x:α) (v:Value):Prop:=∃vs,rep w.heap M x vs/\v=if agg α then .agg vs.toArray else vs.headD undef
def bk {α:Type} [bn α] (w:World) (M:Nat->Prop) (x:α) (b o:Nat):Prop:=At w.heap M b o x
section
variable {α β:Type} [bn α] [bn β] {w w':World} {A M M':Nat->Prop} {x:α} {xs:List α} {v:Value} {b o:Nat}
theorem aq.ext (hr:aq w M x v) (he:Ext A w w') (hA:∀b,b<w.heap.size->A b->M b):aq w' M x v:=
 let⟨vs,h1,h2⟩:=hr;⟨vs,bn.keep h1 (λb hb hn=>he.block b hb (λha=>hn (hA b hb ha))),h2⟩
theorem aq.sub (hr:aq w M x v) (hA:∀b,b<w.heap.size->M' b->M b):aq w M' x v:=let⟨vs,h1,h2⟩:=hr;⟨vs,bn.sub h1 hA,h2⟩
theorem bk.ext (hr:bk w M x b o) (he:Ext A w w') (hA:∀b,b<w.heap.size->A b->M b):bk w' M x b o:=
 At.keep hr (λb hb hn=>he.block b hb (λha=>hn (hA b hb ha)))
theorem bk.sub (hr:bk w M x b o) (hA:∀b,b<w.heap.size->M' b->M b):bk w M' x b o:=At.sub hr hA
theorem cO {n:Int}:aq w M n v↔v=.int .i64 n:=⟨λ⟨vs,h,e⟩=>by subst h;exact e,λh=>⟨_,rfl,h⟩⟩
theorem dJ {n:Nat}:aq w M n v↔v=.int .i64 (n:Int):=⟨λ⟨vs,h,e⟩=>by subst h;exact e,λh=>⟨_,rfl,h⟩⟩
theorem l9 {k:IntKind} {n:A6 k}:aq w M n v↔v=.int k n.n:=⟨λ⟨vs,h,e⟩=>by subst h;exact e,λh=>⟨_,rfl,h⟩⟩
theorem jt {n:Bool}:aq w M n v↔v=.bool n:=⟨λ⟨vs,h,e⟩=>by subst h;exact e,λh=>⟨_,rfl,h⟩⟩
theorem kT:aq w M xs v↔∃a c,v=.slice a xs.length c/\xs.length<=c/\xs.length<=9223372036854775807/\(xs=[]\/∃b o,a=some ⟨b,o,none⟩/\xC w.heap M b o xs):=
 ⟨λ⟨vs,h,e⟩=>by obtain⟨a,c,rfl,h⟩:=h;exact⟨a,c,e,h⟩,λ⟨a,c,h⟩=>⟨_,⟨a,c,rfl,h.2⟩,h.1⟩⟩
theorem eT:aq w M ([]:List α) (.slice none 0 0):=kT.2 ⟨none,0,rfl,Nat.le_refl _,by simp,.inl rfl⟩
theorem bk.fst {p:α×β} (h:bk w M p b o):bk w M p.1 b o:=by
 obtain⟨hb,cs,ty,eV,hc,us,ws,he,h1,h2⟩:=h;refine⟨hb,cs,ty,eV,hc,?_⟩;have:cR cs o (sz α)=us:=by
  have e:cR cs o (sz (α×β))=us++ws:=he;have hl:=bn.len h1;have:cR cs o (sz α)=(cR cs o (sz (α×β))).take (sz α):=by
   simp only[cR,List.take_take];congr 1;exact(Nat.min_eq_left (Nat.le_add_right _ _)).symm
  rw[this,e,<-hl,List.take_left]
 rw[this];exact h1
theorem bk.snd {p:α×β} (h:bk w M p b o):bk w M p.2 b (o+sz α):=by
 obtain⟨hb,cs,ty,eV,hc,us,ws,he,h1,h2⟩:=h;refine⟨hb,cs,ty,eV,hc,?_⟩;have:cR cs (o+sz α) (sz β)=ws:=by
  have e:cR cs o (sz (α×β))=us++ws:=he;have hl:=bn.len h1;have:cR cs (o+sz α) (sz β)=(cR cs o (sz (α×β))).drop (sz α):=by
   simp only[cR,List.drop_take,List.drop_drop];congr 1;exact(Nat.add_sub_cancel_left _ _).symm
  rw[this,e,<-hl,List.drop_left]
 rw[this];exact h2
theorem aq.Gk (h:aq w M x v) (hx:bn.agg α=false):rep w.heap M x [v]:=by
 obtain⟨vs,hr,hv⟩:=h;have hl:=bn.len hr;rw[bn.flat hx] at hl;obtain⟨u,rfl⟩:=List.length_eq_one_iff.1 hl;simp only[hx,Bool.false_eq_true,if_false,List.headD_cons] at hv;subst hv;exact hr
theorem zi (h:rep w.heap M x [v]) (hx:bn.agg α=false):aq w M x v:=⟨[v],h,by simp[hx]⟩
def gH (P:Program) (t:TypeId):Option Bool:=match P.underlying t with|some (.struct _)=>some true|some (.array _ _)=>some true|some _=>some false|none=>none
def gN (P:Program) (t:TypeId):Option Nat:=(P.info? t).map (·.size)
variable {P:Program} {N:Nat} {env:Env} {t u:TypeId} {y z:Operand}
theorem uJ {b:Bool} (h:gH P t=some b) (w:World): (isAgg t).run P w=.ok b w:=by
 unfold gH at h;split at h<;>rename_i hu<;>first|(simp only[Option.some.injEq] at h;subst h)|cases h
 all_goals simp[isAgg,run_underlying hu]
theorem mW {n:Nat} (h:gN P t=some n) (w:World): (sizeOf t).run P w=.ok n w:=by
 unfold gN at h;cases hi:P.info? t with
 |none=>rw[hi] at h;cases h
 |some i=>rw[hi] at h;simp only[Option.map_some,Option.some.injEq] at h;subst h;simp[sizeOf,typeInfo,hi]
theorem SY {cs:Array Value} {o n:Nat} {vs:List Value} (h:cR cs o n=vs) (hl:vs.length=n) {j:Nat} (hj:j<n):cs[o+j]?=vs[j]?:=by
 subst h;simp only[cR,List.getElem?_take,List.getElem?_drop,if_pos hj];simp
theorem rN (b o n:Nat): (⟨b,o,none⟩:Addr).add n=⟨b,o+n,none⟩:=by unfold Addr.add;split<;>simp_all
theorem bk.load (h:bk w M x b o) (ha:gH P t=some false) (hx:bn.agg α=false) (hy:ev env y=some (.pointer (some ⟨b,o,none⟩))):
  ∃v,aq w M x v/\∀w',w'.heap[b]?=w.heap[b]?->cE P N env (.load t y) w' v:=by
 obtain⟨hb,cs,ty,eV,hc,hr⟩:=h;have h1:sz α=1:=bn.flat hx;obtain⟨v,hv⟩:∃v,cR cs o (sz α)=[v]:=List.length_eq_one_iff.1 (by rw[len hr,h1]);rw[hv] at hr;refine⟨v,⟨[v],hr,by simp[hx]⟩,λw' hw=>mk' λρ hρ fB ho=>?_⟩;rw[<-hw] at hc;have h2:cs[o]?=some v:=by have:=SY (j:=0) hv (by simp[h1]) af;simpa using this
 unfold execOp;rw[ho];simp[hρ _ _ hy,go_sem,Instr.loadAt,Instr.sureAddr,loadVar,uJ ha,World.cell?,hc,h2]
theorem bk.Et (h:bk w M x b o) (ha:gH P t=some true) (hs:gN P t=some (sz α)) (hx:bn.agg α=true) (hy:ev env y=some (.pointer (some ⟨b,o,none⟩))):
  ∃v,aq w M x v/\∀w',w'.heap[b]?=w.heap[b]?->cE P N env (.load t y) w' v:=by
 obtain⟨hb,cs,ty,eV,hc,hr⟩:=h;refine⟨.agg (cR cs o (sz α)).toArray,⟨_,hr,by simp only[hx,if_true]⟩,λw' hw=>mk' λρ hρ fB ho=>?_⟩;rw[<-hw] at hc;have hl:=len hr;have hcells: (loadCells ⟨b,o,none⟩ (sz α)).run P w'=.ok (cR cs o (sz α)).toArray w':=by
  have:=run_loadCells_list (P:=P) w' ⟨b,o,none⟩ (cR cs o (sz α)) (λj v hv=>by
   have hj:j<sz α:=by rw[<-hl];exact(List.getElem?_eq_some_iff.1 hv).1
   rw[rN,cell_of_row w' b (o+j) cs ty eV hc,SY rfl hl hj,hv])
  rwa [hl] at this
 simp only[loadCells] at hcells;unfold execOp;rw[ho];simp[hρ _ _ hy,go_sem,Instr.loadAt,Instr.sureAddr,loadVar,uJ ha,mW hs,loadCells,hcells]
theorem vW {cs:List Value} {ty:TypeId} {eV:Nat×Nat} (hc:w.heap[b]?=some (.cells cs.toArray ty eV)) (ha:gH P t=some false) (hv:cs[o]?=some v)
  (hy:ev env y=some (.pointer (some ⟨b,o,none⟩))):cE P N env (.load t y) w v:=mk' λρ hρ fB ho=>by
 have h2:cs.toArray[o]?=some v:=by simpa using hv
 unfold execOp;rw[ho];simp[hρ _ _ hy,go_sem,Instr.loadAt,Instr.sureAddr,loadVar,uJ ha,World.cell?,hc,h2]
theorem pK {cs:List Value} {ty:TypeId} {eV:Nat×Nat} {n:Nat} {vs:List Value} (hc:w.heap[b]?=some (.cells cs.toArray ty eV)) (ha:gH P t=some true) (hs:gN P t=some n)
  (hv: (cs.drop o).take n=vs) (hl:vs.length=n) (hy:ev env y=some (.pointer (some ⟨b,o,none⟩))):cE P N env (.load t y) w (.agg vs.toArray):=mk' λρ hρ fB ho=>by
 have hcells: (loadCells ⟨b,o,none⟩ n).run P w=.ok vs.toArray w:=by
  have:=run_loadCells_list (P:=P) w ⟨b,o,none⟩ vs (λj u hu=>by
   have hj:j<n:=by rw[<-hl];exact(List.getElem?_eq_some_iff.1 hu).1
   rw[rN,cell_of_row w b (o+j) cs.toArray ty eV hc];rw[<-hu,<-hv,List.getElem?_take,if_pos hj,List.getElem?_drop];simp)
  rwa [hl] at this
 simp only[loadCells] at hcells;unfold execOp;rw[ho];simp[hρ _ _ hy,go_sem,Instr.loadAt,Instr.sureAddr,loadVar,uJ ha,mW hs,loadCells,hcells]
def Eu (P:Program) (t:TypeId) (f:Nat):Option Nat:=match P.underlying t with
 |some (.struct fs)=>match fs[f]? with
  |some fl=>match gN P fl.type with|some (_+1)=>some fl.offset|_=>none
  |none=>none
 |_=>none
theorem CG {f off:Nat} (hf:Eu P t f=some off) (hy:ev env y=some (.pointer (some ⟨b,o,none⟩))):
  cE P N env (.fieldAddr t y f) w (.pointer (some ⟨b,o+off,none⟩)):=mk' λρ hρ fB ho=>by
 unfold Eu at hf;split at hf
 ·rename_i fs hu;split at hf
  ·rename_i fl hfl;split at hf
   ·rename_i n hn;simp only[Option.some.injEq] at hf;subst hf;unfold execOp;rw[ho];simp[hρ _ _ hy,go_sem,Instr.fieldAt,run_underlying hu,hfl,Instr.sureAddr,fieldPlace,mW hn,rN]
   ·cases hf
  ·cases hf
 ·cases hf
def j6 (P:Program) (t:TypeId):Option (TypeId×Nat):=match P.underlying t with
 |some (.slice e)=>match gN P e with|some n=>some (e,n)|none=>none
 |_=>none
theorem MN {e n l c:Nat} {k:IntKind} {i:Int} (hf:j6 P t=some (e,n)) (hy:ev env y=some (.slice (some ⟨b,o,none⟩) l c)) (hz:ev env z=some (.int k i))
  (h0:0<=i) (h1:i<l):cE P N env (.indexAddr t y z) w (.pointer (some ⟨b,o+i.toNat*n,none⟩)):=mk' λρ hρ fB ho=>by
 unfold j6 at hf;split at hf
 ·rename_i e' hu;split at hf
  ·rename_i n' hn;simp only[Option.some.injEq,Prod.mk.injEq] at hf;obtain⟨rfl,rfl⟩:=hf;unfold execOp;rw[ho];simp only[hρ _ _ hy,hρ _ _ hz];simp[go_sem,Instr.indexAt,run_underlying hu,asIntOf,mW hn,h0,h1,rN]
  ·cases hf
 ·cases hf
theorem aq.index (h:aq w M xs v) (hy:ev env y=some v) {e:Nat} {k:IntKind} {i:Int} (hf:j6 P t=some (e,sz α)) (hz:ev env z=some (.int k i))
  (h0:0<=i) (h1:i<xs.length):∃b o,bk w M (xs[i.toNat]'af) b o/\∀w',cE P N env (.indexAddr t y z) w' (.pointer (some ⟨b,o,none⟩)):=by
 obtain⟨a,c,rfl,hc,hm,hs⟩:=kT.1 h;rcases hs with rfl|⟨b,o,rfl,hs⟩
 ·simp at h1;omega
 ·exact⟨b,o+i.toNat*sz α,hs.xB _ _,λw'=>MN hf hy hz h0 h1⟩
theorem aq.len (h:aq w M xs v):∃a c,v=.slice a xs.length c:=let⟨a,c,e,_⟩:=kT.1 h;⟨a,c,e⟩
theorem aq.le (h:aq w M xs v):xs.length<=9223372036854775807:=let⟨a,c,_,_,e,_⟩:=kT.1 h;e
theorem aq.Ev (h:aq w M xs v) (hy:ev env y=some v) {e:TypeId} (ht:P.underlying t=some (.slice e)):
  ∀w',cE P N env (.call {callee:=.builtin .len,args:=#[y],argTypes:=#[t]}) w' (.int .i64 xs.length):=λw'=>by
 obtain⟨a,c,rfl⟩:=h.len;exact A5 hy ht
theorem aq.one (h:aq w M x v) (hx:bn.agg α=false):v.cells=#[v]/\v.oneCell'=true:=by
 obtain⟨vs,h1,h2⟩:=h;have hl:=bn.len h1;rw[bn.flat hx] at hl;obtain⟨u,rfl⟩:=List.length_eq_one_iff.1 hl;simp only[hx,Bool.false_eq_true,if_false,List.headD_cons] at h2;subst h2;have h3:=bn.one h1 v b_;refine⟨?_,h3⟩;cases v<;>first|rfl|simp[Value.oneCell'] at h3
theorem aq.many (h:aq w M x v) (hx:bn.agg α=true):∃vs,v=.agg vs.toArray/\vs.length=sz α/\(∀u∈vs,u.oneCell'=true)/\rep w.heap M x vs:=by
 obtain⟨vs,h1,h2⟩:=h;simp only[hx,if_true] at h2;exact⟨vs,h2,bn.len h1,bn.one h1,h1⟩
end
end Go.K
namespace Go.K
open bn
structure New (w w':World) (o:Obj):Prop where
 ext:Ext No w w'
 at_:w'.heap[w.heap.size]?=some o
 size:w'.heap.size=w.heap.size+1
structure CH (w w':World) (b:Nat) (o:Obj):Prop where
 ext:Ext (One b) w w'
 at_:w'.heap[b]?=some o
 size:w'.heap.size=w.heap.size
theorem zj (w:World) (o:Obj):New w (w.alloc o) o:=
 ⟨⟨rfl,rfl,rfl,by simp,λb hb _=>heap_alloc_old w o hb,oA.refl rfl⟩,heap_alloc_new w o,by simp⟩
theorem A7 (w:World) (o:Obj):New w (w.drew.alloc o) o:=
 ⟨⟨rfl,rfl,rfl,by simp,λb hb _=>heap_alloc_old w.drew o hb,oA.succ rfl⟩,heap_alloc_new w.drew o,by simp⟩
theorem MO {w:World} {b:Nat} {old cs:Array Value} {t:TypeId} {fr:Nat×Nat} (h:w.heap[b]?=some (.cells old t fr)):CH w (w.setRow b cs) b (.cells cs t fr):=
 ⟨⟨rfl,rfl,rfl,by simp[World.setRow],λk _ hk=>setRow_other w b k cs (λe=>hk e),oA.refl rfl⟩,setRow_heap w b old cs t fr h,by simp[World.setRow]⟩
def xD (P:Program) (t:TypeId):Option (List Value):=((P.info? t).bind (·.zero)).map (·.cells.toList)
section
variable {P:Program} {N:Nat} {env:Env} {w:World} {x y z:Operand} {t u e:TypeId} {v:Value}
theorem Gl {l:List Value} (h:xD P t=some l) (w:World):∃z,(zeroValue t).run P w=.ok z w/\z.cells=l.toArray:=by
 unfold xD at h;cases hi:P.info? t with
 |none=>rw[hi] at h;cases h
 |some i=>
  rw[hi] at h;cases hz:i.zero with
  |none=>simp[hz] at h
  |some z=>simp[hz] at h;subst h;exact⟨z,by simp[zeroValue,typeInfo,hi,hz],by simp⟩
theorem sP {op:Op} {T:Value->World->Prop} (h:∀ρ:Operand->Value,(∀x v,ev env x=some v->ρ x=v)->∀o:Oper,o.op=op->
  ∃v w',((execOp ρ o).run P w=.ok (.value v) w'\/((execOp ρ o).run P w=.ok .skip w'/\v=undef))/\T v w'):g_ P N env op w T:=
 λa ha o ho=>h a.eval (λx v hx=>ha.ev hx) o ho
theorem C0 {l:List Value} (hz:xD P t=some l):
  g_ P N env (.alloc t) w (λv w'=>v=.pointer (some ⟨w.heap.size,0,none⟩)/\New w w' (.cells l.toArray t)):=sP λρ hρ o ho=>by
 obtain⟨mD,h1,h2⟩:=Gl hz w;refine⟨_,_,.inl ?_,rfl,zj w _⟩;unfold execOp;rw[ho];simp[go_sem,Instr.alloc,h1,newVar,newRow];exact congrArg (λc=>w.alloc (.cells c t)) h2
theorem SZ {cs:List Value} (hx:ev env x=some v) (hc:v.cells=cs.toArray):
  g_ P N env (.box t x) w (λu w'=>u=.pointer (some ⟨w.heap.size,0,none⟩)/\New w w' (.cells cs.toArray t)):=sP λρ hρ o ho=>by
 refine⟨_,_,.inl ?_,rfl,zj w _⟩;unfold execOp;rw[ho];simp[hρ _ _ hx,go_sem,Instr.box,newVar,newRow];exact congrArg (λc=>w.alloc (.cells c t)) hc
theorem ua {b o n:Nat} {cs vs:List Value} {ty:TypeId} (hs:gN P t=some n) (hv:v.cells=vs.toArray) (hl:vs.length=n) (h1:∀u∈vs,u.oneCell'=true)
  (hb:w.heap[b]?=some (.cells cs.toArray ty (0,0))) (ho:o+n<=cs.length):
  (storeVar t ⟨b,o,none⟩ v).run P w=.ok () (w.setRow b (cs.take o++vs++cs.drop (o+n)).toArray):=by
 have hst:=run_storeCells_at P b o ty vs 0 cs.toArray w hb (by simpa[hl] using ho) h1;simp only[Nat.add_zero,hl] at hst;unfold storeVar;simp[mW hs,hv,hl,hst]
theorem JI {b o n:Nat} {cs vs:List Value} {ty:TypeId} (hx:ev env x=some (.pointer (some ⟨b,o,none⟩))) (hy:ev env y=some v) (hs:gN P t=some n)
  (hv:v.cells=vs.toArray) (hl:vs.length=n) (h1:∀u∈vs,u.oneCell'=true) (hb:w.heap[b]?=some (.cells cs.toArray ty (0,0))) (ho:o+n<=cs.length):
  g_ P N env (.store t x y) w (λu w'=>u=undef/\CH w w' b (.cells (cs.take o++vs++cs.drop (o+n)).toArray ty (0,0))):=sP λρ hρ fB gO=>by
 refine⟨undef,_,.inr ⟨?_,rfl⟩,rfl,MO hb⟩;unfold execOp;rw[gO];simp only[hρ _ _ hx,hρ _ _ hy,Instr.storeAt,Instr.sureAddr,Sem.run_bind,Sem.run_pure,Result.andThen_ok];rw[ua hs hv hl h1 hb ho];rfl
theorem yl {b o:Nat} {cs:List Value} {ty:TypeId} (hx:ev env x=some (.pointer (some ⟨b,o,none⟩))) (hy:ev env y=some v) (hs:gN P t=some 1)
  (hv:v.cells=#[v]) (h1:v.oneCell'=true) (hb:w.heap[b]?=some (.cells cs.toArray ty (0,0))) (ho:o<cs.length):
  g_ P N env (.store t x y) w (λu w'=>u=undef/\CH w w' b (.cells (cs.set o v).toArray ty (0,0))):=by
 have h:=JI (P:=P) (N:=N) (w:=w) (vs:=[v]) (n:=1) hx hy hs (by simpa using hv) rfl (by simpa using h1) hb ho;have e:cs.take o++[v]++cs.drop (o+1)=cs.set o v:=by
  rw[List.set_eq_take_append_cons_drop,if_pos ho];simp
 rwa [e] at h
end
def k7 {α:Type} [bn α] (w:World) (M:Nat->Prop) (e:TypeId) (v:Value) (ys:List α):Prop:=
 (v=.slice none 0 0/\ys=[])\/
 ∃g cap cs,v=.slice (some ⟨g,0,none⟩) ys.length cap/\M g/\w.heap[g]?=some (.cells cs e (0,0))/\ys.length<=cap/\cs.size=cap*sz α/\
  ∀i (hi:i<ys.length),rep w.heap M ys[i] (cR cs (i*sz α) (sz α))
section
variable {α:Type} [bn α] {w w':World} {A M M':Nat->Prop} {e:TypeId} {v:Value} {ys zs:List α}
theorem k7.nil:k7 w M e (.slice none 0 0) ([]:List α):=.inl ⟨rfl,rfl⟩
theorem k7.ext (h:k7 w M e v ys) (he:Ext A w w') (hA:∀b,b<w.heap.size->A b->M b) (hv:∀b,cQ v b->¬A b):k7 w' M e v ys:=by
 rcases h with h|⟨g,cap,cs,Gm,hg,hc,h1,h2,h3⟩
 ·exact .inl h
 ·refine .inr ⟨g,cap,cs,Gm,hg,he.xB hc (hv g (by subst Gm;rfl)),h1,h2,λi hi=>bn.keep (h3 i hi) (λb hb hn=>he.block b hb (λha=>hn (hA b hb ha)))⟩
theorem k7.sub (h:k7 w M e v ys) (h_:∀b,b<w.heap.size->M' b->M b) (hv:∀b,cQ v b->M' b):k7 w M' e v ys:=by
 rcases h with h|⟨g,cap,cs,Gm,hg,hc,h1,h2,h3⟩
 ·exact .inl h
 ·exact .inr ⟨g,cap,cs,Gm,hv g (by subst Gm;rfl),hc,h1,h2,λi hi=>bn.sub (h3 i hi) h_⟩
theorem k7.fG (h:k7 w M e v ys):∀b,cQ v b->M b/\b<w.heap.size:=by
 intro b hb;rcases h with⟨rfl,_⟩|⟨g,cap,cs,rfl,hg,hc,_⟩
 ·cases hb
 ·simp only[cQ,Value.ownBlock,Option.some.injEq] at hb;subst hb;exact⟨hg,tC hc⟩
theorem k7.len (h:k7 w M e v ys):∃a c,v=.slice a ys.length c:=by
 rcases h with⟨rfl,rfl⟩|⟨g,cap,cs,rfl,_⟩
 ·exact⟨none,0,rfl⟩
 ·exact⟨_,_,rfl⟩
theorem k7.read (h:k7 w M e v ys) (h_:∀b,b<w.heap.size->M' b->M b/\¬cQ v b) (hl:ys.length<=9223372036854775807):aq w M' ys v:=by
 rcases h with⟨rfl,rfl⟩|⟨g,cap,cs,rfl,hg,hc,h1,h2,h3⟩
 ·exact eT
 ·refine kT.2 ⟨_,cap,rfl,h1,hl,.inr ⟨g,0,rfl,?_⟩⟩;refine⟨λhm=>(h_ g (tC hc) hm).2 rfl,cs,e,_,hc,?_,λi hi=>?_⟩
  ·rw[Nat.zero_add,h2];exact Nat.mul_le_mul_right _ h1
  ·rw[Nat.zero_add];exact bn.sub (h3 i hi) (λb hb hm=>(h_ b hb hm).1)
theorem tD {cs cs':Array Value} {o o' n:Nat} (h:∀j,j<n->cs[o+j]?=cs'[o'+j]?):cR cs o n=cR cs' o' n:=by
 apply List.ext_getElem?;intro j;simp only[cR,List.getElem?_take,List.getElem?_drop];split
 ·rename_i hj;simpa using h j hj
 ·rfl
variable {P:Program} {N:Nat} {env:Env} {x y:Operand} {t u:TypeId} {s:Value}
def rO (P:Program) (t e n bytes:Nat):Bool:=match P.underlying t,P.info? e with
 |some (.slice e'),some i=>e'==e&&i.size==n&&i.bytes==bytes&&(match i.zero with|some z=>z.cells.size==n|none=>false)
 |_,_=>false
theorem A8 {n bytes:Nat} (h:rO P t e n bytes=true):∃i z,P.underlying t=some (.slice e)/\P.info? e=some i/\i.size=n/\i.bytes=bytes/\i.zero=some z/\z.cells.size=n:=by
 unfold rO at h;split at h
 ·rename_i e' i hu hi;simp only[Bool.and_eq_true,beq_iff_eq] at h;obtain⟨⟨⟨rfl,h1⟩,h2⟩,h3⟩:=h;cases hz:i.zero with
  |none=>rw[hz] at h3;cases h3
  |some z=>rw[hz] at h3;exact⟨i,z,hu,hi,h1,h2,hz,by simpa using h3⟩
 ·cases h
theorem MP {bytes:Nat} (hx:ev env x=some v) (hy:ev env y=some s) (hrow:rO P t e (sz α) bytes=true) (hsz:0<sz α)
  (hown:k7 w M e v ys) (hsrc:aq w M zs s) (hlen: (ys.length+zs.length)*bytes<=140737488355328) (h63:ys.length+zs.length<=140737488355328):
  g_ P N env (.call {callee:=.builtin .append,args:=#[x,y],argTypes:=#[t,t]}) w (λv' w'=>
   k7 w' (λb=>cQ v' b\/M b) e v' (ys++zs)/\Ext (cQ v) w w'/\(∀b,cQ v' b->cQ v b\/w.heap.size<=b)):=sP λρ hρ fB gO=>by
 obtain⟨i,z,hu,hi,tE,hby,hz,hzs⟩:=A8 hrow;obtain⟨a,c,rfl,hcap,hl0,JJ⟩:=kT.1 hsrc;have key:∃v' w',(Builtin.append_ #[t,t] fB.type #[v,.slice a zs.length c]).run P w=.ok v' w'/\
   k7 w' (λb=>cQ v' b\/M b) e v' (ys++zs)/\Ext (cQ v) w w'/\(∀b,cQ v' b->cQ v b\/w.heap.size<=b):=by
  by_cases vX:zs=[]
  ·subst vX;refine⟨v,w,?_,?_,Ext.refl _ _,λb hb=> .inl hb⟩
   ·have hf: (Builtin.firstCells i.size 0 (.slice a 0 c)).run P w=.ok #[] w:=by cases a<;>simp[Builtin.firstCells,loadCells,loadCellsFrom]
    rcases hown with⟨rfl,_⟩|⟨g,cap,cs,rfl,hg,hc,h1,h2,h3⟩
    ·simp[Builtin.append_,run_underlying hu,sizeOf,typeInfo,hi,Builtin.lenOf,hf]
    ·simp[Builtin.append_,run_underlying hu,sizeOf,typeInfo,hi,Builtin.lenOf,hf,h1,storeCells]
   ·rw[List.append_nil];exact hown.sub (λb hb h=>h.elim (λho=>(hown.fG b ho).1) id) (λb hb=> .inl hb)
  ·rcases JJ with h|⟨sb,so,rfl,Ew,tF,Gn,Gp,hsc,hsl,Gq⟩
   ·exact absurd h vX
   ·have hm0:0<zs.length:=List.length_pos_iff.2 vX;obtain⟨news,Gs⟩:∃news,news=cR tF so (zs.length*sz α):=⟨_,rfl⟩
    have hnl:news.length=zs.length*i.size:=by
     rw[Gs,tE];simp only[cR,List.length_take,List.length_drop,Array.length_toList];omega
    have A9:news.length=zs.length*sz α:=by rw[hnl,tE]
    have nC:∀j,j<zs.length*sz α->news[j]?=tF[so+j]?:=λj hj=>by
     rw[Gs];simp only[cR,List.getElem?_take,if_pos hj,List.getElem?_drop];simp
    have hnews:∀j v,news[j]?=some v->w.cell? ((⟨sb,so,none⟩:Addr).add j)=some v:=λj v hv=>by
     have hj:j<zs.length*sz α:=by rw[<-A9];exact(List.getElem?_eq_some_iff.1 hv).1
     rw[rN,cell_of_row w sb (so+j) tF Gn Gp hsc,<-nC j hj,hv]
    have Gt:∀k (hk:k<zs.length),rep w.heap M zs[k] (cR news.toArray (k*sz α) (sz α)):=λk hk=>by
     have:=Gq k hk;rwa [show cR tF (so+k*sz α) (sz α)=cR news.toArray (k*sz α) (sz α) from tD (λj hj=>by
      have hb:k*sz α+j<zs.length*sz α:=by
       have:=Nat.mul_le_mul_right (sz α) (show k+1<=zs.length from hk);rw[Nat.succ_mul] at this;omega
      rw[show∀m,news.toArray[m]?=news[m]? from λm=>by simp,nC _ hb,Nat.add_assoc])] at this
    have h1c:∀u∈news,u.oneCell'=true:=λu MQ=>by
     obtain⟨j,hj,rfl⟩:=List.mem_iff_getElem.1 MQ;have hjl:j<zs.length*sz α:=by rw[<-A9];exact hj
     have hk:j/sz α<zs.length:=(Nat.div_lt_iff_lt_mul hsz).2 hjl;refine bn.one (Gt (j/sz α) hk) _ ?_;apply List.mem_iff_getElem?.2;refine⟨j%sz α,?_⟩;have hmod:=Nat.mod_lt j hsz;simp only[cR,List.getElem?_take,if_pos hmod,List.getElem?_drop];rw[Nat.mul_comm,Nat.div_add_mod];simp[hj]
    have fresh:∀(olds:List Value) (cap:Nat) (o:Obj),olds.length=ys.length*sz α->(∀k (hk:k<ys.length),rep w.heap M ys[k] (cR olds.toArray (k*sz α) (sz α)))->
      o=.cells (olds.toArray++news.toArray++Builtin.zeroCells z.cells (cap-(ys.length+zs.length))) e (0,0)->ys.length+zs.length<=cap->
      k7 (w.drew.alloc o) (λb=>cQ (.slice (some ⟨w.heap.size,0,none⟩) (ys.length+zs.length) cap) b\/M b) e (.slice (some ⟨w.heap.size,0,none⟩) (ys.length+zs.length) cap) (ys++zs):=by
     intro olds cap o holds CK ho MR;subst ho;have hnew:=A7 w (.cells (olds.toArray++news.toArray++Builtin.zeroCells z.cells (cap-(ys.length+zs.length))) e (0,0));refine .inr ⟨w.heap.size,cap,_,by rw[List.length_append],.inl rfl,hnew.at_,by rw[List.length_append];exact MR,?_,?_⟩
     ·simp only[Array.size_append,List.size_toArray,size_zeroCells,hzs,holds,A9,<-Nat.add_mul];congr 1;omega
     ·intro k hk;rw[List.length_append] at hk;have hkeep:∀(x:α) (vs:List Value),rep w.heap M x vs->rep (w.drew.alloc (.cells (olds.toArray++news.toArray++Builtin.zeroCells z.cells (cap-(ys.length+zs.length))) e (0,0))).heap
        (λb=>cQ (.slice (some ⟨w.heap.size,0,none⟩) (ys.length+zs.length) cap) b\/M b) x vs:=λx vs hr=>
       bn.keep (bn.sub hr (λb hb h=>h.elim (λe=>by simp only[cQ,Value.ownBlock,Option.some.injEq] at e;omega) id)) (λb hb _=>hnew.ext.block b hb (λh=>h))
      by_cases vY:k<ys.length
      ·rw[List.getElem_append_left vY];have:=CK k vY;rw[show cR olds.toArray (k*sz α) (sz α)=cR (olds.toArray++news.toArray++Builtin.zeroCells z.cells (cap-(ys.length+zs.length))) (k*sz α) (sz α) from tD (λj hj=>by
        have hb:k*sz α+j<ys.length*sz α:=by
         have:=Nat.mul_le_mul_right (sz α) (show k+1<=ys.length from vY);rw[Nat.succ_mul] at this;omega
        rw[Array.append_assoc,Array.getElem?_append_left (by simpa[holds] using hb)])] at this
       exact hkeep _ _ this
      ·rw[List.getElem_append_right af];have A_:k-ys.length<zs.length:=by omega
       have:=Gt (k-ys.length) A_;rw[show cR news.toArray ((k-ys.length)*sz α) (sz α)=cR (olds.toArray++news.toArray++Builtin.zeroCells z.cells (cap-(ys.length+zs.length))) (k*sz α) (sz α) from tD (λj hj=>by
        have hb: (k-ys.length)*sz α+j<zs.length*sz α:=by
         have:=Nat.mul_le_mul_right (sz α) (show k-ys.length+1<=zs.length from A_);rw[Nat.succ_mul] at this;omega
        have he:k*sz α=ys.length*sz α+(k-ys.length)*sz α:=by rw[<-Nat.add_mul];congr 1;omega
        rw[Array.getElem?_append_left (by simp only[Array.size_append,List.size_toArray,holds,A9];omega),Array.getElem?_append_right (by simp only[List.size_toArray,holds];omega)];congr 1;simp only[List.size_toArray,holds];omega)] at this
       exact hkeep _ _ this
    rcases hown with⟨rfl,rfl⟩|⟨g,cap,cs,rfl,hg,hc,h1,h2,h3⟩
    ·have hr:=run_append_nil (P:=P) w t fB.type e i z hu hi hz ⟨sb,so,none⟩ zs.length c news hnl hnews hm0 af
      (by rw[hby];simp only[List.length_nil,Nat.zero_add] at hlen;omega)
     have hfr:=fresh [] (grownCap w zs.length 0 e) _ b_ (λk hk=>by simp at hk) rfl (by simpa using grownCap_ge w zs.length 0 e);simp only[List.length_nil,Nat.zero_add,List.nil_append] at hfr;refine⟨_,_,hr,?_,?_,?_⟩
     ·simpa using hfr
     ·exact(A7 w _).ext.mono (λb hb h=>h.elim)
     ·intro b hb;simp only[cQ,Value.ownBlock,Option.some.injEq] at hb;exact .inr af
    ·have MS: (cR cs 0 (ys.length*sz α)).length=ys.length*sz α:=by
      have:=Nat.mul_le_mul_right (sz α) h1;simp only[cR,List.length_take,List.length_drop,Array.length_toList];omega
     have S4:∀j,j<ys.length*sz α->(cR cs 0 (ys.length*sz α))[j]?=cs[j]?:=λj hj=>by
      simp only[cR,List.getElem?_take,if_pos hj,List.getElem?_drop];simp
     have CK:∀k (hk:k<ys.length),rep w.heap M ys[k] (cR (cR cs 0 (ys.length*sz α)).toArray (k*sz α) (sz α)):=λk hk=>by
      have:=h3 k hk;rwa [show cR cs (k*sz α) (sz α)=cR (cR cs 0 (ys.length*sz α)).toArray (k*sz α) (sz α) from tD (λj hj=>by
       have hb:k*sz α+j<ys.length*sz α:=by
        have:=Nat.mul_le_mul_right (sz α) (show k+1<=ys.length from hk);rw[Nat.succ_mul] at this;omega
       rw[show∀m,(cR cs 0 (ys.length*sz α)).toArray[m]?=(cR cs 0 (ys.length*sz α))[m]? from λm=>by simp,S4 _ hb])] at this
     by_cases hroom:ys.length+zs.length<=cap
     ·have hbound:ys.length*i.size+news.length<=cs.size:=by
       rw[hnl,tE,h2,<-Nat.add_mul];exact Nat.mul_le_mul_right _ hroom
      have hr:=run_append_room (P:=P) w t fB.type e i hu hi g ys.length cap cs hc ⟨sb,so,none⟩ zs.length c news hnl hnews h1c hroom hbound;have MT:=MO (w:=w) (cs:=(cs.toList.take (ys.length*i.size)++news++cs.toList.drop (ys.length*i.size+news.length)).toArray) hc;refine⟨_,_,hr,.inr ⟨g,cap,_,by rw[List.length_append],.inr hg,MT.at_,by rw[List.length_append];exact hroom,?_,?_⟩,?_,?_⟩
      ·simp only[List.size_toArray,List.length_append,List.length_take,List.length_drop,Array.length_toList,hnl,tE] at hbound⊢;omega
      ·intro k hk;rw[List.length_append] at hk;have hkeep:∀(x:α) (vs:List Value),rep w.heap M x vs->rep (w.setRow g (cs.toList.take (ys.length*i.size)++news++cs.toList.drop (ys.length*i.size+news.length)).toArray).heap
         (λb=>cQ (.slice (some ⟨g,0,none⟩) (ys.length+zs.length) cap) b\/M b) x vs:=λx vs hr'=>
        bn.keep (bn.sub hr' (λb hb h=>h.elim (λe=>by simp only[cQ,Value.ownBlock,Option.some.injEq] at e;subst e;exact hg) id))
         (λb hb hn=>MT.ext.block b hb (λh=>hn (.inr (by rw[show b=g from h];exact hg))))
       rw[tE] at hbound;by_cases vY:k<ys.length
       ·rw[List.getElem_append_left vY];have:=h3 k vY;rw[show cR cs (k*sz α) (sz α)=cR (cs.toList.take (ys.length*i.size)++news++cs.toList.drop (ys.length*i.size+news.length)).toArray (k*sz α) (sz α) from tD (λj hj=>by
         have hb:k*sz α+j<ys.length*sz α:=by
          have:=Nat.mul_le_mul_right (sz α) (show k+1<=ys.length from vY);rw[Nat.succ_mul] at this;omega
         conv=>rhs;rw[List.getElem?_toArray,List.append_assoc,List.getElem?_append_left (by simp only[List.length_take,Array.length_toList,tE];omega),List.getElem?_take,if_pos (by rw[tE];exact hb)]
         simp)] at this
        exact hkeep _ _ this
       ·rw[List.getElem_append_right af];have A_:k-ys.length<zs.length:=by omega
        have:=Gt (k-ys.length) A_;rw[show cR news.toArray ((k-ys.length)*sz α) (sz α)=cR (cs.toList.take (ys.length*i.size)++news++cs.toList.drop (ys.length*i.size+news.length)).toArray (k*sz α) (sz α) from tD (λj hj=>by
         have hb: (k-ys.length)*sz α+j<zs.length*sz α:=by
          have:=Nat.mul_le_mul_right (sz α) (show k-ys.length+1<=zs.length from A_);rw[Nat.succ_mul] at this;omega
         have he:k*sz α=ys.length*sz α+(k-ys.length)*sz α:=by rw[<-Nat.add_mul];congr 1;omega
         have jD: (cs.toList.take (ys.length*i.size)).length=ys.length*sz α:=by simp only[List.length_take,Array.length_toList,tE];omega
         rw[show∀m,news.toArray[m]?=news[m]? from λm=>by simp,show∀(l:List Value) m,l.toArray[m]?=l[m]? from λl m=>by simp,List.getElem?_append_left (by rw[List.length_append,jD];omega),List.getElem?_append_right (by rw[jD];omega),jD];congr 1;omega)] at this
        exact hkeep _ _ this
      ·exact MT.ext.mono (λb hb h=>by rw[show b=g from h];rfl)
      ·intro b hb;exact .inl hb
     ·have holds:∀j v,(cR cs 0 (ys.length*sz α))[j]?=some v->w.cell? ((⟨g,0,none⟩:Addr).add j)=some v:=λj v hv=>by
       have hj:j<ys.length*sz α:=by rw[<-MS];exact(List.getElem?_eq_some_iff.1 hv).1
       rw[rN,cell_of_row w g (0+j) cs e (0,0) hc,Nat.zero_add,<-S4 j hj,hv]
      have hr:=run_append_grow (P:=P) w t fB.type e i z hu hi hz ⟨g,0,none⟩ ys.length cap (cR cs 0 (ys.length*sz α)) (by rw[tE];exact MS) holds ⟨sb,so,none⟩ zs.length c news hnl hnews af af
       (growslice_fits af (by rw[hby];exact hlen))
      have hfr:=fresh _ (grownCap w (ys.length+zs.length) cap e) _ MS CK rfl (grownCap_ge w _ _ e);refine⟨_,_,hr,hfr,?_,?_⟩
      ·exact(A7 w _).ext.mono (λb hb h=>h.elim)
      ·intro b hb;simp only[cQ,Value.ownBlock,Option.some.injEq] at hb;exact .inr af
 obtain⟨v',w',hrun,hpost⟩:=key;refine⟨v',w',.inl ?_,hpost⟩;unfold execOp;rw[gO];simp[hρ _ _ hx,hρ _ _ hy,resolve,invoke,builtin,hrun]
end
def cl:Code->Code| .seq a _=>a| .cond _ a _=>a| .block _ b=>b| .loop b=>b| .scope b=>b|c=>c
def b7:Code->Code| .seq _ b=>b| .cond _ _ b=>b|c=>c
def nD:Code->Array Oper| .region _ ops _=>ops|_=>#[]
def qQ (fn:Func):Code:=match fn.body with|some c=>c|none=> .skip
section
variable {P:Program} {f:FuncId} {N:Nat} {k:List Item} {env:Env} {w w':World} {R:Value->World->Prop} {Q:Exit->Act->World->Prop}
variable {ops:Array Oper} {S:World->Prop} {i t:Nat} {L:List (Nat×Bool)} {op:Op} {v:Value} {x y z:Operand} {g:Option (Nat×Bool)}
theorem kL (hop:bY ops i=some (some t,op,g)) (hw:eo ops env g=some true) (ht:Nat.blt t N=true)
 (hy:∀w',S w'->cE P N env op w' v) (h:bN P N Q ops S L ((t,v)::env) w):bN P N Q ops S ((i,true)::L) env w:=bQ.yield hop hw ht hy h
theorem S5 (hop:bY ops i=some (some t,op,g)) (hw:eo ops env g=some false) (ht:Nat.blt t N=true)
 (h:bN P N Q ops S L ((t,undef)::env) w):bN P N Q ops S ((i,true)::L) env w:=bQ.pass hop hw ht h
theorem mb (hop:bY ops i=some (some t,op,g)) (hw:eo ops env g=some false) (ht:Nat.blt t N=true) (hS:S w)
 (h:bN P N Q ops S L ((t,undef)::env) w):bN P N Q ops S ((i,false)::L) env w:=bQ.tr hop hw ht hS h
theorem vZ (hop:bY ops i=some (some t,op,g)) (hw:eo ops env g=some true) (ht:Nat.blt t N=true) (hS:S w)
 (hy:cE P N env op w v) (h:bN P N Q ops S L ((t,v)::env) w):bN P N Q ops S ((i,false)::L) env w:=bQ.now hop hw ht hS hy h
theorem MU {T:Value->World->Prop} (hop:bY ops i=some (some t,op,g)) (hw:eo ops env g=some true) (ht:Nat.blt t N=true)
 (hy:g_ P N env op w T) (h:∀v w',T v w'->S w'/\bN P N Q ops S L ((t,v)::env) w'):bN P N Q ops S ((i,false)::L) env w:=bQ.act hop hw ht hy h
theorem MV {T:Value->World->Prop} (hop:bY ops i=some (none,op,g)) (hw:eo ops env g=some true)
 (hy:g_ P N env op w T) (h:∀v w',T v w'->S w'/\bN P N Q ops S L env w'):bN P N Q ops S ((i,false)::L) env w:=bQ.act hop hw rfl hy h
theorem uK {gf:FuncId} {args:Array Value} {T:Value->World->Prop} (hop:bY ops i=some (some t,op,g)) (hw:eo ops env g=some true) (ht:Nat.blt t N=true)
 (hy:Enters P N env op w gf args) (hc:Calls P gf args w (aZ T))
 (h:∀v w',T v w'->S w'/\bN P N Q ops S L ((t,v)::env) w'):bN P N Q ops S ((i,false)::L) env w:=bQ.call hop hw ht hy hc h
theorem Gu {gf:FuncId} {args:Array Value} {T:Value->World->Prop} (hop:bY ops i=some (none,op,g)) (hw:eo ops env g=some true)
 (hy:Enters P N env op w gf args) (hc:Calls P gf args w (aZ T))
 (h:∀v w',T v w'->S w'/\bN P N Q ops S L env w'):bN P N Q ops S ((i,false)::L) env w:=bQ.call hop hw rfl hy hc h
theorem zk {gf:FuncId} {xs:Array Operand} {ts:Array TypeId} {vs:List Value}
  (gW:∀args w,(callFunc gf args).run P w=.ok (.enter gf args) w) (hargs:l8 env xs.toList=some vs):
  Enters P N env (.call {callee:=.value (.func gf),args:=xs,argTypes:=ts}) w gf vs.toArray:=by
 have:=rM (P:=P) (N:=N) (env:=env) (w:=w) (ts:=ts) (x:=.func gf) (cap:=#[]) gW rfl hargs;simpa using this
theorem kp {env':Env} (hs:Sub env' env) (h:Run P f N k env' w R):Run P f N k env w R:=h.sub hs
end
def aj (C:Nat->Nat):Nat->Prop:=λb=>C b≠0
def aF (w:World) (C:Nat->Nat):Prop:=∀b,C b≠0->b<w.heap.size
structure av (I:List Nat) (w:World) (C:Nat->Nat) (w':World) (aG:Nat->Nat):Prop where
 ext:Ext (λb=>C b∈I) w w'
 col:∀b,b<w.heap.size->aG b=C b
structure bS (w:World) (C:Nat->Nat) (j b:Nat) (o:Obj):Prop where
 col:C b=j
 at_:w.heap[b]?=some o
structure aQ {α:Type} [bn α] (w:World) (C:Nat->Nat) (j:Nat) (e:TypeId) (v:Value) (ys:List α):Prop where
 own:k7 w (aj C) e v ys
 col:∀b,cQ v b->C b=j
section
variable {α β:Type} [bn α] [bn β] {w w' w'':World} {I J:List Nat} {C aG rP D:Nat->Nat} {x:α} {xs ys zs:List α} {v u:Value} {b o j n:Nat} {fG S6:Obj} {e:TypeId}
theorem av.refl (I:List Nat) (w:World) (C:Nat->Nat):av I w C w C:=⟨Ext.refl _ _,λ_ _=>rfl⟩
theorem av.aiR (h:aF w C):av [] w C w C:=av.refl [] w C
theorem av.trans (h:av I w C w' aG) (h':av J w' aG w'' rP) (hJ:∀c∈J,c∈I):av I w C w'' rP:=
 ⟨h.ext.trans h'.ext (λb hb hc=>by rw[h.col b hb] at hc;exact hJ _ hc),λb hb=>(h'.col b (Nat.lt_of_lt_of_le hb h.ext.size)).trans (h.col b hb)⟩
theorem av.mono (h:av I w C w' aG) (hI:∀c∈I,c∈J):av J w C w' aG:=⟨h.ext.mono (λb _ hc=>hI _ hc),h.col⟩
theorem av.tn (h:av J w C w' aG) (p:av I w' aG w'' rP):av (J++I) w C w'' rP:=
 (h.mono (λc hc=>List.mem_append_left _ hc)).trans (p.mono (λc hc=>List.mem_append_right _ hc)) (λ_ h=>h)
theorem pL (p:av I w C w' aG:=by(repeat clear hT);(repeat clear hR);(repeat clear hcs);(repeat (apply av.tn;assumption));exact av.refl [] _ _):av I w C w' aG:=p
theorem av.drew (I:List Nat) (w:World) (C:Nat->Nat):av I w C {w with drawn:=w.drawn+1} C:=⟨Ext.drew _ _,λ_ _=>rfl⟩
theorem av.size (h:av I w C w' aG):w.heap.size<=w'.heap.size:=h.ext.size
theorem aF.st (h:aF w C) (hs:av I w C w' C):aF w' C:=λb hb=>Nat.lt_of_lt_of_le (h b hb) hs.size
theorem aq.st (h:aq w (aj C) x v) (hs:av I w C w' aG) (h0:0∉I):aq w' (aj aG) x v:=
 aq.ext (h.sub (M':=aj aG) (λb hb hc=>by unfold aj at*;rwa [hs.col b hb] at hc)) hs.ext (λb hb hc=>by unfold aj;rw[hs.col b hb];intro e;rw[e] at hc;exact h0 hc)
theorem bk.st (h:bk w (aj C) x b o) (hs:av I w C w' aG) (h0:0∉I):bk w' (aj aG) x b o:=
 bk.ext (h.sub (M':=aj aG) (λb hb hc=>by unfold aj at*;rwa [hs.col b hb] at hc)) hs.ext (λb hb hc=>by unfold aj;rw[hs.col b hb];intro e;rw[e] at hc;exact h0 hc)
theorem bS.st (h:bS w C j b fG) (hs:av I w C w' aG) (hj:j∉I):bS w' aG j b fG:=
 ⟨(hs.col b (tC h.at_)).trans h.col,hs.ext.xB h.at_ (by rw[h.col];exact hj)⟩
theorem aQ.st (h:aQ w C j e v ys) (hs:av I w C w' aG) (h0:0∉I) (hj:j∉I):aQ w' aG j e v ys:=
 ⟨k7.ext (h.own.sub (M':=aj aG) (λb hb hc=>by unfold aj at*;rwa [hs.col b hb] at hc) (λb hb=>by have:=h.own.fG b hb;unfold aj at*;rw[hs.col b this.2];exact this.1))
   hs.ext (λb hb hc=>by unfold aj;rw[hs.col b hb];intro e;rw[e] at hc;exact h0 hc) (λb hb hc=>by rw[h.col b hb] at hc;exact hj hc),
  λb hb=>(hs.col b (h.own.fG b hb).2).trans (h.col b hb)⟩
theorem aQ.nil:aQ w C j e (.slice none 0 0) ([]:List α):=⟨k7.nil,λb hb=>by cases hb⟩
def Ba (C:Nat->Nat) (b j:Nat):Nat->Nat:=λx=>if x=b then j else C x
def gP (C:Nat->Nat) (v:Value) (j:Nat):Nat->Nat:=λx=>if v.ownBlock=some x then j else C x
theorem New.st (h:New w w' fG) (C:Nat->Nat):av [] w C w' C:=⟨h.ext.mono (λb _ h=>h.elim),λ_ _=>rfl⟩
theorem New.own (h:New w w' fG) (hF:aF w C) (j:Nat):∃aG,av [] w C w' aG/\bS w' aG j w.heap.size fG/\aF w' aG:=
 ⟨Ba C w.heap.size j,⟨h.ext.mono (λb _ h=>h.elim),λb hb=>by unfold Ba;rw[if_neg af]⟩,⟨by simp[Ba],h.at_⟩,λb hb=>by
  unfold Ba at hb;rw[h.size];split at hb
  ·omega
  ·have:=hF b hb;omega⟩
theorem CH.own (h:CH w w' b S6) (ho:bS w C j b fG):av [j] w C w' C/\bS w' C j b S6:=
 ⟨⟨h.ext.mono (λc _ hc=>by rw[show c=b from hc,ho.col];simp),λ_ _=>rfl⟩,⟨ho.col,h.at_⟩⟩
variable {P:Program} {N:Nat} {env:Env} {y z q:Operand} {t:TypeId}
theorem cu {cs:List Value} (hF:aF w C) (j:Nat) (hx:ev env y=some v) (hc:v.cells=cs.toArray):
  g_ P N env (.box t y) w (λu w'=>∃aG b,u=.pointer (some ⟨b,0,none⟩)/\av [] w C w' aG/\bS w' aG j b (.cells cs.toArray t)/\aF w' aG):=λa ha o ho=>by
 obtain⟨u,w',h1,rfl,h2⟩:=SZ (P:=P) (N:=N) (t:=t) (w:=w) hx hc a ha o ho;obtain⟨aG,h3,h4,h5⟩:=h2.own hF j;exact⟨_,w',h1,aG,_,rfl,h3,h4,h5⟩
theorem dn {cs:List Value} (hF:aF w C) (j:Nat) (hz:xD P t=some cs):
  g_ P N env (.alloc t) w (λu w'=>∃aG b,u=.pointer (some ⟨b,0,none⟩)/\av [] w C w' aG/\bS w' aG j b (.cells cs.toArray t)/\aF w' aG):=λa ha o ho=>by
 obtain⟨u,w',h1,rfl,h2⟩:=C0 (P:=P) (N:=N) (env:=env) (t:=t) (w:=w) hz a ha o ho;obtain⟨aG,h3,h4,h5⟩:=h2.own hF j;exact⟨_,w',h1,aG,_,rfl,h3,h4,h5⟩
theorem ic {cs:List Value} {ty:TypeId} (hx:ev env y=some (.pointer (some ⟨b,o,none⟩))) (hy:ev env z=some v) (hs:gN P t=some 1)
  (hv:v.cells=#[v]) (h1:v.oneCell'=true) (hb:bS w C j b (.cells cs.toArray ty)) (ho:o<cs.length):
  g_ P N env (.store t y z) w (λu w'=>u=undef/\av [j] w C w' C/\bS w' C j b (.cells (cs.set o v).toArray ty)):=λa ha fB gO=>by
 obtain⟨u,w',h2,h3,h4⟩:=yl (P:=P) (N:=N) (w:=w) hx hy hs hv h1 hb.at_ ho a ha fB gO;exact⟨u,w',h2,h3,h4.own hb⟩
theorem dI {cs vs:List Value} {ty:TypeId} (hx:ev env y=some (.pointer (some ⟨b,o,none⟩))) (hy:ev env z=some v) (hs:gN P t=some n)
  (hv:v.cells=vs.toArray) (hl:vs.length=n) (h1:∀u∈vs,u.oneCell'=true) (hb:bS w C j b (.cells cs.toArray ty)) (ho:o+n<=cs.length):
  g_ P N env (.store t y z) w (λu w'=>u=undef/\av [j] w C w' C/\bS w' C j b (.cells (cs.take o++vs++cs.drop (o+n)).toArray ty)):=λa ha fB gO=>by
 obtain⟨u,w',h2,h3,h4⟩:=JI (P:=P) (N:=N) (w:=w) hx hy hs hv hl h1 hb.at_ ho a ha fB gO;exact⟨u,w',h2,h3,h4.own hb⟩
theorem eO {bytes:Nat} {s:Value} (hF:aF w C) (hj:j≠0) (hx:ev env y=some v) (hy:ev env z=some s) (hrow:rO P t e (sz α) bytes=true) (hsz:0<sz α)
  (hown:aQ w C j e v ys) (hsrc:aq w (aj C) zs s) (hlen: (ys.length+zs.length)*bytes<=140737488355328) (h63:ys.length+zs.length<=140737488355328):
  g_ P N env (.call {callee:=.builtin .append,args:=#[y,z],argTypes:=#[t,t]}) w (λv' w'=>∃aG,av [j] w C w' aG/\aQ w' aG j e v' (ys++zs)/\aF w' aG):=λa ha fB gO=>by
 obtain⟨v',w',h1,h2,h3,h4⟩:=MP (P:=P) (N:=N) hx hy hrow hsz hown.own hsrc hlen h63 a ha fB gO;have kU:∀b,b<w.heap.size->gP C v' j b=C b:=λb hb=>by
  unfold gP;split
  ·rename_i e;rcases h4 b e with h|h
   ·exact(hown.col b h).symm
   ·omega
  ·rfl
 refine⟨v',w',h1,gP C v' j,⟨h3.mono (λb _ hb=>by rw[hown.col b hb];simp),kU⟩,⟨h2.sub (λb hb hc=>?_) (λb hb=>?_),λb hb=>?_⟩,λb hb=>?_⟩
 ·by_cases ho:cQ v' b
  ·exact .inl ho
  ·right;unfold aj gP at hc;rw[if_neg (show¬v'.ownBlock=some b from ho)] at hc;exact hc
 ·unfold aj gP;rw[if_pos (show v'.ownBlock=some b from hb)];exact hj
 ·unfold gP;rw[if_pos (show v'.ownBlock=some b from hb)]
 ·by_cases ho:cQ v' b
  ·exact(h2.fG b ho).2
  ·unfold gP at hb;rw[if_neg (show¬v'.ownBlock=some b from ho)] at hb;exact Nat.lt_of_lt_of_le (hF b hb) h3.size
def aI (C:Nat->Nat):Nat->Nat:=λb=>if C b=0 then 0 else 1
def cv (C:Nat->Nat) (i:Nat):Nat->Nat:=λb=>if C b=0 then 0 else if C b=i then 2 else 1
theorem S7 (C:Nat->Nat) (b:Nat):aI C b≠0↔C b≠0:=by unfold aI;split<;>simp_all
theorem S8 (C:Nat->Nat) (i b:Nat):cv C i b≠0↔C b≠0:=by unfold cv;split<;>(try split)<;>simp_all
theorem er (C:Nat->Nat):aj (aI C)=aj C:=by funext b;exact propext (S7 C b)
theorem qR (C:Nat->Nat) (i:Nat):aj (cv C i)=aj C:=by funext b;exact propext (S8 C i b)
theorem aF.aI (h:aF w C):aF w (aI C):=λb hb=>h b ((S7 C b).1 hb)
theorem aF.cv (h:aF w C) (i:Nat):aF w (cv C i):=λb hb=>h b ((S8 C i b).1 hb)
theorem bS.cv {i:Nat} (h:bS w C i b fG) (hi:i≠0):bS w (cv C i) 2 b fG:=⟨by unfold K.cv;rw[if_neg (by rw[h.col];exact hi),if_pos h.col],h.at_⟩
theorem av.JK (h:av I w (aI C) w' aG) (hI:∀c∈I,2<=c):av [] w C w' C:=⟨h.ext.mono (λb _ hc=>by
 have:=hI _ hc;unfold K.aI at this;split at this<;>omega),λ_ _=>rfl⟩
theorem av.p0 {i:Nat} (h:av I w (cv C i) w' aG) (hI:∀c∈I,2<=c):av [i] w C w' C:=⟨h.ext.mono (λb _ hc=>by
 have:=hI _ hc;simp only[List.mem_singleton];unfold K.cv at this;split at this
 ·omega
 ·split at this
  ·assumption
  ·omega),λ_ _=>rfl⟩
theorem av.MW (hs:av I w D w' aG) (hF:aF w C) (hD:aj D=aj C):∀b,C b≠0->b<w.heap.size/\aG b=D b/\D b≠0:=λb hb=>by
 have h1:=hF b hb;refine⟨h1,hs.col b h1,?_⟩;have:aj D b:=by rw[hD];exact hb
 exact this
theorem aq.out (h:aq w' (aj aG) x v) (hs:av I w D w' aG) (hF:aF w C) (hD:aj D=aj C):aq w' (aj C) x v:=
 h.sub (λb _ hb=>by obtain⟨h1,h2,h3⟩:=hs.MW hF hD b hb;unfold aj;rw[h2];exact h3)
theorem aQ.out (h:aQ w' aG j e v ys) (hs:av I w D w' aG) (hF:aF w C) (hD:aj D=aj C) (hj:∀b,b<w.heap.size->D b≠j) (hl:ys.length<=9223372036854775807):aq w' (aj C) ys v:=
 h.own.read (λb _ hb=>by
  obtain⟨h1,h2,h3⟩:=hs.MW hF hD b hb;exact⟨by unfold aj;rw[h2];exact h3,λho=>hj b h1 (by rw[<-h2];exact h.col b ho)⟩) hl
theorem gI (C:Nat->Nat) {j:Nat} (hj:2<=j) (b:Nat):aI C b≠j:=by unfold aI;split<;>omega
theorem tG (C:Nat->Nat) (i:Nat) {j:Nat} (hj:3<=j) (b:Nat):cv C i b≠j:=by unfold cv;split<;>(try split)<;>omega
theorem bk.stay (h:bk w (aj C) x b o) (hS:Ext (λb=>C b∈I) w w') (h0:0∉I):w'.heap[b]?=w.heap[b]?:=by
 obtain⟨hb,cs,ty,eV,hc,_⟩:=h;exact hS.block b (tC hc) (λhm=>hb (λe=>h0 (by rw[e] at hm;exact hm)))
theorem bS.stay (h:bS w C j b fG) (hS:Ext (λb=>C b∈I) w w') (hj:j∉I):w'.heap[b]?=some fG:=
 hS.xB h.at_ (by rw[h.col];exact hj)
theorem aQ.Ev (h:aQ w C j e v ys) (hy:ev env y=some v) {d:TypeId} (ht:P.underlying t=some (.slice d)):
  ∀w',cE P N env (.call {callee:=.builtin .len,args:=#[y],argTypes:=#[t]}) w' (.int .i64 ys.length):=λw'=>by
 obtain⟨a,c,rfl⟩:=h.own.len;exact A5 hy ht
end
section
variable {P:Program} {f:FuncId} {N:Nat} {k:List Item} {env:Env} {w:World} {R:Value->World->Prop} {Q:Exit->Act->World->Prop}
theorem B3 {c:Code} {id:Nat} {ops:Array Oper} (I:List Nat) (C:Nat->Nat) (L:List (Nat×Bool)) (hm:P.follows .mixedOrders=true) (hc:c=.region id ops true)
  (hn:Region.noSelect ops=true) (hk:MF ops ops.size (Array.replicate ops.size false) L=true)
  (h:∀w₁,av [] w C w₁ C->bQ P f N k R ops (λw'=>Ext (λb=>C b∈I) w₁ w') L env w₁):Run P f N (.code c::k) env w R:=
 ZN _ L hm hc hn hk (Ext.refl _ _) (h _ (av.drew [] w C))
theorem Ex {c:Code} {id:Nat} {ops:Array Oper} (I:List Nat) (C:Nat->Nat) (A:List Nat) (i:Nat) (L:List (Nat×Bool)) (i':Nat) (L':List (Nat×Bool)) (hm:P.follows .mixedOrders=true) (hc:c=.region id ops true)
  (hn:Region.noSelect ops=true) (hk:SI ops i L i' L' ops.size (Array.replicate ops.size false) A=true)
  (h:∀w₁,av [] w C w₁ C->bQ P f N k R ops (λw'=>Ext (λb=>C b∈I) w₁ w') (A.map (λj=>(j,true))++(i,false)::L) env w₁)
  (h':∀w₁,av [] w C w₁ C->bQ P f N k R ops (λw'=>Ext (λb=>C b∈I) w₁ w') (A.map (λj=>(j,true))++(i',false)::L') env w₁):Run P f N (.code c::k) env w R:=
 Sv _ A i L i' L' hm hc hn hk (Ext.refl _ _) (h _ (av.drew [] w C)) (h' _ (av.drew [] w C))
end
section
variable {α:Type} [bn α] {P:Program} {f:FuncId} {N:Nat} {k:List Item} {env:Env} {w:World} {R:Value->World->Prop} {Q:Exit->Act->World->Prop}
variable {ops:Array Oper} {S:World->Prop} {i t:Nat} {L:List (Nat×Bool)} {v:Value} {y z:Operand} {g:Option (Nat×Bool)} {ty e:TypeId} {M:Nat->Prop} {x:α} {xs:List α} {b o:Nat} {kd:IntKind} {n:Int}
theorem iS {w1:World} (hop:bY ops i=some (some t,.indexAddr ty y z,g)) (hw:eo ops env g=some true) (ht:Nat.blt t N=true) (hl:aq w1 M xs v) (hy:ev env y=some v)
  (hf:j6 P ty=some (e,sz α)) (hz:ev env z=some (.int kd n)) (h0:0<=n) (h1:n<xs.length)
  (h:∀b o,bk w1 M (xs[n.toNat]'af) b o->bN P N Q ops S L ((t,.pointer (some ⟨b,o,none⟩))::env) w):bN P N Q ops S ((i,true)::L) env w:=by
 obtain⟨b,o,h2,h3⟩:=hl.index (P:=P) (N:=N) hy hf hz h0 h1;exact kL hop hw ht (λw' _=>h3 w') (h b o h2)
theorem MX (hop:bY ops i=some (some t,.load ty y,g)) (hw:eo ops env g=some true) (ht:Nat.blt t N=true) (hS:S w) (hr:bk w M x b o) (ha:gH P ty=some false) (hx:bn.agg α=false)
  (hy:ev env y=some (.pointer (some ⟨b,o,none⟩))) (h:∀v,aq w M x v->bN P N Q ops S L ((t,v)::env) w):bN P N Q ops S ((i,false)::L) env w:=by
 obtain⟨v,h2,h3⟩:=hr.load (P:=P) (N:=N) ha hx hy;exact vZ hop hw ht hS (h3 w rfl) (h v h2)
theorem GI {w1:World} (hop:bY ops i=some (some t,.load ty y,g)) (hw:eo ops env g=some true) (ht:Nat.blt t N=true) (hst:∀w',S w'->w'.heap[b]?=w1.heap[b]?) (hr:bk w1 M x b o) (ha:gH P ty=some false) (hx:bn.agg α=false)
  (hy:ev env y=some (.pointer (some ⟨b,o,none⟩))) (h:∀v,aq w1 M x v->bN P N Q ops S L ((t,v)::env) w):bN P N Q ops S ((i,true)::L) env w:=by
 obtain⟨v,h2,h3⟩:=hr.load (P:=P) (N:=N) ha hx hy;exact kL hop hw ht (λw' hS=>h3 w' (hst w' hS)) (h v h2)
theorem vq (hop:bY ops i=some (some t,.load ty y,g)) (hw:eo ops env g=some true) (ht:Nat.blt t N=true) (hS:S w) (hr:bk w M x b o) (ha:gH P ty=some true) (hs:gN P ty=some (sz α)) (hx:bn.agg α=true)
  (hy:ev env y=some (.pointer (some ⟨b,o,none⟩))) (h:∀v,aq w M x v->bN P N Q ops S L ((t,v)::env) w):bN P N Q ops S ((i,false)::L) env w:=by
 obtain⟨v,h2,h3⟩:=hr.Et (P:=P) (N:=N) ha hs hx hy;exact vZ hop hw ht hS (h3 w rfl) (h v h2)
theorem dB {w1:World} (hop:bY ops i=some (some t,.load ty y,g)) (hw:eo ops env g=some true) (ht:Nat.blt t N=true) (hst:∀w',S w'->w'.heap[b]?=w1.heap[b]?) (hr:bk w1 M x b o) (ha:gH P ty=some true) (hs:gN P ty=some (sz α)) (hx:bn.agg α=true)
  (hy:ev env y=some (.pointer (some ⟨b,o,none⟩))) (h:∀v,aq w1 M x v->bN P N Q ops S L ((t,v)::env) w):bN P N Q ops S ((i,true)::L) env w:=by
 obtain⟨v,h2,h3⟩:=hr.Et (P:=P) (N:=N) ha hs hx hy;exact kL hop hw ht (λw' hS=>h3 w' (hst w' hS)) (h v h2)
end
def bO (n:Nat) (C:Nat->Nat):Nat->Nat:=λb=>if n<=C b then 0 else C b
section
variable {α:Type} [bn α] {w w' w₀:World} {I:List Nat} {C aG lI:Nat->Nat} {x:α} {ys:List α} {v:Value} {b o j n:Nat} {fG:Obj} {e:TypeId}
theorem Ey (h:aj (bO n C) b):aj C b/\C b<n:=by
 unfold aj bO at*;split at h
 ·exact absurd rfl h
 ·exact⟨h,by omega⟩
theorem aF.bO (h:aF w C) (n:Nat):aF w (bO n C):=λb hb=>h b (Ey hb).1
theorem aq.bO (h:aq w (aj C) x v) (n:Nat):aq w (aj (K.bO n C)) x v:=h.sub (λb _ hb=>(Ey hb).1)
theorem bk.bO (h:bk w (aj C) x b o) (n:Nat):bk w (aj (K.bO n C)) x b o:=h.sub (λb _ hb=>(Ey hb).1)
theorem aQ.bO (h:aQ w C j e v ys) (hj:n<=j) (hl:ys.length<=9223372036854775807):aq w (aj (K.bO n C)) ys v:=
 h.own.read (λb _ hb=>⟨(Ey hb).1,λho=>by have:=(Ey hb).2;rw[h.col b ho] at this;omega⟩) hl
theorem aQ.MY (h:aQ w C j e v ys) (hj:j<n):aQ w (K.bO n C) j e v ys:=
 ⟨h.own.sub (λb _ hb=>(Ey hb).1) (λb hb=>by unfold aj K.bO;rw[h.col b hb,if_neg af];have:=(h.own.fG b hb).1;unfold aj at this;rw[h.col b hb] at this;exact this),
  λb hb=>by unfold K.bO;rw[h.col b hb,if_neg af]⟩
theorem bS.bO (h:bS w C j b fG) (hj:j<n):bS w (K.bO n C) j b fG:=⟨by unfold K.bO;rw[h.col,if_neg af],h.at_⟩
theorem av.bO (h:av I w₀ lI w C) (h0:∀b,lI b<n):av I w₀ lI w (K.bO n C):=
 ⟨h.ext,λb hb=>by unfold K.bO;rw[h.col b hb,if_neg (by have:=h0 b;omega)]⟩
theorem um (C:Nat->Nat) (i b:Nat):cv C i b<3:=by unfold cv;split<;>(try split)<;>omega
theorem zl (C:Nat->Nat) (b:Nat):aI C b<2:=by unfold aI;split<;>omega
theorem aQ.one (h:aQ w C j e v ys):v.cells=#[v]/\v.oneCell'=true:=by
 obtain⟨a,c,rfl⟩:=h.own.len;exact⟨rfl,rfl⟩
end
theorem bl {env env':Env} {t:Nat} {v:Value} (h:look env t=none) (hs:Sub env env'):Sub env ((t,v)::env'):=λs x hx=>by
 simp only[look];cases hb:Nat.beq t s with
 |true=>rw[Nat.eq_of_beq_eq_true hb,hx] at h;cases h
 |false=>exact hs s x hx
section
variable {P:Program} {f:FuncId} {N:Nat} {k:List Item} {env:Env} {w:World} {R:Value->World->Prop} {Q:Exit->Act->World->Prop} {p:Prop} [Decidable p] {op:Op}
theorem iL (t:Nat) (b:Bool) (C:Nat->Nat) {c:Code}
  (yS: (∀w' env' v,av [] w C w' C->look env' t=some v->v=.bool b->Sub env env'->Run P f N k env' w' R)->Run P f N (.code c::k) env w R)
  (dY:∀w',av [] w C w' C->Run P f N k ((t,.bool b)::env) w' R):Run P f N (.code c::k) env w R:=
 yS λw' env' v hs hl hv hsub=>(dY w' hs).sub λs x hx=>by
  simp only[look] at hx;cases hb:Nat.beq t s with
  |true=>
   rw[hb] at hx;simp only[cond_true,Option.some.injEq] at hx;rw[<-Nat.eq_of_beq_eq_true hb,hl,hv,hx]
  |false=>rw[hb] at hx;exact hsub s x hx
theorem fN {v v':Value} (h:cE P N env op w v) (e:v=v'):cE P N env op w v':=e▸h
theorem i_ (h:cE P N env op w (.bool (decide p))) (hp:p):cE P N env op w (.bool true):=by rwa [decide_eq_true hp] at h
theorem jR (h:cE P N env op w (.bool (decide p))) (hp:¬p):cE P N env op w (.bool false):=by rwa [decide_eq_false hp] at h
end
abbrev eu (i:Nat):Nat×Bool:=(i,true)
abbrev nn (i:Nat):Nat×Bool:=(i,false)
section
variable {ops:Array Oper} {i:Nat}
theorem fq (t:Nat) (op:Op) (h:bY ops i=some (some t,op,none):=by kernel_rfl):bY ops i=some (some t,op,none):=h
theorem k8 (t:Nat) (op:Op) (g:Nat) (b:Bool) (h:bY ops i=some (some t,op,some (g,b)):=by kernel_rfl):bY ops i=some (some t,op,some (g,b)):=h
theorem k0 (op:Op) (h:bY ops i=some (none,op,none):=by kernel_rfl):bY ops i=some (none,op,none):=h
end
def Gw (c:Code) (d:Bool):Bool:=match c with| .region _ _ d'=>d'==d|_=>false
theorem MZ {c:Code} {d:Bool} (h:Gw c d=true):∃id,c=.region id (nD c) d:=by
 cases c with
 |region id ops d'=>exact⟨id,by unfold Gw at h;simp only[beq_iff_eq] at h;subst h;rfl⟩
 |_=>cases h
section
variable {P:Program} {f:FuncId} {N:Nat} {k:List Item} {env:Env} {w w':World} {R:Value->World->Prop} {Q:Exit->Act->World->Prop}
variable {ops:Array Oper} {S:World->Prop} {i t:Nat} {L:List (Nat×Bool)} {op:Op} {v:Value} {x y z:Operand} {g:Option (Nat×Bool)}
theorem rQ (hop:bY ops i=some (some t,op,g)) (hy:∀w',cE P N env op w' v) (h:bN P N Q ops S L ((t,v)::env) w) (hw:eo ops env g=some true:=by rfl) (ht:Nat.blt t N=true:=by rfl):
 bN P N Q ops S ((i,true)::L) env w:=kL hop hw ht (λw' _=>hy w') h
theorem aiS {c:Code} (L:List (Nat×Bool)) (h:bQ P f N k R (nD c) (λ_=>True) L env w) (hc:Gw c false=true:=by kernel_rfl) (hL:L.map (·.1)=List.range (nD c).size:=by kernel_rfl):Run P f N (.code c::k) env w R:=by
 obtain⟨id,e⟩:=MZ hc;exact SQ L e hL h
def S9 (c:Code):Bool:=match c with| .seq _ _=>true|_=>false
def JL (c:Code) (i:Nat):Bool:=match c with| .block j _=>Nat.beq j i|_=>false
def C3 (c:Code):Bool:=match c with| .skip=>true|_=>false
def S_ (c:Code) (i:Nat):Bool:=match c with| .exit j=>Nat.beq j i|_=>false
def kg (c:Code):Bool:=match c with| .loop _=>true|_=>false
def aiT (c:Code):Operand:=match c with| .cond o _ _=>o|_=> .tmp 0
def Ez (c:Code) (i:Nat):Bool:=match c with| .cond (.tmp j) _ _=>Nat.beq j i|_=>false
theorem aiU {c:Code} (h:Run P f N (.code (cl c):: .code (b7 c)::k) env w R) (hc:S9 c=true:=by kernel_rfl):Run P f N (.code c::k) env w R:=
 run_seq (by cases c with|seq a b=>rfl|_=>cases hc) h
theorem aiV {c:Code} (id:Nat) (h:Run P f N (.code (cl c):: .inBlock id::k) env w R) (hc:JL c id=true:=by kernel_rfl):Run P f N (.code c::k) env w R:=
 SK (by cases c with|block a b=>simp only[JL] at hc;rw[Nat.eq_of_beq_eq_true hc];rfl|_=>cases hc) h
theorem aiW {c:Code} (h:Run P f N k env w R) (hc:C3 c=true:=by kernel_rfl):Run P f N (.code c::k) env w R:=
 SL (by cases c with|skip=>rfl|_=>cases hc) h
theorem aiX {c:Code} (id:Nat) {k':List Item} (h:Run P f N k' env w R) (hc:S_ c id=true:=by kernel_rfl) (hk:exitTo id k=some k':=by exact rfl):Run P f N (.code c::k) env w R:=
 SM (by cases c with|exit a=>simp only[S_] at hc;rw[Nat.eq_of_beq_eq_true hc]|_=>cases hc) hk h
theorem JM {c:Code} {t:Nat} (hc:Ez c t=true):c=.cond (.tmp t) (cl c) (b7 c):=by
 cases c with
 |cond o a b=>cases o with|tmp j=>simp only[Ez] at hc;rw[Nat.eq_of_beq_eq_true hc];rfl|_=>cases hc
 |_=>cases hc
theorem a_ {c:Code} (t:Nat) {p:Prop} [Decidable p] (hv:look env t=some (.bool (decide p))) (ht:p->Run P f N (.code (cl c)::k) env w R) (hf:¬p->Run P f N (.code (b7 c)::k) env w R) (hc:Ez c t=true:=by kernel_rfl):Run P f N (.code c::k) env w R:=
 ia (JM hc) hv ht hf
theorem f_ {c:Code} (t:Nat) {b:Bool} (hv:look env t=some (.bool b)) (ht:b=true->Run P f N (.code (cl c)::k) env w R) (hf:b=false->Run P f N (.code (b7 c)::k) env w R) (hc:Ez c t=true:=by kernel_rfl):Run P f N (.code c::k) env w R:=
 Er (JM hc) hv ht hf
theorem aiY {c:Code} (t:Nat) (h:Run P f N (.code (cl c)::k) env w R) (hc:Ez c t=true:=by kernel_rfl) (hv:look env t=some (.bool true):=by exact rfl):Run P f N (.code c::k) env w R:=
 Er (JM hc) hv (λ_=>h) (λh=>by cases h)
theorem aiZ {c:Code} (t:Nat) (h:Run P f N (.code (b7 c)::k) env w R) (hc:Ez c t=true:=by kernel_rfl) (hv:look env t=some (.bool false):=by exact rfl):Run P f N (.code c::k) env w R:=
 Er (JM hc) hv (λh=>by cases h) (λ_=>h)
theorem xE {c:Code} {ι:Type} (I:ι->World->Prop) (e:ι->Env) (m:ι->Nat) (nB:ι) (hs:Sub (e nB) env) (h0:I nB w)
 (hr:∀x w,I x w->(∀y w',I y w'->m y<m x->Run P f N (.inLoop (cl c)::k) (e y) w' R)->Run P f N (.code (cl c):: .inLoop (cl c)::k) (e x) w R) (hc:kg c=true:=by kernel_rfl):
 Run P f N (.code c::k) env w R:=SN I e m nB (by cases c with|loop b=>rfl|_=>cases hc) hs h0 hr
theorem ai0 (t a:Nat) (h:bN P N Q ops S L ((t,v)::env) w) (hop:bY ops i=some (some t,.move (.tmp a),none):=by kernel_rfl) (hy:look env a=some v:=by exact rfl) (ht:Nat.blt t N=true:=by rfl):
 bN P N Q ops S ((i,true)::L) env w:=rQ hop (λ_=>A0 hy) h rfl ht
theorem ai1 (t a:Nat) (h:bN P N Q ops S L ((t,v)::env) w) (hop:bY ops i=some (some t,.assign (.tmp a),none):=by kernel_rfl) (hy:look env a=some v:=by exact rfl) (ht:Nat.blt t N=true:=by rfl):
 bN P N Q ops S ((i,true)::L) env w:=rQ hop (λ_=>Gi hy) h rfl ht
theorem ai2 (t:Nat) (v:Value) (h:bN P N Q ops S L ((t,v)::env) w) (hop:bY ops i=some (some t,.assign (.const v),none):=by kernel_rfl) (ht:Nat.blt t N=true:=by rfl):
 bN P N Q ops S ((i,true)::L) env w:=rQ hop (λ_=>Gi rfl) h rfl ht
theorem ai3 (t a:Nat) {q:Addr} (h:bN P N Q ops S L ((t,.pointer (some q))::env) w) (hop:bY ops i=some (some t,.nilCheck (.tmp a),none):=by kernel_rfl) (hy:look env a=some (.pointer (some q)):=by exact rfl) (ht:Nat.blt t N=true:=by rfl):
 bN P N Q ops S ((i,true)::L) env w:=rQ hop (λ_=>SU hy) h rfl ht
theorem ai4 (t a:Nat) (j:Nat) (b:Bool) (h:bN P N Q ops S L ((t,v)::env) w) (hop:bY ops i=some (some t,.move (.tmp a),some (j,b)):=by kernel_rfl) (hy:look env a=some v:=by exact rfl) (hw:eo ops env (some (j,b))=some true:=by rfl) (ht:Nat.blt t N=true:=by rfl):
 bN P N Q ops S ((i,true)::L) env w:=rQ hop (λ_=>A0 hy) h hw ht
theorem ai5 (t a b:Nat) (h:bN P N Q ops S L ((t,v)::env) w) (hop:bY ops i=some (some t,.pick (.tmp a) (.const (.bool true)) (.tmp b),none):=by kernel_rfl) (ha:look env a=some (.bool false):=by exact rfl) (hy:look env b=some v:=by exact rfl) (ht:Nat.blt t N=true:=by rfl):
 bN P N Q ops S ((i,true)::L) env w:=rQ hop (λ_=>MI ha hy) h rfl ht
theorem ai6 (t a b:Nat) (h:bN P N Q ops S L ((t,.bool true)::env) w) (hop:bY ops i=some (some t,.pick (.tmp a) (.const (.bool true)) (.tmp b),none):=by kernel_rfl) (ha:look env a=some (.bool true):=by exact rfl) (ht:Nat.blt t N=true:=by rfl):
 bN P N Q ops S ((i,true)::L) env w:=rQ hop (λ_=>MH ha rfl) h rfl ht
theorem ai7 (t a b:Nat) (h:bN P N Q ops S L ((t,v)::env) w) (hop:bY ops i=some (some t,.pick (.tmp a) (.tmp b) (.const (.bool false)),none):=by kernel_rfl) (ha:look env a=some (.bool true):=by exact rfl) (hy:look env b=some v:=by exact rfl) (ht:Nat.blt t N=true:=by rfl):
 bN P N Q ops S ((i,true)::L) env w:=rQ hop (λ_=>MH ha hy) h rfl ht
theorem ai8 (t a b:Nat) (h:bN P N Q ops S L ((t,.bool false)::env) w) (hop:bY ops i=some (some t,.pick (.tmp a) (.tmp b) (.const (.bool false)),none):=by kernel_rfl) (ha:look env a=some (.bool false):=by exact rfl) (ht:Nat.blt t N=true:=by rfl):
 bN P N Q ops S ((i,true)::L) env w:=rQ hop (λ_=>MI ha rfl) h rfl ht
theorem ai9 (t T a q off:Nat) {b o:Nat} (h:bN P N Q ops S L ((t,.pointer (some ⟨b,o+off,none⟩))::env) w) (hop:bY ops i=some (some t,.fieldAddr T (.tmp a) q,none):=by kernel_rfl) (hf:Eu P T q=some off:=by kernel_rfl) (hy:look env a=some (.pointer (some ⟨b,o,none⟩)):=by exact rfl) (ht:Nat.blt t N=true:=by rfl):
 bN P N Q ops S ((i,true)::L) env w:=rQ hop (λ_=>CG (off:=off) hf hy) h rfl ht
theorem ai_ (t T a q off:Nat) (j:Nat) (bb:Bool) {b o:Nat} (h:bN P N Q ops S L ((t,.pointer (some ⟨b,o+off,none⟩))::env) w) (hop:bY ops i=some (some t,.fieldAddr T (.tmp a) q,some (j,bb)):=by kernel_rfl) (hf:Eu P T q=some off:=by kernel_rfl) (hy:look env a=some (.pointer (some ⟨b,o,none⟩)):=by exact rfl) (hw:eo ops env (some (j,bb))=some true:=by rfl) (ht:Nat.blt t N=true:=by rfl):
 bN P N Q ops S ((i,true)::L) env w:=rQ hop (λ_=>CG (off:=off) hf hy) h hw ht
def JN (ops:Array Oper) (i:Nat):Option (Option Nat×Option (Nat×Bool)):=(bY ops i).map (λx=>(x.1,x.2.2))
theorem Ta {t:Option Nat} (h:JN ops i=some (t,g)):∃op,bY ops i=some (t,op,g):=by
 unfold JN at h;cases hx:bY ops i with
 |none=>rw[hx] at h;cases h
 |some y=>obtain⟨p,q,r⟩:=y;rw[hx] at h;simp only[Option.map_some,Option.some.injEq,Prod.mk.injEq] at h;exact⟨q,by rw[h.1,h.2]⟩
theorem aja (t j:Nat) (b:Bool) (h:bN P N Q ops S L ((t,undef)::env) w) (hop:JN ops i=some (some t,some (j,b)):=by kernel_rfl) (hw:eo ops env (some (j,b))=some false:=by rfl) (ht:Nat.blt t N=true:=by rfl):
  bN P N Q ops S ((i,true)::L) env w:=by
 obtain⟨op,e⟩:=Ta hop;exact S5 e hw ht h
theorem bT (t:Nat) {v:Value} {env' env:Env} (h:Sub env' env) (hl:look env t=some v:=by exact rfl):Sub ((t,v)::env') env:=fD t hl rfl h
def JO (z:Env):Nat->Env->Bool
 |0,_=>true
 |n+1,(t,_)::e=>(match look z t with|none=>true|some _=>false)&&JO z n e
 |_+1,[]=>false
theorem Tb (z:Env):∀(n:Nat) (e:Env),e.drop n=z->JO z n e=true->Sub z e
 |0,e,he,_=>by rw[<-he];exact Sub.refl _
 |n+1,(t,v)::e,he,h=>by
  simp only[JO,Bool.and_eq_true] at h;exact bl (by have:=h.1;split at this<;>first|assumption|cases this) (Tb z n e he h.2)
 |_+1,[],_,h=>by cases h
theorem cB (n:Nat) {env env':Env} (he:env'.drop n=env:=by exact rfl) (h:JO env n env'=true:=by kernel_rfl):Sub env env':=Tb env n env' he h
end
section
variable {α:Type} [bn α] {w w' w'':World} {I J:List Nat} {C aG rP:Nat->Nat} {x:α} {ys:List α} {v:Value} {b o j:Nat} {fG:Obj} {e:TypeId}
theorem aq.t (h:aq w (aj C) x v) (hs:av I w C w' aG) (h0:0∉I:=by first|decide|(simp<;>omega)):aq w' (aj aG) x v:=h.st hs h0
theorem aq.mv (h:aq w (aj C) x v) (hs:av I w C w' aG:=by exact pL) (h0:0∉I:=by first|decide|(simp<;>omega)):aq w' (aj aG) x v:=h.st hs h0
theorem bk.t (h:bk w (aj C) x b o) (hs:av I w C w' aG) (h0:0∉I:=by first|decide|(simp<;>omega)):bk w' (aj aG) x b o:=h.st hs h0
theorem bk.mv (h:bk w (aj C) x b o) (hs:av I w C w' aG:=by exact pL) (h0:0∉I:=by first|decide|(simp<;>omega)):bk w' (aj aG) x b o:=h.st hs h0
theorem bS.t (h:bS w C j b fG) (hs:av I w C w' aG) (hj:j∉I:=by first|decide|(simp<;>omega)):bS w' aG j b fG:=h.st hs hj
theorem bS.mv (h:bS w C j b fG) (hs:av I w C w' aG:=by exact pL) (hj:j∉I:=by first|decide|(simp<;>omega)):bS w' aG j b fG:=h.st hs hj
theorem aQ.t (h:aQ w C j e v ys) (hs:av I w C w' aG) (h0:0∉I:=by first|decide|(simp<;>omega)) (hj:j∉I:=by first|decide|(simp<;>omega)):aQ w' aG j e v ys:=h.st hs h0 hj
theorem aQ.mv (h:aQ w C j e v ys) (hs:av I w C w' aG:=by exact pL) (h0:0∉I:=by first|decide|(simp<;>omega)) (hj:j∉I:=by first|decide|(simp<;>omega)):aQ w' aG j e v ys:=h.st hs h0 hj
theorem av.t (h:av I w C w' aG) (h':av J w' aG w'' rP) (hJ:∀c∈J,c∈I:=by simp):av I w C w'' rP:=h.trans h' hJ
theorem bk.eG (h:bk w (aj C) x b o) (hS:Ext (λb=>C b∈I) w w') (h0:0∉I:=by first|decide|(simp<;>omega)):w'.heap[b]?=w.heap[b]?:=h.stay hS h0
theorem bS.eG (h:bS w C j b fG) (hS:Ext (λb=>C b∈I) w w') (hj:j∉I:=by first|decide|(simp<;>omega)):w'.heap[b]?=some fG:=h.stay hS hj
end
section
variable {P:Program} {f:FuncId} {N:Nat} {k:List Item} {env:Env} {w w':World} {R:Value->World->Prop} {Q:Exit->Act->World->Prop}
variable {ops:Array Oper} {S:World->Prop} {i t:Nat} {L:List (Nat×Bool)} {op:Op} {v:Value} {x y z:Operand} {g:Option (Nat×Bool)}
theorem ajb (t T a:Nat) (c:Int) {m:Int} (h:bN P N Q ops S L ((t,.int .i64 (m+c))::env) w) (hop:bY ops i=some (some t,.binOp .add T (.tmp a) (.const (.int .i64 c)) T,none):=by kernel_rfl) (hy:look env a=some (.int .i64 m):=by exact rfl)
 (h1:-9223372036854775808<=m+c:=by omega) (h2:m+c<=9223372036854775807:=by omega) (ht:Nat.blt t N=true:=by rfl):bN P N Q ops S ((i,true)::L) env w:=rQ hop (λ_=>MJ hy rfl h1 h2) h rfl ht
theorem ajc (t T a b:Nat) {kd:IntKind} {m n:Int} (h:bN P N Q ops S L ((t,.bool (decide (m<n)))::env) w) (hop:bY ops i=some (some t,.binOp .lss T (.tmp a) (.tmp b) T,none):=by kernel_rfl) (hy:look env a=some (.int kd m):=by exact rfl) (hz:look env b=some (.int kd n):=by exact rfl)
 (ht:Nat.blt t N=true:=by rfl):bN P N Q ops S ((i,true)::L) env w:=rQ hop (λ_=>jq hy hz) h rfl ht
theorem ajd (t a q:Nat) {vs:Array Value} (h:bN P N Q ops S L ((t,v)::env) w) (hop:bY ops i=some (some t,.extract (.tmp a) q,none):=by kernel_rfl) (hy:look env a=some (.tuple vs):=by exact rfl) (hz:vs[q]?=some v:=by exact rfl)
 (ht:Nat.blt t N=true:=by rfl):bN P N Q ops S ((i,true)::L) env w:=rQ hop (λ_=>SV hy hz) h rfl ht
theorem aje (t:Nat) (v:Value) (h:bN P N Q ops S L ((t,v)::env) w) (hop:bY ops i=some (some t,.move (.const v),none):=by kernel_rfl) (ht:Nat.blt t N=true:=by rfl):
 bN P N Q ops S ((i,true)::L) env w:=rQ hop (λ_=>A0 rfl) h rfl ht
theorem sn (t gf:Nat) (EA tys:List Nat) {vs:List Value} {T:Value->World->Prop} (gW:∀args w,(callFunc gf args).run P w=.ok (.enter gf args) w) (hargs:l8 env (EA.map .tmp)=some vs) (hc:Calls P gf vs.toArray w (aZ T))
  (h:∀v w',T v w'->S w'/\bN P N Q ops S L ((t,v)::env) w') (hop:bY ops i=some (some t,.call {callee:=.value (.func gf),args:=(EA.map .tmp).toArray,argTypes:=tys.toArray},none):=by kernel_rfl) (ht:Nat.blt t N=true:=by rfl):bN P N Q ops S ((i,false)::L) env w:=
 uK hop rfl ht (zk gW (by simpa using hargs)) hc h
end
section
variable {P:Program} {N:Nat} {env:Env} {w:World} {Q:Exit->Act->World->Prop} {ops:Array Oper} {i t:Nat} {L:List (Nat×Bool)} {op:Op} {g:Option (Nat×Bool)} {T:Value->World->Prop}
theorem ajf (hop:bY ops i=some (some t,op,g)) (hw:eo ops env g=some true) (ht:Nat.blt t N=true) (hy:g_ P N env op w T) (h:∀v w',T v w'->bN P N Q ops (λ_=>True) L ((t,v)::env) w'):
 bN P N Q ops (λ_=>True) ((i,false)::L) env w:=MU hop hw ht hy λv w' hT=>⟨trivial,h v w' hT⟩
theorem ajg (hop:bY ops i=some (none,op,g)) (hw:eo ops env g=some true) (hy:g_ P N env op w T) (h:∀v w',T v w'->bN P N Q ops (λ_=>True) L env w'):
 bN P N Q ops (λ_=>True) ((i,false)::L) env w:=MV hop hw hy λv w' hT=>⟨trivial,h v w' hT⟩
theorem Bb {gf:FuncId} {args:Array Value} (hop:bY ops i=some (some t,op,g)) (hw:eo ops env g=some true) (ht:Nat.blt t N=true) (hy:Enters P N env op w gf args) (hc:Calls P gf args w (aZ T))
 (h:∀v w',T v w'->bN P N Q ops (λ_=>True) L ((t,v)::env) w'):bN P N Q ops (λ_=>True) ((i,false)::L) env w:=uK hop hw ht hy hc λv w' hT=>⟨trivial,h v w' hT⟩
theorem ajh {gf:FuncId} {args:Array Value} (hop:bY ops i=some (none,op,g)) (hw:eo ops env g=some true) (hy:Enters P N env op w gf args) (hc:Calls P gf args w (aZ T))
 (h:∀v w',T v w'->bN P N Q ops (λ_=>True) L env w'):bN P N Q ops (λ_=>True) ((i,false)::L) env w:=Gu hop hw hy hc λv w' hT=>⟨trivial,h v w' hT⟩
theorem aji (t gf:Nat) (EA tys:List Nat) {vs:List Value} (gW:∀args w,(callFunc gf args).run P w=.ok (.enter gf args) w) (hargs:l8 env (EA.map .tmp)=some vs) (hc:Calls P gf vs.toArray w (aZ T))
 (h:∀v w',T v w'->bN P N Q ops (λ_=>True) L ((t,v)::env) w') (hop:bY ops i=some (some t,.call {callee:=.value (.func gf),args:=(EA.map .tmp).toArray,argTypes:=tys.toArray},none):=by kernel_rfl) (ht:Nat.blt t N=true:=by rfl):
 bN P N Q ops (λ_=>True) ((i,false)::L) env w:=sn t gf EA tys gW hargs hc (λv w' hT=>⟨trivial,h v w' hT⟩) hop ht
end
theorem ajj {P:Program} {f:FuncId} {fn:Func} (c:Code) (N:Nat) (args:List Value) {w:World} {R:Value->World->Prop} (hf:P.funcs[f]?=some fn) (h:Run P f N [.code c] (CB 0 args) w R)
 (hb:fn.body=some c:=by kernel_rfl) (hN:fn.ntmps=N:=by kernel_rfl) (hsz:Nat.ble args.length N=true:=by kernel_rfl):Calls P f args.toArray w (aZ R):=SS args hf hb hN hsz h
theorem ajk {P:Program} {f:FuncId} {N:Nat} {k:List Item} {env:Env} {w:World} {R:Value->World->Prop} {c:Code} {fn:Func} {t:Nat} {v:Value} (hf:P.funcs[f]?=some fn) (hres:fn.results=#[.tmp t]) (hR:R v w) (hv:look env t=some v:=by exact rfl) (hc:c=.ret:=by kernel_rfl):Run P f N (.code c::k) env w R:=SP hc hf hres hv hR
def zm (place:Nat->Option (Nat×Nat)):List Value->List (Nat×List Value)->Option (List Value)
 |cells,[]=>some cells
 |cells,(i,vs)::rest=>match place i with
  |none=>none
  |some (off,size)=>if vs.length=size/\off+vs.length<=cells.length then zm place (cells.take off++vs++cells.drop (off+vs.length)) rest else none
theorem Tc:∀(vs:List Value) (k off:Nat) (cs:List Value),off+k+vs.length<=cs.length->
  ((vs.zipIdx k).foldl (λ(acc:Array Value) (p:Value×Nat)=>acc.setIfInBounds (off+p.2) p.1) cs.toArray)=(cs.take (off+k)++vs++cs.drop (off+k+vs.length)).toArray
 |[],k,off,cs,h=>by simp
 |v::vs,k,off,cs,h=>by
  rw[List.length_cons] at h;rw[List.zipIdx_cons,List.foldl_cons];have e1:cs.toArray.setIfInBounds (off+k) v=(cs.set (off+k) v).toArray:=by simp
  rw[e1,Tc vs (k+1) off (cs.set (off+k) v) sN];congr 1;have hlt:off+k<cs.length:=by omega
  rw[List.set_eq_take_append_cons_drop,if_pos hlt];have e2:off+(k+1)=(cs.take (off+k)).length+1:=by simp;omega
  have eH:off+(k+1)+vs.length=(cs.take (off+k)).length+(1+vs.length):=by simp;omega
  rw[show List.take (off+(k+1)) (cs.take (off+k)++v::cs.drop (off+k+1))=cs.take (off+k)++[v] from by
   rw[e2,List.take_append];simp[Nat.min_eq_left (Nat.le_of_lt hlt),List.take_take,Nat.min_eq_right (Nat.le_succ (off+k))]]
  rw[show List.drop (off+(k+1)+vs.length) (cs.take (off+k)++v::cs.drop (off+k+1))=cs.drop (off+k+(vs.length+1)) from by
   rw[eH,List.drop_append];simp only[Nat.add_sub_cancel_left];rw[List.drop_eq_nil_of_le af,List.nil_append,Nat.add_comm 1,List.drop_succ_cons,List.drop_drop];congr 1;omega]
  simp
theorem fill_eq (place:Nat->Option (Nat×Nat)):∀(ps:List (Nat×Value)) (c4:List (Nat×List Value)) (cs cs':List Value),
  ps.map (λp=>(p.1,p.2.cells))=c4.map (λq=>(q.1,q.2.toArray))->zm place cs c4=some cs'->Instr.fill place cs.toArray ps=some cs'.toArray
 |[],[],cs,cs',_,h=>by simp only[zm,Option.some.injEq] at h;subst h;rfl
 |[],q::c4,_,_,h,_=>by simp at h
 |p::ps,[],_,_,h,_=>by simp at h
 |(i,v)::ps,(j,vs)::c4,cs,cs',h,hf=>by
  simp only[List.map_cons,List.cons.injEq,Prod.mk.injEq] at h;obtain⟨⟨rfl,hv⟩,hr⟩:=h;simp only[zm] at hf;unfold Instr.fill;cases hp:place i with
  |none=>rw[hp] at hf;cases hf
  |some os=>
   obtain⟨off,size⟩:=os;rw[hp] at hf;simp only at hf⊢;split at hf
   ·rename_i hc;rw[hv];have hn:¬(vs.toArray.size≠size\/off+vs.toArray.size>cs.toArray.size):=by simp;omega
    simp only[List.size_toArray] at hn⊢;rw[if_neg (by simpa using hn)];have e: (vs.toArray.zipIdx.foldl (λ(acc:Array Value) (p:Value×Nat)=>acc.setIfInBounds (off+p.2) p.1) cs.toArray)=(cs.take off++vs++cs.drop (off+vs.length)).toArray:=by
     have:=Tc vs 0 off cs (by simpa using hc.2);simpa using this
    rw[show(vs.toArray.zipIdx.foldl (λcs (x:Value×Nat)=>match x with|(c,j)=>cs.setIfInBounds (off+j) c) cs.toArray)=_ from e];exact fill_eq place ps c4 _ cs' hr hf
   ·cases hf
def v8 (env:Env):List (Nat×Operand)->List (Nat×List Value)->Prop
 |[],[]=>True
 |(i,x)::ps,(j,vs)::c4=>i=j/\(∃v,ev env x=some v/\v.cells=vs.toArray)/\v8 env ps c4
 |_,_=>False
def Td (P:Program) (t:TypeId):Option (List (Nat×Nat)):=match P.underlying t with
 |some (.struct fs)=>fs.toList.mapM λf=>(gN P f.type).map λn=>(f.offset,n)
 |_=>none
section
variable {P:Program} {N:Nat} {env:Env} {w:World} {t:TypeId} {ρ:Operand->Value}
theorem v8.map (hρ:∀x v,ev env x=some v->ρ x=v):∀{ps:List (Nat×Operand)} {c4:List (Nat×List Value)},v8 env ps c4->
  (ps.map λp=>(p.1,ρ p.2)).map (λp=>(p.1,p.2.cells))=c4.map (λq=>(q.1,q.2.toArray))
 |[],[],_=>rfl
 |[],_::_,h=>h.elim
 |_::_,[],h=>h.elim
 |(i,x)::ps,(j,vs)::c4,h=>by
  obtain⟨rfl,⟨v,hv,hc⟩,hr⟩:=h;simp only[List.map_cons,hρ x v hv,hc];rw[v8.map hρ hr]
theorem run_map {α β:Type} (g:α->β) (s:Sem α) (w:World): (g<$>s).run P w=(s.run P w).andThen λa w'=> .ok (g a) w':=by
 show(Sem.run P (Sem.bind s (λa=>Sem.pure (g a))) w)=_;exact Sem.run_bind _ _ _ _
theorem run_places {ps:List (Nat×Nat)} {fs:Array Field} (h:fs.toList.mapM (λf=>(gN P f.type).map λn=>(f.offset,n))=some ps) (w:World):
  (fs.mapM λf=>do pure (f.offset,<-sizeOf f.type):Sem (Array (Nat×Nat))).run P w=.ok ps.toArray w:=by
 rw[Array.mapM_eq_mapM_toList];have main:∀(l:List Field) (ps:List (Nat×Nat)),l.mapM (λf=>(gN P f.type).map λn=>(f.offset,n))=some ps->
   (l.mapM λf=>do pure (f.offset,<-sizeOf f.type):Sem (List (Nat×Nat))).run P w=.ok ps w:=by
  intro l
  induction l with
  |nil=>intro ps h;simp at h;subst h;rfl
  |cons f l ih=>
   intro ps h;rw[List.mapM_cons] at h;simp only[Option.bind_eq_bind,Option.bind_eq_some_iff,Option.map_eq_some_iff,Option.pure_def,Option.some.injEq] at h;obtain⟨p,⟨n,hn,rfl⟩,c4,hq,rfl⟩:=h;rw[List.mapM_cons];rw[Sem.run_bind,Sem.run_bind,mW hn,Result.andThen_ok,Sem.run_pure,Result.andThen_ok,Sem.run_bind,ih c4 hq,Result.andThen_ok,Sem.run_pure]
 rw[run_map,main _ _ h];rfl
theorem eW {parts:Array (Nat×Operand)} {zs cs:List Value} {ps:List (Nat×Nat)} {c4:List (Nat×List Value)} (hz:xD P t=some zs) (hp:Td P t=some ps)
  (hq:v8 env parts.toList c4) (hf:zm (ps[·]?) zs c4=some cs):cE P N env (.build t parts) w (.agg cs.toArray):=mk' λρ hρ o ho=>by
 obtain⟨z,h1,h2⟩:=Gl hz w;unfold Td at hp;split at hp
 ·rename_i fs hu;have qn:=run_places hp w;have hmap:=v8.map hρ hq;have oB:=fill_eq (ps[·]?) (parts.toList.map λp=>(p.1,ρ p.2)) c4 zs cs (by rw[<-hmap]) hf;have M0:Instr.fill (λx=>ps.toArray[x]?) z.cells (parts.map λx=>(x.1,ρ x.2)).toList=some cs.toArray:=by
   rw[h2];have: (parts.map λx=>(x.1,ρ x.2)).toList=parts.toList.map λp=>(p.1,ρ p.2):=by simp
   rw[this,<-oB];congr 1;funext x;simp
  unfold execOp;rw[ho];simp only[Instr.build,Sem.run_bind,h1,Result.andThen_ok,run_underlying hu,qn];rw[show(parts.map λx=>match x with|(i,x)=>(i,ρ x)).toList=(parts.map λx=>(x.1,ρ x.2)).toList from rfl,M0];rfl
 ·cases hp
end
section
variable {α:Type} [bn α] {P:Program} {N:Nat} {env:Env} {w:World} {M:Nat->Prop} {C:Nat->Nat} {t e:TypeId}
def CL (env:Env) (w:World) (M:Nat->Prop):Nat->List (Nat×Operand)->List α->Prop
 |_,[],[]=>True
 |k,(i,x)::ps,y::ys=>i=k/\(∃v,ev env x=some v/\aq w M y v)/\CL env w M (k+1) ps ys
 |_,_,_=>False
theorem CL.len:∀{k:Nat} {ps:List (Nat×Operand)} {ys:List α},CL env w M k ps ys->ps.length=ys.length
 |_,[],[],_=>rfl
 |_,[],_::_,h=>h.elim
 |_,_::_,[],h=>h.elim
 |k,(i,x)::ps,y::ys,h=>by simp only[List.length_cons];rw[CL.len h.2.2]
theorem aq.cells {x:α} {v:Value} (h:aq w M x v):∃vs,v.cells=vs.toArray/\bn.rep w.heap M x vs:=by
 cases hx:bn.agg α with
 |true=>obtain⟨vs,rfl,_,_,hr⟩:=h.many hx;exact⟨vs,rfl,hr⟩
 |false=>
  have h1:=(h.one hx).1;obtain⟨vs,hr,hv⟩:=h;have hl:=bn.len hr;rw[bn.flat hx] at hl;obtain⟨u,rfl⟩:=List.length_eq_one_iff.1 hl;simp only[hx,Bool.false_eq_true,if_false,List.headD_cons] at hv;subst hv;exact⟨[v],h1,hr⟩
theorem M1:∀{ps:List (Nat×Operand)} {ys:List α} {k:Nat} (pre post:List Value),CL env w M k ps ys->pre.length=k*sz α->post.length=ys.length*sz α->
  ∃c4 news,v8 env ps c4/\zm (λi=>some (i*sz α,sz α)) (pre++post) c4=some (pre++news)/\news.length=ys.length*sz α/\
   ∀i (hi:i<ys.length),bn.rep w.heap M ys[i] ((news.drop (i*sz α)).take (sz α))
 |[],[],k,pre,post,_,_,hpost=>by
  have:post=[]:=List.eq_nil_of_length_eq_zero (by simpa using hpost);subst this;exact⟨[],[],trivial,by simp[zm],by simp,λi hi=>by simp at hi⟩
 |[],_::_,_,_,_,h,_,_=>h.elim
 |_::_,[],_,_,_,h,_,_=>h.elim
 |(i,x)::ps,y::ys,k,pre,post,h,hpre,hpost=>by
  obtain⟨rfl,⟨v,hv,hr⟩,PI⟩:=h;obtain⟨vs,hc,wh⟩:=hr.cells;have hl:=bn.len wh;rw[List.length_cons,Nat.succ_mul] at hpost;obtain⟨c4,news,h1,h2,h3,h4⟩:=M1 (k:=i+1) (pre++vs) (post.drop (sz α)) PI (by rw[List.length_append,hpre,hl,Nat.succ_mul]) (by rw[List.length_drop,hpost];omega);refine⟨(i,vs)::c4,vs++news,⟨rfl,⟨v,hv,hc⟩,h1⟩,?_,?_,?_⟩
  ·simp only[zm];rw[if_pos ⟨hl,by rw[List.length_append,hpre,hl,hpost];omega⟩];rw[show List.take (i*sz α) (pre++post)=pre from by rw[<-hpre];exact List.take_left,show List.drop (i*sz α+vs.length) (pre++post)=post.drop (sz α) from by rw[<-hpre,hl,List.drop_append];simp];rw[h2,List.append_assoc]
  ·rw[List.length_append,hl,h3,List.length_cons,Nat.succ_mul];omega
  ·intro j hj;cases j with
   |zero=>simpa[<-hl] using wh
   |succ j=>
    have:=h4 j (by simpa using hj);rw[show(j+1)*sz α=vs.length+j*sz α from by rw[hl,Nat.succ_mul];omega,List.drop_append,List.drop_eq_nil_of_le (Nat.le_add_right vs.length (j*sz α))];simpa using this
theorem ez {n bytes:Nat} {parts:Array (Nat×Operand)} {ys:List α} (hF:aF w C) (hrow:rO P t e (sz α) bytes=true) (hn:n=ys.length) (qS:n*sz α<=16777216) (hsz:0<sz α)
  (hp:CL env w (aj C) 0 parts.toList ys):
  g_ P N env (.buildSlice t n parts) w (λv w'=>av [] w C w' C/\aq w' (aj C) ys v/\aF w' C):=sP λρ hρ fB gO=>by
 subst hn;obtain⟨i,z,hu,hi,hsi,hby,hz,hzs⟩:=A8 hrow
 let zs:List Value:=((Array.range (ys.length*sz α)).map λj=>(if ys.length*sz α=0 then(#[]:Array Value) else z.cells)[j%(if ys.length*sz α=0 then(#[]:Array Value) else z.cells).size]!).toList
 obtain⟨c4,news,h1,h2,h3,h4⟩:=M1 (k:=0) [] zs hp b_ (by simp[zs]);simp only[List.nil_append] at h2;have hmap:=v8.map hρ h1;have oB:=fill_eq _ (parts.toList.map λp=>(p.1,ρ p.2)) c4 zs news (by rw[<-hmap]) h2;have hnew:=zj w (.cells news.toArray e);have hrun: (Instr.buildSlice t ys.length (parts.map λx=>(x.1,ρ x.2))).run P w=.ok (.slice (some ⟨w.heap.size,0,none⟩) ys.length ys.length) (w.alloc (.cells news.toArray e)):=by
  have hle:¬(ys.length*sz α>2^24):=by omega
  have qn: (parts.map λx=>(x.1,ρ x.2)).toList=parts.toList.map λp=>(p.1,ρ p.2):=by simp
  have Gx: (sizeOf e).run P w=.ok (sz α) w:=by simp[sizeOf,typeInfo,hi,hsi]
  unfold Instr.buildSlice;simp only[Sem.run_bind,run_underlying hu,Result.andThen_ok,Gx,if_neg hle,Sem.run_pure,qn];by_cases h0:ys.length*sz α=0
  ·have vX:zs=((Array.range (ys.length*sz α)).map λj=>(#[]:Array Value)[j%(#[]:Array Value).size]!).toList:=by simp only[zs,h0,if_true]
   rw[vX] at oB;simp only[h0,if_true,Sem.run_bind,Sem.run_pure,Result.andThen_ok] at oB⊢;simp only[Array.toArray_toList] at oB;rw[oB];simp[newRow]
  ·have vX:zs=((Array.range (ys.length*sz α)).map λj=>z.cells[j%z.cells.size]!).toList:=by simp only[zs,h0,if_false]
   rw[vX] at oB;have M3: (zeroValue e).run P w=.ok z w:=by simp[zeroValue,typeInfo,hi,hz]
   simp only[h0,if_false,Sem.run_bind,M3,Sem.run_pure,Result.andThen_ok];simp only[Array.toArray_toList] at oB;rw[oB];simp[newRow]
 refine⟨.slice (some ⟨w.heap.size,0,none⟩) ys.length ys.length,w.alloc (.cells news.toArray e),.inl ?_,hnew.st C,?_,hF.st (hnew.st C)⟩
 ·unfold execOp;rw[gO];simp only[Sem.run_bind];rw[show(parts.map λx=>match x with|(i,x)=>(i,ρ x))=(parts.map λx=>(x.1,ρ x.2)) from rfl,hrun];rfl
 ·refine kT.2 ⟨_,_,rfl,Nat.le_refl _,?_,.inr ⟨w.heap.size,0,rfl,λhm=>?_,news.toArray,e,(0,0),hnew.at_,?_,λi hi=>?_⟩⟩
  ·have:ys.length<=ys.length*sz α:=Nat.le_mul_of_pos_right _ hsz;omega
  ·have:=hF _ hm;omega
  ·simp only[Nat.zero_add,List.size_toArray,h3];exact Nat.le_refl _
  ·have:=h4 i hi;rw[Nat.zero_add];exact bn.keep this (λb hb hm=>hnew.ext.block b hb (λh=>h))
end
section
variable {P:Program} {N:Nat} {env:Env} {w:World} {C:Nat->Nat} {y z:Operand} {t ty:TypeId} {v:Value} {b j n:Nat}
theorem cC {cs vs:List Value} (hx:ev env y=some (.pointer (some ⟨b,0,none⟩))) (hy:ev env z=some v) (hs:gN P t=some n)
  (hv:v.cells=vs.toArray) (hl:vs.length=n) (h1:∀u∈vs,u.oneCell'=true) (hb:bS w C j b (.cells cs.toArray ty)) (ho:cs.length=n):
  g_ P N env (.store t y z) w (λu w'=>u=undef/\av [j] w C w' C/\bS w' C j b (.cells vs.toArray ty)):=λa ha fB gO=>by
 obtain⟨u,w',h2,h3,h4,h5⟩:=dI (P:=P) (N:=N) (w:=w) (o:=0) hx hy hs hv hl h1 hb af a ha fB gO;have e:List.take 0 cs++vs++List.drop (0+n) cs=vs:=by
  rw[List.drop_eq_nil_of_le af];simp
 rw[e] at h5;exact⟨u,w',h2,h3,h4,h5⟩
end
structure Raw (n:Nat) where
 vals:List Value
 len:vals.length=n
 one:∀v∈vals,v.oneCell'=true
instance {n:Nat}:bn (Raw n) where
 sz:=n
 agg:=true
 flat h:=by cases h
 rep _ _ x vs:=vs=x.vals
 len h:=by subst h;rename_i x;exact x.len
 one h:=by subst h;rename_i x;exact x.one
 keep h _:=h
 sub h _:=h
structure Block where
 hash:Int
 ids:List Int
instance:bn Block:=bn.via (λb:Block=>((⟨b.hash⟩:j5),b.ids))
structure au where
 a:Int
 b:Int
 deriving DecidableEq
instance:bn au:=bn.via (λc:au=>(c.a,c.b))
section
variable {w:World} {M:Nat->Prop} {b o:Nat} {v:Value}
theorem bV {x:au}:aq w M x v↔v=.agg #[.int .i64 x.a,.int .i64 x.b]:=
 ⟨λh=>by
   obtain⟨vs,⟨us,ws,rfl,h1,h2⟩,hv⟩:=h;have xF:us=[.int .i64 x.a]:=h1;have CM:ws=[.int .i64 x.b]:=h2;subst xF;subst CM;exact hv,
  λh=>⟨[.int .i64 x.a,.int .i64 x.b],⟨_,_,rfl,rfl,rfl⟩,h⟩⟩
end
structure iH where
 list:List Int
 at_:Nat
 state:Int
def iH.x (d:iH):Int:=if h:d.at_<d.list.length then IntKind.u64.wrap d.list[d.at_] else 0
def mix (s x:Int):Int:=IntKind.u64.wrap (IntKind.u64.wrap (IntKind.u64.wrap (s+x)*6364136223846793005)+1442695040888963407)
def M4 (s:Int):Int:=bitsOf .xor .u64 s (s.fdiv (2^min (33:Int).toNat IntKind.u64.bits))
def M5 (y:Int):Int:=bitsOf .xor .u64 y (y.fdiv (2^min (29:Int).toNat IntKind.u64.bits))
def iH.next (d:iH):iH:={list:=d.list,at_:=if d.at_<d.list.length then d.at_+1 else d.at_,state:=mix d.state d.x}
def iH.word (d:iH):Int:=M5 (IntKind.u64.wrap (M4 d.next.state*18397679294719823053))
theorem Te (n:Int):0<=IntKind.u64.wrap n/\IntKind.u64.wrap n<18446744073709551616:=by
 have h:IntKind.u64.wrap n=n%18446744073709551616:=by simp[IntKind.wrap,IntKind.signed,IntKind.bits]
 rw[h];exact⟨Int.emod_nonneg _ ak,Int.emod_lt_of_pos _ ak⟩
theorem iH.hG (d:iH):0<=d.word/\d.word<18446744073709551616:=Te _
def iH.num (d:iH) (n:Int):Int:=if n<1 then 0 else(d.word/2)%n
def iH.after (d:iH) (n:Int):iH:=if n<1 then d else d.next
theorem iH.pW (d:iH) {n:Int} (h:1<=n):0<=d.num n/\d.num n<n:=by
 unfold iH.num;rw[if_neg af];exact⟨Int.emod_nonneg _ af,Int.emod_lt_of_pos _ af⟩
theorem iH.GM (d:iH) (n:Int): (d.after n).list=d.list:=by unfold iH.after;split<;>rfl
def n5 (t:TypeId) (w:World) (C:Nat->Nat) (i b:Nat) (d:iH):Prop:=
 d.at_<=d.list.length/\∃v,aq w (aj C) d.list v/\bS w C i b (.cells [v,.int .i64 d.at_,.int .u64 d.state].toArray t)
section
variable {t:TypeId} {w w':World} {C aG:Nat->Nat} {i b:Nat} {d:iH} {I:List Nat}
theorem n5.st (h:n5 t w C i b d) (hs:av I w C w' aG) (h0:0∉I) (hi:i∉I):n5 t w' aG i b d:=by
 obtain⟨h1,v,h2,h3⟩:=h;exact⟨h1,v,h2.st hs h0,h3.st hs hi⟩
theorem n5.cv (h:n5 t w C i b d) (hi:i≠0):n5 t w (cv C i) 2 b d:=by
 obtain⟨h1,v,h2,h3⟩:=h;exact⟨h1,v,by rw[qR];exact h2,h3.cv hi⟩
theorem n5.bO (h:n5 t w C i b d) {n:Nat} (hi:i<n):n5 t w (K.bO n C) i b d:=by
 obtain⟨h1,v,h2,h3⟩:=h;exact⟨h1,v,h2.bO n,h3.bO hi⟩
theorem n5.out {w₀:World} {lI:Nat->Nat} (h:n5 t w' aG 2 b d) (hs:av I w₀ (K.cv lI i) w' aG) (hF:aF w₀ lI) (hb:lI b=i):n5 t w' lI i b d:=by
 obtain⟨h1,v,h2,h3⟩:=h;exact⟨h1,v,h2.out hs hF (qR lI i),⟨hb,h3.at_⟩⟩
end
section
variable {α:Type} [bn α] {w w':World} {C aG:Nat->Nat} {P:Program} {N:Nat} {env:Env} {x y z q:Operand} {t ty e:TypeId} {v u:Value} {xs:List α} {j b g n:Nat}
theorem Tf {zs:List Value} {s:Nat} (hz:zs.length=s) {c i:Nat} (h:i<c):cR (madeCells zs.toArray (c*s)) (i*s) s=zs:=by
 apply List.ext_getElem?;intro k;have hb: (i+1)*s<=c*s:=Nat.mul_le_mul_right s h;rw[Nat.succ_mul] at hb;simp only[cR,List.getElem?_take,List.getElem?_drop];split
 ·rename_i hk;have h1:i*s+k<c*s:=by omega
  have h2: (i*s+k)%s=k:=by rw[Nat.mul_comm,Nat.mul_add_mod];exact Nat.mod_eq_of_lt hk
  simp[madeCells,h1,hz,h2,List.getElem?_eq_getElem (show k<zs.length by omega)]
 ·rename_i hk;rw[List.getElem?_eq_none af]
theorem Bc {bytes l c:Nat} {kl kc:IntKind} {x0:α} {zs:List Value} (hF:aF w C) (hj:j≠0) (hrow:rO P t e (sz α) bytes=true) (CN:xD P e=some zs)
  (hy:ev env y=some (.int kl l)) (hz:ev env z=some (.int kc c)) (hlc:l<=c) (hlen:bytes*c<=140737488355328) (h63:c<=140737488355328) (h0:∀h M,rep h M x0 zs):
  g_ P N env (.makeSlice t y z) w (λv w'=>∃aG,av [] w C w' aG/\aQ w' aG j e v (List.replicate l x0)/\aF w' aG):=sP λρ hρ fB gO=>by
 obtain⟨i,mD,hu,hi,hsi,hby,JQ,hzs⟩:=A8 hrow;have zo:mD.cells=zs.toArray:=by
  unfold xD at CN;rw[hi] at CN;simp[JQ] at CN;rw[<-CN]
 have hzl:zs.length=sz α:=by rw[<-hzs,zo];simp
 have hbc: (i.bytes:Int)*c<=281474976710656:=by
  have: ((bytes*c:Nat):Int)<=140737488355328:=by omega
  rw[Int.natCast_mul] at this;rw[hby];omega
 have hr:=run_make (P:=P) w t e i mD hu hi JQ kl kc l c af af hbc af;simp only[Int.toNat_natCast,hsi,zo] at hr;have hn:=zj w (.cells (madeCells zs.toArray (c*sz α)) e (0,0));obtain⟨aG,h1,h2,h3⟩:=hn.own hF j;refine⟨_,_,.inl ?_,aG,h1,⟨.inr ⟨w.heap.size,c,madeCells zs.toArray (c*sz α),by rw[List.length_replicate],?_,h2.at_,by rw[List.length_replicate];exact hlc,by simp[madeCells],λk hk=>?_⟩,λb hb=>?_⟩,h3⟩
 ·unfold execOp;rw[gO];simp only[hρ _ _ hy,hρ _ _ hz,Sem.run_bind];rw[hr];rfl
 ·unfold aj;rw[h2.col];exact hj
 ·rw[List.length_replicate] at hk;rw[Tf hzl (show k<c by omega),List.getElem_replicate];exact h0 _ _
 ·simp only[cQ,Value.ownBlock,Option.some.injEq] at hb;subst hb;exact h2.col
theorem aQ.xG (h:aQ w C j e v xs) (hne:0<xs.length):∃g cap cs,v=.slice (some ⟨g,0,none⟩) xs.length cap/\C g=j/\aj C g/\w.heap[g]?=some (.cells cs e (0,0))/\xs.length<=cap/\cs.size=cap*sz α/\
  ∀i (hi:i<xs.length),rep w.heap (aj C) xs[i] (cR cs (i*sz α) (sz α)):=by
 rcases h.own with⟨_,rfl⟩|⟨g,cap,cs,hv,hg,hc,h1,h2,h3⟩
 ·simp at hne
 ·exact⟨g,cap,cs,hv,h.col g (by subst hv;rfl),hg,hc,h1,h2,h3⟩
theorem aQ.index (h:aQ w C j e v xs) (hy:ev env y=some v) {e':Nat} {kd:IntKind} {i:Int} (hf:j6 P t=some (e',sz α)) (hz:ev env z=some (.int kd i)) (h0:0<=i) (h1:i<xs.length):
  ∃g,cQ v g/\∀w',cE P N env (.indexAddr t y z) w' (.pointer (some ⟨g,i.toNat*sz α,none⟩)):=by
 obtain⟨g,cap,cs,rfl,_,_,hc,_⟩:=h.xG af;refine⟨g,rfl,λw'=>?_⟩;have:=MN (P:=P) (N:=N) (w:=w') hf hy hz h0 h1;rwa [Nat.zero_add] at this
theorem aQ.load (h:aQ w C j e v xs) (hg:cQ v g) {i:Nat} (hi:i<xs.length) (ha:gH P t=some false) (hx:bn.agg α=false) (hy:ev env y=some (.pointer (some ⟨g,i*sz α,none⟩))):
  ∃u,aq w (aj C) xs[i] u/\∀w',w'.heap[g]?=w.heap[g]?->cE P N env (.load t y) w' u:=by
 obtain⟨g',cap,cs,rfl,_,_,hc,h1,h2,h3⟩:=h.xG af;simp only[cQ,Value.ownBlock,Option.some.injEq] at hg;subst hg;have hr:=h3 i hi;have hl:=bn.len hr;rw[bn.flat hx] at hr hl;obtain⟨u,hu⟩:=List.length_eq_one_iff.1 hl;rw[hu] at hr;refine⟨u,zi hr hx,λw' hw=>?_⟩;have zv:cs[i*1]?=some u:=by
  have:=congrArg (λl=>l[0]?) hu;simpa[cR] using this
 refine vW (cs:=cs.toList) (by rw[hw];simpa using hc) ha ?_ hy;rw[bn.flat hx];simpa using zv
theorem aQ.Et (h:aQ w C j e v xs) (hg:cQ v g) {i:Nat} (hi:i<xs.length) (ha:gH P t=some true) (hs:gN P t=some (sz α)) (hx:bn.agg α=true) (hy:ev env y=some (.pointer (some ⟨g,i*sz α,none⟩))):
  ∃u,aq w (aj C) xs[i] u/\∀w',w'.heap[g]?=w.heap[g]?->cE P N env (.load t y) w' u:=by
 obtain⟨g',cap,cs,rfl,_,_,hc,h1,h2,h3⟩:=h.xG af;simp only[cQ,Value.ownBlock,Option.some.injEq] at hg;subst hg;have hr:=h3 i hi;refine⟨.agg (cR cs (i*sz α) (sz α)).toArray,⟨_,hr,by simp[hx]⟩,λw' hw=>?_⟩;exact pK (cs:=cs.toList) (by rw[hw];simpa using hc) ha hs rfl (bn.len hr) hy
theorem gQ {x0:α} {i:Nat} (h:aQ w C j e v xs) (hg:cQ v g) (hi:i<xs.length) (hy:ev env y=some (.pointer (some ⟨g,i*sz α,none⟩))) (hz:ev env z=some u) (hs:gN P t=some (sz α)) (hr:aq w (aj C) x0 u):
  g_ P N env (.store t y z) w (λu' w'=>u'=undef/\av [j] w C w' C/\aQ w' C j e v (xs.set i x0)):=λa ha fB gO=>by
 obtain⟨g',cap,cs,rfl,kU,h_,hc,h1,h2,h3⟩:=h.xG af;simp only[cQ,Value.ownBlock,Option.some.injEq] at hg;subst hg;obtain⟨vs,hv,wh⟩:=hr.cells;have hb: (i+1)*sz α<=cap*sz α:=Nat.mul_le_mul_right _ af;rw[Nat.succ_mul] at hb;have hvl:=bn.len wh;obtain⟨u',w',k1,k2,zq⟩:=JI (P:=P) (N:=N) (cs:=cs.toList) (n:=sz α) (vs:=vs) hy hz hs hv hvl (bn.one wh) (by simpa using hc) (by simp only[Array.length_toList];omega) a ha fB gO;have hst:av [j] w C w' C:=⟨zq.ext.mono (λb _ hb=>by rw[show b=g' from hb,kU];simp),λ_ _=>rfl⟩
 have keep:∀{x:α} {vs:List Value},rep w.heap (aj C) x vs->rep w'.heap (aj C) x vs:=λhr=>bn.keep hr (λb hb hn=>zq.ext.block b hb (λe=>hn (by rw[show b=g' from e];exact h_)));refine⟨u',w',k1,k2,hst,⟨.inr ⟨g',cap,_,by rw[List.length_set],h_,zq.at_,by rw[List.length_set];exact h1,?_,λk hk=>?_⟩,h.col⟩⟩
 ·simp only[List.size_toArray,List.length_append,List.length_take,List.length_drop,Array.length_toList,hvl];omega
 ·rw[List.length_set] at hk;rw[List.getElem_set];split
  ·rename_i hik;subst hik;have:cR (cs.toList.take (i*sz α)++vs++cs.toList.drop (i*sz α+sz α)).toArray (i*sz α) (sz α)=vs:=by
    unfold cR;simp only[List.append_assoc];rw[List.drop_append_of_le_length (by simp only[List.length_take,Array.length_toList];omega),List.drop_eq_nil_of_le (by simp only[List.length_take];omega),List.nil_append,<-hvl,List.take_left]
   rw[this];exact keep wh
  ·rename_i hik;have:cR (cs.toList.take (i*sz α)++vs++cs.toList.drop (i*sz α+sz α)).toArray (k*sz α) (sz α)=cR cs (k*sz α) (sz α):=tD (λm hm=>by
    rw[show∀(l:List Value) (p:Nat),l.toArray[p]?=l[p]? from λl p=>by simp,<-Array.getElem?_toList];rcases Nat.lt_or_ge k i with hlt|hge
    ·have:=Nat.mul_le_mul_right (sz α) (show k+1<=i from hlt);rw[Nat.succ_mul] at this;rw[List.append_assoc,List.getElem?_append_left (by simp only[List.length_take,Array.length_toList];omega),List.getElem?_take,if_pos af]
    ·have:=Nat.mul_le_mul_right (sz α) (show i+1<=k by omega);rw[Nat.succ_mul] at this;rw[List.getElem?_append_right (by simp only[List.length_append,List.length_take,Array.length_toList,hvl];omega),List.getElem?_drop];congr 1;simp only[List.length_append,List.length_take,Array.length_toList,hvl];omega)
   rw[this];exact keep (h3 k hk)
end
section
variable {α:Type} [bn α] {w:World} {C:Nat->Nat} {P:Program} {f:FuncId} {N:Nat} {k:List Item} {R:Value->World->Prop} {Q:Exit->Act->World->Prop} {env:Env} {ops:Array Oper} {S:World->Prop} {i t:Nat} {L:List (Nat×Bool)} {v:Value} {y z:Operand} {iG:Option (Nat×Bool)} {ty e e':TypeId} {xs:List α} {j g:Nat} {kd:IntKind} {n:Int}
theorem bA (hop:bY ops i=some (some t,.indexAddr ty y z,iG)) (hw:eo ops env iG=some true) (ht:Nat.blt t N=true) (hl:aQ w C j e v xs) (hy:ev env y=some v)
  (hf:j6 P ty=some (e',sz α)) (hz:ev env z=some (.int kd n)) (h0:0<=n) (h1:n<xs.length)
  (h:∀g,cQ v g->bN P N Q ops S L ((t,.pointer (some ⟨g,n.toNat*sz α,none⟩))::env) w):bN P N Q ops S ((i,true)::L) env w:=by
 obtain⟨g,h2,h3⟩:=hl.index (P:=P) (N:=N) hy hf hz h0 h1;exact kL hop hw ht (λw' _=>h3 w') (h g h2)
theorem Tg {i':Nat} (hop:bY ops i=some (some t,.load ty y,iG)) (hw:eo ops env iG=some true) (ht:Nat.blt t N=true) (hS:S w) (hl:aQ w C j e v xs) (hg:cQ v g) (hi:i'<xs.length) (ha:gH P ty=some false) (hx:bn.agg α=false)
  (hy:ev env y=some (.pointer (some ⟨g,i'*sz α,none⟩))) (h:∀v,aq w (aj C) xs[i'] v->bN P N Q ops S L ((t,v)::env) w):bN P N Q ops S ((i,false)::L) env w:=by
 obtain⟨v,h2,h3⟩:=hl.load (P:=P) (N:=N) hg hi ha hx hy;exact vZ hop hw ht hS (h3 w rfl) (h v h2)
theorem nE {i':Nat} (hop:bY ops i=some (some t,.load ty y,iG)) (hw:eo ops env iG=some true) (ht:Nat.blt t N=true) (hS:S w) (hl:aQ w C j e v xs) (hg:cQ v g) (hi:i'<xs.length) (ha:gH P ty=some true) (hs:gN P ty=some (sz α)) (hx:bn.agg α=true)
  (hy:ev env y=some (.pointer (some ⟨g,i'*sz α,none⟩))) (h:∀v,aq w (aj C) xs[i'] v->bN P N Q ops S L ((t,v)::env) w):bN P N Q ops S ((i,false)::L) env w:=by
 obtain⟨v,h2,h3⟩:=hl.Et (P:=P) (N:=N) hg hi ha hs hx hy;exact vZ hop hw ht hS (h3 w rfl) (h v h2)
theorem aQ.stay {w':World} {I:List Nat} (h:aQ w C j e v xs) (hg:cQ v g) (hS:Ext (λb=>C b∈I) w w') (hj:j∉I):w'.heap[g]?=w.heap[g]?:=
 hS.block g (h.own.fG g hg).2 (by rw[h.col g hg];exact hj)
theorem aQ.eG {w':World} {I:List Nat} (h:aQ w C j e v xs) (hg:cQ v g) (hS:Ext (λb=>C b∈I) w w') (hj:j∉I:=by first|decide|(simp<;>omega)):w'.heap[g]?=w.heap[g]?:=h.stay hg hS hj
theorem ajl {i':Nat} {I:List Nat} (hop:bY ops i=some (some t,.load ty y,iG)) (hw:eo ops env iG=some true) (ht:Nat.blt t N=true) (hl:aQ w C j e v xs) (hg:cQ v g) (hst:∀w',S w'->w'.heap[g]?=w.heap[g]?) (hi:i'<xs.length) (ha:gH P ty=some false) (hx:bn.agg α=false)
  (hy:ev env y=some (.pointer (some ⟨g,i'*sz α,none⟩))) (h:∀v,aq w (aj C) xs[i'] v->bN P N Q ops S L ((t,v)::env) w):bN P N Q ops S ((i,true)::L) env w:=by
 obtain⟨v,h2,h3⟩:=hl.load (P:=P) (N:=N) hg hi ha hx hy;exact kL hop hw ht (λw' hS=>h3 w' (hst w' hS)) (h v h2)
theorem ajm {i':Nat} {I:List Nat} (hop:bY ops i=some (some t,.load ty y,iG)) (hw:eo ops env iG=some true) (ht:Nat.blt t N=true) (hl:aQ w C j e v xs) (hg:cQ v g) (hst:∀w',S w'->w'.heap[g]?=w.heap[g]?) (hi:i'<xs.length) (ha:gH P ty=some true) (hs:gN P ty=some (sz α)) (hx:bn.agg α=true)
  (hy:ev env y=some (.pointer (some ⟨g,i'*sz α,none⟩))) (h:∀v,aq w (aj C) xs[i'] v->bN P N Q ops S L ((t,v)::env) w):bN P N Q ops S ((i,true)::L) env w:=by
 obtain⟨v,h2,h3⟩:=hl.Et (P:=P) (N:=N) hg hi ha hs hx hy;exact kL hop hw ht (λw' hS=>h3 w' (hst w' hS)) (h v h2)
end
section
variable {α:Type} [bn α] {w w1:World} {M:Nat->Prop} {C:Nat->Nat} {P:Program} {N:Nat} {Q:Exit->Act->World->Prop} {env:Env} {ops:Array Oper} {S:World->Prop} {i:Nat} {L:List (Nat×Bool)} {v:Value} {e1:TypeId} {xs:List α} {j:Nat} {kd:IntKind} {n:Int}
theorem ajn (e t ty a b:Nat) (hl:aq w1 M xs v) (hz:look env b=some (.int kd n)) (hop:bY ops i=some (some t,.indexAddr ty (.tmp a) (.tmp b),none):=by kernel_rfl) (hy:look env a=some v:=by exact rfl) (hf:j6 P ty=some (e,sz α):=by kernel_rfl)
 (h0:0<=n:=by omega) (h1:n<xs.length:=by omega) (ht:Nat.blt t N=true:=by rfl) (h:∀b o,bk w1 M (xs[n.toNat]'af) b o->bN P N Q ops S L ((t,.pointer (some ⟨b,o,none⟩))::env) w):bN P N Q ops S ((i,true)::L) env w:=iS hop rfl ht hl hy hf hz h0 h1 h
theorem ajo (e' t ty a b:Nat) (hl:aQ w C j e1 v xs) (hz:look env b=some (.int kd n)) (h1:n<xs.length) (hop:bY ops i=some (some t,.indexAddr ty (.tmp a) (.tmp b),none):=by kernel_rfl) (hy:look env a=some v:=by exact rfl) (hf:j6 P ty=some (e',sz α):=by kernel_rfl)
 (h0:0<=n:=by omega) (ht:Nat.blt t N=true:=by rfl) (h:∀g,cQ v g->bN P N Q ops S L ((t,.pointer (some ⟨g,n.toNat*sz α,none⟩))::env) w):bN P N Q ops S ((i,true)::L) env w:=bA hop rfl ht hl hy hf hz h0 h1 h
theorem ajp (t T a:Nat) {b o:Nat} {cs:List Value} {ty:TypeId} {eV:Nat×Nat} (hc:w.heap[b]?=some (.cells cs.toArray ty eV)) (hy:look env a=some (.pointer (some ⟨b,o,none⟩))) (hv:cs[o]?=some v) (h:bN P N Q ops (λ_=>True) L ((t,v)::env) w)
 (hop:bY ops i=some (some t,.load T (.tmp a),none):=by kernel_rfl) (ha:gH P T=some false:=by kernel_rfl) (ht:Nat.blt t N=true:=by rfl):bN P N Q ops (λ_=>True) ((i,false)::L) env w:=vZ hop rfl ht trivial (vW hc ha hv hy) h
theorem zE (t a T:Nat) (hv:∀w',cE P N env (.call {callee:=.builtin .len,args:=#[.tmp a],argTypes:=#[T]}) w' v) (h:bN P N Q ops S L ((t,v)::env) w)
 (hop:bY ops i=some (some t,.call {callee:=.builtin .len,args:=#[.tmp a],argTypes:=#[T]},none):=by kernel_rfl) (ht:Nat.blt t N=true:=by rfl):bN P N Q ops S ((i,true)::L) env w:=kL hop rfl ht (λw' _=>hv w') h
theorem ajq (t a T g:Nat) (b:Bool) (hv:∀w',cE P N env (.call {callee:=.builtin .len,args:=#[.tmp a],argTypes:=#[T]}) w' v) (h:bN P N Q ops S L ((t,v)::env) w)
 (hop:bY ops i=some (some t,.call {callee:=.builtin .len,args:=#[.tmp a],argTypes:=#[T]},some (g,b)):=by kernel_rfl) (hw:eo ops env (some (g,b))=some true:=by rfl) (ht:Nat.blt t N=true:=by rfl):bN P N Q ops S ((i,true)::L) env w:=kL hop hw ht (λw' _=>hv w') h
theorem ajr (t T a n:Nat) {b o:Nat} {cs:List Value} {ty:TypeId} {eV:Nat×Nat} (vs:List Value) (hc:w.heap[b]?=some (.cells cs.toArray ty eV)) (h:bN P N Q ops (λ_=>True) L ((t,.agg vs.toArray)::env) w)
 (hop:bY ops i=some (some t,.load T (.tmp a),none):=by kernel_rfl) (ha:gH P T=some true:=by kernel_rfl) (hs:gN P T=some n:=by kernel_rfl) (hy:look env a=some (.pointer (some ⟨b,o,none⟩)):=by exact rfl) (hv: (cs.drop o).take n=vs:=by exact rfl) (hl:vs.length=n:=by exact rfl) (ht:Nat.blt t N=true:=by rfl):
 bN P N Q ops (λ_=>True) ((i,false)::L) env w:=vZ hop rfl ht trivial (pK hc ha hs hv hl hy) h
theorem ajs (t T a g:Nat) (bb:Bool) (n:Nat) {b o:Nat} {cs:List Value} {ty:TypeId} {eV:Nat×Nat} (vs:List Value) (hc:w.heap[b]?=some (.cells cs.toArray ty eV)) (h:bN P N Q ops (λ_=>True) L ((t,.agg vs.toArray)::env) w)
 (hop:bY ops i=some (some t,.load T (.tmp a),some (g,bb)):=by kernel_rfl) (hw:eo ops env (some (g,bb))=some true:=by rfl) (ha:gH P T=some true:=by kernel_rfl) (hs:gN P T=some n:=by kernel_rfl) (hy:look env a=some (.pointer (some ⟨b,o,none⟩)):=by exact rfl) (hv: (cs.drop o).take n=vs:=by exact rfl) (hl:vs.length=n:=by exact rfl) (ht:Nat.blt t N=true:=by rfl):
 bN P N Q ops (λ_=>True) ((i,false)::L) env w:=vZ hop hw ht trivial (pK hc ha hs hv hl hy) h
theorem ajt (t T a g:Nat) (bb:Bool) {b o:Nat} {cs:List Value} {ty:TypeId} {eV:Nat×Nat} (hc:w.heap[b]?=some (.cells cs.toArray ty eV)) (h:bN P N Q ops (λ_=>True) L ((t,v)::env) w)
 (hop:bY ops i=some (some t,.load T (.tmp a),some (g,bb)):=by kernel_rfl) (hw:eo ops env (some (g,bb))=some true:=by rfl) (ha:gH P T=some false:=by kernel_rfl) (hy:look env a=some (.pointer (some ⟨b,o,none⟩)):=by exact rfl) (hv:cs[o]?=some v:=by exact rfl) (ht:Nat.blt t N=true:=by rfl):
 bN P N Q ops (λ_=>True) ((i,false)::L) env w:=vZ hop hw ht trivial (vW hc ha hv hy) h
theorem aju (t T a n:Nat) {b o:Nat} {cs:List Value} {ty:TypeId} {eV:Nat×Nat} (vs:List Value) (hc:∀{w':World},S w'->w'.heap[b]?=some (.cells cs.toArray ty eV)) (h:bN P N Q ops S L ((t,.agg vs.toArray)::env) w)
 (hop:bY ops i=some (some t,.load T (.tmp a),none):=by kernel_rfl) (ha:gH P T=some true:=by kernel_rfl) (hs:gN P T=some n:=by kernel_rfl) (hy:look env a=some (.pointer (some ⟨b,o,none⟩)):=by exact rfl) (hv: (cs.drop o).take n=vs:=by exact rfl) (hl:vs.length=n:=by exact rfl) (ht:Nat.blt t N=true:=by rfl):
 bN P N Q ops S ((i,true)::L) env w:=kL hop rfl ht (λ_ hS=>pK (hc hS) ha hs hv hl hy) h
theorem ajv (t T a:Nat) {b o:Nat} {cs:List Value} {ty:TypeId} {eV:Nat×Nat} (hc:∀{w':World},S w'->w'.heap[b]?=some (.cells cs.toArray ty eV)) (h:bN P N Q ops S L ((t,v)::env) w)
 (hop:bY ops i=some (some t,.load T (.tmp a),none):=by kernel_rfl) (ha:gH P T=some false:=by kernel_rfl) (hy:look env a=some (.pointer (some ⟨b,o,none⟩)):=by exact rfl) (hv:cs[o]?=some v:=by exact rfl) (ht:Nat.blt t N=true:=by rfl):
 bN P N Q ops S ((i,true)::L) env w:=kL hop rfl ht (λ_ hS=>vW (hc hS) ha hv hy) h
end
theorem dR {P:Program} {N:Nat} {env:Env} {op:Op} {w:World} {p:Prop} [Decidable p] (h:cE P N env op w (.bool (decide p))) (hp:¬p):cE P N env op w (.bool false):=by rwa [decide_eq_false hp] at h
theorem wj {P:Program} {N:Nat} {env:Env} {op:Op} {w:World} {p:Prop} [Decidable p] (h:cE P N env op w (.bool (decide p))) (hp:p):cE P N env op w (.bool true):=by rwa [decide_eq_true hp] at h
theorem z9 (w:World) (C:Nat->Nat):av [2,3,4,5,6,7,8,9] w (aI C) w (aI C):=av.refl _ _ _
theorem fE {vs:List Value} (h:vs.all (·.oneCell')=true):∀u∈vs,u.oneCell'=true:=List.all_eq_true.1 h
theorem gR:∀u∈([]:List Value),u.oneCell'=true:=λ_ h=>nomatch h
theorem gT {v:Value} {vs:List Value} (h:v.oneCell'=true) (t:∀u∈vs,u.oneCell'=true):∀u∈v::vs,u.oneCell'=true:=λ_ hu=>(List.mem_cons.1 hu).elim (λe=>e▸h) (t _)
theorem fh (n:Nat): (n:Int).toNat=n:=rfl
theorem aQ.u {α:Type} [bn α] {w w':World} {C aG:Nat->Nat} {I:List Nat} {j:Nat} {e:TypeId} {v:Value} {ys:List α} (h:aQ w C j e v ys) (hs:av I w C w' aG) (h0:0∉I:=by first|decide|(simp<;>omega)) (hj:j∉I:=by first|decide|(simp<;>omega)):aQ w' aG j e v ys:=h.st hs h0 hj
theorem aq.c1 {α:Type} [bn α] {w:World} {C:Nat->Nat} {x:α} {v:Value} (h:aq w (aj C) x v):aq w (aj (aI C)) x v:=by rw[er];exact h
theorem av.gC {w w' w'':World} {C aG rP:Nat->Nat} {I J:List Nat} (h:av I w C w' aG) (h':av J w' aG w'' rP):av (I++J) w C w'' rP:=(h.mono (λc hc=>List.mem_append_left _ hc)).trans h' (λc hc=>List.mem_append_right _ hc)
section
variable {I J:List Nat} {w w' w'':World} {C aG rP:Nat->Nat} {i:Nat}
theorem aW (p:av J w C w' aG:=by exact pL) (h:∀c∈J,c∈I:=by first|decide|(simp;done)|(simp<;>omega)):Ext (λb=>C b∈I) w w':=p.ext.mono λb _ hc=>h _ hc
theorem aF.mv (h:aF w C) (p:av I w C w' C:=by exact pL):aF w' C:=h.st p
theorem av.mv (h:av I w C w' aG) (p:av J w' aG w'' rP:=by exact pL) (hJ:∀c∈J,c∈I:=by first|decide|(simp;done)|(simp<;>omega)):av I w C w'' rP:=h.trans p hJ
theorem av.o1 (h:av I w (aI C) w' aG) (p:av J w' aG w'' rP:=by exact pL) (hI:∀c∈I,2<=c:=by decide) (hJ:∀c∈J,2<=c:=by first|decide|(simp<;>omega)):av [] w C w'' C:=
 (h.tn p).JK (λc hc=>(List.mem_append.1 hc).elim (hI c) (hJ c))
theorem av.o2 (h:av I w (cv C i) w' aG) (p:av J w' aG w'' rP:=by exact pL) (hI:∀c∈I,2<=c:=by decide) (hJ:∀c∈J,2<=c:=by first|decide|(simp<;>omega)):av [i] w C w'' C:=
 (h.tn p).p0 (λc hc=>(List.mem_append.1 hc).elim (hI c) (hJ c))
end
structure xH where
 v:Value
 p:Option Prop
 b:Bool
def M6:IntKind->IntKind->Bool
 | .i8,.i8=>true| .i16,.i16=>true| .i32,.i32=>true| .i64,.i64=>true
 | .u8,.u8=>true| .u16,.u16=>true| .u32,.u32=>true| .u64,.u64=>true
 |_,_=>false
theorem Ti {k j:IntKind} (h:M6 k j=true):k=j:=by cases k<;>cases j<;>first|rfl|cases h
def M7 (op:BinOp) (k:IntKind) (m n:Int):Option xH:=
 match op with
 | .lss=>some ⟨.bool (decide (m<n)),none,true⟩
 | .leq=>some ⟨.bool (decide (m<=n)),none,true⟩
 | .gtr=>some ⟨.bool (decide (n<m)),none,true⟩
 | .geq=>some ⟨.bool (decide (n<=m)),none,true⟩
 | .eql=>some ⟨.bool (decide (m=n)),none,true⟩
 | .neq=>some ⟨.bool (decide (m≠n)),none,true⟩
 | .add=>match k with| .i64=>some ⟨.int .i64 (m+n),some (-9223372036854775808<=m+n/\m+n<=9223372036854775807),true⟩|k=>some ⟨.int k (k.wrap (m+n)),none,true⟩
 | .sub=>match k with| .i64=>some ⟨.int .i64 (m-n),some (-9223372036854775808<=m-n/\m-n<=9223372036854775807),true⟩|k=>some ⟨.int k (k.wrap (m-n)),none,true⟩
 | .mul=>match k with| .i64=>some ⟨.int .i64 (m*n),some (-9223372036854775808<=m*n/\m*n<=9223372036854775807),true⟩|k=>some ⟨.int k (k.wrap (m*n)),none,true⟩
 | .and=>some ⟨.int k (bitsOf .and k m n),none,true⟩
 | .or=>some ⟨.int k (bitsOf .or k m n),none,true⟩
 | .xor=>some ⟨.int k (bitsOf .xor k m n),none,true⟩
 | .quo=>match k with| .i64=>some ⟨.int .i64 (m/n),some (0<=m/\1<=n/\m<=9223372036854775807),true⟩|_=>none
 | .rem=>match k with| .i64=>some ⟨.int .i64 (m%n),some (0<=m/\1<=n),true⟩|_=>none
 |_=>none
def Tj:Value->Option xH
 | .pointer (some q)=>some ⟨.pointer (some q),none,true⟩
 |_=>none
def Tk (i:Nat):Value->Option xH
 | .tuple vs=>match vs[i]? with|some v=>some ⟨v,none,true⟩|none=>none
 |_=>none
def Tl (P:Program) (T f off:Nat):Value->Option xH
 | .pointer (some ⟨b,o,none⟩)=>some ⟨.pointer (some ⟨b,o+off,none⟩),none,match Eu P T f with|some q=>Nat.beq q off|none=>false⟩
 |_=>none
def Tm (op:BinOp) (x y:Value):Option xH:=match x with
 | .int k m=>match y with
  | .int j n=>match M6 k j with|true=>M7 op k m n|false=>none
  |_=>none
 |_=>none
def Tn:Value->Option xH| .bool b=>some ⟨.bool (!b),none,true⟩|_=>none
def Tp (env:Env) (x y z:Operand):Option xH:=match ev env x with
 |some (.bool true)=>match ev env y with|some v=>some ⟨v,none,true⟩|none=>none
 |some (.bool false)=>match ev env z with|some v=>some ⟨v,none,true⟩|none=>none
 |_=>none
def pv (P:Program) (off:Nat) (env:Env):Op->Option xH
 | .move x=>match ev env x with|some v=>some ⟨v,none,true⟩|none=>none
 | .assign x=>match ev env x with|some v=>some ⟨v,none,true⟩|none=>none
 | .nilCheck x=>match ev env x with|some v=>Tj v|none=>none
 | .extract x i=>match ev env x with|some v=>Tk i v|none=>none
 | .fieldAddr T x f=>match ev env x with|some v=>Tl P T f off v|none=>none
 | .pick x y z=>Tp env x y z
 | .unOp .not _ x=>match ev env x with|some v=>Tn v|none=>none
 | .binOp op _ x y _=>match ev env x with|some u=>(match ev env y with|some v=>Tm op u v|none=>none)|none=>none
 |_=>none
def vR:Op->Bool| .fieldAddr _ _ _=>true|_=>false
def holds:Option Prop->Prop|none=>True|some p=>p
section
variable {P:Program} {N:Nat} {env:Env} {w:World}
theorem cV {op:BinOp} {k:IntKind} {m n:Int} {T U:TypeId} {x y:Operand} {r:xH} (hx:ev env x=some (.int k m)) (hy:ev env y=some (.int k n)) (h:M7 op k m n=some r) (hp:holds r.p):
  cE P N env (.binOp op T x y U) w r.v:=by
 cases op<;>simp only[M7] at h
 case lss=>cases h;exact jq hx hy
 case leq=>cases h;exact Es hx hy
 case gtr=>cases h;exact jr hx hy
 case geq=>cases h;exact lH hx hy
 case eql=>cases h;exact CD hx hy
 case neq=>cases h;exact jQ hx hy
 case add=>cases k<;>simp only at h<;>cases h<;>first|exact MJ hx hy hp.1 hp.2|exact val_add hx hy
 case sub=>cases k<;>simp only at h<;>cases h<;>first|exact br hx hy hp.1 hp.2|exact val_sub hx hy
 case mul=>cases k<;>simp only at h<;>cases h<;>first|exact SX hx hy hp.1 hp.2|exact val_mul hx hy
 case and=>cases h;exact gd hx hy
 case or=>cases h;exact Dk hx hy
 case xor=>cases h;exact e4 hx hy
 case quo=>cases k<;>simp only at h<;>cases h;exact MK hx hy hp.1 hp.2.1 hp.2.2
 case rem=>cases k<;>simp only at h<;>cases h;exact ML hx hy hp.1 hp.2
 all_goals cases h
theorem M8 {off:Nat} {op:Op} {r:xH} (h:pv P off env op=some r) (hp:holds r.p) (hb:r.b=true):cE P N env op w r.v:=by
 cases op<;>simp only[pv] at h
 case move x=>cases hx:ev env x with|none=>rw[hx] at h;cases h|some v=>rw[hx] at h;cases h;exact A0 hx
 case assign x=>cases hx:ev env x with|none=>rw[hx] at h;cases h|some v=>rw[hx] at h;cases h;exact Gi hx
 case nilCheck x=>
  cases hx:ev env x with
  |none=>rw[hx] at h;cases h
  |some v=>rw[hx] at h;simp only at h;unfold Tj at h;split at h<;>cases h;exact SU hx
 case extract x i=>
  cases hx:ev env x with
  |none=>rw[hx] at h;cases h
  |some v=>
   rw[hx] at h;simp only at h;unfold Tk at h;split at h
   ·rename_i vs;cases hv:vs[i]? with
    |none=>rw[hv] at h;cases h
    |some u=>rw[hv] at h;cases h;exact SV hx hv
   ·cases h
 case fieldAddr T x f=>
  cases hx:ev env x with
  |none=>rw[hx] at h;cases h
  |some v=>
   rw[hx] at h;simp only at h;unfold Tl at h;split at h<;>cases h;simp only at hb;cases hf:Eu P T f with
   |none=>rw[hf] at hb;cases hb
   |some q=>rw[hf] at hb;exact CG (off:=off) (by rw[hf,Nat.eq_of_beq_eq_true hb]) hx
 case pick x y z=>
  unfold Tp at h;split at h
  ·rename_i hx;cases hy:ev env y with
   |none=>rw[hy] at h;cases h
   |some v=>rw[hy] at h;cases h;exact MH hx hy
  ·rename_i hx;cases hy:ev env z with
   |none=>rw[hy] at h;cases h
   |some v=>rw[hy] at h;cases h;exact MI hx hy
  ·cases h
 case unOp u T x=>
  cases u<;>simp only at h
  case not=>
   cases hx:ev env x with
   |none=>rw[hx] at h;cases h
   |some v=>rw[hx] at h;simp only at h;unfold Tn at h;split at h<;>cases h;exact oz hx
  all_goals cases h
 case binOp op T x y U=>
  cases hx:ev env x with
  |none=>rw[hx] at h;cases h
  |some u=>
   cases hy:ev env y with
   |none=>rw[hx,hy] at h;cases h
   |some v=>
    rw[hx,hy] at h;simp only at h;unfold Tm at h;split at h
    ·split at h
     ·split at h
      ·rename_i hk;obtain rfl:=Ti hk;exact cV hx hy h hp
      ·cases h
     ·cases h
    ·cases h
 all_goals cases h
end
inductive CO where
 |c (k:List Item) (env:Env)
 |o (k:List Item) (ops:Array Oper) (S:World->Prop) (L:List (Nat×Bool)) (env:Env)
def Gy (P:Program) (f:FuncId) (N:Nat) (R:Value->World->Prop) (w:World):CO->Prop
 | .c k env=>Run P f N k env w R
 | .o k ops S L env=>bQ P f N k R ops S L env w
def JR:Nat->Nat->Nat->List (Nat×Bool)
 |0,_,_=>[]
 |n+1,i,m=>(i,Nat.testBit m i)::JR n (i+1) m
theorem Tq:∀(n i m:Nat),(JR n i m).map (·.1)=List.range' i n
 |0,_,_=>rfl
 |n+1,i,m=>by simp[JR,Tq n (i+1) m,List.range'_succ]
structure EB where
 s:CO
 p:Option Prop
 b:Bool
 hs:List Nat
structure JS where
 env:Env
 p:Option Prop
 b:Bool
 hs:List Nat
def Ts (P:Program) (N:Nat) (ops:Array Oper) (i:Nat) (env:Env) (hs:List Nat):Option JS:=
 match bY ops i with
 |some (some t,op,g)=>match Nat.blt t N with
  |true=>match eo ops env g with
   |some true=>match vR op with
    |true=>match hs with
     |off::hs=>match pv P off env op with|some ⟨v,p,b⟩=>some ⟨(t,v)::env,p,b,hs⟩|none=>none
     |[]=>none
    |false=>match pv P 0 env op with|some ⟨v,p,b⟩=>some ⟨(t,v)::env,p,b,hs⟩|none=>none
   |some false=>some ⟨(t,undef)::env,none,true,hs⟩
   |none=>none
  |false=>none
 |_=>none
def Tt (N:Nat) (ops:Array Oper) (S:World->Prop) (i:Nat) (env:Env) (hs:List Nat) (w:World):Option JS:=
 match bY ops i with
 |some (some t,_,g)=>match Nat.blt t N with
  |true=>match eo ops env g with
   |some false=>some ⟨(t,undef)::env,some (S w),true,hs⟩
   |_=>none
  |false=>none
 |_=>none
def JT (P:Program) (N:Nat) (w:World) (ops:Array Oper) (S:World->Prop) (i:Nat) (b:Bool) (env:Env) (hs:List Nat):Option JS:=
 match b with|true=>Ts P N ops i env hs|false=>Tt N ops S i env hs w
def Tv (env:Env) (a b:Code) (k:List Item) (hs:List Nat) (o:Operand):Option EB:=match ev env o with
 |some (.bool true)=>some ⟨.c (.code a::k) env,none,true,hs⟩
 |some (.bool false)=>some ⟨.c (.code b::k) env,none,true,hs⟩
 |_=>none
def Tw (k:List Item) (env:Env) (ops:Array Oper):List Nat->Option EB
 |m::hs=>some ⟨.o k ops (λ_=>True) (JR ops.size 0 m) env,none,true,hs⟩
 |[]=>none
def M9 (k:List Item) (env:Env) (hs:List Nat):Code->Option EB
 | .skip=>some ⟨.c k env,none,true,hs⟩
 | .seq a b=>some ⟨.c (.code a:: .code b::k) env,none,true,hs⟩
 | .block id b=>some ⟨.c (.code b:: .inBlock id::k) env,none,true,hs⟩
 | .exit id=>match exitTo id k with|some k'=>some ⟨.c k' env,none,true,hs⟩|none=>none
 | .cond o a b=>Tv env a b k hs o
 | .region _ ops false=>Tw k env ops hs
 |_=>none
def M_ (P:Program) (N:Nat) (w:World) (hs:List Nat):CO->Option EB
 | .o k ops S [] env=>some ⟨.c k env,none,true,hs⟩
 | .o k ops S ((i,b)::L) env=>match JT P N w ops S i b env hs with|some ⟨e,p,q,hs⟩=>some ⟨.o k ops S L e,p,q,hs⟩|none=>none
 | .c (.inBlock _::k) env=>some ⟨.c k env,none,true,hs⟩
 | .c (.code c::k) env=>M9 k env hs c
 | .c _ _=>none
section
variable {P:Program} {f:FuncId} {N:Nat} {R:Value->World->Prop} {w:World}
theorem Na {Q:Exit->Act->World->Prop} {ops:Array Oper} {S:World->Prop} {i:Nat} {b:Bool} {L:List (Nat×Bool)} {env:Env} {hs:List Nat} {r:JS} (h:JT P N w ops S i b env hs=some r) (hp:holds r.p) (hb:r.b=true)
  (hg:bN P N Q ops S L r.env w):bN P N Q ops S ((i,b)::L) env w:=by
 unfold JT at h;split at h
 ·unfold Ts at h;split at h
  ·rename_i t op g hop;split at h
   ·rename_i ht;split at h
    ·rename_i hw;split at h
     ·split at h
      ·rename_i off hs';cases hv:pv P off env op with
       |none=>rw[hv] at h;cases h
       |some q=>rw[hv] at h;cases h;exact kL hop hw ht (λw' _=>M8 hv hp hb) hg
      ·cases h
     ·cases hv:pv P 0 env op with
      |none=>rw[hv] at h;cases h
      |some q=>rw[hv] at h;cases h;exact kL hop hw ht (λw' _=>M8 hv hp hb) hg
    ·rename_i hw;cases h;exact S5 hop hw ht hg
    ·cases h
   ·cases h
  ·cases h
 ·unfold Tt at h;split at h
  ·rename_i t op g hop;split at h
   ·rename_i ht;split at h
    ·rename_i hw;cases h;exact mb hop hw ht hp hg
    ·cases h
   ·cases h
  ·cases h
theorem ec {k:List Item} {env:Env} {hs:List Nat} {r:EB} {c:Code} (h:M9 k env hs c=some r) (hg:Gy P f N R w r.s):Run P f N (.code c::k) env w R:=by
 unfold M9 at h;split at h
 ·cases h;exact SL rfl hg
 ·cases h;exact run_seq rfl hg
 ·cases h;exact SK rfl hg
 ·split at h<;>cases h;rename_i hk;exact SM rfl hk hg
 ·unfold Tv at h;split at h
  ·rename_i hv;cases h;exact Er rfl hv (λ_=>hg) (λe=>by cases e)
  ·rename_i hv;cases h;exact Er rfl hv (λe=>by cases e) (λ_=>hg)
  ·cases h
 ·unfold Tw at h;split at h<;>cases h;exact SQ _ rfl (by rw[Tq,List.range_eq_range']) hg
 ·cases h
theorem Tx {hs:List Nat} {s:CO} {r:EB} (h:M_ P N w hs s=some r) (hp:holds r.p) (hb:r.b=true) (hg:Gy P f N R w r.s):Gy P f N R w s:=by
 unfold M_ at h;split at h
 ·cases h;exact bQ.nil hg
 ·split at h
  ·rename_i ho;cases h;exact Na ho hp hb hg
  ·cases h
 ·cases h;exact PL hg
 ·exact ec h hg
 ·cases h
end
structure Ty where
 s:CO
 ps:List Prop
 b:Bool
def wk (P:Program) (N:Nat) (w:World):Nat->List Nat->CO->List Prop->Bool->Option Ty
 |0,_,s,ps,b=>some ⟨s,ps,b⟩
 |n+1,hs,s,ps,b=>match M_ P N w hs s with
  |some ⟨s',some p,q,hs'⟩=>wk P N w n hs' s' (p::ps) (b&&q)
  |some ⟨s',none,q,hs'⟩=>wk P N w n hs' s' ps (b&&q)
  |none=>none
def k9:List Prop->Prop|[]=>True|p::l=>p/\k9 l
theorem k9.mk {p:Prop} {l:List Prop} (h:p) (t:k9 l):k9 (p::l):=⟨h,t⟩
theorem EC {P:Program} {f:FuncId} {N:Nat} {R:Value->World->Prop} {w:World}:∀(n:Nat) (hs:List Nat) (s:CO) (ps:List Prop) (b:Bool) (t:Ty),wk P N w n hs s ps b=some t->k9 t.ps->t.b=true->
  Gy P f N R w t.s->(k9 ps/\b=true)/\Gy P f N R w s
 |0,hs,s,ps,b,t,h,hp,hb,hg=>by cases h;exact⟨⟨hp,hb⟩,hg⟩
 |n+1,hs,s,ps,b,t,h,hp,hb,hg=>by
  unfold wk at h;split at h
  ·rename_i hr;obtain⟨⟨h1,h2⟩,h3⟩:=EC n _ _ _ _ _ h hp hb hg;rw[Bool.and_eq_true] at h2;exact⟨⟨h1.2,h2.1⟩,Tx hr h1.1 h2.2 h3⟩
  ·rename_i hr;obtain⟨⟨h1,h2⟩,h3⟩:=EC n _ _ _ _ _ h hp hb hg;rw[Bool.and_eq_true] at h2;exact⟨⟨h1,h2.1⟩,Tx hr trivial h2.2 h3⟩
  ·cases h
section
variable {P:Program} {f:FuncId} {N:Nat} {R:Value->World->Prop} {w:World} {k k':List Item} {env env':Env} {ops ops':Array Oper} {S S':World->Prop} {L L':List (Nat×Bool)} {ps:List Prop} {b:Bool}
theorem aB (n:Nat) (h:Run P f N k' env' w R) (hs:List Nat:=[]) (hz:wk P N w n hs (.c k env) [] true=some ⟨.c k' env',ps,b⟩:=by exact rfl) (hp:k9 ps:=by repeat' first|exact trivial|refine k9.mk ?_ ?_|exact aW|omega) (hb:b=true:=by kernel_rfl):Run P f N k env w R:=
 (EC n hs _ _ _ _ hz hp hb h).2
theorem dN (n:Nat) (h:bQ P f N k' R ops' S' L' env' w) (hs:List Nat:=[]) (hz:wk P N w n hs (.c k env) [] true=some ⟨.o k' ops' S' L' env',ps,b⟩:=by exact rfl) (hp:k9 ps:=by repeat' first|exact trivial|refine k9.mk ?_ ?_|exact aW|omega) (hb:b=true:=by kernel_rfl):Run P f N k env w R:=
 (EC n hs _ _ _ _ hz hp hb h).2
theorem L2 (n:Nat) (h:Run P f N k' env' w R) (hs:List Nat:=[]) (hz:wk P N w n hs (.o k ops S L env) [] true=some ⟨.c k' env',ps,b⟩:=by exact rfl) (hp:k9 ps:=by repeat' first|exact trivial|refine k9.mk ?_ ?_|exact aW|omega) (hb:b=true:=by kernel_rfl):bQ P f N k R ops S L env w:=
 (EC n hs _ _ _ _ hz hp hb h).2
theorem vu (n:Nat) (h:bQ P f N k' R ops' S' L' env' w) (hs:List Nat:=[]) (hz:wk P N w n hs (.o k ops S L env) [] true=some ⟨.o k' ops' S' L' env',ps,b⟩:=by exact rfl) (hp:k9 ps:=by repeat' first|exact trivial|refine k9.mk ?_ ?_|exact aW|omega) (hb:b=true:=by kernel_rfl):bQ P f N k R ops S L env w:=
 (EC n hs _ _ _ _ hz hp hb h).2
end
structure Tz where
 L:List (Nat×Bool)
 env:Env
 ps:List Prop
 b:Bool
def ED (P:Program) (N:Nat) (w:World) (ops:Array Oper) (S:World->Prop):Nat->List Nat->List (Nat×Bool)->Env->List Prop->Bool->Option Tz
 |0,_,L,env,ps,b=>some ⟨L,env,ps,b⟩
 |n+1,hs,(i,f)::L,env,ps,b=>match JT P N w ops S i f env hs with
  |some ⟨e,some p,q,hs'⟩=>ED P N w ops S n hs' L e (p::ps) (b&&q)
  |some ⟨e,none,q,hs'⟩=>ED P N w ops S n hs' L e ps (b&&q)
  |none=>none
 |_+1,_,[],_,_,_=>none
theorem JU {P:Program} {N:Nat} {Q:Exit->Act->World->Prop} {w:World} {ops:Array Oper} {S:World->Prop}:∀(n:Nat) (hs:List Nat) (L:List (Nat×Bool)) (env:Env) (ps:List Prop) (b:Bool) (t:Tz),ED P N w ops S n hs L env ps b=some t->k9 t.ps->t.b=true->
  bN P N Q ops S t.L t.env w->(k9 ps/\b=true)/\bN P N Q ops S L env w
 |0,hs,L,env,ps,b,t,h,hp,hb,hg=>by cases h;exact⟨⟨hp,hb⟩,hg⟩
 |n+1,hs,[],env,ps,b,t,h,hp,hb,hg=>by cases h
 |n+1,hs,(i,f)::L,env,ps,b,t,h,hp,hb,hg=>by
  unfold ED at h;split at h
  ·rename_i hr;obtain⟨⟨h1,h2⟩,h3⟩:=JU n _ _ _ _ _ _ h hp hb hg;rw[Bool.and_eq_true] at h2;exact⟨⟨h1.2,h2.1⟩,Na hr h1.1 h2.2 h3⟩
  ·rename_i hr;obtain⟨⟨h1,h2⟩,h3⟩:=JU n _ _ _ _ _ _ h hp hb hg;rw[Bool.and_eq_true] at h2;exact⟨⟨h1,h2.1⟩,Na hr trivial h2.2 h3⟩
  ·cases h
theorem ajw {P:Program} {N:Nat} {Q:Exit->Act->World->Prop} {w:World} {ops:Array Oper} {S:World->Prop} {L L':List (Nat×Bool)} {env env':Env} {ps:List Prop} {b:Bool} (n:Nat) (h:bN P N Q ops S L' env' w) (hs:List Nat:=[])
  (hz:ED P N w ops S n hs L env [] true=some ⟨L',env',ps,b⟩:=by exact rfl) (hp:k9 ps:=by repeat' first|exact trivial|refine k9.mk ?_ ?_|exact aW|omega) (hb:b=true:=by kernel_rfl):bN P N Q ops S L env w:=
 (JU n hs _ _ _ _ _ hz hp hb h).2
structure jg (P:Program) (N:Nat) (Q:Exit->Act->World->Prop) (ops:Array Oper) (S:World->Prop) (i:Nat) (b:Bool) (d:Option Nat) (op:Op) (g:Option (Nat×Bool)) (L:List (Nat×Bool)) (env:Env) (w:World):Prop where
 h:bN P N Q ops S ((i,b)::L) env w
def TA (P:Program) (N:Nat) (Q:Exit->Act->World->Prop) (ops:Array Oper) (S:World->Prop) (i:Nat) (b:Bool) (L:List (Nat×Bool)) (env:Env) (w:World):Option (Option Nat×Op×Option (Nat×Bool))->Prop
 |some (d,op,g)=>jg P N Q ops S i b d op g L env w
 |none=>bN P N Q ops S ((i,b)::L) env w
def gp (P:Program) (N:Nat) (Q:Exit->Act->World->Prop) (ops:Array Oper) (S:World->Prop):List (Nat×Bool)->Env->World->Prop
 |[],env,w=>bN P N Q ops S [] env w
 |(i,b)::L,env,w=>TA P N Q ops S i b L env w (bY ops i)
section
variable {P:Program} {N:Nat} {Q:Exit->Act->World->Prop} {ops:Array Oper} {S:World->Prop} {i t:Nat} {L:List (Nat×Bool)} {env:Env} {w:World} {v:Value} {op:Op} {g:Option (Nat×Bool)} {T:Value->World->Prop}
theorem TB:gp P N Q ops S L env w↔bN P N Q ops S L env w:=by
 cases L with
 |nil=>exact Iff.rfl
 |cons x L=>
  obtain⟨i,b⟩:=x;change TA P N Q ops S i b L env w (bY ops i)↔_;cases bY ops i with
  |none=>exact Iff.rfl
  |some y=>exact⟨λh=>h.h,λh=>⟨h⟩⟩
theorem ck (h:gp P N Q ops S L env w):bN P N Q ops S L env w:=TB.1 h
theorem nz (h:bN P N Q ops S L env w):gp P N Q ops S L env w:=TB.2 h
theorem gU (hs:MC L=true) (h:gp P N Q ops (λ_=>True) L env w):gp P N Q ops S L env w:=nz (bQ.free hs (ck h))
theorem kV (hy:∀w',S w'->cE P N env op w' v) (h:gp P N Q ops S L ((t,v)::env) w) (hop:bY ops i=some (some t,op,g):=by kernel_rfl) (hw:eo ops env g=some true:=by rfl) (ht:Nat.blt t N=true:=by rfl):
 jg P N Q ops S i true (some t) op g L env w:=⟨kL hop hw ht hy (ck h)⟩
theorem aP (hy:∀w',cE P N env op w' v) (h:gp P N Q ops S L ((t,v)::env) w) (hop:bY ops i=some (some t,op,g):=by kernel_rfl) (hw:eo ops env g=some true:=by rfl) (ht:Nat.blt t N=true:=by rfl):
 jg P N Q ops S i true (some t) op g L env w:=kV (λw' _=>hy w') h hop hw ht
theorem nF (hy:cE P N env op w v) (h:gp P N Q ops S L ((t,v)::env) w) (hS:S w:=by first|exact trivial|exact aW) (hop:bY ops i=some (some t,op,g):=by kernel_rfl) (hw:eo ops env g=some true:=by rfl) (ht:Nat.blt t N=true:=by rfl):
 jg P N Q ops S i false (some t) op g L env w:=⟨vZ hop hw ht hS hy (ck h)⟩
theorem c5 (hy:g_ P N env op w T) (h:∀v w',T v w'->S w'/\gp P N Q ops S L ((t,v)::env) w') (hop:bY ops i=some (some t,op,g):=by kernel_rfl) (hw:eo ops env g=some true:=by rfl) (ht:Nat.blt t N=true:=by rfl):
 jg P N Q ops S i false (some t) op g L env w:=⟨MU hop hw ht hy λv w' hT=>⟨(h v w' hT).1,ck (h v w' hT).2⟩⟩
theorem j7 (hy:g_ P N env op w T) (h:∀v w',T v w'->S w'/\gp P N Q ops S L env w') (hop:bY ops i=some (none,op,g):=by kernel_rfl) (hw:eo ops env g=some true:=by rfl):
 jg P N Q ops S i false none op g L env w:=⟨MV hop hw hy λv w' hT=>⟨(h v w' hT).1,ck (h v w' hT).2⟩⟩
theorem aR (hy:g_ P N env op w T) (h:∀v w',T v w'->gp P N Q ops (λ_=>True) L ((t,v)::env) w') (hop:bY ops i=some (some t,op,g):=by kernel_rfl) (hw:eo ops env g=some true:=by rfl) (ht:Nat.blt t N=true:=by rfl):
 jg P N Q ops (λ_=>True) i false (some t) op g L env w:=⟨MU hop hw ht hy λv w' hT=>⟨trivial,ck (h v w' hT)⟩⟩
theorem bM (hy:g_ P N env op w T) (h:∀v w',T v w'->gp P N Q ops (λ_=>True) L env w') (hop:bY ops i=some (none,op,g):=by kernel_rfl) (hw:eo ops env g=some true:=by rfl):
 jg P N Q ops (λ_=>True) i false none op g L env w:=⟨MV hop hw hy λv w' hT=>⟨trivial,ck (h v w' hT)⟩⟩
section
variable {gf:FuncId} {xs:Array Operand} {ts:Array TypeId} {vs:List Value}
theorem dC (gW:∀args w,(callFunc gf args).run P w=.ok (.enter gf args) w) (hc:Calls P gf vs.toArray w (aZ T)) (h:∀v w',T v w'->S w'/\gp P N Q ops S L ((t,v)::env) w') (hargs:l8 env xs.toList=some vs:=by exact rfl)
 (hop:bY ops i=some (some t,.call {callee:=.value (.func gf),args:=xs,argTypes:=ts},g):=by kernel_rfl) (hw:eo ops env g=some true:=by rfl) (ht:Nat.blt t N=true:=by rfl):
 jg P N Q ops S i false (some t) (.call {callee:=.value (.func gf),args:=xs,argTypes:=ts}) g L env w:=⟨uK hop hw ht (zk gW hargs) hc λv w' hT=>⟨(h v w' hT).1,ck (h v w' hT).2⟩⟩
theorem gl (gW:∀args w,(callFunc gf args).run P w=.ok (.enter gf args) w) (hargs:l8 env xs.toList=some vs) (hc:Calls P gf vs.toArray w (aZ T)) (h:∀v w',T v w'->S w'/\gp P N Q ops S L ((t,v)::env) w')
 (hop:bY ops i=some (some t,.call {callee:=.value (.func gf),args:=xs,argTypes:=ts},g):=by kernel_rfl) (hw:eo ops env g=some true:=by rfl) (ht:Nat.blt t N=true:=by rfl):
 jg P N Q ops S i false (some t) (.call {callee:=.value (.func gf),args:=xs,argTypes:=ts}) g L env w:=⟨uK hop hw ht (zk gW hargs) hc λv w' hT=>⟨(h v w' hT).1,ck (h v w' hT).2⟩⟩
theorem ajx (gW:∀args w,(callFunc gf args).run P w=.ok (.enter gf args) w) (hc:Calls P gf vs.toArray w (aZ T)) (h:∀v w',T v w'->S w'/\gp P N Q ops S L env w') (hargs:l8 env xs.toList=some vs:=by exact rfl)
 (hop:bY ops i=some (none,.call {callee:=.value (.func gf),args:=xs,argTypes:=ts},g):=by kernel_rfl) (hw:eo ops env g=some true:=by rfl):
 jg P N Q ops S i false none (.call {callee:=.value (.func gf),args:=xs,argTypes:=ts}) g L env w:=⟨Gu hop hw (zk gW hargs) hc λv w' hT=>⟨(h v w' hT).1,ck (h v w' hT).2⟩⟩
theorem ajy (gW:∀args w,(callFunc gf args).run P w=.ok (.enter gf args) w) (hargs:l8 env xs.toList=some vs) (hc:Calls P gf vs.toArray w (aZ T)) (h:∀v w',T v w'->S w'/\gp P N Q ops S L env w')
 (hop:bY ops i=some (none,.call {callee:=.value (.func gf),args:=xs,argTypes:=ts},g):=by kernel_rfl) (hw:eo ops env g=some true:=by rfl):
 jg P N Q ops S i false none (.call {callee:=.value (.func gf),args:=xs,argTypes:=ts}) g L env w:=⟨Gu hop hw (zk gW hargs) hc λv w' hT=>⟨(h v w' hT).1,ck (h v w' hT).2⟩⟩
theorem bD (gW:∀args w,(callFunc gf args).run P w=.ok (.enter gf args) w) (hc:Calls P gf vs.toArray w (aZ T)) (h:∀v w',T v w'->gp P N Q ops (λ_=>True) L ((t,v)::env) w') (hargs:l8 env xs.toList=some vs:=by exact rfl)
 (hop:bY ops i=some (some t,.call {callee:=.value (.func gf),args:=xs,argTypes:=ts},g):=by kernel_rfl) (hw:eo ops env g=some true:=by rfl) (ht:Nat.blt t N=true:=by rfl):
 jg P N Q ops (λ_=>True) i false (some t) (.call {callee:=.value (.func gf),args:=xs,argTypes:=ts}) g L env w:=⟨uK hop hw ht (zk gW hargs) hc λv w' hT=>⟨trivial,ck (h v w' hT)⟩⟩
theorem cz (gW:∀args w,(callFunc gf args).run P w=.ok (.enter gf args) w) (hargs:l8 env xs.toList=some vs) (hc:Calls P gf vs.toArray w (aZ T)) (h:∀v w',T v w'->gp P N Q ops (λ_=>True) L ((t,v)::env) w')
 (hop:bY ops i=some (some t,.call {callee:=.value (.func gf),args:=xs,argTypes:=ts},g):=by kernel_rfl) (hw:eo ops env g=some true:=by rfl) (ht:Nat.blt t N=true:=by rfl):
 jg P N Q ops (λ_=>True) i false (some t) (.call {callee:=.value (.func gf),args:=xs,argTypes:=ts}) g L env w:=⟨uK hop hw ht (zk gW hargs) hc λv w' hT=>⟨trivial,ck (h v w' hT)⟩⟩
theorem ajz (gW:∀args w,(callFunc gf args).run P w=.ok (.enter gf args) w) (hc:Calls P gf vs.toArray w (aZ T)) (h:∀v w',T v w'->gp P N Q ops (λ_=>True) L env w') (hargs:l8 env xs.toList=some vs:=by exact rfl)
 (hop:bY ops i=some (none,.call {callee:=.value (.func gf),args:=xs,argTypes:=ts},g):=by kernel_rfl) (hw:eo ops env g=some true:=by rfl):
 jg P N Q ops (λ_=>True) i false none (.call {callee:=.value (.func gf),args:=xs,argTypes:=ts}) g L env w:=⟨Gu hop hw (zk gW hargs) hc λv w' hT=>⟨trivial,ck (h v w' hT)⟩⟩
theorem ajA (gW:∀args w,(callFunc gf args).run P w=.ok (.enter gf args) w) (hargs:l8 env xs.toList=some vs) (hc:Calls P gf vs.toArray w (aZ T)) (h:∀v w',T v w'->gp P N Q ops (λ_=>True) L env w')
 (hop:bY ops i=some (none,.call {callee:=.value (.func gf),args:=xs,argTypes:=ts},g):=by kernel_rfl) (hw:eo ops env g=some true:=by rfl):
 jg P N Q ops (λ_=>True) i false none (.call {callee:=.value (.func gf),args:=xs,argTypes:=ts}) g L env w:=⟨Gu hop hw (zk gW hargs) hc λv w' hT=>⟨trivial,ck (h v w' hT)⟩⟩
end
def TC (op:BinOp) (m n:Int):Option Prop:=match op with
 | .lss=>some (m<n)| .leq=>some (m<=n)| .gtr=>some (n<m)| .geq=>some (n<=m)| .eql=>some (m=n)| .neq=>some (m≠n)|_=>none
def EE (env:Env):Op->Option Prop
 | .binOp op _ x y _=>match ev env x with
  |some (.int k m)=>match ev env y with
   |some (.int j n)=>match M6 k j with|true=>TC op m n|false=>none
   |_=>none
  |_=>none
 |_=>none
def Dr:Option Prop->Prop|some p=>p|none=>False
def qa:Option Prop->Prop|some p=>¬p|none=>False
theorem TD {op:Op} {p:Prop} (h:EE env op=some p):∃d:Decidable p,∀w',cE P N env op w' (.bool (@decide p d)):=by
 unfold EE at h;split at h
 ·rename_i op T x y U;split at h
  ·rename_i k m hx;split at h
   ·rename_i j n hy;split at h
    ·rename_i hk;obtain rfl:=Ti hk;cases op<;>simp only[TC] at h<;>cases h
     ·exact⟨_,λ_=>CD hx hy⟩
     ·exact⟨_,λ_=>jQ hx hy⟩
     ·exact⟨_,λ_=>jq hx hy⟩
     ·exact⟨_,λ_=>Es hx hy⟩
     ·exact⟨_,λ_=>jr hx hy⟩
     ·exact⟨_,λ_=>lH hx hy⟩
    ·cases h
   ·cases h
  ·cases h
 ·cases h
theorem dT (hp:Dr (EE env op)) (h:gp P N Q ops S L ((t,.bool true)::env) w) (hop:bY ops i=some (some t,op,g):=by kernel_rfl) (hw:eo ops env g=some true:=by rfl) (ht:Nat.blt t N=true:=by rfl):
  jg P N Q ops S i true (some t) op g L env w:=by
 cases hc:EE env op with
 |none=>rw[hc] at hp;exact hp.elim
 |some p=>rw[hc] at hp;obtain⟨d,hv⟩:=TD (P:=P) (N:=N) hc;exact aP (λw'=>i_ (hv w') hp) h hop hw ht
theorem cL (hp:qa (EE env op)) (h:gp P N Q ops S L ((t,.bool false)::env) w) (hop:bY ops i=some (some t,op,g):=by kernel_rfl) (hw:eo ops env g=some true:=by rfl) (ht:Nat.blt t N=true:=by rfl):
  jg P N Q ops S i true (some t) op g L env w:=by
 cases hc:EE env op with
 |none=>rw[hc] at hp;exact hp.elim
 |some p=>rw[hc] at hp;obtain⟨d,hv⟩:=TD (P:=P) (N:=N) hc;exact aP (λw'=>jR (hv w') hp) h hop hw ht
theorem jE (c:Int) {k:IntKind} {a:Int} {p:Option Prop} (h:gp P N Q ops S L ((t,.int k c)::env) w) (hv:pv P 0 env op=some ⟨.int k a,p,true⟩:=by exact rfl) (hp:holds p:=by first|exact trivial|omega|(refine⟨?_,?_⟩<;>omega)) (e:a=c:=by omega)
  (hop:bY ops i=some (some t,op,g):=by kernel_rfl) (hw:eo ops env g=some true:=by rfl) (ht:Nat.blt t N=true:=by rfl):jg P N Q ops S i true (some t) op g L env w:=
 aP (λw'=>e▸(M8 hv hp rfl:cE P N env op w' (.int k a))) h hop hw ht
end
section
variable {α:Type} [bn α] {P:Program} {N:Nat} {Q:Exit->Act->World->Prop} {ops:Array Oper} {S:World->Prop} {i t:Nat} {L:List (Nat×Bool)} {env:Env} {w w1:World} {v:Value} {g:Option (Nat×Bool)} {T ty:TypeId} {y z:Operand}
variable {C:Nat->Nat} {M:Nat->Prop} {I:List Nat} {x:α} {xs:List α} {b o j j':Nat} {kd:IntKind} {n:Int} {cs vs:List Value} {eV:Nat×Nat} {e1:TypeId}
def ajB (C:Nat->Nat) (I:List Nat) (w1:World):World->Prop:=λw'=>Ext (λb=>C b∈I) w1 w'
theorem ew (hr:bk w1 (aj C) x b o) (h:∀v,aq w1 (aj C) x v->gp P N Q ops (λw'=>Ext (λb=>C b∈I) w1 w') L ((t,v)::env) w) (h0:0∉I:=by first|decide|(simp<;>omega)) (ha:gH P T=some false:=by kernel_rfl) (hx:bn.agg α=false:=by rfl)
 (hy:ev env y=some (.pointer (some ⟨b,o,none⟩)):=by exact rfl) (hop:bY ops i=some (some t,.load T y,g):=by kernel_rfl) (hw:eo ops env g=some true:=by rfl) (ht:Nat.blt t N=true:=by rfl):
 jg P N Q ops (λw'=>Ext (λb=>C b∈I) w1 w') i true (some t) (.load T y) g L env w:=⟨GI hop hw ht (λw' hS=>hr.eG hS h0) hr ha hx hy λv hv=>ck (h v hv)⟩
theorem cn (hr:bk w1 (aj C) x b o) (h:∀v,aq w1 (aj C) x v->gp P N Q ops (λw'=>Ext (λb=>C b∈I) w1 w') L ((t,v)::env) w) (h0:0∉I:=by first|decide|(simp<;>omega)) (ha:gH P T=some true:=by kernel_rfl) (hs:gN P T=some (sz α):=by kernel_rfl) (hx:bn.agg α=true:=by rfl)
 (hy:ev env y=some (.pointer (some ⟨b,o,none⟩)):=by exact rfl) (hop:bY ops i=some (some t,.load T y,g):=by kernel_rfl) (hw:eo ops env g=some true:=by rfl) (ht:Nat.blt t N=true:=by rfl):
 jg P N Q ops (λw'=>Ext (λb=>C b∈I) w1 w') i true (some t) (.load T y) g L env w:=⟨dB hop hw ht (λw' hS=>hr.eG hS h0) hr ha hs hx hy λv hv=>ck (h v hv)⟩
theorem dW (hr:bk w M x b o) (h:∀v,aq w M x v->gp P N Q ops S L ((t,v)::env) w) (hS:S w:=by first|exact trivial|exact aW) (ha:gH P T=some false:=by kernel_rfl) (hx:bn.agg α=false:=by rfl)
 (hy:ev env y=some (.pointer (some ⟨b,o,none⟩)):=by exact rfl) (hop:bY ops i=some (some t,.load T y,g):=by kernel_rfl) (hw:eo ops env g=some true:=by rfl) (ht:Nat.blt t N=true:=by rfl):
 jg P N Q ops S i false (some t) (.load T y) g L env w:=⟨MX hop hw ht hS hr ha hx hy λv hv=>ck (h v hv)⟩
theorem gJ (hr:bk w M x b o) (h:∀v,aq w M x v->gp P N Q ops S L ((t,v)::env) w) (hS:S w:=by first|exact trivial|exact aW) (ha:gH P T=some true:=by kernel_rfl) (hs:gN P T=some (sz α):=by kernel_rfl) (hx:bn.agg α=true:=by rfl)
 (hy:ev env y=some (.pointer (some ⟨b,o,none⟩)):=by exact rfl) (hop:bY ops i=some (some t,.load T y,g):=by kernel_rfl) (hw:eo ops env g=some true:=by rfl) (ht:Nat.blt t N=true:=by rfl):
 jg P N Q ops S i false (some t) (.load T y) g L env w:=⟨vq hop hw ht hS hr ha hs hx hy λv hv=>ck (h v hv)⟩
theorem qT (hl:aQ w1 C j e1 v xs) (hg:cQ v b) (h:∀(hi:j'<xs.length) v,aq w1 (aj C) xs[j'] v->gp P N Q ops (λw'=>Ext (λb=>C b∈I) w1 w') L ((t,v)::env) w) (hy:ev env y=some (.pointer (some ⟨b,j'*sz α,none⟩)):=by exact rfl) (hi:j'<xs.length:=by first|omega|(simp only[fh,List.length_set,List.length_map];omega)) (hj:j∉I:=by first|decide|(simp<;>omega)) (ha:gH P T=some false:=by kernel_rfl) (hx:bn.agg α=false:=by rfl) (hop:bY ops i=some (some t,.load T y,g):=by kernel_rfl) (hw:eo ops env g=some true:=by rfl) (ht:Nat.blt t N=true:=by rfl):
  jg P N Q ops (λw'=>Ext (λb=>C b∈I) w1 w') i true (some t) (.load T y) g L env w:=by
 obtain⟨v,h2,h3⟩:=hl.load (P:=P) (N:=N) hg hi ha hx hy;exact⟨kL hop hw ht (λw' hS=>h3 w' (hl.eG hg hS hj)) (ck (h hi v h2))⟩
theorem qU (hl:aQ w1 C j e1 v xs) (hg:cQ v b) (h:∀(hi:j'<xs.length) v,aq w1 (aj C) xs[j'] v->gp P N Q ops (λw'=>Ext (λb=>C b∈I) w1 w') L ((t,v)::env) w) (hy:ev env y=some (.pointer (some ⟨b,j'*sz α,none⟩)):=by exact rfl) (hi:j'<xs.length:=by first|omega|(simp only[fh,List.length_set,List.length_map];omega)) (hj:j∉I:=by first|decide|(simp<;>omega)) (ha:gH P T=some true:=by kernel_rfl) (hs:gN P T=some (sz α):=by kernel_rfl) (hx:bn.agg α=true:=by rfl) (hop:bY ops i=some (some t,.load T y,g):=by kernel_rfl) (hw:eo ops env g=some true:=by rfl) (ht:Nat.blt t N=true:=by rfl):
  jg P N Q ops (λw'=>Ext (λb=>C b∈I) w1 w') i true (some t) (.load T y) g L env w:=by
 obtain⟨v,h2,h3⟩:=hl.Et (P:=P) (N:=N) hg hi ha hs hx hy;exact⟨kL hop hw ht (λw' hS=>h3 w' (hl.eG hg hS hj)) (ck (h hi v h2))⟩
theorem xI (hl:aQ w C j e1 v xs) (hg:cQ v b) (h:∀(hi:j'<xs.length) v,aq w (aj C) xs[j'] v->gp P N Q ops S L ((t,v)::env) w) (hy:ev env y=some (.pointer (some ⟨b,j'*sz α,none⟩)):=by exact rfl) (hi:j'<xs.length:=by first|omega|(simp only[fh,List.length_set,List.length_map];omega)) (hS:S w:=by first|exact trivial|exact aW) (ha:gH P T=some false:=by kernel_rfl) (hx:bn.agg α=false:=by rfl) (hop:bY ops i=some (some t,.load T y,g):=by kernel_rfl) (hw:eo ops env g=some true:=by rfl) (ht:Nat.blt t N=true:=by rfl):
 jg P N Q ops S i false (some t) (.load T y) g L env w:=⟨Tg hop hw ht hS hl hg hi ha hx hy λv hv=>ck (h hi v hv)⟩
theorem JV (hl:aQ w C j e1 v xs) (hg:cQ v b) (h:∀(hi:j'<xs.length) v,aq w (aj C) xs[j'] v->gp P N Q ops S L ((t,v)::env) w) (hy:ev env y=some (.pointer (some ⟨b,j'*sz α,none⟩)):=by exact rfl) (hi:j'<xs.length:=by first|omega|(simp only[fh,List.length_set,List.length_map];omega)) (hS:S w:=by first|exact trivial|exact aW) (ha:gH P T=some true:=by kernel_rfl) (hs:gN P T=some (sz α):=by kernel_rfl) (hx:bn.agg α=true:=by rfl) (hop:bY ops i=some (some t,.load T y,g):=by kernel_rfl) (hw:eo ops env g=some true:=by rfl) (ht:Nat.blt t N=true:=by rfl):
 jg P N Q ops S i false (some t) (.load T y) g L env w:=⟨nE hop hw ht hS hl hg hi ha hs hx hy λv hv=>ck (h hi v hv)⟩
def JW (P:Program) (t:TypeId):Option Nat:=match j6 P t with|some (_,n)=>some n|none=>none
theorem TE {P:Program} {t:TypeId} {n:Nat} (h:JW P t=some n):∃e,j6 P t=some (e,n):=by
 unfold JW at h;split at h
 ·rename_i e m he;cases h;exact⟨e,he⟩
 ·cases h
theorem aL (hl:aq w1 M xs v) (h:∀(hi:j'<xs.length) b o,bk w1 M xs[j'] b o->gp P N Q ops S L ((t,.pointer (some ⟨b,o,none⟩))::env) w) (hy:ev env y=some v:=by exact rfl) (hz:ev env z=some (.int kd n):=by exact rfl) (hn:n=((j':Nat):Int):=by first|exact(show(0:Int)=((0:Nat):Int) from rfl)|exact(show(1:Int)=((1:Nat):Int) from rfl)|exact rfl|exact(Int.toNat_of_nonneg af).symm) (h1:n<xs.length:=by omega) (hf:JW P ty=some (sz α):=by kernel_rfl)
  (hop:bY ops i=some (some t,.indexAddr ty y z,g):=by kernel_rfl) (hw:eo ops env g=some true:=by rfl) (ht:Nat.blt t N=true:=by rfl):jg P N Q ops S i true (some t) (.indexAddr ty y z) g L env w:=by
 subst hn;obtain⟨e,he⟩:=TE hf;have hi:j'<xs.length:=by omega
 exact⟨iS hop hw ht hl hy he hz af h1 λb o hr=>ck (h hi b o hr)⟩
theorem c6 (hl:aQ w1 C j e1 v xs) (h:∀b,cQ v b->gp P N Q ops S L ((t,.pointer (some ⟨b,j'*sz α,none⟩))::env) w) (hy:ev env y=some v:=by exact rfl) (hz:ev env z=some (.int kd n):=by exact rfl) (hn:n=((j':Nat):Int):=by first|exact(show(0:Int)=((0:Nat):Int) from rfl)|exact(show(1:Int)=((1:Nat):Int) from rfl)|exact rfl|exact(Int.toNat_of_nonneg af).symm) (h1:n<xs.length:=by first|omega|(simp only[fh,List.length_set,List.length_map];omega)) (hf:JW P ty=some (sz α):=by kernel_rfl)
  (hop:bY ops i=some (some t,.indexAddr ty y z,g):=by kernel_rfl) (hw:eo ops env g=some true:=by rfl) (ht:Nat.blt t N=true:=by rfl):jg P N Q ops S i true (some t) (.indexAddr ty y z) g L env w:=by
 subst hn;obtain⟨e,he⟩:=TE hf;obtain⟨b,h2,h3⟩:=hl.index (P:=P) (N:=N) hy he hz af h1;exact⟨kL hop hw ht (λw' _=>h3 w') (ck (h b h2))⟩
theorem bS.sz {fG:Obj} (h:bS w1 C j b fG) (hj:j∉I:=by first|decide|(simp<;>omega)):∀w',Ext (λb=>C b∈I) w1 w'->w'.heap[b]?=some fG:=λ_ hS=>h.stay hS hj
theorem di (hb:∀w',S w'->w'.heap[b]?=some (.cells cs.toArray e1 eV)) (h:gp P N Q ops S L ((t,v)::env) w) (hy:ev env y=some (.pointer (some ⟨b,o,none⟩)):=by exact rfl) (hv:cs[o]?=some v:=by exact rfl) (ha:gH P T=some false:=by kernel_rfl)
 (hop:bY ops i=some (some t,.load T y,g):=by kernel_rfl) (hw:eo ops env g=some true:=by rfl) (ht:Nat.blt t N=true:=by rfl):jg P N Q ops S i true (some t) (.load T y) g L env w:=⟨kL hop hw ht (λ_ hS=>vW (hb _ hS) ha hv hy) (ck h)⟩
theorem aX (hb:w.heap[b]?=some (.cells cs.toArray e1 eV)) (h:gp P N Q ops S L ((t,v)::env) w) (hy:ev env y=some (.pointer (some ⟨b,o,none⟩)):=by exact rfl) (hv:cs[o]?=some v:=by exact rfl) (hS:S w:=by first|exact trivial|exact aW) (ha:gH P T=some false:=by kernel_rfl)
 (hop:bY ops i=some (some t,.load T y,g):=by kernel_rfl) (hw:eo ops env g=some true:=by rfl) (ht:Nat.blt t N=true:=by rfl):jg P N Q ops S i false (some t) (.load T y) g L env w:=⟨vZ hop hw ht hS (vW hb ha hv hy) (ck h)⟩
theorem c7 (n:Nat) (vs:List Value) (hb:∀w',S w'->w'.heap[b]?=some (.cells cs.toArray e1 eV)) (h:gp P N Q ops S L ((t,.agg vs.toArray)::env) w) (hy:ev env y=some (.pointer (some ⟨b,o,none⟩)):=by exact rfl) (ha:gH P T=some true:=by kernel_rfl) (hs:gN P T=some n:=by kernel_rfl) (hv: (cs.drop o).take n=vs:=by exact rfl) (hl:vs.length=n:=by exact rfl)
 (hop:bY ops i=some (some t,.load T y,g):=by kernel_rfl) (hw:eo ops env g=some true:=by rfl) (ht:Nat.blt t N=true:=by rfl):jg P N Q ops S i true (some t) (.load T y) g L env w:=⟨kL hop hw ht (λ_ hS=>pK (hb _ hS) ha hs hv hl hy) (ck h)⟩
theorem bF (n:Nat) (vs:List Value) (hb:w.heap[b]?=some (.cells cs.toArray e1 eV)) (h:gp P N Q ops S L ((t,.agg vs.toArray)::env) w) (hy:ev env y=some (.pointer (some ⟨b,o,none⟩)):=by exact rfl) (hS:S w:=by first|exact trivial|exact aW) (ha:gH P T=some true:=by kernel_rfl) (hs:gN P T=some n:=by kernel_rfl) (hv: (cs.drop o).take n=vs:=by exact rfl) (hl:vs.length=n:=by exact rfl)
 (hop:bY ops i=some (some t,.load T y,g):=by kernel_rfl) (hw:eo ops env g=some true:=by rfl) (ht:Nat.blt t N=true:=by rfl):jg P N Q ops S i false (some t) (.load T y) g L env w:=⟨vZ hop hw ht hS (pK hb ha hs hv hl hy) (ck h)⟩
def TG (P:Program) (t:TypeId):Bool:=match P.underlying t with|some (.slice _)=>true|_=>false
theorem aq.ln (h:aq w1 M xs v):∃a c,v=.slice a xs.length c:=h.len
theorem aQ.ln (h:aQ w1 C j e1 v xs):∃a c,v=.slice a xs.length c:=h.own.len
theorem dE {n:Nat} (hl:∃a c,v=.slice a n c) (h:gp P N Q ops S L ((t,.int .i64 (n:Nat))::env) w) (hy:ev env y=some v:=by exact rfl) (hs:TG P ty=true:=by kernel_rfl)
  (hop:bY ops i=some (some t,.call {callee:=.builtin .len,args:=#[y],argTypes:=#[ty]},g):=by kernel_rfl) (hw:eo ops env g=some true:=by rfl) (ht:Nat.blt t N=true:=by rfl):jg P N Q ops S i true (some t) (.call {callee:=.builtin .len,args:=#[y],argTypes:=#[ty]}) g L env w:=by
 obtain⟨a,c,rfl⟩:=hl;unfold TG at hs;split at hs
 ·rename_i hu;exact⟨kL hop hw ht (λ_ _=>A5 hy hu) (ck h)⟩
 ·cases hs
end
section
variable {P:Program} {f:FuncId} {N:Nat} {k:List Item} {env:Env} {w:World} {R:Value->World->Prop}
def nl (L:List Nat):List (Nat×Bool):=match L with|[]=>[]|n::L=>(n/2,Nat.beq (n%2) 1)::nl L
theorem bX {id:Nat} {ops:Array Oper} (I:List Nat) (C:Nat->Nat) (L:List Nat) (hm:P.follows .mixedOrders=true) (h:∀w₁,av [] w C w₁ C->gp P N (pI P f k R) ops (λw'=>Ext (λb=>C b∈I) w₁ w') (nl L) env w₁) {c:Code} (hc:c=.region id ops true:=by exact rfl)
  (hn:Region.noSelect ops=true:=by kernel_rfl) (hk:MF ops ops.size (Array.replicate ops.size false) (nl L)=true:=by kernel_rfl):Run P f N (.code c::k) env w R:=
 B3 I C (nl L) hm hc hn hk λw₁ hs=>ck (h w₁ hs)
theorem bG {fn:Func} {c:Code} {args:List Value} (hf:P.funcs[f]?=some fn) (h:Run P f N [.code c] (CB 0 args) w R) (hb:fn.body=some c:=by exact rfl) (hN:fn.ntmps=N:=by exact rfl) (hsz:Nat.ble args.length N=true:=by kernel_rfl):Calls P f args.toArray w (aZ R):=SS args hf hb hN hsz h
theorem bg {c:Code} {fn:Func} {t:Nat} {v:Value} (hf:P.funcs[f]?=some fn) (hR:R v w) (hres:fn.results=#[.tmp t]:=by exact rfl) (hv:look env t=some v:=by exact rfl) (hc:c=.ret:=by kernel_rfl):Run P f N (.code c::k) env w R:=SP hc hf hres hv hR
end
section
variable {P:Program} {f:FuncId} {N:Nat} {k:List Item} {env env':Env} {w:World} {R:Value->World->Prop} {t:Nat} {v:Value} {kd:IntKind} {a b:Int}
theorem sb (h:Sub env' env) (hl:look env t=some v:=by exact rfl):Sub ((t,v)::env') env:=fD t hl rfl h
theorem TH (h:Sub env' env) (hl:look env t=some (.int kd a):=by exact rfl) (e:a=b:=by first|(simp;done)|omega|(simp only;omega)):Sub ((t,.int kd b)::env') env:=fD t hl (by rw[e]) h
theorem bC (h:Run P f N k env' w R) (hs:Sub env' env:=by repeat first|exact fL _|refine sb ?_|refine TH ?_):Run P f N k env w R:=h.sub hs
theorem cg {body:Code} {ι:Type} (I:ι->World->Prop) (e:ι->Env) (m:ι->Nat) (nB:ι) (h0:I nB w)
  (hr:∀x w,I x w->(∀y w',I y w'->m y<m x->Run P f N (.inLoop body::k) (e y) w' R)->Run P f N (.code body:: .inLoop body::k) (e x) w R) (hs:Sub (e nB) env:=by repeat first|exact fL _|refine sb ?_|refine TH ?_):Run P f N (.code (.loop body)::k) env w R:=
 SN I e m nB rfl hs h0 hr
end
section
variable {P:Program} {f:FuncId} {N:Nat} {R:Value->World->Prop} {w:World} {k k':List Item} {env env':Env} {ops ops':Array Oper} {S S':World->Prop} {L L':List (Nat×Bool)} {ps:List Prop} {b:Bool}
theorem aA (n:Nat) (h:gp P N (pI P f k' R) ops' S' L' env' w) (hs:List Nat:=[]) (hz:wk P N w n hs (.c k env) [] true=some ⟨.o k' ops' S' L' env',ps,b⟩:=by exact rfl) (hp:k9 ps:=by repeat' first|exact trivial|refine k9.mk ?_ ?_|exact aW|omega) (hb:b=true:=by kernel_rfl):Run P f N k env w R:=
 dN n (ck h) hs hz hp hb
theorem bh (n:Nat) (h:gp P N (pI P f k' R) ops' S' L' env' w) (hs:List Nat:=[]) (hz:wk P N w n hs (.o k ops S L env) [] true=some ⟨.o k' ops' S' L' env',ps,b⟩:=by exact rfl) (hp:k9 ps:=by repeat' first|exact trivial|refine k9.mk ?_ ?_|exact aW|omega) (hb:b=true:=by kernel_rfl):gp P N (pI P f k R) ops S L env w:=
 nz (vu n (ck h) hs hz hp hb)
theorem ah {Q:Exit->Act->World->Prop} (n:Nat) (h:gp P N Q ops S L' env' w) (hs:List Nat:=[]) (hz:ED P N w ops S n hs L env [] true=some ⟨L',env',ps,b⟩:=by exact rfl) (hp:k9 ps:=by repeat' first|exact trivial|refine k9.mk ?_ ?_|exact aW|omega) (hb:b=true:=by kernel_rfl):gp P N Q ops S L env w:=
 nz (JU n hs _ _ _ _ _ hz hp hb (ck h)).2
theorem ax (n:Nat) (h:Run P f N k' env' w R) (hs:List Nat:=[]) (hz:wk P N w n hs (.o k ops S L env) [] true=some ⟨.c k' env',ps,b⟩:=by exact rfl) (hp:k9 ps:=by repeat' first|exact trivial|refine k9.mk ?_ ?_|exact aW|omega) (hb:b=true:=by kernel_rfl):gp P N (pI P f k R) ops S L env w:=
 nz (L2 n h hs hz hp hb)
end
def Bd (n:Nat) (v v2:Value) (k m:Nat):Prop:=∃g l c c',v=.slice (some ⟨g,0,none⟩) l c/\v2=.slice (some ⟨g,k*n,none⟩) m c'
section
variable {α:Type} [bn α] {w w':World} {C aG:Nat->Nat} {P:Program} {N:Nat} {env:Env} {x y z q:Operand} {t ty e:TypeId} {v v2 u:Value} {xs:List α} {j b g n k m e':Nat}
theorem CP {kd:IntKind} {i:Int} {y:Nat} {code:BoundsCode} {w:World} (h0:0<=i) (h1:i<=y): (Instr.sliceBound (.int kd i) y code).run P w=.ok i.toNat w:=by
 simp[Instr.sliceBound,asIntOf,h0,h1]
theorem aQ.from_ (h:aQ w C j e v xs) (hy:ev env y=some v) {kd:IntKind} {i:Int} (hf:j6 P t=some (e',sz α)) (hz:ev env z=some (.int kd i)) (h0:0<=i) (h1:i<xs.length):
  ∃v2,Bd (sz α) v v2 i.toNat (xs.length-i.toNat)/\∀w',cE P N env (.slice t y (some z) none none) w' v2:=by
 obtain⟨g,cap,cs,rfl,_,_,hc,hle,_⟩:=h.xG af;refine⟨.slice (some ⟨g,i.toNat*sz α,none⟩) (xs.length-i.toNat) (cap-i.toNat),⟨g,_,_,_,rfl,rfl⟩,λw'=>mk' λρ hρ fB ho=>?_⟩;unfold j6 at hf;split at hf
 ·rename_i e1 hu;split at hf
  ·rename_i n' hn;simp only[Option.some.injEq,Prod.mk.injEq] at hf;obtain⟨rfl,rfl⟩:=hf;have hb:=CP (P:=P) (kd:=kd) (y:=xs.length) (code:=.sliceB) (w:=w') h0 af;have hne:¬cap=i.toNat:=by omega
   unfold execOp;rw[ho];simp[hρ _ _ hy,hρ _ _ hz,Instr.sliceAt,Instr.slice,Instr.sliceBounds,run_underlying hu,mW hn,hb,hne,rN]
  ·cases hf
 ·cases hf
theorem aQ.Nb (h:aQ w C j e v xs) (hy:ev env y=some v) {kd:IntKind} {i:Int} (hf:j6 P t=some (e',sz α)) (hz:ev env z=some (.int kd i)) (h0:0<=i) (h1:i<=xs.length) (hne:0<xs.length):
  ∃v2,aQ w C j e v2 (xs.take i.toNat)/\∀w',cE P N env (.slice t y none (some z) none) w' v2:=by
 obtain⟨g,cap,cs,rfl,kU,h_,hc,hle,hsz,hr⟩:=h.xG hne;have hl: (xs.take i.toNat).length=i.toNat:=by rw[List.length_take];omega
 refine⟨.slice (some ⟨g,0,none⟩) (xs.take i.toNat).length cap,⟨.inr ⟨g,cap,cs,rfl,h_,hc,by omega,hsz,λk hk=>?_⟩,h.col⟩,λw'=>mk' λρ hρ fB ho=>?_⟩
 ·rw[List.getElem_take];exact hr k af
 ·unfold j6 at hf;split at hf
  ·rename_i e1 hu;split at hf
   ·rename_i n' hn;simp only[Option.some.injEq,Prod.mk.injEq] at hf;obtain⟨rfl,rfl⟩:=hf;have hb:=CP (P:=P) (kd:=kd) (y:=cap) (code:=.sliceAcap) (w:=w') h0 af;unfold execOp;rw[ho];rw[hl];simp[hρ _ _ hy,hρ _ _ hz,Instr.sliceAt,Instr.slice,Instr.sliceBounds,run_underlying hu,mW hn,hb,rN]
   ·cases hf
  ·cases hf
theorem aq.from_ {M:Nat->Prop} (h:aq w M xs v) (hy:ev env y=some v) {kd:IntKind} {i:Int} (hf:j6 P t=some (e',sz α)) (hz:ev env z=some (.int kd i)) (h0:0<=i) (h1:i<=xs.length):
  ∃v2,aq w M (xs.drop i.toNat) v2/\∀w',cE P N env (.slice t y (some z) none none) w' v2:=by
 obtain⟨a,c,rfl,hc,hm,hs⟩:=kT.1 h;have hval:∀w',cE P N env (.slice t y (some z) none none) w' (.slice (if c=i.toNat then a else a.map (·.add (i.toNat*sz α))) (xs.length-i.toNat) (c-i.toNat)):=λw'=>mk' λρ hρ fB ho=>by
  unfold j6 at hf;split at hf
  ·rename_i e1 hu;split at hf
   ·rename_i n' hn;simp only[Option.some.injEq,Prod.mk.injEq] at hf;obtain⟨rfl,rfl⟩:=hf;have hb:=CP (P:=P) (kd:=kd) (y:=xs.length) (code:=.sliceB) (w:=w') h0 af;unfold execOp;rw[ho];simp[hρ _ _ hy,hρ _ _ hz,Instr.sliceAt,Instr.slice,Instr.sliceBounds,run_underlying hu,mW hn,hb]
   ·cases hf
  ·cases hf
 refine⟨_,?_,hval⟩;rw[<-List.length_drop];refine kT.2 ⟨_,_,rfl,by rw[List.length_drop];omega,by rw[List.length_drop];omega,?_⟩;by_cases hd:xs.drop i.toNat=[]
 ·exact .inl hd
 ·have hlt:i.toNat<xs.length:=by
   rcases Nat.lt_or_ge i.toNat xs.length with h|h
   ·exact h
   ·exact absurd (List.drop_eq_nil_of_le h) hd
  rcases hs with rfl|⟨b,o,rfl,hs⟩
  ·simp at hlt
  ·refine .inr ⟨b,o+i.toNat*sz α,?_,?_⟩
   ·rw[if_neg af];simp[rN]
   ·obtain⟨hb,cs,ty,eV,EF,hl,hr⟩:=hs;refine⟨hb,cs,ty,eV,EF,?_,λk hk=>?_⟩
    ·rw[List.length_drop];have:i.toNat*sz α+(xs.length-i.toNat)*sz α=xs.length*sz α:=by rw[<-Nat.add_mul];congr 1;omega
     omega
    ·rw[List.length_drop] at hk;have:=hr (i.toNat+k) af;rw[List.getElem_drop,show o+i.toNat*sz α+k*sz α=o+(i.toNat+k)*sz α from by rw[Nat.add_mul];omega];exact this
theorem aq.Nb {M:Nat->Prop} (h:aq w M xs v) (hy:ev env y=some v) {kd:IntKind} {i:Int} (hf:j6 P t=some (e',sz α)) (hz:ev env z=some (.int kd i)) (h0:0<=i) (h1:i<=xs.length):
  ∃v2,aq w M (xs.take i.toNat) v2/\∀w',cE P N env (.slice t y none (some z) none) w' v2:=by
 obtain⟨a,c,rfl,hc,hm,hs⟩:=kT.1 h;have hl: (xs.take i.toNat).length=i.toNat:=by rw[List.length_take];omega
 have hval:∀w',cE P N env (.slice t y none (some z) none) w' (.slice a (xs.take i.toNat).length c):=λw'=>mk' λρ hρ fB ho=>by
  unfold j6 at hf;split at hf
  ·rename_i e1 hu;split at hf
   ·rename_i n' hn;simp only[Option.some.injEq,Prod.mk.injEq] at hf;obtain⟨rfl,rfl⟩:=hf;have hb:=CP (P:=P) (kd:=kd) (y:=c) (code:=.sliceAcap) (w:=w') h0 af;have j8: (if c=0 then a else a.map (·.add 0))=a:=by
     cases a with
     |none=>simp
     |some a=>simp[Addr.add]
    unfold execOp;rw[ho,hl];simp[hρ _ _ hy,hρ _ _ hz,Instr.sliceAt,Instr.slice,Instr.sliceBounds,run_underlying hu,mW hn,hb,j8]
   ·cases hf
  ·cases hf
 refine⟨_,?_,hval⟩;refine kT.2 ⟨_,_,rfl,by omega,by omega,?_⟩;rcases hs with rfl|⟨b,o,rfl,hb,cs,ty,eV,EF,hl',hr⟩
 ·left;simp
 ·refine .inr ⟨b,o,rfl,hb,cs,ty,eV,EF,?_,λk hk=>?_⟩
  ·rw[hl];have:=Nat.mul_le_mul_right (sz α) (show i.toNat<=xs.length by omega);omega
  ·rw[List.getElem_take];exact hr k af
theorem EG {e':Nat} {kd:IntKind} {i:Int} (hs:Bd n v v2 k m) (hg:cQ v g) (hf:j6 P t=some (e',n)) (hy:ev env y=some v2) (hz:ev env z=some (.int kd i))
  (h0:0<=i) (h1:i<m):cE P N env (.indexAddr t y z) w (.pointer (some ⟨g,(k+i.toNat)*n,none⟩)):=by
 obtain⟨g',l,c,c',rfl,rfl⟩:=hs;simp only[cQ,Value.ownBlock,Option.some.injEq] at hg;subst hg;have:=MN (P:=P) (N:=N) (w:=w) hf hy hz h0 h1;rwa [<-Nat.add_mul] at this
theorem Bd.Ev (hs:Bd n v v2 k m) (hy:ev env y=some v2) {d:TypeId} (ht:P.underlying t=some (.slice d)):
  ∀w',cE P N env (.call {callee:=.builtin .len,args:=#[y],argTypes:=#[t]}) w' (.int .i64 m):=λw'=>by
 obtain⟨g',l,c,c',rfl,rfl⟩:=hs;exact A5 hy ht
theorem Bd.ln (hs:Bd n v v2 k m):∃a c,v2=.slice a m c:=by obtain⟨g',l,c,c',rfl,rfl⟩:=hs;exact⟨_,_,rfl⟩
theorem aQ.JX (h:aQ w C j e v xs) (hne:0<xs.length):∃g,cQ v g:=by
 obtain⟨g,cap,cs,rfl,_⟩:=h.xG hne;exact⟨g,rfl⟩
theorem TI {x0:α} {zs:List Value} (h:aQ w C j e v xs) (hs:Bd (sz α) v v2 k m) (hkm:k+m=xs.length) (hm:0<m) (hu:P.underlying t=some (.slice ty)) (hz:xD P ty=some zs) (h0:∀h M,rep h M x0 zs) (hy:ev env y=some v2):
  g_ P N env (.call {callee:=.builtin .clear,args:=#[y],argTypes:=#[t]}) w (λu' w'=>av [j] w C w' C/\aQ w' C j e v (xs.take k++List.replicate m x0)):=sP λρ hρ fB gO=>by
 obtain⟨g,cap,cs,rfl,kU,h_,hc,h1,h2,h3⟩:=h.xG af;obtain⟨g',l,c,c',e1,rfl⟩:=hs;simp only[Value.slice.injEq,Option.some.injEq,Addr.mk.injEq,and_true] at e1;obtain⟨rfl,rfl,rfl⟩:=e1;obtain⟨mD,nG,jv⟩:=Gl hz w;have hzl:zs.length=sz α:=bn.len (h0 w.heap (aj C));have QK:mD.cells.size=sz α:=by rw[jv];simpa using hzl
 have zo: (Builtin.zeroCells mD.cells m).toList.length=m*sz α:=by rw[Array.length_toList,size_zeroCells,QK]
 have hb: (k+m)*sz α<=cap*sz α:=Nat.mul_le_mul_right _ af;rw[Nat.add_mul] at hb;have hcell:∀i,i<m->cR (Builtin.zeroCells mD.cells m) (i*sz α) (sz α)=zs:=λi hi=>by
  have:=Tf hzl hi;rw[jv];unfold madeCells at this;unfold Builtin.zeroCells;first|exact this|(rw[List.size_toArray,hzl];exact this)|simpa[hzl] using this
 have hone:∀u∈(Builtin.zeroCells mD.cells m).toList,u.oneCell'=true:=λu MQ=>by
  obtain⟨p,hp,rfl⟩:=List.mem_iff_getElem.1 MQ;rw[zo] at hp;by_cases hs0:sz α=0
  ·rw[hs0] at hp;omega
  ·have hk:p/sz α<m:=(Nat.div_lt_iff_lt_mul af).2 hp;refine bn.one (h0 w.heap (aj C)) _ ?_;rw[<-hcell _ hk];apply List.mem_iff_getElem?.2;refine⟨p%sz α,?_⟩;have hmod:=Nat.mod_lt p (show 0<sz α by omega);simp only[cR,List.getElem?_take,if_pos hmod,List.getElem?_drop];rw[Nat.mul_comm,Nat.div_add_mod];simp[hp,zo]
 have hst:=run_storeCells_at P g (k*sz α) e (Builtin.zeroCells mD.cells m).toList 0 cs w hc (by rw[zo];omega) hone;simp only[Nat.add_zero,zo] at hst;have Nc:=MO (cs:=(List.take (k*sz α) cs.toList++(Builtin.zeroCells mD.cells m).toList++List.drop (k*sz α+m*sz α) cs.toList).toArray) hc;have zu:av [j] w C _ C:=⟨Nc.ext.mono (λb _ hb=>by rw[show b=g from hb,kU];simp),λ_ _=>rfl⟩
 have keep:∀{x:α} {vs:List Value},rep w.heap (aj C) x vs->rep _ (aj C) x vs:=λhr=>bn.keep hr (λb hb hn=>Nc.ext.block b hb (λe=>hn (by rw[show b=g from e];exact h_)));refine⟨.tuple #[],_,.inl ?_,zu,⟨.inr ⟨g,cap,_,?_,h_,Nc.at_,?_,?_,λi hi=>?_⟩,h.col⟩⟩
 ·unfold execOp;rw[gO];have hm0:m≠0:=by omega
  have hrun: (Builtin.clear_ #[t] fB.type #[.slice (some ⟨g,k*sz α,none⟩) m c']).run P w=.ok (.tuple #[]) (w.setRow g (List.take (k*sz α) cs.toList++(Builtin.zeroCells mD.cells m).toList++List.drop (k*sz α+m*sz α) cs.toList).toArray):=by
   cases m with
   |zero=>exact absurd rfl hm0
   |succ m=>simp[Builtin.clear_,run_underlying hu,nG,hst]
  simp[hρ _ _ hy,resolve,invoke,builtin,hrun]
 ·simp;omega
 ·simp;omega
 ·simp only[List.size_toArray,List.length_append,List.length_take,List.length_drop,zo,Array.length_toList];omega
 ·have nC:∀(l:List Value) (p:Nat),l.toArray[p]?=l[p]?:=λl p=>by simp
  by_cases hik:i<k
  ·have Gz:i<(xs.take k).length:=by rw[List.length_take];omega
   rw[List.getElem_append_left Gz,List.getElem_take];have fu:=Nat.mul_le_mul_right (sz α) (show i+1<=k from hik);rw[Nat.succ_mul] at fu;have hce:cR (List.take (k*sz α) cs.toList++(Builtin.zeroCells mD.cells m).toList++List.drop (k*sz α+m*sz α) cs.toList).toArray (i*sz α) (sz α)=cR cs (i*sz α) (sz α):=tD (λr hr=>by
    rw[nC,List.append_assoc,List.getElem?_append_left (by simp only[List.length_take,Array.length_toList];omega),List.getElem?_take,if_pos af,Array.getElem?_toList])
   rw[hce];exact keep (h3 i af)
  ·have jD: (xs.take k).length=k:=by rw[List.length_take];omega
   rw[List.getElem_append_right af,List.getElem_replicate];have him:i-k<m:=by simp at hi;omega
   have wo:=Nat.mul_le_mul_right (sz α) (show i-k+1<=m from him);rw[Nat.succ_mul] at wo;have ajC:i*sz α=k*sz α+(i-k)*sz α:=by rw[<-Nat.add_mul];congr 1;omega
   have hce:cR (List.take (k*sz α) cs.toList++(Builtin.zeroCells mD.cells m).toList++List.drop (k*sz α+m*sz α) cs.toList).toArray (i*sz α) (sz α)=cR (Builtin.zeroCells mD.cells m) ((i-k)*sz α) (sz α):=tD (λr hr=>by
    rw[nC,List.append_assoc,List.getElem?_append_right (by simp only[List.length_take,Array.length_toList];omega),List.getElem?_append_left (by simp only[List.length_take,Array.length_toList,zo];omega),Array.getElem?_toList];congr 1;simp only[List.length_take,Array.length_toList];omega)
   rw[hce,hcell _ him];exact h0 _ _
end
section
variable {α:Type} [bn α] {w:World} {C:Nat->Nat} {P:Program} {f:FuncId} {N:Nat} {k:List Item} {R:Value->World->Prop} {Q:Exit->Act->World->Prop} {env:Env} {ops:Array Oper} {S:World->Prop} {i t:Nat} {L:List (Nat×Bool)} {v v2:Value} {y z:Operand} {iG:Option (Nat×Bool)} {ty e e':TypeId} {xs:List α} {j g:Nat} {kd:IntKind} {n:Int}
theorem JY (hop:bY ops i=some (some t,.slice ty y (some z) none none,iG)) (hw:eo ops env iG=some true) (ht:Nat.blt t N=true) (hl:aQ w C j e v xs) (hy:ev env y=some v)
  (hf:j6 P ty=some (e',sz α)) (hz:ev env z=some (.int kd n)) (h0:0<=n) (h1:n<xs.length)
  (h:∀v2,Bd (sz α) v v2 n.toNat (xs.length-n.toNat)->bN P N Q ops S L ((t,v2)::env) w):bN P N Q ops S ((i,true)::L) env w:=by
 obtain⟨v2,h2,h3⟩:=hl.from_ (P:=P) (N:=N) hy hf hz h0 h1;exact kL hop hw ht (λw' _=>h3 w') (h v2 h2)
theorem Nf (hop:bY ops i=some (some t,.slice ty y none (some z) none,iG)) (hw:eo ops env iG=some true) (ht:Nat.blt t N=true) (hl:aQ w C j e v xs) (hy:ev env y=some v)
  (hf:j6 P ty=some (e',sz α)) (hz:ev env z=some (.int kd n)) (h0:0<=n) (h1:n<=xs.length) (hne:0<xs.length)
  (h:∀v2,aQ w C j e v2 (xs.take n.toNat)->bN P N Q ops S L ((t,v2)::env) w):bN P N Q ops S ((i,true)::L) env w:=by
 obtain⟨v2,h2,h3⟩:=hl.Nb (P:=P) (N:=N) hy hf hz h0 h1 hne;exact kL hop hw ht (λw' _=>h3 w') (h v2 h2)
theorem JZ {M:Nat->Prop} (hop:bY ops i=some (some t,.slice ty y (some z) none none,iG)) (hw:eo ops env iG=some true) (ht:Nat.blt t N=true) (hl:aq w M xs v) (hy:ev env y=some v)
  (hf:j6 P ty=some (e',sz α)) (hz:ev env z=some (.int kd n)) (h0:0<=n) (h1:n<=xs.length)
  (h:∀v2,aq w M (xs.drop n.toNat) v2->bN P N Q ops S L ((t,v2)::env) w):bN P N Q ops S ((i,true)::L) env w:=by
 obtain⟨v2,h2,h3⟩:=hl.from_ (P:=P) (N:=N) hy hf hz h0 h1;exact kL hop hw ht (λw' _=>h3 w') (h v2 h2)
theorem Be {M:Nat->Prop} (hop:bY ops i=some (some t,.slice ty y none (some z) none,iG)) (hw:eo ops env iG=some true) (ht:Nat.blt t N=true) (hl:aq w M xs v) (hy:ev env y=some v)
  (hf:j6 P ty=some (e',sz α)) (hz:ev env z=some (.int kd n)) (h0:0<=n) (h1:n<=xs.length)
  (h:∀v2,aq w M (xs.take n.toNat) v2->bN P N Q ops S L ((t,v2)::env) w):bN P N Q ops S ((i,true)::L) env w:=by
 obtain⟨v2,h2,h3⟩:=hl.Nb (P:=P) (N:=N) hy hf hz h0 h1;exact kL hop hw ht (λw' _=>h3 w') (h v2 h2)
end
section
variable {P:Program} {f:FuncId} {N:Nat} {k:List Item} {env:Env} {w:World} {R:Value->World->Prop} {Q:Exit->Act->World->Prop}
theorem Ng {b Bf:Nat} {cs:List Value} {eV:Nat×Nat} {ty n:Nat} (hc:w.heap[b]?=some (.cells cs.toArray Bf eV)) (ha:gH P ty=some true) (hs:gN P ty=some n) (hl:cs.length=n):
  (loadVar ty ⟨b,0,none⟩).run P w=.ok (.agg cs.toArray) w:=by
 have hcells: (loadCells ⟨b,0,none⟩ n).run P w=.ok cs.toArray w:=by
  have:=run_loadCells_list (P:=P) w ⟨b,0,none⟩ cs (λj u hu=>by
   rw[rN,cell_of_row w b (0+j) cs.toArray Bf eV hc];rw[<-hu];simp)
  rwa [hl] at this
 simp only[loadCells] at hcells;simp[loadVar,uJ ha,mW hs,loadCells,hcells]
theorem rS {c:Code} {fn:Func} {a ty b:Nat} {Bf:Nat} {cs:List Value} {eV:Nat×Nat} {n:Nat} (hc:c=.ret) (hf:P.funcs[f]?=some fn) (hres:fn.results=#[.cell a ty]) (hv:look env a=some (.pointer (some ⟨b,0,none⟩)))
  (hb:w.heap[b]?=some (.cells cs.toArray Bf eV)) (ha:gH P ty=some true) (hs:gN P ty=some n) (hl:cs.length=n)
  (hR:R (.agg cs.toArray) w):Run P f N (.code c::k) env w R:=λa' j8=>by
 subst hc;refine Cx hf j8.defers ?_ hR;have h1:=j8.slot a _ hv;have h2:=Ng hb ha hs hl;simp only[results,hres];simp[h1,Array.getD_eq_getD_getElem?,asAddr,h2]
theorem kM {c:Code} {fn:Func} {a ty b u:Nat} {x:Value} {Bf:Nat} {cs:List Value} {eV:Nat×Nat} {n:Nat} (hc:c=.ret) (hf:P.funcs[f]?=some fn) (hres:fn.results=#[.cell a ty,.tmp u]) (hv:look env a=some (.pointer (some ⟨b,0,none⟩)))
  (hx:look env u=some x) (hb:w.heap[b]?=some (.cells cs.toArray Bf eV)) (ha:gH P ty=some true) (hs:gN P ty=some n) (hl:cs.length=n)
  (hR:R (.tuple #[.agg cs.toArray,x]) w):Run P f N (.code c::k) env w R:=λa' j8=>by
 subst hc;refine Cx hf j8.defers ?_ hR;have h1:=j8.slot a _ hv;have h3:=j8.slot u _ hx;have h2:=Ng hb ha hs hl;simp only[results,hres];simp[h1,h3,Array.getD_eq_getD_getElem?,asAddr,h2]
end
section
variable {P:Program} {N:Nat} {env:Env} {w:World} {x y:Operand} {t u:TypeId} {m n r:Int}
theorem Nh (hx:ev env x=some (.int .i64 m)) (hy:ev env y=some (.int .i64 n)) (ht:P.underlying t=some (.int .i64)):
  cE P N env (.call {callee:=.builtin .max,args:=#[x,y],argTypes:=#[t,t]}) w (.int .i64 (max m n)):=mk' λρ hρ o ho=>by
 unfold execOp;rw[ho];simp[hρ _ _ hx,hρ _ _ hy,go_sem,resolve,invoke,builtin,Builtin.max_,Builtin.max2];by_cases h:m<n
 ·rw[if_pos h];exact(Int.max_eq_right af).symm
 ·rw[if_neg h];exact(Int.max_eq_left af).symm
theorem RM (hx:ev env x=some (.int .i64 m)) (hy:ev env y=some (.int .i64 n)) (ht:P.underlying t=some (.int .i64)):
  cE P N env (.call {callee:=.builtin .min,args:=#[x,y],argTypes:=#[t,t]}) w (.int .i64 (min m n)):=mk' λρ hρ o ho=>by
 unfold execOp;rw[ho];simp[hρ _ _ hx,hρ _ _ hy,go_sem,resolve,invoke,builtin,Builtin.min_,Builtin.min2];by_cases h:n<m
 ·rw[if_pos h];exact(Int.min_eq_right af).symm
 ·rw[if_neg h];exact(Int.min_eq_left af).symm
end
section
variable {P:Program} {f:FuncId} {N:Nat} {k:List Item} {env:Env} {w:World} {R:Value->World->Prop} {Q:Exit->Act->World->Prop}
theorem rT {fn:Func} (hf:P.funcs[f]?=some fn) (hres:fn.results=#[]) (hR:R (.tuple #[]) w):Run P f N [] env w R:=λa ha cs=>
 ⟨.tuple #[],w,_,hR,.one step_end,rfl,rfl,ha.defers,rfl,fn,hf,by simp[results,hres,Sem.run,pure]⟩
theorem Bg {fn:Fn} {xs ys:Array Operand} {us vs:List Value} (hx:l8 env xs.toList=some us) (hy:l8 env ys.toList=some vs):
  cE P N env (.makeFunc fn xs ys) w (.func fn us.toArray vs.toArray):=λa ha o ho=>by
 have h1:xs.map a.eval=us.toArray:=by rw[<-ha.l8 hx,<-List.map_toArray]
 have h2:ys.map a.eval=vs.toArray:=by rw[<-ha.l8 hy,<-List.map_toArray]
 unfold execOp;rw[ho];simp only[h1,h2];rfl
end
def zw (P:Program) (t:TypeId) {dw:Type} [DecidableEq dw] (kv:dw->Value):Prop:=
 ∀d a b w,(Op.equalIn (d+8) t (kv a) (kv b)).run P w=.ok (decide (a=b)) w
structure xJ (P:Program) (t:TypeId) {dw:Type} [DecidableEq dw] (kv:dw->Value):Prop where
 check:∀e k w,(Instr.checkKey e 10000 t (kv k)).run P w=.ok () w
 find:∀k (es:List MapEntry) (ks:List dw) w,es.map (·.key)=ks.map kv->
  (Instr.findKey t (kv k) es).run P w=.ok ((ks.findIdx? (λx=>decide (x=k))).bind λi=>(es[i]?).map λe=>(i,e.val)) w
 bits:∀k,Instr.sameBits 10000 (kv k) (kv k)=true
 inj:∀a b,kv a=kv b->a=b
theorem QT {kind:TypeDesc} {dw:Type} [DecidableEq dw] {kv:dw->Value} (hs:∀a b,Instr.sameNow kind (kv a) (kv b)=some (decide (a=b))) (k:dw):
  ∀(es:List MapEntry) (ks:List dw) (n:Nat),es.map (·.key)=ks.map kv->
   Instr.findNow kind (kv k) es n=some ((ks.findIdx? (λx=>decide (x=k))).bind λi=>(es[i]?).map λe=>(n+i,e.val))
 |[],[],n,_=>by simp[Instr.findNow]
 |[],_::_,n,h=>by simp at h
 |_::_,[],n,h=>by simp at h
 |e::es,x::ks,n,h=>by
  simp only[List.map_cons,List.cons.injEq] at h;obtain⟨h1,h2⟩:=h;unfold Instr.findNow;rw[h1,hs];by_cases hx:k=x
  ·subst hx;simp[List.findIdx?_cons]
  ·simp only[hx,decide_false];rw[QT hs k es ks (n+1) h2,List.findIdx?_cons];have:¬x=k:=λe=>hx e.symm;simp only[this,decide_false,Bool.false_eq_true,if_false];cases ks.findIdx? (λx=>decide (x=k)) with
   |none=>rfl
   |some i=>simp[Nat.add_assoc,Nat.add_comm 1]
theorem TJ {P:Program} {t:TypeId} {dw:Type} [DecidableEq dw] {kv:dw->Value} (heq:zw P t kv) (k:dw) (w:World):
  ∀(es:List MapEntry) (ks:List dw) (n:Nat),es.map (·.key)=ks.map kv->
   (Instr.findAsking t (kv k) es n).run P w=.ok ((ks.findIdx? (λx=>decide (x=k))).bind λi=>(es[i]?).map λe=>(n+i,e.val)) w
 |[],[],n,_=>by simp[Instr.findAsking]
 |[],_::_,n,h=>by simp at h
 |_::_,[],n,h=>by simp at h
 |e::es,x::ks,n,h=>by
  simp only[List.map_cons,List.cons.injEq] at h;obtain⟨h1,h2⟩:=h;unfold Instr.findAsking Op.equal;rw[h1,Sem.run_bind,show Op.maxDepth=9992+8 from rfl,heq];simp only[Result.andThen_ok];by_cases hx:k=x
  ·subst hx;simp[List.findIdx?_cons]
  ·simp only[hx,decide_false,Bool.false_eq_true,if_false];rw[TJ heq k w es ks (n+1) h2,List.findIdx?_cons];have:¬x=k:=λe=>hx e.symm;simp only[this,decide_false,Bool.false_eq_true,if_false];cases ks.findIdx? (λx=>decide (x=k)) with
   |none=>rfl
   |some i=>simp[Nat.add_assoc,Nat.add_comm 1]
theorem TK {P:Program} {t:TypeId} {fs:Array Field} {dw:Type} [DecidableEq dw] {kv:dw->Value} (h:P.underlying t=some (.struct fs)) (heq:zw P t kv)
  (hc:∀e k w,(Instr.checkKey e 10000 t (kv k)).run P w=.ok () w) (hb:∀k,Instr.sameBits 10000 (kv k) (kv k)=true) (hi:∀a b,kv a=kv b->a=b):xJ P t kv where
 check:=hc
 find k es ks w hk:=by
  rw[run_findKey_eq w (by rw[h]) (kv k) es];simpa using TJ heq k w es ks 0 hk
 bits:=hb
 inj:=hi
section
variable {dw β:Type} [DecidableEq dw]
def eM:List (dw×β)->dw->Option β
 |[],_=>none
 |(x,v)::m,k=>if x=k then some v else eM m k
def ig:List (dw×β)->dw->β->List (dw×β)
 |[],k,v=>[(k,v)]
 |(x,u)::m,k,v=>if x=k then(k,v)::m else(x,u)::ig m k v
def keys (m:List (dw×β)):List dw:=m.map (·.1)
theorem n_ (m:List (dw×β)) (k:dw) (v:β) (j:dw):eM (ig m k v) j=if k=j then some v else eM m j:=by
 induction m with
 |nil=>simp[ig,eM]
 |cons p m ih=>
  obtain⟨x,u⟩:=p;unfold ig;split
  ·rename_i h;subst h;simp only[eM];split<;>rfl
  ·rename_i h;simp only[eM,ih];by_cases h1:x=j
   ·subst h1;rw[if_pos rfl,if_neg (λe=>h e.symm),if_pos rfl]
   ·rw[if_neg h1,if_neg h1]
theorem Dd (m:List (dw×β)) (k:dw) (v:β) (j:dw):j∈keys (ig m k v)↔j=k\/j∈keys m:=by
 induction m with
 |nil=>simp[ig,keys]
 |cons p m ih=>
  obtain⟨x,u⟩:=p;unfold ig;split
  ·rename_i h;subst h;simp[keys]
  ·simp only[keys,List.map_cons,List.mem_cons] at ih⊢;rw[ih];constructor
   ·rintro(h|h|h)
    ·exact .inr (.inl h)
    ·exact .inl h
    ·exact .inr (.inr h)
   ·rintro(h|h|h)
    ·exact .inr (.inl h)
    ·exact .inl h
    ·exact .inr (.inr h)
theorem GR {m:List (dw×β)} (h: (keys m).Nodup) (k:dw) (v:β): (keys (ig m k v)).Nodup:=by
 induction m with
 |nil=>simp[ig,keys]
 |cons p m ih=>
  obtain⟨x,u⟩:=p;unfold ig;simp only[keys,List.map_cons,List.nodup_cons] at h;split
  ·rename_i hx;subst hx;simpa[keys] using h
  ·rename_i hx;simp only[keys,List.map_cons,List.nodup_cons];refine⟨λhm=>?_,ih h.2⟩;rcases(Dd m k v x).1 hm with e|e
   ·exact hx e
   ·exact h.1 e
theorem TM (m:List (dw×β)) (k:dw): ((keys m).findIdx? (λx=>decide (x=k))).bind (λi=>(m[i]?).map (·.2))=eM m k:=by
 induction m with
 |nil=>simp[eM,keys]
 |cons p m ih=>
  obtain⟨x,u⟩:=p;simp only[eM,keys,List.map_cons,List.findIdx?_cons] at ih⊢;split
  ·rename_i h;rw[if_pos (by simpa using h)];simp
  ·rename_i h;rw[if_neg (by simpa using h),<-ih];cases (m.map (·.1)).findIdx? (λx=>decide (x=k))<;>simp
theorem TN {m:List (dw×β)} {k:dw} (h: (keys m).findIdx? (λx=>decide (x=k))=none) (v:β):ig m k v=m++[(k,v)]:=by
 induction m with
 |nil=>rfl
 |cons p m ih=>
  obtain⟨x,u⟩:=p;simp only[keys,List.map_cons,List.findIdx?_cons] at h;split at h
  ·cases h
  ·rename_i hx;simp only[Option.map_eq_none_iff] at h;unfold ig;rw[if_neg (by simpa using hx),ih h];rfl
theorem bE {m:List (dw×β)} {k:dw} {i:Nat} (h: (keys m).findIdx? (λx=>decide (x=k))=some i):∃u,m[i]?=some (k,u):=by
 obtain⟨hlt,h1,_⟩:=List.findIdx?_eq_some_iff_getElem.1 h;simp only[keys,List.getElem_map,decide_eq_true_eq] at h1;simp only[keys,List.length_map] at hlt;exact⟨m[i].2,by rw[List.getElem?_eq_getElem hlt,<-h1]⟩
theorem bL {m:List (dw×β)} {k:dw} {i:Nat} (h: (keys m).findIdx? (λx=>decide (x=k))=some i) (v:β):ig m k v=m.set i (k,v)/\∃u,m[i]?=some (k,u):=by
 induction m generalizing i with
 |nil=>simp[keys] at h
 |cons p m ih=>
  obtain⟨x,u⟩:=p;simp only[keys,List.map_cons,List.findIdx?_cons] at h;unfold ig;split at h
  ·rename_i hx;simp only[Option.some.injEq] at h;subst h;have hx':x=k:=by simpa using hx
   subst hx';rw[if_pos rfl];exact⟨rfl,u,rfl⟩
  ·rename_i hx;simp only[Option.map_eq_some_iff] at h;obtain⟨j,hj,rfl⟩:=h;obtain⟨h1,u',h2⟩:=ih hj;rw[if_neg (by simpa using hx),h1];exact⟨rfl,u',by simpa using h2⟩
end
section
variable {dw β:Type} [DecidableEq dw] {kv:dw->Value} {cW:β->Value} {m:List (dw×β)}
structure uL (kv:dw->Value) (cW:β->Value) (m:List (dw×β)) (es:Array MapEntry) (clock:Nat):Prop where
 key:es.toList.map (·.key)=(keys m).map kv
 val:es.toList.map (·.val)=m.map (λp=>cW p.2)
 nodup: (keys m).Nodup
 born:∀e∈es.toList,e.born<clock
 Ni:es.toList.Pairwise (λa b=>a.born<b.born)
def fH (w:World) (C:Nat->Nat) (j b:Nat) (kv:dw->Value) (cW:β->Value) (m:List (dw×β)):Prop:=
 C b=j/\∃es clock,w.heap[b]?=some (.map es clock)/\uL kv cW m es clock
def pM (w:World) (M:Nat->Prop) (kv:dw->Value) (cW:β->Value) (m:List (dw×β)) (v:Value):Prop:=
 ∃b,v=.map (some b)/\¬M b/\∃es clock,w.heap[b]?=some (.map es clock)/\uL kv cW m es clock
variable {w w':World} {I:List Nat} {C aG:Nat->Nat} {j b n:Nat} {v:Value}
theorem fH.st (h:fH w C j b kv cW m) (hs:av I w C w' aG) (hj:j∉I):fH w' aG j b kv cW m:=by
 obtain⟨hc,es,clock,hb,hm⟩:=h;exact⟨(hs.col b (tC hb)).trans hc,es,clock,hs.ext.xB hb (by rw[hc];exact hj),hm⟩
theorem pM.st (h:pM w (aj C) kv cW m v) (hs:av I w C w' aG) (h0:0∉I):pM w' (aj aG) kv cW m v:=by
 obtain⟨b,e,hn,es,clock,hb,hm⟩:=h;have hc:C b=0:=by by_cases hz:C b=0;exact hz;exact absurd hz hn
 refine⟨b,e,?_,es,clock,hs.ext.xB hb (by rw[hc];exact h0),hm⟩;unfold aj;rw[hs.col b (tC hb)];exact hn
theorem fH.t (h:fH w C j b kv cW m) (hs:av I w C w' aG) (hj:j∉I:=by first|decide|(simp<;>omega)):fH w' aG j b kv cW m:=h.st hs hj
theorem fH.mv (h:fH w C j b kv cW m) (hs:av I w C w' aG:=by exact pL) (hj:j∉I:=by first|decide|(simp<;>omega)):fH w' aG j b kv cW m:=h.st hs hj
theorem pM.t (h:pM w (aj C) kv cW m v) (hs:av I w C w' aG) (h0:0∉I:=by first|decide|(simp<;>omega)):pM w' (aj aG) kv cW m v:=h.st hs h0
theorem pM.mv (h:pM w (aj C) kv cW m v) (hs:av I w C w' aG:=by exact pL) (h0:0∉I:=by first|decide|(simp<;>omega)):pM w' (aj aG) kv cW m v:=h.st hs h0
theorem fH.out {w₀:World} {lI D:Nat->Nat} (h:fH w' aG j b kv cW m) (hs:av I w₀ D w' aG) (hF:aF w₀ lI) (hD:aj D=aj lI) (hj:∀b,b<w₀.heap.size->D b≠j):pM w' (aj lI) kv cW m (.map (some b)):=by
 obtain⟨hc,r⟩:=h;refine⟨b,rfl,λhm=>?_,r⟩;obtain⟨h1,h2,h3⟩:=hs.MW hF hD b hm;exact hj b h1 (by rw[<-h2];exact hc)
variable {P:Program} {N:Nat} {env:Env} {x y z q:Operand} {t kt et:TypeId}
theorem TP {es:Array MapEntry} {clock:Nat} (hm:uL kv cW m es clock) (k:dw):
  ((keys m).findIdx? (λx=>decide (x=k))).bind (λi=>(es.toList[i]?).map λe=>(i,e.val))=
   ((keys m).findIdx? (λx=>decide (x=k))).bind (λi=>(m[i]?).map λp=>(i,cW p.2)):=by
 cases (keys m).findIdx? (λx=>decide (x=k)) with
 |none=>rfl
 |some i=>
  simp only[Option.bind_some];have h1: (es.toList.map (·.val))[i]?=(m.map (λp=>cW p.2))[i]?:=by rw[hm.val]
  simp only[List.getElem?_map] at h1;cases h2:es.toList[i]? with
  |none=>rw[h2] at h1;cases h3:m[i]? with
   |none=>rfl
   |some p=>rw[h3] at h1;cases h1
  |some e=>rw[h2] at h1;cases h3:m[i]? with
   |none=>rw[h3] at h1;cases h1
   |some p=>rw[h3] at h1;simp only[Option.map_some,Option.some.injEq] at h1⊢;rw[h1]
theorem ajD {es:Array MapEntry} {clock:Nat} (ht:P.underlying t=some (.map kt et)) (hk:xJ P kt kv) {z0:β} (hz:xD P et=some [cW z0]) (hagg:∀z:Value,z.cells=#[cW z0]->z=cW z0)
  (hb:w.heap[b]?=some (.map es clock)) (hm:uL kv cW m es clock) (k:dw) (ok:Bool):
  (Instr.lookup t (.map (some b)) (kv k) ok).run P w=.ok (if ok then .tuple #[cW ((eM m k).getD z0),.bool (eM m k).isSome] else cW ((eM m k).getD z0)) w:=by
 obtain⟨mD,h1,h2⟩:=Gl hz w;have h3:=hagg mD (by simpa using h2);subst h3;have hf:=hk.find k es.toList (keys m) w hm.key;rw[TP hm] at hf;have hg:=TM m k;have nC: (getObj b).run P w=.ok (.map es clock) w:=by simp[getObj,Sem.run,hb]
 unfold Instr.lookup;simp only[Sem.run_bind,run_underlying ht,Result.andThen_ok,nC,Sem.run_pure,hk.check,hf];cases hi: (keys m).findIdx? (λx=>decide (x=k)) with
 |none=>
  rw[hi] at hg;simp only[Option.bind_none] at hg⊢;simp only[Sem.run_bind,h1,Result.andThen_ok,Sem.run_pure,<-hg];cases ok<;>rfl
 |some i=>
  rw[hi] at hg;simp only[Option.bind_some] at hg⊢;cases hp:m[i]? with
  |none=>
   have:=(List.findIdx?_eq_some_iff_getElem.1 hi).1;simp only[keys,List.length_map] at this;rw[List.getElem?_eq_none_iff] at hp;omega
  |some p=>
   rw[hp] at hg;simp only[Option.map_some] at hg⊢;simp only[Sem.run_pure,Result.andThen_ok,<-hg];cases ok<;>rfl
end
section
variable {dw β:Type} [DecidableEq dw] {kv:dw->Value} {cW:β->Value} {m:List (dw×β)} {es:Array MapEntry} {clock:Nat}
theorem uL.push (h:uL kv cW m es clock) {k:dw} (hk: (keys m).findIdx? (λx=>decide (x=k))=none) (x:β):
  uL kv cW (ig m k x) (es.push {key:=kv k,val:=cW x,born:=clock}) (clock+1) where
 key:=by rw[TN hk];simp[keys,h.key]
 val:=by rw[TN hk];simp[h.val]
 nodup:=GR h.nodup k x
 born e he:=by
  simp only[Array.toList_push,List.mem_append,List.mem_singleton] at he;rcases he with he|rfl
  ·have:=h.born e he;omega
  ·exact Nat.lt_succ_self _
 Ni:=by
  rw[Array.toList_push,List.pairwise_append];refine⟨h.Ni,List.pairwise_singleton _ _,λa ha b hb=>?_⟩;simp only[List.mem_singleton] at hb;subst hb;exact h.born a ha
theorem TQ {γ:Type} (f:MapEntry->γ) (g:MapEntry->MapEntry) (i:Nat) (l:List MapEntry) (hg:∀e,l[i]?=some e->f (g e)=f e): (l.modify i g).map f=l.map f:=by
 apply List.ext_getElem?;intro j;simp only[List.getElem?_map,List.getElem?_modify];cases hj:l[j]? with
 |none=>rfl
 |some e=>
  simp only[Option.map_some];split
  ·rename_i h;subst h;simp[hg e hj]
  ·simp
theorem uL.modify (h:uL kv cW m es clock) {k:dw} {i:Nat} (hk: (keys m).findIdx? (λx=>decide (x=k))=some i) (x:β):
  uL kv cW (ig m k x) (es.modify i λe=>{e with key:=kv k,val:=cW x}) clock:=by
 obtain⟨h1,u,h2⟩:=bL hk x;have hkeys:keys (ig m k x)=keys m:=by
  rw[h1];apply List.ext_getElem?;intro j;simp only[keys,List.getElem?_map,List.getElem?_set];split
  ·rename_i e;subst e;split
   ·rw[h2];rfl
   ·rename_i hlt;rw[List.getElem?_eq_none af]
  ·rfl
 have hmem:∀e,e∈(es.modify i λe=>{e with key:=kv k,val:=cW x}).toList->∃e'∈es.toList,e'.born=e.born:=λe he=>by
  rw[Array.toList_modify] at he;obtain⟨j,hj⟩:=List.mem_iff_getElem?.1 he;rw[List.getElem?_modify] at hj;cases hjj:es.toList[j]? with
  |none=>rw[hjj] at hj;cases hj
  |some e'=>
   rw[hjj] at hj;refine⟨e',List.mem_of_getElem? hjj,?_⟩;simp only[Option.map_eq_map,Option.map_some,Option.some.injEq] at hj;split at hj<;>subst hj<;>rfl
 refine⟨?_,?_,by rw[hkeys];exact h.nodup,λe he=>?_,?_⟩
 ·rw[Array.toList_modify,hkeys,<-h.key];refine TQ _ _ _ _ (λe he=>?_);have: (es.toList.map (·.key))[i]?=((keys m).map kv)[i]?:=by rw[h.key]
  simp only[List.getElem?_map,he,Option.map_some,keys,h2] at this;simpa using this.symm
 ·rw[Array.toList_modify,h1];apply List.ext_getElem?;intro j;have hval: (es.toList.map (·.val))[j]?=(m.map (λp=>cW p.2))[j]?:=by rw[h.val]
  simp only[List.getElem?_map] at hval;simp only[List.getElem?_map,List.getElem?_modify,List.getElem?_set];by_cases hij:i=j
  ·subst hij;have hlt:i<m.length:=(List.getElem?_eq_some_iff.1 h2).1;rw[h2] at hval;cases he:es.toList[i]? with
   |none=>rw[he] at hval;cases hval
   |some e=>simp[hlt]
  ·simp only[if_neg hij,Option.map_id',id_eq];simpa using hval
 ·obtain⟨e',he',hb⟩:=hmem e he;rw[<-hb];exact h.born e' he'
 ·rw[Array.toList_modify];have hp: (es.toList.map (·.born)).Pairwise (·<·):=by rw[List.pairwise_map];exact h.Ni
  have hq: ((es.toList.modify i λe=>{e with key:=kv k,val:=cW x}).map (·.born)).Pairwise (·<·):=by
   rw[TQ (λe=>e.born) (λe=>{e with key:=kv k,val:=cW x}) i es.toList (λe _=>rfl)];exact hp
  rw[List.pairwise_map] at hq;exact hq
variable {w w':World} {I:List Nat} {C aG:Nat->Nat} {M:Nat->Prop} {j b n:Nat} {v:Value} {P:Program} {N:Nat} {env:Env} {x y z q:Operand} {t kt et:TypeId}
theorem TR {o o':Obj} (hb:w.heap[b]?=some o) (hno:∀c e f,o≠ .cells c e f): (setObj b o').run P w=.ok () {w with heap:=w.heap.setIfInBounds b o'}:=by
 unfold setObj Sem.run;rw[hb];cases o with
 |cells c e f=>exact absurd rfl (hno c e f)
 |_=>rfl
theorem TT {o:Obj} (o':Obj) (hb:w.heap[b]?=some o):CH w {w with heap:=w.heap.setIfInBounds b o'} b o':=by
 have hlt:=tC hb;refine⟨⟨rfl,rfl,rfl,by simp,λc _ hc=>?_,oA.refl rfl⟩,?_,by simp⟩
 ·simp only[Array.getElem?_setIfInBounds];rw[if_neg (λe=>hc e.symm)]
 ·simp[Array.getElem?_setIfInBounds,hlt]
theorem TU {o o':Obj} (h:CH w w' b o') (hc:C b=j):av [j] w C w' C:=⟨h.ext.mono (λc _ hcb=>by rw[show c=b from hcb,hc];simp),λ_ _=>rfl⟩
theorem bB (h:uL kv cW m es clock) {k:dw} {i:Nat} (hk: (keys m).findIdx? (λx=>decide (x=k))=some i): (es[i]?).map (·.key)=some (kv k):=by
 obtain⟨u,h2⟩:=bE hk;have: (es.toList.map (·.key))[i]?=((keys m).map kv)[i]?:=by rw[h.key]
 simp only[List.getElem?_map,keys,h2,Option.map_some] at this;rw[<-this];simp
theorem CQ (hF:aF w C) (j:Nat) (kv:dw->Value) (cW:β->Value):g_ P N env (.makeMap t none) w (λv w'=>∃aG b,v=.map (some b)/\av [] w C w' aG/\fH w' aG j b kv cW []/\aF w' aG):=sP λρ hρ o ho=>by
 have hn:=zj w (.map #[] 0);obtain⟨aG,h1,h2,h3⟩:=hn.own hF j;refine⟨.map (some w.heap.size),w.alloc (.map #[] 0),.inl ?_,aG,_,rfl,h1,⟨h2.col,#[],0,h2.at_,⟨rfl,rfl,by simp[keys],λe he=>by simp at he,by simp⟩⟩,h3⟩;unfold execOp;rw[ho];simp[go_sem,Instr.makeMap]
variable {z0:β}
def GA (P:Program) (et:TypeId) (v:Value):Prop:=∀w,(zeroValue et).run P w=.ok v w
theorem J1 (ht:P.underlying t=some (.map kt et)) (hk:xJ P kt kv) (hz:GA P et (cW z0)) (hb:w.heap[b]?=some (.map es clock)) (hm:uL kv cW m es clock) {k:dw} {ok:Bool}
  (hx:ev env x=some (.map (some b))) (hy:ev env y=some (kv k)):
  cE P N env (.lookup t x y ok) w (if ok then .tuple #[cW ((eM m k).getD z0),.bool (eM m k).isSome] else cW ((eM m k).getD z0)):=mk' λρ hρ o ho=>by
 have hf:=hk.find k es.toList (keys m) w hm.key;rw[TP hm] at hf;have hg:=TM m k;have nC: (getObj b).run P w=.ok (.map es clock) w:=by simp[getObj,Sem.run,hb]
 unfold execOp;rw[ho];simp only[hρ _ _ hx,hρ _ _ hy];unfold Instr.lookup;simp only[Sem.run_bind,run_underlying ht,Result.andThen_ok,nC,Sem.run_pure,hk.check,hf];cases hi: (keys m).findIdx? (λx=>decide (x=k)) with
 |none=>
  rw[hi] at hg;simp only[Option.bind_none] at hg⊢;simp only[Sem.run_bind,hz w,Result.andThen_ok,Sem.run_pure,<-hg];cases ok<;>rfl
 |some i=>
  rw[hi] at hg;simp only[Option.bind_some] at hg⊢;cases hp:m[i]? with
  |none=>
   have:=(List.findIdx?_eq_some_iff_getElem.1 hi).1;simp only[keys,List.length_map] at this;rw[List.getElem?_eq_none_iff] at hp;omega
  |some p=>
   rw[hp] at hg;simp only[Option.map_some] at hg⊢;simp only[Sem.run_pure,Result.andThen_ok,<-hg];cases ok<;>rfl
theorem fH.lookup (h:fH w C j b kv cW m) (ht:P.underlying t=some (.map kt et)) (hk:xJ P kt kv) (hz:GA P et (cW z0)) {k:dw}
  (hx:ev env x=some (.map (some b))) (hy:ev env y=some (kv k)):cE P N env (.lookup t x y false) w (cW ((eM m k).getD z0)):=by
 obtain⟨_,es,clock,hb,hm⟩:=h;exact J1 (ok:=false) ht hk hz hb hm hx hy
theorem fH.GB (h:fH w C j b kv cW m) (ht:P.underlying t=some (.map kt et)) (hk:xJ P kt kv) (hz:GA P et (cW z0)) {k:dw}
  (hx:ev env x=some (.map (some b))) (hy:ev env y=some (kv k)):cE P N env (.lookup t x y true) w (.tuple #[cW ((eM m k).getD z0),.bool (eM m k).isSome]):=by
 obtain⟨_,es,clock,hb,hm⟩:=h;exact J1 (ok:=true) ht hk hz hb hm hx hy
theorem pM.lookup (h:pM w M kv cW m v) (ht:P.underlying t=some (.map kt et)) (hk:xJ P kt kv) (hz:GA P et (cW z0)) {k:dw}
  (hx:ev env x=some v) (hy:ev env y=some (kv k)):cE P N env (.lookup t x y false) w (cW ((eM m k).getD z0)):=by
 obtain⟨b,rfl,_,es,clock,hb,hm⟩:=h;exact J1 (ok:=false) ht hk hz hb hm hx hy
theorem pM.GB (h:pM w M kv cW m v) (ht:P.underlying t=some (.map kt et)) (hk:xJ P kt kv) (hz:GA P et (cW z0)) {k:dw}
  (hx:ev env x=some v) (hy:ev env y=some (kv k)):cE P N env (.lookup t x y true) w (.tuple #[cW ((eM m k).getD z0),.bool (eM m k).isSome]):=by
 obtain⟨b,rfl,_,es,clock,hb,hm⟩:=h;exact J1 (ok:=true) ht hk hz hb hm hx hy
theorem xK (h:fH w C j b kv cW m) (ht:P.underlying t=some (.map kt et)) (hk:xJ P kt kv) {k:dw} {u:β}
  (hx:ev env x=some (.map (some b))) (hy:ev env y=some (kv k)) (hz:ev env z=some (cW u)):
  g_ P N env (.mapUpdate t x y z) w (λv w'=>v=undef/\av [j] w C w' C/\fH w' C j b kv cW (ig m k u)):=sP λρ hρ o ho=>by
 obtain⟨hc,es,clock,hb,hm⟩:=h;have hf:=hk.find k es.toList (keys m) w hm.key;have nC: (getObj b).run P w=.ok (.map es clock) w:=by simp[getObj,Sem.run,hb]
 cases hi: (keys m).findIdx? (λx=>decide (x=k)) with
 |none=>
  rw[hi] at hf;have hu:=TT (.map (es.push {key:=kv k,val:=cW u,born:=clock}) (clock+1)) hb;refine⟨undef,_,.inr ⟨?_,rfl⟩,rfl,TU (o:=.map #[] 0) hu hc,hc,_,_,hu.at_,hm.push hi u⟩;unfold execOp;rw[ho];simp only[hρ _ _ hx,hρ _ _ hy,hρ _ _ hz];unfold Instr.mapUpdate;simp only[Sem.run_bind,run_underlying ht,Result.andThen_ok,nC,hk.check,hf,Option.bind_none];rw[TR hb (λ_ _ _ h=>by cases h)];rfl
 |some i=>
  rw[hi] at hf;have hu:=TT (.map (es.modify i λe=>{e with key:=kv k,val:=cW u}) clock) hb;have hke:=bB hm hi;have hlt:i<es.size:=by
   have:=(List.findIdx?_eq_some_iff_getElem.1 hi).1;have h2:=congrArg List.length hm.key;simp only[List.length_map,Array.length_toList] at h2;omega
  have l5: ((es[i]?).map (·.key)).getD (kv k)=kv k:=by rw[hke];rfl
  refine⟨undef,_,.inr ⟨?_,rfl⟩,rfl,TU (o:=.map #[] 0) hu hc,hc,_,_,hu.at_,hm.modify hi u⟩;unfold execOp;rw[ho];simp only[hρ _ _ hx,hρ _ _ hy,hρ _ _ hz];unfold Instr.mapUpdate;have hel:es.toList[i]?=some es[i]:=by simp[hlt]
  simp only[Sem.run_bind,run_underlying ht,Result.andThen_ok,nC,hk.check,hf,Option.bind_some,hel,Option.map_some];simp only[Sem.run_bind,Instr.keyThatStays,l5,hk.bits,if_true,Sem.run_pure,Result.andThen_ok];rw[TR hb (λ_ _ _ h=>by cases h)];rfl
end
section
variable {dw β:Type} [DecidableEq dw] {kv:dw->Value} {cW:β->Value} {m:List (dw×β)} {es:Array MapEntry} {clock:Nat}
variable {w w':World} {I:List Nat} {C aG:Nat->Nat} {M:Nat->Prop} {j b n:Nat} {v:Value} {P:Program} {N:Nat} {env:Env} {x y z q:Operand} {t kt et:TypeId} {z0:β}
variable {it dh:Nat} {left:List (dw×β)} {cur:Option (dw×β)}
end
end Go.K
