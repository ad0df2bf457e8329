/- A calculus of steps over the model: a frame is known by a list of slots, code is walked with what is left to do as a list. -/
import Derived.WalkKit
import Derived.OrdersHeld
import Derived.KernelRfl
import Derived.Laws.MakeOwn
import Derived.WideKeyRuns
import Derived.MapKept
import Derived.Laws.StructEq
import Derived.ChangeKeysEq
set_option linter.unusedVariables false
set_option linter.unusedSimpArgs false
set_option linter.unusedSectionVars false
namespace Go.K
def jG:Nat->Nat->List (Nat×Bool)->List (Nat×Bool)
 |0,_,L=>L
 |n+1,i,L=>(i,true)::jG n (i+1) L
abbrev ae8 (x y:Operand) (t:TypeId):Op:=.call {callee:=.builtin .append,args:=#[x,y],argTypes:=#[t,t]}
abbrev ae9 (f:FuncId) (a:Array Operand) (t:Array TypeId):Op:=.call {callee:=.value (.func f),args:=a,argTypes:=t}
instance (n:Nat):OfNat Operand n:=⟨.tmp n⟩
theorem aJ {P:Prop} (h:P:=by first|omega|(simp only;omega)):P:=h
theorem ah {P:Prop} (h:P:=by omega):P:=h
theorem aq {P:Prop} (h:P:=by kernel_rfl):P:=h
theorem ai {P:Prop} (h:P:=by decide):P:=h
theorem fV {P:Prop} (h:P:=by simp only[List.length_append,List.length_take,List.length_nil,List.length_drop,List.length_cons];omega):P:=h
theorem aF {P:Prop} (h:P:=by simp):P:=h
theorem fC {P:Prop} (h:P:=by simp only[List.length_cons,List.length_nil];omega):P:=h
theorem pT {P:Prop} (h:P:=by first|omega|(simp only[List.length_set,List.length_append,List.length_cons,List.length_nil];omega)):P:=h
theorem pU {P:Prop} (h:P:=by first|omega|(simp only[List.length_set];omega)):P:=h
theorem rT {P:Prop} (h:P:=by rw[List.length_take];omega):P:=h
theorem yD {P:Prop} (h:P:=by simp only[List.length_nil];omega):P:=h
theorem GN {P:Prop} (h:P:=by simp only[List.length_cons,List.length_nil,List.length_append];omega):P:=h
theorem GO {P:Prop} (h:P:=by simp only[List.length_cons,List.length_nil,List.length_map];omega):P:=h
theorem rU {P:Prop} (h:P:=by simp only;omega):P:=h
theorem sV {P:Prop} (h:P:=by simp;omega):P:=h
theorem J6 {P:Prop} (h:P:=by first|omega|(simp only[List.length_map];omega)):P:=h
theorem Pc {P:Prop} (h:P:=by simp only[List.length_append,List.length_cons,List.length_nil];omega):P:=h
theorem GQ {P:Prop} (h:P:=by rw[List.length_drop];omega):P:=h
def B9 (f:FuncId):Frame:={(default:Frame) with fn:=f,kind:=.normal}
def bH (R:Value->World->Prop):Ending->World->Prop:=λe w=>∃v,e=.returned v/\R v w
theorem bH.mono {R R':Value->World->Prop} (h:∀v w,R v w->R' v w) (e:Ending) (w:World) (hr:bH R e w):bH R' e w:=
 let⟨v,he,hv⟩:=hr;⟨v,he,h v w hv⟩
def mH (P:Program) (f:FuncId) (k:List Item) (a:Act) (w:World) (R:Value->World->Prop):Prop:=
 ∀cs,∃v w' fr,R v w'/\Steps P (lone ((B9 f).at a k) cs w) (lone fr cs w')/\fr.fn=f/\fr.leaving P w' (.returned v)
theorem WG {P:Program} {f:FuncId} {fn:Func} {c:Code} {args:Array Value} {w:World} {R:Value->World->Prop}
  (hf:P.funcs[f]?=some fn) (hb:fn.body=some c)
  (h:mH P f [.code c] {tmps:=args++Array.replicate (fn.ntmps-args.size) undef,defers:=[]} w R):Calls P f args w (bH R):=by
 intro cs;have WH:Frame.enter P f args .normal=(B9 f).at {tmps:=args++Array.replicate (fn.ntmps-args.size) undef,defers:=[]} [.code c]:=by
  simp[Frame.enter,Frame.at,hf,hb,B9]
 obtain⟨v,w',fr,hR,hs,hfn,hl⟩:=h cs;exact⟨.returned v,w',fr,⟨v,rfl,hR⟩,by rw[WH];exact hs,hfn,hl⟩
theorem mH.mono {P:Program} {f:FuncId} {k:List Item} {a:Act} {w:World} {R R':Value->World->Prop}
  (h:mH P f k a w R) (hr:∀v w,R v w->R' v w):mH P f k a w R':=λcs=>
 let⟨v,w',fr,hR,rest⟩:=h cs;⟨v,w',fr,hr _ _ hR,rest⟩
section
variable {P:Program} {f:FuncId} {k:List Item} {a:Act} {w:World} {R:Value->World->Prop}
theorem mH.step {a':Act} {k':List Item} {w':World}
  (hs:∀cs,step P (lone ((B9 f).at a k) cs w)=.next (lone ((B9 f).at a' k') cs w')) (h:mH P f k' a' w' R):mH P f k a w R:=λcs=>
 let⟨v,w'',fr,hR,hst,hfn,hl⟩:=h cs
 ⟨v,w'',fr,hR,.head (hs cs) hst,hfn,hl⟩
def ve (P:Program) (f:FuncId) (k:List Item) (R:Value->World->Prop):Exit->Act->World->Prop
 | .normal,a,w=>mH P f k a w R
 |_,_,_=>False
theorem D4 {c:Code} (h:c.wp P (ve P f k R) a w):mH P f (.code c::k) a w R:=by
 intro cs;obtain⟨e,a',w',hq,WJ⟩:=h (B9 f) k cs;cases e with
 |normal=>
  obtain⟨v,w'',fr,hR,hst,hfn,hl⟩:=hq cs;exact⟨v,w'',fr,hR,Steps.trans WJ hst,hfn,hl⟩
 |_=>exact hq.elim
theorem Ao {fn:Func} {v:Value} (hf:P.funcs[f]?=some fn) (hd:a.defers=[]) (hr: (results fn a.tmps).run P w=.ok v w) (hR:R v w):
  mH P f (.code .ret::k) a w R:=λcs=>
 ⟨v,w,_,hR,.one step_ret,rfl,rfl,hd,rfl,fn,hf,hr⟩
end
def D5:List (Nat×Bool)->Bool
 |[]=>false
 |_::_=>true
def J7:List (Nat×Bool)->Bool
 |[]=>true
 |[(_,b)]=>!b
 |_::_::_=>false
def oV (P:Program) (ops:Array Oper) (S:World->Prop) (Q:Exit->Act->World->Prop):List (Nat×Bool)->Act->World->Prop
 |[],a,w=>Q .normal a w
 |(i,true)::L,a,w=>∃o v,ops[i]?=some o/\YieldsIf P ops S o v a/\oV P ops S Q L (a.put o.dst v) w
 |(i,false)::L,a,w=>wpOp P ops Q i (λa' w'=>(D5 L=true->S w')/\oV P ops S Q L a' w') a w
section
variable {P:Program} {ops:Array Oper} {S:World->Prop} {Q:Exit->Act->World->Prop}
theorem J8:∀(L:List (Nat×Bool)) (a:Act) (w:World),oV P ops (λ_=>True) Q L a w->wpOps P ops Q (L.map (·.1)) a w
 |[],a,w,h=>h
 |(i,true)::L,a,w,h=>by
  obtain⟨o,v,hi,hy,h⟩:=h;rw[List.map_cons,wpOps_cons];exact hy.wpOp hi trivial (J8 L _ _ h)
 |(i,false)::L,a,w,h=>by
  rw[List.map_cons,wpOps_cons];exact wpOp_mono (λa' w' h'=>J8 L a' w' h'.2) h
theorem WK:∀(L:List (Nat×Bool)) (a:Act) (w:World),J7 L=true->oV P ops (λ_=>True) Q L a w->oV P ops S Q L a w
 |[],a,w,_,h=>h
 |[(i,true)],a,w,hs,h=>by cases hs
 |[(i,false)],a,w,hs,h=>wpOp_mono (λa' w' h'=>⟨λe=>(by cases e),h'.2⟩) h
 |_::_::_,a,w,hs,h=>by cases hs
def wY (P:Program) (ops:Array Oper) (Q:Exit->Act->World->Prop) (S:World->Prop) (e6:Nat):Nat->Array Bool->Act->World->Prop
 |0,listed,a,w=>Region.ready .any ops listed=[]/\Q .normal a w
 |fuel+1,listed,a,w=>
  (Region.ready .any ops listed=[]->Q .normal a w)/\
  ∀i∈Region.ready .any ops listed,wpOp P ops Q i (λa' w'=>((listed.setIfInBounds i true).getD e6 false=false->S w')/\wY P ops Q S e6 fuel (listed.setIfInBounds i true) a' w') a w
theorem GU {e6:Nat}:∀(fuel:Nat) (listed:Array Bool) (a:Act) (w:World),wY P ops Q S e6 fuel listed a w->wpAny P .any ops Q fuel listed a w
 |0,_,_,_,h=>h
 |fuel+1,_,_,_,h=>⟨h.1,λi hi=>wpOp_mono (λa' w' h'=>GU fuel _ a' w' h'.2) (h.2 i hi)⟩
def sW (ops:Array Oper) (listed:Array Bool):Prop:=
 listed.size=ops.size/\∀k ok,ops[k]?=some ok->listed.getD k false=true->∀e∈ok.after,Region.binds .any e=true->listed.getD e.on false=true
theorem rV {j:Nat} {listed:Array Bool} (hc:sW ops listed) (hj:j∈Region.ready .any ops listed):sW ops (listed.setIfInBounds j true):=by
 refine⟨by simp[hc.1],λk ok hk hl e he hb=>?_⟩;by_cases hkj:k=j
 ·subst hkj;obtain⟨_,o,ho,hall⟩:=mem_ready.1 hj;rw[hk] at ho;cases ho;exact getD_set_true (hall e he hb)
 ·rw[getD_set_ne false (Ne.symm hkj)] at hl;exact getD_set_true (hc.2 k ok hk hl e he hb)
def needs (ops:Array Oper):Nat->Nat->Nat->Bool
 |0,j,i=>Nat.beq j i
 |n+1,j,i=>Nat.beq j i||(match ops[j]? with|some o=>o.after.any (λe=>Region.binds .any e&&Nat.beq e.on i)||o.after.any (λe=>Region.binds .any e&&needs ops n e.on i)|none=>false)
theorem Pd {i:Nat} {listed:Array Bool} (hc:sW ops listed):∀(n j:Nat),needs ops n j i=true->listed.getD j false=true->listed.getD i false=true
 |0,j,h,hj=>by rw[<-Nat.eq_of_beq_eq_true h];exact hj
 |n+1,j,h,hj=>by
  unfold needs at h;rw[Bool.or_eq_true] at h;rcases h with h|h
  ·rw[<-Nat.eq_of_beq_eq_true h];exact hj
  ·cases ho:ops[j]? with
   |none=>rw[ho] at h;cases h
   |some o=>
    rw[ho] at h;simp only[Bool.or_eq_true] at h;rcases h with h|h
    ·obtain⟨e,he,hb⟩:=Array.any_eq_true'.1 h;rw[Bool.and_eq_true] at hb;rw[<-Nat.eq_of_beq_eq_true hb.2];exact hc.2 j o ho hj e he hb.1
    ·obtain⟨e,he,hb⟩:=Array.any_eq_true'.1 h;rw[Bool.and_eq_true] at hb;exact Pd hc n e.on hb.2 (hc.2 j o ho hj e he hb.1)
theorem J9 {e6 i:Nat} {oi:Oper} {v:Value} (hi:ops[i]?=some oi) (hsel:∀(j:Nat) (o:Oper) cs b,ops[j]?=some o->o.op≠ .select cs b)
  (hQ:∀c a w,Q (.panic c) (a.put oi.dst v) w->Q (.panic c) a w) (hne:i≠e6) (WL:∀listed,sW ops listed->listed.getD e6 false=true->listed.getD i false=true):
  ∀(fuel:Nat) (listed:Array Bool) (a:Act) (w:World),sW ops listed->
   (∀j oj,ops[j]?=some oj->j≠i->listed.getD j true=false->(∀e∈oj.after,Region.binds .any e=true->e.on≠i)->oi.apart ops oj=true)->
   i∈Region.ready .any ops listed->YieldsIf P ops S oi v a->S w->
   wY P ops Q S e6 fuel (listed.setIfInBounds i true) (a.put oi.dst v) w->wY P ops Q S e6 (fuel+1) listed a w:=by
 intro fuel
 induction fuel with
 |zero=>
  intro listed a w fG _ hr hy hS H;refine⟨λh=>(by rw[h] at hr;cases hr),λj hj=>?_⟩;by_cases hji:j=i
  ·subst hji;exact hy.wpOp hi hS ⟨λ_=>hS,H⟩
  ·have:=ready_mono hj hji;rw[H.1] at this;cases this
 |succ fuel ih=>
  intro listed a w fG hfree hr hy hS H;refine⟨λh=>(by rw[h] at hr;cases hr),λj hj=>?_⟩;by_cases hji:j=i
  ·subst hji;exact hy.wpOp hi hS ⟨λ_=>hS,H⟩
  ·have h1:=H.2 j (ready_mono hj hji);obtain⟨Pe,oj,J_,hall⟩:=mem_ready.1 hj;have Pf:=(mem_ready.1 hr).1;have hif:∀l:Array Bool,l.getD i true=false->l.getD i false=false:=λl h=>by
    rcases Nat.lt_or_ge i l.size with h'|h'
    ·simp[h'] at h⊢;exact h
    ·simp[Array.getElem?_eq_none h']
   have hnot:∀e∈oj.after,Region.binds .any e=true->e.on≠i:=λe he hb heq=>by
    have h1:=hall e he hb;rw[heq,hif _ Pf] at h1;cases h1
   have Pg:=rV fG hj;have WM: (listed.setIfInBounds j true).getD i true=false:=by rw[getD_set_ne true hji];exact Pf
   have WN: (listed.setIfInBounds j true).getD e6 false=false:=by
    cases hb: (listed.setIfInBounds j true).getD e6 false with
    |false=>rfl
    |true=>have:=WL _ Pg hb;rw[hif _ WM] at this;cases this
   have Ph: ((listed.setIfInBounds i true).setIfInBounds j true).getD e6 false=false:=by
    rw[Array.setIfInBounds_comm _ _ (Ne.symm hji),getD_set_ne false hne];exact WN
   have h2:=wpOp_putIf J_ (hfree j oj J_ hji Pe hnot) (λcs b=>hsel i oi cs b hi) (λcs b=>hsel j oj cs b J_) hQ hy h1;have WO:∀k ok,ops[k]?=some ok->k≠i->(listed.setIfInBounds j true).getD k true=false->
     (∀e∈ok.after,Region.binds .any e=true->e.on≠i)->oi.apart ops ok=true:=λk ok hk hki hun hno=>by
    refine hfree k ok hk hki ?_ hno;by_cases hjk:j=k
    ·subst hjk;exact Pe
    ·rw[getD_set_ne true hjk] at hun;exact hun
   refine wpOp_mono (λa' w' h3=>⟨λ_=>h3.2.1 Ph,ih (listed.setIfInBounds j true) a' w' Pg WO (ready_mono hr (Ne.symm hji)) h3.1 (h3.2.1 Ph) ?_⟩) h2;rw[Array.setIfInBounds_comm _ _ hji];exact h3.2.2
def Ka (n:Nat):List (Nat×Bool)->Nat
 |[]=>n
 |[(i,b)]=>if b then n else i
 |_::x::L=>Ka n (x::L)
def vh (ops:Array Oper) (e6:Nat):Nat->Array Bool->List (Nat×Bool)->Bool
 |_,listed,[]=>(Region.ready .any ops listed).isEmpty
 |0,_,_::_=>false
 |n+1,listed,(i,true)::L=>!Nat.beq i e6&&(Nat.ble ops.size e6||needs ops 8 e6 i)&&Region.free .any ops listed i&&(Region.ready .any ops listed).contains i&&vh ops e6 n (listed.setIfInBounds i true) L
 |n+1,listed,(i,false)::L=>(Region.ready .any ops listed==[i])&&((listed.setIfInBounds i true).getD e6 false||D5 L)&&vh ops e6 n (listed.setIfInBounds i true) L
def Kc (ops:Array Oper) (n:Nat) (listed:Array Bool) (L:List (Nat×Bool)):Bool:=vh ops (Ka ops.size L) n listed L
theorem Ke {e6 i:Nat} (h: (Nat.ble ops.size e6||needs ops 8 e6 i)=true):∀listed,sW ops listed->listed.getD e6 false=true->listed.getD i false=true:=λlisted hc hj=>by
 rw[Bool.or_eq_true] at h;rcases h with h|h
 ·have:=Nat.le_of_ble_eq_true h;rw[Array.getD_eq_getD_getElem?,Array.getElem?_eq_none (by rw[hc.1];exact this)] at hj;cases hj
 ·exact Pd hc _ _ h hj
theorem B_ (hs:Region.noSelect ops=true) (hQ:∀c a d v w,Q (.panic c) (Act.put a d v) w->Q (.panic c) a w) {e6:Nat}:
  ∀(n:Nat) (listed:Array Bool) (L:List (Nat×Bool)) (a:Act) (w:World),vh ops e6 n listed L=true->sW ops listed->(D5 L=true->S w)->oV P ops S Q L a w->
   wY P ops Q S e6 n listed a w
 |n,listed,[],a,w,hc,_,_,h=>by
  have hr:Region.ready .any ops listed=[]:=by simpa[vh] using hc
  cases n with
  |zero=>exact⟨hr,h⟩
  |succ n=>exact⟨λ_=>h,by rw[hr];simp⟩
 |0,_,x::L,a,w,hc,_,_,_=>by cases hc
 |n+1,listed,(i,true)::L,a,w,hc,fG,hS,h=>by
  simp only[vh,Bool.and_eq_true] at hc;obtain⟨⟨⟨⟨h1,h2⟩,h3⟩,h4⟩,h5⟩:=hc;obtain⟨o,v,hi,hy,h⟩:=h;have hr:i∈Region.ready .any ops listed:=by simpa using h4
  have Pj:=hS rfl;refine J9 hi (Region.noSelect_spec hs) (λc a w hq=>hQ c a _ _ w hq) (λe=>by subst e;simp at h1) (Ke h2) n listed a w fG (Region.free_spec hi h3) hr hy Pj (B_ hs hQ n _ L _ w h5 (rV fG hr) (λ_=>Pj) h)
 |n+1,listed,(i,false)::L,a,w,hc,fG,hS,h=>by
  simp only[vh,Bool.and_eq_true,beq_iff_eq] at hc;obtain⟨⟨h1,h2⟩,h3⟩:=hc;have hr:i∈Region.ready .any ops listed:=by rw[h1];simp
  refine⟨λh0=>(by rw[h0] at h1;cases h1),λj hj=>?_⟩;rw[h1,List.mem_singleton] at hj;subst hj;refine wpOp_mono (λa' w' h'=>⟨λhb=>h'.1 ?_,B_ hs hQ n _ L a' w' h3 (rV fG hr) h'.1 h'.2⟩) h;rw[hb] at h2;simpa using h2
theorem WQ {o:Oper} {v v':Value} {a:Act} {w:World} (h:YieldsIf P ops S o v a) (h':YieldsIf P ops S o v' a) (hS:S w):v=v':=by
 rcases h with⟨h1,h2⟩|⟨h1,rfl⟩<;>rcases h' with⟨h3,h4⟩|⟨h3,rfl⟩
 ·have:=(h2 w hS).symm.trans (h4 w hS);simpa using this
 ·rw[h1] at h3;cases h3
 ·rw[h1] at h3;cases h3
 ·rfl
def D6 (ops:Array Oper) (e6 i:Nat) (L:List (Nat×Bool)) (i':Nat) (L':List (Nat×Bool)):Nat->Array Bool->List Nat->Bool
 |0,_,_=>false
 |n+1,listed,[]=>(Region.ready .any ops listed==[i,i'])&&((listed.setIfInBounds i true).getD e6 false||D5 L)&&vh ops e6 n (listed.setIfInBounds i true) L&&((listed.setIfInBounds i' true).getD e6 false||D5 L')&&vh ops e6 n (listed.setIfInBounds i' true) L'
 |n+1,listed,j::A=>!Nat.beq j e6&&(Nat.ble ops.size e6||needs ops 8 e6 j)&&Region.free .any ops listed j&&(Region.ready .any ops listed).contains j&&D6 ops e6 i L i' L' n (listed.setIfInBounds j true) A
def Pk (ops:Array Oper) (i:Nat) (L:List (Nat×Bool)) (i':Nat) (L':List (Nat×Bool)) (n:Nat) (listed:Array Bool) (A:List Nat):Bool:=D6 ops (Ka ops.size ((i,false)::L)) i L i' L' n listed A
theorem Pm (hs:Region.noSelect ops=true) (hQ:∀c a d v w,Q (.panic c) (Act.put a d v) w->Q (.panic c) a w) {e6 i i':Nat} {L L':List (Nat×Bool)}:
  ∀(n:Nat) (listed:Array Bool) (A:List Nat) (a:Act) (w:World),D6 ops e6 i L i' L' n listed A=true->sW ops listed->S w->
   oV P ops S Q (A.map (λj=>(j,true))++(i,false)::L) a w->oV P ops S Q (A.map (λj=>(j,true))++(i',false)::L') a w->wY P ops Q S e6 n listed a w
 |0,_,_,_,_,hc,_,_,_,_=>by cases hc
 |n+1,listed,[],a,w,hc,fG,hS,h,h'=>by
  simp only[D6,Bool.and_eq_true,beq_iff_eq] at hc;obtain⟨⟨⟨⟨h0,h1⟩,h2⟩,h3⟩,h4⟩:=hc;have hr:i∈Region.ready .any ops listed:=by rw[h0];simp
  have hr':i'∈Region.ready .any ops listed:=by rw[h0];simp
  refine⟨λAp=>(by rw[Ap] at h0;cases h0),λj hj=>?_⟩;rw[h0] at hj;simp only[List.mem_cons,List.not_mem_nil,or_false] at hj;rcases hj with rfl|rfl
  ·exact wpOp_mono (λa' w' g=>⟨λhb=>g.1 (by rw[hb] at h1;simpa using h1),B_ hs hQ n _ L a' w' h2 (rV fG hr) g.1 g.2⟩) h
  ·exact wpOp_mono (λa' w' g=>⟨λhb=>g.1 (by rw[hb] at h3;simpa using h3),B_ hs hQ n _ L' a' w' h4 (rV fG hr') g.1 g.2⟩) h'
 |n+1,listed,j::A,a,w,hc,fG,hS,h,h'=>by
  simp only[D6,Bool.and_eq_true] at hc;obtain⟨⟨⟨⟨h1,h2⟩,h3⟩,h4⟩,h5⟩:=hc;obtain⟨o,v,hi,hy,h⟩:=h;obtain⟨o',v',hi',hy',h'⟩:=h';rw[hi] at hi';cases hi';obtain rfl:=WQ hy hy' hS;have hr:j∈Region.ready .any ops listed:=by simpa using h4
  exact J9 hi (Region.noSelect_spec hs) (λc a w hq=>hQ c a _ _ w hq) (λe=>by subst e;simp at h1) (Ke h2) n listed a w fG (Region.free_spec hi h3) hr hy hS (Pm hs hQ n _ A _ w h5 (rV fG hr) hS h h')
theorem Kf (ops:Array Oper):sW ops (Array.replicate ops.size false):=⟨by simp,λk ok _ hl=>by
 rcases Nat.lt_or_ge k ops.size with h|h
 ·simp[h] at hl
 ·simp[Array.getElem?_eq_none,h] at hl⟩
end
abbrev Env:=List (Nat×Value)
def look:Env->Nat->Option Value
 |[],_=>none
 |(t,v)::e,u=>bif Nat.beq t u then some v else look e u
structure kV (N:Nat) (env:Env) (a:Act):Prop where
 size:a.tmps.size=N
 defers:a.defers=[]
 slot:∀t v,look env t=some v->a.tmps[t]?=some v
def tO (d:Option Nat) (v:Value) (env:Env):Env:=match d with|some t=>(t,v)::env|none=>env
def vi (N:Nat) (d:Option Nat):Bool:=match d with|some t=>Nat.blt t N|none=>true
theorem kV.put {N:Nat} {env:Env} {a:Act} (h:kV N env a) {d:Option Nat} (hd:vi N d=true) (v:Value):kV N (tO d v env) (a.put d v):=by
 cases d with
 |none=>exact⟨h.size,h.defers,h.slot⟩
 |some t=>
  have ht:t<N:=by
     have h:t+1<=N:=by simpa[vi,Nat.blt] using hd
     omega
  refine⟨by simp[Act.put,h.size],h.defers,λu x hx=>?_⟩;simp only[tO,look] at hx;simp only[Act.put,Array.getElem?_setIfInBounds];by_cases e:t=u
  ·subst e;simp at hx;simp[h.size,ht,hx]
  ·have e':Nat.beq t u=false:=by
    cases hb:Nat.beq t u with
    |false=>rfl
    |true=>exact absurd (Nat.eq_of_beq_eq_true hb) e
   rw[e'] at hx;simp only[cond_false] at hx;simp[e,h.slot u x hx]
def ev (env:Env):Operand->Option Value
 | .tmp t=>look env t
 | .const v=>some v
 | .func g=>some (.func (.func g) #[] #[])
 | .global g=>some (.pointer (some ⟨g,0,none⟩))
theorem kV.ev {N:Nat} {env:Env} {a:Act} (h:kV N env a) {x:Operand} {v:Value} (hx:ev env x=some v):a.eval x=v:=by
 cases x with
 |tmp t=>
  have:=h.slot t v hx;simp only[Act.eval];rw[Array.getD_eq_getD_getElem?,this];rfl
 |const u=>simpa[K.ev,Act.eval] using hx
 |func g=>simpa[K.ev,Act.eval] using hx
 |global g=>simpa[K.ev,Act.eval] using hx
def lF (env:Env):List Operand->Option (List Value)
 |[]=>some []
 |x::l=>match ev env x,lF env l with|some v,some r=>some (v::r)|_,_=>none
theorem kV.lF {N:Nat} {env:Env} {a:Act} (h:kV N env a):∀{l:List Operand} {vs:List Value},lF env l=some vs->l.map a.eval=vs
 |[],vs,hl=>by simpa[K.lF] using hl
 |x::l,vs,hl=>by
  simp only[K.lF] at hl;cases hx:K.ev env x with
  |none=>rw[hx] at hl;cases hl
  |some v=>
   cases hr:K.lF env l with
   |none=>rw[hx,hr] at hl;cases hl
   |some r=>
    rw[hx,hr] at hl;simp only[Option.some.injEq] at hl;subst hl;simp[h.ev hx,h.lF hr]
def Sub (env' env:Env):Prop:=∀t v,look env' t=some v->look env t=some v
theorem aR (env:Env):Sub [] env:=λt v h=>by cases h
theorem aH (t:Nat) {u v:Value} {env' env:Env} (hl:look env t=some u) (hv:u=v) (h:Sub env' env):Sub ((t,v)::env') env:=by
 subst hv;intro s x hx;simp only[look] at hx;cases hb:Nat.beq t s with
 |true=>
  rw[hb] at hx;simp only[cond_true,Option.some.injEq] at hx;rw[<-Nat.eq_of_beq_eq_true hb,hl,hx]
 |false=>rw[hb] at hx;exact h s x hx
theorem Sub.refl (env:Env):Sub env env:=λ_ _ h=>h
theorem kV.sub {N:Nat} {env env':Env} {a:Act} (h:kV N env a) (hs:Sub env' env):kV N env' a:=⟨h.size,h.defers,λt v ht=>h.slot t v (hs t v ht)⟩
def Run (P:Program) (f:FuncId) (N:Nat) (k:List Item) (env:Env) (w:World) (R:Value->World->Prop):Prop:=
 ∀a,kV N env a->mH P f k a w R
def bO (P:Program) (N:Nat) (Q:Exit->Act->World->Prop) (ops:Array Oper) (S:World->Prop) (L:List (Nat×Bool)) (env:Env) (w:World):Prop:=
 ∀a,kV N env a->oV P ops S Q L a w
abbrev cD (P:Program) (f:FuncId) (N:Nat) (k:List Item) (R:Value->World->Prop) (ops:Array Oper) (S:World->Prop) (L:List (Nat×Bool)) (env:Env) (w:World):Prop:=
 bO P N (ve P f k R) ops S L env w
section
variable {P:Program} {f:FuncId} {N:Nat} {k:List Item} {env:Env} {w:World} {R:Value->World->Prop}
theorem Run.sub {env':Env} (hs:Sub env' env) (h:Run P f N k env' w R):Run P f N k env w R:=λa ha=>h a (ha.sub hs)
theorem run_seq {c x y:Code} (hc:c=.seq x y) (h:Run P f N (.code x:: .code y::k) env w R):Run P f N (.code c::k) env w R:=λa ha=>by
 subst hc;exact mH.step (λ_=>step_seq) (h a ha)
theorem Pn {c x:Code} {id:Nat} (hc:c=.block id x) (h:Run P f N (.code x:: .inBlock id::k) env w R):Run P f N (.code c::k) env w R:=λa ha=>by
 subst hc;exact mH.step (λ_=>step_block) (h a ha)
theorem WR {id:Nat} (h:Run P f N k env w R):Run P f N (.inBlock id::k) env w R:=λa ha=>
 mH.step (λ_=>step_inBlock) (h a ha)
theorem Po {c:Code} (hc:c=.skip) (h:Run P f N k env w R):Run P f N (.code c::k) env w R:=λa ha=>by
 subst hc;exact mH.step (λ_=>step_skip) (h a ha)
theorem Pp {c:Code} {id:Nat} {k':List Item} (hc:c=.exit id) (hk:exitTo id k=some k') (h:Run P f N k' env w R):Run P f N (.code c::k) env w R:=λa ha=>by
 subst hc;exact mH.step (λ_=>step_exit hk) (h a ha)
theorem Ca {c x y:Code} {o:Operand} {b:Bool} (hc:c=.cond o x y) (hv:ev env o=some (.bool b))
  (ht:b=true->Run P f N (.code x::k) env w R) (hf:b=false->Run P f N (.code y::k) env w R):Run P f N (.code c::k) env w R:=λa ha=>by
 subst hc;have:=ha.ev hv;cases b with
 |true=>exact mH.step (λ_=>step_cond this) (ht rfl a ha)
 |false=>exact mH.step (λ_=>step_cond this) (hf rfl a ha)
theorem WS {c x y:Code} {o:Operand} {p:Prop} [Decidable p] (hc:c=.cond o x y) (hv:ev env o=some (.bool (decide p)))
  (ht:p->Run P f N (.code x::k) env w R) (hf:¬p->Run P f N (.code y::k) env w R):Run P f N (.code c::k) env w R:=
 Ca hc hv (λh=>ht (of_decide_eq_true h)) (λh=>hf (of_decide_eq_false h))
theorem WT {c body:Code} {ι:Type} (I:ι->World->Prop) (e:ι->Env) (m:ι->Nat) (cC:ι) (hc:c=.loop body)
  (hs:Sub (e cC) env) (h0:I cC w)
  (hr:∀x w,I x w->(∀y w',I y w'->m y<m x->Run P f N (.inLoop body::k) (e y) w' R)->Run P f N (.code body:: .inLoop body::k) (e x) w R):
  Run P f N (.code c::k) env w R:=by
 subst hc;have main:∀n x w,m x<=n->I x w->Run P f N (.inLoop body::k) (e x) w R:=by
  intro n
  induction n with
  |zero=>
   intro x w hm hI a ha;exact mH.step (λ_=>step_inLoop) (hr x w hI (λy w' hy hlt=>by omega) a ha)
  |succ n ih=>
   intro x w hm hI a ha;exact mH.step (λ_=>step_inLoop) (hr x w hI (λy w' hy hlt=>ih y w' ah hy) a ha)
 intro a ha;exact mH.step (λ_=>step_loop) (hr cC w h0 (λy w' hy hlt=>main (m y) y w' (Nat.le_refl _) hy) a (ha.sub hs))
theorem Pq {c:Code} {fn:Func} {t:Nat} {v:Value} (hc:c=.ret) (hf:P.funcs[f]?=some fn) (hres:fn.results=#[.tmp t]) (hv:look env t=some v)
  (hR:R v w):Run P f N (.code c::k) env w R:=λa ha=>by
 subst hc;refine Ao hf ha.defers ?_ hR;have:=ha.slot t v hv;simp only[results,hres];simp[this,Sem.run,pure,Array.getD_eq_getD_getElem?]
theorem yG {c:Code} {fn:Func} (hc:c=.ret) (hf:P.funcs[f]?=some fn) (hres:fn.results=#[])
  (hR:R (.tuple #[]) w):Run P f N (.code c::k) env w R:=λa ha=>by
 subst hc;refine Ao hf ha.defers ?_ hR;simp[results,hres,Sem.run,pure]
theorem rm {c:Code} {fn:Func} {t u:Nat} {v x:Value} (hc:c=.ret) (hf:P.funcs[f]?=some fn) (hres:fn.results=#[.tmp t,.tmp u]) (hv:look env t=some v) (hx:look env u=some x)
  (hR:R (.tuple #[v,x]) w):Run P f N (.code c::k) env w R:=λa ha=>by
 subst hc;refine Ao hf ha.defers ?_ hR;rw[results_tmp2 hres];have h1:=ha.slot t v hv;have h2:=ha.slot u x hx;simp[h1,h2,Array.getD_eq_getD_getElem?]
theorem Pr {c:Code} {id:Nat} {ops:Array Oper} (L:List (Nat×Bool)) (hc:c=.region id ops false)
  (hL:L.map (·.1)=List.range ops.size) (h:cD P f N k R ops (λ_=>True) L env w):Run P f N (.code c::k) env w R:=λa ha=>by
 subst hc;exact D4 (wp_region (by rw[<-hL];exact J8 L a w (h a ha)))
theorem WU {c:Code} {id:Nat} {ops:Array Oper} (S:World->Prop) (L:List (Nat×Bool)) (hm:P.follows .mixedOrders=true) (hc:c=.region id ops true)
  (hn:Region.noSelect ops=true) (hk:Kc ops ops.size (Array.replicate ops.size false) L=true) (hS:S {w with drawn:=w.drawn+1})
  (h:cD P f N k R ops S L env {w with drawn:=w.drawn+1}):Run P f N (.code c::k) env w R:=λa ha=>by
 subst hc;exact D4 (wp_region_any hm (GU _ _ _ _ (B_ hn (λc a d v w h=>h.elim) _ _ L a _ hk (Kf ops) (λ_=>hS) (h a ha))))
theorem WV {c:Code} {id:Nat} {ops:Array Oper} (S:World->Prop) (A:List Nat) (i:Nat) (L:List (Nat×Bool)) (i':Nat) (L':List (Nat×Bool)) (hm:P.follows .mixedOrders=true) (hc:c=.region id ops true)
  (hn:Region.noSelect ops=true) (hk:Pk ops i L i' L' ops.size (Array.replicate ops.size false) A=true) (hS:S {w with drawn:=w.drawn+1})
  (h:cD P f N k R ops S (A.map (λj=>(j,true))++(i,false)::L) env {w with drawn:=w.drawn+1}) (h':cD P f N k R ops S (A.map (λj=>(j,true))++(i',false)::L') env {w with drawn:=w.drawn+1}):Run P f N (.code c::k) env w R:=λa ha=>by
 subst hc;exact D4 (wp_region_any hm (GU _ _ _ _ (Pm hn (λc a d v w h=>h.elim) _ _ A a _ hk (Kf ops) hS (h a ha) (h' a ha))))
def cv (ops:Array Oper) (i:Nat):Option (Option Tmp×Op×Option (Nat×Bool)):=(ops[i]?).map λo=>(o.dst,o.op,o.guard)
def Pu (ops:Array Oper) (i:Nat):Option Tmp:=(ops[i]?).bind (·.dst)
def cZ (P:Program) (N:Nat) (env:Env) (op:Op) (w:World) (v:Value):Prop:=
 ∀a,kV N env a->∀o:Oper,o.op=op->(execOp a.eval o).run P w=.ok (.value v) w
variable {Q:Exit->Act->World->Prop} {ops:Array Oper} {S:World->Prop} {i:Nat} {L:List (Nat×Bool)} {d:Option Nat} {op:Op} {v:Value}
theorem cD.free (hs:J7 L=true) (h:bO P N Q ops (λ_=>True) L env w):bO P N Q ops S L env w:=λa ha=>WK L a w hs (h a ha)
theorem cD.nil (h:Run P f N k env w R):cD P f N k R ops S [] env w:=λa ha=>h a ha
theorem cD.sub {env':Env} (hs:Sub env' env) (h:bO P N Q ops S L env' w):bO P N Q ops S L env w:=λa ha=>h a (ha.sub hs)
theorem Aq {g:Option (Nat×Bool)} (h:cv ops i=some (d,op,g)):∃o,ops[i]?=some o/\o.dst=d/\o.op=op/\o.guard=g:=by
 unfold cv at h;cases ho:ops[i]? with
 |none=>rw[ho] at h;cases h
 |some o=>
  rw[ho] at h;simp only[Option.map_some,Option.some.injEq,Prod.mk.injEq] at h;exact⟨o,rfl,h⟩
def ec (ops:Array Oper) (env:Env):Option (Nat×Bool)->Option Bool
 |none=>some true
 |some (j,want)=>match Pu ops j with
  |none=>some false
  |some t=>match look env t with
   |none=>none
   |some (.bool b)=>some (b==want)
   |some _=>some false
theorem kV.wanted {a:Act} (ha:kV N env a) {o:Oper} {b:Bool} (h:ec ops env o.guard=some b):Region.wanted o (yielded ops a.tmps)=b:=by
 unfold Region.wanted;cases hg:o.guard with
 |none=>rw[hg] at h;simpa[ec] using h
 |some p=>
  obtain⟨j,want⟩:=p;rw[hg] at h;simp only[ec,Pu] at h;simp only[yielded];cases hj: (ops[j]?).bind (·.dst) with
  |none=>rw[hj] at h;simp only[Option.some.injEq] at h;subst h;rfl
  |some t=>
   rw[hj] at h;simp only at h;cases hl:look env t with
   |none=>rw[hl] at h;cases h
   |some u=>
    rw[hl] at h;have:=ha.slot t u hl;simp only[Option.bind_some,this];cases u<;>simp only[Option.some.injEq] at h<;>subst h<;>first|rfl|(rename_i x;cases x<;>cases want<;>rfl)
theorem cD.yield {g:Option (Nat×Bool)} (hop:cv ops i=some (d,op,g)) (hw:ec ops env g=some true) (hd:vi N d=true)
  (hy:∀w',S w'->cZ P N env op w' v) (h:bO P N Q ops S L (tO d v env) w):bO P N Q ops S ((i,true)::L) env w:=λa ha=>by
 obtain⟨o,ho,rfl,rfl,rfl⟩:=Aq hop;exact⟨o,v,ho,.inl ⟨ha.wanted hw,λw' hS=>hy w' hS a ha o rfl⟩,h _ (ha.put hd v)⟩
theorem cD.pass {g:Option (Nat×Bool)} (hop:cv ops i=some (d,op,g)) (hw:ec ops env g=some false) (hd:vi N d=true)
  (h:bO P N Q ops S L (tO d undef env) w):bO P N Q ops S ((i,true)::L) env w:=λa ha=>by
 obtain⟨o,ho,rfl,rfl,rfl⟩:=Aq hop;exact⟨o,undef,ho,.inr ⟨ha.wanted hw,rfl⟩,h _ (ha.put hd undef)⟩
theorem cD.WW {g:Option (Nat×Bool)} (hop:cv ops i=some (d,op,g)) (hw:ec ops env g=some false) (hd:vi N d=true) (hS:S w)
  (h:bO P N Q ops S L (tO d undef env) w):bO P N Q ops S ((i,false)::L) env w:=λa ha=>by
 obtain⟨o,ho,rfl,rfl,rfl⟩:=Aq hop;simp only[oV,wpOp,ho,ha.wanted hw,Bool.false_eq_true,if_false];exact⟨λ_=>hS,h _ (ha.put hd undef)⟩
def ig (P:Program) (N:Nat) (env:Env) (op:Op) (w:World) (T:Value->World->Prop):Prop:=
 ∀a,kV N env a->∀o:Oper,o.op=op->∃v w',((execOp a.eval o).run P w=.ok (.value v) w'\/((execOp a.eval o).run P w=.ok .skip w'/\v=undef))/\T v w'
theorem cD.act {g:Option (Nat×Bool)} {T:Value->World->Prop} (hop:cv ops i=some (d,op,g)) (hw:ec ops env g=some true) (hd:vi N d=true)
  (hy:ig P N env op w T) (h:∀v w',T v w'->S w'/\bO P N Q ops S L (tO d v env) w'):bO P N Q ops S ((i,false)::L) env w:=λa ha=>by
 obtain⟨o,ho,rfl,rfl,rfl⟩:=Aq hop;simp only[oV,wpOp,ho,ha.wanted hw,if_true];obtain⟨v,w',hrun,hT⟩:=hy a ha o rfl;left;unfold Oper.wp;obtain⟨h1,h2⟩:=h v w' hT;rcases hrun with hrun|⟨hrun,rfl⟩
 ·rw[hrun];exact⟨λ_=>h1,h2 _ (ha.put hd v)⟩
 ·rw[hrun];exact⟨λ_=>h1,h2 _ (ha.put hd undef)⟩
theorem cZ.acts (h:cZ P N env op w v):ig P N env op w (λx w'=>x=v/\w'=w):=λa ha o ho=>⟨v,w,.inl (h a ha o ho),rfl,rfl⟩
theorem cD.now {g:Option (Nat×Bool)} (hop:cv ops i=some (d,op,g)) (hw:ec ops env g=some true) (hd:vi N d=true) (hS:S w)
  (hy:cZ P N env op w v) (h:bO P N Q ops S L (tO d v env) w):bO P N Q ops S ((i,false)::L) env w:=
 cD.act hop hw hd hy.acts (by rintro _ _ ⟨rfl,rfl⟩;exact⟨hS,h⟩)
def Enters (P:Program) (N:Nat) (env:Env) (op:Op) (w:World) (g:FuncId) (args:Array Value):Prop:=
 ∀a,kV N env a->∀o:Oper,o.op=op->(execOp a.eval o).run P w=.ok (.enter g args) w
theorem cD.call {gq:Option (Nat×Bool)} {g:FuncId} {args:Array Value} {T:Value->World->Prop} (hop:cv ops i=some (d,op,gq)) (hw:ec ops env gq=some true) (hd:vi N d=true)
  (hy:Enters P N env op w g args) (hc:Calls P g args w (bH T))
  (h:∀v w',T v w'->S w'/\bO P N Q ops S L (tO d v env) w'):bO P N Q ops S ((i,false)::L) env w:=λa ha=>by
 obtain⟨o,ho,rfl,rfl,rfl⟩:=Aq hop;simp only[oV,wpOp,ho,ha.wanted hw,if_true];left;unfold Oper.wp;rw[hy a ha o rfl];simp only[Oper.upon];refine hc.mono λe w' he=>?_;obtain⟨v,rfl,hT⟩:=he;obtain⟨h1,h2⟩:=h v w' hT;exact⟨λ_=>h1,h2 _ (ha.put hd v)⟩
end
theorem WX {P:Program} {f:FuncId} {fn:Func} {c:Code} {args:List Value} {N:Nat} {env:Env} {w:World} {R:Value->World->Prop}
  (hf:P.funcs[f]?=some fn) (hb:fn.body=some c) (hN:fn.ntmps=N) (hsz:Nat.ble args.length N=true) (he:∀t v,look env t=some v->args[t]?=some v)
  (h:Run P f N [.code c] env w R):Calls P f args.toArray w (bH R):=by
 refine WG hf hb (h _ ?_);have:args.length<=N:=Nat.le_of_ble_eq_true hsz;refine⟨by simp[hN];omega,rfl,λt v ht=>?_⟩;have h1:=he t v ht;have h2:t<args.length:=by
  rcases Nat.lt_or_ge t args.length with h|h
  ·exact h
  ·rw[List.getElem?_eq_none h] at h1;cases h1
 simp only;rw[Array.getElem?_append_left (by simpa using h2)];simpa using h1
def Ar:Nat->List Value->Env
 |_,[]=>[]
 |n,v::l=>(n,v)::Ar (n+1) l
theorem Kg:∀(l:List Value) (n t:Nat) (v:Value),look (Ar n l) t=some v->n<=t/\l[t-n]?=some v
 |[],_,_,_,h=>by cases h
 |x::l,n,t,v,h=>by
  simp only[Ar,look] at h;cases hb:Nat.beq n t with
  |true=>
   rw[hb] at h;have e:=Nat.eq_of_beq_eq_true hb;subst e;simp at h;simp[h]
  |false=>
   rw[hb] at h;have hne:n≠t:=λe=>by subst e;simp at hb
   obtain⟨h1,h2⟩:=Kg l (n+1) t v h;refine⟨by omega,?_⟩;have:t-n=(t-(n+1))+1:=by omega
   rw[this];simpa using h2
theorem Pw {P:Program} {f:FuncId} {fn:Func} {c:Code} (args:List Value) {N:Nat} {w:World} {R:Value->World->Prop}
  (hf:P.funcs[f]?=some fn) (hb:fn.body=some c) (hN:fn.ntmps=N) (hsz:Nat.ble args.length N=true)
  (h:Run P f N [.code c] (Ar 0 args) w R):Calls P f args.toArray w (bH R):=
 WX hf hb hN hsz (λt v ht=>by simpa using(Kg args 0 t v ht).2) h
section
variable {P:Program} {N:Nat} {env:Env} {w:World} {x y z:Operand} {t u:TypeId} {k:IntKind} {m n:Int} {v:Value}
theorem mk' {op:Op} (h:∀ρ:Operand->Value,(∀x v,ev env x=some v->ρ x=v)->∀o:Oper,o.op=op->(execOp ρ o).run P w=.ok (.value v) w):cZ P N env op w v:=
 λa ha o ho=>h a.eval (λx v hx=>ha.ev hx) o ho
theorem Cc (hx:ev env x=some v):cZ P N env (.move x) w v:=mk' λρ hρ o ho=>by
 unfold execOp;rw[ho];simp[hρ _ _ hx,go_sem]
theorem D7 (hx:ev env x=some v):cZ P N env (.assign x) w v:=mk' λρ hρ o ho=>by
 unfold execOp;rw[ho];simp[hρ _ _ hx,go_sem]
theorem Kh {v₁:Value} (hx:ev env x=some (.bool true)) (hy:ev env y=some v₁):
  cZ P N env (.pick x y z) w v₁:=mk' λρ hρ o ho=>by
 unfold execOp;rw[ho];simp[hρ _ _ hx,hρ _ _ hy,go_sem,asBool]
theorem Ki {v₂:Value} (hx:ev env x=some (.bool false)) (hz:ev env z=some v₂):
  cZ P N env (.pick x y z) w v₂:=mk' λρ hρ o ho=>by
 unfold execOp;rw[ho];simp[hρ _ _ hx,hρ _ _ hz,go_sem,asBool]
theorem Px {a:Addr} (hx:ev env x=some (.pointer (some a))):cZ P N env (.nilCheck x) w (.pointer (some a)):=mk' λρ hρ o ho=>by
 unfold execOp;rw[ho];simp[hρ _ _ hx,go_sem]
theorem Py {vs:Array Value} {i:Nat} (hx:ev env x=some (.tuple vs)) (hv:vs[i]?=some v):cZ P N env (.extract x i) w v:=mk' λρ hρ o ho=>by
 unfold execOp;rw[ho];simp[hρ _ _ hx,go_sem,Instr.extract,hv]
theorem pV (op:BinOp) (t:TypeId) (x y:Operand) (k j:IntKind) (m n:Int) (w:World):
  (eqGuard op t x y (.int k m) (.int j n)).run P w=.ok () w:=by
 unfold eqGuard;simp[go_sem]
theorem val_add (hx:ev env x=some (.int k m)) (hy:ev env y=some (.int k n)):cZ P N env (.binOp .add t x y u) w (.int k (k.wrap (m+n))):=mk' λρ hρ o ho=>by
 unfold execOp;rw[ho];simp[hρ _ _ hx,hρ _ _ hy,go_sem,pV,binOp,Op.intArith]
theorem val_sub (hx:ev env x=some (.int k m)) (hy:ev env y=some (.int k n)):cZ P N env (.binOp .sub t x y u) w (.int k (k.wrap (m-n))):=mk' λρ hρ o ho=>by
 unfold execOp;rw[ho];simp[hρ _ _ hx,hρ _ _ hy,go_sem,pV,binOp,Op.intArith]
theorem val_mul (hx:ev env x=some (.int k m)) (hy:ev env y=some (.int k n)):cZ P N env (.binOp .mul t x y u) w (.int k (k.wrap (m*n))):=mk' λρ hρ o ho=>by
 unfold execOp;rw[ho];simp[hρ _ _ hx,hρ _ _ hy,go_sem,pV,binOp,Op.intArith]
theorem WY (hx:ev env x=some (.int k m)) (hy:ev env y=some (.int k n)) (hn:n≠0):cZ P N env (.binOp .quo t x y u) w (.int k (k.wrap (m.tdiv n))):=mk' λρ hρ o ho=>by
 unfold execOp;rw[ho];simp[hρ _ _ hx,hρ _ _ hy,go_sem,pV,binOp,Op.intDiv,hn]
theorem WZ (hx:ev env x=some (.int k m)) (hy:ev env y=some (.int k n)) (hn:n≠0):cZ P N env (.binOp .rem t x y u) w (.int k (m.tmod n)):=mk' λρ hρ o ho=>by
 unfold execOp;rw[ho];simp[hρ _ _ hx,hρ _ _ hy,go_sem,pV,binOp,Op.intDiv,hn]
theorem Kj (hx:ev env x=some (.int k m)) (hy:ev env y=some (.int k n)):cZ P N env (.binOp .lss t x y u) w (.bool (decide (m<n))):=mk' λρ hρ o ho=>by
 unfold execOp;rw[ho];simp[hρ _ _ hx,hρ _ _ hy,go_sem,pV,binOp,Op.intCmp]
theorem Pz (hx:ev env x=some (.int k m)) (hy:ev env y=some (.int k n)):cZ P N env (.binOp .leq t x y u) w (.bool (decide (m<=n))):=mk' λρ hρ o ho=>by
 unfold execOp;rw[ho];simp[hρ _ _ hx,hρ _ _ hy,go_sem,pV,binOp,Op.intCmp]
theorem GV (hx:ev env x=some (.int k m)) (hy:ev env y=some (.int k n)):cZ P N env (.binOp .gtr t x y u) w (.bool (decide (n<m))):=mk' λρ hρ o ho=>by
 unfold execOp;rw[ho];simp[hρ _ _ hx,hρ _ _ hy,go_sem,pV,binOp,Op.intCmp]
theorem PA (hx:ev env x=some (.int k m)) (hy:ev env y=some (.int k n)):cZ P N env (.binOp .geq t x y u) w (.bool (decide (n<=m))):=mk' λρ hρ o ho=>by
 unfold execOp;rw[ho];simp[hρ _ _ hx,hρ _ _ hy,go_sem,pV,binOp,Op.intCmp]
theorem GX (hx:ev env x=some (.int k m)) (hy:ev env y=some (.int k n)):cZ P N env (.binOp .eql t x y u) w (.bool (decide (m=n))):=mk' λρ hρ o ho=>by
 unfold execOp;rw[ho];simp[hρ _ _ hx,hρ _ _ hy,go_sem,pV,binOp,Op.intCmp];rfl
theorem wZ (hx:ev env x=some (.int k m)) (hy:ev env y=some (.int k n)):cZ P N env (.binOp .neq t x y u) w (.bool (decide (m≠n))):=mk' λρ hρ o ho=>by
 unfold execOp;rw[ho];simp[hρ _ _ hx,hρ _ _ hy,go_sem,pV,binOp,Op.intCmp];by_cases h:m=n<;>simp[h]
def bitsOf (op:BinOp) (k:IntKind) (m n:Int):Int:=
 k.wrap ((match op with
  | .and=>BitVec.ofInt k.bits m&&&BitVec.ofInt k.bits n
  | .or=>BitVec.ofInt k.bits m|||BitVec.ofInt k.bits n
  | .xor=>BitVec.ofInt k.bits m^^^BitVec.ofInt k.bits n
  |_=>BitVec.ofInt k.bits m&&&~~~(BitVec.ofInt k.bits n):BitVec k.bits).toNat)
theorem W0 (hx:ev env x=some (.int k m)) (hy:ev env y=some (.int k n)):cZ P N env (.binOp .and t x y u) w (.int k (bitsOf .and k m n)):=mk' λρ hρ o ho=>by
 unfold execOp;rw[ho];simp[hρ _ _ hx,hρ _ _ hy,Sem.run_bind,Sem.run_pure,pV,binOp,Op.intBits,bitsOf]
theorem W3 (hx:ev env x=some (.int k m)) (hy:ev env y=some (.int k n)):cZ P N env (.binOp .or t x y u) w (.int k (bitsOf .or k m n)):=mk' λρ hρ o ho=>by
 unfold execOp;rw[ho];simp[hρ _ _ hx,hρ _ _ hy,Sem.run_bind,Sem.run_pure,pV,binOp,Op.intBits,bitsOf]
theorem W4 (hx:ev env x=some (.int k m)) (hy:ev env y=some (.int k n)):cZ P N env (.binOp .xor t x y u) w (.int k (bitsOf .xor k m n)):=mk' λρ hρ o ho=>by
 unfold execOp;rw[ho];simp[hρ _ _ hx,hρ _ _ hy,Sem.run_bind,Sem.run_pure,pV,binOp,Op.intBits,bitsOf]
theorem ae_ {j:IntKind} (hx:ev env x=some (.int k m)) (hy:ev env y=some (.int j n)) (hn:0<=n):
  cZ P N env (.binOp .shl t x y u) w (.int k (k.wrap (m*2^min n.toNat k.bits))):=mk' λρ hρ o ho=>by
 have:¬n<0:=by omega
 unfold execOp;rw[ho];simp[hρ _ _ hx,hρ _ _ hy,Sem.run_bind,Sem.run_pure,pV,binOp,Op.shift,this]
theorem w_ {j:IntKind} (hx:ev env x=some (.int k m)) (hy:ev env y=some (.int j n)) (hn:0<=n):
  cZ P N env (.binOp .shr t x y u) w (.int k (m.fdiv (2^min n.toNat k.bits))):=mk' λρ hρ o ho=>by
 have:¬n<0:=by omega
 unfold execOp;rw[ho];simp[hρ _ _ hx,hρ _ _ hy,Sem.run_bind,Sem.run_pure,pV,binOp,Op.shift,this]
theorem nI {b:Bool} (hx:ev env x=some (.bool b)):cZ P N env (.unOp .not t x) w (.bool (!b)):=mk' λρ hρ o ho=>by
 unfold execOp;rw[ho];simp[hρ _ _ hx,go_sem,Op.unary]
theorem rW {p:Prop} [Decidable p] (hx:ev env x=some (.bool (decide p))):cZ P N env (.unOp .not t x) w (.bool (decide (¬p))):=mk' λρ hρ o ho=>by
 unfold execOp;rw[ho];simp[hρ _ _ hx,go_sem,Op.unary]
theorem Ce {j:IntKind} (hx:ev env x=some (.int j m)) (ht:∃d,P.underlying t=some d) (hu:P.underlying u=some (.int k)):cZ P N env (.convert t u x) w (.int k (k.wrap m)):=mk' λρ hρ o ho=>by
 obtain⟨d,hd⟩:=ht;unfold execOp;rw[ho];simp[hρ _ _ hx,go_sem,convert,run_underlying hd,run_underlying hu,Conv.intToInt]
theorem yH {b:Option Addr} {c l:Nat} {e:TypeId} (hx:ev env x=some (.slice b l c)) (ht:P.underlying t=some (.slice e)):
  cZ P N env (.call {callee:=.builtin .len,args:=#[x],argTypes:=#[t]}) w (.int .i64 l):=mk' λρ hρ o ho=>by
 unfold execOp;rw[ho];simp[hρ _ _ hx,go_sem,resolve,invoke,builtin,Builtin.len_,run_underlying ht,goInt]
theorem xb {g:FuncId} {xs:Array Operand} {ts:Array TypeId} {vs:List Value} {cap:Array Value} {w:World}
  (ja:∀args w,(callFunc g args).run P w=.ok (.enter g args) w) (hx:ev env x=some (.func (.func g) #[] cap)) (hargs:lF env xs.toList=some vs):
  Enters P N env (.call {callee:=.value x,args:=xs,argTypes:=ts}) w g (vs++cap.toList).toArray:=λa ha o ho=>by
 have h1:xs.map a.eval=vs.toArray:=by
  rw[<-ha.lF hargs,<-List.map_toArray]
 unfold execOp;rw[ho];simp only[resolve,Deferred.ofValue,ha.ev hx,h1,Sem.run_bind,Sem.run_pure,Result.andThen_ok,invoke];rw[ja];simp
end
theorem wrap_i64 {n:Int} (h1:-9223372036854775808<=n) (h2:n<=9223372036854775807):IntKind.i64.wrap n=n:=IntWalk.i64_in n ⟨h1,h2⟩
theorem wrap_u64 {n:Int} (h1:0<=n) (h2:n<=18446744073709551615):IntKind.u64.wrap n=n:=by
 have h:IntKind.u64.wrap n=n%18446744073709551616:=by simp[IntKind.wrap,IntKind.signed,IntKind.bits]
 rw[h];exact Int.emod_eq_of_lt h1 ah
theorem eq_int {k:IntKind} {a b:Int} (h:a=b):Value.int k a=Value.int k b:=by rw[h]
section
variable {P:Program} {N:Nat} {env:Env} {w:World} {x y:Operand} {t u:TypeId} {m n:Int}
theorem Kk (hx:ev env x=some (.int .i64 m)) (hy:ev env y=some (.int .i64 n)) (h1:-9223372036854775808<=m+n) (h2:m+n<=9223372036854775807):
  cZ P N env (.binOp .add t x y u) w (.int .i64 (m+n)):=by
 have:=val_add (P:=P) (N:=N) (w:=w) (t:=t) (u:=u) hx hy;rwa [wrap_i64 h1 h2] at this
theorem W5 (hx:ev env x=some (.int .i64 m)) (hy:ev env y=some (.int .i64 n)) (h1:-9223372036854775808<=m-n) (h2:m-n<=9223372036854775807):
  cZ P N env (.binOp .sub t x y u) w (.int .i64 (m-n)):=by
 have:=val_sub (P:=P) (N:=N) (w:=w) (t:=t) (u:=u) hx hy;rwa [wrap_i64 h1 h2] at this
theorem W6 (hx:ev env x=some (.int .i64 m)) (hy:ev env y=some (.int .i64 n)) (h1:-9223372036854775808<=m*n) (h2:m*n<=9223372036854775807):
  cZ P N env (.binOp .mul t x y u) w (.int .i64 (m*n)):=by
 have:=val_mul (P:=P) (N:=N) (w:=w) (t:=t) (u:=u) hx hy;rwa [wrap_i64 h1 h2] at this
theorem W7 (hx:ev env x=some (.int .i64 m)) (hy:ev env y=some (.int .i64 n)) (h0:0<=m) (h1:1<=n) (h2:m<=9223372036854775807):
  cZ P N env (.binOp .quo t x y u) w (.int .i64 (m/n)):=by
 have:=WY (P:=P) (N:=N) (w:=w) (t:=t) (u:=u) hx hy ah;have h3:m/n<=m:=Int.ediv_le_self _ h0;have h4:0<=m/n:=Int.ediv_nonneg h0 ah;rwa [Int.tdiv_eq_ediv_of_nonneg h0,wrap_i64 ah ah] at this
theorem W8 (hx:ev env x=some (.int .i64 m)) (hy:ev env y=some (.int .i64 n)) (h0:0<=m) (h1:1<=n):
  cZ P N env (.binOp .rem t x y u) w (.int .i64 (m%n)):=by
 have:=WZ (P:=P) (N:=N) (w:=w) (t:=t) (u:=u) hx hy ah;rwa [Int.tmod_eq_emod_of_nonneg h0] at this
end
section
variable {P:Program} {N:Nat} {env:Env} {w:World} {x y:Operand} {t u:TypeId} {m n r:Int} {k j:IntKind}
theorem W9 (hx:ev env x=some (.int k m)) (hy:ev env y=some (.int j n)) (hn:0<=n) (h:m.fdiv (2^min n.toNat k.bits)=r):cZ P N env (.binOp .shr t x y u) w (.int k r):=by
 subst h;exact w_ hx hy hn
theorem D8 (hx:ev env x=some (.int j m)) (ht:∃d,P.underlying t=some d) (hu:P.underlying u=some (.int k)) (h:k.wrap m=r):cZ P N env (.convert t u x) w (.int k r):=by
 subst h;exact Ce hx ht hu
end
def nJ (w w':World):Prop:=w.drawn<=w'.drawn
theorem nJ.refl {w w':World} (h:w'.drawn=w.drawn):nJ w w':=Nat.le_of_eq h.symm
theorem nJ.succ {w w':World} (h:w'.drawn=w.drawn+1):nJ w w':=by unfold nJ;omega
theorem nJ.trans {w w' w'':World} (h:nJ w w') (h':nJ w' w''):nJ w w'':=Nat.le_trans h h'
structure Ext (A:Nat->Prop) (w w':World):Prop where
 os:w'.os=w.os
 tape:w'.tape=w.tape
 output:w'.output=w.output
 size:w.heap.size<=w'.heap.size
 block:∀b,b<w.heap.size->¬A b->w'.heap[b]?=w.heap[b]?
 drawn:nJ w w'
def No:Nat->Prop:=λ_=>False
def One (b:Nat):Nat->Prop:=λx=>x=b
def c9 (v:Value):Nat->Prop:=λx=>v.ownBlock=some x
section
variable {A A' M M':Nat->Prop} {w w' w'':World}
theorem Ext.refl (A:Nat->Prop) (w:World):Ext A w w:=⟨rfl,rfl,rfl,Nat.le_refl _,λ_ _ _=>rfl,nJ.refl rfl⟩
theorem Ext.trans (h:Ext A w w') (h':Ext A' w' w'') (hA:∀b,b<w.heap.size->A' b->A b):Ext A w w'':=
 ⟨h'.os.trans h.os,h'.tape.trans h.tape,h'.output.trans h.output,Nat.le_trans h.size h'.size,λb hb hn=>
  (h'.block b (Nat.lt_of_lt_of_le hb h.size) (λha=>hn (hA b hb ha))).trans (h.block b hb hn),nJ.trans h.drawn h'.drawn⟩
theorem Ext.mono (h:Ext A w w') (hA:∀b,b<w.heap.size->A b->A' b):Ext A' w w':=
 ⟨h.os,h.tape,h.output,h.size,λb hb hn=>h.block b hb (λha=>hn (hA b hb ha)),h.drawn⟩
theorem Ext.drew (A:Nat->Prop) (w:World):Ext A w {w with drawn:=w.drawn+1}:=⟨rfl,rfl,rfl,Nat.le_refl _,λ_ _ _=>rfl,nJ.succ rfl⟩
theorem Ext.below (h:Ext A w w') {B:Nat} (hB:B<=w.heap.size) (hA:∀b,A b->B<=b):Go.RowKit.Below B w w':=
 ⟨h.os,h.tape,h.output,h.size,λk hk=>h.block k (Nat.lt_of_lt_of_le hk hB) (λha=>by have:=hA k ha;omega)⟩
theorem Ext.vj (h:Ext A w w') {b:Nat} {o:Obj} (hb:w.heap[b]?=some o) (hn:¬A b):w'.heap[b]?=some o:=
 (h.block b (Array.getElem?_eq_some_iff.1 hb).1 hn).trans hb
theorem rX {b:Nat} {o:Obj} (hb:w.heap[b]?=some o):b<w.heap.size:=(Array.getElem?_eq_some_iff.1 hb).1
end
class aZ (α:Type) where
 sz:Nat
 agg:Bool
 flat:agg=false->sz=1
 rep:Array Obj->(Nat->Prop)->α->List Value->Prop
 len:∀{h M x vs},rep h M x vs->vs.length=sz
 one:∀{h M x vs},rep h M x vs->∀v∈vs,v.oneCell'=true
 keep:∀{h h' M x vs},rep h M x vs->(∀b,b<h.size->¬M b->h'[b]?=h[b]?)->rep h' M x vs
 sub:∀{h M M' x vs},rep h M x vs->(∀b,b<h.size->M' b->M b)->rep h M' x vs
open aZ
instance:aZ Int where
 sz:=1
 agg:=false
 flat _:=rfl
 rep _ _ x vs:=vs=[.int .i64 x]
 len h:=by subst h;rfl
 one h:=by subst h;intro v hv;simp at hv;subst hv;rfl
 keep h _:=h
 sub h _:=h
instance:aZ Nat where
 sz:=1
 agg:=false
 flat _:=rfl
 rep _ _ x vs:=vs=[.int .i64 (x:Int)]
 len h:=by subst h;rfl
 one h:=by subst h;intro v hv;simp at hv;subst hv;rfl
 keep h _:=h
 sub h _:=h
structure PB (k:IntKind) where
 n:Int
abbrev W_:=PB .u64
instance {k:IntKind}:aZ (PB k) where
 sz:=1
 agg:=false
 flat _:=rfl
 rep _ _ x vs:=vs=[.int k x.n]
 len h:=by subst h;rfl
 one h:=by subst h;intro v hv;simp at hv;subst hv;rfl
 keep h _:=h
 sub h _:=h
instance:aZ Bool where
 sz:=1
 agg:=false
 flat _:=rfl
 rep _ _ x vs:=vs=[.bool x]
 len h:=by subst h;rfl
 one h:=by subst h;intro v hv;simp at hv;subst hv;rfl
 keep h _:=h
 sub h _:=h
instance:aZ ByteArray where
 sz:=1
 agg:=false
 flat _:=rfl
 rep _ _ x vs:=vs=[.string x]/\x.size<=9223372036854775807
 len h:=by obtain⟨rfl,_⟩:=h;rfl
 one h:=by obtain⟨rfl,_⟩:=h;intro v hv;simp at hv;subst hv;rfl
 keep h _:=h
 sub h _:=h
instance {α β:Type} [aZ α] [aZ β]:aZ (α×β) where
 sz:=sz α+sz β
 agg:=true
 flat h:=by cases h
 rep h M x vs:=∃us ws,vs=us++ws/\rep h M x.1 us/\rep h M x.2 ws
 len h:=by obtain⟨us,ws,rfl,h1,h2⟩:=h;rw[List.length_append,len h1,len h2]
 one h:=by
  obtain⟨us,ws,rfl,h1,h2⟩:=h;intro v hv;rcases List.mem_append.1 hv with hv|hv
  ·exact one h1 v hv
  ·exact one h2 v hv
 keep h hk:=by obtain⟨us,ws,e,h1,h2⟩:=h;exact⟨us,ws,e,keep h1 hk,keep h2 hk⟩
 sub h hk:=by obtain⟨us,ws,e,h1,h2⟩:=h;exact⟨us,ws,e,sub h1 hk,sub h2 hk⟩
@[reducible] def aZ.via {α β:Type} [aZ β] (f:α->β):aZ α where
 sz:=sz β
 agg:=true
 flat h:=by cases h
 rep h M x vs:=rep h M (f x) vs
 len h:=len h
 one h:=one h
 keep h hk:=keep h hk
 sub h hk:=sub h hk
def dh (cs:Array Value) (o n:Nat):List Value:=(cs.toList.drop o).take n
def At {α:Type} [aZ α] (h:Array Obj) (M:Nat->Prop) (b o:Nat) (x:α):Prop:=
 ¬M b/\∃cs ty e8,h[b]?=some (.cells cs ty e8)/\rep h M x (dh cs o (sz α))
def vA {α:Type} [aZ α] (h:Array Obj) (M:Nat->Prop) (b o:Nat) (xs:List α):Prop:=
 ¬M b/\∃cs ty e8,h[b]?=some (.cells cs ty e8)/\o+xs.length*sz α<=cs.size/\∀i (hi:i<xs.length),rep h M xs[i] (dh cs (o+i*sz α) (sz α))
section
variable {α:Type} [aZ α] {h h':Array Obj} {M M':Nat->Prop} {b o:Nat} {x:α} {xs:List α}
theorem At.keep (ha:At h M b o x) (hk:∀b,b<h.size->¬M b->h'[b]?=h[b]?):At h' M b o x:=by
 obtain⟨hb,cs,ty,e8,hc,hr⟩:=ha;exact⟨hb,cs,ty,e8,(hk b (Array.getElem?_eq_some_iff.1 hc).1 hb).trans hc,aZ.keep hr hk⟩
theorem At.sub (ha:At h M b o x) (hk:∀b,b<h.size->M' b->M b):At h M' b o x:=by
 obtain⟨hb,cs,ty,e8,hc,hr⟩:=ha;exact⟨λh'=>hb (hk b (Array.getElem?_eq_some_iff.1 hc).1 h'),cs,ty,e8,hc,aZ.sub hr hk⟩
theorem vA.keep (ha:vA h M b o xs) (hk:∀b,b<h.size->¬M b->h'[b]?=h[b]?):vA h' M b o xs:=by
 obtain⟨hb,cs,ty,e8,hc,hl,hr⟩:=ha;exact⟨hb,cs,ty,e8,(hk b (Array.getElem?_eq_some_iff.1 hc).1 hb).trans hc,hl,λi hi=>aZ.keep (hr i hi) hk⟩
theorem vA.sub (ha:vA h M b o xs) (hk:∀b,b<h.size->M' b->M b):vA h M' b o xs:=by
 obtain⟨hb,cs,ty,e8,hc,hl,hr⟩:=ha;exact⟨λh'=>hb (hk b (Array.getElem?_eq_some_iff.1 hc).1 h'),cs,ty,e8,hc,hl,λi hi=>aZ.sub (hr i hi) hk⟩
theorem vA.vj (ha:vA h M b o xs) (i:Nat) (hi:i<xs.length):At h M b (o+i*sz α) xs[i]:=by
 obtain⟨hb,cs,ty,e8,hc,hl,hr⟩:=ha;exact⟨hb,cs,ty,e8,hc,hr i hi⟩
end
instance {α:Type} [aZ α]:aZ (List α) where
 sz:=1
 agg:=false
 flat _:=rfl
 rep h M xs vs:=∃a c,vs=[.slice a xs.length c]/\xs.length<=c/\xs.length<=9223372036854775807/\(xs=[]\/∃b o,a=some ⟨b,o,none⟩/\vA h M b o xs)
 len h:=by obtain⟨a,c,rfl,_⟩:=h;rfl
 one h:=by obtain⟨a,c,rfl,_⟩:=h;intro v hv;simp at hv;subst hv;rfl
 keep h hk:=by
  obtain⟨a,c,e,h1,h2,h3⟩:=h;exact⟨a,c,e,h1,h2,h3.imp id (λ⟨b,o,ha,hs⟩=>⟨b,o,ha,hs.keep hk⟩)⟩
 sub h hk:=by
  obtain⟨a,c,e,h1,h2,h3⟩:=h;exact⟨a,c,e,h1,h2,h3.imp id (λ⟨b,o,ha,hs⟩=>⟨b,o,ha,hs.sub hk⟩)⟩
def av {α:Type} [aZ α] (w:World) (M:Nat->Prop) (x:α) (v:Value):Prop:=∃vs,rep w.heap M x vs/\v=if agg α then .agg vs.toArray else vs.headD undef
def bJ {α:Type} [aZ α] (w:World) (M:Nat->Prop) (x:α) (b o:Nat):Prop:=At w.heap M b o x
section
variable {α β:Type} [aZ α] [aZ β] {w w':World} {A M M':Nat->Prop} {x:α} {xs:List α} {v:Value} {b o:Nat}
theorem av.ext (hr:av w M x v) (he:Ext A w w') (hA:∀b,b<w.heap.size->A b->M b):av w' M x v:=
 let⟨vs,h1,h2⟩:=hr;⟨vs,aZ.keep h1 (λb hb hn=>he.block b hb (λha=>hn (hA b hb ha))),h2⟩
theorem av.sub (hr:av w M x v) (hA:∀b,b<w.heap.size->M' b->M b):av w M' x v:=let⟨vs,h1,h2⟩:=hr;⟨vs,aZ.sub h1 hA,h2⟩
theorem bJ.ext (hr:bJ w M x b o) (he:Ext A w w') (hA:∀b,b<w.heap.size->A b->M b):bJ w' M x b o:=
 At.keep hr (λb hb hn=>he.block b hb (λha=>hn (hA b hb ha)))
theorem bJ.sub (hr:bJ w M x b o) (hA:∀b,b<w.heap.size->M' b->M b):bJ w M' x b o:=At.sub hr hA
theorem jc {n:Int}:av w M n v↔v=.int .i64 n:=⟨λ⟨vs,h,e⟩=>by subst h;exact e,λh=>⟨_,rfl,h⟩⟩
theorem kG {n:Nat}:av w M n v↔v=.int .i64 (n:Int):=⟨λ⟨vs,h,e⟩=>by subst h;exact e,λh=>⟨_,rfl,h⟩⟩
theorem m_ {n:Bool}:av w M n v↔v=.bool n:=⟨λ⟨vs,h,e⟩=>by subst h;exact e,λh=>⟨_,rfl,h⟩⟩
theorem ko:av w M xs v↔∃a c,v=.slice a xs.length c/\xs.length<=c/\xs.length<=9223372036854775807/\(xs=[]\/∃b o,a=some ⟨b,o,none⟩/\vA w.heap M b o xs):=
 ⟨λ⟨vs,h,e⟩=>by obtain⟨a,c,rfl,h⟩:=h;exact⟨a,c,e,h⟩,λ⟨a,c,h⟩=>⟨_,⟨a,c,rfl,h.2⟩,h.1⟩⟩
theorem gu:av w M ([]:List α) (.slice none 0 0):=ko.2 ⟨none,0,rfl,Nat.le_refl _,by simp,.inl rfl⟩
theorem bJ.fst {p:α×β} (h:bJ w M p b o):bJ w M p.1 b o:=by
 obtain⟨hb,cs,ty,e8,hc,us,ws,he,h1,h2⟩:=h;refine⟨hb,cs,ty,e8,hc,?_⟩;have:dh cs o (sz α)=us:=by
  have e:dh cs o (sz (α×β))=us++ws:=he;have hl:=aZ.len h1;have:dh cs o (sz α)=(dh cs o (sz (α×β))).take (sz α):=by
   simp only[dh,List.take_take];congr 1;exact(Nat.min_eq_left (Nat.le_add_right _ _)).symm
  rw[this,e,<-hl,List.take_left]
 rw[this];exact h1
theorem bJ.snd {p:α×β} (h:bJ w M p b o):bJ w M p.2 b (o+sz α):=by
 obtain⟨hb,cs,ty,e8,hc,us,ws,he,h1,h2⟩:=h;refine⟨hb,cs,ty,e8,hc,?_⟩;have:dh cs (o+sz α) (sz β)=ws:=by
  have e:dh cs o (sz (α×β))=us++ws:=he;have hl:=aZ.len h1;have:dh cs (o+sz α) (sz β)=(dh cs o (sz (α×β))).drop (sz α):=by
   simp only[dh,List.drop_take,List.drop_drop];congr 1;exact(Nat.add_sub_cancel_left _ _).symm
  rw[this,e,<-hl,List.drop_left]
 rw[this];exact h2
theorem av.D9 (h:av w M x v) (hx:aZ.agg α=false):rep w.heap M x [v]:=by
 obtain⟨vs,hr,hv⟩:=h;have hl:=aZ.len hr;rw[aZ.flat hx] at hl;obtain⟨u,rfl⟩:=List.length_eq_one_iff.1 hl;simp only[hx,Bool.false_eq_true,if_false,List.headD_cons] at hv;subst hv;exact hr
theorem tP (h:rep w.heap M x [v]) (hx:aZ.agg α=false):av w M x v:=⟨[v],h,by simp[hx]⟩
def gM (P:Program) (t:TypeId):Option Bool:=match P.underlying t with|some (.struct _)=>some true|some (.array _ _)=>some true|some _=>some false|none=>none
def gX (P:Program) (t:TypeId):Option Nat:=(P.info? t).map (·.size)
variable {P:Program} {N:Nat} {env:Env} {t u:TypeId} {y z:Operand}
theorem tQ {b:Bool} (h:gM P t=some b) (w:World): (isAgg t).run P w=.ok b w:=by
 unfold gM at h;split at h<;>rename_i hu<;>first|(simp only[Option.some.injEq] at h;subst h)|cases h
 all_goals simp[isAgg,run_underlying hu]
theorem nc {n:Nat} (h:gX P t=some n) (w:World): (sizeOf t).run P w=.ok n w:=by
 unfold gX at h;cases hi:P.info? t with
 |none=>rw[hi] at h;cases h
 |some i=>rw[hi] at h;simp only[Option.map_some,Option.some.injEq] at h;subst h;simp[sizeOf,typeInfo,hi]
theorem PD {cs:Array Value} {o n:Nat} {vs:List Value} (h:dh cs o n=vs) (hl:vs.length=n) {j:Nat} (hj:j<n):cs[o+j]?=vs[j]?:=by
 subst h;simp only[dh,List.getElem?_take,List.getElem?_drop,if_pos hj];simp
theorem qt (b o n:Nat): (⟨b,o,none⟩:Addr).add n=⟨b,o+n,none⟩:=by unfold Addr.add;split<;>simp_all
theorem bJ.load (h:bJ w M x b o) (ha:gM P t=some false) (hx:aZ.agg α=false) (hy:ev env y=some (.pointer (some ⟨b,o,none⟩))):
  ∃v,av w M x v/\∀w',w'.heap[b]?=w.heap[b]?->cZ P N env (.load t y) w' v:=by
 obtain⟨hb,cs,ty,e8,hc,hr⟩:=h;have h1:sz α=1:=aZ.flat hx;obtain⟨v,hv⟩:∃v,dh cs o (sz α)=[v]:=List.length_eq_one_iff.1 (by rw[len hr,h1]);rw[hv] at hr;refine⟨v,⟨[v],hr,by simp[hx]⟩,λw' hw=>mk' λρ hρ fN ho=>?_⟩;rw[<-hw] at hc;have h2:cs[o]?=some v:=by have:=PD (j:=0) hv (by simp[h1]) ah;simpa using this
 unfold execOp;rw[ho];simp[hρ _ _ hy,go_sem,Instr.loadAt,Instr.sureAddr,loadVar,tQ ha,World.cell?,hc,h2]
theorem bJ.Cf (h:bJ w M x b o) (ha:gM P t=some true) (hs:gX P t=some (sz α)) (hx:aZ.agg α=true) (hy:ev env y=some (.pointer (some ⟨b,o,none⟩))):
  ∃v,av w M x v/\∀w',w'.heap[b]?=w.heap[b]?->cZ P N env (.load t y) w' v:=by
 obtain⟨hb,cs,ty,e8,hc,hr⟩:=h;refine⟨.agg (dh cs o (sz α)).toArray,⟨_,hr,by simp only[hx,if_true]⟩,λw' hw=>mk' λρ hρ fN ho=>?_⟩;rw[<-hw] at hc;have hl:=len hr;have hcells: (loadCells ⟨b,o,none⟩ (sz α)).run P w'=.ok (dh cs o (sz α)).toArray w':=by
  have:=run_loadCells_list (P:=P) w' ⟨b,o,none⟩ (dh cs o (sz α)) (λj v hv=>by
   have hj:j<sz α:=by rw[<-hl];exact(List.getElem?_eq_some_iff.1 hv).1
   rw[qt,cell_of_row w' b (o+j) cs ty e8 hc,PD rfl hl hj,hv])
  rwa [hl] at this
 simp only[loadCells] at hcells;unfold execOp;rw[ho];simp[hρ _ _ hy,go_sem,Instr.loadAt,Instr.sureAddr,loadVar,tQ ha,nc hs,loadCells,hcells]
theorem yJ {cs:List Value} {ty:TypeId} {e8:Nat×Nat} (hc:w.heap[b]?=some (.cells cs.toArray ty e8)) (ha:gM P t=some false) (hv:cs[o]?=some v)
  (hy:ev env y=some (.pointer (some ⟨b,o,none⟩))):cZ P N env (.load t y) w v:=mk' λρ hρ fN ho=>by
 have h2:cs.toArray[o]?=some v:=by simpa using hv
 unfold execOp;rw[ho];simp[hρ _ _ hy,go_sem,Instr.loadAt,Instr.sureAddr,loadVar,tQ ha,World.cell?,hc,h2]
theorem om {cs:List Value} {ty:TypeId} {e8:Nat×Nat} {n:Nat} {vs:List Value} (hc:w.heap[b]?=some (.cells cs.toArray ty e8)) (ha:gM P t=some true) (hs:gX P t=some n)
  (hv: (cs.drop o).take n=vs) (hl:vs.length=n) (hy:ev env y=some (.pointer (some ⟨b,o,none⟩))):cZ P N env (.load t y) w (.agg vs.toArray):=mk' λρ hρ fN ho=>by
 have hcells: (loadCells ⟨b,o,none⟩ n).run P w=.ok vs.toArray w:=by
  have:=run_loadCells_list (P:=P) w ⟨b,o,none⟩ vs (λj u hu=>by
   have hj:j<n:=by rw[<-hl];exact(List.getElem?_eq_some_iff.1 hu).1
   rw[qt,cell_of_row w b (o+j) cs.toArray ty e8 hc];rw[<-hu,<-hv,List.getElem?_take,if_pos hj,List.getElem?_drop];simp)
  rwa [hl] at this
 simp only[loadCells] at hcells;unfold execOp;rw[ho];simp[hρ _ _ hy,go_sem,Instr.loadAt,Instr.sureAddr,loadVar,tQ ha,nc hs,loadCells,hcells]
def Ch (P:Program) (t:TypeId) (f:Nat):Option Nat:=match P.underlying t with
 |some (.struct fs)=>match fs[f]? with
  |some fl=>match gX P fl.type with|some (_+1)=>some fl.offset|_=>none
  |none=>none
 |_=>none
theorem Kl {f off:Nat} (hf:Ch P t f=some off) (hy:ev env y=some (.pointer (some ⟨b,o,none⟩))):
  cZ P N env (.fieldAddr t y f) w (.pointer (some ⟨b,o+off,none⟩)):=mk' λρ hρ fN ho=>by
 unfold Ch at hf;split at hf
 ·rename_i fs hu;split at hf
  ·rename_i fl hfl;split at hf
   ·rename_i n hn;simp only[Option.some.injEq] at hf;subst hf;unfold execOp;rw[ho];simp[hρ _ _ hy,go_sem,Instr.fieldAt,run_underlying hu,hfl,Instr.sureAddr,fieldPlace,nc hn,qt]
   ·cases hf
  ·cases hf
 ·cases hf
def jS (P:Program) (t:TypeId):Option (TypeId×Nat):=match P.underlying t with
 |some (.slice e)=>match gX P e with|some n=>some (e,n)|none=>none
 |_=>none
theorem Km {e n l c:Nat} {k:IntKind} {i:Int} (hf:jS P t=some (e,n)) (hy:ev env y=some (.slice (some ⟨b,o,none⟩) l c)) (hz:ev env z=some (.int k i))
  (h0:0<=i) (h1:i<l):cZ P N env (.indexAddr t y z) w (.pointer (some ⟨b,o+i.toNat*n,none⟩)):=mk' λρ hρ fN ho=>by
 unfold jS at hf;split at hf
 ·rename_i e' hu;split at hf
  ·rename_i n' hn;simp only[Option.some.injEq,Prod.mk.injEq] at hf;obtain⟨rfl,rfl⟩:=hf;unfold execOp;rw[ho];simp only[hρ _ _ hy,hρ _ _ hz];simp[go_sem,Instr.indexAt,run_underlying hu,asIntOf,nc hn,h0,h1,qt]
  ·cases hf
 ·cases hf
theorem av.index (h:av w M xs v) (hy:ev env y=some v) {e:Nat} {k:IntKind} {i:Int} (hf:jS P t=some (e,sz α)) (hz:ev env z=some (.int k i))
  (h0:0<=i) (h1:i<xs.length):∃b o,bJ w M (xs[i.toNat]'ah) b o/\∀w',cZ P N env (.indexAddr t y z) w' (.pointer (some ⟨b,o,none⟩)):=by
 obtain⟨a,c,rfl,hc,hm,hs⟩:=ko.1 h;rcases hs with rfl|⟨b,o,rfl,hs⟩
 ·simp at h1;omega
 ·exact⟨b,o+i.toNat*sz α,hs.vj _ _,λw'=>Km hf hy hz h0 h1⟩
theorem av.len (h:av w M xs v):∃a c,v=.slice a xs.length c:=let⟨a,c,e,_⟩:=ko.1 h;⟨a,c,e⟩
theorem av.le (h:av w M xs v):xs.length<=9223372036854775807:=let⟨a,c,_,_,e,_⟩:=ko.1 h;e
theorem av.Ci (h:av w M xs v) (hy:ev env y=some v) {e:TypeId} (ht:P.underlying t=some (.slice e)):
  ∀w',cZ P N env (.call {callee:=.builtin .len,args:=#[y],argTypes:=#[t]}) w' (.int .i64 xs.length):=λw'=>by
 obtain⟨a,c,rfl⟩:=h.len;exact yH hy ht
theorem av.one (h:av w M x v) (hx:aZ.agg α=false):v.cells=#[v]/\v.oneCell'=true:=by
 obtain⟨vs,h1,h2⟩:=h;have hl:=aZ.len h1;rw[aZ.flat hx] at hl;obtain⟨u,rfl⟩:=List.length_eq_one_iff.1 hl;simp only[hx,Bool.false_eq_true,if_false,List.headD_cons] at h2;subst h2;have h3:=aZ.one h1 v aF;refine⟨?_,h3⟩;cases v<;>first|rfl|simp[Value.oneCell'] at h3
theorem av.many (h:av w M x v) (hx:aZ.agg α=true):∃vs,v=.agg vs.toArray/\vs.length=sz α/\(∀u∈vs,u.oneCell'=true)/\rep w.heap M x vs:=by
 obtain⟨vs,h1,h2⟩:=h;simp only[hx,if_true] at h2;exact⟨vs,h2,aZ.len h1,aZ.one h1,h1⟩
end
end Go.K
namespace Go.K
open aZ
structure New (w w':World) (o:Obj):Prop where
 ext:Ext No w w'
 at_:w'.heap[w.heap.size]?=some o
 size:w'.heap.size=w.heap.size+1
structure As (w w':World) (b:Nat) (o:Obj):Prop where
 ext:Ext (One b) w w'
 at_:w'.heap[b]?=some o
 size:w'.heap.size=w.heap.size
theorem xd (w:World) (o:Obj):New w (w.alloc o) o:=
 ⟨⟨rfl,rfl,rfl,by simp,λb hb _=>heap_alloc_old w o hb,nJ.refl rfl⟩,heap_alloc_new w o,by simp⟩
theorem yK (w:World) (o:Obj):New w (w.drew.alloc o) o:=
 ⟨⟨rfl,rfl,rfl,by simp,λb hb _=>heap_alloc_old w.drew o hb,nJ.succ rfl⟩,heap_alloc_new w.drew o,by simp⟩
theorem Kn {w:World} {b:Nat} {old cs:Array Value} {t:TypeId} {fr:Nat×Nat} (h:w.heap[b]?=some (.cells old t fr)):As w (w.setRow b cs) b (.cells cs t fr):=
 ⟨⟨rfl,rfl,rfl,by simp[World.setRow],λk _ hk=>setRow_other w b k cs (λe=>hk e),nJ.refl rfl⟩,setRow_heap w b old cs t fr h,by simp[World.setRow]⟩
def vB (P:Program) (t:TypeId):Option (List Value):=((P.info? t).bind (·.zero)).map (·.cells.toList)
section
variable {P:Program} {N:Nat} {env:Env} {w:World} {x y z:Operand} {t u e:TypeId} {v:Value}
theorem D_ {l:List Value} (h:vB P t=some l) (w:World):∃z,(zeroValue t).run P w=.ok z w/\z.cells=l.toArray:=by
 unfold vB at h;cases hi:P.info? t with
 |none=>rw[hi] at h;cases h
 |some i=>
  rw[hi] at h;cases hz:i.zero with
  |none=>simp[hz] at h
  |some z=>simp[hz] at h;subst h;exact⟨z,by simp[zeroValue,typeInfo,hi,hz],by simp⟩
theorem rq {op:Op} {T:Value->World->Prop} (h:∀ρ:Operand->Value,(∀x v,ev env x=some v->ρ x=v)->∀o:Oper,o.op=op->
  ∃v w',((execOp ρ o).run P w=.ok (.value v) w'\/((execOp ρ o).run P w=.ok .skip w'/\v=undef))/\T v w'):ig P N env op w T:=
 λa ha o ho=>h a.eval (λx v hx=>ha.ev hx) o ho
theorem Xa {l:List Value} (hz:vB P t=some l):
  ig P N env (.alloc t) w (λv w'=>v=.pointer (some ⟨w.heap.size,0,none⟩)/\New w w' (.cells l.toArray t)):=rq λρ hρ o ho=>by
 obtain⟨lU,h1,h2⟩:=D_ hz w;refine⟨_,_,.inl ?_,rfl,xd w _⟩;unfold execOp;rw[ho];simp[go_sem,Instr.alloc,h1,newVar,newRow];exact congrArg (λc=>w.alloc (.cells c t)) h2
theorem PE {cs:List Value} (hx:ev env x=some v) (hc:v.cells=cs.toArray):
  ig P N env (.box t x) w (λu w'=>u=.pointer (some ⟨w.heap.size,0,none⟩)/\New w w' (.cells cs.toArray t)):=rq λρ hρ o ho=>by
 refine⟨_,_,.inl ?_,rfl,xd w _⟩;unfold execOp;rw[ho];simp[hρ _ _ hx,go_sem,Instr.box,newVar,newRow];exact congrArg (λc=>w.alloc (.cells c t)) hc
theorem Xb {b o n:Nat} {cs vs:List Value} {ty:TypeId} (hs:gX P t=some n) (hv:v.cells=vs.toArray) (hl:vs.length=n) (h1:∀u∈vs,u.oneCell'=true)
  (hb:w.heap[b]?=some (.cells cs.toArray ty (0,0))) (ho:o+n<=cs.length):
  (storeVar t ⟨b,o,none⟩ v).run P w=.ok () (w.setRow b (cs.take o++vs++cs.drop (o+n)).toArray):=by
 have hst:=run_storeCells_at P b o ty vs 0 cs.toArray w hb (by simpa[hl] using ho) h1;simp only[Nat.add_zero,hl] at hst;unfold storeVar;simp[nc hs,hv,hl,hst]
theorem GY {b o n:Nat} {cs vs:List Value} {ty:TypeId} (hx:ev env x=some (.pointer (some ⟨b,o,none⟩))) (hy:ev env y=some v) (hs:gX P t=some n)
  (hv:v.cells=vs.toArray) (hl:vs.length=n) (h1:∀u∈vs,u.oneCell'=true) (hb:w.heap[b]?=some (.cells cs.toArray ty (0,0))) (ho:o+n<=cs.length):
  ig P N env (.store t x y) w (λu w'=>u=undef/\As w w' b (.cells (cs.take o++vs++cs.drop (o+n)).toArray ty (0,0))):=rq λρ hρ fN ij=>by
 refine⟨undef,_,.inr ⟨?_,rfl⟩,rfl,Kn hb⟩;unfold execOp;rw[ij];simp only[hρ _ _ hx,hρ _ _ hy,Instr.storeAt,Instr.sureAddr,Sem.run_bind,Sem.run_pure,Result.andThen_ok];rw[Xb hs hv hl h1 hb ho];rfl
theorem Xc {b o:Nat} {cs:List Value} {ty:TypeId} (hx:ev env x=some (.pointer (some ⟨b,o,none⟩))) (hy:ev env y=some v) (hs:gX P t=some 1)
  (hv:v.cells=#[v]) (h1:v.oneCell'=true) (hb:w.heap[b]?=some (.cells cs.toArray ty (0,0))) (ho:o<cs.length):
  ig P N env (.store t x y) w (λu w'=>u=undef/\As w w' b (.cells (cs.set o v).toArray ty (0,0))):=by
 have h:=GY (P:=P) (N:=N) (w:=w) (vs:=[v]) (n:=1) hx hy hs (by simpa using hv) rfl (by simpa using h1) hb ho;have e:cs.take o++[v]++cs.drop (o+1)=cs.set o v:=by
  rw[List.set_eq_take_append_cons_drop,if_pos ho];simp
 rwa [e] at h
end
def kH {α:Type} [aZ α] (w:World) (M:Nat->Prop) (e:TypeId) (v:Value) (ys:List α):Prop:=
 (v=.slice none 0 0/\ys=[])\/
 ∃g cap cs,v=.slice (some ⟨g,0,none⟩) ys.length cap/\M g/\w.heap[g]?=some (.cells cs e (0,0))/\ys.length<=cap/\cs.size=cap*sz α/\
  ∀i (hi:i<ys.length),rep w.heap M ys[i] (dh cs (i*sz α) (sz α))
section
variable {α:Type} [aZ α] {w w':World} {A M M':Nat->Prop} {e:TypeId} {v:Value} {ys zs:List α}
theorem kH.nil:kH w M e (.slice none 0 0) ([]:List α):=.inl ⟨rfl,rfl⟩
theorem kH.ext (h:kH w M e v ys) (he:Ext A w w') (hA:∀b,b<w.heap.size->A b->M b) (hv:∀b,c9 v b->¬A b):kH w' M e v ys:=by
 rcases h with h|⟨g,cap,cs,Ea,hg,hc,h1,h2,h3⟩
 ·exact .inl h
 ·refine .inr ⟨g,cap,cs,Ea,hg,he.vj hc (hv g (by subst Ea;rfl)),h1,h2,λi hi=>aZ.keep (h3 i hi) (λb hb hn=>he.block b hb (λha=>hn (hA b hb ha)))⟩
theorem kH.sub (h:kH w M e v ys) (iD:∀b,b<w.heap.size->M' b->M b) (hv:∀b,c9 v b->M' b):kH w M' e v ys:=by
 rcases h with h|⟨g,cap,cs,Ea,hg,hc,h1,h2,h3⟩
 ·exact .inl h
 ·exact .inr ⟨g,cap,cs,Ea,hv g (by subst Ea;rfl),hc,h1,h2,λi hi=>aZ.sub (h3 i hi) iD⟩
theorem kH.fh (h:kH w M e v ys):∀b,c9 v b->M b/\b<w.heap.size:=by
 intro b hb;rcases h with⟨rfl,_⟩|⟨g,cap,cs,rfl,hg,hc,_⟩
 ·cases hb
 ·simp only[c9,Value.ownBlock,Option.some.injEq] at hb;subst hb;exact⟨hg,rX hc⟩
theorem kH.len (h:kH w M e v ys):∃a c,v=.slice a ys.length c:=by
 rcases h with⟨rfl,rfl⟩|⟨g,cap,cs,rfl,_⟩
 ·exact⟨none,0,rfl⟩
 ·exact⟨_,_,rfl⟩
theorem kH.read (h:kH w M e v ys) (iD:∀b,b<w.heap.size->M' b->M b/\¬c9 v b) (hl:ys.length<=9223372036854775807):av w M' ys v:=by
 rcases h with⟨rfl,rfl⟩|⟨g,cap,cs,rfl,hg,hc,h1,h2,h3⟩
 ·exact gu
 ·refine ko.2 ⟨_,cap,rfl,h1,hl,.inr ⟨g,0,rfl,?_⟩⟩;refine⟨λhm=>(iD g (rX hc) hm).2 rfl,cs,e,_,hc,?_,λi hi=>?_⟩
  ·rw[Nat.zero_add,h2];exact Nat.mul_le_mul_right _ h1
  ·rw[Nat.zero_add];exact aZ.sub (h3 i hi) (λb hb hm=>(iD b hb hm).1)
theorem rY {cs cs':Array Value} {o o' n:Nat} (h:∀j,j<n->cs[o+j]?=cs'[o'+j]?):dh cs o n=dh cs' o' n:=by
 apply List.ext_getElem?;intro j;simp only[dh,List.getElem?_take,List.getElem?_drop];split
 ·rename_i hj;simpa using h j hj
 ·rfl
variable {P:Program} {N:Nat} {env:Env} {x y:Operand} {t u:TypeId} {s:Value}
def qu (P:Program) (t e n bytes:Nat):Bool:=match P.underlying t,P.info? e with
 |some (.slice e'),some i=>e'==e&&i.size==n&&i.bytes==bytes&&(match i.zero with|some z=>z.cells.size==n|none=>false)
 |_,_=>false
theorem yO {n bytes:Nat} (h:qu P t e n bytes=true):∃i z,P.underlying t=some (.slice e)/\P.info? e=some i/\i.size=n/\i.bytes=bytes/\i.zero=some z/\z.cells.size=n:=by
 unfold qu at h;split at h
 ·rename_i e' i hu hi;simp only[Bool.and_eq_true,beq_iff_eq] at h;obtain⟨⟨⟨rfl,h1⟩,h2⟩,h3⟩:=h;cases hz:i.zero with
  |none=>rw[hz] at h3;cases h3
  |some z=>rw[hz] at h3;exact⟨i,z,hu,hi,h1,h2,hz,by simpa using h3⟩
 ·cases h
theorem Ko {bytes:Nat} (hx:ev env x=some v) (hy:ev env y=some s) (hrow:qu P t e (sz α) bytes=true) (hsz:0<sz α)
  (hown:kH w M e v ys) (hsrc:av w M zs s) (hlen: (ys.length+zs.length)*bytes<=140737488355328) (h63:ys.length+zs.length<=140737488355328):
  ig P N env (.call {callee:=.builtin .append,args:=#[x,y],argTypes:=#[t,t]}) w (λv' w'=>
   kH w' (λb=>c9 v' b\/M b) e v' (ys++zs)/\Ext (c9 v) w w'/\(∀b,c9 v' b->c9 v b\/w.heap.size<=b)):=rq λρ hρ fN ij=>by
 obtain⟨i,z,hu,hi,rZ,hby,hz,hzs⟩:=yO hrow;obtain⟨a,c,rfl,hcap,hl0,GZ⟩:=ko.1 hsrc;have key:∃v' w',(Builtin.append_ #[t,t] fN.type #[v,.slice a zs.length c]).run P w=.ok v' w'/\
   kH w' (λb=>c9 v' b\/M b) e v' (ys++zs)/\Ext (c9 v) w w'/\(∀b,c9 v' b->c9 v b\/w.heap.size<=b):=by
  by_cases tR:zs=[]
  ·subst tR;refine⟨v,w,?_,?_,Ext.refl _ _,λb hb=> .inl hb⟩
   ·have hf: (Builtin.firstCells i.size 0 (.slice a 0 c)).run P w=.ok #[] w:=by cases a<;>simp[Builtin.firstCells,loadCells,loadCellsFrom]
    rcases hown with⟨rfl,_⟩|⟨g,cap,cs,rfl,hg,hc,h1,h2,h3⟩
    ·simp[Builtin.append_,run_underlying hu,sizeOf,typeInfo,hi,Builtin.lenOf,hf]
    ·simp[Builtin.append_,run_underlying hu,sizeOf,typeInfo,hi,Builtin.lenOf,hf,h1,storeCells]
   ·rw[List.append_nil];exact hown.sub (λb hb h=>h.elim (λho=>(hown.fh b ho).1) id) (λb hb=> .inl hb)
  ·rcases GZ with h|⟨sb,so,rfl,jH,r5,Eb,Ec,hsc,hsl,Ed⟩
   ·exact absurd h tR
   ·have hm0:0<zs.length:=List.length_pos_iff.2 tR;obtain⟨news,Ee⟩:∃news,news=dh r5 so (zs.length*sz α):=⟨_,rfl⟩
    have hnl:news.length=zs.length*i.size:=by
     rw[Ee,rZ];simp only[dh,List.length_take,List.length_drop,Array.length_toList];omega
    have yP:news.length=zs.length*sz α:=by rw[hnl,rZ]
    have mI:∀j,j<zs.length*sz α->news[j]?=r5[so+j]?:=λj hj=>by
     rw[Ee];simp only[dh,List.getElem?_take,if_pos hj,List.getElem?_drop];simp
    have hnews:∀j v,news[j]?=some v->w.cell? ((⟨sb,so,none⟩:Addr).add j)=some v:=λj v hv=>by
     have hj:j<zs.length*sz α:=by rw[<-yP];exact(List.getElem?_eq_some_iff.1 hv).1
     rw[qt,cell_of_row w sb (so+j) r5 Eb Ec hsc,<-mI j hj,hv]
    have Ef:∀k (hk:k<zs.length),rep w.heap M zs[k] (dh news.toArray (k*sz α) (sz α)):=λk hk=>by
     have:=Ed k hk;rwa [show dh r5 (so+k*sz α) (sz α)=dh news.toArray (k*sz α) (sz α) from rY (λj hj=>by
      have hb:k*sz α+j<zs.length*sz α:=by
       have:=Nat.mul_le_mul_right (sz α) (show k+1<=zs.length from hk);rw[Nat.succ_mul] at this;omega
      rw[show∀m,news.toArray[m]?=news[m]? from λm=>by simp,mI _ hb,Nat.add_assoc])] at this
    have h1c:∀u∈news,u.oneCell'=true:=λu Kq=>by
     obtain⟨j,hj,rfl⟩:=List.mem_iff_getElem.1 Kq;have hjl:j<zs.length*sz α:=by rw[<-yP];exact hj
     have hk:j/sz α<zs.length:=(Nat.div_lt_iff_lt_mul hsz).2 hjl;refine aZ.one (Ef (j/sz α) hk) _ ?_;apply List.mem_iff_getElem?.2;refine⟨j%sz α,?_⟩;have hmod:=Nat.mod_lt j hsz;simp only[dh,List.getElem?_take,if_pos hmod,List.getElem?_drop];rw[Nat.mul_comm,Nat.div_add_mod];simp[hj]
    have fresh:∀(olds:List Value) (cap:Nat) (o:Obj),olds.length=ys.length*sz α->(∀k (hk:k<ys.length),rep w.heap M ys[k] (dh olds.toArray (k*sz α) (sz α)))->
      o=.cells (olds.toArray++news.toArray++Builtin.zeroCells z.cells (cap-(ys.length+zs.length))) e (0,0)->ys.length+zs.length<=cap->
      kH (w.drew.alloc o) (λb=>c9 (.slice (some ⟨w.heap.size,0,none⟩) (ys.length+zs.length) cap) b\/M b) e (.slice (some ⟨w.heap.size,0,none⟩) (ys.length+zs.length) cap) (ys++zs):=by
     intro olds cap o holds Au ho Kr;subst ho;have hnew:=yK w (.cells (olds.toArray++news.toArray++Builtin.zeroCells z.cells (cap-(ys.length+zs.length))) e (0,0));refine .inr ⟨w.heap.size,cap,_,by rw[List.length_append],.inl rfl,hnew.at_,by rw[List.length_append];exact Kr,?_,?_⟩
     ·simp only[Array.size_append,List.size_toArray,size_zeroCells,hzs,holds,yP,<-Nat.add_mul];congr 1;omega
     ·intro k hk;rw[List.length_append] at hk;have hkeep:∀(x:α) (vs:List Value),rep w.heap M x vs->rep (w.drew.alloc (.cells (olds.toArray++news.toArray++Builtin.zeroCells z.cells (cap-(ys.length+zs.length))) e (0,0))).heap
        (λb=>c9 (.slice (some ⟨w.heap.size,0,none⟩) (ys.length+zs.length) cap) b\/M b) x vs:=λx vs hr=>
       aZ.keep (aZ.sub hr (λb hb h=>h.elim (λe=>by simp only[c9,Value.ownBlock,Option.some.injEq] at e;omega) id)) (λb hb _=>hnew.ext.block b hb (λh=>h))
      by_cases tS:k<ys.length
      ·rw[List.getElem_append_left tS];have:=Au k tS;rw[show dh olds.toArray (k*sz α) (sz α)=dh (olds.toArray++news.toArray++Builtin.zeroCells z.cells (cap-(ys.length+zs.length))) (k*sz α) (sz α) from rY (λj hj=>by
        have hb:k*sz α+j<ys.length*sz α:=by
         have:=Nat.mul_le_mul_right (sz α) (show k+1<=ys.length from tS);rw[Nat.succ_mul] at this;omega
        rw[Array.append_assoc,Array.getElem?_append_left (by simpa[holds] using hb)])] at this
       exact hkeep _ _ this
      ·rw[List.getElem_append_right ah];have yQ:k-ys.length<zs.length:=by omega
       have:=Ef (k-ys.length) yQ;rw[show dh news.toArray ((k-ys.length)*sz α) (sz α)=dh (olds.toArray++news.toArray++Builtin.zeroCells z.cells (cap-(ys.length+zs.length))) (k*sz α) (sz α) from rY (λj hj=>by
        have hb: (k-ys.length)*sz α+j<zs.length*sz α:=by
         have:=Nat.mul_le_mul_right (sz α) (show k-ys.length+1<=zs.length from yQ);rw[Nat.succ_mul] at this;omega
        have he:k*sz α=ys.length*sz α+(k-ys.length)*sz α:=by rw[<-Nat.add_mul];congr 1;omega
        rw[Array.getElem?_append_left (by simp only[Array.size_append,List.size_toArray,holds,yP];omega),Array.getElem?_append_right (by simp only[List.size_toArray,holds];omega)];congr 1;simp only[List.size_toArray,holds];omega)] at this
       exact hkeep _ _ this
    rcases hown with⟨rfl,rfl⟩|⟨g,cap,cs,rfl,hg,hc,h1,h2,h3⟩
    ·have hr:=run_append_nil (P:=P) w t fN.type e i z hu hi hz ⟨sb,so,none⟩ zs.length c news hnl hnews hm0 ah
      (by rw[hby];simp only[List.length_nil,Nat.zero_add] at hlen;omega)
     have hfr:=fresh [] (grownCap w zs.length 0 e) _ aF (λk hk=>by simp at hk) rfl (by simpa using grownCap_ge w zs.length 0 e);simp only[List.length_nil,Nat.zero_add,List.nil_append] at hfr;refine⟨_,_,hr,?_,?_,?_⟩
     ·simpa using hfr
     ·exact(yK w _).ext.mono (λb hb h=>h.elim)
     ·intro b hb;simp only[c9,Value.ownBlock,Option.some.injEq] at hb;exact .inr ah
    ·have Ks: (dh cs 0 (ys.length*sz α)).length=ys.length*sz α:=by
      have:=Nat.mul_le_mul_right (sz α) h1;simp only[dh,List.length_take,List.length_drop,Array.length_toList];omega
     have PF:∀j,j<ys.length*sz α->(dh cs 0 (ys.length*sz α))[j]?=cs[j]?:=λj hj=>by
      simp only[dh,List.getElem?_take,if_pos hj,List.getElem?_drop];simp
     have Au:∀k (hk:k<ys.length),rep w.heap M ys[k] (dh (dh cs 0 (ys.length*sz α)).toArray (k*sz α) (sz α)):=λk hk=>by
      have:=h3 k hk;rwa [show dh cs (k*sz α) (sz α)=dh (dh cs 0 (ys.length*sz α)).toArray (k*sz α) (sz α) from rY (λj hj=>by
       have hb:k*sz α+j<ys.length*sz α:=by
        have:=Nat.mul_le_mul_right (sz α) (show k+1<=ys.length from hk);rw[Nat.succ_mul] at this;omega
       rw[show∀m,(dh cs 0 (ys.length*sz α)).toArray[m]?=(dh cs 0 (ys.length*sz α))[m]? from λm=>by simp,PF _ hb])] at this
     by_cases hroom:ys.length+zs.length<=cap
     ·have hbound:ys.length*i.size+news.length<=cs.size:=by
       rw[hnl,rZ,h2,<-Nat.add_mul];exact Nat.mul_le_mul_right _ hroom
      have hr:=run_append_room (P:=P) w t fN.type e i hu hi g ys.length cap cs hc ⟨sb,so,none⟩ zs.length c news hnl hnews h1c hroom hbound;have Kt:=Kn (w:=w) (cs:=(cs.toList.take (ys.length*i.size)++news++cs.toList.drop (ys.length*i.size+news.length)).toArray) hc;refine⟨_,_,hr,.inr ⟨g,cap,_,by rw[List.length_append],.inr hg,Kt.at_,by rw[List.length_append];exact hroom,?_,?_⟩,?_,?_⟩
      ·simp only[List.size_toArray,List.length_append,List.length_take,List.length_drop,Array.length_toList,hnl,rZ] at hbound⊢;omega
      ·intro k hk;rw[List.length_append] at hk;have hkeep:∀(x:α) (vs:List Value),rep w.heap M x vs->rep (w.setRow g (cs.toList.take (ys.length*i.size)++news++cs.toList.drop (ys.length*i.size+news.length)).toArray).heap
         (λb=>c9 (.slice (some ⟨g,0,none⟩) (ys.length+zs.length) cap) b\/M b) x vs:=λx vs hr'=>
        aZ.keep (aZ.sub hr' (λb hb h=>h.elim (λe=>by simp only[c9,Value.ownBlock,Option.some.injEq] at e;subst e;exact hg) id))
         (λb hb hn=>Kt.ext.block b hb (λh=>hn (.inr (by rw[show b=g from h];exact hg))))
       rw[rZ] at hbound;by_cases tS:k<ys.length
       ·rw[List.getElem_append_left tS];have:=h3 k tS;rw[show dh cs (k*sz α) (sz α)=dh (cs.toList.take (ys.length*i.size)++news++cs.toList.drop (ys.length*i.size+news.length)).toArray (k*sz α) (sz α) from rY (λj hj=>by
         have hb:k*sz α+j<ys.length*sz α:=by
          have:=Nat.mul_le_mul_right (sz α) (show k+1<=ys.length from tS);rw[Nat.succ_mul] at this;omega
         conv=>rhs;rw[List.getElem?_toArray,List.append_assoc,List.getElem?_append_left (by simp only[List.length_take,Array.length_toList,rZ];omega),List.getElem?_take,if_pos (by rw[rZ];exact hb)]
         simp)] at this
        exact hkeep _ _ this
       ·rw[List.getElem_append_right ah];have yQ:k-ys.length<zs.length:=by omega
        have:=Ef (k-ys.length) yQ;rw[show dh news.toArray ((k-ys.length)*sz α) (sz α)=dh (cs.toList.take (ys.length*i.size)++news++cs.toList.drop (ys.length*i.size+news.length)).toArray (k*sz α) (sz α) from rY (λj hj=>by
         have hb: (k-ys.length)*sz α+j<zs.length*sz α:=by
          have:=Nat.mul_le_mul_right (sz α) (show k-ys.length+1<=zs.length from yQ);rw[Nat.succ_mul] at this;omega
         have he:k*sz α=ys.length*sz α+(k-ys.length)*sz α:=by rw[<-Nat.add_mul];congr 1;omega
         have r6: (cs.toList.take (ys.length*i.size)).length=ys.length*sz α:=by simp only[List.length_take,Array.length_toList,rZ];omega
         rw[show∀m,news.toArray[m]?=news[m]? from λm=>by simp,show∀(l:List Value) m,l.toArray[m]?=l[m]? from λl m=>by simp,List.getElem?_append_left (by rw[List.length_append,r6];omega),List.getElem?_append_right (by rw[r6];omega),r6];congr 1;omega)] at this
        exact hkeep _ _ this
      ·exact Kt.ext.mono (λb hb h=>by rw[show b=g from h];rfl)
      ·intro b hb;exact .inl hb
     ·have holds:∀j v,(dh cs 0 (ys.length*sz α))[j]?=some v->w.cell? ((⟨g,0,none⟩:Addr).add j)=some v:=λj v hv=>by
       have hj:j<ys.length*sz α:=by rw[<-Ks];exact(List.getElem?_eq_some_iff.1 hv).1
       rw[qt,cell_of_row w g (0+j) cs e (0,0) hc,Nat.zero_add,<-PF j hj,hv]
      have hr:=run_append_grow (P:=P) w t fN.type e i z hu hi hz ⟨g,0,none⟩ ys.length cap (dh cs 0 (ys.length*sz α)) (by rw[rZ];exact Ks) holds ⟨sb,so,none⟩ zs.length c news hnl hnews ah ah
       (growslice_fits ah (by rw[hby];exact hlen))
      have hfr:=fresh _ (grownCap w (ys.length+zs.length) cap e) _ Ks Au rfl (grownCap_ge w _ _ e);refine⟨_,_,hr,hfr,?_,?_⟩
      ·exact(yK w _).ext.mono (λb hb h=>h.elim)
      ·intro b hb;simp only[c9,Value.ownBlock,Option.some.injEq] at hb;exact .inr ah
 obtain⟨v',w',hrun,hpost⟩:=key;refine⟨v',w',.inl ?_,hpost⟩;unfold execOp;rw[ij];simp[hρ _ _ hx,hρ _ _ hy,resolve,invoke,builtin,hrun]
end
def cl:Code->Code| .seq a _=>a| .cond _ a _=>a| .block _ b=>b| .loop b=>b| .scope b=>b|c=>c
def aC:Code->Code| .seq _ b=>b| .cond _ _ b=>b|c=>c
def di:Code->Array Oper| .region _ ops _=>ops|_=>#[]
def cw (fn:Func):Code:=match fn.body with|some c=>c|none=> .skip
section
variable {P:Program} {f:FuncId} {N:Nat} {k:List Item} {env:Env} {w w':World} {R:Value->World->Prop} {Q:Exit->Act->World->Prop}
variable {ops:Array Oper} {S:World->Prop} {i t:Nat} {L:List (Nat×Bool)} {op:Op} {v:Value} {x y z:Operand} {g:Option (Nat×Bool)}
theorem kI (hop:cv ops i=some (some t,op,g)) (hw:ec ops env g=some true) (ht:Nat.blt t N=true)
 (hy:∀w',S w'->cZ P N env op w' v) (h:bO P N Q ops S L ((t,v)::env) w):bO P N Q ops S ((i,true)::L) env w:=cD.yield hop hw ht hy h
theorem PG (hop:cv ops i=some (some t,op,g)) (hw:ec ops env g=some false) (ht:Nat.blt t N=true)
 (h:bO P N Q ops S L ((t,undef)::env) w):bO P N Q ops S ((i,true)::L) env w:=cD.pass hop hw ht h
theorem Xd (hop:cv ops i=some (some t,op,g)) (hw:ec ops env g=some false) (ht:Nat.blt t N=true) (hS:S w)
 (h:bO P N Q ops S L ((t,undef)::env) w):bO P N Q ops S ((i,false)::L) env w:=cD.WW hop hw ht hS h
theorem tT (hop:cv ops i=some (some t,op,g)) (hw:ec ops env g=some true) (ht:Nat.blt t N=true) (hS:S w)
 (hy:cZ P N env op w v) (h:bO P N Q ops S L ((t,v)::env) w):bO P N Q ops S ((i,false)::L) env w:=cD.now hop hw ht hS hy h
theorem Ku {T:Value->World->Prop} (hop:cv ops i=some (some t,op,g)) (hw:ec ops env g=some true) (ht:Nat.blt t N=true)
 (hy:ig P N env op w T) (h:∀v w',T v w'->S w'/\bO P N Q ops S L ((t,v)::env) w'):bO P N Q ops S ((i,false)::L) env w:=cD.act hop hw ht hy h
theorem Kv {T:Value->World->Prop} (hop:cv ops i=some (none,op,g)) (hw:ec ops env g=some true)
 (hy:ig P N env op w T) (h:∀v w',T v w'->S w'/\bO P N Q ops S L env w'):bO P N Q ops S ((i,false)::L) env w:=cD.act hop hw rfl hy h
theorem vC {gf:FuncId} {args:Array Value} {T:Value->World->Prop} (hop:cv ops i=some (some t,op,g)) (hw:ec ops env g=some true) (ht:Nat.blt t N=true)
 (hy:Enters P N env op w gf args) (hc:Calls P gf args w (bH T))
 (h:∀v w',T v w'->S w'/\bO P N Q ops S L ((t,v)::env) w'):bO P N Q ops S ((i,false)::L) env w:=cD.call hop hw ht hy hc h
theorem Eg {gf:FuncId} {args:Array Value} {T:Value->World->Prop} (hop:cv ops i=some (none,op,g)) (hw:ec ops env g=some true)
 (hy:Enters P N env op w gf args) (hc:Calls P gf args w (bH T))
 (h:∀v w',T v w'->S w'/\bO P N Q ops S L env w'):bO P N Q ops S ((i,false)::L) env w:=cD.call hop hw rfl hy hc h
theorem xe {gf:FuncId} {xs:Array Operand} {ts:Array TypeId} {vs:List Value}
  (ja:∀args w,(callFunc gf args).run P w=.ok (.enter gf args) w) (hargs:lF env xs.toList=some vs):
  Enters P N env (.call {callee:=.value (.func gf),args:=xs,argTypes:=ts}) w gf vs.toArray:=by
 have:=xb (P:=P) (N:=N) (env:=env) (w:=w) (ts:=ts) (x:=.func gf) (cap:=#[]) ja rfl hargs;simpa using this
theorem kp {env':Env} (hs:Sub env' env) (h:Run P f N k env' w R):Run P f N k env w R:=h.sub hs
end
def au (C:Nat->Nat):Nat->Prop:=λb=>C b≠0
def aL (w:World) (C:Nat->Nat):Prop:=∀b,C b≠0->b<w.heap.size
structure ax (I:List Nat) (w:World) (C:Nat->Nat) (w':World) (aQ:Nat->Nat):Prop where
 ext:Ext (λb=>C b∈I) w w'
 col:∀b,b<w.heap.size->aQ b=C b
structure cE (w:World) (C:Nat->Nat) (j b:Nat) (o:Obj):Prop where
 col:C b=j
 at_:w.heap[b]?=some o
structure bg {α:Type} [aZ α] (w:World) (C:Nat->Nat) (j:Nat) (e:TypeId) (v:Value) (ys:List α):Prop where
 own:kH w (au C) e v ys
 col:∀b,c9 v b->C b=j
section
variable {α β:Type} [aZ α] [aZ β] {w w' w'':World} {I J:List Nat} {C aQ yR D:Nat->Nat} {x:α} {xs ys zs:List α} {v u:Value} {b o j n:Nat} {fh PJ:Obj} {e:TypeId}
theorem ax.refl (I:List Nat) (w:World) (C:Nat->Nat):ax I w C w C:=⟨Ext.refl _ _,λ_ _=>rfl⟩
theorem ax.ou (h:aL w C):ax [] w C w C:=ax.refl [] w C
theorem ax.trans (h:ax I w C w' aQ) (h':ax J w' aQ w'' yR) (hJ:∀c∈J,c∈I):ax I w C w'' yR:=
 ⟨h.ext.trans h'.ext (λb hb hc=>by rw[h.col b hb] at hc;exact hJ _ hc),λb hb=>(h'.col b (Nat.lt_of_lt_of_le hb h.ext.size)).trans (h.col b hb)⟩
theorem ax.mono (h:ax I w C w' aQ) (hI:∀c∈I,c∈J):ax J w C w' aQ:=⟨h.ext.mono (λb _ hc=>hI _ hc),h.col⟩
theorem ax.drew (I:List Nat) (w:World) (C:Nat->Nat):ax I w C {w with drawn:=w.drawn+1} C:=⟨Ext.drew _ _,λ_ _=>rfl⟩
theorem ax.size (h:ax I w C w' aQ):w.heap.size<=w'.heap.size:=h.ext.size
theorem aL.st (h:aL w C) (hs:ax I w C w' C):aL w' C:=λb hb=>Nat.lt_of_lt_of_le (h b hb) hs.size
theorem av.st (h:av w (au C) x v) (hs:ax I w C w' aQ) (h0:0∉I):av w' (au aQ) x v:=
 av.ext (h.sub (M':=au aQ) (λb hb hc=>by unfold au at*;rwa [hs.col b hb] at hc)) hs.ext (λb hb hc=>by unfold au;rw[hs.col b hb];intro e;rw[e] at hc;exact h0 hc)
theorem bJ.st (h:bJ w (au C) x b o) (hs:ax I w C w' aQ) (h0:0∉I):bJ w' (au aQ) x b o:=
 bJ.ext (h.sub (M':=au aQ) (λb hb hc=>by unfold au at*;rwa [hs.col b hb] at hc)) hs.ext (λb hb hc=>by unfold au;rw[hs.col b hb];intro e;rw[e] at hc;exact h0 hc)
theorem cE.st (h:cE w C j b fh) (hs:ax I w C w' aQ) (hj:j∉I):cE w' aQ j b fh:=
 ⟨(hs.col b (rX h.at_)).trans h.col,hs.ext.vj h.at_ (by rw[h.col];exact hj)⟩
theorem bg.st (h:bg w C j e v ys) (hs:ax I w C w' aQ) (h0:0∉I) (hj:j∉I):bg w' aQ j e v ys:=
 ⟨kH.ext (h.own.sub (M':=au aQ) (λb hb hc=>by unfold au at*;rwa [hs.col b hb] at hc) (λb hb=>by have:=h.own.fh b hb;unfold au at*;rw[hs.col b this.2];exact this.1))
   hs.ext (λb hb hc=>by unfold au;rw[hs.col b hb];intro e;rw[e] at hc;exact h0 hc) (λb hb hc=>by rw[h.col b hb] at hc;exact hj hc),
  λb hb=>(hs.col b (h.own.fh b hb).2).trans (h.col b hb)⟩
theorem bg.nil:bg w C j e (.slice none 0 0) ([]:List α):=⟨kH.nil,λb hb=>by cases hb⟩
def yT (C:Nat->Nat) (b j:Nat):Nat->Nat:=λx=>if x=b then j else C x
def gN (C:Nat->Nat) (v:Value) (j:Nat):Nat->Nat:=λx=>if v.ownBlock=some x then j else C x
theorem New.st (h:New w w' fh) (C:Nat->Nat):ax [] w C w' C:=⟨h.ext.mono (λb _ h=>h.elim),λ_ _=>rfl⟩
theorem New.own (h:New w w' fh) (hF:aL w C) (j:Nat):∃aQ,ax [] w C w' aQ/\cE w' aQ j w.heap.size fh/\aL w' aQ:=
 ⟨yT C w.heap.size j,⟨h.ext.mono (λb _ h=>h.elim),λb hb=>by unfold yT;rw[if_neg ah]⟩,⟨by simp[yT],h.at_⟩,λb hb=>by
  unfold yT at hb;rw[h.size];split at hb
  ·omega
  ·have:=hF b hb;omega⟩
theorem As.own (h:As w w' b PJ) (ho:cE w C j b fh):ax [j] w C w' C/\cE w' C j b PJ:=
 ⟨⟨h.ext.mono (λc _ hc=>by rw[show c=b from hc,ho.col];simp),λ_ _=>rfl⟩,⟨ho.col,h.at_⟩⟩
variable {P:Program} {N:Nat} {env:Env} {y z q:Operand} {t:TypeId}
theorem eX {cs:List Value} (hF:aL w C) (j:Nat) (hx:ev env y=some v) (hc:v.cells=cs.toArray):
  ig P N env (.box t y) w (λu w'=>∃aQ b,u=.pointer (some ⟨b,0,none⟩)/\ax [] w C w' aQ/\cE w' aQ j b (.cells cs.toArray t)/\aL w' aQ):=λa ha o ho=>by
 obtain⟨u,w',h1,rfl,h2⟩:=PE (P:=P) (N:=N) (t:=t) (w:=w) hx hc a ha o ho;obtain⟨aQ,h3,h4,h5⟩:=h2.own hF j;exact⟨_,w',h1,aQ,_,rfl,h3,h4,h5⟩
theorem fD {cs:List Value} (hF:aL w C) (j:Nat) (hz:vB P t=some cs):
  ig P N env (.alloc t) w (λu w'=>∃aQ b,u=.pointer (some ⟨b,0,none⟩)/\ax [] w C w' aQ/\cE w' aQ j b (.cells cs.toArray t)/\aL w' aQ):=λa ha o ho=>by
 obtain⟨u,w',h1,rfl,h2⟩:=Xa (P:=P) (N:=N) (env:=env) (t:=t) (w:=w) hz a ha o ho;obtain⟨aQ,h3,h4,h5⟩:=h2.own hF j;exact⟨_,w',h1,aQ,_,rfl,h3,h4,h5⟩
theorem jI {cs:List Value} {ty:TypeId} (hx:ev env y=some (.pointer (some ⟨b,o,none⟩))) (hy:ev env z=some v) (hs:gX P t=some 1)
  (hv:v.cells=#[v]) (h1:v.oneCell'=true) (hb:cE w C j b (.cells cs.toArray ty)) (ho:o<cs.length):
  ig P N env (.store t y z) w (λu w'=>u=undef/\ax [j] w C w' C/\cE w' C j b (.cells (cs.set o v).toArray ty)):=λa ha fN ij=>by
 obtain⟨u,w',h2,h3,h4⟩:=Xc (P:=P) (N:=N) (w:=w) hx hy hs hv h1 hb.at_ ho a ha fN ij;exact⟨u,w',h2,h3,h4.own hb⟩
theorem Xe {cs vs:List Value} {ty:TypeId} (hx:ev env y=some (.pointer (some ⟨b,o,none⟩))) (hy:ev env z=some v) (hs:gX P t=some n)
  (hv:v.cells=vs.toArray) (hl:vs.length=n) (h1:∀u∈vs,u.oneCell'=true) (hb:cE w C j b (.cells cs.toArray ty)) (ho:o+n<=cs.length):
  ig P N env (.store t y z) w (λu w'=>u=undef/\ax [j] w C w' C/\cE w' C j b (.cells (cs.take o++vs++cs.drop (o+n)).toArray ty)):=λa ha fN ij=>by
 obtain⟨u,w',h2,h3,h4⟩:=GY (P:=P) (N:=N) (w:=w) hx hy hs hv hl h1 hb.at_ ho a ha fN ij;exact⟨u,w',h2,h3,h4.own hb⟩
theorem eY {bytes:Nat} {s:Value} (hF:aL w C) (hj:j≠0) (hx:ev env y=some v) (hy:ev env z=some s) (hrow:qu P t e (sz α) bytes=true) (hsz:0<sz α)
  (hown:bg w C j e v ys) (hsrc:av w (au C) zs s) (hlen: (ys.length+zs.length)*bytes<=140737488355328) (h63:ys.length+zs.length<=140737488355328):
  ig P N env (.call {callee:=.builtin .append,args:=#[y,z],argTypes:=#[t,t]}) w (λv' w'=>∃aQ,ax [j] w C w' aQ/\bg w' aQ j e v' (ys++zs)/\aL w' aQ):=λa ha fN ij=>by
 obtain⟨v',w',h1,h2,h3,h4⟩:=Ko (P:=P) (N:=N) hx hy hrow hsz hown.own hsrc hlen h63 a ha fN ij;have kr:∀b,b<w.heap.size->gN C v' j b=C b:=λb hb=>by
  unfold gN;split
  ·rename_i e;rcases h4 b e with h|h
   ·exact(hown.col b h).symm
   ·omega
  ·rfl
 refine⟨v',w',h1,gN C v' j,⟨h3.mono (λb _ hb=>by rw[hown.col b hb];simp),kr⟩,⟨h2.sub (λb hb hc=>?_) (λb hb=>?_),λb hb=>?_⟩,λb hb=>?_⟩
 ·by_cases ho:c9 v' b
  ·exact .inl ho
  ·right;unfold au gN at hc;rw[if_neg (show¬v'.ownBlock=some b from ho)] at hc;exact hc
 ·unfold au gN;rw[if_pos (show v'.ownBlock=some b from hb)];exact hj
 ·unfold gN;rw[if_pos (show v'.ownBlock=some b from hb)]
 ·by_cases ho:c9 v' b
  ·exact(h2.fh b ho).2
  ·unfold gN at hb;rw[if_neg (show¬v'.ownBlock=some b from ho)] at hb;exact Nat.lt_of_lt_of_le (hF b hb) h3.size
def bk (C:Nat->Nat):Nat->Nat:=λb=>if C b=0 then 0 else 1
def eM (C:Nat->Nat) (i:Nat):Nat->Nat:=λb=>if C b=0 then 0 else if C b=i then 2 else 1
theorem PK (C:Nat->Nat) (b:Nat):bk C b≠0↔C b≠0:=by unfold bk;split<;>simp_all
theorem PN (C:Nat->Nat) (i b:Nat):eM C i b≠0↔C b≠0:=by unfold eM;split<;>(try split)<;>simp_all
theorem fu (C:Nat->Nat):au (bk C)=au C:=by funext b;exact propext (PK C b)
theorem nK (C:Nat->Nat) (i:Nat):au (eM C i)=au C:=by funext b;exact propext (PN C i b)
theorem aL.bk (h:aL w C):aL w (bk C):=λb hb=>h b ((PK C b).1 hb)
theorem aL.eM (h:aL w C) (i:Nat):aL w (eM C i):=λb hb=>h b ((PN C i b).1 hb)
theorem cE.eM {i:Nat} (h:cE w C i b fh) (hi:i≠0):cE w (eM C i) 2 b fh:=⟨by unfold K.eM;rw[if_neg (by rw[h.col];exact hi),if_pos h.col],h.at_⟩
theorem ax.bN (h:ax I w (bk C) w' aQ) (hI:∀c∈I,2<=c):ax [] w C w' C:=⟨h.ext.mono (λb _ hc=>by
 have:=hI _ hc;unfold K.bk at this;split at this<;>omega),λ_ _=>rfl⟩
theorem ax.lV {i:Nat} (h:ax I w (eM C i) w' aQ) (hI:∀c∈I,2<=c):ax [i] w C w' C:=⟨h.ext.mono (λb _ hc=>by
 have:=hI _ hc;simp only[List.mem_singleton];unfold K.eM at this;split at this
 ·omega
 ·split at this
  ·assumption
  ·omega),λ_ _=>rfl⟩
theorem ax.Kw (hs:ax I w D w' aQ) (hF:aL w C) (hD:au D=au C):∀b,C b≠0->b<w.heap.size/\aQ b=D b/\D b≠0:=λb hb=>by
 have h1:=hF b hb;refine⟨h1,hs.col b h1,?_⟩;have:au D b:=by rw[hD];exact hb
 exact this
theorem av.out (h:av w' (au aQ) x v) (hs:ax I w D w' aQ) (hF:aL w C) (hD:au D=au C):av w' (au C) x v:=
 h.sub (λb _ hb=>by obtain⟨h1,h2,h3⟩:=hs.Kw hF hD b hb;unfold au;rw[h2];exact h3)
theorem bg.out (h:bg w' aQ j e v ys) (hs:ax I w D w' aQ) (hF:aL w C) (hD:au D=au C) (hj:∀b,b<w.heap.size->D b≠j) (hl:ys.length<=9223372036854775807):av w' (au C) ys v:=
 h.own.read (λb _ hb=>by
  obtain⟨h1,h2,h3⟩:=hs.Kw hF hD b hb;exact⟨by unfold au;rw[h2];exact h3,λho=>hj b h1 (by rw[<-h2];exact h.col b ho)⟩) hl
theorem jT (C:Nat->Nat) {j:Nat} (hj:2<=j) (b:Nat):bk C b≠j:=by unfold bk;split<;>omega
theorem qv (C:Nat->Nat) (i:Nat) {j:Nat} (hj:3<=j) (b:Nat):eM C i b≠j:=by unfold eM;split<;>(try split)<;>omega
theorem bJ.stay (h:bJ w (au C) x b o) (hS:Ext (λb=>C b∈I) w w') (h0:0∉I):w'.heap[b]?=w.heap[b]?:=by
 obtain⟨hb,cs,ty,e8,hc,_⟩:=h;exact hS.block b (rX hc) (λhm=>hb (λe=>h0 (by rw[e] at hm;exact hm)))
theorem cE.stay (h:cE w C j b fh) (hS:Ext (λb=>C b∈I) w w') (hj:j∉I):w'.heap[b]?=some fh:=
 hS.vj h.at_ (by rw[h.col];exact hj)
theorem bg.Ci (h:bg w C j e v ys) (hy:ev env y=some v) {d:TypeId} (ht:P.underlying t=some (.slice d)):
  ∀w',cZ P N env (.call {callee:=.builtin .len,args:=#[y],argTypes:=#[t]}) w' (.int .i64 ys.length):=λw'=>by
 obtain⟨a,c,rfl⟩:=h.own.len;exact yH hy ht
end
section
variable {P:Program} {f:FuncId} {N:Nat} {k:List Item} {env:Env} {w:World} {R:Value->World->Prop} {Q:Exit->Act->World->Prop}
theorem Xf {c:Code} {id:Nat} {ops:Array Oper} (I:List Nat) (C:Nat->Nat) (L:List (Nat×Bool)) (hm:P.follows .mixedOrders=true) (hc:c=.region id ops true)
  (hn:Region.noSelect ops=true) (hk:Kc ops ops.size (Array.replicate ops.size false) L=true)
  (h:∀w₁,ax [] w C w₁ C->cD P f N k R ops (λw'=>Ext (λb=>C b∈I) w₁ w') L env w₁):Run P f N (.code c::k) env w R:=
 WU _ L hm hc hn hk (Ext.refl _ _) (h _ (ax.drew [] w C))
theorem Eh {c:Code} {id:Nat} {ops:Array Oper} (I:List Nat) (C:Nat->Nat) (A:List Nat) (i:Nat) (L:List (Nat×Bool)) (i':Nat) (L':List (Nat×Bool)) (hm:P.follows .mixedOrders=true) (hc:c=.region id ops true)
  (hn:Region.noSelect ops=true) (hk:Pk ops i L i' L' ops.size (Array.replicate ops.size false) A=true)
  (h:∀w₁,ax [] w C w₁ C->cD P f N k R ops (λw'=>Ext (λb=>C b∈I) w₁ w') (A.map (λj=>(j,true))++(i,false)::L) env w₁)
  (h':∀w₁,ax [] w C w₁ C->cD P f N k R ops (λw'=>Ext (λb=>C b∈I) w₁ w') (A.map (λj=>(j,true))++(i',false)::L') env w₁):Run P f N (.code c::k) env w R:=
 WV _ A i L i' L' hm hc hn hk (Ext.refl _ _) (h _ (ax.drew [] w C)) (h' _ (ax.drew [] w C))
end
section
variable {α:Type} [aZ α] {P:Program} {f:FuncId} {N:Nat} {k:List Item} {env:Env} {w:World} {R:Value->World->Prop} {Q:Exit->Act->World->Prop}
variable {ops:Array Oper} {S:World->Prop} {i t:Nat} {L:List (Nat×Bool)} {v:Value} {y z:Operand} {g:Option (Nat×Bool)} {ty e:TypeId} {M:Nat->Prop} {x:α} {xs:List α} {b o:Nat} {kd:IntKind} {n:Int}
theorem iS {w1:World} (hop:cv ops i=some (some t,.indexAddr ty y z,g)) (hw:ec ops env g=some true) (ht:Nat.blt t N=true) (hl:av w1 M xs v) (hy:ev env y=some v)
  (hf:jS P ty=some (e,sz α)) (hz:ev env z=some (.int kd n)) (h0:0<=n) (h1:n<xs.length)
  (h:∀b o,bJ w1 M (xs[n.toNat]'ah) b o->bO P N Q ops S L ((t,.pointer (some ⟨b,o,none⟩))::env) w):bO P N Q ops S ((i,true)::L) env w:=by
 obtain⟨b,o,h2,h3⟩:=hl.index (P:=P) (N:=N) hy hf hz h0 h1;exact kI hop hw ht (λw' _=>h3 w') (h b o h2)
theorem Xg (hop:cv ops i=some (some t,.load ty y,g)) (hw:ec ops env g=some true) (ht:Nat.blt t N=true) (hS:S w) (hr:bJ w M x b o) (ha:gM P ty=some false) (hx:aZ.agg α=false)
  (hy:ev env y=some (.pointer (some ⟨b,o,none⟩))) (h:∀v,av w M x v->bO P N Q ops S L ((t,v)::env) w):bO P N Q ops S ((i,false)::L) env w:=by
 obtain⟨v,h2,h3⟩:=hr.load (P:=P) (N:=N) ha hx hy;exact tT hop hw ht hS (h3 w rfl) (h v h2)
theorem Xh {w1:World} (hop:cv ops i=some (some t,.load ty y,g)) (hw:ec ops env g=some true) (ht:Nat.blt t N=true) (hst:∀w',S w'->w'.heap[b]?=w1.heap[b]?) (hr:bJ w1 M x b o) (ha:gM P ty=some false) (hx:aZ.agg α=false)
  (hy:ev env y=some (.pointer (some ⟨b,o,none⟩))) (h:∀v,av w1 M x v->bO P N Q ops S L ((t,v)::env) w):bO P N Q ops S ((i,true)::L) env w:=by
 obtain⟨v,h2,h3⟩:=hr.load (P:=P) (N:=N) ha hx hy;exact kI hop hw ht (λw' hS=>h3 w' (hst w' hS)) (h v h2)
theorem Xi (hop:cv ops i=some (some t,.load ty y,g)) (hw:ec ops env g=some true) (ht:Nat.blt t N=true) (hS:S w) (hr:bJ w M x b o) (ha:gM P ty=some true) (hs:gX P ty=some (sz α)) (hx:aZ.agg α=true)
  (hy:ev env y=some (.pointer (some ⟨b,o,none⟩))) (h:∀v,av w M x v->bO P N Q ops S L ((t,v)::env) w):bO P N Q ops S ((i,false)::L) env w:=by
 obtain⟨v,h2,h3⟩:=hr.Cf (P:=P) (N:=N) ha hs hx hy;exact tT hop hw ht hS (h3 w rfl) (h v h2)
theorem Xj {w1:World} (hop:cv ops i=some (some t,.load ty y,g)) (hw:ec ops env g=some true) (ht:Nat.blt t N=true) (hst:∀w',S w'->w'.heap[b]?=w1.heap[b]?) (hr:bJ w1 M x b o) (ha:gM P ty=some true) (hs:gX P ty=some (sz α)) (hx:aZ.agg α=true)
  (hy:ev env y=some (.pointer (some ⟨b,o,none⟩))) (h:∀v,av w1 M x v->bO P N Q ops S L ((t,v)::env) w):bO P N Q ops S ((i,true)::L) env w:=by
 obtain⟨v,h2,h3⟩:=hr.Cf (P:=P) (N:=N) ha hs hx hy;exact kI hop hw ht (λw' hS=>h3 w' (hst w' hS)) (h v h2)
end
def bu (n:Nat) (C:Nat->Nat):Nat->Nat:=λb=>if n<=C b then 0 else C b
section
variable {α:Type} [aZ α] {w w' w₀:World} {I:List Nat} {C aQ kW:Nat->Nat} {x:α} {ys:List α} {v:Value} {b o j n:Nat} {fh:Obj} {e:TypeId}
theorem Cj (h:au (bu n C) b):au C b/\C b<n:=by
 unfold au bu at*;split at h
 ·exact absurd rfl h
 ·exact⟨h,by omega⟩
theorem aL.bu (h:aL w C) (n:Nat):aL w (bu n C):=λb hb=>h b (Cj hb).1
theorem av.bu (h:av w (au C) x v) (n:Nat):av w (au (K.bu n C)) x v:=h.sub (λb _ hb=>(Cj hb).1)
theorem bJ.bu (h:bJ w (au C) x b o) (n:Nat):bJ w (au (K.bu n C)) x b o:=h.sub (λb _ hb=>(Cj hb).1)
theorem bg.bu (h:bg w C j e v ys) (hj:n<=j) (hl:ys.length<=9223372036854775807):av w (au (K.bu n C)) ys v:=
 h.own.read (λb _ hb=>⟨(Cj hb).1,λho=>by have:=(Cj hb).2;rw[h.col b ho] at this;omega⟩) hl
theorem bg.Kx (h:bg w C j e v ys) (hj:j<n):bg w (K.bu n C) j e v ys:=
 ⟨h.own.sub (λb _ hb=>(Cj hb).1) (λb hb=>by unfold au K.bu;rw[h.col b hb,if_neg ah];have:=(h.own.fh b hb).1;unfold au at this;rw[h.col b hb] at this;exact this),
  λb hb=>by unfold K.bu;rw[h.col b hb,if_neg ah]⟩
theorem cE.bu (h:cE w C j b fh) (hj:j<n):cE w (K.bu n C) j b fh:=⟨by unfold K.bu;rw[h.col,if_neg ah],h.at_⟩
theorem ax.bu (h:ax I w₀ kW w C) (h0:∀b,kW b<n):ax I w₀ kW w (K.bu n C):=
 ⟨h.ext,λb hb=>by unfold K.bu;rw[h.col b hb,if_neg (by have:=h0 b;omega)]⟩
theorem r7 (C:Nat->Nat) (b:Nat):bk C b<2:=by unfold bk;split<;>omega
theorem bg.one (h:bg w C j e v ys):v.cells=#[v]/\v.oneCell'=true:=by
 obtain⟨a,c,rfl⟩:=h.own.len;exact⟨rfl,rfl⟩
end
theorem Xk {env env':Env} {t:Nat} {v:Value} (h:look env t=none) (hs:Sub env env'):Sub env ((t,v)::env'):=λs x hx=>by
 simp only[look];cases hb:Nat.beq t s with
 |true=>rw[Nat.eq_of_beq_eq_true hb,hx] at h;cases h
 |false=>exact hs s x hx
section
variable {P:Program} {f:FuncId} {N:Nat} {k:List Item} {env:Env} {w:World} {R:Value->World->Prop} {Q:Exit->Act->World->Prop} {p:Prop} [Decidable p] {op:Op}
theorem kJ (t:Nat) (b:Bool) (C:Nat->Nat) {c:Code}
  (Xl: (∀w' env' v,ax [] w C w' C->look env' t=some v->v=.bool b->Sub env env'->Run P f N k env' w' R)->Run P f N (.code c::k) env w R)
  (Xm:∀w',ax [] w C w' C->Run P f N k ((t,.bool b)::env) w' R):Run P f N (.code c::k) env w R:=
 Xl λw' env' v hs hl hv hsub=>(Xm w' hs).sub λs x hx=>by
  simp only[look] at hx;cases hb:Nat.beq t s with
  |true=>
   rw[hb] at hx;simp only[cond_true,Option.some.injEq] at hx;rw[<-Nat.eq_of_beq_eq_true hb,hl,hv,hx]
  |false=>rw[hb] at hx;exact hsub s x hx
theorem gV {v v':Value} (h:cZ P N env op w v) (e:v=v'):cZ P N env op w v':=e▸h
theorem mu (h:cZ P N env op w (.bool (decide p))) (hp:p):cZ P N env op w (.bool true):=by rwa [decide_eq_true hp] at h
theorem lG (h:cZ P N env op w (.bool (decide p))) (hp:¬p):cZ P N env op w (.bool false):=by rwa [decide_eq_false hp] at h
end
abbrev eE (i:Nat):Nat×Bool:=(i,true)
abbrev nn (i:Nat):Nat×Bool:=(i,false)
section
variable {ops:Array Oper} {i:Nat}
theorem iT (t:Nat) (op:Op) (h:cv ops i=some (some t,op,none):=by kernel_rfl):cv ops i=some (some t,op,none):=h
theorem Ei (t:Nat) (op:Op) (g:Nat) (b:Bool) (h:cv ops i=some (some t,op,some (g,b)):=by kernel_rfl):cv ops i=some (some t,op,some (g,b)):=h
theorem k0 (op:Op) (h:cv ops i=some (none,op,none):=by kernel_rfl):cv ops i=some (none,op,none):=h
end
def Ej (c:Code) (d:Bool):Bool:=match c with| .region _ _ d'=>d'==d|_=>false
theorem Ky {c:Code} {d:Bool} (h:Ej c d=true):∃id,c=.region id (di c) d:=by
 cases c with
 |region id ops d'=>exact⟨id,by unfold Ej at h;simp only[beq_iff_eq] at h;subst h;rfl⟩
 |_=>cases h
section
variable {P:Program} {f:FuncId} {N:Nat} {k:List Item} {env:Env} {w w':World} {R:Value->World->Prop} {Q:Exit->Act->World->Prop}
variable {ops:Array Oper} {S:World->Prop} {i t:Nat} {L:List (Nat×Bool)} {op:Op} {v:Value} {x y z:Operand} {g:Option (Nat×Bool)}
theorem qw (hop:cv ops i=some (some t,op,g)) (hy:∀w',cZ P N env op w' v) (h:bO P N Q ops S L ((t,v)::env) w) (hw:ec ops env g=some true:=by rfl) (ht:Nat.blt t N=true:=by rfl):
 bO P N Q ops S ((i,true)::L) env w:=kI hop hw ht (λw' _=>hy w') h
theorem afa {c:Code} (L:List (Nat×Bool)) (h:cD P f N k R (di c) (λ_=>True) L env w) (hc:Ej c false=true:=by kernel_rfl) (hL:L.map (·.1)=List.range (di c).size:=by kernel_rfl):Run P f N (.code c::k) env w R:=by
 obtain⟨id,e⟩:=Ky hc;exact Pr L e hL h
def PO (c:Code):Bool:=match c with| .seq _ _=>true|_=>false
def G0 (c:Code) (i:Nat):Bool:=match c with| .block j _=>Nat.beq j i|_=>false
def Xn (c:Code):Bool:=match c with| .skip=>true|_=>false
def PR (c:Code) (i:Nat):Bool:=match c with| .exit j=>Nat.beq j i|_=>false
def Xo (c:Code):Bool:=match c with| .loop _=>true|_=>false
def afb (c:Code):Operand:=match c with| .cond o _ _=>o|_=> .tmp 0
def Ck (c:Code) (i:Nat):Bool:=match c with| .cond (.tmp j) _ _=>Nat.beq j i|_=>false
theorem afc {c:Code} (h:Run P f N (.code (cl c):: .code (aC c)::k) env w R) (hc:PO c=true:=by kernel_rfl):Run P f N (.code c::k) env w R:=
 run_seq (by cases c with|seq a b=>rfl|_=>cases hc) h
theorem afd {c:Code} (id:Nat) (h:Run P f N (.code (cl c):: .inBlock id::k) env w R) (hc:G0 c id=true:=by kernel_rfl):Run P f N (.code c::k) env w R:=
 Pn (by cases c with|block a b=>simp only[G0] at hc;rw[Nat.eq_of_beq_eq_true hc];rfl|_=>cases hc) h
theorem afe {c:Code} (h:Run P f N k env w R) (hc:Xn c=true:=by kernel_rfl):Run P f N (.code c::k) env w R:=
 Po (by cases c with|skip=>rfl|_=>cases hc) h
theorem aff {c:Code} (id:Nat) {k':List Item} (h:Run P f N k' env w R) (hc:PR c id=true:=by kernel_rfl) (hk:exitTo id k=some k':=by exact rfl):Run P f N (.code c::k) env w R:=
 Pp (by cases c with|exit a=>simp only[PR] at hc;rw[Nat.eq_of_beq_eq_true hc]|_=>cases hc) hk h
theorem G1 {c:Code} {t:Nat} (hc:Ck c t=true):c=.cond (.tmp t) (cl c) (aC c):=by
 cases c with
 |cond o a b=>cases o with|tmp j=>simp only[Ck] at hc;rw[Nat.eq_of_beq_eq_true hc];rfl|_=>cases hc
 |_=>cases hc
theorem bF {c:Code} (t:Nat) {p:Prop} [Decidable p] (hv:look env t=some (.bool (decide p))) (ht:p->Run P f N (.code (cl c)::k) env w R) (hf:¬p->Run P f N (.code (aC c)::k) env w R) (hc:Ck c t=true:=by kernel_rfl):Run P f N (.code c::k) env w R:=
 WS (G1 hc) hv ht hf
theorem gJ {c:Code} (t:Nat) {b:Bool} (hv:look env t=some (.bool b)) (ht:b=true->Run P f N (.code (cl c)::k) env w R) (hf:b=false->Run P f N (.code (aC c)::k) env w R) (hc:Ck c t=true:=by kernel_rfl):Run P f N (.code c::k) env w R:=
 Ca (G1 hc) hv ht hf
theorem afg {c:Code} (t:Nat) (h:Run P f N (.code (cl c)::k) env w R) (hc:Ck c t=true:=by kernel_rfl) (hv:look env t=some (.bool true):=by exact rfl):Run P f N (.code c::k) env w R:=
 Ca (G1 hc) hv (λ_=>h) (λh=>by cases h)
theorem afh {c:Code} (t:Nat) (h:Run P f N (.code (aC c)::k) env w R) (hc:Ck c t=true:=by kernel_rfl) (hv:look env t=some (.bool false):=by exact rfl):Run P f N (.code c::k) env w R:=
 Ca (G1 hc) hv (λh=>by cases h) (λ_=>h)
theorem cH {c:Code} {ι:Type} (I:ι->World->Prop) (e:ι->Env) (m:ι->Nat) (cC:ι) (hs:Sub (e cC) env) (h0:I cC w)
 (hr:∀x w,I x w->(∀y w',I y w'->m y<m x->Run P f N (.inLoop (cl c)::k) (e y) w' R)->Run P f N (.code (cl c):: .inLoop (cl c)::k) (e x) w R) (hc:Xo c=true:=by kernel_rfl):
 Run P f N (.code c::k) env w R:=WT I e m cC (by cases c with|loop b=>rfl|_=>cases hc) hs h0 hr
theorem afi (t a:Nat) (h:bO P N Q ops S L ((t,v)::env) w) (hop:cv ops i=some (some t,.move (.tmp a),none):=by kernel_rfl) (hy:look env a=some v:=by exact rfl) (ht:Nat.blt t N=true:=by rfl):
 bO P N Q ops S ((i,true)::L) env w:=qw hop (λ_=>Cc hy) h rfl ht
theorem afj (t a:Nat) (h:bO P N Q ops S L ((t,v)::env) w) (hop:cv ops i=some (some t,.assign (.tmp a),none):=by kernel_rfl) (hy:look env a=some v:=by exact rfl) (ht:Nat.blt t N=true:=by rfl):
 bO P N Q ops S ((i,true)::L) env w:=qw hop (λ_=>D7 hy) h rfl ht
theorem afk (t:Nat) (v:Value) (h:bO P N Q ops S L ((t,v)::env) w) (hop:cv ops i=some (some t,.assign (.const v),none):=by kernel_rfl) (ht:Nat.blt t N=true:=by rfl):
 bO P N Q ops S ((i,true)::L) env w:=qw hop (λ_=>D7 rfl) h rfl ht
theorem afl (t a:Nat) {q:Addr} (h:bO P N Q ops S L ((t,.pointer (some q))::env) w) (hop:cv ops i=some (some t,.nilCheck (.tmp a),none):=by kernel_rfl) (hy:look env a=some (.pointer (some q)):=by exact rfl) (ht:Nat.blt t N=true:=by rfl):
 bO P N Q ops S ((i,true)::L) env w:=qw hop (λ_=>Px hy) h rfl ht
theorem afm (t a:Nat) (j:Nat) (b:Bool) (h:bO P N Q ops S L ((t,v)::env) w) (hop:cv ops i=some (some t,.move (.tmp a),some (j,b)):=by kernel_rfl) (hy:look env a=some v:=by exact rfl) (hw:ec ops env (some (j,b))=some true:=by rfl) (ht:Nat.blt t N=true:=by rfl):
 bO P N Q ops S ((i,true)::L) env w:=qw hop (λ_=>Cc hy) h hw ht
theorem afn (t a b:Nat) (h:bO P N Q ops S L ((t,v)::env) w) (hop:cv ops i=some (some t,.pick (.tmp a) (.const (.bool true)) (.tmp b),none):=by kernel_rfl) (ha:look env a=some (.bool false):=by exact rfl) (hy:look env b=some v:=by exact rfl) (ht:Nat.blt t N=true:=by rfl):
 bO P N Q ops S ((i,true)::L) env w:=qw hop (λ_=>Ki ha hy) h rfl ht
theorem afo (t a b:Nat) (h:bO P N Q ops S L ((t,.bool true)::env) w) (hop:cv ops i=some (some t,.pick (.tmp a) (.const (.bool true)) (.tmp b),none):=by kernel_rfl) (ha:look env a=some (.bool true):=by exact rfl) (ht:Nat.blt t N=true:=by rfl):
 bO P N Q ops S ((i,true)::L) env w:=qw hop (λ_=>Kh ha rfl) h rfl ht
theorem afp (t a b:Nat) (h:bO P N Q ops S L ((t,v)::env) w) (hop:cv ops i=some (some t,.pick (.tmp a) (.tmp b) (.const (.bool false)),none):=by kernel_rfl) (ha:look env a=some (.bool true):=by exact rfl) (hy:look env b=some v:=by exact rfl) (ht:Nat.blt t N=true:=by rfl):
 bO P N Q ops S ((i,true)::L) env w:=qw hop (λ_=>Kh ha hy) h rfl ht
theorem afq (t a b:Nat) (h:bO P N Q ops S L ((t,.bool false)::env) w) (hop:cv ops i=some (some t,.pick (.tmp a) (.tmp b) (.const (.bool false)),none):=by kernel_rfl) (ha:look env a=some (.bool false):=by exact rfl) (ht:Nat.blt t N=true:=by rfl):
 bO P N Q ops S ((i,true)::L) env w:=qw hop (λ_=>Ki ha rfl) h rfl ht
theorem afr (t T a q off:Nat) {b o:Nat} (h:bO P N Q ops S L ((t,.pointer (some ⟨b,o+off,none⟩))::env) w) (hop:cv ops i=some (some t,.fieldAddr T (.tmp a) q,none):=by kernel_rfl) (hf:Ch P T q=some off:=by kernel_rfl) (hy:look env a=some (.pointer (some ⟨b,o,none⟩)):=by exact rfl) (ht:Nat.blt t N=true:=by rfl):
 bO P N Q ops S ((i,true)::L) env w:=qw hop (λ_=>Kl (off:=off) hf hy) h rfl ht
theorem afs (t T a q off:Nat) (j:Nat) (bb:Bool) {b o:Nat} (h:bO P N Q ops S L ((t,.pointer (some ⟨b,o+off,none⟩))::env) w) (hop:cv ops i=some (some t,.fieldAddr T (.tmp a) q,some (j,bb)):=by kernel_rfl) (hf:Ch P T q=some off:=by kernel_rfl) (hy:look env a=some (.pointer (some ⟨b,o,none⟩)):=by exact rfl) (hw:ec ops env (some (j,bb))=some true:=by rfl) (ht:Nat.blt t N=true:=by rfl):
 bO P N Q ops S ((i,true)::L) env w:=qw hop (λ_=>Kl (off:=off) hf hy) h hw ht
def Kz (ops:Array Oper) (i:Nat):Option (Option Nat×Option (Nat×Bool)):=(cv ops i).map (λx=>(x.1,x.2.2))
theorem Xp {t:Option Nat} (h:Kz ops i=some (t,g)):∃op,cv ops i=some (t,op,g):=by
 unfold Kz at h;cases hx:cv ops i with
 |none=>rw[hx] at h;cases h
 |some y=>obtain⟨p,q,r⟩:=y;rw[hx] at h;simp only[Option.map_some,Option.some.injEq,Prod.mk.injEq] at h;exact⟨q,by rw[h.1,h.2]⟩
theorem afu (t j:Nat) (b:Bool) (h:bO P N Q ops S L ((t,undef)::env) w) (hop:Kz ops i=some (some t,some (j,b)):=by kernel_rfl) (hw:ec ops env (some (j,b))=some false:=by rfl) (ht:Nat.blt t N=true:=by rfl):
  bO P N Q ops S ((i,true)::L) env w:=by
 obtain⟨op,e⟩:=Xp hop;exact PG e hw ht h
theorem af (t:Nat) {v:Value} {env' env:Env} (h:Sub env' env) (hl:look env t=some v:=by exact rfl):Sub ((t,v)::env') env:=aH t hl rfl h
def G2 (z:Env):Nat->Env->Bool
 |0,_=>true
 |n+1,(t,_)::e=>(match look z t with|none=>true|some _=>false)&&G2 z n e
 |_+1,[]=>false
theorem PS (z:Env):∀(n:Nat) (e:Env),e.drop n=z->G2 z n e=true->Sub z e
 |0,e,he,_=>by rw[<-he];exact Sub.refl _
 |n+1,(t,v)::e,he,h=>by
  simp only[G2,Bool.and_eq_true] at h;exact Xk (by have:=h.1;split at this<;>first|assumption|cases this) (PS z n e he h.2)
 |_+1,[],_,h=>by cases h
theorem ef (n:Nat) {env env':Env} (he:env'.drop n=env:=by exact rfl) (h:G2 env n env'=true:=by kernel_rfl):Sub env env':=PS env n env' he h
end
section
variable {α:Type} [aZ α] {w w' w'':World} {I J:List Nat} {C aQ yR:Nat->Nat} {x:α} {ys:List α} {v:Value} {b o j:Nat} {fh:Obj} {e:TypeId}
theorem av.t (h:av w (au C) x v) (hs:ax I w C w' aQ) (h0:0∉I:=by first|decide|(simp<;>omega)):av w' (au aQ) x v:=h.st hs h0
theorem bJ.t (h:bJ w (au C) x b o) (hs:ax I w C w' aQ) (h0:0∉I:=by first|decide|(simp<;>omega)):bJ w' (au aQ) x b o:=h.st hs h0
theorem cE.t (h:cE w C j b fh) (hs:ax I w C w' aQ) (hj:j∉I:=by first|decide|(simp<;>omega)):cE w' aQ j b fh:=h.st hs hj
theorem bg.t (h:bg w C j e v ys) (hs:ax I w C w' aQ) (h0:0∉I:=by first|decide|(simp<;>omega)) (hj:j∉I:=by first|decide|(simp<;>omega)):bg w' aQ j e v ys:=h.st hs h0 hj
theorem ax.t (h:ax I w C w' aQ) (h':ax J w' aQ w'' yR) (hJ:∀c∈J,c∈I:=by simp):ax I w C w'' yR:=h.trans h' hJ
theorem bJ.yU (h:bJ w (au C) x b o) (hS:Ext (λb=>C b∈I) w w') (h0:0∉I:=by first|decide|(simp<;>omega)):w'.heap[b]?=w.heap[b]?:=h.stay hS h0
theorem cE.yU (h:cE w C j b fh) (hS:Ext (λb=>C b∈I) w w') (hj:j∉I:=by first|decide|(simp<;>omega)):w'.heap[b]?=some fh:=h.stay hS hj
end
section
variable {P:Program} {f:FuncId} {N:Nat} {k:List Item} {env:Env} {w w':World} {R:Value->World->Prop} {Q:Exit->Act->World->Prop}
variable {ops:Array Oper} {S:World->Prop} {i t:Nat} {L:List (Nat×Bool)} {op:Op} {v:Value} {x y z:Operand} {g:Option (Nat×Bool)}
theorem afv (t T a:Nat) (c:Int) {m:Int} (h:bO P N Q ops S L ((t,.int .i64 (m+c))::env) w) (hop:cv ops i=some (some t,.binOp .add T (.tmp a) (.const (.int .i64 c)) T,none):=by kernel_rfl) (hy:look env a=some (.int .i64 m):=by exact rfl)
 (h1:-9223372036854775808<=m+c:=by omega) (h2:m+c<=9223372036854775807:=by omega) (ht:Nat.blt t N=true:=by rfl):bO P N Q ops S ((i,true)::L) env w:=qw hop (λ_=>Kk hy rfl h1 h2) h rfl ht
theorem afw (t T a b:Nat) {kd:IntKind} {m n:Int} (h:bO P N Q ops S L ((t,.bool (decide (m<n)))::env) w) (hop:cv ops i=some (some t,.binOp .lss T (.tmp a) (.tmp b) T,none):=by kernel_rfl) (hy:look env a=some (.int kd m):=by exact rfl) (hz:look env b=some (.int kd n):=by exact rfl)
 (ht:Nat.blt t N=true:=by rfl):bO P N Q ops S ((i,true)::L) env w:=qw hop (λ_=>Kj hy hz) h rfl ht
theorem afx (t a q:Nat) {vs:Array Value} (h:bO P N Q ops S L ((t,v)::env) w) (hop:cv ops i=some (some t,.extract (.tmp a) q,none):=by kernel_rfl) (hy:look env a=some (.tuple vs):=by exact rfl) (hz:vs[q]?=some v:=by exact rfl)
 (ht:Nat.blt t N=true:=by rfl):bO P N Q ops S ((i,true)::L) env w:=qw hop (λ_=>Py hy hz) h rfl ht
theorem afy (t:Nat) (v:Value) (h:bO P N Q ops S L ((t,v)::env) w) (hop:cv ops i=some (some t,.move (.const v),none):=by kernel_rfl) (ht:Nat.blt t N=true:=by rfl):
 bO P N Q ops S ((i,true)::L) env w:=qw hop (λ_=>Cc rfl) h rfl ht
theorem Xq (t gf:Nat) (Cl tys:List Nat) {vs:List Value} {T:Value->World->Prop} (ja:∀args w,(callFunc gf args).run P w=.ok (.enter gf args) w) (hargs:lF env (Cl.map .tmp)=some vs) (hc:Calls P gf vs.toArray w (bH T))
  (h:∀v w',T v w'->S w'/\bO P N Q ops S L ((t,v)::env) w') (hop:cv ops i=some (some t,.call {callee:=.value (.func gf),args:=(Cl.map .tmp).toArray,argTypes:=tys.toArray},none):=by kernel_rfl) (ht:Nat.blt t N=true:=by rfl):bO P N Q ops S ((i,false)::L) env w:=
 vC hop rfl ht (xe ja (by simpa using hargs)) hc h
end
section
variable {P:Program} {N:Nat} {env:Env} {w:World} {Q:Exit->Act->World->Prop} {ops:Array Oper} {i t:Nat} {L:List (Nat×Bool)} {op:Op} {g:Option (Nat×Bool)} {T:Value->World->Prop}
theorem afz (hop:cv ops i=some (some t,op,g)) (hw:ec ops env g=some true) (ht:Nat.blt t N=true) (hy:ig P N env op w T) (h:∀v w',T v w'->bO P N Q ops (λ_=>True) L ((t,v)::env) w'):
 bO P N Q ops (λ_=>True) ((i,false)::L) env w:=Ku hop hw ht hy λv w' hT=>⟨trivial,h v w' hT⟩
theorem afA (hop:cv ops i=some (none,op,g)) (hw:ec ops env g=some true) (hy:ig P N env op w T) (h:∀v w',T v w'->bO P N Q ops (λ_=>True) L env w'):
 bO P N Q ops (λ_=>True) ((i,false)::L) env w:=Kv hop hw hy λv w' hT=>⟨trivial,h v w' hT⟩
theorem G3 {gf:FuncId} {args:Array Value} (hop:cv ops i=some (some t,op,g)) (hw:ec ops env g=some true) (ht:Nat.blt t N=true) (hy:Enters P N env op w gf args) (hc:Calls P gf args w (bH T))
 (h:∀v w',T v w'->bO P N Q ops (λ_=>True) L ((t,v)::env) w'):bO P N Q ops (λ_=>True) ((i,false)::L) env w:=vC hop hw ht hy hc λv w' hT=>⟨trivial,h v w' hT⟩
theorem afB {gf:FuncId} {args:Array Value} (hop:cv ops i=some (none,op,g)) (hw:ec ops env g=some true) (hy:Enters P N env op w gf args) (hc:Calls P gf args w (bH T))
 (h:∀v w',T v w'->bO P N Q ops (λ_=>True) L env w'):bO P N Q ops (λ_=>True) ((i,false)::L) env w:=Eg hop hw hy hc λv w' hT=>⟨trivial,h v w' hT⟩
theorem afC (t gf:Nat) (Cl tys:List Nat) {vs:List Value} (ja:∀args w,(callFunc gf args).run P w=.ok (.enter gf args) w) (hargs:lF env (Cl.map .tmp)=some vs) (hc:Calls P gf vs.toArray w (bH T))
 (h:∀v w',T v w'->bO P N Q ops (λ_=>True) L ((t,v)::env) w') (hop:cv ops i=some (some t,.call {callee:=.value (.func gf),args:=(Cl.map .tmp).toArray,argTypes:=tys.toArray},none):=by kernel_rfl) (ht:Nat.blt t N=true:=by rfl):
 bO P N Q ops (λ_=>True) ((i,false)::L) env w:=Xq t gf Cl tys ja hargs hc (λv w' hT=>⟨trivial,h v w' hT⟩) hop ht
end
theorem afD {P:Program} {f:FuncId} {fn:Func} (c:Code) (N:Nat) (args:List Value) {w:World} {R:Value->World->Prop} (hf:P.funcs[f]?=some fn) (h:Run P f N [.code c] (Ar 0 args) w R)
 (hb:fn.body=some c:=by kernel_rfl) (hN:fn.ntmps=N:=by kernel_rfl) (hsz:Nat.ble args.length N=true:=by kernel_rfl):Calls P f args.toArray w (bH R):=Pw args hf hb hN hsz h
theorem afE {P:Program} {f:FuncId} {N:Nat} {k:List Item} {env:Env} {w:World} {R:Value->World->Prop} {c:Code} {fn:Func} {t:Nat} {v:Value} (hf:P.funcs[f]?=some fn) (hres:fn.results=#[.tmp t]) (hR:R v w) (hv:look env t=some v:=by exact rfl) (hc:c=.ret:=by kernel_rfl):Run P f N (.code c::k) env w R:=Pq hc hf hres hv hR
def xg (place:Nat->Option (Nat×Nat)):List Value->List (Nat×List Value)->Option (List Value)
 |cells,[]=>some cells
 |cells,(i,vs)::rest=>match place i with
  |none=>none
  |some (off,size)=>if vs.length=size/\off+vs.length<=cells.length then xg place (cells.take off++vs++cells.drop (off+vs.length)) rest else none
theorem PT:∀(vs:List Value) (k off:Nat) (cs:List Value),off+k+vs.length<=cs.length->
  ((vs.zipIdx k).foldl (λ(acc:Array Value) (p:Value×Nat)=>acc.setIfInBounds (off+p.2) p.1) cs.toArray)=(cs.take (off+k)++vs++cs.drop (off+k+vs.length)).toArray
 |[],k,off,cs,h=>by simp
 |v::vs,k,off,cs,h=>by
  rw[List.length_cons] at h;rw[List.zipIdx_cons,List.foldl_cons];have e1:cs.toArray.setIfInBounds (off+k) v=(cs.set (off+k) v).toArray:=by simp
  rw[e1,PT vs (k+1) off (cs.set (off+k) v) sV];congr 1;have hlt:off+k<cs.length:=by omega
  rw[List.set_eq_take_append_cons_drop,if_pos hlt];have e2:off+(k+1)=(cs.take (off+k)).length+1:=by simp;omega
  have fA:off+(k+1)+vs.length=(cs.take (off+k)).length+(1+vs.length):=by simp;omega
  rw[show List.take (off+(k+1)) (cs.take (off+k)++v::cs.drop (off+k+1))=cs.take (off+k)++[v] from by
   rw[e2,List.take_append];simp[Nat.min_eq_left (Nat.le_of_lt hlt),List.take_take,Nat.min_eq_right (Nat.le_succ (off+k))]]
  rw[show List.drop (off+(k+1)+vs.length) (cs.take (off+k)++v::cs.drop (off+k+1))=cs.drop (off+k+(vs.length+1)) from by
   rw[fA,List.drop_append];simp only[Nat.add_sub_cancel_left];rw[List.drop_eq_nil_of_le ah,List.nil_append,Nat.add_comm 1,List.drop_succ_cons,List.drop_drop];congr 1;omega]
  simp
theorem fill_eq (place:Nat->Option (Nat×Nat)):∀(ps:List (Nat×Value)) (eo:List (Nat×List Value)) (cs cs':List Value),
  ps.map (λp=>(p.1,p.2.cells))=eo.map (λq=>(q.1,q.2.toArray))->xg place cs eo=some cs'->Instr.fill place cs.toArray ps=some cs'.toArray
 |[],[],cs,cs',_,h=>by simp only[xg,Option.some.injEq] at h;subst h;rfl
 |[],q::eo,_,_,h,_=>by simp at h
 |p::ps,[],_,_,h,_=>by simp at h
 |(i,v)::ps,(j,vs)::eo,cs,cs',h,hf=>by
  simp only[List.map_cons,List.cons.injEq,Prod.mk.injEq] at h;obtain⟨⟨rfl,hv⟩,hr⟩:=h;simp only[xg] at hf;unfold Instr.fill;cases hp:place i with
  |none=>rw[hp] at hf;cases hf
  |some os=>
   obtain⟨off,size⟩:=os;rw[hp] at hf;simp only at hf⊢;split at hf
   ·rename_i hc;rw[hv];have hn:¬(vs.toArray.size≠size\/off+vs.toArray.size>cs.toArray.size):=by simp;omega
    simp only[List.size_toArray] at hn⊢;rw[if_neg (by simpa using hn)];have e: (vs.toArray.zipIdx.foldl (λ(acc:Array Value) (p:Value×Nat)=>acc.setIfInBounds (off+p.2) p.1) cs.toArray)=(cs.take off++vs++cs.drop (off+vs.length)).toArray:=by
     have:=PT vs 0 off cs (by simpa using hc.2);simpa using this
    rw[show(vs.toArray.zipIdx.foldl (λcs (x:Value×Nat)=>match x with|(c,j)=>cs.setIfInBounds (off+j) c) cs.toArray)=_ from e];exact fill_eq place ps eo _ cs' hr hf
   ·cases hf
def tU (env:Env):List (Nat×Operand)->List (Nat×List Value)->Prop
 |[],[]=>True
 |(i,x)::ps,(j,vs)::eo=>i=j/\(∃v,ev env x=some v/\v.cells=vs.toArray)/\tU env ps eo
 |_,_=>False
def PU (P:Program) (t:TypeId):Option (List (Nat×Nat)):=match P.underlying t with
 |some (.struct fs)=>fs.toList.mapM λf=>(gX P f.type).map λn=>(f.offset,n)
 |_=>none
section
variable {P:Program} {N:Nat} {env:Env} {w:World} {t:TypeId} {ρ:Operand->Value}
theorem tU.map (hρ:∀x v,ev env x=some v->ρ x=v):∀{ps:List (Nat×Operand)} {eo:List (Nat×List Value)},tU env ps eo->
  (ps.map λp=>(p.1,ρ p.2)).map (λp=>(p.1,p.2.cells))=eo.map (λq=>(q.1,q.2.toArray))
 |[],[],_=>rfl
 |[],_::_,h=>h.elim
 |_::_,[],h=>h.elim
 |(i,x)::ps,(j,vs)::eo,h=>by
  obtain⟨rfl,⟨v,hv,hc⟩,hr⟩:=h;simp only[List.map_cons,hρ x v hv,hc];rw[tU.map hρ hr]
theorem run_map {α β:Type} (g:α->β) (s:Sem α) (w:World): (g<$>s).run P w=(s.run P w).andThen λa w'=> .ok (g a) w':=by
 show(Sem.run P (Sem.bind s (λa=>Sem.pure (g a))) w)=_;exact Sem.run_bind _ _ _ _
theorem run_places {ps:List (Nat×Nat)} {fs:Array Field} (h:fs.toList.mapM (λf=>(gX P f.type).map λn=>(f.offset,n))=some ps) (w:World):
  (fs.mapM λf=>do pure (f.offset,<-sizeOf f.type):Sem (Array (Nat×Nat))).run P w=.ok ps.toArray w:=by
 rw[Array.mapM_eq_mapM_toList];have main:∀(l:List Field) (ps:List (Nat×Nat)),l.mapM (λf=>(gX P f.type).map λn=>(f.offset,n))=some ps->
   (l.mapM λf=>do pure (f.offset,<-sizeOf f.type):Sem (List (Nat×Nat))).run P w=.ok ps w:=by
  intro l
  induction l with
  |nil=>intro ps h;simp at h;subst h;rfl
  |cons f l ih=>
   intro ps h;rw[List.mapM_cons] at h;simp only[Option.bind_eq_bind,Option.bind_eq_some_iff,Option.map_eq_some_iff,Option.pure_def,Option.some.injEq] at h;obtain⟨p,⟨n,hn,rfl⟩,eo,hq,rfl⟩:=h;rw[List.mapM_cons];rw[Sem.run_bind,Sem.run_bind,nc hn,Result.andThen_ok,Sem.run_pure,Result.andThen_ok,Sem.run_bind,ih eo hq,Result.andThen_ok,Sem.run_pure]
 rw[run_map,main _ _ h];rfl
theorem gO {parts:Array (Nat×Operand)} {zs cs:List Value} {ps:List (Nat×Nat)} {eo:List (Nat×List Value)} (hz:vB P t=some zs) (hp:PU P t=some ps)
  (hq:tU env parts.toList eo) (hf:xg (ps[·]?) zs eo=some cs):cZ P N env (.build t parts) w (.agg cs.toArray):=mk' λρ hρ o ho=>by
 obtain⟨z,h1,h2⟩:=D_ hz w;unfold PU at hp;split at hp
 ·rename_i fs hu;have mw:=run_places hp w;have hmap:=tU.map hρ hq;have nL:=fill_eq (ps[·]?) (parts.toList.map λp=>(p.1,ρ p.2)) eo zs cs (by rw[<-hmap]) hf;have KA:Instr.fill (λx=>ps.toArray[x]?) z.cells (parts.map λx=>(x.1,ρ x.2)).toList=some cs.toArray:=by
   rw[h2];have: (parts.map λx=>(x.1,ρ x.2)).toList=parts.toList.map λp=>(p.1,ρ p.2):=by simp
   rw[this,<-nL];congr 1;funext x;simp
  unfold execOp;rw[ho];simp only[Instr.build,Sem.run_bind,h1,Result.andThen_ok,run_underlying hu,mw];rw[show(parts.map λx=>match x with|(i,x)=>(i,ρ x)).toList=(parts.map λx=>(x.1,ρ x.2)).toList from rfl,KA];rfl
 ·cases hp
end
section
variable {α:Type} [aZ α] {P:Program} {N:Nat} {env:Env} {w:World} {M:Nat->Prop} {C:Nat->Nat} {t e:TypeId}
def Av (env:Env) (w:World) (M:Nat->Prop):Nat->List (Nat×Operand)->List α->Prop
 |_,[],[]=>True
 |k,(i,x)::ps,y::ys=>i=k/\(∃v,ev env x=some v/\av w M y v)/\Av env w M (k+1) ps ys
 |_,_,_=>False
theorem Av.len:∀{k:Nat} {ps:List (Nat×Operand)} {ys:List α},Av env w M k ps ys->ps.length=ys.length
 |_,[],[],_=>rfl
 |_,[],_::_,h=>h.elim
 |_,_::_,[],h=>h.elim
 |k,(i,x)::ps,y::ys,h=>by simp only[List.length_cons];rw[Av.len h.2.2]
theorem av.cells {x:α} {v:Value} (h:av w M x v):∃vs,v.cells=vs.toArray/\aZ.rep w.heap M x vs:=by
 cases hx:aZ.agg α with
 |true=>obtain⟨vs,rfl,_,_,hr⟩:=h.many hx;exact⟨vs,rfl,hr⟩
 |false=>
  have h1:=(h.one hx).1;obtain⟨vs,hr,hv⟩:=h;have hl:=aZ.len hr;rw[aZ.flat hx] at hl;obtain⟨u,rfl⟩:=List.length_eq_one_iff.1 hl;simp only[hx,Bool.false_eq_true,if_false,List.headD_cons] at hv;subst hv;exact⟨[v],h1,hr⟩
theorem KB:∀{ps:List (Nat×Operand)} {ys:List α} {k:Nat} (pre post:List Value),Av env w M k ps ys->pre.length=k*sz α->post.length=ys.length*sz α->
  ∃eo news,tU env ps eo/\xg (λi=>some (i*sz α,sz α)) (pre++post) eo=some (pre++news)/\news.length=ys.length*sz α/\
   ∀i (hi:i<ys.length),aZ.rep w.heap M ys[i] ((news.drop (i*sz α)).take (sz α))
 |[],[],k,pre,post,_,_,hpost=>by
  have:post=[]:=List.eq_nil_of_length_eq_zero (by simpa using hpost);subst this;exact⟨[],[],trivial,by simp[xg],by simp,λi hi=>by simp at hi⟩
 |[],_::_,_,_,_,h,_,_=>h.elim
 |_::_,[],_,_,_,h,_,_=>h.elim
 |(i,x)::ps,y::ys,k,pre,post,h,hpre,hpost=>by
  obtain⟨rfl,⟨v,hv,hr⟩,Xr⟩:=h;obtain⟨vs,hc,tV⟩:=hr.cells;have hl:=aZ.len tV;rw[List.length_cons,Nat.succ_mul] at hpost;obtain⟨eo,news,h1,h2,h3,h4⟩:=KB (k:=i+1) (pre++vs) (post.drop (sz α)) Xr (by rw[List.length_append,hpre,hl,Nat.succ_mul]) (by rw[List.length_drop,hpost];omega);refine⟨(i,vs)::eo,vs++news,⟨rfl,⟨v,hv,hc⟩,h1⟩,?_,?_,?_⟩
  ·simp only[xg];rw[if_pos ⟨hl,by rw[List.length_append,hpre,hl,hpost];omega⟩];rw[show List.take (i*sz α) (pre++post)=pre from by rw[<-hpre];exact List.take_left,show List.drop (i*sz α+vs.length) (pre++post)=post.drop (sz α) from by rw[<-hpre,hl,List.drop_append];simp];rw[h2,List.append_assoc]
  ·rw[List.length_append,hl,h3,List.length_cons,Nat.succ_mul];omega
  ·intro j hj;cases j with
   |zero=>simpa[<-hl] using tV
   |succ j=>
    have:=h4 j (by simpa using hj);rw[show(j+1)*sz α=vs.length+j*sz α from by rw[hl,Nat.succ_mul];omega,List.drop_append,List.drop_eq_nil_of_le (Nat.le_add_right vs.length (j*sz α))];simpa using this
theorem fk {n bytes:Nat} {parts:Array (Nat×Operand)} {ys:List α} (hF:aL w C) (hrow:qu P t e (sz α) bytes=true) (hn:n=ys.length) (pY:n*sz α<=16777216) (hsz:0<sz α)
  (hp:Av env w (au C) 0 parts.toList ys):
  ig P N env (.buildSlice t n parts) w (λv w'=>ax [] w C w' C/\av w' (au C) ys v/\aL w' C):=rq λρ hρ fN ij=>by
 subst hn;obtain⟨i,z,hu,hi,hsi,hby,hz,hzs⟩:=yO hrow
 let zs:List Value:=((Array.range (ys.length*sz α)).map λj=>(if ys.length*sz α=0 then(#[]:Array Value) else z.cells)[j%(if ys.length*sz α=0 then(#[]:Array Value) else z.cells).size]!).toList
 obtain⟨eo,news,h1,h2,h3,h4⟩:=KB (k:=0) [] zs hp aF (by simp[zs]);simp only[List.nil_append] at h2;have hmap:=tU.map hρ h1;have nL:=fill_eq _ (parts.toList.map λp=>(p.1,ρ p.2)) eo zs news (by rw[<-hmap]) h2;have hnew:=xd w (.cells news.toArray e);have hrun: (Instr.buildSlice t ys.length (parts.map λx=>(x.1,ρ x.2))).run P w=.ok (.slice (some ⟨w.heap.size,0,none⟩) ys.length ys.length) (w.alloc (.cells news.toArray e)):=by
  have hle:¬(ys.length*sz α>2^24):=by omega
  have mw: (parts.map λx=>(x.1,ρ x.2)).toList=parts.toList.map λp=>(p.1,ρ p.2):=by simp
  have Ek: (sizeOf e).run P w=.ok (sz α) w:=by simp[sizeOf,typeInfo,hi,hsi]
  unfold Instr.buildSlice;simp only[Sem.run_bind,run_underlying hu,Result.andThen_ok,Ek,if_neg hle,Sem.run_pure,mw];by_cases h0:ys.length*sz α=0
  ·have tR:zs=((Array.range (ys.length*sz α)).map λj=>(#[]:Array Value)[j%(#[]:Array Value).size]!).toList:=by simp only[zs,h0,if_true]
   rw[tR] at nL;simp only[h0,if_true,Sem.run_bind,Sem.run_pure,Result.andThen_ok] at nL⊢;simp only[Array.toArray_toList] at nL;rw[nL];simp[newRow]
  ·have tR:zs=((Array.range (ys.length*sz α)).map λj=>z.cells[j%z.cells.size]!).toList:=by simp only[zs,h0,if_false]
   rw[tR] at nL;have KC: (zeroValue e).run P w=.ok z w:=by simp[zeroValue,typeInfo,hi,hz]
   simp only[h0,if_false,Sem.run_bind,KC,Sem.run_pure,Result.andThen_ok];simp only[Array.toArray_toList] at nL;rw[nL];simp[newRow]
 refine⟨.slice (some ⟨w.heap.size,0,none⟩) ys.length ys.length,w.alloc (.cells news.toArray e),.inl ?_,hnew.st C,?_,hF.st (hnew.st C)⟩
 ·unfold execOp;rw[ij];simp only[Sem.run_bind];rw[show(parts.map λx=>match x with|(i,x)=>(i,ρ x))=(parts.map λx=>(x.1,ρ x.2)) from rfl,hrun];rfl
 ·refine ko.2 ⟨_,_,rfl,Nat.le_refl _,?_,.inr ⟨w.heap.size,0,rfl,λhm=>?_,news.toArray,e,(0,0),hnew.at_,?_,λi hi=>?_⟩⟩
  ·have:ys.length<=ys.length*sz α:=Nat.le_mul_of_pos_right _ hsz;omega
  ·have:=hF _ hm;omega
  ·simp only[Nat.zero_add,List.size_toArray,h3];exact Nat.le_refl _
  ·have:=h4 i hi;rw[Nat.zero_add];exact aZ.keep this (λb hb hm=>hnew.ext.block b hb (λh=>h))
end
section
variable {P:Program} {N:Nat} {env:Env} {w:World} {C:Nat->Nat} {y z:Operand} {t ty:TypeId} {v:Value} {b j n:Nat}
theorem eO {cs vs:List Value} (hx:ev env y=some (.pointer (some ⟨b,0,none⟩))) (hy:ev env z=some v) (hs:gX P t=some n)
  (hv:v.cells=vs.toArray) (hl:vs.length=n) (h1:∀u∈vs,u.oneCell'=true) (hb:cE w C j b (.cells cs.toArray ty)) (ho:cs.length=n):
  ig P N env (.store t y z) w (λu w'=>u=undef/\ax [j] w C w' C/\cE w' C j b (.cells vs.toArray ty)):=λa ha fN ij=>by
 obtain⟨u,w',h2,h3,h4,h5⟩:=Xe (P:=P) (N:=N) (w:=w) (o:=0) hx hy hs hv hl h1 hb ah a ha fN ij;have e:List.take 0 cs++vs++List.drop (0+n) cs=vs:=by
  rw[List.drop_eq_nil_of_le ah];simp
 rw[e] at h5;exact⟨u,w',h2,h3,h4,h5⟩
end
structure Raw (n:Nat) where
 vals:List Value
 len:vals.length=n
 one:∀v∈vals,v.oneCell'=true
instance {n:Nat}:aZ (Raw n) where
 sz:=n
 agg:=true
 flat h:=by cases h
 rep _ _ x vs:=vs=x.vals
 len h:=by subst h;rename_i x;exact x.len
 one h:=by subst h;rename_i x;exact x.one
 keep h _:=h
 sub h _:=h
structure Block where
 hash:Int
 ids:List Int
instance:aZ Block:=aZ.via (λb:Block=>((⟨b.hash⟩:W_),b.ids))
structure ak where
 a:Int
 b:Int
 deriving DecidableEq
instance:aZ ak:=aZ.via (λc:ak=>(c.a,c.b))
section
variable {w:World} {M:Nat->Prop} {b o:Nat} {v:Value}
theorem bR {x:ak}:av w M x v↔v=.agg #[.int .i64 x.a,.int .i64 x.b]:=
 ⟨λh=>by
   obtain⟨vs,⟨us,ws,rfl,h1,h2⟩,hv⟩:=h;have yW:us=[.int .i64 x.a]:=h1;have Aw:ws=[.int .i64 x.b]:=h2;subst yW;subst Aw;exact hv,
  λh=>⟨[.int .i64 x.a,.int .i64 x.b],⟨_,_,rfl,rfl,rfl⟩,h⟩⟩
end
structure iE where
 list:List Int
 at_:Nat
 state:Int
def iE.x (d:iE):Int:=if h:d.at_<d.list.length then IntKind.u64.wrap d.list[d.at_] else 0
def mix (s x:Int):Int:=IntKind.u64.wrap (IntKind.u64.wrap (IntKind.u64.wrap (s+x)*6364136223846793005)+1442695040888963407)
def KD (s:Int):Int:=bitsOf .xor .u64 s (s.fdiv (2^min (33:Int).toNat IntKind.u64.bits))
def KE (y:Int):Int:=bitsOf .xor .u64 y (y.fdiv (2^min (29:Int).toNat IntKind.u64.bits))
def iE.next (d:iE):iE:={list:=d.list,at_:=if d.at_<d.list.length then d.at_+1 else d.at_,state:=mix d.state d.x}
def iE.word (d:iE):Int:=KE (IntKind.u64.wrap (KD d.next.state*18397679294719823053))
theorem Xs (n:Int):0<=IntKind.u64.wrap n/\IntKind.u64.wrap n<18446744073709551616:=by
 have h:IntKind.u64.wrap n=n%18446744073709551616:=by simp[IntKind.wrap,IntKind.signed,IntKind.bits]
 rw[h];exact⟨Int.emod_nonneg _ ai,Int.emod_lt_of_pos _ ai⟩
theorem iE.Xt (d:iE):0<=d.word/\d.word<18446744073709551616:=Xs _
def iE.num (d:iE) (n:Int):Int:=if n<1 then 0 else(d.word/2)%n
def iE.after (d:iE) (n:Int):iE:=if n<1 then d else d.next
theorem iE.Xu (d:iE) {n:Int} (h:1<=n):0<=d.num n/\d.num n<n:=by
 unfold iE.num;rw[if_neg ah];exact⟨Int.emod_nonneg _ ah,Int.emod_lt_of_pos _ ah⟩
theorem iE.Xv (d:iE) (n:Int): (d.after n).list=d.list:=by unfold iE.after;split<;>rfl
def ng (t:TypeId) (w:World) (C:Nat->Nat) (i b:Nat) (d:iE):Prop:=
 d.at_<=d.list.length/\∃v,av w (au C) d.list v/\cE w C i b (.cells [v,.int .i64 d.at_,.int .u64 d.state].toArray t)
section
variable {t:TypeId} {w w':World} {C aQ:Nat->Nat} {i b:Nat} {d:iE} {I:List Nat}
theorem ng.st (h:ng t w C i b d) (hs:ax I w C w' aQ) (h0:0∉I) (hi:i∉I):ng t w' aQ i b d:=by
 obtain⟨h1,v,h2,h3⟩:=h;exact⟨h1,v,h2.st hs h0,h3.st hs hi⟩
theorem ng.eM (h:ng t w C i b d) (hi:i≠0):ng t w (eM C i) 2 b d:=by
 obtain⟨h1,v,h2,h3⟩:=h;exact⟨h1,v,by rw[nK];exact h2,h3.eM hi⟩
theorem ng.bu (h:ng t w C i b d) {n:Nat} (hi:i<n):ng t w (K.bu n C) i b d:=by
 obtain⟨h1,v,h2,h3⟩:=h;exact⟨h1,v,h2.bu n,h3.bu hi⟩
theorem ng.out {w₀:World} {kW:Nat->Nat} (h:ng t w' aQ 2 b d) (hs:ax I w₀ (K.eM kW i) w' aQ) (hF:aL w₀ kW) (hb:kW b=i):ng t w' kW i b d:=by
 obtain⟨h1,v,h2,h3⟩:=h;exact⟨h1,v,h2.out hs hF (nK kW i),⟨hb,h3.at_⟩⟩
end
section
variable {α:Type} [aZ α] {w w':World} {C aQ:Nat->Nat} {P:Program} {N:Nat} {env:Env} {x y z q:Operand} {t ty e:TypeId} {v u:Value} {xs:List α} {j b g n:Nat}
theorem PW {zs:List Value} {s:Nat} (hz:zs.length=s) {c i:Nat} (h:i<c):dh (madeCells zs.toArray (c*s)) (i*s) s=zs:=by
 apply List.ext_getElem?;intro k;have hb: (i+1)*s<=c*s:=Nat.mul_le_mul_right s h;rw[Nat.succ_mul] at hb;simp only[dh,List.getElem?_take,List.getElem?_drop];split
 ·rename_i hk;have h1:i*s+k<c*s:=by omega
  have h2: (i*s+k)%s=k:=by rw[Nat.mul_comm,Nat.mul_add_mod];exact Nat.mod_eq_of_lt hk
  simp[madeCells,h1,hz,h2,List.getElem?_eq_getElem (show k<zs.length by omega)]
 ·rename_i hk;rw[List.getElem?_eq_none ah]
theorem El {bytes l c:Nat} {kl kc:IntKind} {x0:α} {zs:List Value} (hF:aL w C) (hj:j≠0) (hrow:qu P t e (sz α) bytes=true) (G4:vB P e=some zs)
  (hy:ev env y=some (.int kl l)) (hz:ev env z=some (.int kc c)) (hlc:l<=c) (hlen:bytes*c<=140737488355328) (h63:c<=140737488355328) (h0:∀h M,rep h M x0 zs):
  ig P N env (.makeSlice t y z) w (λv w'=>∃aQ,ax [] w C w' aQ/\bg w' aQ j e v (List.replicate l x0)/\aL w' aQ):=rq λρ hρ fN ij=>by
 obtain⟨i,lU,hu,hi,hsi,hby,G5,hzs⟩:=yO hrow;have xh:lU.cells=zs.toArray:=by
  unfold vB at G4;rw[hi] at G4;simp[G5] at G4;rw[<-G4]
 have hzl:zs.length=sz α:=by rw[<-hzs,xh];simp
 have hbc: (i.bytes:Int)*c<=281474976710656:=by
  have: ((bytes*c:Nat):Int)<=140737488355328:=by omega
  rw[Int.natCast_mul] at this;rw[hby];omega
 have hr:=run_make (P:=P) w t e i lU hu hi G5 kl kc l c ah ah hbc ah;simp only[Int.toNat_natCast,hsi,xh] at hr;have hn:=xd w (.cells (madeCells zs.toArray (c*sz α)) e (0,0));obtain⟨aQ,h1,h2,h3⟩:=hn.own hF j;refine⟨_,_,.inl ?_,aQ,h1,⟨.inr ⟨w.heap.size,c,madeCells zs.toArray (c*sz α),by rw[List.length_replicate],?_,h2.at_,by rw[List.length_replicate];exact hlc,by simp[madeCells],λk hk=>?_⟩,λb hb=>?_⟩,h3⟩
 ·unfold execOp;rw[ij];simp only[hρ _ _ hy,hρ _ _ hz,Sem.run_bind];rw[hr];rfl
 ·unfold au;rw[h2.col];exact hj
 ·rw[List.length_replicate] at hk;rw[PW hzl (show k<c by omega),List.getElem_replicate];exact h0 _ _
 ·simp only[c9,Value.ownBlock,Option.some.injEq] at hb;subst hb;exact h2.col
theorem bg.vD (h:bg w C j e v xs) (hne:0<xs.length):∃g cap cs,v=.slice (some ⟨g,0,none⟩) xs.length cap/\C g=j/\au C g/\w.heap[g]?=some (.cells cs e (0,0))/\xs.length<=cap/\cs.size=cap*sz α/\
  ∀i (hi:i<xs.length),rep w.heap (au C) xs[i] (dh cs (i*sz α) (sz α)):=by
 rcases h.own with⟨_,rfl⟩|⟨g,cap,cs,hv,hg,hc,h1,h2,h3⟩
 ·simp at hne
 ·exact⟨g,cap,cs,hv,h.col g (by subst hv;rfl),hg,hc,h1,h2,h3⟩
theorem bg.index (h:bg w C j e v xs) (hy:ev env y=some v) {e':Nat} {kd:IntKind} {i:Int} (hf:jS P t=some (e',sz α)) (hz:ev env z=some (.int kd i)) (h0:0<=i) (h1:i<xs.length):
  ∃g,c9 v g/\∀w',cZ P N env (.indexAddr t y z) w' (.pointer (some ⟨g,i.toNat*sz α,none⟩)):=by
 obtain⟨g,cap,cs,rfl,_,_,hc,_⟩:=h.vD ah;refine⟨g,rfl,λw'=>?_⟩;have:=Km (P:=P) (N:=N) (w:=w') hf hy hz h0 h1;rwa [Nat.zero_add] at this
theorem bg.load (h:bg w C j e v xs) (hg:c9 v g) {i:Nat} (hi:i<xs.length) (ha:gM P t=some false) (hx:aZ.agg α=false) (hy:ev env y=some (.pointer (some ⟨g,i*sz α,none⟩))):
  ∃u,av w (au C) xs[i] u/\∀w',w'.heap[g]?=w.heap[g]?->cZ P N env (.load t y) w' u:=by
 obtain⟨g',cap,cs,rfl,_,_,hc,h1,h2,h3⟩:=h.vD ah;simp only[c9,Value.ownBlock,Option.some.injEq] at hg;subst hg;have hr:=h3 i hi;have hl:=aZ.len hr;rw[aZ.flat hx] at hr hl;obtain⟨u,hu⟩:=List.length_eq_one_iff.1 hl;rw[hu] at hr;refine⟨u,tP hr hx,λw' hw=>?_⟩;have Xw:cs[i*1]?=some u:=by
  have:=congrArg (λl=>l[0]?) hu;simpa[dh] using this
 refine yJ (cs:=cs.toList) (by rw[hw];simpa using hc) ha ?_ hy;rw[aZ.flat hx];simpa using Xw
theorem bg.Cf (h:bg w C j e v xs) (hg:c9 v g) {i:Nat} (hi:i<xs.length) (ha:gM P t=some true) (hs:gX P t=some (sz α)) (hx:aZ.agg α=true) (hy:ev env y=some (.pointer (some ⟨g,i*sz α,none⟩))):
  ∃u,av w (au C) xs[i] u/\∀w',w'.heap[g]?=w.heap[g]?->cZ P N env (.load t y) w' u:=by
 obtain⟨g',cap,cs,rfl,_,_,hc,h1,h2,h3⟩:=h.vD ah;simp only[c9,Value.ownBlock,Option.some.injEq] at hg;subst hg;have hr:=h3 i hi;refine⟨.agg (dh cs (i*sz α) (sz α)).toArray,⟨_,hr,by simp[hx]⟩,λw' hw=>?_⟩;exact om (cs:=cs.toList) (by rw[hw];simpa using hc) ha hs rfl (aZ.len hr) hy
theorem iU {x0:α} {i:Nat} (h:bg w C j e v xs) (hg:c9 v g) (hi:i<xs.length) (hy:ev env y=some (.pointer (some ⟨g,i*sz α,none⟩))) (hz:ev env z=some u) (hs:gX P t=some (sz α)) (hr:av w (au C) x0 u):
  ig P N env (.store t y z) w (λu' w'=>u'=undef/\ax [j] w C w' C/\bg w' C j e v (xs.set i x0)):=λa ha fN ij=>by
 obtain⟨g',cap,cs,rfl,kr,iD,hc,h1,h2,h3⟩:=h.vD ah;simp only[c9,Value.ownBlock,Option.some.injEq] at hg;subst hg;obtain⟨vs,hv,tV⟩:=hr.cells;have hb: (i+1)*sz α<=cap*sz α:=Nat.mul_le_mul_right _ ah;rw[Nat.succ_mul] at hb;have hvl:=aZ.len tV;obtain⟨u',w',k1,k2,Ay⟩:=GY (P:=P) (N:=N) (cs:=cs.toList) (n:=sz α) (vs:=vs) hy hz hs hv hvl (aZ.one tV) (by simpa using hc) (by simp only[Array.length_toList];omega) a ha fN ij;have hst:ax [j] w C w' C:=⟨Ay.ext.mono (λb _ hb=>by rw[show b=g' from hb,kr];simp),λ_ _=>rfl⟩
 have keep:∀{x:α} {vs:List Value},rep w.heap (au C) x vs->rep w'.heap (au C) x vs:=λhr=>aZ.keep hr (λb hb hn=>Ay.ext.block b hb (λe=>hn (by rw[show b=g' from e];exact iD)));refine⟨u',w',k1,k2,hst,⟨.inr ⟨g',cap,_,by rw[List.length_set],iD,Ay.at_,by rw[List.length_set];exact h1,?_,λk hk=>?_⟩,h.col⟩⟩
 ·simp only[List.size_toArray,List.length_append,List.length_take,List.length_drop,Array.length_toList,hvl];omega
 ·rw[List.length_set] at hk;rw[List.getElem_set];split
  ·rename_i hik;subst hik;have:dh (cs.toList.take (i*sz α)++vs++cs.toList.drop (i*sz α+sz α)).toArray (i*sz α) (sz α)=vs:=by
    unfold dh;simp only[List.append_assoc];rw[List.drop_append_of_le_length (by simp only[List.length_take,Array.length_toList];omega),List.drop_eq_nil_of_le (by simp only[List.length_take];omega),List.nil_append,<-hvl,List.take_left]
   rw[this];exact keep tV
  ·rename_i hik;have:dh (cs.toList.take (i*sz α)++vs++cs.toList.drop (i*sz α+sz α)).toArray (k*sz α) (sz α)=dh cs (k*sz α) (sz α):=rY (λm hm=>by
    rw[show∀(l:List Value) (p:Nat),l.toArray[p]?=l[p]? from λl p=>by simp,<-Array.getElem?_toList];rcases Nat.lt_or_ge k i with hlt|hge
    ·have:=Nat.mul_le_mul_right (sz α) (show k+1<=i from hlt);rw[Nat.succ_mul] at this;rw[List.append_assoc,List.getElem?_append_left (by simp only[List.length_take,Array.length_toList];omega),List.getElem?_take,if_pos ah]
    ·have:=Nat.mul_le_mul_right (sz α) (show i+1<=k by omega);rw[Nat.succ_mul] at this;rw[List.getElem?_append_right (by simp only[List.length_append,List.length_take,Array.length_toList,hvl];omega),List.getElem?_drop];congr 1;simp only[List.length_append,List.length_take,Array.length_toList,hvl];omega)
   rw[this];exact keep (h3 k hk)
end
section
variable {α:Type} [aZ α] {w:World} {C:Nat->Nat} {P:Program} {f:FuncId} {N:Nat} {k:List Item} {R:Value->World->Prop} {Q:Exit->Act->World->Prop} {env:Env} {ops:Array Oper} {S:World->Prop} {i t:Nat} {L:List (Nat×Bool)} {v:Value} {y z:Operand} {gq:Option (Nat×Bool)} {ty e e':TypeId} {xs:List α} {j g:Nat} {kd:IntKind} {n:Int}
theorem Xx (hop:cv ops i=some (some t,.indexAddr ty y z,gq)) (hw:ec ops env gq=some true) (ht:Nat.blt t N=true) (hl:bg w C j e v xs) (hy:ev env y=some v)
  (hf:jS P ty=some (e',sz α)) (hz:ev env z=some (.int kd n)) (h0:0<=n) (h1:n<xs.length)
  (h:∀g,c9 v g->bO P N Q ops S L ((t,.pointer (some ⟨g,n.toNat*sz α,none⟩))::env) w):bO P N Q ops S ((i,true)::L) env w:=by
 obtain⟨g,h2,h3⟩:=hl.index (P:=P) (N:=N) hy hf hz h0 h1;exact kI hop hw ht (λw' _=>h3 w') (h g h2)
theorem Xy {i':Nat} (hop:cv ops i=some (some t,.load ty y,gq)) (hw:ec ops env gq=some true) (ht:Nat.blt t N=true) (hS:S w) (hl:bg w C j e v xs) (hg:c9 v g) (hi:i'<xs.length) (ha:gM P ty=some false) (hx:aZ.agg α=false)
  (hy:ev env y=some (.pointer (some ⟨g,i'*sz α,none⟩))) (h:∀v,av w (au C) xs[i'] v->bO P N Q ops S L ((t,v)::env) w):bO P N Q ops S ((i,false)::L) env w:=by
 obtain⟨v,h2,h3⟩:=hl.load (P:=P) (N:=N) hg hi ha hx hy;exact tT hop hw ht hS (h3 w rfl) (h v h2)
theorem Xz {i':Nat} (hop:cv ops i=some (some t,.load ty y,gq)) (hw:ec ops env gq=some true) (ht:Nat.blt t N=true) (hS:S w) (hl:bg w C j e v xs) (hg:c9 v g) (hi:i'<xs.length) (ha:gM P ty=some true) (hs:gX P ty=some (sz α)) (hx:aZ.agg α=true)
  (hy:ev env y=some (.pointer (some ⟨g,i'*sz α,none⟩))) (h:∀v,av w (au C) xs[i'] v->bO P N Q ops S L ((t,v)::env) w):bO P N Q ops S ((i,false)::L) env w:=by
 obtain⟨v,h2,h3⟩:=hl.Cf (P:=P) (N:=N) hg hi ha hs hx hy;exact tT hop hw ht hS (h3 w rfl) (h v h2)
theorem bg.stay {w':World} {I:List Nat} (h:bg w C j e v xs) (hg:c9 v g) (hS:Ext (λb=>C b∈I) w w') (hj:j∉I):w'.heap[g]?=w.heap[g]?:=
 hS.block g (h.own.fh g hg).2 (by rw[h.col g hg];exact hj)
theorem bg.yU {w':World} {I:List Nat} (h:bg w C j e v xs) (hg:c9 v g) (hS:Ext (λb=>C b∈I) w w') (hj:j∉I:=by first|decide|(simp<;>omega)):w'.heap[g]?=w.heap[g]?:=h.stay hg hS hj
theorem afF {i':Nat} {I:List Nat} (hop:cv ops i=some (some t,.load ty y,gq)) (hw:ec ops env gq=some true) (ht:Nat.blt t N=true) (hl:bg w C j e v xs) (hg:c9 v g) (hst:∀w',S w'->w'.heap[g]?=w.heap[g]?) (hi:i'<xs.length) (ha:gM P ty=some false) (hx:aZ.agg α=false)
  (hy:ev env y=some (.pointer (some ⟨g,i'*sz α,none⟩))) (h:∀v,av w (au C) xs[i'] v->bO P N Q ops S L ((t,v)::env) w):bO P N Q ops S ((i,true)::L) env w:=by
 obtain⟨v,h2,h3⟩:=hl.load (P:=P) (N:=N) hg hi ha hx hy;exact kI hop hw ht (λw' hS=>h3 w' (hst w' hS)) (h v h2)
theorem afG {i':Nat} {I:List Nat} (hop:cv ops i=some (some t,.load ty y,gq)) (hw:ec ops env gq=some true) (ht:Nat.blt t N=true) (hl:bg w C j e v xs) (hg:c9 v g) (hst:∀w',S w'->w'.heap[g]?=w.heap[g]?) (hi:i'<xs.length) (ha:gM P ty=some true) (hs:gX P ty=some (sz α)) (hx:aZ.agg α=true)
  (hy:ev env y=some (.pointer (some ⟨g,i'*sz α,none⟩))) (h:∀v,av w (au C) xs[i'] v->bO P N Q ops S L ((t,v)::env) w):bO P N Q ops S ((i,true)::L) env w:=by
 obtain⟨v,h2,h3⟩:=hl.Cf (P:=P) (N:=N) hg hi ha hs hx hy;exact kI hop hw ht (λw' hS=>h3 w' (hst w' hS)) (h v h2)
end
section
variable {α:Type} [aZ α] {w w1:World} {M:Nat->Prop} {C:Nat->Nat} {P:Program} {N:Nat} {Q:Exit->Act->World->Prop} {env:Env} {ops:Array Oper} {S:World->Prop} {i:Nat} {L:List (Nat×Bool)} {v:Value} {e1:TypeId} {xs:List α} {j:Nat} {kd:IntKind} {n:Int}
theorem afH (e t ty a b:Nat) (hl:av w1 M xs v) (hz:look env b=some (.int kd n)) (hop:cv ops i=some (some t,.indexAddr ty (.tmp a) (.tmp b),none):=by kernel_rfl) (hy:look env a=some v:=by exact rfl) (hf:jS P ty=some (e,sz α):=by kernel_rfl)
 (h0:0<=n:=by omega) (h1:n<xs.length:=by omega) (ht:Nat.blt t N=true:=by rfl) (h:∀b o,bJ w1 M (xs[n.toNat]'ah) b o->bO P N Q ops S L ((t,.pointer (some ⟨b,o,none⟩))::env) w):bO P N Q ops S ((i,true)::L) env w:=iS hop rfl ht hl hy hf hz h0 h1 h
theorem afI (e' t ty a b:Nat) (hl:bg w C j e1 v xs) (hz:look env b=some (.int kd n)) (h1:n<xs.length) (hop:cv ops i=some (some t,.indexAddr ty (.tmp a) (.tmp b),none):=by kernel_rfl) (hy:look env a=some v:=by exact rfl) (hf:jS P ty=some (e',sz α):=by kernel_rfl)
 (h0:0<=n:=by omega) (ht:Nat.blt t N=true:=by rfl) (h:∀g,c9 v g->bO P N Q ops S L ((t,.pointer (some ⟨g,n.toNat*sz α,none⟩))::env) w):bO P N Q ops S ((i,true)::L) env w:=Xx hop rfl ht hl hy hf hz h0 h1 h
theorem afJ (t T a:Nat) {b o:Nat} {cs:List Value} {ty:TypeId} {e8:Nat×Nat} (hc:w.heap[b]?=some (.cells cs.toArray ty e8)) (hy:look env a=some (.pointer (some ⟨b,o,none⟩))) (hv:cs[o]?=some v) (h:bO P N Q ops (λ_=>True) L ((t,v)::env) w)
 (hop:cv ops i=some (some t,.load T (.tmp a),none):=by kernel_rfl) (ha:gM P T=some false:=by kernel_rfl) (ht:Nat.blt t N=true:=by rfl):bO P N Q ops (λ_=>True) ((i,false)::L) env w:=tT hop rfl ht trivial (yJ hc ha hv hy) h
theorem zE (t a T:Nat) (hv:∀w',cZ P N env (.call {callee:=.builtin .len,args:=#[.tmp a],argTypes:=#[T]}) w' v) (h:bO P N Q ops S L ((t,v)::env) w)
 (hop:cv ops i=some (some t,.call {callee:=.builtin .len,args:=#[.tmp a],argTypes:=#[T]},none):=by kernel_rfl) (ht:Nat.blt t N=true:=by rfl):bO P N Q ops S ((i,true)::L) env w:=kI hop rfl ht (λw' _=>hv w') h
theorem afK (t a T g:Nat) (b:Bool) (hv:∀w',cZ P N env (.call {callee:=.builtin .len,args:=#[.tmp a],argTypes:=#[T]}) w' v) (h:bO P N Q ops S L ((t,v)::env) w)
 (hop:cv ops i=some (some t,.call {callee:=.builtin .len,args:=#[.tmp a],argTypes:=#[T]},some (g,b)):=by kernel_rfl) (hw:ec ops env (some (g,b))=some true:=by rfl) (ht:Nat.blt t N=true:=by rfl):bO P N Q ops S ((i,true)::L) env w:=kI hop hw ht (λw' _=>hv w') h
theorem afL (t T a n:Nat) {b o:Nat} {cs:List Value} {ty:TypeId} {e8:Nat×Nat} (vs:List Value) (hc:w.heap[b]?=some (.cells cs.toArray ty e8)) (h:bO P N Q ops (λ_=>True) L ((t,.agg vs.toArray)::env) w)
 (hop:cv ops i=some (some t,.load T (.tmp a),none):=by kernel_rfl) (ha:gM P T=some true:=by kernel_rfl) (hs:gX P T=some n:=by kernel_rfl) (hy:look env a=some (.pointer (some ⟨b,o,none⟩)):=by exact rfl) (hv: (cs.drop o).take n=vs:=by exact rfl) (hl:vs.length=n:=by exact rfl) (ht:Nat.blt t N=true:=by rfl):
 bO P N Q ops (λ_=>True) ((i,false)::L) env w:=tT hop rfl ht trivial (om hc ha hs hv hl hy) h
theorem afM (t T a g:Nat) (bb:Bool) (n:Nat) {b o:Nat} {cs:List Value} {ty:TypeId} {e8:Nat×Nat} (vs:List Value) (hc:w.heap[b]?=some (.cells cs.toArray ty e8)) (h:bO P N Q ops (λ_=>True) L ((t,.agg vs.toArray)::env) w)
 (hop:cv ops i=some (some t,.load T (.tmp a),some (g,bb)):=by kernel_rfl) (hw:ec ops env (some (g,bb))=some true:=by rfl) (ha:gM P T=some true:=by kernel_rfl) (hs:gX P T=some n:=by kernel_rfl) (hy:look env a=some (.pointer (some ⟨b,o,none⟩)):=by exact rfl) (hv: (cs.drop o).take n=vs:=by exact rfl) (hl:vs.length=n:=by exact rfl) (ht:Nat.blt t N=true:=by rfl):
 bO P N Q ops (λ_=>True) ((i,false)::L) env w:=tT hop hw ht trivial (om hc ha hs hv hl hy) h
theorem afN (t T a g:Nat) (bb:Bool) {b o:Nat} {cs:List Value} {ty:TypeId} {e8:Nat×Nat} (hc:w.heap[b]?=some (.cells cs.toArray ty e8)) (h:bO P N Q ops (λ_=>True) L ((t,v)::env) w)
 (hop:cv ops i=some (some t,.load T (.tmp a),some (g,bb)):=by kernel_rfl) (hw:ec ops env (some (g,bb))=some true:=by rfl) (ha:gM P T=some false:=by kernel_rfl) (hy:look env a=some (.pointer (some ⟨b,o,none⟩)):=by exact rfl) (hv:cs[o]?=some v:=by exact rfl) (ht:Nat.blt t N=true:=by rfl):
 bO P N Q ops (λ_=>True) ((i,false)::L) env w:=tT hop hw ht trivial (yJ hc ha hv hy) h
theorem afO (t T a n:Nat) {b o:Nat} {cs:List Value} {ty:TypeId} {e8:Nat×Nat} (vs:List Value) (hc:∀{w':World},S w'->w'.heap[b]?=some (.cells cs.toArray ty e8)) (h:bO P N Q ops S L ((t,.agg vs.toArray)::env) w)
 (hop:cv ops i=some (some t,.load T (.tmp a),none):=by kernel_rfl) (ha:gM P T=some true:=by kernel_rfl) (hs:gX P T=some n:=by kernel_rfl) (hy:look env a=some (.pointer (some ⟨b,o,none⟩)):=by exact rfl) (hv: (cs.drop o).take n=vs:=by exact rfl) (hl:vs.length=n:=by exact rfl) (ht:Nat.blt t N=true:=by rfl):
 bO P N Q ops S ((i,true)::L) env w:=kI hop rfl ht (λ_ hS=>om (hc hS) ha hs hv hl hy) h
theorem afP (t T a:Nat) {b o:Nat} {cs:List Value} {ty:TypeId} {e8:Nat×Nat} (hc:∀{w':World},S w'->w'.heap[b]?=some (.cells cs.toArray ty e8)) (h:bO P N Q ops S L ((t,v)::env) w)
 (hop:cv ops i=some (some t,.load T (.tmp a),none):=by kernel_rfl) (ha:gM P T=some false:=by kernel_rfl) (hy:look env a=some (.pointer (some ⟨b,o,none⟩)):=by exact rfl) (hv:cs[o]?=some v:=by exact rfl) (ht:Nat.blt t N=true:=by rfl):
 bO P N Q ops S ((i,true)::L) env w:=kI hop rfl ht (λ_ hS=>yJ (hc hS) ha hv hy) h
end
theorem G6 {P:Program} {N:Nat} {env:Env} {op:Op} {w:World} {p:Prop} [Decidable p] (h:cZ P N env op w (.bool (decide p))) (hp:¬p):cZ P N env op w (.bool false):=by rwa [decide_eq_false hp] at h
theorem KF {P:Program} {N:Nat} {env:Env} {op:Op} {w:World} {p:Prop} [Decidable p] (h:cZ P N env op w (.bool (decide p))) (hp:p):cZ P N env op w (.bool true):=by rwa [decide_eq_true hp] at h
theorem z9 (w:World) (C:Nat->Nat):ax [2,3,4,5,6,7,8,9] w (bk C) w (bk C):=ax.refl _ _ _
theorem jf {vs:List Value} (h:vs.all (·.oneCell')=true):∀u∈vs,u.oneCell'=true:=List.all_eq_true.1 h
theorem kX:∀u∈([]:List Value),u.oneCell'=true:=λ_ h=>nomatch h
theorem kY {v:Value} {vs:List Value} (h:v.oneCell'=true) (t:∀u∈vs,u.oneCell'=true):∀u∈v::vs,u.oneCell'=true:=λ_ hu=>(List.mem_cons.1 hu).elim (λe=>e▸h) (t _)
theorem fP (n:Nat): (n:Int).toNat=n:=rfl
theorem bg.u {α:Type} [aZ α] {w w':World} {C aQ:Nat->Nat} {I:List Nat} {j:Nat} {e:TypeId} {v:Value} {ys:List α} (h:bg w C j e v ys) (hs:ax I w C w' aQ) (h0:0∉I:=by first|decide|(simp<;>omega)) (hj:j∉I:=by first|decide|(simp<;>omega)):bg w' aQ j e v ys:=h.st hs h0 hj
theorem av.c1 {α:Type} [aZ α] {w:World} {C:Nat->Nat} {x:α} {v:Value} (h:av w (au C) x v):av w (au (bk C)) x v:=by rw[fu];exact h
theorem ax.aY {w w' w'':World} {C aQ yR:Nat->Nat} {I J:List Nat} (h:ax I w C w' aQ) (h':ax J w' aQ w'' yR):ax (I++J) w C w'' yR:=(h.mono (λc hc=>List.mem_append_left _ hc)).trans h' (λc hc=>List.mem_append_right _ hc)
structure vE where
 v:Value
 p:Option Prop
 b:Bool
def KG:IntKind->IntKind->Bool
 | .i8,.i8=>true| .i16,.i16=>true| .i32,.i32=>true| .i64,.i64=>true
 | .u8,.u8=>true| .u16,.u16=>true| .u32,.u32=>true| .u64,.u64=>true
 |_,_=>false
theorem PX {k j:IntKind} (h:KG k j=true):k=j:=by cases k<;>cases j<;>first|rfl|cases h
def KH (op:BinOp) (k:IntKind) (m n:Int):Option vE:=
 match op with
 | .lss=>some ⟨.bool (decide (m<n)),none,true⟩
 | .leq=>some ⟨.bool (decide (m<=n)),none,true⟩
 | .gtr=>some ⟨.bool (decide (n<m)),none,true⟩
 | .geq=>some ⟨.bool (decide (n<=m)),none,true⟩
 | .eql=>some ⟨.bool (decide (m=n)),none,true⟩
 | .neq=>some ⟨.bool (decide (m≠n)),none,true⟩
 | .add=>match k with| .i64=>some ⟨.int .i64 (m+n),some (-9223372036854775808<=m+n/\m+n<=9223372036854775807),true⟩|k=>some ⟨.int k (k.wrap (m+n)),none,true⟩
 | .sub=>match k with| .i64=>some ⟨.int .i64 (m-n),some (-9223372036854775808<=m-n/\m-n<=9223372036854775807),true⟩|k=>some ⟨.int k (k.wrap (m-n)),none,true⟩
 | .mul=>match k with| .i64=>some ⟨.int .i64 (m*n),some (-9223372036854775808<=m*n/\m*n<=9223372036854775807),true⟩|k=>some ⟨.int k (k.wrap (m*n)),none,true⟩
 | .and=>some ⟨.int k (bitsOf .and k m n),none,true⟩
 | .or=>some ⟨.int k (bitsOf .or k m n),none,true⟩
 | .xor=>some ⟨.int k (bitsOf .xor k m n),none,true⟩
 | .quo=>match k with| .i64=>some ⟨.int .i64 (m/n),some (0<=m/\1<=n/\m<=9223372036854775807),true⟩|_=>none
 | .rem=>match k with| .i64=>some ⟨.int .i64 (m%n),some (0<=m/\1<=n),true⟩|_=>none
 |_=>none
def PY:Value->Option vE
 | .pointer (some q)=>some ⟨.pointer (some q),none,true⟩
 |_=>none
def PZ (i:Nat):Value->Option vE
 | .tuple vs=>match vs[i]? with|some v=>some ⟨v,none,true⟩|none=>none
 |_=>none
def P0 (P:Program) (T f off:Nat):Value->Option vE
 | .pointer (some ⟨b,o,none⟩)=>some ⟨.pointer (some ⟨b,o+off,none⟩),none,match Ch P T f with|some q=>Nat.beq q off|none=>false⟩
 |_=>none
def P3 (op:BinOp) (x y:Value):Option vE:=match x with
 | .int k m=>match y with
  | .int j n=>match KG k j with|true=>KH op k m n|false=>none
  |_=>none
 |_=>none
def P4:Value->Option vE| .bool b=>some ⟨.bool (!b),none,true⟩|_=>none
def P5 (env:Env) (x y z:Operand):Option vE:=match ev env x with
 |some (.bool true)=>match ev env y with|some v=>some ⟨v,none,true⟩|none=>none
 |some (.bool false)=>match ev env z with|some v=>some ⟨v,none,true⟩|none=>none
 |_=>none
def pv (P:Program) (off:Nat) (env:Env):Op->Option vE
 | .move x=>match ev env x with|some v=>some ⟨v,none,true⟩|none=>none
 | .assign x=>match ev env x with|some v=>some ⟨v,none,true⟩|none=>none
 | .nilCheck x=>match ev env x with|some v=>PY v|none=>none
 | .extract x i=>match ev env x with|some v=>PZ i v|none=>none
 | .fieldAddr T x f=>match ev env x with|some v=>P0 P T f off v|none=>none
 | .pick x y z=>P5 env x y z
 | .unOp .not _ x=>match ev env x with|some v=>P4 v|none=>none
 | .binOp op _ x y _=>match ev env x with|some u=>(match ev env y with|some v=>P3 op u v|none=>none)|none=>none
 |_=>none
def XA:Op->Bool| .fieldAddr _ _ _=>true|_=>false
def holds:Option Prop->Prop|none=>True|some p=>p
section
variable {P:Program} {N:Nat} {env:Env} {w:World}
theorem XB {op:BinOp} {k:IntKind} {m n:Int} {T U:TypeId} {x y:Operand} {r:vE} (hx:ev env x=some (.int k m)) (hy:ev env y=some (.int k n)) (h:KH op k m n=some r) (hp:holds r.p):
  cZ P N env (.binOp op T x y U) w r.v:=by
 cases op<;>simp only[KH] at h
 case lss=>cases h;exact Kj hx hy
 case leq=>cases h;exact Pz hx hy
 case gtr=>cases h;exact GV hx hy
 case geq=>cases h;exact PA hx hy
 case eql=>cases h;exact GX hx hy
 case neq=>cases h;exact wZ hx hy
 case add=>cases k<;>simp only at h<;>cases h<;>first|exact Kk hx hy hp.1 hp.2|exact val_add hx hy
 case sub=>cases k<;>simp only at h<;>cases h<;>first|exact W5 hx hy hp.1 hp.2|exact val_sub hx hy
 case mul=>cases k<;>simp only at h<;>cases h<;>first|exact W6 hx hy hp.1 hp.2|exact val_mul hx hy
 case and=>cases h;exact W0 hx hy
 case or=>cases h;exact W3 hx hy
 case xor=>cases h;exact W4 hx hy
 case quo=>cases k<;>simp only at h<;>cases h;exact W7 hx hy hp.1 hp.2.1 hp.2.2
 case rem=>cases k<;>simp only at h<;>cases h;exact W8 hx hy hp.1 hp.2
 all_goals cases h
theorem KI {off:Nat} {op:Op} {r:vE} (h:pv P off env op=some r) (hp:holds r.p) (hb:r.b=true):cZ P N env op w r.v:=by
 cases op<;>simp only[pv] at h
 case move x=>cases hx:ev env x with|none=>rw[hx] at h;cases h|some v=>rw[hx] at h;cases h;exact Cc hx
 case assign x=>cases hx:ev env x with|none=>rw[hx] at h;cases h|some v=>rw[hx] at h;cases h;exact D7 hx
 case nilCheck x=>
  cases hx:ev env x with
  |none=>rw[hx] at h;cases h
  |some v=>rw[hx] at h;simp only at h;unfold PY at h;split at h<;>cases h;exact Px hx
 case extract x i=>
  cases hx:ev env x with
  |none=>rw[hx] at h;cases h
  |some v=>
   rw[hx] at h;simp only at h;unfold PZ at h;split at h
   ·rename_i vs;cases hv:vs[i]? with
    |none=>rw[hv] at h;cases h
    |some u=>rw[hv] at h;cases h;exact Py hx hv
   ·cases h
 case fieldAddr T x f=>
  cases hx:ev env x with
  |none=>rw[hx] at h;cases h
  |some v=>
   rw[hx] at h;simp only at h;unfold P0 at h;split at h<;>cases h;simp only at hb;cases hf:Ch P T f with
   |none=>rw[hf] at hb;cases hb
   |some q=>rw[hf] at hb;exact Kl (off:=off) (by rw[hf,Nat.eq_of_beq_eq_true hb]) hx
 case pick x y z=>
  unfold P5 at h;split at h
  ·rename_i hx;cases hy:ev env y with
   |none=>rw[hy] at h;cases h
   |some v=>rw[hy] at h;cases h;exact Kh hx hy
  ·rename_i hx;cases hy:ev env z with
   |none=>rw[hy] at h;cases h
   |some v=>rw[hy] at h;cases h;exact Ki hx hy
  ·cases h
 case unOp u T x=>
  cases u<;>simp only at h
  case not=>
   cases hx:ev env x with
   |none=>rw[hx] at h;cases h
   |some v=>rw[hx] at h;simp only at h;unfold P4 at h;split at h<;>cases h;exact nI hx
  all_goals cases h
 case binOp op T x y U=>
  cases hx:ev env x with
  |none=>rw[hx] at h;cases h
  |some u=>
   cases hy:ev env y with
   |none=>rw[hx,hy] at h;cases h
   |some v=>
    rw[hx,hy] at h;simp only at h;unfold P3 at h;split at h
    ·split at h
     ·split at h
      ·rename_i hk;obtain rfl:=PX hk;exact XB hx hy h hp
      ·cases h
     ·cases h
    ·cases h
 all_goals cases h
end
inductive Az where
 |c (k:List Item) (env:Env)
 |o (k:List Item) (ops:Array Oper) (S:World->Prop) (L:List (Nat×Bool)) (env:Env)
def Em (P:Program) (f:FuncId) (N:Nat) (R:Value->World->Prop) (w:World):Az->Prop
 | .c k env=>Run P f N k env w R
 | .o k ops S L env=>cD P f N k R ops S L env w
def G7:Nat->Nat->Nat->List (Nat×Bool)
 |0,_,_=>[]
 |n+1,i,m=>(i,Nat.testBit m i)::G7 n (i+1) m
theorem P6:∀(n i m:Nat),(G7 n i m).map (·.1)=List.range' i n
 |0,_,_=>rfl
 |n+1,i,m=>by simp[G7,P6 n (i+1) m,List.range'_succ]
structure Co where
 s:Az
 p:Option Prop
 b:Bool
 hs:List Nat
structure G8 where
 env:Env
 p:Option Prop
 b:Bool
 hs:List Nat
def P7 (P:Program) (N:Nat) (ops:Array Oper) (i:Nat) (env:Env) (hs:List Nat):Option G8:=
 match cv ops i with
 |some (some t,op,g)=>match Nat.blt t N with
  |true=>match ec ops env g with
   |some true=>match XA op with
    |true=>match hs with
     |off::hs=>match pv P off env op with|some ⟨v,p,b⟩=>some ⟨(t,v)::env,p,b,hs⟩|none=>none
     |[]=>none
    |false=>match pv P 0 env op with|some ⟨v,p,b⟩=>some ⟨(t,v)::env,p,b,hs⟩|none=>none
   |some false=>some ⟨(t,undef)::env,none,true,hs⟩
   |none=>none
  |false=>none
 |_=>none
def P8 (N:Nat) (ops:Array Oper) (S:World->Prop) (i:Nat) (env:Env) (hs:List Nat) (w:World):Option G8:=
 match cv ops i with
 |some (some t,_,g)=>match Nat.blt t N with
  |true=>match ec ops env g with
   |some false=>some ⟨(t,undef)::env,some (S w),true,hs⟩
   |_=>none
  |false=>none
 |_=>none
def G9 (P:Program) (N:Nat) (w:World) (ops:Array Oper) (S:World->Prop) (i:Nat) (b:Bool) (env:Env) (hs:List Nat):Option G8:=
 match b with|true=>P7 P N ops i env hs|false=>P8 N ops S i env hs w
def P9 (env:Env) (a b:Code) (k:List Item) (hs:List Nat) (o:Operand):Option Co:=match ev env o with
 |some (.bool true)=>some ⟨.c (.code a::k) env,none,true,hs⟩
 |some (.bool false)=>some ⟨.c (.code b::k) env,none,true,hs⟩
 |_=>none
def P_ (k:List Item) (env:Env) (ops:Array Oper):List Nat->Option Co
 |m::hs=>some ⟨.o k ops (λ_=>True) (G7 ops.size 0 m) env,none,true,hs⟩
 |[]=>none
def KJ (k:List Item) (env:Env) (hs:List Nat):Code->Option Co
 | .skip=>some ⟨.c k env,none,true,hs⟩
 | .seq a b=>some ⟨.c (.code a:: .code b::k) env,none,true,hs⟩
 | .block id b=>some ⟨.c (.code b:: .inBlock id::k) env,none,true,hs⟩
 | .exit id=>match exitTo id k with|some k'=>some ⟨.c k' env,none,true,hs⟩|none=>none
 | .cond o a b=>P9 env a b k hs o
 | .region _ ops false=>P_ k env ops hs
 |_=>none
def KK (P:Program) (N:Nat) (w:World) (hs:List Nat):Az->Option Co
 | .o k ops S [] env=>some ⟨.c k env,none,true,hs⟩
 | .o k ops S ((i,b)::L) env=>match G9 P N w ops S i b env hs with|some ⟨e,p,q,hs⟩=>some ⟨.o k ops S L e,p,q,hs⟩|none=>none
 | .c (.inBlock _::k) env=>some ⟨.c k env,none,true,hs⟩
 | .c (.code c::k) env=>KJ k env hs c
 | .c _ _=>none
section
variable {P:Program} {f:FuncId} {N:Nat} {R:Value->World->Prop} {w:World}
theorem KL {Q:Exit->Act->World->Prop} {ops:Array Oper} {S:World->Prop} {i:Nat} {b:Bool} {L:List (Nat×Bool)} {env:Env} {hs:List Nat} {r:G8} (h:G9 P N w ops S i b env hs=some r) (hp:holds r.p) (hb:r.b=true)
  (hg:bO P N Q ops S L r.env w):bO P N Q ops S ((i,b)::L) env w:=by
 unfold G9 at h;split at h
 ·unfold P7 at h;split at h
  ·rename_i t op g hop;split at h
   ·rename_i ht;split at h
    ·rename_i hw;split at h
     ·split at h
      ·rename_i off hs';cases hv:pv P off env op with
       |none=>rw[hv] at h;cases h
       |some q=>rw[hv] at h;cases h;exact kI hop hw ht (λw' _=>KI hv hp hb) hg
      ·cases h
     ·cases hv:pv P 0 env op with
      |none=>rw[hv] at h;cases h
      |some q=>rw[hv] at h;cases h;exact kI hop hw ht (λw' _=>KI hv hp hb) hg
    ·rename_i hw;cases h;exact PG hop hw ht hg
    ·cases h
   ·cases h
  ·cases h
 ·unfold P8 at h;split at h
  ·rename_i t op g hop;split at h
   ·rename_i ht;split at h
    ·rename_i hw;cases h;exact Xd hop hw ht hp hg
    ·cases h
   ·cases h
  ·cases h
theorem XC {k:List Item} {env:Env} {hs:List Nat} {r:Co} {c:Code} (h:KJ k env hs c=some r) (hg:Em P f N R w r.s):Run P f N (.code c::k) env w R:=by
 unfold KJ at h;split at h
 ·cases h;exact Po rfl hg
 ·cases h;exact run_seq rfl hg
 ·cases h;exact Pn rfl hg
 ·split at h<;>cases h;rename_i hk;exact Pp rfl hk hg
 ·unfold P9 at h;split at h
  ·rename_i hv;cases h;exact Ca rfl hv (λ_=>hg) (λe=>by cases e)
  ·rename_i hv;cases h;exact Ca rfl hv (λe=>by cases e) (λ_=>hg)
  ·cases h
 ·unfold P_ at h;split at h<;>cases h;exact Pr _ rfl (by rw[P6,List.range_eq_range']) hg
 ·cases h
theorem Qa {hs:List Nat} {s:Az} {r:Co} (h:KK P N w hs s=some r) (hp:holds r.p) (hb:r.b=true) (hg:Em P f N R w r.s):Em P f N R w s:=by
 unfold KK at h;split at h
 ·cases h;exact cD.nil hg
 ·split at h
  ·rename_i ho;cases h;exact KL ho hp hb hg
  ·cases h
 ·cases h;exact WR hg
 ·exact XC h hg
 ·cases h
end
structure Qb where
 s:Az
 ps:List Prop
 b:Bool
def tW (P:Program) (N:Nat) (w:World):Nat->List Nat->Az->List Prop->Bool->Option Qb
 |0,_,s,ps,b=>some ⟨s,ps,b⟩
 |n+1,hs,s,ps,b=>match KK P N w hs s with
  |some ⟨s',some p,q,hs'⟩=>tW P N w n hs' s' (p::ps) (b&&q)
  |some ⟨s',none,q,hs'⟩=>tW P N w n hs' s' ps (b&&q)
  |none=>none
def kK:List Prop->Prop|[]=>True|p::l=>p/\kK l
theorem kK.mk {p:Prop} {l:List Prop} (h:p) (t:kK l):kK (p::l):=⟨h,t⟩
theorem Cp {P:Program} {f:FuncId} {N:Nat} {R:Value->World->Prop} {w:World}:∀(n:Nat) (hs:List Nat) (s:Az) (ps:List Prop) (b:Bool) (t:Qb),tW P N w n hs s ps b=some t->kK t.ps->t.b=true->
  Em P f N R w t.s->(kK ps/\b=true)/\Em P f N R w s
 |0,hs,s,ps,b,t,h,hp,hb,hg=>by cases h;exact⟨⟨hp,hb⟩,hg⟩
 |n+1,hs,s,ps,b,t,h,hp,hb,hg=>by
  unfold tW at h;split at h
  ·rename_i hr;obtain⟨⟨h1,h2⟩,h3⟩:=Cp n _ _ _ _ _ h hp hb hg;rw[Bool.and_eq_true] at h2;exact⟨⟨h1.2,h2.1⟩,Qa hr h1.1 h2.2 h3⟩
  ·rename_i hr;obtain⟨⟨h1,h2⟩,h3⟩:=Cp n _ _ _ _ _ h hp hb hg;rw[Bool.and_eq_true] at h2;exact⟨⟨h1,h2.1⟩,Qa hr trivial h2.2 h3⟩
  ·cases h
section
variable {P:Program} {f:FuncId} {N:Nat} {R:Value->World->Prop} {w:World} {k k':List Item} {env env':Env} {ops ops':Array Oper} {S S':World->Prop} {L L':List (Nat×Bool)} {ps:List Prop} {b:Bool}
theorem aI (n:Nat) (h:Run P f N k' env' w R) (hs:List Nat:=[]) (hz:tW P N w n hs (.c k env) [] true=some ⟨.c k' env',ps,b⟩:=by exact rfl) (hp:kK ps:=by repeat' first|exact trivial|refine kK.mk ?_ ?_|exact hR.ext|omega) (hb:b=true:=by kernel_rfl):Run P f N k env w R:=
 (Cp n hs _ _ _ _ hz hp hb h).2
theorem XD (n:Nat) (h:cD P f N k' R ops' S' L' env' w) (hs:List Nat:=[]) (hz:tW P N w n hs (.c k env) [] true=some ⟨.o k' ops' S' L' env',ps,b⟩:=by exact rfl) (hp:kK ps:=by repeat' first|exact trivial|refine kK.mk ?_ ?_|exact hR.ext|omega) (hb:b=true:=by kernel_rfl):Run P f N k env w R:=
 (Cp n hs _ _ _ _ hz hp hb h).2
theorem XE (n:Nat) (h:Run P f N k' env' w R) (hs:List Nat:=[]) (hz:tW P N w n hs (.o k ops S L env) [] true=some ⟨.c k' env',ps,b⟩:=by exact rfl) (hp:kK ps:=by repeat' first|exact trivial|refine kK.mk ?_ ?_|exact hR.ext|omega) (hb:b=true:=by kernel_rfl):cD P f N k R ops S L env w:=
 (Cp n hs _ _ _ _ hz hp hb h).2
theorem XF (n:Nat) (h:cD P f N k' R ops' S' L' env' w) (hs:List Nat:=[]) (hz:tW P N w n hs (.o k ops S L env) [] true=some ⟨.o k' ops' S' L' env',ps,b⟩:=by exact rfl) (hp:kK ps:=by repeat' first|exact trivial|refine kK.mk ?_ ?_|exact hR.ext|omega) (hb:b=true:=by kernel_rfl):cD P f N k R ops S L env w:=
 (Cp n hs _ _ _ _ hz hp hb h).2
end
structure Qc where
 L:List (Nat×Bool)
 env:Env
 ps:List Prop
 b:Bool
def Cr (P:Program) (N:Nat) (w:World) (ops:Array Oper) (S:World->Prop):Nat->List Nat->List (Nat×Bool)->Env->List Prop->Bool->Option Qc
 |0,_,L,env,ps,b=>some ⟨L,env,ps,b⟩
 |n+1,hs,(i,f)::L,env,ps,b=>match G9 P N w ops S i f env hs with
  |some ⟨e,some p,q,hs'⟩=>Cr P N w ops S n hs' L e (p::ps) (b&&q)
  |some ⟨e,none,q,hs'⟩=>Cr P N w ops S n hs' L e ps (b&&q)
  |none=>none
 |_+1,_,[],_,_,_=>none
theorem G_ {P:Program} {N:Nat} {Q:Exit->Act->World->Prop} {w:World} {ops:Array Oper} {S:World->Prop}:∀(n:Nat) (hs:List Nat) (L:List (Nat×Bool)) (env:Env) (ps:List Prop) (b:Bool) (t:Qc),Cr P N w ops S n hs L env ps b=some t->kK t.ps->t.b=true->
  bO P N Q ops S t.L t.env w->(kK ps/\b=true)/\bO P N Q ops S L env w
 |0,hs,L,env,ps,b,t,h,hp,hb,hg=>by cases h;exact⟨⟨hp,hb⟩,hg⟩
 |n+1,hs,[],env,ps,b,t,h,hp,hb,hg=>by cases h
 |n+1,hs,(i,f)::L,env,ps,b,t,h,hp,hb,hg=>by
  unfold Cr at h;split at h
  ·rename_i hr;obtain⟨⟨h1,h2⟩,h3⟩:=G_ n _ _ _ _ _ _ h hp hb hg;rw[Bool.and_eq_true] at h2;exact⟨⟨h1.2,h2.1⟩,KL hr h1.1 h2.2 h3⟩
  ·rename_i hr;obtain⟨⟨h1,h2⟩,h3⟩:=G_ n _ _ _ _ _ _ h hp hb hg;rw[Bool.and_eq_true] at h2;exact⟨⟨h1,h2.1⟩,KL hr trivial h2.2 h3⟩
  ·cases h
theorem afQ {P:Program} {N:Nat} {Q:Exit->Act->World->Prop} {w:World} {ops:Array Oper} {S:World->Prop} {L L':List (Nat×Bool)} {env env':Env} {ps:List Prop} {b:Bool} (n:Nat) (h:bO P N Q ops S L' env' w) (hs:List Nat:=[])
  (hz:Cr P N w ops S n hs L env [] true=some ⟨L',env',ps,b⟩:=by exact rfl) (hp:kK ps:=by repeat' first|exact trivial|refine kK.mk ?_ ?_|exact hR.ext|omega) (hb:b=true:=by kernel_rfl):bO P N Q ops S L env w:=
 (G_ n hs _ _ _ _ _ hz hp hb h).2
structure jg (P:Program) (N:Nat) (Q:Exit->Act->World->Prop) (ops:Array Oper) (S:World->Prop) (i:Nat) (b:Bool) (d:Option Nat) (op:Op) (g:Option (Nat×Bool)) (L:List (Nat×Bool)) (env:Env) (w:World):Prop where
 h:bO P N Q ops S ((i,b)::L) env w
def Qd (P:Program) (N:Nat) (Q:Exit->Act->World->Prop) (ops:Array Oper) (S:World->Prop) (i:Nat) (b:Bool) (L:List (Nat×Bool)) (env:Env) (w:World):Option (Option Nat×Op×Option (Nat×Bool))->Prop
 |some (d,op,g)=>jg P N Q ops S i b d op g L env w
 |none=>bO P N Q ops S ((i,b)::L) env w
def gw (P:Program) (N:Nat) (Q:Exit->Act->World->Prop) (ops:Array Oper) (S:World->Prop):List (Nat×Bool)->Env->World->Prop
 |[],env,w=>bO P N Q ops S [] env w
 |(i,b)::L,env,w=>Qd P N Q ops S i b L env w (cv ops i)
section
variable {P:Program} {N:Nat} {Q:Exit->Act->World->Prop} {ops:Array Oper} {S:World->Prop} {i t:Nat} {L:List (Nat×Bool)} {env:Env} {w:World} {v:Value} {op:Op} {g:Option (Nat×Bool)} {T:Value->World->Prop}
theorem Qe:gw P N Q ops S L env w↔bO P N Q ops S L env w:=by
 cases L with
 |nil=>exact Iff.rfl
 |cons x L=>
  obtain⟨i,b⟩:=x;change Qd P N Q ops S i b L env w (cv ops i)↔_;cases cv ops i with
  |none=>exact Iff.rfl
  |some y=>exact⟨λh=>h.h,λh=>⟨h⟩⟩
theorem cK (h:gw P N Q ops S L env w):bO P N Q ops S L env w:=Qe.1 h
theorem nz (h:bO P N Q ops S L env w):gw P N Q ops S L env w:=Qe.2 h
theorem jU (hs:J7 L=true) (h:gw P N Q ops (λ_=>True) L env w):gw P N Q ops S L env w:=nz (cD.free hs (cK h))
theorem lW (hy:∀w',S w'->cZ P N env op w' v) (h:gw P N Q ops S L ((t,v)::env) w) (hop:cv ops i=some (some t,op,g):=by kernel_rfl) (hw:ec ops env g=some true:=by rfl) (ht:Nat.blt t N=true:=by rfl):
 jg P N Q ops S i true (some t) op g L env w:=⟨kI hop hw ht hy (cK h)⟩
theorem bK (hy:∀w',cZ P N env op w' v) (h:gw P N Q ops S L ((t,v)::env) w) (hop:cv ops i=some (some t,op,g):=by kernel_rfl) (hw:ec ops env g=some true:=by rfl) (ht:Nat.blt t N=true:=by rfl):
 jg P N Q ops S i true (some t) op g L env w:=lW (λw' _=>hy w') h hop hw ht
theorem ov (hy:cZ P N env op w v) (h:gw P N Q ops S L ((t,v)::env) w) (hS:S w:=by first|exact trivial|exact hR.ext) (hop:cv ops i=some (some t,op,g):=by kernel_rfl) (hw:ec ops env g=some true:=by rfl) (ht:Nat.blt t N=true:=by rfl):
 jg P N Q ops S i false (some t) op g L env w:=⟨tT hop hw ht hS hy (cK h)⟩
theorem ej (hy:ig P N env op w T) (h:∀v w',T v w'->S w'/\gw P N Q ops S L ((t,v)::env) w') (hop:cv ops i=some (some t,op,g):=by kernel_rfl) (hw:ec ops env g=some true:=by rfl) (ht:Nat.blt t N=true:=by rfl):
 jg P N Q ops S i false (some t) op g L env w:=⟨Ku hop hw ht hy λv w' hT=>⟨(h v w' hT).1,cK (h v w' hT).2⟩⟩
theorem lH (hy:ig P N env op w T) (h:∀v w',T v w'->S w'/\gw P N Q ops S L env w') (hop:cv ops i=some (none,op,g):=by kernel_rfl) (hw:ec ops env g=some true:=by rfl):
 jg P N Q ops S i false none op g L env w:=⟨Kv hop hw hy λv w' hT=>⟨(h v w' hT).1,cK (h v w' hT).2⟩⟩
theorem bD (hy:ig P N env op w T) (h:∀v w',T v w'->gw P N Q ops (λ_=>True) L ((t,v)::env) w') (hop:cv ops i=some (some t,op,g):=by kernel_rfl) (hw:ec ops env g=some true:=by rfl) (ht:Nat.blt t N=true:=by rfl):
 jg P N Q ops (λ_=>True) i false (some t) op g L env w:=⟨Ku hop hw ht hy λv w' hT=>⟨trivial,cK (h v w' hT)⟩⟩
theorem cq (hy:ig P N env op w T) (h:∀v w',T v w'->gw P N Q ops (λ_=>True) L env w') (hop:cv ops i=some (none,op,g):=by kernel_rfl) (hw:ec ops env g=some true:=by rfl):
 jg P N Q ops (λ_=>True) i false none op g L env w:=⟨Kv hop hw hy λv w' hT=>⟨trivial,cK (h v w' hT)⟩⟩
section
variable {gf:FuncId} {xs:Array Operand} {ts:Array TypeId} {vs:List Value}
theorem dC (ja:∀args w,(callFunc gf args).run P w=.ok (.enter gf args) w) (hc:Calls P gf vs.toArray w (bH T)) (h:∀v w',T v w'->S w'/\gw P N Q ops S L ((t,v)::env) w') (hargs:lF env xs.toList=some vs:=by exact rfl)
 (hop:cv ops i=some (some t,.call {callee:=.value (.func gf),args:=xs,argTypes:=ts},g):=by kernel_rfl) (hw:ec ops env g=some true:=by rfl) (ht:Nat.blt t N=true:=by rfl):
 jg P N Q ops S i false (some t) (.call {callee:=.value (.func gf),args:=xs,argTypes:=ts}) g L env w:=⟨vC hop hw ht (xe ja hargs) hc λv w' hT=>⟨(h v w' hT).1,cK (h v w' hT).2⟩⟩
theorem gn (ja:∀args w,(callFunc gf args).run P w=.ok (.enter gf args) w) (hargs:lF env xs.toList=some vs) (hc:Calls P gf vs.toArray w (bH T)) (h:∀v w',T v w'->S w'/\gw P N Q ops S L ((t,v)::env) w')
 (hop:cv ops i=some (some t,.call {callee:=.value (.func gf),args:=xs,argTypes:=ts},g):=by kernel_rfl) (hw:ec ops env g=some true:=by rfl) (ht:Nat.blt t N=true:=by rfl):
 jg P N Q ops S i false (some t) (.call {callee:=.value (.func gf),args:=xs,argTypes:=ts}) g L env w:=⟨vC hop hw ht (xe ja hargs) hc λv w' hT=>⟨(h v w' hT).1,cK (h v w' hT).2⟩⟩
theorem afR (ja:∀args w,(callFunc gf args).run P w=.ok (.enter gf args) w) (hc:Calls P gf vs.toArray w (bH T)) (h:∀v w',T v w'->S w'/\gw P N Q ops S L env w') (hargs:lF env xs.toList=some vs:=by exact rfl)
 (hop:cv ops i=some (none,.call {callee:=.value (.func gf),args:=xs,argTypes:=ts},g):=by kernel_rfl) (hw:ec ops env g=some true:=by rfl):
 jg P N Q ops S i false none (.call {callee:=.value (.func gf),args:=xs,argTypes:=ts}) g L env w:=⟨Eg hop hw (xe ja hargs) hc λv w' hT=>⟨(h v w' hT).1,cK (h v w' hT).2⟩⟩
theorem afS (ja:∀args w,(callFunc gf args).run P w=.ok (.enter gf args) w) (hargs:lF env xs.toList=some vs) (hc:Calls P gf vs.toArray w (bH T)) (h:∀v w',T v w'->S w'/\gw P N Q ops S L env w')
 (hop:cv ops i=some (none,.call {callee:=.value (.func gf),args:=xs,argTypes:=ts},g):=by kernel_rfl) (hw:ec ops env g=some true:=by rfl):
 jg P N Q ops S i false none (.call {callee:=.value (.func gf),args:=xs,argTypes:=ts}) g L env w:=⟨Eg hop hw (xe ja hargs) hc λv w' hT=>⟨(h v w' hT).1,cK (h v w' hT).2⟩⟩
theorem bZ (ja:∀args w,(callFunc gf args).run P w=.ok (.enter gf args) w) (hc:Calls P gf vs.toArray w (bH T)) (h:∀v w',T v w'->gw P N Q ops (λ_=>True) L ((t,v)::env) w') (hargs:lF env xs.toList=some vs:=by exact rfl)
 (hop:cv ops i=some (some t,.call {callee:=.value (.func gf),args:=xs,argTypes:=ts},g):=by kernel_rfl) (hw:ec ops env g=some true:=by rfl) (ht:Nat.blt t N=true:=by rfl):
 jg P N Q ops (λ_=>True) i false (some t) (.call {callee:=.value (.func gf),args:=xs,argTypes:=ts}) g L env w:=⟨vC hop hw ht (xe ja hargs) hc λv w' hT=>⟨trivial,cK (h v w' hT)⟩⟩
theorem dc (ja:∀args w,(callFunc gf args).run P w=.ok (.enter gf args) w) (hargs:lF env xs.toList=some vs) (hc:Calls P gf vs.toArray w (bH T)) (h:∀v w',T v w'->gw P N Q ops (λ_=>True) L ((t,v)::env) w')
 (hop:cv ops i=some (some t,.call {callee:=.value (.func gf),args:=xs,argTypes:=ts},g):=by kernel_rfl) (hw:ec ops env g=some true:=by rfl) (ht:Nat.blt t N=true:=by rfl):
 jg P N Q ops (λ_=>True) i false (some t) (.call {callee:=.value (.func gf),args:=xs,argTypes:=ts}) g L env w:=⟨vC hop hw ht (xe ja hargs) hc λv w' hT=>⟨trivial,cK (h v w' hT)⟩⟩
theorem afT (ja:∀args w,(callFunc gf args).run P w=.ok (.enter gf args) w) (hc:Calls P gf vs.toArray w (bH T)) (h:∀v w',T v w'->gw P N Q ops (λ_=>True) L env w') (hargs:lF env xs.toList=some vs:=by exact rfl)
 (hop:cv ops i=some (none,.call {callee:=.value (.func gf),args:=xs,argTypes:=ts},g):=by kernel_rfl) (hw:ec ops env g=some true:=by rfl):
 jg P N Q ops (λ_=>True) i false none (.call {callee:=.value (.func gf),args:=xs,argTypes:=ts}) g L env w:=⟨Eg hop hw (xe ja hargs) hc λv w' hT=>⟨trivial,cK (h v w' hT)⟩⟩
theorem afU (ja:∀args w,(callFunc gf args).run P w=.ok (.enter gf args) w) (hargs:lF env xs.toList=some vs) (hc:Calls P gf vs.toArray w (bH T)) (h:∀v w',T v w'->gw P N Q ops (λ_=>True) L env w')
 (hop:cv ops i=some (none,.call {callee:=.value (.func gf),args:=xs,argTypes:=ts},g):=by kernel_rfl) (hw:ec ops env g=some true:=by rfl):
 jg P N Q ops (λ_=>True) i false none (.call {callee:=.value (.func gf),args:=xs,argTypes:=ts}) g L env w:=⟨Eg hop hw (xe ja hargs) hc λv w' hT=>⟨trivial,cK (h v w' hT)⟩⟩
end
def Qf (op:BinOp) (m n:Int):Option Prop:=match op with
 | .lss=>some (m<n)| .leq=>some (m<=n)| .gtr=>some (n<m)| .geq=>some (n<=m)| .eql=>some (m=n)| .neq=>some (m≠n)|_=>none
def Ct (env:Env):Op->Option Prop
 | .binOp op _ x y _=>match ev env x with
  |some (.int k m)=>match ev env y with
   |some (.int j n)=>match KG k j with|true=>Qf op m n|false=>none
   |_=>none
  |_=>none
 |_=>none
def XG:Option Prop->Prop|some p=>p|none=>False
def XH:Option Prop->Prop|some p=>¬p|none=>False
theorem Qg {op:Op} {p:Prop} (h:Ct env op=some p):∃d:Decidable p,∀w',cZ P N env op w' (.bool (@decide p d)):=by
 unfold Ct at h;split at h
 ·rename_i op T x y U;split at h
  ·rename_i k m hx;split at h
   ·rename_i j n hy;split at h
    ·rename_i hk;obtain rfl:=PX hk;cases op<;>simp only[Qf] at h<;>cases h
     ·exact⟨_,λ_=>GX hx hy⟩
     ·exact⟨_,λ_=>wZ hx hy⟩
     ·exact⟨_,λ_=>Kj hx hy⟩
     ·exact⟨_,λ_=>Pz hx hy⟩
     ·exact⟨_,λ_=>GV hx hy⟩
     ·exact⟨_,λ_=>PA hx hy⟩
    ·cases h
   ·cases h
  ·cases h
 ·cases h
theorem dT (hp:XG (Ct env op)) (h:gw P N Q ops S L ((t,.bool true)::env) w) (hop:cv ops i=some (some t,op,g):=by kernel_rfl) (hw:ec ops env g=some true:=by rfl) (ht:Nat.blt t N=true:=by rfl):
  jg P N Q ops S i true (some t) op g L env w:=by
 cases hc:Ct env op with
 |none=>rw[hc] at hp;exact hp.elim
 |some p=>rw[hc] at hp;obtain⟨d,hv⟩:=Qg (P:=P) (N:=N) hc;exact bK (λw'=>mu (hv w') hp) h hop hw ht
theorem ey (hp:XH (Ct env op)) (h:gw P N Q ops S L ((t,.bool false)::env) w) (hop:cv ops i=some (some t,op,g):=by kernel_rfl) (hw:ec ops env g=some true:=by rfl) (ht:Nat.blt t N=true:=by rfl):
  jg P N Q ops S i true (some t) op g L env w:=by
 cases hc:Ct env op with
 |none=>rw[hc] at hp;exact hp.elim
 |some p=>rw[hc] at hp;obtain⟨d,hv⟩:=Qg (P:=P) (N:=N) hc;exact bK (λw'=>lG (hv w') hp) h hop hw ht
theorem jA (c:Int) {k:IntKind} {a:Int} {p:Option Prop} (h:gw P N Q ops S L ((t,.int k c)::env) w) (hv:pv P 0 env op=some ⟨.int k a,p,true⟩:=by exact rfl) (hp:holds p:=by first|exact trivial|omega|(refine⟨?_,?_⟩<;>omega)) (e:a=c:=by omega)
  (hop:cv ops i=some (some t,op,g):=by kernel_rfl) (hw:ec ops env g=some true:=by rfl) (ht:Nat.blt t N=true:=by rfl):jg P N Q ops S i true (some t) op g L env w:=
 bK (λw'=>e▸(KI hv hp rfl:cZ P N env op w' (.int k a))) h hop hw ht
end
section
variable {α:Type} [aZ α] {P:Program} {N:Nat} {Q:Exit->Act->World->Prop} {ops:Array Oper} {S:World->Prop} {i t:Nat} {L:List (Nat×Bool)} {env:Env} {w w1:World} {v:Value} {g:Option (Nat×Bool)} {T ty:TypeId} {y z:Operand}
variable {C:Nat->Nat} {M:Nat->Prop} {I:List Nat} {x:α} {xs:List α} {b o j j':Nat} {kd:IntKind} {n:Int} {cs vs:List Value} {e8:Nat×Nat} {e1:TypeId}
def afV (C:Nat->Nat) (I:List Nat) (w1:World):World->Prop:=λw'=>Ext (λb=>C b∈I) w1 w'
theorem fU (hr:bJ w1 (au C) x b o) (h:∀v,av w1 (au C) x v->gw P N Q ops (λw'=>Ext (λb=>C b∈I) w1 w') L ((t,v)::env) w) (h0:0∉I:=by first|decide|(simp<;>omega)) (ha:gM P T=some false:=by kernel_rfl) (hx:aZ.agg α=false:=by rfl)
 (hy:ev env y=some (.pointer (some ⟨b,o,none⟩)):=by exact rfl) (hop:cv ops i=some (some t,.load T y,g):=by kernel_rfl) (hw:ec ops env g=some true:=by rfl) (ht:Nat.blt t N=true:=by rfl):
 jg P N Q ops (λw'=>Ext (λb=>C b∈I) w1 w') i true (some t) (.load T y) g L env w:=⟨Xh hop hw ht (λw' hS=>hr.yU hS h0) hr ha hx hy λv hv=>cK (h v hv)⟩
theorem ck (hr:bJ w1 (au C) x b o) (h:∀v,av w1 (au C) x v->gw P N Q ops (λw'=>Ext (λb=>C b∈I) w1 w') L ((t,v)::env) w) (h0:0∉I:=by first|decide|(simp<;>omega)) (ha:gM P T=some true:=by kernel_rfl) (hs:gX P T=some (sz α):=by kernel_rfl) (hx:aZ.agg α=true:=by rfl)
 (hy:ev env y=some (.pointer (some ⟨b,o,none⟩)):=by exact rfl) (hop:cv ops i=some (some t,.load T y,g):=by kernel_rfl) (hw:ec ops env g=some true:=by rfl) (ht:Nat.blt t N=true:=by rfl):
 jg P N Q ops (λw'=>Ext (λb=>C b∈I) w1 w') i true (some t) (.load T y) g L env w:=⟨Xj hop hw ht (λw' hS=>hr.yU hS h0) hr ha hs hx hy λv hv=>cK (h v hv)⟩
theorem iF (hr:bJ w M x b o) (h:∀v,av w M x v->gw P N Q ops S L ((t,v)::env) w) (hS:S w:=by first|exact trivial|exact hR.ext) (ha:gM P T=some false:=by kernel_rfl) (hx:aZ.agg α=false:=by rfl)
 (hy:ev env y=some (.pointer (some ⟨b,o,none⟩)):=by exact rfl) (hop:cv ops i=some (some t,.load T y,g):=by kernel_rfl) (hw:ec ops env g=some true:=by rfl) (ht:Nat.blt t N=true:=by rfl):
 jg P N Q ops S i false (some t) (.load T y) g L env w:=⟨Xg hop hw ht hS hr ha hx hy λv hv=>cK (h v hv)⟩
theorem iq (hr:bJ w M x b o) (h:∀v,av w M x v->gw P N Q ops S L ((t,v)::env) w) (hS:S w:=by first|exact trivial|exact hR.ext) (ha:gM P T=some true:=by kernel_rfl) (hs:gX P T=some (sz α):=by kernel_rfl) (hx:aZ.agg α=true:=by rfl)
 (hy:ev env y=some (.pointer (some ⟨b,o,none⟩)):=by exact rfl) (hop:cv ops i=some (some t,.load T y,g):=by kernel_rfl) (hw:ec ops env g=some true:=by rfl) (ht:Nat.blt t N=true:=by rfl):
 jg P N Q ops S i false (some t) (.load T y) g L env w:=⟨Xi hop hw ht hS hr ha hs hx hy λv hv=>cK (h v hv)⟩
theorem pZ (hl:bg w1 C j e1 v xs) (hg:c9 v b) (h:∀(hi:j'<xs.length) v,av w1 (au C) xs[j'] v->gw P N Q ops (λw'=>Ext (λb=>C b∈I) w1 w') L ((t,v)::env) w) (hy:ev env y=some (.pointer (some ⟨b,j'*sz α,none⟩)):=by exact rfl) (hi:j'<xs.length:=by first|omega|(simp only[fP,List.length_set,List.length_map];omega)) (hj:j∉I:=by first|decide|(simp<;>omega)) (ha:gM P T=some false:=by kernel_rfl) (hx:aZ.agg α=false:=by rfl) (hop:cv ops i=some (some t,.load T y,g):=by kernel_rfl) (hw:ec ops env g=some true:=by rfl) (ht:Nat.blt t N=true:=by rfl):
  jg P N Q ops (λw'=>Ext (λb=>C b∈I) w1 w') i true (some t) (.load T y) g L env w:=by
 obtain⟨v,h2,h3⟩:=hl.load (P:=P) (N:=N) hg hi ha hx hy;exact⟨kI hop hw ht (λw' hS=>h3 w' (hl.yU hg hS hj)) (cK (h hi v h2))⟩
theorem p5 (hl:bg w1 C j e1 v xs) (hg:c9 v b) (h:∀(hi:j'<xs.length) v,av w1 (au C) xs[j'] v->gw P N Q ops (λw'=>Ext (λb=>C b∈I) w1 w') L ((t,v)::env) w) (hy:ev env y=some (.pointer (some ⟨b,j'*sz α,none⟩)):=by exact rfl) (hi:j'<xs.length:=by first|omega|(simp only[fP,List.length_set,List.length_map];omega)) (hj:j∉I:=by first|decide|(simp<;>omega)) (ha:gM P T=some true:=by kernel_rfl) (hs:gX P T=some (sz α):=by kernel_rfl) (hx:aZ.agg α=true:=by rfl) (hop:cv ops i=some (some t,.load T y,g):=by kernel_rfl) (hw:ec ops env g=some true:=by rfl) (ht:Nat.blt t N=true:=by rfl):
  jg P N Q ops (λw'=>Ext (λb=>C b∈I) w1 w') i true (some t) (.load T y) g L env w:=by
 obtain⟨v,h2,h3⟩:=hl.Cf (P:=P) (N:=N) hg hi ha hs hx hy;exact⟨kI hop hw ht (λw' hS=>h3 w' (hl.yU hg hS hj)) (cK (h hi v h2))⟩
theorem vF (hl:bg w C j e1 v xs) (hg:c9 v b) (h:∀(hi:j'<xs.length) v,av w (au C) xs[j'] v->gw P N Q ops S L ((t,v)::env) w) (hy:ev env y=some (.pointer (some ⟨b,j'*sz α,none⟩)):=by exact rfl) (hi:j'<xs.length:=by first|omega|(simp only[fP,List.length_set,List.length_map];omega)) (hS:S w:=by first|exact trivial|exact hR.ext) (ha:gM P T=some false:=by kernel_rfl) (hx:aZ.agg α=false:=by rfl) (hop:cv ops i=some (some t,.load T y,g):=by kernel_rfl) (hw:ec ops env g=some true:=by rfl) (ht:Nat.blt t N=true:=by rfl):
 jg P N Q ops S i false (some t) (.load T y) g L env w:=⟨Xy hop hw ht hS hl hg hi ha hx hy λv hv=>cK (h hi v hv)⟩
theorem lI (hl:bg w C j e1 v xs) (hg:c9 v b) (h:∀(hi:j'<xs.length) v,av w (au C) xs[j'] v->gw P N Q ops S L ((t,v)::env) w) (hy:ev env y=some (.pointer (some ⟨b,j'*sz α,none⟩)):=by exact rfl) (hi:j'<xs.length:=by first|omega|(simp only[fP,List.length_set,List.length_map];omega)) (hS:S w:=by first|exact trivial|exact hR.ext) (ha:gM P T=some true:=by kernel_rfl) (hs:gX P T=some (sz α):=by kernel_rfl) (hx:aZ.agg α=true:=by rfl) (hop:cv ops i=some (some t,.load T y,g):=by kernel_rfl) (hw:ec ops env g=some true:=by rfl) (ht:Nat.blt t N=true:=by rfl):
 jg P N Q ops S i false (some t) (.load T y) g L env w:=⟨Xz hop hw ht hS hl hg hi ha hs hx hy λv hv=>cK (h hi v hv)⟩
def He (P:Program) (t:TypeId):Option Nat:=match jS P t with|some (_,n)=>some n|none=>none
theorem Qh {P:Program} {t:TypeId} {n:Nat} (h:He P t=some n):∃e,jS P t=some (e,n):=by
 unfold He at h;split at h
 ·rename_i e m he;cases h;exact⟨e,he⟩
 ·cases h
theorem bn (hl:av w1 M xs v) (h:∀(hi:j'<xs.length) b o,bJ w1 M xs[j'] b o->gw P N Q ops S L ((t,.pointer (some ⟨b,o,none⟩))::env) w) (hy:ev env y=some v:=by exact rfl) (hz:ev env z=some (.int kd n):=by exact rfl) (hn:n=((j':Nat):Int):=by first|exact rfl|exact(Int.toNat_of_nonneg ah).symm) (h1:n<xs.length:=by omega) (hf:He P ty=some (sz α):=by kernel_rfl)
  (hop:cv ops i=some (some t,.indexAddr ty y z,g):=by kernel_rfl) (hw:ec ops env g=some true:=by rfl) (ht:Nat.blt t N=true:=by rfl):jg P N Q ops S i true (some t) (.indexAddr ty y z) g L env w:=by
 subst hn;obtain⟨e,he⟩:=Qh hf;have hi:j'<xs.length:=by omega
 exact⟨iS hop hw ht hl hy he hz ah h1 λb o hr=>cK (h hi b o hr)⟩
theorem dx (hl:bg w1 C j e1 v xs) (h:∀b,c9 v b->gw P N Q ops S L ((t,.pointer (some ⟨b,j'*sz α,none⟩))::env) w) (hy:ev env y=some v:=by exact rfl) (hz:ev env z=some (.int kd n):=by exact rfl) (hn:n=((j':Nat):Int):=by first|exact rfl|exact(Int.toNat_of_nonneg ah).symm) (h1:n<xs.length:=by first|omega|(simp only[fP,List.length_set,List.length_map];omega)) (hf:He P ty=some (sz α):=by kernel_rfl)
  (hop:cv ops i=some (some t,.indexAddr ty y z,g):=by kernel_rfl) (hw:ec ops env g=some true:=by rfl) (ht:Nat.blt t N=true:=by rfl):jg P N Q ops S i true (some t) (.indexAddr ty y z) g L env w:=by
 subst hn;obtain⟨e,he⟩:=Qh hf;obtain⟨b,h2,h3⟩:=hl.index (P:=P) (N:=N) hy he hz ah h1;exact⟨kI hop hw ht (λw' _=>h3 w') (cK (h b h2))⟩
theorem cE.sz {fh:Obj} (h:cE w1 C j b fh) (hj:j∉I:=by first|decide|(simp<;>omega)):∀w',Ext (λb=>C b∈I) w1 w'->w'.heap[b]?=some fh:=λ_ hS=>h.stay hS hj
theorem fW (hb:∀w',S w'->w'.heap[b]?=some (.cells cs.toArray e1 e8)) (h:gw P N Q ops S L ((t,v)::env) w) (hy:ev env y=some (.pointer (some ⟨b,o,none⟩)):=by exact rfl) (hv:cs[o]?=some v:=by exact rfl) (ha:gM P T=some false:=by kernel_rfl)
 (hop:cv ops i=some (some t,.load T y,g):=by kernel_rfl) (hw:ec ops env g=some true:=by rfl) (ht:Nat.blt t N=true:=by rfl):jg P N Q ops S i true (some t) (.load T y) g L env w:=⟨kI hop hw ht (λ_ hS=>yJ (hb _ hS) ha hv hy) (cK h)⟩
theorem bU (hb:w.heap[b]?=some (.cells cs.toArray e1 e8)) (h:gw P N Q ops S L ((t,v)::env) w) (hy:ev env y=some (.pointer (some ⟨b,o,none⟩)):=by exact rfl) (hv:cs[o]?=some v:=by exact rfl) (hS:S w:=by first|exact trivial|exact hR.ext) (ha:gM P T=some false:=by kernel_rfl)
 (hop:cv ops i=some (some t,.load T y,g):=by kernel_rfl) (hw:ec ops env g=some true:=by rfl) (ht:Nat.blt t N=true:=by rfl):jg P N Q ops S i false (some t) (.load T y) g L env w:=⟨tT hop hw ht hS (yJ hb ha hv hy) (cK h)⟩
theorem dn (n:Nat) (vs:List Value) (hb:∀w',S w'->w'.heap[b]?=some (.cells cs.toArray e1 e8)) (h:gw P N Q ops S L ((t,.agg vs.toArray)::env) w) (hy:ev env y=some (.pointer (some ⟨b,o,none⟩)):=by exact rfl) (ha:gM P T=some true:=by kernel_rfl) (hs:gX P T=some n:=by kernel_rfl) (hv: (cs.drop o).take n=vs:=by exact rfl) (hl:vs.length=n:=by exact rfl)
 (hop:cv ops i=some (some t,.load T y,g):=by kernel_rfl) (hw:ec ops env g=some true:=by rfl) (ht:Nat.blt t N=true:=by rfl):jg P N Q ops S i true (some t) (.load T y) g L env w:=⟨kI hop hw ht (λ_ hS=>om (hb _ hS) ha hs hv hl hy) (cK h)⟩
theorem cu (n:Nat) (vs:List Value) (hb:w.heap[b]?=some (.cells cs.toArray e1 e8)) (h:gw P N Q ops S L ((t,.agg vs.toArray)::env) w) (hy:ev env y=some (.pointer (some ⟨b,o,none⟩)):=by exact rfl) (hS:S w:=by first|exact trivial|exact hR.ext) (ha:gM P T=some true:=by kernel_rfl) (hs:gX P T=some n:=by kernel_rfl) (hv: (cs.drop o).take n=vs:=by exact rfl) (hl:vs.length=n:=by exact rfl)
 (hop:cv ops i=some (some t,.load T y,g):=by kernel_rfl) (hw:ec ops env g=some true:=by rfl) (ht:Nat.blt t N=true:=by rfl):jg P N Q ops S i false (some t) (.load T y) g L env w:=⟨tT hop hw ht hS (om hb ha hs hv hl hy) (cK h)⟩
def Qi (P:Program) (t:TypeId):Bool:=match P.underlying t with|some (.slice _)=>true|_=>false
theorem av.ln (h:av w1 M xs v):∃a c,v=.slice a xs.length c:=h.len
theorem bg.ln (h:bg w1 C j e1 v xs):∃a c,v=.slice a xs.length c:=h.own.len
theorem dE {n:Nat} (hl:∃a c,v=.slice a n c) (h:gw P N Q ops S L ((t,.int .i64 (n:Nat))::env) w) (hy:ev env y=some v:=by exact rfl) (hs:Qi P ty=true:=by kernel_rfl)
  (hop:cv ops i=some (some t,.call {callee:=.builtin .len,args:=#[y],argTypes:=#[ty]},g):=by kernel_rfl) (hw:ec ops env g=some true:=by rfl) (ht:Nat.blt t N=true:=by rfl):jg P N Q ops S i true (some t) (.call {callee:=.builtin .len,args:=#[y],argTypes:=#[ty]}) g L env w:=by
 obtain⟨a,c,rfl⟩:=hl;unfold Qi at hs;split at hs
 ·rename_i hu;exact⟨kI hop hw ht (λ_ _=>yH hy hu) (cK h)⟩
 ·cases hs
end
section
variable {P:Program} {f:FuncId} {N:Nat} {k:List Item} {env:Env} {w:World} {R:Value->World->Prop}
def nl (L:List Nat):List (Nat×Bool):=match L with|[]=>[]|n::L=>(n/2,Nat.beq (n%2) 1)::nl L
theorem cm {id:Nat} {ops:Array Oper} (I:List Nat) (C:Nat->Nat) (L:List Nat) (hm:P.follows .mixedOrders=true) (h:∀w₁,ax [] w C w₁ C->gw P N (ve P f k R) ops (λw'=>Ext (λb=>C b∈I) w₁ w') (nl L) env w₁) {c:Code} (hc:c=.region id ops true:=by exact rfl)
  (hn:Region.noSelect ops=true:=by kernel_rfl) (hk:Kc ops ops.size (Array.replicate ops.size false) (nl L)=true:=by kernel_rfl):Run P f N (.code c::k) env w R:=
 Xf I C (nl L) hm hc hn hk λw₁ hs=>cK (h w₁ hs)
theorem cg {fn:Func} {c:Code} {args:List Value} (hf:P.funcs[f]?=some fn) (h:Run P f N [.code c] (Ar 0 args) w R) (hb:fn.body=some c:=by exact rfl) (hN:fn.ntmps=N:=by exact rfl) (hsz:Nat.ble args.length N=true:=by kernel_rfl):Calls P f args.toArray w (bH R):=Pw args hf hb hN hsz h
theorem bI {c:Code} {fn:Func} {t:Nat} {v:Value} (hf:P.funcs[f]?=some fn) (hR:R v w) (hres:fn.results=#[.tmp t]:=by exact rfl) (hv:look env t=some v:=by exact rfl) (hc:c=.ret:=by kernel_rfl):Run P f N (.code c::k) env w R:=Pq hc hf hres hv hR
end
section
variable {P:Program} {f:FuncId} {N:Nat} {R:Value->World->Prop} {w:World} {k k':List Item} {env env':Env} {ops ops':Array Oper} {S S':World->Prop} {L L':List (Nat×Bool)} {ps:List Prop} {b:Bool}
theorem aG (n:Nat) (h:gw P N (ve P f k' R) ops' S' L' env' w) (hs:List Nat:=[]) (hz:tW P N w n hs (.c k env) [] true=some ⟨.o k' ops' S' L' env',ps,b⟩:=by exact rfl) (hp:kK ps:=by repeat' first|exact trivial|refine kK.mk ?_ ?_|exact hR.ext|omega) (hb:b=true:=by kernel_rfl):Run P f N k env w R:=
 XD n (cK h) hs hz hp hb
theorem bQ (n:Nat) (h:gw P N (ve P f k' R) ops' S' L' env' w) (hs:List Nat:=[]) (hz:tW P N w n hs (.o k ops S L env) [] true=some ⟨.o k' ops' S' L' env',ps,b⟩:=by exact rfl) (hp:kK ps:=by repeat' first|exact trivial|refine kK.mk ?_ ?_|exact hR.ext|omega) (hb:b=true:=by kernel_rfl):gw P N (ve P f k R) ops S L env w:=
 nz (XF n (cK h) hs hz hp hb)
theorem aj {Q:Exit->Act->World->Prop} (n:Nat) (h:gw P N Q ops S L' env' w) (hs:List Nat:=[]) (hz:Cr P N w ops S n hs L env [] true=some ⟨L',env',ps,b⟩:=by exact rfl) (hp:kK ps:=by repeat' first|exact trivial|refine kK.mk ?_ ?_|exact hR.ext|omega) (hb:b=true:=by kernel_rfl):gw P N Q ops S L env w:=
 nz (G_ n hs _ _ _ _ _ hz hp hb (cK h)).2
theorem ay (n:Nat) (h:Run P f N k' env' w R) (hs:List Nat:=[]) (hz:tW P N w n hs (.o k ops S L env) [] true=some ⟨.c k' env',ps,b⟩:=by exact rfl) (hp:kK ps:=by repeat' first|exact trivial|refine kK.mk ?_ ?_|exact hR.ext|omega) (hb:b=true:=by kernel_rfl):gw P N (ve P f k R) ops S L env w:=
 nz (XE n h hs hz hp hb)
end
def yX (n:Nat) (v v2:Value) (k m:Nat):Prop:=∃g l c c',v=.slice (some ⟨g,0,none⟩) l c/\v2=.slice (some ⟨g,k*n,none⟩) m c'
section
variable {α:Type} [aZ α] {w w':World} {C aQ:Nat->Nat} {P:Program} {N:Nat} {env:Env} {x y z q:Operand} {t ty e:TypeId} {v v2 u:Value} {xs:List α} {j b g n k m e':Nat}
theorem AA {kd:IntKind} {i:Int} {y:Nat} {code:BoundsCode} {w:World} (h0:0<=i) (h1:i<=y): (Instr.sliceBound (.int kd i) y code).run P w=.ok i.toNat w:=by
 simp[Instr.sliceBound,asIntOf,h0,h1]
theorem bg.from_ (h:bg w C j e v xs) (hy:ev env y=some v) {kd:IntKind} {i:Int} (hf:jS P t=some (e',sz α)) (hz:ev env z=some (.int kd i)) (h0:0<=i) (h1:i<xs.length):
  ∃v2,yX (sz α) v v2 i.toNat (xs.length-i.toNat)/\∀w',cZ P N env (.slice t y (some z) none none) w' v2:=by
 obtain⟨g,cap,cs,rfl,_,_,hc,hle,_⟩:=h.vD ah;refine⟨.slice (some ⟨g,i.toNat*sz α,none⟩) (xs.length-i.toNat) (cap-i.toNat),⟨g,_,_,_,rfl,rfl⟩,λw'=>mk' λρ hρ fN ho=>?_⟩;unfold jS at hf;split at hf
 ·rename_i e1 hu;split at hf
  ·rename_i n' hn;simp only[Option.some.injEq,Prod.mk.injEq] at hf;obtain⟨rfl,rfl⟩:=hf;have hb:=AA (P:=P) (kd:=kd) (y:=xs.length) (code:=.sliceB) (w:=w') h0 ah;have hne:¬cap=i.toNat:=by omega
   unfold execOp;rw[ho];simp[hρ _ _ hy,hρ _ _ hz,Instr.sliceAt,Instr.slice,Instr.sliceBounds,run_underlying hu,nc hn,hb,hne,qt]
  ·cases hf
 ·cases hf
theorem bg.KM (h:bg w C j e v xs) (hy:ev env y=some v) {kd:IntKind} {i:Int} (hf:jS P t=some (e',sz α)) (hz:ev env z=some (.int kd i)) (h0:0<=i) (h1:i<=xs.length) (hne:0<xs.length):
  ∃v2,bg w C j e v2 (xs.take i.toNat)/\∀w',cZ P N env (.slice t y none (some z) none) w' v2:=by
 obtain⟨g,cap,cs,rfl,kr,iD,hc,hle,hsz,hr⟩:=h.vD hne;have hl: (xs.take i.toNat).length=i.toNat:=by rw[List.length_take];omega
 refine⟨.slice (some ⟨g,0,none⟩) (xs.take i.toNat).length cap,⟨.inr ⟨g,cap,cs,rfl,iD,hc,by omega,hsz,λk hk=>?_⟩,h.col⟩,λw'=>mk' λρ hρ fN ho=>?_⟩
 ·rw[List.getElem_take];exact hr k ah
 ·unfold jS at hf;split at hf
  ·rename_i e1 hu;split at hf
   ·rename_i n' hn;simp only[Option.some.injEq,Prod.mk.injEq] at hf;obtain⟨rfl,rfl⟩:=hf;have hb:=AA (P:=P) (kd:=kd) (y:=cap) (code:=.sliceAcap) (w:=w') h0 ah;unfold execOp;rw[ho];rw[hl];simp[hρ _ _ hy,hρ _ _ hz,Instr.sliceAt,Instr.slice,Instr.sliceBounds,run_underlying hu,nc hn,hb,qt]
   ·cases hf
  ·cases hf
theorem av.from_ {M:Nat->Prop} (h:av w M xs v) (hy:ev env y=some v) {kd:IntKind} {i:Int} (hf:jS P t=some (e',sz α)) (hz:ev env z=some (.int kd i)) (h0:0<=i) (h1:i<=xs.length):
  ∃v2,av w M (xs.drop i.toNat) v2/\∀w',cZ P N env (.slice t y (some z) none none) w' v2:=by
 obtain⟨a,c,rfl,hc,hm,hs⟩:=ko.1 h;have hval:∀w',cZ P N env (.slice t y (some z) none none) w' (.slice (if c=i.toNat then a else a.map (·.add (i.toNat*sz α))) (xs.length-i.toNat) (c-i.toNat)):=λw'=>mk' λρ hρ fN ho=>by
  unfold jS at hf;split at hf
  ·rename_i e1 hu;split at hf
   ·rename_i n' hn;simp only[Option.some.injEq,Prod.mk.injEq] at hf;obtain⟨rfl,rfl⟩:=hf;have hb:=AA (P:=P) (kd:=kd) (y:=xs.length) (code:=.sliceB) (w:=w') h0 ah;unfold execOp;rw[ho];simp[hρ _ _ hy,hρ _ _ hz,Instr.sliceAt,Instr.slice,Instr.sliceBounds,run_underlying hu,nc hn,hb]
   ·cases hf
  ·cases hf
 refine⟨_,?_,hval⟩;rw[<-List.length_drop];refine ko.2 ⟨_,_,rfl,by rw[List.length_drop];omega,by rw[List.length_drop];omega,?_⟩;by_cases hd:xs.drop i.toNat=[]
 ·exact .inl hd
 ·have hlt:i.toNat<xs.length:=by
   rcases Nat.lt_or_ge i.toNat xs.length with h|h
   ·exact h
   ·exact absurd (List.drop_eq_nil_of_le h) hd
  rcases hs with rfl|⟨b,o,rfl,hs⟩
  ·simp at hlt
  ·refine .inr ⟨b,o+i.toNat*sz α,?_,?_⟩
   ·rw[if_neg ah];simp[qt]
   ·obtain⟨hb,cs,ty,e8,yY,hl,hr⟩:=hs;refine⟨hb,cs,ty,e8,yY,?_,λk hk=>?_⟩
    ·rw[List.length_drop];have:i.toNat*sz α+(xs.length-i.toNat)*sz α=xs.length*sz α:=by rw[<-Nat.add_mul];congr 1;omega
     omega
    ·rw[List.length_drop] at hk;have:=hr (i.toNat+k) ah;rw[List.getElem_drop,show o+i.toNat*sz α+k*sz α=o+(i.toNat+k)*sz α from by rw[Nat.add_mul];omega];exact this
theorem av.KM {M:Nat->Prop} (h:av w M xs v) (hy:ev env y=some v) {kd:IntKind} {i:Int} (hf:jS P t=some (e',sz α)) (hz:ev env z=some (.int kd i)) (h0:0<=i) (h1:i<=xs.length):
  ∃v2,av w M (xs.take i.toNat) v2/\∀w',cZ P N env (.slice t y none (some z) none) w' v2:=by
 obtain⟨a,c,rfl,hc,hm,hs⟩:=ko.1 h;have hl: (xs.take i.toNat).length=i.toNat:=by rw[List.length_take];omega
 have hval:∀w',cZ P N env (.slice t y none (some z) none) w' (.slice a (xs.take i.toNat).length c):=λw'=>mk' λρ hρ fN ho=>by
  unfold jS at hf;split at hf
  ·rename_i e1 hu;split at hf
   ·rename_i n' hn;simp only[Option.some.injEq,Prod.mk.injEq] at hf;obtain⟨rfl,rfl⟩:=hf;have hb:=AA (P:=P) (kd:=kd) (y:=c) (code:=.sliceAcap) (w:=w') h0 ah;have jV: (if c=0 then a else a.map (·.add 0))=a:=by
     cases a with
     |none=>simp
     |some a=>simp[Addr.add]
    unfold execOp;rw[ho,hl];simp[hρ _ _ hy,hρ _ _ hz,Instr.sliceAt,Instr.slice,Instr.sliceBounds,run_underlying hu,nc hn,hb,jV]
   ·cases hf
  ·cases hf
 refine⟨_,?_,hval⟩;refine ko.2 ⟨_,_,rfl,by omega,by omega,?_⟩;rcases hs with rfl|⟨b,o,rfl,hb,cs,ty,e8,yY,hl',hr⟩
 ·left;simp
 ·refine .inr ⟨b,o,rfl,hb,cs,ty,e8,yY,?_,λk hk=>?_⟩
  ·rw[hl];have:=Nat.mul_le_mul_right (sz α) (show i.toNat<=xs.length by omega);omega
  ·rw[List.getElem_take];exact hr k ah
theorem Cu {e':Nat} {kd:IntKind} {i:Int} (hs:yX n v v2 k m) (hg:c9 v g) (hf:jS P t=some (e',n)) (hy:ev env y=some v2) (hz:ev env z=some (.int kd i))
  (h0:0<=i) (h1:i<m):cZ P N env (.indexAddr t y z) w (.pointer (some ⟨g,(k+i.toNat)*n,none⟩)):=by
 obtain⟨g',l,c,c',rfl,rfl⟩:=hs;simp only[c9,Value.ownBlock,Option.some.injEq] at hg;subst hg;have:=Km (P:=P) (N:=N) (w:=w) hf hy hz h0 h1;rwa [<-Nat.add_mul] at this
theorem yX.Ci (hs:yX n v v2 k m) (hy:ev env y=some v2) {d:TypeId} (ht:P.underlying t=some (.slice d)):
  ∀w',cZ P N env (.call {callee:=.builtin .len,args:=#[y],argTypes:=#[t]}) w' (.int .i64 m):=λw'=>by
 obtain⟨g',l,c,c',rfl,rfl⟩:=hs;exact yH hy ht
theorem yX.ln (hs:yX n v v2 k m):∃a c,v2=.slice a m c:=by obtain⟨g',l,c,c',rfl,rfl⟩:=hs;exact⟨_,_,rfl⟩
theorem bg.Hf (h:bg w C j e v xs) (hne:0<xs.length):∃g,c9 v g:=by
 obtain⟨g,cap,cs,rfl,_⟩:=h.vD hne;exact⟨g,rfl⟩
theorem Qj {x0:α} {zs:List Value} (h:bg w C j e v xs) (hs:yX (sz α) v v2 k m) (hkm:k+m=xs.length) (hm:0<m) (hu:P.underlying t=some (.slice ty)) (hz:vB P ty=some zs) (h0:∀h M,rep h M x0 zs) (hy:ev env y=some v2):
  ig P N env (.call {callee:=.builtin .clear,args:=#[y],argTypes:=#[t]}) w (λu' w'=>ax [j] w C w' C/\bg w' C j e v (xs.take k++List.replicate m x0)):=rq λρ hρ fN ij=>by
 obtain⟨g,cap,cs,rfl,kr,iD,hc,h1,h2,h3⟩:=h.vD ah;obtain⟨g',l,c,c',e1,rfl⟩:=hs;simp only[Value.slice.injEq,Option.some.injEq,Addr.mk.injEq,and_true] at e1;obtain⟨rfl,rfl,rfl⟩:=e1;obtain⟨lU,bL,bG⟩:=D_ hz w;have hzl:zs.length=sz α:=aZ.len (h0 w.heap (au C));have XI:lU.cells.size=sz α:=by rw[bG];simpa using hzl
 have xh: (Builtin.zeroCells lU.cells m).toList.length=m*sz α:=by rw[Array.length_toList,size_zeroCells,XI]
 have hb: (k+m)*sz α<=cap*sz α:=Nat.mul_le_mul_right _ ah;rw[Nat.add_mul] at hb;have hcell:∀i,i<m->dh (Builtin.zeroCells lU.cells m) (i*sz α) (sz α)=zs:=λi hi=>by
  have:=PW hzl hi;rw[bG];unfold madeCells at this;unfold Builtin.zeroCells;first|exact this|(rw[List.size_toArray,hzl];exact this)|simpa[hzl] using this
 have hone:∀u∈(Builtin.zeroCells lU.cells m).toList,u.oneCell'=true:=λu Kq=>by
  obtain⟨p,hp,rfl⟩:=List.mem_iff_getElem.1 Kq;rw[xh] at hp;by_cases hs0:sz α=0
  ·rw[hs0] at hp;omega
  ·have hk:p/sz α<m:=(Nat.div_lt_iff_lt_mul ah).2 hp;refine aZ.one (h0 w.heap (au C)) _ ?_;rw[<-hcell _ hk];apply List.mem_iff_getElem?.2;refine⟨p%sz α,?_⟩;have hmod:=Nat.mod_lt p (show 0<sz α by omega);simp only[dh,List.getElem?_take,if_pos hmod,List.getElem?_drop];rw[Nat.mul_comm,Nat.div_add_mod];simp[hp,xh]
 have hst:=run_storeCells_at P g (k*sz α) e (Builtin.zeroCells lU.cells m).toList 0 cs w hc (by rw[xh];omega) hone;simp only[Nat.add_zero,xh] at hst;have KN:=Kn (cs:=(List.take (k*sz α) cs.toList++(Builtin.zeroCells lU.cells m).toList++List.drop (k*sz α+m*sz α) cs.toList).toArray) hc;have Hg:ax [j] w C _ C:=⟨KN.ext.mono (λb _ hb=>by rw[show b=g from hb,kr];simp),λ_ _=>rfl⟩
 have keep:∀{x:α} {vs:List Value},rep w.heap (au C) x vs->rep _ (au C) x vs:=λhr=>aZ.keep hr (λb hb hn=>KN.ext.block b hb (λe=>hn (by rw[show b=g from e];exact iD)));refine⟨.tuple #[],_,.inl ?_,Hg,⟨.inr ⟨g,cap,_,?_,iD,KN.at_,?_,?_,λi hi=>?_⟩,h.col⟩⟩
 ·unfold execOp;rw[ij];have hm0:m≠0:=by omega
  have hrun: (Builtin.clear_ #[t] fN.type #[.slice (some ⟨g,k*sz α,none⟩) m c']).run P w=.ok (.tuple #[]) (w.setRow g (List.take (k*sz α) cs.toList++(Builtin.zeroCells lU.cells m).toList++List.drop (k*sz α+m*sz α) cs.toList).toArray):=by
   cases m with
   |zero=>exact absurd rfl hm0
   |succ m=>simp[Builtin.clear_,run_underlying hu,bL,hst]
  simp[hρ _ _ hy,resolve,invoke,builtin,hrun]
 ·simp;omega
 ·simp;omega
 ·simp only[List.size_toArray,List.length_append,List.length_take,List.length_drop,xh,Array.length_toList];omega
 ·have mI:∀(l:List Value) (p:Nat),l.toArray[p]?=l[p]?:=λl p=>by simp
  by_cases hik:i<k
  ·have En:i<(xs.take k).length:=by rw[List.length_take];omega
   rw[List.getElem_append_left En,List.getElem_take];have fc:=Nat.mul_le_mul_right (sz α) (show i+1<=k from hik);rw[Nat.succ_mul] at fc;have hce:dh (List.take (k*sz α) cs.toList++(Builtin.zeroCells lU.cells m).toList++List.drop (k*sz α+m*sz α) cs.toList).toArray (i*sz α) (sz α)=dh cs (i*sz α) (sz α):=rY (λr hr=>by
    rw[mI,List.append_assoc,List.getElem?_append_left (by simp only[List.length_take,Array.length_toList];omega),List.getElem?_take,if_pos ah,Array.getElem?_toList])
   rw[hce];exact keep (h3 i ah)
  ·have r6: (xs.take k).length=k:=by rw[List.length_take];omega
   rw[List.getElem_append_right ah,List.getElem_replicate];have him:i-k<m:=by simp at hi;omega
   have nM:=Nat.mul_le_mul_right (sz α) (show i-k+1<=m from him);rw[Nat.succ_mul] at nM;have afW:i*sz α=k*sz α+(i-k)*sz α:=by rw[<-Nat.add_mul];congr 1;omega
   have hce:dh (List.take (k*sz α) cs.toList++(Builtin.zeroCells lU.cells m).toList++List.drop (k*sz α+m*sz α) cs.toList).toArray (i*sz α) (sz α)=dh (Builtin.zeroCells lU.cells m) ((i-k)*sz α) (sz α):=rY (λr hr=>by
    rw[mI,List.append_assoc,List.getElem?_append_right (by simp only[List.length_take,Array.length_toList];omega),List.getElem?_append_left (by simp only[List.length_take,Array.length_toList,xh];omega),Array.getElem?_toList];congr 1;simp only[List.length_take,Array.length_toList];omega)
   rw[hce,hcell _ him];exact h0 _ _
end
section
variable {α:Type} [aZ α] {w:World} {C:Nat->Nat} {P:Program} {f:FuncId} {N:Nat} {k:List Item} {R:Value->World->Prop} {Q:Exit->Act->World->Prop} {env:Env} {ops:Array Oper} {S:World->Prop} {i t:Nat} {L:List (Nat×Bool)} {v v2:Value} {y z:Operand} {gq:Option (Nat×Bool)} {ty e e':TypeId} {xs:List α} {j g:Nat} {kd:IntKind} {n:Int}
theorem Hh (hop:cv ops i=some (some t,.slice ty y (some z) none none,gq)) (hw:ec ops env gq=some true) (ht:Nat.blt t N=true) (hl:bg w C j e v xs) (hy:ev env y=some v)
  (hf:jS P ty=some (e',sz α)) (hz:ev env z=some (.int kd n)) (h0:0<=n) (h1:n<xs.length)
  (h:∀v2,yX (sz α) v v2 n.toNat (xs.length-n.toNat)->bO P N Q ops S L ((t,v2)::env) w):bO P N Q ops S ((i,true)::L) env w:=by
 obtain⟨v2,h2,h3⟩:=hl.from_ (P:=P) (N:=N) hy hf hz h0 h1;exact kI hop hw ht (λw' _=>h3 w') (h v2 h2)
theorem KP (hop:cv ops i=some (some t,.slice ty y none (some z) none,gq)) (hw:ec ops env gq=some true) (ht:Nat.blt t N=true) (hl:bg w C j e v xs) (hy:ev env y=some v)
  (hf:jS P ty=some (e',sz α)) (hz:ev env z=some (.int kd n)) (h0:0<=n) (h1:n<=xs.length) (hne:0<xs.length)
  (h:∀v2,bg w C j e v2 (xs.take n.toNat)->bO P N Q ops S L ((t,v2)::env) w):bO P N Q ops S ((i,true)::L) env w:=by
 obtain⟨v2,h2,h3⟩:=hl.KM (P:=P) (N:=N) hy hf hz h0 h1 hne;exact kI hop hw ht (λw' _=>h3 w') (h v2 h2)
theorem xk {M:Nat->Prop} (hop:cv ops i=some (some t,.slice ty y (some z) none none,gq)) (hw:ec ops env gq=some true) (ht:Nat.blt t N=true) (hl:av w M xs v) (hy:ev env y=some v)
  (hf:jS P ty=some (e',sz α)) (hz:ev env z=some (.int kd n)) (h0:0<=n) (h1:n<=xs.length)
  (h:∀v2,av w M (xs.drop n.toNat) v2->bO P N Q ops S L ((t,v2)::env) w):bO P N Q ops S ((i,true)::L) env w:=by
 obtain⟨v2,h2,h3⟩:=hl.from_ (P:=P) (N:=N) hy hf hz h0 h1;exact kI hop hw ht (λw' _=>h3 w') (h v2 h2)
theorem qx {M:Nat->Prop} (hop:cv ops i=some (some t,.slice ty y none (some z) none,gq)) (hw:ec ops env gq=some true) (ht:Nat.blt t N=true) (hl:av w M xs v) (hy:ev env y=some v)
  (hf:jS P ty=some (e',sz α)) (hz:ev env z=some (.int kd n)) (h0:0<=n) (h1:n<=xs.length)
  (h:∀v2,av w M (xs.take n.toNat) v2->bO P N Q ops S L ((t,v2)::env) w):bO P N Q ops S ((i,true)::L) env w:=by
 obtain⟨v2,h2,h3⟩:=hl.KM (P:=P) (N:=N) hy hf hz h0 h1;exact kI hop hw ht (λw' _=>h3 w') (h v2 h2)
end
section
variable {P:Program} {f:FuncId} {N:Nat} {k:List Item} {env:Env} {w:World} {R:Value->World->Prop} {Q:Exit->Act->World->Prop}
theorem KQ {b yZ:Nat} {cs:List Value} {e8:Nat×Nat} {ty n:Nat} (hc:w.heap[b]?=some (.cells cs.toArray yZ e8)) (ha:gM P ty=some true) (hs:gX P ty=some n) (hl:cs.length=n):
  (loadVar ty ⟨b,0,none⟩).run P w=.ok (.agg cs.toArray) w:=by
 have hcells: (loadCells ⟨b,0,none⟩ n).run P w=.ok cs.toArray w:=by
  have:=run_loadCells_list (P:=P) w ⟨b,0,none⟩ cs (λj u hu=>by
   rw[qt,cell_of_row w b (0+j) cs.toArray yZ e8 hc];rw[<-hu];simp)
  rwa [hl] at this
 simp only[loadCells] at hcells;simp[loadVar,tQ ha,nc hs,loadCells,hcells]
theorem KR {c:Code} {fn:Func} {a ty b:Nat} {yZ:Nat} {cs:List Value} {e8:Nat×Nat} {n:Nat} (hc:c=.ret) (hf:P.funcs[f]?=some fn) (hres:fn.results=#[.cell a ty]) (hv:look env a=some (.pointer (some ⟨b,0,none⟩)))
  (hb:w.heap[b]?=some (.cells cs.toArray yZ e8)) (ha:gM P ty=some true) (hs:gX P ty=some n) (hl:cs.length=n)
  (hR:R (.agg cs.toArray) w):Run P f N (.code c::k) env w R:=λa' jV=>by
 subst hc;refine Ao hf jV.defers ?_ hR;have h1:=jV.slot a _ hv;have h2:=KQ hb ha hs hl;simp only[results,hres];simp[h1,Array.getD_eq_getD_getElem?,asAddr,h2]
theorem tX {c:Code} {fn:Func} {a ty b u:Nat} {x:Value} {yZ:Nat} {cs:List Value} {e8:Nat×Nat} {n:Nat} (hc:c=.ret) (hf:P.funcs[f]?=some fn) (hres:fn.results=#[.cell a ty,.tmp u]) (hv:look env a=some (.pointer (some ⟨b,0,none⟩)))
  (hx:look env u=some x) (hb:w.heap[b]?=some (.cells cs.toArray yZ e8)) (ha:gM P ty=some true) (hs:gX P ty=some n) (hl:cs.length=n)
  (hR:R (.tuple #[.agg cs.toArray,x]) w):Run P f N (.code c::k) env w R:=λa' jV=>by
 subst hc;refine Ao hf jV.defers ?_ hR;have h1:=jV.slot a _ hv;have h3:=jV.slot u _ hx;have h2:=KQ hb ha hs hl;simp only[results,hres];simp[h1,h3,Array.getD_eq_getD_getElem?,asAddr,h2]
end
section
variable {P:Program} {N:Nat} {env:Env} {w:World} {x y:Operand} {t u:TypeId} {m n r:Int}
theorem XJ (hx:ev env x=some (.int .i64 m)) (hy:ev env y=some (.int .i64 n)) (ht:P.underlying t=some (.int .i64)):
  cZ P N env (.call {callee:=.builtin .min,args:=#[x,y],argTypes:=#[t,t]}) w (.int .i64 (min m n)):=mk' λρ hρ o ho=>by
 unfold execOp;rw[ho];simp[hρ _ _ hx,hρ _ _ hy,go_sem,resolve,invoke,builtin,Builtin.min_,Builtin.min2];by_cases h:n<m
 ·rw[if_pos h];exact(Int.min_eq_right ah).symm
 ·rw[if_neg h];exact(Int.min_eq_left ah).symm
end
section
variable {P:Program} {f:FuncId} {N:Nat} {k:List Item} {env:Env} {w:World} {R:Value->World->Prop} {Q:Exit->Act->World->Prop}
theorem qy {fn:Func} (hf:P.funcs[f]?=some fn) (hres:fn.results=#[]) (hR:R (.tuple #[]) w):Run P f N [] env w R:=λa ha cs=>
 ⟨.tuple #[],w,_,hR,.one step_end,rfl,rfl,ha.defers,rfl,fn,hf,by simp[results,hres,Sem.run,pure]⟩
theorem AB {fn:Fn} {xs ys:Array Operand} {us vs:List Value} (hx:lF env xs.toList=some us) (hy:lF env ys.toList=some vs):
  cZ P N env (.makeFunc fn xs ys) w (.func fn us.toArray vs.toArray):=λa ha o ho=>by
 have h1:xs.map a.eval=us.toArray:=by rw[<-ha.lF hx,<-List.map_toArray]
 have h2:ys.map a.eval=vs.toArray:=by rw[<-ha.lF hy,<-List.map_toArray]
 unfold execOp;rw[ho];simp only[h1,h2];rfl
end
def xl (P:Program) (t:TypeId) {dy:Type} [DecidableEq dy] (kv:dy->Value):Prop:=
 ∀d a b w,(Op.equalIn (d+8) t (kv a) (kv b)).run P w=.ok (decide (a=b)) w
structure xm (P:Program) (t:TypeId) {dy:Type} [DecidableEq dy] (kv:dy->Value):Prop where
 check:∀e k w,(Instr.checkKey e 10000 t (kv k)).run P w=.ok () w
 find:∀k (es:List MapEntry) (ks:List dy) w,es.map (·.key)=ks.map kv->
  (Instr.findKey t (kv k) es).run P w=.ok ((ks.findIdx? (λx=>decide (x=k))).bind λi=>(es[i]?).map λe=>(i,e.val)) w
 bits:∀k,Instr.sameBits 10000 (kv k) (kv k)=true
 inj:∀a b,kv a=kv b->a=b
theorem XK {kind:TypeDesc} {dy:Type} [DecidableEq dy] {kv:dy->Value} (hs:∀a b,Instr.sameNow kind (kv a) (kv b)=some (decide (a=b))) (k:dy):
  ∀(es:List MapEntry) (ks:List dy) (n:Nat),es.map (·.key)=ks.map kv->
   Instr.findNow kind (kv k) es n=some ((ks.findIdx? (λx=>decide (x=k))).bind λi=>(es[i]?).map λe=>(n+i,e.val))
 |[],[],n,_=>by simp[Instr.findNow]
 |[],_::_,n,h=>by simp at h
 |_::_,[],n,h=>by simp at h
 |e::es,x::ks,n,h=>by
  simp only[List.map_cons,List.cons.injEq] at h;obtain⟨h1,h2⟩:=h;unfold Instr.findNow;rw[h1,hs];by_cases hx:k=x
  ·subst hx;simp[List.findIdx?_cons]
  ·simp only[hx,decide_false];rw[XK hs k es ks (n+1) h2,List.findIdx?_cons];have:¬x=k:=λe=>hx e.symm;simp only[this,decide_false,Bool.false_eq_true,if_false];cases ks.findIdx? (λx=>decide (x=k)) with
   |none=>rfl
   |some i=>simp[Nat.add_assoc,Nat.add_comm 1]
theorem Qk {P:Program} {t:TypeId} {dy:Type} [DecidableEq dy] {kv:dy->Value} (heq:xl P t kv) (k:dy) (w:World):
  ∀(es:List MapEntry) (ks:List dy) (n:Nat),es.map (·.key)=ks.map kv->
   (Instr.findAsking t (kv k) es n).run P w=.ok ((ks.findIdx? (λx=>decide (x=k))).bind λi=>(es[i]?).map λe=>(n+i,e.val)) w
 |[],[],n,_=>by simp[Instr.findAsking]
 |[],_::_,n,h=>by simp at h
 |_::_,[],n,h=>by simp at h
 |e::es,x::ks,n,h=>by
  simp only[List.map_cons,List.cons.injEq] at h;obtain⟨h1,h2⟩:=h;unfold Instr.findAsking Op.equal;rw[h1,Sem.run_bind,show Op.maxDepth=9992+8 from rfl,heq];simp only[Result.andThen_ok];by_cases hx:k=x
  ·subst hx;simp[List.findIdx?_cons]
  ·simp only[hx,decide_false,Bool.false_eq_true,if_false];rw[Qk heq k w es ks (n+1) h2,List.findIdx?_cons];have:¬x=k:=λe=>hx e.symm;simp only[this,decide_false,Bool.false_eq_true,if_false];cases ks.findIdx? (λx=>decide (x=k)) with
   |none=>rfl
   |some i=>simp[Nat.add_assoc,Nat.add_comm 1]
theorem Ql {P:Program} {t:TypeId} {fs:Array Field} {dy:Type} [DecidableEq dy] {kv:dy->Value} (h:P.underlying t=some (.struct fs)) (heq:xl P t kv)
  (hc:∀e k w,(Instr.checkKey e 10000 t (kv k)).run P w=.ok () w) (hb:∀k,Instr.sameBits 10000 (kv k) (kv k)=true) (hi:∀a b,kv a=kv b->a=b):xm P t kv where
 check:=hc
 find k es ks w hk:=by
  rw[run_findKey_eq w (by rw[h]) (kv k) es];simpa using Qk heq k w es ks 0 hk
 bits:=hb
 inj:=hi
section
variable {dy β:Type} [DecidableEq dy]
def fe:List (dy×β)->dy->Option β
 |[],_=>none
 |(x,v)::m,k=>if x=k then some v else fe m k
def iu:List (dy×β)->dy->β->List (dy×β)
 |[],k,v=>[(k,v)]
 |(x,u)::m,k,v=>if x=k then(k,v)::m else(x,u)::iu m k v
def keys (m:List (dy×β)):List dy:=m.map (·.1)
theorem nN (m:List (dy×β)) (k:dy) (v:β) (j:dy):fe (iu m k v) j=if k=j then some v else fe m j:=by
 induction m with
 |nil=>simp[iu,fe]
 |cons p m ih=>
  obtain⟨x,u⟩:=p;unfold iu;split
  ·rename_i h;subst h;simp only[fe];split<;>rfl
  ·rename_i h;simp only[fe,ih];by_cases h1:x=j
   ·subst h1;rw[if_pos rfl,if_neg (λe=>h e.symm),if_pos rfl]
   ·rw[if_neg h1,if_neg h1]
theorem XL (m:List (dy×β)) (k:dy) (v:β) (j:dy):j∈keys (iu m k v)↔j=k\/j∈keys m:=by
 induction m with
 |nil=>simp[iu,keys]
 |cons p m ih=>
  obtain⟨x,u⟩:=p;unfold iu;split
  ·rename_i h;subst h;simp[keys]
  ·simp only[keys,List.map_cons,List.mem_cons] at ih⊢;rw[ih];constructor
   ·rintro(h|h|h)
    ·exact .inr (.inl h)
    ·exact .inl h
    ·exact .inr (.inr h)
   ·rintro(h|h|h)
    ·exact .inr (.inl h)
    ·exact .inl h
    ·exact .inr (.inr h)
theorem XM {m:List (dy×β)} (h: (keys m).Nodup) (k:dy) (v:β): (keys (iu m k v)).Nodup:=by
 induction m with
 |nil=>simp[iu,keys]
 |cons p m ih=>
  obtain⟨x,u⟩:=p;unfold iu;simp only[keys,List.map_cons,List.nodup_cons] at h;split
  ·rename_i hx;subst hx;simpa[keys] using h
  ·rename_i hx;simp only[keys,List.map_cons,List.nodup_cons];refine⟨λhm=>?_,ih h.2⟩;rcases(XL m k v x).1 hm with e|e
   ·exact hx e
   ·exact h.1 e
theorem Qm (m:List (dy×β)) (k:dy): ((keys m).findIdx? (λx=>decide (x=k))).bind (λi=>(m[i]?).map (·.2))=fe m k:=by
 induction m with
 |nil=>simp[fe,keys]
 |cons p m ih=>
  obtain⟨x,u⟩:=p;simp only[fe,keys,List.map_cons,List.findIdx?_cons] at ih⊢;split
  ·rename_i h;rw[if_pos (by simpa using h)];simp
  ·rename_i h;rw[if_neg (by simpa using h),<-ih];cases (m.map (·.1)).findIdx? (λx=>decide (x=k))<;>simp
theorem Qn {m:List (dy×β)} {k:dy} (h: (keys m).findIdx? (λx=>decide (x=k))=none) (v:β):iu m k v=m++[(k,v)]:=by
 induction m with
 |nil=>rfl
 |cons p m ih=>
  obtain⟨x,u⟩:=p;simp only[keys,List.map_cons,List.findIdx?_cons] at h;split at h
  ·cases h
  ·rename_i hx;simp only[Option.map_eq_none_iff] at h;unfold iu;rw[if_neg (by simpa using hx),ih h];rfl
theorem XO {m:List (dy×β)} {k:dy} {i:Nat} (h: (keys m).findIdx? (λx=>decide (x=k))=some i):∃u,m[i]?=some (k,u):=by
 obtain⟨hlt,h1,_⟩:=List.findIdx?_eq_some_iff_getElem.1 h;simp only[keys,List.getElem_map,decide_eq_true_eq] at h1;simp only[keys,List.length_map] at hlt;exact⟨m[i].2,by rw[List.getElem?_eq_getElem hlt,<-h1]⟩
theorem XP {m:List (dy×β)} {k:dy} {i:Nat} (h: (keys m).findIdx? (λx=>decide (x=k))=some i) (v:β):iu m k v=m.set i (k,v)/\∃u,m[i]?=some (k,u):=by
 induction m generalizing i with
 |nil=>simp[keys] at h
 |cons p m ih=>
  obtain⟨x,u⟩:=p;simp only[keys,List.map_cons,List.findIdx?_cons] at h;unfold iu;split at h
  ·rename_i hx;simp only[Option.some.injEq] at h;subst h;have hx':x=k:=by simpa using hx
   subst hx';rw[if_pos rfl];exact⟨rfl,u,rfl⟩
  ·rename_i hx;simp only[Option.map_eq_some_iff] at h;obtain⟨j,hj,rfl⟩:=h;obtain⟨h1,u',h2⟩:=ih hj;rw[if_neg (by simpa using hx),h1];exact⟨rfl,u',by simpa using h2⟩
end
section
variable {dy β:Type} [DecidableEq dy] {kv:dy->Value} {dw:β->Value} {m:List (dy×β)}
structure sX (kv:dy->Value) (dw:β->Value) (m:List (dy×β)) (es:Array MapEntry) (clock:Nat):Prop where
 key:es.toList.map (·.key)=(keys m).map kv
 val:es.toList.map (·.val)=m.map (λp=>dw p.2)
 nodup: (keys m).Nodup
 born:∀e∈es.toList,e.born<clock
 KS:es.toList.Pairwise (λa b=>a.born<b.born)
def fZ (w:World) (C:Nat->Nat) (j b:Nat) (kv:dy->Value) (dw:β->Value) (m:List (dy×β)):Prop:=
 C b=j/\∃es clock,w.heap[b]?=some (.map es clock)/\sX kv dw m es clock
def tY (w:World) (M:Nat->Prop) (kv:dy->Value) (dw:β->Value) (m:List (dy×β)) (v:Value):Prop:=
 ∃b,v=.map (some b)/\¬M b/\∃es clock,w.heap[b]?=some (.map es clock)/\sX kv dw m es clock
variable {w w':World} {I:List Nat} {C aQ:Nat->Nat} {j b n:Nat} {v:Value}
theorem fZ.st (h:fZ w C j b kv dw m) (hs:ax I w C w' aQ) (hj:j∉I):fZ w' aQ j b kv dw m:=by
 obtain⟨hc,es,clock,hb,hm⟩:=h;exact⟨(hs.col b (rX hb)).trans hc,es,clock,hs.ext.vj hb (by rw[hc];exact hj),hm⟩
theorem tY.st (h:tY w (au C) kv dw m v) (hs:ax I w C w' aQ) (h0:0∉I):tY w' (au aQ) kv dw m v:=by
 obtain⟨b,e,hn,es,clock,hb,hm⟩:=h;have hc:C b=0:=by by_cases hz:C b=0;exact hz;exact absurd hz hn
 refine⟨b,e,?_,es,clock,hs.ext.vj hb (by rw[hc];exact h0),hm⟩;unfold au;rw[hs.col b (rX hb)];exact hn
theorem fZ.t (h:fZ w C j b kv dw m) (hs:ax I w C w' aQ) (hj:j∉I:=by first|decide|(simp<;>omega)):fZ w' aQ j b kv dw m:=h.st hs hj
theorem tY.t (h:tY w (au C) kv dw m v) (hs:ax I w C w' aQ) (h0:0∉I:=by first|decide|(simp<;>omega)):tY w' (au aQ) kv dw m v:=h.st hs h0
theorem fZ.out {w₀:World} {kW D:Nat->Nat} (h:fZ w' aQ j b kv dw m) (hs:ax I w₀ D w' aQ) (hF:aL w₀ kW) (hD:au D=au kW) (hj:∀b,b<w₀.heap.size->D b≠j):tY w' (au kW) kv dw m (.map (some b)):=by
 obtain⟨hc,r⟩:=h;refine⟨b,rfl,λhm=>?_,r⟩;obtain⟨h1,h2,h3⟩:=hs.Kw hF hD b hm;exact hj b h1 (by rw[<-h2];exact hc)
variable {P:Program} {N:Nat} {env:Env} {x y z q:Operand} {t kt et:TypeId}
theorem Qo {es:Array MapEntry} {clock:Nat} (hm:sX kv dw m es clock) (k:dy):
  ((keys m).findIdx? (λx=>decide (x=k))).bind (λi=>(es.toList[i]?).map λe=>(i,e.val))=
   ((keys m).findIdx? (λx=>decide (x=k))).bind (λi=>(m[i]?).map λp=>(i,dw p.2)):=by
 cases (keys m).findIdx? (λx=>decide (x=k)) with
 |none=>rfl
 |some i=>
  simp only[Option.bind_some];have h1: (es.toList.map (·.val))[i]?=(m.map (λp=>dw p.2))[i]?:=by rw[hm.val]
  simp only[List.getElem?_map] at h1;cases h2:es.toList[i]? with
  |none=>rw[h2] at h1;cases h3:m[i]? with
   |none=>rfl
   |some p=>rw[h3] at h1;cases h1
  |some e=>rw[h2] at h1;cases h3:m[i]? with
   |none=>rw[h3] at h1;cases h1
   |some p=>rw[h3] at h1;simp only[Option.map_some,Option.some.injEq] at h1⊢;rw[h1]
theorem afX {es:Array MapEntry} {clock:Nat} (ht:P.underlying t=some (.map kt et)) (hk:xm P kt kv) {z0:β} (hz:vB P et=some [dw z0]) (hagg:∀z:Value,z.cells=#[dw z0]->z=dw z0)
  (hb:w.heap[b]?=some (.map es clock)) (hm:sX kv dw m es clock) (k:dy) (ok:Bool):
  (Instr.lookup t (.map (some b)) (kv k) ok).run P w=.ok (if ok then .tuple #[dw ((fe m k).getD z0),.bool (fe m k).isSome] else dw ((fe m k).getD z0)) w:=by
 obtain⟨lU,h1,h2⟩:=D_ hz w;have h3:=hagg lU (by simpa using h2);subst h3;have hf:=hk.find k es.toList (keys m) w hm.key;rw[Qo hm] at hf;have hg:=Qm m k;have mI: (getObj b).run P w=.ok (.map es clock) w:=by simp[getObj,Sem.run,hb]
 unfold Instr.lookup;simp only[Sem.run_bind,run_underlying ht,Result.andThen_ok,mI,Sem.run_pure,hk.check,hf];cases hi: (keys m).findIdx? (λx=>decide (x=k)) with
 |none=>
  rw[hi] at hg;simp only[Option.bind_none] at hg⊢;simp only[Sem.run_bind,h1,Result.andThen_ok,Sem.run_pure,<-hg];cases ok<;>rfl
 |some i=>
  rw[hi] at hg;simp only[Option.bind_some] at hg⊢;cases hp:m[i]? with
  |none=>
   have:=(List.findIdx?_eq_some_iff_getElem.1 hi).1;simp only[keys,List.length_map] at this;rw[List.getElem?_eq_none_iff] at hp;omega
  |some p=>
   rw[hp] at hg;simp only[Option.map_some] at hg⊢;simp only[Sem.run_pure,Result.andThen_ok,<-hg];cases ok<;>rfl
end
section
variable {dy β:Type} [DecidableEq dy] {kv:dy->Value} {dw:β->Value} {m:List (dy×β)} {es:Array MapEntry} {clock:Nat}
theorem sX.push (h:sX kv dw m es clock) {k:dy} (hk: (keys m).findIdx? (λx=>decide (x=k))=none) (x:β):
  sX kv dw (iu m k x) (es.push {key:=kv k,val:=dw x,born:=clock}) (clock+1) where
 key:=by rw[Qn hk];simp[keys,h.key]
 val:=by rw[Qn hk];simp[h.val]
 nodup:=XM h.nodup k x
 born e he:=by
  simp only[Array.toList_push,List.mem_append,List.mem_singleton] at he;rcases he with he|rfl
  ·have:=h.born e he;omega
  ·exact Nat.lt_succ_self _
 KS:=by
  rw[Array.toList_push,List.pairwise_append];refine⟨h.KS,List.pairwise_singleton _ _,λa ha b hb=>?_⟩;simp only[List.mem_singleton] at hb;subst hb;exact h.born a ha
theorem Qp {γ:Type} (f:MapEntry->γ) (g:MapEntry->MapEntry) (i:Nat) (l:List MapEntry) (hg:∀e,l[i]?=some e->f (g e)=f e): (l.modify i g).map f=l.map f:=by
 apply List.ext_getElem?;intro j;simp only[List.getElem?_map,List.getElem?_modify];cases hj:l[j]? with
 |none=>rfl
 |some e=>
  simp only[Option.map_some];split
  ·rename_i h;subst h;simp[hg e hj]
  ·simp
theorem sX.modify (h:sX kv dw m es clock) {k:dy} {i:Nat} (hk: (keys m).findIdx? (λx=>decide (x=k))=some i) (x:β):
  sX kv dw (iu m k x) (es.modify i λe=>{e with key:=kv k,val:=dw x}) clock:=by
 obtain⟨h1,u,h2⟩:=XP hk x;have hkeys:keys (iu m k x)=keys m:=by
  rw[h1];apply List.ext_getElem?;intro j;simp only[keys,List.getElem?_map,List.getElem?_set];split
  ·rename_i e;subst e;split
   ·rw[h2];rfl
   ·rename_i hlt;rw[List.getElem?_eq_none ah]
  ·rfl
 have hmem:∀e,e∈(es.modify i λe=>{e with key:=kv k,val:=dw x}).toList->∃e'∈es.toList,e'.born=e.born:=λe he=>by
  rw[Array.toList_modify] at he;obtain⟨j,hj⟩:=List.mem_iff_getElem?.1 he;rw[List.getElem?_modify] at hj;cases hjj:es.toList[j]? with
  |none=>rw[hjj] at hj;cases hj
  |some e'=>
   rw[hjj] at hj;refine⟨e',List.mem_of_getElem? hjj,?_⟩;simp only[Option.map_eq_map,Option.map_some,Option.some.injEq] at hj;split at hj<;>subst hj<;>rfl
 refine⟨?_,?_,by rw[hkeys];exact h.nodup,λe he=>?_,?_⟩
 ·rw[Array.toList_modify,hkeys,<-h.key];refine Qp _ _ _ _ (λe he=>?_);have: (es.toList.map (·.key))[i]?=((keys m).map kv)[i]?:=by rw[h.key]
  simp only[List.getElem?_map,he,Option.map_some,keys,h2] at this;simpa using this.symm
 ·rw[Array.toList_modify,h1];apply List.ext_getElem?;intro j;have hval: (es.toList.map (·.val))[j]?=(m.map (λp=>dw p.2))[j]?:=by rw[h.val]
  simp only[List.getElem?_map] at hval;simp only[List.getElem?_map,List.getElem?_modify,List.getElem?_set];by_cases hij:i=j
  ·subst hij;have hlt:i<m.length:=(List.getElem?_eq_some_iff.1 h2).1;rw[h2] at hval;cases he:es.toList[i]? with
   |none=>rw[he] at hval;cases hval
   |some e=>simp[hlt]
  ·simp only[if_neg hij,Option.map_id',id_eq];simpa using hval
 ·obtain⟨e',he',hb⟩:=hmem e he;rw[<-hb];exact h.born e' he'
 ·rw[Array.toList_modify];have hp: (es.toList.map (·.born)).Pairwise (·<·):=by rw[List.pairwise_map];exact h.KS
  have hq: ((es.toList.modify i λe=>{e with key:=kv k,val:=dw x}).map (·.born)).Pairwise (·<·):=by
   rw[Qp (λe=>e.born) (λe=>{e with key:=kv k,val:=dw x}) i es.toList (λe _=>rfl)];exact hp
  rw[List.pairwise_map] at hq;exact hq
variable {w w':World} {I:List Nat} {C aQ:Nat->Nat} {M:Nat->Prop} {j b n:Nat} {v:Value} {P:Program} {N:Nat} {env:Env} {x y z q:Operand} {t kt et:TypeId}
theorem Qq {o o':Obj} (hb:w.heap[b]?=some o) (hno:∀c e f,o≠ .cells c e f): (setObj b o').run P w=.ok () {w with heap:=w.heap.setIfInBounds b o'}:=by
 unfold setObj Sem.run;rw[hb];cases o with
 |cells c e f=>exact absurd rfl (hno c e f)
 |_=>rfl
theorem Qr {o:Obj} (o':Obj) (hb:w.heap[b]?=some o):As w {w with heap:=w.heap.setIfInBounds b o'} b o':=by
 have hlt:=rX hb;refine⟨⟨rfl,rfl,rfl,by simp,λc _ hc=>?_,nJ.refl rfl⟩,?_,by simp⟩
 ·simp only[Array.getElem?_setIfInBounds];rw[if_neg (λe=>hc e.symm)]
 ·simp[Array.getElem?_setIfInBounds,hlt]
theorem Qs {o o':Obj} (h:As w w' b o') (hc:C b=j):ax [j] w C w' C:=⟨h.ext.mono (λc _ hcb=>by rw[show c=b from hcb,hc];simp),λ_ _=>rfl⟩
theorem XQ (h:sX kv dw m es clock) {k:dy} {i:Nat} (hk: (keys m).findIdx? (λx=>decide (x=k))=some i): (es[i]?).map (·.key)=some (kv k):=by
 obtain⟨u,h2⟩:=XO hk;have: (es.toList.map (·.key))[i]?=((keys m).map kv)[i]?:=by rw[h.key]
 simp only[List.getElem?_map,keys,h2,Option.map_some] at this;rw[<-this];simp
theorem Cv (hF:aL w C) (j:Nat) (kv:dy->Value) (dw:β->Value):ig P N env (.makeMap t none) w (λv w'=>∃aQ b,v=.map (some b)/\ax [] w C w' aQ/\fZ w' aQ j b kv dw []/\aL w' aQ):=rq λρ hρ o ho=>by
 have hn:=xd w (.map #[] 0);obtain⟨aQ,h1,h2,h3⟩:=hn.own hF j;refine⟨.map (some w.heap.size),w.alloc (.map #[] 0),.inl ?_,aQ,_,rfl,h1,⟨h2.col,#[],0,h2.at_,⟨rfl,rfl,by simp[keys],λe he=>by simp at he,by simp⟩⟩,h3⟩;unfold execOp;rw[ho];simp[go_sem,Instr.makeMap]
variable {z0:β}
def Hi (P:Program) (et:TypeId) (v:Value):Prop:=∀w,(zeroValue et).run P w=.ok v w
theorem KT (ht:P.underlying t=some (.map kt et)) (hk:xm P kt kv) (hz:Hi P et (dw z0)) (hb:w.heap[b]?=some (.map es clock)) (hm:sX kv dw m es clock) {k:dy} {ok:Bool}
  (hx:ev env x=some (.map (some b))) (hy:ev env y=some (kv k)):
  cZ P N env (.lookup t x y ok) w (if ok then .tuple #[dw ((fe m k).getD z0),.bool (fe m k).isSome] else dw ((fe m k).getD z0)):=mk' λρ hρ o ho=>by
 have hf:=hk.find k es.toList (keys m) w hm.key;rw[Qo hm] at hf;have hg:=Qm m k;have mI: (getObj b).run P w=.ok (.map es clock) w:=by simp[getObj,Sem.run,hb]
 unfold execOp;rw[ho];simp only[hρ _ _ hx,hρ _ _ hy];unfold Instr.lookup;simp only[Sem.run_bind,run_underlying ht,Result.andThen_ok,mI,Sem.run_pure,hk.check,hf];cases hi: (keys m).findIdx? (λx=>decide (x=k)) with
 |none=>
  rw[hi] at hg;simp only[Option.bind_none] at hg⊢;simp only[Sem.run_bind,hz w,Result.andThen_ok,Sem.run_pure,<-hg];cases ok<;>rfl
 |some i=>
  rw[hi] at hg;simp only[Option.bind_some] at hg⊢;cases hp:m[i]? with
  |none=>
   have:=(List.findIdx?_eq_some_iff_getElem.1 hi).1;simp only[keys,List.length_map] at this;rw[List.getElem?_eq_none_iff] at hp;omega
  |some p=>
   rw[hp] at hg;simp only[Option.map_some] at hg⊢;simp only[Sem.run_pure,Result.andThen_ok,<-hg];cases ok<;>rfl
theorem fZ.lookup (h:fZ w C j b kv dw m) (ht:P.underlying t=some (.map kt et)) (hk:xm P kt kv) (hz:Hi P et (dw z0)) {k:dy}
  (hx:ev env x=some (.map (some b))) (hy:ev env y=some (kv k)):cZ P N env (.lookup t x y false) w (dw ((fe m k).getD z0)):=by
 obtain⟨_,es,clock,hb,hm⟩:=h;exact KT (ok:=false) ht hk hz hb hm hx hy
theorem fZ.Qt (h:fZ w C j b kv dw m) (ht:P.underlying t=some (.map kt et)) (hk:xm P kt kv) (hz:Hi P et (dw z0)) {k:dy}
  (hx:ev env x=some (.map (some b))) (hy:ev env y=some (kv k)):cZ P N env (.lookup t x y true) w (.tuple #[dw ((fe m k).getD z0),.bool (fe m k).isSome]):=by
 obtain⟨_,es,clock,hb,hm⟩:=h;exact KT (ok:=true) ht hk hz hb hm hx hy
theorem tY.lookup (h:tY w M kv dw m v) (ht:P.underlying t=some (.map kt et)) (hk:xm P kt kv) (hz:Hi P et (dw z0)) {k:dy}
  (hx:ev env x=some v) (hy:ev env y=some (kv k)):cZ P N env (.lookup t x y false) w (dw ((fe m k).getD z0)):=by
 obtain⟨b,rfl,_,es,clock,hb,hm⟩:=h;exact KT (ok:=false) ht hk hz hb hm hx hy
theorem xo (h:fZ w C j b kv dw m) (ht:P.underlying t=some (.map kt et)) (hk:xm P kt kv) {k:dy} {u:β}
  (hx:ev env x=some (.map (some b))) (hy:ev env y=some (kv k)) (hz:ev env z=some (dw u)):
  ig P N env (.mapUpdate t x y z) w (λv w'=>v=undef/\ax [j] w C w' C/\fZ w' C j b kv dw (iu m k u)):=rq λρ hρ o ho=>by
 obtain⟨hc,es,clock,hb,hm⟩:=h;have hf:=hk.find k es.toList (keys m) w hm.key;have mI: (getObj b).run P w=.ok (.map es clock) w:=by simp[getObj,Sem.run,hb]
 cases hi: (keys m).findIdx? (λx=>decide (x=k)) with
 |none=>
  rw[hi] at hf;have hu:=Qr (.map (es.push {key:=kv k,val:=dw u,born:=clock}) (clock+1)) hb;refine⟨undef,_,.inr ⟨?_,rfl⟩,rfl,Qs (o:=.map #[] 0) hu hc,hc,_,_,hu.at_,hm.push hi u⟩;unfold execOp;rw[ho];simp only[hρ _ _ hx,hρ _ _ hy,hρ _ _ hz];unfold Instr.mapUpdate;simp only[Sem.run_bind,run_underlying ht,Result.andThen_ok,mI,hk.check,hf,Option.bind_none];rw[Qq hb (λ_ _ _ h=>by cases h)];rfl
 |some i=>
  rw[hi] at hf;have hu:=Qr (.map (es.modify i λe=>{e with key:=kv k,val:=dw u}) clock) hb;have hke:=XQ hm hi;have hlt:i<es.size:=by
   have:=(List.findIdx?_eq_some_iff_getElem.1 hi).1;have h2:=congrArg List.length hm.key;simp only[List.length_map,Array.length_toList] at h2;omega
  have XR: ((es[i]?).map (·.key)).getD (kv k)=kv k:=by rw[hke];rfl
  refine⟨undef,_,.inr ⟨?_,rfl⟩,rfl,Qs (o:=.map #[] 0) hu hc,hc,_,_,hu.at_,hm.modify hi u⟩;unfold execOp;rw[ho];simp only[hρ _ _ hx,hρ _ _ hy,hρ _ _ hz];unfold Instr.mapUpdate;have hel:es.toList[i]?=some es[i]:=by simp[hlt]
  simp only[Sem.run_bind,run_underlying ht,Result.andThen_ok,mI,hk.check,hf,Option.bind_some,hel,Option.map_some];simp only[Sem.run_bind,Instr.keyThatStays,XR,hk.bits,if_true,Sem.run_pure,Result.andThen_ok];rw[Qq hb (λ_ _ _ h=>by cases h)];rfl
end
section
variable {dy β:Type} [DecidableEq dy] {kv:dy->Value} {dw:β->Value} {m:List (dy×β)} {es:Array MapEntry} {clock:Nat}
variable {w w':World} {I:List Nat} {C aQ:Nat->Nat} {M:Nat->Prop} {j b n:Nat} {v:Value} {P:Program} {N:Nat} {env:Env} {x y z q:Operand} {t kt et:TypeId} {z0:β}
variable {it e6:Nat} {left:List (dy×β)} {cur:Option (dy×β)}
end
abbrev KU:Bool->Value:=λb=> .bool b
abbrev dH:ak->Value:=λc=> .agg #[.int .i64 c.a,.int .i64 c.b]
abbrev Cw:Nat->Value:=λn=> .int .i64 (n:Int)
def iV:List Int->Int
 |[]=>0
 |a::l=>if a=0 then iV l else a
def jW (x y:Int):Int:=if x<y then-1 else if y<x then 1 else 0
def jq (x y:ak):Int:=iV [jW x.a y.a,jW x.b y.b]
theorem XS {l:List Int} {i:Nat} (h:i<l.length):iV (l.drop i)=if l[i]=0 then iV (l.drop (i+1)) else l[i]:=by
 rw[List.drop_eq_getElem_cons h];rfl
section
variable {P:Program} {t ti:TypeId} {n0 n1 p6 p7 p8 p9:String} {e0 e1:Bool} {y0 y1:Nat}
theorem Eo (hi:P.underlying ti=some (.int .i64)) (a b:Int) (i:Nat) (v:Value) (w:World) (hv: (#[Value.int .i64 a,Value.int .i64 b])[i]?=some v): (part ti #[.int .i64 a,.int .i64 b] i).run P w=.ok v w:=
 run_part_plain w (by simp[Program.plainKey,hi]) hv
theorem Ep (h:P.underlying t=some (.struct #[⟨n0,ti,0,e0,p6,p8,y0⟩,⟨n1,ti,1,e1,p7,p9,y1⟩])) (h0:n0≠"_") (h1:n1≠"_") (hS:P.stoodInHeld t=false)
  (hi:P.underlying ti=some (.int .i64)):xl P t dH:=λd a b w=>by
 have hpt:=λa b i v w=>Eo (P:=P) hi a b i v w;have hf:P.fieldsOf t=#[⟨n0,ti,0,e0,p6,p8,y0⟩,⟨n1,ti,1,e1,p7,p9,y1⟩]:=by simp[Program.fieldsOf,h]
 have he:=λ(x y:Int)=>run_equalIn_int (P:=P) w (d+6) ti .i64 .i64 x y hi;rw[show d+8=(d+7)+1 from rfl,run_equalIn_struct w (d+7) t _ _ (by rw[hf];exact h) hS,hf];have nh:∀c:ak,(part ti #[.int .i64 c.a,.int .i64 c.b] 0).run P w=.ok (.int .i64 c.a) w:=λc=>hpt _ _ 0 _ w rfl;have p1:∀c:ak,(part ti #[.int .i64 c.a,.int .i64 c.b] 1).run P w=.ok (.int .i64 c.b) w:=λc=>hpt _ _ 1 _ w rfl;have hd: (decide (a=b))=((a.a==b.a)&&(a.b==b.b)):=by
  cases a;cases b;simp only[ak.mk.injEq,Bool.decide_and];rfl
 simp only[Op.eqFields,Sem.run_bind,Sem.run_ite,h0,h1,ne_eq,not_false_eq_true,if_true,nh,p1,Result.andThen_ok,he,hd];cases (a.a==b.a)<;>cases (a.b==b.b)<;>simp
theorem nP (h:P.underlying t=some (.struct #[⟨n0,ti,0,e0,p6,p8,y0⟩,⟨n1,ti,1,e1,p7,p9,y1⟩])) (h0:n0≠"_") (h1:n1≠"_") (hS:P.stoodInHeld t=false)
  (hi:P.underlying ti=some (.int .i64)):xm P t dH:=by
 have hpt:=λa b i v w=>Eo (P:=P) hi a b i v w;refine Ql h (Ep h h0 h1 hS hi) (λe k w=>?_) (λk=>by simp[Instr.sameBits]) (λa b hab=>?_)
 ·have nh: (part ti #[.int .i64 k.a,.int .i64 k.b] 0).run P w=.ok (.int .i64 k.a) w:=hpt _ _ 0 _ w rfl;have p1: (part ti #[.int .i64 k.a,.int .i64 k.b] 1).run P w=.ok (.int .i64 k.b) w:=hpt _ _ 1 _ w rfl;have q:∀(x:Int),(Instr.checkKey e 9999 ti (.int .i64 x)).run P w=.ok () w:=λx=>by unfold Instr.checkKey;simp[run_underlying hi]
  rw[show(10000:Nat)=9999+1 from rfl,Instr.checkKey];simp only[Sem.run_bind,run_underlying h,Result.andThen_ok];rw[<-Array.forIn_toList];simp only[List.forIn_cons,List.forIn_nil,Sem.run_bind,Sem.run_ite,h0,h1,ne_eq,not_false_eq_true,if_true,nh,p1,q,Result.andThen_ok,Sem.run_pure]
 ·cases a;cases b;simp at hab;simp[hab]
theorem Qu (h:P.underlying t=some (.struct #[⟨n0,ti,0,e0,p6,p8,y0⟩,⟨n1,ti,1,e1,p7,p9,y1⟩])) (h0:n0≠"_") (h1:n1≠"_")
  (hi:P.underlying ti=some (.int .i64)) (d:Nat) (a b:ak) (w:World): (Op.eqGuardIn (d+2) t (dH a) (dH b)).run P w=.ok false w:=by
 have hpt:=λa b i v w=>Eo (P:=P) hi a b i v w;have nh:∀c:ak,(part ti #[.int .i64 c.a,.int .i64 c.b] 0).run P w=.ok (.int .i64 c.a) w:=λc=>hpt _ _ 0 _ w rfl;have p1:∀c:ak,(part ti #[.int .i64 c.a,.int .i64 c.b] 1).run P w=.ok (.int .i64 c.b) w:=λc=>hpt _ _ 1 _ w rfl;have q:∀(x y:Int),(Op.eqGuardIn (d+1) ti (.int .i64 x) (.int .i64 y)).run P w=.ok false w:=λx y=>by unfold Op.eqGuardIn;simp[run_underlying hi]
 rw[show d+2=(d+1)+1 from rfl,Op.eqGuardIn];simp only[Sem.run_bind,run_underlying h,Result.andThen_ok];rw[<-Array.forIn_toList];simp only[List.forIn_cons,List.forIn_nil,Sem.run_bind,Sem.run_ite,h0,h1,ne_eq,not_false_eq_true,if_true,nh,p1,q,Result.andThen_ok,Sem.run_pure,Bool.false_eq_true,if_false]
variable {N:Nat} {env:Env} {x y:Operand} {u:TypeId} {a b:ak} {w:World}
theorem iw (h:P.underlying t=some (.struct #[⟨n0,ti,0,e0,p6,p8,y0⟩,⟨n1,ti,1,e1,p7,p9,y1⟩])) (h0:n0≠"_") (h1:n1≠"_") (hS:P.stoodInHeld t=false)
  (hi:P.underlying ti=some (.int .i64)) (hx:ev env x=some (dH a)) (hy:ev env y=some (dH b)):cZ P N env (.binOp .eql t x y u) w (.bool (decide (a=b))):=mk' λρ hρ o ho=>by
 have h5:=Ep h h0 h1 hS hi (Op.maxDepth-8) a b w;have h6:=Qu h h0 h1 hi (Op.maxDepth-2) a b w;have h7: (Op.equal t (dH a) (dH b)).run P w=.ok (decide (a=b)) w:=h5;have h8: (Op.eqGuardIn Op.maxDepth t (dH a) (dH b)).run P w=.ok false w:=h6;have gi: (eqGuard .eql t x y (dH a) (dH b)).run P w=.ok () w:=by
  unfold eqGuard;simp only[Sem.run_bind,Sem.run_pure,Sem.run_ite,run_program,Result.andThen_ok,h8,Bool.not_true,Bool.false_eq_true,if_false];cases P.eqGuardType P.depth t<;>simp[h8]
 have jd: (binOp .eql t (dH a) (dH b)).run P w=.ok (.bool (decide (a=b))) w:=by
  show(Op.equal t (dH a) (dH b)>>=λz=>pure (Value.bool z)).run P w=_;rw[Sem.run_bind,h7];rfl
 unfold execOp;rw[ho];simp only[hρ _ _ hx,hρ _ _ hy];simp[Sem.run_bind,gi,jd]
theorem Hj (h:P.underlying t=some (.struct #[⟨n0,ti,0,e0,p6,p8,y0⟩,⟨n1,ti,1,e1,p7,p9,y1⟩])) (h0:n0≠"_") (h1:n1≠"_") (hS:P.stoodInHeld t=false)
  (hi:P.underlying ti=some (.int .i64)) (hx:ev env x=some (dH a)) (hy:ev env y=some (dH b)):cZ P N env (.binOp .neq t x y u) w (.bool (decide (a≠b))):=mk' λρ hρ o ho=>by
 have h5:=Ep h h0 h1 hS hi (Op.maxDepth-8) a b w;have h6:=Qu h h0 h1 hi (Op.maxDepth-2) a b w;have h7: (Op.equal t (dH a) (dH b)).run P w=.ok (decide (a=b)) w:=h5;have h8: (Op.eqGuardIn Op.maxDepth t (dH a) (dH b)).run P w=.ok false w:=h6;have gi: (eqGuard .neq t x y (dH a) (dH b)).run P w=.ok () w:=by
  unfold eqGuard;simp only[Sem.run_bind,Sem.run_pure,Sem.run_ite,run_program,Result.andThen_ok,h8,Bool.not_true,Bool.false_eq_true,if_false];cases P.eqGuardType P.depth t<;>simp[h8]
 have jd: (binOp .neq t (dH a) (dH b)).run P w=.ok (.bool (decide (a≠b))) w:=by
  show(Op.equal t (dH a) (dH b)>>=λz=>pure (Value.bool (!z))).run P w=_;rw[Sem.run_bind,h7];simp
 unfold execOp;rw[ho];simp only[hρ _ _ hx,hρ _ _ hy];simp[Sem.run_bind,gi,jd]
end
def p_ (x y:ak):Bool:=!decide (jq y x<0)
def jJ (l:List ak):List ak:=l.mergeSort p_
theorem Hl (x y:ak):jq x y=if x.a<y.a then-1 else if y.a<x.a then 1 else if x.b<y.b then-1 else if y.b<x.b then 1 else 0:=by
 unfold jq iV iV iV jW;by_cases h1:x.a<y.a<;>by_cases h2:y.a<x.a<;>by_cases h3:x.b<y.b<;>by_cases h4:y.b<x.b<;>simp[h1,h2,h3,h4]
theorem y4 (x y:ak):p_ x y=true↔x.a<y.a\/x.a=y.a/\x.b<=y.b:=by
 unfold p_;rw[Hl];simp only[Bool.not_eq_true',decide_eq_false_iff_not];split
 ·omega
 ·split
  ·omega
  ·split
   ·omega
   ·split<;>omega
theorem XT (x y z:ak) (h:p_ x y=true) (h':p_ y z=true):p_ x z=true:=by rw[y4] at*;omega
theorem XU (x y:ak): (p_ x y||p_ y x)=true:=by rw[Bool.or_eq_true,y4,y4];omega
theorem KV (x y:ak) (h:p_ x y=true) (h':p_ y x=true):x=y:=by
 rw[y4] at*;have h1:x.a=y.a:=by omega
 have h2:x.b=y.b:=by omega
 cases x;cases y;simp only at h1 h2;rw[h1,h2]
theorem Qv (l:List ak): (jJ l).Pairwise (λx y=>p_ x y=true):=List.pairwise_mergeSort XT XU l
theorem xq (l:List ak): (jJ l).Perm l:=List.mergeSort_perm l p_
theorem Qw {γ:Type} {le:γ->γ->Bool} (ha:∀x y,le x y=true->le y x=true->x=y):∀{l l':List γ},l.Perm l'->l.Pairwise (λx y=>le x y=true)->l'.Pairwise (λx y=>le x y=true)->l=l'
 |[],l',hp,_,_=>by simpa using hp.symm.eq_nil.symm
 |a::l,[],hp,_,_=>by simpa using hp.eq_nil
 |a::l,b::l',hp,h1,h2=>by
  have hab:a=b:=by
   by_cases e:a=b
   ·exact e
   ·have hb:b∈a::l:=hp.symm.subset aF;have jV:a∈b::l':=hp.subset aF;rcases List.mem_cons.1 hb with hb|hb
    ·exact hb.symm
    ·rcases List.mem_cons.1 jV with jV|jV
     ·exact jV
     ·exact ha _ _ ((List.pairwise_cons.1 h1).1 b hb) ((List.pairwise_cons.1 h2).1 a jV)
  subst hab;rw[Qw ha hp.cons_inv (List.pairwise_cons.1 h1).2 (List.pairwise_cons.1 h2).2]
section
variable {α:Type} [DecidableEq α]
def iG:List α->List α
 |[]=>[]
 |[a]=>[a]
 |a::b::l=>if a=b then iG (b::l) else a::iG (b::l)
theorem Qx (b:α):∀(l:List α) (h:l≠[]),iG (l++[b])=if l.getLast h=b then iG l else iG l++[b]
 |[],h=>absurd rfl h
 |[a],_=>by
  by_cases e:a=b
  ·subst e;simp[iG]
  ·simp[iG,e]
 |a::c::l,h=>by
  have ih:=Qx b (c::l) aF;simp only[List.cons_append,iG] at ih⊢;rw[List.getLast_cons aF];by_cases hac:a=c
  ·rw[if_pos hac,if_pos hac];exact ih
  ·rw[if_neg hac,if_neg hac,ih];split<;>simp
theorem Ho {l:List α} {k:Nat} (h0:0<k) (h:k<l.length):iG (l.take (k+1))=if l[k-1]'ah=l[k] then iG (l.take k) else iG (l.take k)++[l[k]]:=by
 have hne:l.take k≠[]:=by
  intro e;have: (l.take k).length=0:=by rw[e];rfl
  rw[List.length_take] at this;omega
 rw[List.take_succ_eq_append_getElem h,Qx _ _ hne];have: (l.take k).getLast hne=l[k-1]'ah:=by
  rw[List.getLast_eq_getElem];simp only[List.length_take,List.getElem_take];congr 1;omega
 rw[this]
theorem Hp {a:α}:∀{l:List α},a∈iG l↔a∈l
 |[]=>by simp[iG]
 |[b]=>by simp[iG]
 |b::c::l=>by
  have ih:=Hp (a:=a) (l:=c::l);unfold iG;split
  ·rename_i e;subst e;rw[ih];simp
  ·rw[List.mem_cons,ih,List.mem_cons (a:=a) (b:=b)]
theorem Er:∀l:List α,(iG l).Sublist l
 |[]=>by simp[iG]
 |[b]=>by simp[iG]
 |b::c::l=>by
  have ih:=Er (c::l);unfold iG;split
  ·exact ih.cons b
  ·exact ih.cons_cons b
theorem XV (l:List α): (iG l).length<=l.length:=(Er l).length_le
theorem KW {le:α->α->Prop} (ha:∀x y,le x y->le y x->x=y):∀{l:List α},l.Pairwise le->(iG l).Nodup
 |[],_=>by simp[iG]
 |[b],_=>by simp[iG]
 |b::c::l,h=>by
  have h2:=(List.pairwise_cons.1 h).2;have ih:=KW ha h2;unfold iG;split
  ·exact ih
  ·rename_i hne;refine List.nodup_cons.2 ⟨λhm=>?_,ih⟩;rw[Hp] at hm;have hbc:=(List.pairwise_cons.1 h).1 c aF;rcases List.mem_cons.1 hm with e|hm
   ·exact hne e
   ·exact hne (ha _ _ hbc ((List.pairwise_cons.1 h2).1 b hm))
end
def Qy:ak->List Value:=λc=>[.int .i64 c.a,.int .i64 c.b]
instance:Inhabited ak:=⟨⟨0,0⟩⟩
theorem XW {h:Array Obj} {M:Nat->Prop}:rep h M (⟨0,0⟩:ak) [.int .i64 0,.int .i64 0]:=⟨[_],[_],rfl,rfl,rfl⟩
end Go.K
