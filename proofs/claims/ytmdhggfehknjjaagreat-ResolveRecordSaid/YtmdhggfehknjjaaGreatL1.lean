/- A calculus of steps over the model: a frame is known by a list of slots, code is walked with what is left to do as a list. -/
import Derived.WalkKit
import Derived.OrdersHeld
import Derived.KernelRfl
import Derived.Laws.MakeOwn
import Derived.WideKeyRuns
import Derived.MapKept
import Derived.Laws.StructEq
import Derived.ChangeKeysEq
set_option linter.unusedVariables false
set_option linter.unusedSimpArgs false
set_option linter.unusedSectionVars false
namespace Go.K
def yH (f:FuncId):Frame:={(default:Frame) with fn:=f,kind:=.normal}
def bI (R:Value->World->Prop):Ending->World->Prop:=λe w=>∃v,e=.returned v/\R v w
theorem bI.mono {R R':Value->World->Prop} (h:∀v w,R v w->R' v w) (e:Ending) (w:World) (hr:bI R e w):bI R' e w:=
 let⟨v,he,hv⟩:=hr;⟨v,he,h v w hv⟩
def mj (P:Program) (f:FuncId) (k:List Item) (a:Act) (w:World) (R:Value->World->Prop):Prop:=
 ∀cs,∃v w' fr,R v w'/\Steps P (lone ((yH f).at a k) cs w) (lone fr cs w')/\fr.fn=f/\fr.leaving P w' (.returned v)
theorem SD {P:Program} {f:FuncId} {fn:Func} {c:Code} {args:Array Value} {w:World} {R:Value->World->Prop}
  (hf:P.funcs[f]?=some fn) (hb:fn.body=some c)
  (h:mj P f [.code c] {tmps:=args++Array.replicate (fn.ntmps-args.size) undef,defers:=[]} w R):Calls P f args w (bI R):=by
 intro cs;have SE:Frame.enter P f args .normal=(yH f).at {tmps:=args++Array.replicate (fn.ntmps-args.size) undef,defers:=[]} [.code c]:=by
  simp[Frame.enter,Frame.at,hf,hb,yH]
 obtain⟨v,w',fr,hR,hs,hfn,hl⟩:=h cs;exact⟨.returned v,w',fr,⟨v,rfl,hR⟩,by rw[SE];exact hs,hfn,hl⟩
section
variable {P:Program} {f:FuncId} {k:List Item} {a:Act} {w:World} {R:Value->World->Prop}
theorem mj.step {a':Act} {k':List Item} {w':World}
  (hs:∀cs,step P (lone ((yH f).at a k) cs w)=.next (lone ((yH f).at a' k') cs w')) (h:mj P f k' a' w' R):mj P f k a w R:=λcs=>
 let⟨v,w'',fr,hR,hst,hfn,hl⟩:=h cs
 ⟨v,w'',fr,hR,.head (hs cs) hst,hfn,hl⟩
def pY (P:Program) (f:FuncId) (k:List Item) (R:Value->World->Prop):Exit->Act->World->Prop
 | .normal,a,w=>mj P f k a w R
 |_,_,_=>False
theorem wI {c:Code} (h:c.wp P (pY P f k R) a w):mj P f (.code c::k) a w R:=by
 intro cs;obtain⟨e,a',w',hq,SF⟩:=h (yH f) k cs;cases e with
 |normal=>
  obtain⟨v,w'',fr,hR,hst,hfn,hl⟩:=hq cs;exact⟨v,w'',fr,hR,Steps.trans SF hst,hfn,hl⟩
 |_=>exact hq.elim
theorem wJ {fn:Func} {v:Value} (hf:P.funcs[f]?=some fn) (hd:a.defers=[]) (hr: (results fn a.tmps).run P w=.ok v w) (hR:R v w):
  mj P f (.code .ret::k) a w R:=λcs=>
 ⟨v,w,_,hR,.one step_ret,rfl,rfl,hd,rfl,fn,hf,hr⟩
end
def yJ:List (Nat×Bool)->Bool
 |[]=>false
 |_::_=>true
def KE:List (Nat×Bool)->Bool
 |[]=>true
 |[(_,b)]=>!b
 |_::_::_=>false
def jg (P:Program) (ops:Array Oper) (S:World->Prop) (Q:Exit->Act->World->Prop):List (Nat×Bool)->Act->World->Prop
 |[],a,w=>Q .normal a w
 |(i,true)::L,a,w=>∃o v,ops[i]?=some o/\YieldsIf P ops S o v a/\jg P ops S Q L (a.put o.dst v) w
 |(i,false)::L,a,w=>wpOp P ops Q i (λa' w'=>(yJ L=true->S w')/\jg P ops S Q L a' w') a w
section
variable {P:Program} {ops:Array Oper} {S:World->Prop} {Q:Exit->Act->World->Prop}
theorem FM:∀(L:List (Nat×Bool)) (a:Act) (w:World),jg P ops (λ_=>True) Q L a w->wpOps P ops Q (L.map (·.1)) a w
 |[],a,w,h=>h
 |(i,true)::L,a,w,h=>by
  obtain⟨o,v,hi,hy,h⟩:=h;rw[List.map_cons,wpOps_cons];exact hy.wpOp hi trivial (FM L _ _ h)
 |(i,false)::L,a,w,h=>by
  rw[List.map_cons,wpOps_cons];exact wpOp_mono (λa' w' h'=>FM L a' w' h'.2) h
theorem SG:∀(L:List (Nat×Bool)) (a:Act) (w:World),KE L=true->jg P ops (λ_=>True) Q L a w->jg P ops S Q L a w
 |[],a,w,_,h=>h
 |[(i,true)],a,w,hs,h=>by cases hs
 |[(i,false)],a,w,hs,h=>wpOp_mono (λa' w' h'=>⟨λe=>(by cases e),h'.2⟩) h
 |_::_::_,a,w,hs,h=>by cases hs
def o_ (P:Program) (ops:Array Oper) (Q:Exit->Act->World->Prop) (S:World->Prop) (cZ:Nat):Nat->Array Bool->Act->World->Prop
 |0,listed,a,w=>Region.ready .any ops listed=[]/\Q .normal a w
 |fuel+1,listed,a,w=>
  (Region.ready .any ops listed=[]->Q .normal a w)/\
  ∀i∈Region.ready .any ops listed,wpOp P ops Q i (λa' w'=>((listed.setIfInBounds i true).getD cZ false=false->S w')/\o_ P ops Q S cZ fuel (listed.setIfInBounds i true) a' w') a w
theorem wK {cZ:Nat}:∀(fuel:Nat) (listed:Array Bool) (a:Act) (w:World),o_ P ops Q S cZ fuel listed a w->wpAny P .any ops Q fuel listed a w
 |0,_,_,_,h=>h
 |fuel+1,_,_,_,h=>⟨h.1,λi hi=>wpOp_mono (λa' w' h'=>wK fuel _ a' w' h'.2) (h.2 i hi)⟩
def mP (ops:Array Oper) (listed:Array Bool):Prop:=
 listed.size=ops.size/\∀k ok,ops[k]?=some ok->listed.getD k false=true->∀e∈ok.after,Region.binds .any e=true->listed.getD e.on false=true
theorem mo {j:Nat} {listed:Array Bool} (hc:mP ops listed) (hj:j∈Region.ready .any ops listed):mP ops (listed.setIfInBounds j true):=by
 refine⟨by simp[hc.1],λk ok hk hl e he hb=>?_⟩;by_cases hkj:k=j
 ·subst hkj;obtain⟨_,o,ho,hall⟩:=mem_ready.1 hj;rw[hk] at ho;cases ho;exact getD_set_true (hall e he hb)
 ·rw[getD_set_ne false (Ne.symm hkj)] at hl;exact getD_set_true (hc.2 k ok hk hl e he hb)
def needs (ops:Array Oper):Nat->Nat->Nat->Bool
 |0,j,i=>Nat.beq j i
 |n+1,j,i=>Nat.beq j i||(match ops[j]? with|some o=>o.after.any (λe=>Region.binds .any e&&Nat.beq e.on i)||o.after.any (λe=>Region.binds .any e&&needs ops n e.on i)|none=>false)
theorem KF {i:Nat} {listed:Array Bool} (hc:mP ops listed):∀(n j:Nat),needs ops n j i=true->listed.getD j false=true->listed.getD i false=true
 |0,j,h,hj=>by rw[<-Nat.eq_of_beq_eq_true h];exact hj
 |n+1,j,h,hj=>by
  unfold needs at h;rw[Bool.or_eq_true] at h;rcases h with h|h
  ·rw[<-Nat.eq_of_beq_eq_true h];exact hj
  ·cases ho:ops[j]? with
   |none=>rw[ho] at h;cases h
   |some o=>
    rw[ho] at h;simp only[Bool.or_eq_true] at h;rcases h with h|h
    ·obtain⟨e,he,hb⟩:=Array.any_eq_true'.1 h;rw[Bool.and_eq_true] at hb;rw[<-Nat.eq_of_beq_eq_true hb.2];exact hc.2 j o ho hj e he hb.1
    ·obtain⟨e,he,hb⟩:=Array.any_eq_true'.1 h;rw[Bool.and_eq_true] at hb;exact KF hc n e.on hb.2 (hc.2 j o ho hj e he hb.1)
theorem AW {cZ i:Nat} {oi:Oper} {v:Value} (hi:ops[i]?=some oi) (hsel:∀(j:Nat) (o:Oper) cs b,ops[j]?=some o->o.op≠ .select cs b)
  (hQ:∀c a w,Q (.panic c) (a.put oi.dst v) w->Q (.panic c) a w) (hne:i≠cZ) (SH:∀listed,mP ops listed->listed.getD cZ false=true->listed.getD i false=true):
  ∀(fuel:Nat) (listed:Array Bool) (a:Act) (w:World),mP ops listed->
   (∀j oj,ops[j]?=some oj->j≠i->listed.getD j true=false->(∀e∈oj.after,Region.binds .any e=true->e.on≠i)->oi.apart ops oj=true)->
   i∈Region.ready .any ops listed->YieldsIf P ops S oi v a->S w->
   o_ P ops Q S cZ fuel (listed.setIfInBounds i true) (a.put oi.dst v) w->o_ P ops Q S cZ (fuel+1) listed a w:=by
 intro fuel
 induction fuel with
 |zero=>
  intro listed a w dN _ hr hy hS H;refine⟨λh=>(by rw[h] at hr;cases hr),λj hj=>?_⟩;by_cases hji:j=i
  ·subst hji;exact hy.wpOp hi hS ⟨λ_=>hS,H⟩
  ·have:=ready_mono hj hji;rw[H.1] at this;cases this
 |succ fuel ih=>
  intro listed a w dN hfree hr hy hS H;refine⟨λh=>(by rw[h] at hr;cases hr),λj hj=>?_⟩;by_cases hji:j=i
  ·subst hji;exact hy.wpOp hi hS ⟨λ_=>hS,H⟩
  ·have h1:=H.2 j (ready_mono hj hji);obtain⟨KG,oj,FN,hall⟩:=mem_ready.1 hj;have KH:=(mem_ready.1 hr).1;have hif:∀l:Array Bool,l.getD i true=false->l.getD i false=false:=λl h=>by
    rcases Nat.lt_or_ge i l.size with h'|h'
    ·simp[h'] at h⊢;exact h
    ·simp[Array.getElem?_eq_none h']
   have hnot:∀e∈oj.after,Region.binds .any e=true->e.on≠i:=λe he hb heq=>by
    have h1:=hall e he hb;rw[heq,hif _ KH] at h1;cases h1
   have KI:=mo dN hj;have SI: (listed.setIfInBounds j true).getD i true=false:=by rw[getD_set_ne true hji];exact KH
   have SJ: (listed.setIfInBounds j true).getD cZ false=false:=by
    cases hb: (listed.setIfInBounds j true).getD cZ false with
    |false=>rfl
    |true=>have:=SH _ KI hb;rw[hif _ SI] at this;cases this
   have KJ: ((listed.setIfInBounds i true).setIfInBounds j true).getD cZ false=false:=by
    rw[Array.setIfInBounds_comm _ _ (Ne.symm hji),getD_set_ne false hne];exact SJ
   have h2:=wpOp_putIf FN (hfree j oj FN hji KG hnot) (λcs b=>hsel i oi cs b hi) (λcs b=>hsel j oj cs b FN) hQ hy h1;have SK:∀k ok,ops[k]?=some ok->k≠i->(listed.setIfInBounds j true).getD k true=false->
     (∀e∈ok.after,Region.binds .any e=true->e.on≠i)->oi.apart ops ok=true:=λk ok hk hki hun hno=>by
    refine hfree k ok hk hki ?_ hno;by_cases hjk:j=k
    ·subst hjk;exact KG
    ·rw[getD_set_ne true hjk] at hun;exact hun
   refine wpOp_mono (λa' w' h3=>⟨λ_=>h3.2.1 KJ,ih (listed.setIfInBounds j true) a' w' KI SK (ready_mono hr (Ne.symm hji)) h3.1 (h3.2.1 KJ) ?_⟩) h2;rw[Array.setIfInBounds_comm _ _ hji];exact h3.2.2
def Dy (n:Nat):List (Nat×Bool)->Nat
 |[]=>n
 |[(i,b)]=>if b then n else i
 |_::x::L=>Dy n (x::L)
def rB (ops:Array Oper) (cZ:Nat):Nat->Array Bool->List (Nat×Bool)->Bool
 |_,listed,[]=>(Region.ready .any ops listed).isEmpty
 |0,_,_::_=>false
 |n+1,listed,(i,true)::L=>!Nat.beq i cZ&&(Nat.ble ops.size cZ||needs ops 8 cZ i)&&Region.free .any ops listed i&&(Region.ready .any ops listed).contains i&&rB ops cZ n (listed.setIfInBounds i true) L
 |n+1,listed,(i,false)::L=>(Region.ready .any ops listed==[i])&&((listed.setIfInBounds i true).getD cZ false||yJ L)&&rB ops cZ n (listed.setIfInBounds i true) L
def KK (ops:Array Oper) (n:Nat) (listed:Array Bool) (L:List (Nat×Bool)):Bool:=rB ops (Dy ops.size L) n listed L
theorem Dz {cZ i:Nat} (h: (Nat.ble ops.size cZ||needs ops 8 cZ i)=true):∀listed,mP ops listed->listed.getD cZ false=true->listed.getD i false=true:=λlisted hc hj=>by
 rw[Bool.or_eq_true] at h;rcases h with h|h
 ·have:=Nat.le_of_ble_eq_true h;rw[Array.getD_eq_getD_getElem?,Array.getElem?_eq_none (by rw[hc.1];exact this)] at hj;cases hj
 ·exact KF hc _ _ h hj
theorem wL (hs:Region.noSelect ops=true) (hQ:∀c a d v w,Q (.panic c) (Act.put a d v) w->Q (.panic c) a w) {cZ:Nat}:
  ∀(n:Nat) (listed:Array Bool) (L:List (Nat×Bool)) (a:Act) (w:World),rB ops cZ n listed L=true->mP ops listed->(yJ L=true->S w)->jg P ops S Q L a w->
   o_ P ops Q S cZ n listed a w
 |n,listed,[],a,w,hc,_,_,h=>by
  have hr:Region.ready .any ops listed=[]:=by simpa[rB] using hc
  cases n with
  |zero=>exact⟨hr,h⟩
  |succ n=>exact⟨λ_=>h,by rw[hr];simp⟩
 |0,_,x::L,a,w,hc,_,_,_=>by cases hc
 |n+1,listed,(i,true)::L,a,w,hc,dN,hS,h=>by
  simp only[rB,Bool.and_eq_true] at hc;obtain⟨⟨⟨⟨h1,h2⟩,h3⟩,h4⟩,h5⟩:=hc;obtain⟨o,v,hi,hy,h⟩:=h;have hr:i∈Region.ready .any ops listed:=by simpa using h4
  have KL:=hS rfl;refine AW hi (Region.noSelect_spec hs) (λc a w hq=>hQ c a _ _ w hq) (λe=>by subst e;simp at h1) (Dz h2) n listed a w dN (Region.free_spec hi h3) hr hy KL (wL hs hQ n _ L _ w h5 (mo dN hr) (λ_=>KL) h)
 |n+1,listed,(i,false)::L,a,w,hc,dN,hS,h=>by
  simp only[rB,Bool.and_eq_true,beq_iff_eq] at hc;obtain⟨⟨h1,h2⟩,h3⟩:=hc;have hr:i∈Region.ready .any ops listed:=by rw[h1];simp
  refine⟨λh0=>(by rw[h0] at h1;cases h1),λj hj=>?_⟩;rw[h1,List.mem_singleton] at hj;subst hj;refine wpOp_mono (λa' w' h'=>⟨λhb=>h'.1 ?_,wL hs hQ n _ L a' w' h3 (mo dN hr) h'.1 h'.2⟩) h;rw[hb] at h2;simpa using h2
theorem SL {o:Oper} {v v':Value} {a:Act} {w:World} (h:YieldsIf P ops S o v a) (h':YieldsIf P ops S o v' a) (hS:S w):v=v':=by
 rcases h with⟨h1,h2⟩|⟨h1,rfl⟩<;>rcases h' with⟨h3,h4⟩|⟨h3,rfl⟩
 ·have:=(h2 w hS).symm.trans (h4 w hS);simpa using this
 ·rw[h1] at h3;cases h3
 ·rw[h1] at h3;cases h3
 ·rfl
def AX (ops:Array Oper) (cZ i:Nat) (L:List (Nat×Bool)) (i':Nat) (L':List (Nat×Bool)):Nat->Array Bool->List Nat->Bool
 |0,_,_=>false
 |n+1,listed,[]=>(Region.ready .any ops listed==[i,i'])&&((listed.setIfInBounds i true).getD cZ false||yJ L)&&rB ops cZ n (listed.setIfInBounds i true) L&&((listed.setIfInBounds i' true).getD cZ false||yJ L')&&rB ops cZ n (listed.setIfInBounds i' true) L'
 |n+1,listed,j::A=>!Nat.beq j cZ&&(Nat.ble ops.size cZ||needs ops 8 cZ j)&&Region.free .any ops listed j&&(Region.ready .any ops listed).contains j&&AX ops cZ i L i' L' n (listed.setIfInBounds j true) A
def KM (ops:Array Oper) (i:Nat) (L:List (Nat×Bool)) (i':Nat) (L':List (Nat×Bool)) (n:Nat) (listed:Array Bool) (A:List Nat):Bool:=AX ops (Dy ops.size ((i,false)::L)) i L i' L' n listed A
theorem KN (hs:Region.noSelect ops=true) (hQ:∀c a d v w,Q (.panic c) (Act.put a d v) w->Q (.panic c) a w) {cZ i i':Nat} {L L':List (Nat×Bool)}:
  ∀(n:Nat) (listed:Array Bool) (A:List Nat) (a:Act) (w:World),AX ops cZ i L i' L' n listed A=true->mP ops listed->S w->
   jg P ops S Q (A.map (λj=>(j,true))++(i,false)::L) a w->jg P ops S Q (A.map (λj=>(j,true))++(i',false)::L') a w->o_ P ops Q S cZ n listed a w
 |0,_,_,_,_,hc,_,_,_,_=>by cases hc
 |n+1,listed,[],a,w,hc,dN,hS,h,h'=>by
  simp only[AX,Bool.and_eq_true,beq_iff_eq] at hc;obtain⟨⟨⟨⟨h0,h1⟩,h2⟩,h3⟩,h4⟩:=hc;have hr:i∈Region.ready .any ops listed:=by rw[h0];simp
  have hr':i'∈Region.ready .any ops listed:=by rw[h0];simp
  refine⟨λwM=>(by rw[wM] at h0;cases h0),λj hj=>?_⟩;rw[h0] at hj;simp only[List.mem_cons,List.not_mem_nil,or_false] at hj;rcases hj with rfl|rfl
  ·exact wpOp_mono (λa' w' g=>⟨λhb=>g.1 (by rw[hb] at h1;simpa using h1),wL hs hQ n _ L a' w' h2 (mo dN hr) g.1 g.2⟩) h
  ·exact wpOp_mono (λa' w' g=>⟨λhb=>g.1 (by rw[hb] at h3;simpa using h3),wL hs hQ n _ L' a' w' h4 (mo dN hr') g.1 g.2⟩) h'
 |n+1,listed,j::A,a,w,hc,dN,hS,h,h'=>by
  simp only[AX,Bool.and_eq_true] at hc;obtain⟨⟨⟨⟨h1,h2⟩,h3⟩,h4⟩,h5⟩:=hc;obtain⟨o,v,hi,hy,h⟩:=h;obtain⟨o',v',hi',hy',h'⟩:=h';rw[hi] at hi';cases hi';obtain rfl:=SL hy hy' hS;have hr:j∈Region.ready .any ops listed:=by simpa using h4
  exact AW hi (Region.noSelect_spec hs) (λc a w hq=>hQ c a _ _ w hq) (λe=>by subst e;simp at h1) (Dz h2) n listed a w dN (Region.free_spec hi h3) hr hy hS (KN hs hQ n _ A _ w h5 (mo dN hr) hS h h')
theorem AY (ops:Array Oper):mP ops (Array.replicate ops.size false):=⟨by simp,λk ok _ hl=>by
 rcases Nat.lt_or_ge k ops.size with h|h
 ·simp[h] at hl
 ·simp[Array.getElem?_eq_none,h] at hl⟩
end
abbrev Env:=List (Nat×Value)
def look:Env->Nat->Option Value
 |[],_=>none
 |(t,v)::e,u=>bif Nat.beq t u then some v else look e u
structure gY (N:Nat) (env:Env) (a:Act):Prop where
 size:a.tmps.size=N
 defers:a.defers=[]
 slot:∀t v,look env t=some v->a.tmps[t]?=some v
def pZ (d:Option Nat) (v:Value) (env:Env):Env:=match d with|some t=>(t,v)::env|none=>env
def qw (N:Nat) (d:Option Nat):Bool:=match d with|some t=>Nat.blt t N|none=>true
theorem gY.put {N:Nat} {env:Env} {a:Act} (h:gY N env a) {d:Option Nat} (hd:qw N d=true) (v:Value):gY N (pZ d v env) (a.put d v):=by
 cases d with
 |none=>exact⟨h.size,h.defers,h.slot⟩
 |some t=>
  have ht:t<N:=by
     have h:t+1<=N:=by simpa[qw,Nat.blt] using hd
     omega
  refine⟨by simp[Act.put,h.size],h.defers,λu x hx=>?_⟩;simp only[pZ,look] at hx;simp only[Act.put,Array.getElem?_setIfInBounds];by_cases e:t=u
  ·subst e;simp at hx;simp[h.size,ht,hx]
  ·have e':Nat.beq t u=false:=by
    cases hb:Nat.beq t u with
    |false=>rfl
    |true=>exact absurd (Nat.eq_of_beq_eq_true hb) e
   rw[e'] at hx;simp only[cond_false] at hx;simp[e,h.slot u x hx]
def ev (env:Env):Operand->Option Value
 | .tmp t=>look env t
 | .const v=>some v
 | .func g=>some (.func (.func g) #[] #[])
 | .global g=>some (.pointer (some ⟨g,0,none⟩))
theorem gY.ev {N:Nat} {env:Env} {a:Act} (h:gY N env a) {x:Operand} {v:Value} (hx:ev env x=some v):a.eval x=v:=by
 cases x with
 |tmp t=>
  have:=h.slot t v hx;simp only[Act.eval];rw[Array.getD_eq_getD_getElem?,this];rfl
 |const u=>simpa[K.ev,Act.eval] using hx
 |func g=>simpa[K.ev,Act.eval] using hx
 |global g=>simpa[K.ev,Act.eval] using hx
def nx (env:Env):List Operand->Option (List Value)
 |[]=>some []
 |x::l=>match ev env x,nx env l with|some v,some r=>some (v::r)|_,_=>none
theorem gY.nx {N:Nat} {env:Env} {a:Act} (h:gY N env a):∀{l:List Operand} {vs:List Value},nx env l=some vs->l.map a.eval=vs
 |[],vs,hl=>by simpa[K.nx] using hl
 |x::l,vs,hl=>by
  simp only[K.nx] at hl;cases hx:K.ev env x with
  |none=>rw[hx] at hl;cases hl
  |some v=>
   cases hr:K.nx env l with
   |none=>rw[hx,hr] at hl;cases hl
   |some r=>
    rw[hx,hr] at hl;simp only[Option.some.injEq] at hl;subst hl;simp[h.ev hx,h.nx hr]
def Sub (env' env:Env):Prop:=∀t v,look env' t=some v->look env t=some v
theorem aV (env:Env):Sub [] env:=λt v h=>by cases h
theorem aJ (t:Nat) {u v:Value} {env' env:Env} (hl:look env t=some u) (hv:u=v) (h:Sub env' env):Sub ((t,v)::env') env:=by
 subst hv;intro s x hx;simp only[look] at hx;cases hb:Nat.beq t s with
 |true=>
  rw[hb] at hx;simp only[cond_true,Option.some.injEq] at hx;rw[<-Nat.eq_of_beq_eq_true hb,hl,hx]
 |false=>rw[hb] at hx;exact h s x hx
theorem Sub.refl (env:Env):Sub env env:=λ_ _ h=>h
theorem gY.sub {N:Nat} {env env':Env} {a:Act} (h:gY N env a) (hs:Sub env' env):gY N env' a:=⟨h.size,h.defers,λt v ht=>h.slot t v (hs t v ht)⟩
def Run (P:Program) (f:FuncId) (N:Nat) (k:List Item) (env:Env) (w:World) (R:Value->World->Prop):Prop:=
 ∀a,gY N env a->mj P f k a w R
def bK (P:Program) (N:Nat) (Q:Exit->Act->World->Prop) (ops:Array Oper) (S:World->Prop) (L:List (Nat×Bool)) (env:Env) (w:World):Prop:=
 ∀a,gY N env a->jg P ops S Q L a w
abbrev ak (P:Program) (f:FuncId) (N:Nat) (k:List Item) (R:Value->World->Prop) (ops:Array Oper) (S:World->Prop) (L:List (Nat×Bool)) (env:Env) (w:World):Prop:=
 bK P N (pY P f k R) ops S L env w
section
variable {P:Program} {f:FuncId} {N:Nat} {k:List Item} {env:Env} {w:World} {R:Value->World->Prop}
theorem Run.sub {env':Env} (hs:Sub env' env) (h:Run P f N k env' w R):Run P f N k env w R:=λa ha=>h a (ha.sub hs)
theorem run_seq {c x y:Code} (hc:c=.seq x y) (h:Run P f N (.code x:: .code y::k) env w R):Run P f N (.code c::k) env w R:=λa ha=>by
 subst hc;exact mj.step (λ_=>step_seq) (h a ha)
theorem SM {c x:Code} {id:Nat} (hc:c=.block id x) (h:Run P f N (.code x:: .inBlock id::k) env w R):Run P f N (.code c::k) env w R:=λa ha=>by
 subst hc;exact mj.step (λ_=>step_block) (h a ha)
theorem bO {id:Nat} (h:Run P f N k env w R):Run P f N (.inBlock id::k) env w R:=λa ha=>
 mj.step (λ_=>step_inBlock) (h a ha)
theorem SN {c:Code} (hc:c=.skip) (h:Run P f N k env w R):Run P f N (.code c::k) env w R:=λa ha=>by
 subst hc;exact mj.step (λ_=>step_skip) (h a ha)
theorem SP {c:Code} {id:Nat} {k':List Item} (hc:c=.exit id) (hk:exitTo id k=some k') (h:Run P f N k' env w R):Run P f N (.code c::k) env w R:=λa ha=>by
 subst hc;exact mj.step (λ_=>step_exit hk) (h a ha)
theorem AZ {c x y:Code} {o:Operand} {b:Bool} (hc:c=.cond o x y) (hv:ev env o=some (.bool b))
  (ht:b=true->Run P f N (.code x::k) env w R) (hf:b=false->Run P f N (.code y::k) env w R):Run P f N (.code c::k) env w R:=λa ha=>by
 subst hc;have:=ha.ev hv;cases b with
 |true=>exact mj.step (λ_=>step_cond this) (ht rfl a ha)
 |false=>exact mj.step (λ_=>step_cond this) (hf rfl a ha)
theorem SQ {c x y:Code} {o:Operand} {p:Prop} [Decidable p] (hc:c=.cond o x y) (hv:ev env o=some (.bool (decide p)))
  (ht:p->Run P f N (.code x::k) env w R) (hf:¬p->Run P f N (.code y::k) env w R):Run P f N (.code c::k) env w R:=
 AZ hc hv (λh=>ht (of_decide_eq_true h)) (λh=>hf (of_decide_eq_false h))
theorem SR {c body:Code} {ι:Type} (I:ι->World->Prop) (e:ι->Env) (m:ι->Nat) (cE:ι) (hc:c=.loop body)
  (hs:Sub (e cE) env) (h0:I cE w)
  (hr:∀x w,I x w->(∀y w',I y w'->m y<m x->Run P f N (.inLoop body::k) (e y) w' R)->Run P f N (.code body:: .inLoop body::k) (e x) w R):
  Run P f N (.code c::k) env w R:=by
 subst hc;have main:∀n x w,m x<=n->I x w->Run P f N (.inLoop body::k) (e x) w R:=by
  intro n
  induction n with
  |zero=>
   intro x w hm hI a ha;exact mj.step (λ_=>step_inLoop) (hr x w hI (λy w' hy hlt=>by omega) a ha)
  |succ n ih=>
   intro x w hm hI a ha;exact mj.step (λ_=>step_inLoop) (hr x w hI (λy w' hy hlt=>ih y w' (by omega) hy) a ha)
 intro a ha;exact mj.step (λ_=>step_loop) (hr cE w h0 (λy w' hy hlt=>main (m y) y w' (Nat.le_refl _) hy) a (ha.sub hs))
theorem SS {c:Code} {fn:Func} {t:Nat} {v:Value} (hc:c=.ret) (hf:P.funcs[f]?=some fn) (hres:fn.results=#[.tmp t]) (hv:look env t=some v)
  (hR:R v w):Run P f N (.code c::k) env w R:=λa ha=>by
 subst hc;refine wJ hf ha.defers ?_ hR;have:=ha.slot t v hv;simp only[results,hres];simp[this,Sem.run,pure,Array.getD_eq_getD_getElem?]
theorem yK {c:Code} {fn:Func} (hc:c=.ret) (hf:P.funcs[f]?=some fn) (hres:fn.results=#[])
  (hR:R (.tuple #[]) w):Run P f N (.code c::k) env w R:=λa ha=>by
 subst hc;refine wJ hf ha.defers ?_ hR;simp[results,hres,Sem.run,pure]
theorem pg {c:Code} {fn:Func} {t u:Nat} {v x:Value} (hc:c=.ret) (hf:P.funcs[f]?=some fn) (hres:fn.results=#[.tmp t,.tmp u]) (hv:look env t=some v) (hx:look env u=some x)
  (hR:R (.tuple #[v,x]) w):Run P f N (.code c::k) env w R:=λa ha=>by
 subst hc;refine wJ hf ha.defers ?_ hR;rw[results_tmp2 hres];have h1:=ha.slot t v hv;have h2:=ha.slot u x hx;simp[h1,h2,Array.getD_eq_getD_getElem?]
theorem SU {c:Code} {id:Nat} {ops:Array Oper} (L:List (Nat×Bool)) (hc:c=.region id ops false)
  (hL:L.map (·.1)=List.range ops.size) (h:ak P f N k R ops (λ_=>True) L env w):Run P f N (.code c::k) env w R:=λa ha=>by
 subst hc;exact wI (wp_region (by rw[<-hL];exact FM L a w (h a ha)))
theorem SV {c:Code} {id:Nat} {ops:Array Oper} (S:World->Prop) (L:List (Nat×Bool)) (hm:P.follows .mixedOrders=true) (hc:c=.region id ops true)
  (hn:Region.noSelect ops=true) (hk:KK ops ops.size (Array.replicate ops.size false) L=true) (hS:S {w with drawn:=w.drawn+1})
  (h:ak P f N k R ops S L env {w with drawn:=w.drawn+1}):Run P f N (.code c::k) env w R:=λa ha=>by
 subst hc;exact wI (wp_region_any hm (wK _ _ _ _ (wL hn (λc a d v w h=>h.elim) _ _ L a _ hk (AY ops) (λ_=>hS) (h a ha))))
theorem SX {c:Code} {id:Nat} {ops:Array Oper} (S:World->Prop) (A:List Nat) (i:Nat) (L:List (Nat×Bool)) (i':Nat) (L':List (Nat×Bool)) (hm:P.follows .mixedOrders=true) (hc:c=.region id ops true)
  (hn:Region.noSelect ops=true) (hk:KM ops i L i' L' ops.size (Array.replicate ops.size false) A=true) (hS:S {w with drawn:=w.drawn+1})
  (h:ak P f N k R ops S (A.map (λj=>(j,true))++(i,false)::L) env {w with drawn:=w.drawn+1}) (h':ak P f N k R ops S (A.map (λj=>(j,true))++(i',false)::L') env {w with drawn:=w.drawn+1}):Run P f N (.code c::k) env w R:=λa ha=>by
 subst hc;exact wI (wp_region_any hm (wK _ _ _ _ (KN hn (λc a d v w h=>h.elim) _ _ A a _ hk (AY ops) hS (h a ha) (h' a ha))))
def cq (ops:Array Oper) (i:Nat):Option (Option Tmp×Op×Option (Nat×Bool)):=(ops[i]?).map λo=>(o.dst,o.op,o.guard)
def KP (ops:Array Oper) (i:Nat):Option Tmp:=(ops[i]?).bind (·.dst)
def cH (P:Program) (N:Nat) (env:Env) (op:Op) (w:World) (v:Value):Prop:=
 ∀a,gY N env a->∀o:Oper,o.op=op->(execOp a.eval o).run P w=.ok (.value v) w
variable {Q:Exit->Act->World->Prop} {ops:Array Oper} {S:World->Prop} {i:Nat} {L:List (Nat×Bool)} {d:Option Nat} {op:Op} {v:Value}
theorem ak.free (hs:KE L=true) (h:bK P N Q ops (λ_=>True) L env w):bK P N Q ops S L env w:=λa ha=>SG L a w hs (h a ha)
theorem ak.nil (h:Run P f N k env w R):ak P f N k R ops S [] env w:=λa ha=>h a ha
theorem rC {g:Option (Nat×Bool)} (h:cq ops i=some (d,op,g)):∃o,ops[i]?=some o/\o.dst=d/\o.op=op/\o.guard=g:=by
 unfold cq at h;cases ho:ops[i]? with
 |none=>rw[ho] at h;cases h
 |some o=>
  rw[ho] at h;simp only[Option.map_some,Option.some.injEq,Prod.mk.injEq] at h;exact⟨o,rfl,h⟩
def fR (ops:Array Oper) (env:Env):Option (Nat×Bool)->Option Bool
 |none=>some true
 |some (j,want)=>match KP ops j with
  |none=>some false
  |some t=>match look env t with
   |none=>none
   |some (.bool b)=>some (b==want)
   |some _=>some false
theorem gY.wanted {a:Act} (ha:gY N env a) {o:Oper} {b:Bool} (h:fR ops env o.guard=some b):Region.wanted o (yielded ops a.tmps)=b:=by
 unfold Region.wanted;cases hg:o.guard with
 |none=>rw[hg] at h;simpa[fR] using h
 |some p=>
  obtain⟨j,want⟩:=p;rw[hg] at h;simp only[fR,KP] at h;simp only[yielded];cases hj: (ops[j]?).bind (·.dst) with
  |none=>rw[hj] at h;simp only[Option.some.injEq] at h;subst h;rfl
  |some t=>
   rw[hj] at h;simp only at h;cases hl:look env t with
   |none=>rw[hl] at h;cases h
   |some u=>
    rw[hl] at h;have:=ha.slot t u hl;simp only[Option.bind_some,this];cases u<;>simp only[Option.some.injEq] at h<;>subst h<;>first|rfl|(rename_i x;cases x<;>cases want<;>rfl)
theorem ak.yield {g:Option (Nat×Bool)} (hop:cq ops i=some (d,op,g)) (hw:fR ops env g=some true) (hd:qw N d=true)
  (hy:∀w',S w'->cH P N env op w' v) (h:bK P N Q ops S L (pZ d v env) w):bK P N Q ops S ((i,true)::L) env w:=λa ha=>by
 obtain⟨o,ho,rfl,rfl,rfl⟩:=rC hop;exact⟨o,v,ho,.inl ⟨ha.wanted hw,λw' hS=>hy w' hS a ha o rfl⟩,h _ (ha.put hd v)⟩
theorem ak.pass {g:Option (Nat×Bool)} (hop:cq ops i=some (d,op,g)) (hw:fR ops env g=some false) (hd:qw N d=true)
  (h:bK P N Q ops S L (pZ d undef env) w):bK P N Q ops S ((i,true)::L) env w:=λa ha=>by
 obtain⟨o,ho,rfl,rfl,rfl⟩:=rC hop;exact⟨o,undef,ho,.inr ⟨ha.wanted hw,rfl⟩,h _ (ha.put hd undef)⟩
theorem ak.SY {g:Option (Nat×Bool)} (hop:cq ops i=some (d,op,g)) (hw:fR ops env g=some false) (hd:qw N d=true) (hS:S w)
  (h:bK P N Q ops S L (pZ d undef env) w):bK P N Q ops S ((i,false)::L) env w:=λa ha=>by
 obtain⟨o,ho,rfl,rfl,rfl⟩:=rC hop;simp only[jg,wpOp,ho,ha.wanted hw,Bool.false_eq_true,if_false];exact⟨λ_=>hS,h _ (ha.put hd undef)⟩
def gM (P:Program) (N:Nat) (env:Env) (op:Op) (w:World) (T:Value->World->Prop):Prop:=
 ∀a,gY N env a->∀o:Oper,o.op=op->∃v w',((execOp a.eval o).run P w=.ok (.value v) w'\/((execOp a.eval o).run P w=.ok .skip w'/\v=undef))/\T v w'
theorem ak.act {g:Option (Nat×Bool)} {T:Value->World->Prop} (hop:cq ops i=some (d,op,g)) (hw:fR ops env g=some true) (hd:qw N d=true)
  (hy:gM P N env op w T) (h:∀v w',T v w'->S w'/\bK P N Q ops S L (pZ d v env) w'):bK P N Q ops S ((i,false)::L) env w:=λa ha=>by
 obtain⟨o,ho,rfl,rfl,rfl⟩:=rC hop;simp only[jg,wpOp,ho,ha.wanted hw,if_true];obtain⟨v,w',hrun,hT⟩:=hy a ha o rfl;left;unfold Oper.wp;obtain⟨h1,h2⟩:=h v w' hT;rcases hrun with hrun|⟨hrun,rfl⟩
 ·rw[hrun];exact⟨λ_=>h1,h2 _ (ha.put hd v)⟩
 ·rw[hrun];exact⟨λ_=>h1,h2 _ (ha.put hd undef)⟩
theorem cH.acts (h:cH P N env op w v):gM P N env op w (λx w'=>x=v/\w'=w):=λa ha o ho=>⟨v,w,.inl (h a ha o ho),rfl,rfl⟩
theorem ak.now {g:Option (Nat×Bool)} (hop:cq ops i=some (d,op,g)) (hw:fR ops env g=some true) (hd:qw N d=true) (hS:S w)
  (hy:cH P N env op w v) (h:bK P N Q ops S L (pZ d v env) w):bK P N Q ops S ((i,false)::L) env w:=
 ak.act hop hw hd hy.acts (by rintro _ _ ⟨rfl,rfl⟩;exact⟨hS,h⟩)
def Enters (P:Program) (N:Nat) (env:Env) (op:Op) (w:World) (g:FuncId) (args:Array Value):Prop:=
 ∀a,gY N env a->∀o:Oper,o.op=op->(execOp a.eval o).run P w=.ok (.enter g args) w
theorem ak.call {jm:Option (Nat×Bool)} {g:FuncId} {args:Array Value} {T:Value->World->Prop} (hop:cq ops i=some (d,op,jm)) (hw:fR ops env jm=some true) (hd:qw N d=true)
  (hy:Enters P N env op w g args) (hc:Calls P g args w (bI T))
  (h:∀v w',T v w'->S w'/\bK P N Q ops S L (pZ d v env) w'):bK P N Q ops S ((i,false)::L) env w:=λa ha=>by
 obtain⟨o,ho,rfl,rfl,rfl⟩:=rC hop;simp only[jg,wpOp,ho,ha.wanted hw,if_true];left;unfold Oper.wp;rw[hy a ha o rfl];simp only[Oper.upon];refine hc.mono λe w' he=>?_;obtain⟨v,rfl,hT⟩:=he;obtain⟨h1,h2⟩:=h v w' hT;exact⟨λ_=>h1,h2 _ (ha.put hd v)⟩
end
theorem SZ {P:Program} {f:FuncId} {fn:Func} {c:Code} {args:List Value} {N:Nat} {env:Env} {w:World} {R:Value->World->Prop}
  (hf:P.funcs[f]?=some fn) (hb:fn.body=some c) (hN:fn.ntmps=N) (hsz:Nat.ble args.length N=true) (he:∀t v,look env t=some v->args[t]?=some v)
  (h:Run P f N [.code c] env w R):Calls P f args.toArray w (bI R):=by
 refine SD hf hb (h _ ?_);have:args.length<=N:=Nat.le_of_ble_eq_true hsz;refine⟨by simp[hN];omega,rfl,λt v ht=>?_⟩;have h1:=he t v ht;have h2:t<args.length:=by
  rcases Nat.lt_or_ge t args.length with h|h
  ·exact h
  ·rw[List.getElem?_eq_none h] at h1;cases h1
 simp only;rw[Array.getElem?_append_left (by simpa using h2)];simpa using h1
def yO:Nat->List Value->Env
 |_,[]=>[]
 |n,v::l=>(n,v)::yO (n+1) l
theorem FO:∀(l:List Value) (n t:Nat) (v:Value),look (yO n l) t=some v->n<=t/\l[t-n]?=some v
 |[],_,_,_,h=>by cases h
 |x::l,n,t,v,h=>by
  simp only[yO,look] at h;cases hb:Nat.beq n t with
  |true=>
   rw[hb] at h;have e:=Nat.eq_of_beq_eq_true hb;subst e;simp at h;simp[h]
  |false=>
   rw[hb] at h;have hne:n≠t:=λe=>by subst e;simp at hb
   obtain⟨h1,h2⟩:=FO l (n+1) t v h;refine⟨by omega,?_⟩;have:t-n=(t-(n+1))+1:=by omega
   rw[this];simpa using h2
theorem S4 {P:Program} {f:FuncId} {fn:Func} {c:Code} (args:List Value) {N:Nat} {w:World} {R:Value->World->Prop}
  (hf:P.funcs[f]?=some fn) (hb:fn.body=some c) (hN:fn.ntmps=N) (hsz:Nat.ble args.length N=true)
  (h:Run P f N [.code c] (yO 0 args) w R):Calls P f args.toArray w (bI R):=
 SZ hf hb hN hsz (λt v ht=>by simpa using(FO args 0 t v ht).2) h
section
variable {P:Program} {N:Nat} {env:Env} {w:World} {x y z:Operand} {t u:TypeId} {k:IntKind} {m n:Int} {v:Value}
theorem mk' {op:Op} (h:∀ρ:Operand->Value,(∀x v,ev env x=some v->ρ x=v)->∀o:Oper,o.op=op->(execOp ρ o).run P w=.ok (.value v) w):cH P N env op w v:=
 λa ha o ho=>h a.eval (λx v hx=>ha.ev hx) o ho
theorem rD (hx:ev env x=some v):cH P N env (.move x) w v:=mk' λρ hρ o ho=>by
 unfold execOp;rw[ho];simp[hρ _ _ hx,go_sem]
theorem pn (hx:ev env x=some v):cH P N env (.assign x) w v:=mk' λρ hρ o ho=>by
 unfold execOp;rw[ho];simp[hρ _ _ hx,go_sem]
theorem wN {v₁:Value} (hx:ev env x=some (.bool true)) (hy:ev env y=some v₁):
  cH P N env (.pick x y z) w v₁:=mk' λρ hρ o ho=>by
 unfold execOp;rw[ho];simp[hρ _ _ hx,hρ _ _ hy,go_sem,asBool]
theorem uO {v₂:Value} (hx:ev env x=some (.bool false)) (hz:ev env z=some v₂):
  cH P N env (.pick x y z) w v₂:=mk' λρ hρ o ho=>by
 unfold execOp;rw[ho];simp[hρ _ _ hx,hρ _ _ hz,go_sem,asBool]
theorem FP {a:Addr} (hx:ev env x=some (.pointer (some a))):cH P N env (.nilCheck x) w (.pointer (some a)):=mk' λρ hρ o ho=>by
 unfold execOp;rw[ho];simp[hρ _ _ hx,go_sem]
theorem S5 {vs:Array Value} {i:Nat} (hx:ev env x=some (.tuple vs)) (hv:vs[i]?=some v):cH P N env (.extract x i) w v:=mk' λρ hρ o ho=>by
 unfold execOp;rw[ho];simp[hρ _ _ hx,go_sem,Instr.extract,hv]
theorem oc (op:BinOp) (t:TypeId) (x y:Operand) (k j:IntKind) (m n:Int) (w:World):
  (eqGuard op t x y (.int k m) (.int j n)).run P w=.ok () w:=by
 unfold eqGuard;simp[go_sem]
theorem val_add (hx:ev env x=some (.int k m)) (hy:ev env y=some (.int k n)):cH P N env (.binOp .add t x y u) w (.int k (k.wrap (m+n))):=mk' λρ hρ o ho=>by
 unfold execOp;rw[ho];simp[hρ _ _ hx,hρ _ _ hy,go_sem,oc,binOp,Op.intArith]
theorem val_sub (hx:ev env x=some (.int k m)) (hy:ev env y=some (.int k n)):cH P N env (.binOp .sub t x y u) w (.int k (k.wrap (m-n))):=mk' λρ hρ o ho=>by
 unfold execOp;rw[ho];simp[hρ _ _ hx,hρ _ _ hy,go_sem,oc,binOp,Op.intArith]
theorem val_mul (hx:ev env x=some (.int k m)) (hy:ev env y=some (.int k n)):cH P N env (.binOp .mul t x y u) w (.int k (k.wrap (m*n))):=mk' λρ hρ o ho=>by
 unfold execOp;rw[ho];simp[hρ _ _ hx,hρ _ _ hy,go_sem,oc,binOp,Op.intArith]
theorem S6 (hx:ev env x=some (.int k m)) (hy:ev env y=some (.int k n)) (hn:n≠0):cH P N env (.binOp .quo t x y u) w (.int k (k.wrap (m.tdiv n))):=mk' λρ hρ o ho=>by
 unfold execOp;rw[ho];simp[hρ _ _ hx,hρ _ _ hy,go_sem,oc,binOp,Op.intDiv,hn]
theorem S7 (hx:ev env x=some (.int k m)) (hy:ev env y=some (.int k n)) (hn:n≠0):cH P N env (.binOp .rem t x y u) w (.int k (m.tmod n)):=mk' λρ hρ o ho=>by
 unfold execOp;rw[ho];simp[hρ _ _ hx,hρ _ _ hy,go_sem,oc,binOp,Op.intDiv,hn]
theorem fS (hx:ev env x=some (.int k m)) (hy:ev env y=some (.int k n)):cH P N env (.binOp .lss t x y u) w (.bool (decide (m<n))):=mk' λρ hρ o ho=>by
 unfold execOp;rw[ho];simp[hρ _ _ hx,hρ _ _ hy,go_sem,oc,binOp,Op.intCmp]
theorem od (hx:ev env x=some (.int k m)) (hy:ev env y=some (.int k n)):cH P N env (.binOp .leq t x y u) w (.bool (decide (m<=n))):=mk' λρ hρ o ho=>by
 unfold execOp;rw[ho];simp[hρ _ _ hx,hρ _ _ hy,go_sem,oc,binOp,Op.intCmp]
theorem gl (hx:ev env x=some (.int k m)) (hy:ev env y=some (.int k n)):cH P N env (.binOp .gtr t x y u) w (.bool (decide (n<m))):=mk' λρ hρ o ho=>by
 unfold execOp;rw[ho];simp[hρ _ _ hx,hρ _ _ hy,go_sem,oc,binOp,Op.intCmp]
theorem gR (hx:ev env x=some (.int k m)) (hy:ev env y=some (.int k n)):cH P N env (.binOp .geq t x y u) w (.bool (decide (n<=m))):=mk' λρ hρ o ho=>by
 unfold execOp;rw[ho];simp[hρ _ _ hx,hρ _ _ hy,go_sem,oc,binOp,Op.intCmp]
theorem fu (hx:ev env x=some (.int k m)) (hy:ev env y=some (.int k n)):cH P N env (.binOp .eql t x y u) w (.bool (decide (m=n))):=mk' λρ hρ o ho=>by
 unfold execOp;rw[ho];simp[hρ _ _ hx,hρ _ _ hy,go_sem,oc,binOp,Op.intCmp];rfl
theorem fM (hx:ev env x=some (.int k m)) (hy:ev env y=some (.int k n)):cH P N env (.binOp .neq t x y u) w (.bool (decide (m≠n))):=mk' λρ hρ o ho=>by
 unfold execOp;rw[ho];simp[hρ _ _ hx,hρ _ _ hy,go_sem,oc,binOp,Op.intCmp];by_cases h:m=n<;>simp[h]
def bitsOf (op:BinOp) (k:IntKind) (m n:Int):Int:=
 k.wrap ((match op with
  | .and=>BitVec.ofInt k.bits m&&&BitVec.ofInt k.bits n
  | .or=>BitVec.ofInt k.bits m|||BitVec.ofInt k.bits n
  | .xor=>BitVec.ofInt k.bits m^^^BitVec.ofInt k.bits n
  |_=>BitVec.ofInt k.bits m&&&~~~(BitVec.ofInt k.bits n):BitVec k.bits).toNat)
theorem wO (hx:ev env x=some (.int k m)) (hy:ev env y=some (.int k n)):cH P N env (.binOp .and t x y u) w (.int k (bitsOf .and k m n)):=mk' λρ hρ o ho=>by
 unfold execOp;rw[ho];simp[hρ _ _ hx,hρ _ _ hy,Sem.run_bind,Sem.run_pure,oc,binOp,Op.intBits,bitsOf]
theorem DA (hx:ev env x=some (.int k m)) (hy:ev env y=some (.int k n)):cH P N env (.binOp .xor t x y u) w (.int k (bitsOf .xor k m n)):=mk' λρ hρ o ho=>by
 unfold execOp;rw[ho];simp[hρ _ _ hx,hρ _ _ hy,Sem.run_bind,Sem.run_pure,oc,binOp,Op.intBits,bitsOf]
theorem pe {j:IntKind} (hx:ev env x=some (.int k m)) (hy:ev env y=some (.int j n)) (hn:0<=n):
  cH P N env (.binOp .shl t x y u) w (.int k (k.wrap (m*2^min n.toNat k.bits))):=mk' λρ hρ o ho=>by
 have:¬n<0:=by omega
 unfold execOp;rw[ho];simp[hρ _ _ hx,hρ _ _ hy,Sem.run_bind,Sem.run_pure,oc,binOp,Op.shift,this]
theorem oe {j:IntKind} (hx:ev env x=some (.int k m)) (hy:ev env y=some (.int j n)) (hn:0<=n):
  cH P N env (.binOp .shr t x y u) w (.int k (m.fdiv (2^min n.toNat k.bits))):=mk' λρ hρ o ho=>by
 have:¬n<0:=by omega
 unfold execOp;rw[ho];simp[hρ _ _ hx,hρ _ _ hy,Sem.run_bind,Sem.run_pure,oc,binOp,Op.shift,this]
theorem eP {b:Bool} (hx:ev env x=some (.bool b)):cH P N env (.unOp .not t x) w (.bool (!b)):=mk' λρ hρ o ho=>by
 unfold execOp;rw[ho];simp[hρ _ _ hx,go_sem,Op.unary]
theorem FQ {p:Prop} [Decidable p] (hx:ev env x=some (.bool (decide p))):cH P N env (.unOp .not t x) w (.bool (decide (¬p))):=mk' λρ hρ o ho=>by
 unfold execOp;rw[ho];simp[hρ _ _ hx,go_sem,Op.unary]
theorem sA {j:IntKind} (hx:ev env x=some (.int j m)) (ht:∃d,P.underlying t=some d) (hu:P.underlying u=some (.int k)):cH P N env (.convert t u x) w (.int k (k.wrap m)):=mk' λρ hρ o ho=>by
 obtain⟨d,hd⟩:=ht;unfold execOp;rw[ho];simp[hρ _ _ hx,go_sem,convert,run_underlying hd,run_underlying hu,Conv.intToInt]
theorem wP {b:Option Addr} {c l:Nat} {e:TypeId} (hx:ev env x=some (.slice b l c)) (ht:P.underlying t=some (.slice e)):
  cH P N env (.call {callee:=.builtin .len,args:=#[x],argTypes:=#[t]}) w (.int .i64 l):=mk' λρ hρ o ho=>by
 unfold execOp;rw[ho];simp[hρ _ _ hx,go_sem,resolve,invoke,builtin,Builtin.len_,run_underlying ht,goInt]
theorem ny {g:FuncId} {xs:Array Operand} {ts:Array TypeId} {vs:List Value} {cap:Array Value} {w:World}
  (lM:∀args w,(callFunc g args).run P w=.ok (.enter g args) w) (hx:ev env x=some (.func (.func g) #[] cap)) (hargs:nx env xs.toList=some vs):
  Enters P N env (.call {callee:=.value x,args:=xs,argTypes:=ts}) w g (vs++cap.toList).toArray:=λa ha o ho=>by
 have h1:xs.map a.eval=vs.toArray:=by
  rw[<-ha.nx hargs,<-List.map_toArray]
 unfold execOp;rw[ho];simp only[resolve,Deferred.ofValue,ha.ev hx,h1,Sem.run_bind,Sem.run_pure,Result.andThen_ok,invoke];rw[lM];simp
end
theorem wrap_i64 {n:Int} (h1:-9223372036854775808<=n) (h2:n<=9223372036854775807):IntKind.i64.wrap n=n:=IntWalk.i64_in n ⟨h1,h2⟩
theorem wrap_u64 {n:Int} (h1:0<=n) (h2:n<=18446744073709551615):IntKind.u64.wrap n=n:=by
 have h:IntKind.u64.wrap n=n%18446744073709551616:=by simp[IntKind.wrap,IntKind.signed,IntKind.bits]
 rw[h];exact Int.emod_eq_of_lt h1 (by omega)
theorem eq_int {k:IntKind} {a b:Int} (h:a=b):Value.int k a=Value.int k b:=by rw[h]
section
variable {P:Program} {N:Nat} {env:Env} {w:World} {x y:Operand} {t u:TypeId} {m n:Int}
theorem gZ (hx:ev env x=some (.int .i64 m)) (hy:ev env y=some (.int .i64 n)) (h1:-9223372036854775808<=m+n) (h2:m+n<=9223372036854775807):
  cH P N env (.binOp .add t x y u) w (.int .i64 (m+n)):=by
 have:=val_add (P:=P) (N:=N) (w:=w) (t:=t) (u:=u) hx hy;rwa [wrap_i64 h1 h2] at this
theorem eM (hx:ev env x=some (.int .i64 m)) (hy:ev env y=some (.int .i64 n)) (h1:-9223372036854775808<=m-n) (h2:m-n<=9223372036854775807):
  cH P N env (.binOp .sub t x y u) w (.int .i64 (m-n)):=by
 have:=val_sub (P:=P) (N:=N) (w:=w) (t:=t) (u:=u) hx hy;rwa [wrap_i64 h1 h2] at this
theorem wQ (hx:ev env x=some (.int .i64 m)) (hy:ev env y=some (.int .i64 n)) (h1:-9223372036854775808<=m*n) (h2:m*n<=9223372036854775807):
  cH P N env (.binOp .mul t x y u) w (.int .i64 (m*n)):=by
 have:=val_mul (P:=P) (N:=N) (w:=w) (t:=t) (u:=u) hx hy;rwa [wrap_i64 h1 h2] at this
theorem FR (hx:ev env x=some (.int .i64 m)) (hy:ev env y=some (.int .i64 n)) (h0:0<=m) (h1:1<=n) (h2:m<=9223372036854775807):
  cH P N env (.binOp .quo t x y u) w (.int .i64 (m/n)):=by
 have:=S6 (P:=P) (N:=N) (w:=w) (t:=t) (u:=u) hx hy (by omega);have h3:m/n<=m:=Int.ediv_le_self _ h0;have h4:0<=m/n:=Int.ediv_nonneg h0 (by omega);rwa [Int.tdiv_eq_ediv_of_nonneg h0,wrap_i64 (by omega) (by omega)] at this
theorem FT (hx:ev env x=some (.int .i64 m)) (hy:ev env y=some (.int .i64 n)) (h0:0<=m) (h1:1<=n):
  cH P N env (.binOp .rem t x y u) w (.int .i64 (m%n)):=by
 have:=S7 (P:=P) (N:=N) (w:=w) (t:=t) (u:=u) hx hy (by omega);rwa [Int.tmod_eq_emod_of_nonneg h0] at this
end
section
variable {P:Program} {N:Nat} {env:Env} {w:World} {x y:Operand} {t u:TypeId} {m n r:Int} {k j:IntKind}
theorem S8 (hx:ev env x=some (.int k m)) (hy:ev env y=some (.int j n)) (hn:0<=n) (h:m.fdiv (2^min n.toNat k.bits)=r):cH P N env (.binOp .shr t x y u) w (.int k r):=by
 subst h;exact oe hx hy hn
theorem uP (hx:ev env x=some (.int j m)) (ht:∃d,P.underlying t=some d) (hu:P.underlying u=some (.int k)) (h:k.wrap m=r):cH P N env (.convert t u x) w (.int k r):=by
 subst h;exact sA hx ht hu
end
def lP (w w':World):Prop:=w.drawn<=w'.drawn
theorem lP.refl {w w':World} (h:w'.drawn=w.drawn):lP w w':=Nat.le_of_eq h.symm
theorem lP.succ {w w':World} (h:w'.drawn=w.drawn+1):lP w w':=by unfold lP;omega
theorem lP.trans {w w' w'':World} (h:lP w w') (h':lP w' w''):lP w w'':=Nat.le_trans h h'
structure Ext (A:Nat->Prop) (w w':World):Prop where
 os:w'.os=w.os
 tape:w'.tape=w.tape
 output:w'.output=w.output
 size:w.heap.size<=w'.heap.size
 block:∀b,b<w.heap.size->¬A b->w'.heap[b]?=w.heap[b]?
 drawn:lP w w'
def No:Nat->Prop:=λ_=>False
def One (b:Nat):Nat->Prop:=λx=>x=b
def c4 (v:Value):Nat->Prop:=λx=>v.ownBlock=some x
section
variable {A A' M M':Nat->Prop} {w w' w'':World}
theorem Ext.refl (A:Nat->Prop) (w:World):Ext A w w:=⟨rfl,rfl,rfl,Nat.le_refl _,λ_ _ _=>rfl,lP.refl rfl⟩
theorem Ext.trans (h:Ext A w w') (h':Ext A' w' w'') (hA:∀b,b<w.heap.size->A' b->A b):Ext A w w'':=
 ⟨h'.os.trans h.os,h'.tape.trans h.tape,h'.output.trans h.output,Nat.le_trans h.size h'.size,λb hb hn=>
  (h'.block b (Nat.lt_of_lt_of_le hb h.size) (λha=>hn (hA b hb ha))).trans (h.block b hb hn),lP.trans h.drawn h'.drawn⟩
theorem Ext.mono (h:Ext A w w') (hA:∀b,b<w.heap.size->A b->A' b):Ext A' w w':=
 ⟨h.os,h.tape,h.output,h.size,λb hb hn=>h.block b hb (λha=>hn (hA b hb ha)),h.drawn⟩
theorem Ext.drew (A:Nat->Prop) (w:World):Ext A w {w with drawn:=w.drawn+1}:=⟨rfl,rfl,rfl,Nat.le_refl _,λ_ _ _=>rfl,lP.succ rfl⟩
theorem Ext.below (h:Ext A w w') {B:Nat} (hB:B<=w.heap.size) (hA:∀b,A b->B<=b):Go.RowKit.Below B w w':=
 ⟨h.os,h.tape,h.output,h.size,λk hk=>h.block k (Nat.lt_of_lt_of_le hk hB) (λha=>by have:=hA k ha;omega)⟩
theorem Ext.sB (h:Ext A w w') {b:Nat} {o:Obj} (hb:w.heap[b]?=some o) (hn:¬A b):w'.heap[b]?=some o:=
 (h.block b (Array.getElem?_eq_some_iff.1 hb).1 hn).trans hb
theorem qx {b:Nat} {o:Obj} (hb:w.heap[b]?=some o):b<w.heap.size:=(Array.getElem?_eq_some_iff.1 hb).1
end
class aY (α:Type) where
 sz:Nat
 agg:Bool
 flat:agg=false->sz=1
 rep:Array Obj->(Nat->Prop)->α->List Value->Prop
 len:∀{h M x vs},rep h M x vs->vs.length=sz
 one:∀{h M x vs},rep h M x vs->∀v∈vs,v.oneCell'=true
 keep:∀{h h' M x vs},rep h M x vs->(∀b,b<h.size->¬M b->h'[b]?=h[b]?)->rep h' M x vs
 sub:∀{h M M' x vs},rep h M x vs->(∀b,b<h.size->M' b->M b)->rep h M' x vs
open aY
instance:aY Int where
 sz:=1
 agg:=false
 flat _:=rfl
 rep _ _ x vs:=vs=[.int .i64 x]
 len h:=by subst h;rfl
 one h:=by subst h;intro v hv;simp at hv;subst hv;rfl
 keep h _:=h
 sub h _:=h
instance:aY Nat where
 sz:=1
 agg:=false
 flat _:=rfl
 rep _ _ x vs:=vs=[.int .i64 (x:Int)]
 len h:=by subst h;rfl
 one h:=by subst h;intro v hv;simp at hv;subst hv;rfl
 keep h _:=h
 sub h _:=h
structure uQ (k:IntKind) where
 n:Int
abbrev iM:=uQ .u64
instance {k:IntKind}:aY (uQ k) where
 sz:=1
 agg:=false
 flat _:=rfl
 rep _ _ x vs:=vs=[.int k x.n]
 len h:=by subst h;rfl
 one h:=by subst h;intro v hv;simp at hv;subst hv;rfl
 keep h _:=h
 sub h _:=h
instance:aY Bool where
 sz:=1
 agg:=false
 flat _:=rfl
 rep _ _ x vs:=vs=[.bool x]
 len h:=by subst h;rfl
 one h:=by subst h;intro v hv;simp at hv;subst hv;rfl
 keep h _:=h
 sub h _:=h
instance:aY ByteArray where
 sz:=1
 agg:=false
 flat _:=rfl
 rep _ _ x vs:=vs=[.string x]/\x.size<=9223372036854775807
 len h:=by obtain⟨rfl,_⟩:=h;rfl
 one h:=by obtain⟨rfl,_⟩:=h;intro v hv;simp at hv;subst hv;rfl
 keep h _:=h
 sub h _:=h
instance {α β:Type} [aY α] [aY β]:aY (α×β) where
 sz:=sz α+sz β
 agg:=true
 flat h:=by cases h
 rep h M x vs:=∃us ws,vs=us++ws/\rep h M x.1 us/\rep h M x.2 ws
 len h:=by obtain⟨us,ws,rfl,h1,h2⟩:=h;rw[List.length_append,len h1,len h2]
 one h:=by
  obtain⟨us,ws,rfl,h1,h2⟩:=h;intro v hv;rcases List.mem_append.1 hv with hv|hv
  ·exact one h1 v hv
  ·exact one h2 v hv
 keep h hk:=by obtain⟨us,ws,e,h1,h2⟩:=h;exact⟨us,ws,e,keep h1 hk,keep h2 hk⟩
 sub h hk:=by obtain⟨us,ws,e,h1,h2⟩:=h;exact⟨us,ws,e,sub h1 hk,sub h2 hk⟩
@[reducible] def aY.via {α β:Type} [aY β] (f:α->β):aY α where
 sz:=sz β
 agg:=true
 flat h:=by cases h
 rep h M x vs:=rep h M (f x) vs
 len h:=len h
 one h:=one h
 keep h hk:=keep h hk
 sub h hk:=sub h hk
def cL (cs:Array Value) (o n:Nat):List Value:=(cs.toList.drop o).take n
def At {α:Type} [aY α] (h:Array Obj) (M:Nat->Prop) (b o:Nat) (x:α):Prop:=
 ¬M b/\∃cs ty eF,h[b]?=some (.cells cs ty eF)/\rep h M x (cL cs o (sz α))
def sC {α:Type} [aY α] (h:Array Obj) (M:Nat->Prop) (b o:Nat) (xs:List α):Prop:=
 ¬M b/\∃cs ty eF,h[b]?=some (.cells cs ty eF)/\o+xs.length*sz α<=cs.size/\∀i (hi:i<xs.length),rep h M xs[i] (cL cs (o+i*sz α) (sz α))
section
variable {α:Type} [aY α] {h h':Array Obj} {M M':Nat->Prop} {b o:Nat} {x:α} {xs:List α}
theorem At.keep (ha:At h M b o x) (hk:∀b,b<h.size->¬M b->h'[b]?=h[b]?):At h' M b o x:=by
 obtain⟨hb,cs,ty,eF,hc,hr⟩:=ha;exact⟨hb,cs,ty,eF,(hk b (Array.getElem?_eq_some_iff.1 hc).1 hb).trans hc,aY.keep hr hk⟩
theorem At.sub (ha:At h M b o x) (hk:∀b,b<h.size->M' b->M b):At h M' b o x:=by
 obtain⟨hb,cs,ty,eF,hc,hr⟩:=ha;exact⟨λh'=>hb (hk b (Array.getElem?_eq_some_iff.1 hc).1 h'),cs,ty,eF,hc,aY.sub hr hk⟩
theorem sC.keep (ha:sC h M b o xs) (hk:∀b,b<h.size->¬M b->h'[b]?=h[b]?):sC h' M b o xs:=by
 obtain⟨hb,cs,ty,eF,hc,hl,hr⟩:=ha;exact⟨hb,cs,ty,eF,(hk b (Array.getElem?_eq_some_iff.1 hc).1 hb).trans hc,hl,λi hi=>aY.keep (hr i hi) hk⟩
theorem sC.sub (ha:sC h M b o xs) (hk:∀b,b<h.size->M' b->M b):sC h M' b o xs:=by
 obtain⟨hb,cs,ty,eF,hc,hl,hr⟩:=ha;exact⟨λh'=>hb (hk b (Array.getElem?_eq_some_iff.1 hc).1 h'),cs,ty,eF,hc,hl,λi hi=>aY.sub (hr i hi) hk⟩
theorem sC.sB (ha:sC h M b o xs) (i:Nat) (hi:i<xs.length):At h M b (o+i*sz α) xs[i]:=by
 obtain⟨hb,cs,ty,eF,hc,hl,hr⟩:=ha;exact⟨hb,cs,ty,eF,hc,hr i hi⟩
end
instance {α:Type} [aY α]:aY (List α) where
 sz:=1
 agg:=false
 flat _:=rfl
 rep h M xs vs:=∃a c,vs=[.slice a xs.length c]/\xs.length<=c/\xs.length<=9223372036854775807/\(xs=[]\/∃b o,a=some ⟨b,o,none⟩/\sC h M b o xs)
 len h:=by obtain⟨a,c,rfl,_⟩:=h;rfl
 one h:=by obtain⟨a,c,rfl,_⟩:=h;intro v hv;simp at hv;subst hv;rfl
 keep h hk:=by
  obtain⟨a,c,e,h1,h2,h3⟩:=h;exact⟨a,c,e,h1,h2,h3.imp id (λ⟨b,o,ha,hs⟩=>⟨b,o,ha,hs.keep hk⟩)⟩
 sub h hk:=by
  obtain⟨a,c,e,h1,h2,h3⟩:=h;exact⟨a,c,e,h1,h2,h3.imp id (λ⟨b,o,ha,hs⟩=>⟨b,o,ha,hs.sub hk⟩)⟩
def aB {α:Type} [aY α] (w:World) (M:Nat->Prop) (x:α) (v:Value):Prop:=∃vs,rep w.heap M x vs/\v=if agg α then .agg vs.toArray else vs.headD undef
def dB {α:Type} [aY α] (w:World) (M:Nat->Prop) (x:α) (b o:Nat):Prop:=At w.heap M b o x
section
variable {α β:Type} [aY α] [aY β] {w w':World} {A M M':Nat->Prop} {x:α} {xs:List α} {v:Value} {b o:Nat}
theorem aB.ext (hr:aB w M x v) (he:Ext A w w') (hA:∀b,b<w.heap.size->A b->M b):aB w' M x v:=
 let⟨vs,h1,h2⟩:=hr;⟨vs,aY.keep h1 (λb hb hn=>he.block b hb (λha=>hn (hA b hb ha))),h2⟩
theorem aB.sub (hr:aB w M x v) (hA:∀b,b<w.heap.size->M' b->M b):aB w M' x v:=let⟨vs,h1,h2⟩:=hr;⟨vs,aY.sub h1 hA,h2⟩
theorem dB.ext (hr:dB w M x b o) (he:Ext A w w') (hA:∀b,b<w.heap.size->A b->M b):dB w' M x b o:=
 At.keep hr (λb hb hn=>he.block b hb (λha=>hn (hA b hb ha)))
theorem dB.sub (hr:dB w M x b o) (hA:∀b,b<w.heap.size->M' b->M b):dB w M' x b o:=At.sub hr hA
theorem jB {n:Int}:aB w M n v↔v=.int .i64 n:=⟨λ⟨vs,h,e⟩=>by subst h;exact e,λh=>⟨_,rfl,h⟩⟩
theorem nA {n:Nat}:aB w M n v↔v=.int .i64 (n:Int):=⟨λ⟨vs,h,e⟩=>by subst h;exact e,λh=>⟨_,rfl,h⟩⟩
theorem kQ {k:IntKind} {n:uQ k}:aB w M n v↔v=.int k n.n:=⟨λ⟨vs,h,e⟩=>by subst h;exact e,λh=>⟨_,rfl,h⟩⟩
theorem og {n:Bool}:aB w M n v↔v=.bool n:=⟨λ⟨vs,h,e⟩=>by subst h;exact e,λh=>⟨_,rfl,h⟩⟩
theorem jP:aB w M xs v↔∃a c,v=.slice a xs.length c/\xs.length<=c/\xs.length<=9223372036854775807/\(xs=[]\/∃b o,a=some ⟨b,o,none⟩/\sC w.heap M b o xs):=
 ⟨λ⟨vs,h,e⟩=>by obtain⟨a,c,rfl,h⟩:=h;exact⟨a,c,e,h⟩,λ⟨a,c,h⟩=>⟨_,⟨a,c,rfl,h.2⟩,h.1⟩⟩
theorem kR:aB w M ([]:List α) (.slice none 0 0):=jP.2 ⟨none,0,rfl,Nat.le_refl _,by simp,.inl rfl⟩
theorem dB.fst {p:α×β} (h:dB w M p b o):dB w M p.1 b o:=by
 obtain⟨hb,cs,ty,eF,hc,us,ws,he,h1,h2⟩:=h;refine⟨hb,cs,ty,eF,hc,?_⟩;have:cL cs o (sz α)=us:=by
  have e:cL cs o (sz (α×β))=us++ws:=he;have hl:=aY.len h1;have:cL cs o (sz α)=(cL cs o (sz (α×β))).take (sz α):=by
   simp only[cL,List.take_take];congr 1;exact(Nat.min_eq_left (Nat.le_add_right _ _)).symm
  rw[this,e,<-hl,List.take_left]
 rw[this];exact h1
theorem dB.snd {p:α×β} (h:dB w M p b o):dB w M p.2 b (o+sz α):=by
 obtain⟨hb,cs,ty,eF,hc,us,ws,he,h1,h2⟩:=h;refine⟨hb,cs,ty,eF,hc,?_⟩;have:cL cs (o+sz α) (sz β)=ws:=by
  have e:cL cs o (sz (α×β))=us++ws:=he;have hl:=aY.len h1;have:cL cs (o+sz α) (sz β)=(cL cs o (sz (α×β))).drop (sz α):=by
   simp only[cL,List.drop_take,List.drop_drop];congr 1;exact(Nat.add_sub_cancel_left _ _).symm
  rw[this,e,<-hl,List.drop_left]
 rw[this];exact h2
theorem aB.rE (h:aB w M x v) (hx:aY.agg α=false):rep w.heap M x [v]:=by
 obtain⟨vs,hr,hv⟩:=h;have hl:=aY.len hr;rw[aY.flat hx] at hl;obtain⟨u,rfl⟩:=List.length_eq_one_iff.1 hl;simp only[hx,Bool.false_eq_true,if_false,List.headD_cons] at hv;subst hv;exact hr
theorem qy (h:rep w.heap M x [v]) (hx:aY.agg α=false):aB w M x v:=⟨[v],h,by simp[hx]⟩
def iw (P:Program) (t:TypeId):Option Bool:=match P.underlying t with|some (.struct _)=>some true|some (.array _ _)=>some true|some _=>some false|none=>none
def gN (P:Program) (t:TypeId):Option Nat:=(P.info? t).map (·.size)
variable {P:Program} {N:Nat} {env:Env} {t u:TypeId} {y z:Operand}
theorem qz {b:Bool} (h:iw P t=some b) (w:World): (isAgg t).run P w=.ok b w:=by
 unfold iw at h;split at h<;>rename_i hu<;>first|(simp only[Option.some.injEq] at h;subst h)|cases h
 all_goals simp[isAgg,run_underlying hu]
theorem j0 {n:Nat} (h:gN P t=some n) (w:World): (sizeOf t).run P w=.ok n w:=by
 unfold gN at h;cases hi:P.info? t with
 |none=>rw[hi] at h;cases h
 |some i=>rw[hi] at h;simp only[Option.map_some,Option.some.injEq] at h;subst h;simp[sizeOf,typeInfo,hi]
theorem KQ {cs:Array Value} {o n:Nat} {vs:List Value} (h:cL cs o n=vs) (hl:vs.length=n) {j:Nat} (hj:j<n):cs[o+j]?=vs[j]?:=by
 subst h;simp only[cL,List.getElem?_take,List.getElem?_drop,if_pos hj];simp
theorem mq (b o n:Nat): (⟨b,o,none⟩:Addr).add n=⟨b,o+n,none⟩:=by unfold Addr.add;split<;>simp_all
theorem dB.load (h:dB w M x b o) (ha:iw P t=some false) (hx:aY.agg α=false) (hy:ev env y=some (.pointer (some ⟨b,o,none⟩))):
  ∃v,aB w M x v/\∀w',w'.heap[b]?=w.heap[b]?->cH P N env (.load t y) w' v:=by
 obtain⟨hb,cs,ty,eF,hc,hr⟩:=h;have h1:sz α=1:=aY.flat hx;obtain⟨v,hv⟩:∃v,cL cs o (sz α)=[v]:=List.length_eq_one_iff.1 (by rw[len hr,h1]);rw[hv] at hr;refine⟨v,⟨[v],hr,by simp[hx]⟩,λw' hw=>mk' λρ hρ eD ho=>?_⟩;rw[<-hw] at hc;have h2:cs[o]?=some v:=by have:=KQ (j:=0) hv (by simp[h1]) (by omega);simpa using this
 unfold execOp;rw[ho];simp[hρ _ _ hy,go_sem,Instr.loadAt,Instr.sureAddr,loadVar,qz ha,World.cell?,hc,h2]
theorem dB.A0 (h:dB w M x b o) (ha:iw P t=some true) (hs:gN P t=some (sz α)) (hx:aY.agg α=true) (hy:ev env y=some (.pointer (some ⟨b,o,none⟩))):
  ∃v,aB w M x v/\∀w',w'.heap[b]?=w.heap[b]?->cH P N env (.load t y) w' v:=by
 obtain⟨hb,cs,ty,eF,hc,hr⟩:=h;refine⟨.agg (cL cs o (sz α)).toArray,⟨_,hr,by simp only[hx,if_true]⟩,λw' hw=>mk' λρ hρ eD ho=>?_⟩;rw[<-hw] at hc;have hl:=len hr;have hcells: (loadCells ⟨b,o,none⟩ (sz α)).run P w'=.ok (cL cs o (sz α)).toArray w':=by
  have:=run_loadCells_list (P:=P) w' ⟨b,o,none⟩ (cL cs o (sz α)) (λj v hv=>by
   have hj:j<sz α:=by rw[<-hl];exact(List.getElem?_eq_some_iff.1 hv).1
   rw[mq,cell_of_row w' b (o+j) cs ty eF hc,KQ rfl hl hj,hv])
  rwa [hl] at this
 simp only[loadCells] at hcells;unfold execOp;rw[ho];simp[hρ _ _ hy,go_sem,Instr.loadAt,Instr.sureAddr,loadVar,qz ha,j0 hs,loadCells,hcells]
theorem kG {cs:List Value} {ty:TypeId} {eF:Nat×Nat} (hc:w.heap[b]?=some (.cells cs.toArray ty eF)) (ha:iw P t=some false) (hv:cs[o]?=some v)
  (hy:ev env y=some (.pointer (some ⟨b,o,none⟩))):cH P N env (.load t y) w v:=mk' λρ hρ eD ho=>by
 have h2:cs.toArray[o]?=some v:=by simpa using hv
 unfold execOp;rw[ho];simp[hρ _ _ hy,go_sem,Instr.loadAt,Instr.sureAddr,loadVar,qz ha,World.cell?,hc,h2]
theorem jC {cs:List Value} {ty:TypeId} {eF:Nat×Nat} {n:Nat} {vs:List Value} (hc:w.heap[b]?=some (.cells cs.toArray ty eF)) (ha:iw P t=some true) (hs:gN P t=some n)
  (hv: (cs.drop o).take n=vs) (hl:vs.length=n) (hy:ev env y=some (.pointer (some ⟨b,o,none⟩))):cH P N env (.load t y) w (.agg vs.toArray):=mk' λρ hρ eD ho=>by
 have hcells: (loadCells ⟨b,o,none⟩ n).run P w=.ok vs.toArray w:=by
  have:=run_loadCells_list (P:=P) w ⟨b,o,none⟩ vs (λj u hu=>by
   have hj:j<n:=by rw[<-hl];exact(List.getElem?_eq_some_iff.1 hu).1
   rw[mq,cell_of_row w b (o+j) cs.toArray ty eF hc];rw[<-hu,<-hv,List.getElem?_take,if_pos hj,List.getElem?_drop];simp)
  rwa [hl] at this
 simp only[loadCells] at hcells;unfold execOp;rw[ho];simp[hρ _ _ hy,go_sem,Instr.loadAt,Instr.sureAddr,loadVar,qz ha,j0 hs,loadCells,hcells]
def DB (P:Program) (t:TypeId) (f:Nat):Option Nat:=match P.underlying t with
 |some (.struct fs)=>match fs[f]? with
  |some fl=>match gN P fl.type with|some (_+1)=>some fl.offset|_=>none
  |none=>none
 |_=>none
theorem yP {f off:Nat} (hf:DB P t f=some off) (hy:ev env y=some (.pointer (some ⟨b,o,none⟩))):
  cH P N env (.fieldAddr t y f) w (.pointer (some ⟨b,o+off,none⟩)):=mk' λρ hρ eD ho=>by
 unfold DB at hf;split at hf
 ·rename_i fs hu;split at hf
  ·rename_i fl hfl;split at hf
   ·rename_i n hn;simp only[Option.some.injEq] at hf;subst hf;unfold execOp;rw[ho];simp[hρ _ _ hy,go_sem,Instr.fieldAt,run_underlying hu,hfl,Instr.sureAddr,fieldPlace,j0 hn,mq]
   ·cases hf
  ·cases hf
 ·cases hf
def h_ (P:Program) (t:TypeId):Option (TypeId×Nat):=match P.underlying t with
 |some (.slice e)=>match gN P e with|some n=>some (e,n)|none=>none
 |_=>none
theorem DC {e n l c:Nat} {k:IntKind} {i:Int} (hf:h_ P t=some (e,n)) (hy:ev env y=some (.slice (some ⟨b,o,none⟩) l c)) (hz:ev env z=some (.int k i))
  (h0:0<=i) (h1:i<l):cH P N env (.indexAddr t y z) w (.pointer (some ⟨b,o+i.toNat*n,none⟩)):=mk' λρ hρ eD ho=>by
 unfold h_ at hf;split at hf
 ·rename_i e' hu;split at hf
  ·rename_i n' hn;simp only[Option.some.injEq,Prod.mk.injEq] at hf;obtain⟨rfl,rfl⟩:=hf;unfold execOp;rw[ho];simp only[hρ _ _ hy,hρ _ _ hz];simp[go_sem,Instr.indexAt,run_underlying hu,asIntOf,j0 hn,h0,h1,mq]
  ·cases hf
 ·cases hf
theorem aB.index (h:aB w M xs v) (hy:ev env y=some v) {e:Nat} {k:IntKind} {i:Int} (hf:h_ P t=some (e,sz α)) (hz:ev env z=some (.int k i))
  (h0:0<=i) (h1:i<xs.length):∃b o,dB w M (xs[i.toNat]'(by omega)) b o/\∀w',cH P N env (.indexAddr t y z) w' (.pointer (some ⟨b,o,none⟩)):=by
 obtain⟨a,c,rfl,hc,hm,hs⟩:=jP.1 h;rcases hs with rfl|⟨b,o,rfl,hs⟩
 ·simp at h1;omega
 ·exact⟨b,o+i.toNat*sz α,hs.sB _ _,λw'=>DC hf hy hz h0 h1⟩
theorem aB.len (h:aB w M xs v):∃a c,v=.slice a xs.length c:=let⟨a,c,e,_⟩:=jP.1 h;⟨a,c,e⟩
theorem aB.le (h:aB w M xs v):xs.length<=9223372036854775807:=let⟨a,c,_,_,e,_⟩:=jP.1 h;e
theorem aB.bU (h:aB w M xs v) (hy:ev env y=some v) {e:TypeId} (ht:P.underlying t=some (.slice e)):
  ∀w',cH P N env (.call {callee:=.builtin .len,args:=#[y],argTypes:=#[t]}) w' (.int .i64 xs.length):=λw'=>by
 obtain⟨a,c,rfl⟩:=h.len;exact wP hy ht
theorem aB.one (h:aB w M x v) (hx:aY.agg α=false):v.cells=#[v]/\v.oneCell'=true:=by
 obtain⟨vs,h1,h2⟩:=h;have hl:=aY.len h1;rw[aY.flat hx] at hl;obtain⟨u,rfl⟩:=List.length_eq_one_iff.1 hl;simp only[hx,Bool.false_eq_true,if_false,List.headD_cons] at h2;subst h2;have h3:=aY.one h1 v (by simp);refine⟨?_,h3⟩;cases v<;>first|rfl|simp[Value.oneCell'] at h3
theorem aB.many (h:aB w M x v) (hx:aY.agg α=true):∃vs,v=.agg vs.toArray/\vs.length=sz α/\(∀u∈vs,u.oneCell'=true)/\rep w.heap M x vs:=by
 obtain⟨vs,h1,h2⟩:=h;simp only[hx,if_true] at h2;exact⟨vs,h2,aY.len h1,aY.one h1,h1⟩
end
end Go.K
namespace Go.K
open aY
structure New (w w':World) (o:Obj):Prop where
 ext:Ext No w w'
 at_:w'.heap[w.heap.size]?=some o
 size:w'.heap.size=w.heap.size+1
structure wR (w w':World) (b:Nat) (o:Obj):Prop where
 ext:Ext (One b) w w'
 at_:w'.heap[b]?=some o
 size:w'.heap.size=w.heap.size
theorem tB (w:World) (o:Obj):New w (w.alloc o) o:=
 ⟨⟨rfl,rfl,rfl,by simp,λb hb _=>heap_alloc_old w o hb,lP.refl rfl⟩,heap_alloc_new w o,by simp⟩
theorem uR (w:World) (o:Obj):New w (w.drew.alloc o) o:=
 ⟨⟨rfl,rfl,rfl,by simp,λb hb _=>heap_alloc_old w.drew o hb,lP.succ rfl⟩,heap_alloc_new w.drew o,by simp⟩
theorem DE {w:World} {b:Nat} {old cs:Array Value} {t:TypeId} {fr:Nat×Nat} (h:w.heap[b]?=some (.cells old t fr)):wR w (w.setRow b cs) b (.cells cs t fr):=
 ⟨⟨rfl,rfl,rfl,by simp[World.setRow],λk _ hk=>setRow_other w b k cs (λe=>hk e),lP.refl rfl⟩,setRow_heap w b old cs t fr h,by simp[World.setRow]⟩
def sD (P:Program) (t:TypeId):Option (List Value):=((P.info? t).bind (·.zero)).map (·.cells.toList)
section
variable {P:Program} {N:Nat} {env:Env} {w:World} {x y z:Operand} {t u e:TypeId} {v:Value}
theorem A4 {l:List Value} (h:sD P t=some l) (w:World):∃z,(zeroValue t).run P w=.ok z w/\z.cells=l.toArray:=by
 unfold sD at h;cases hi:P.info? t with
 |none=>rw[hi] at h;cases h
 |some i=>
  rw[hi] at h;cases hz:i.zero with
  |none=>simp[hz] at h
  |some z=>simp[hz] at h;subst h;exact⟨z,by simp[zeroValue,typeInfo,hi,hz],by simp⟩
theorem oh {op:Op} {T:Value->World->Prop} (h:∀ρ:Operand->Value,(∀x v,ev env x=some v->ρ x=v)->∀o:Oper,o.op=op->
  ∃v w',((execOp ρ o).run P w=.ok (.value v) w'\/((execOp ρ o).run P w=.ok .skip w'/\v=undef))/\T v w'):gM P N env op w T:=
 λa ha o ho=>h a.eval (λx v hx=>ha.ev hx) o ho
theorem S9 {l:List Value} (hz:sD P t=some l):
  gM P N env (.alloc t) w (λv w'=>v=.pointer (some ⟨w.heap.size,0,none⟩)/\New w w' (.cells l.toArray t)):=oh λρ hρ o ho=>by
 obtain⟨j_,h1,h2⟩:=A4 hz w;refine⟨_,_,.inl ?_,rfl,tB w _⟩;unfold execOp;rw[ho];simp[go_sem,Instr.alloc,h1,newVar,newRow];exact congrArg (λc=>w.alloc (.cells c t)) h2
theorem KR {cs:List Value} (hx:ev env x=some v) (hc:v.cells=cs.toArray):
  gM P N env (.box t x) w (λu w'=>u=.pointer (some ⟨w.heap.size,0,none⟩)/\New w w' (.cells cs.toArray t)):=oh λρ hρ o ho=>by
 refine⟨_,_,.inl ?_,rfl,tB w _⟩;unfold execOp;rw[ho];simp[hρ _ _ hx,go_sem,Instr.box,newVar,newRow];exact congrArg (λc=>w.alloc (.cells c t)) hc
theorem S_ {b o n:Nat} {cs vs:List Value} {ty:TypeId} (hs:gN P t=some n) (hv:v.cells=vs.toArray) (hl:vs.length=n) (h1:∀u∈vs,u.oneCell'=true)
  (hb:w.heap[b]?=some (.cells cs.toArray ty (0,0))) (ho:o+n<=cs.length):
  (storeVar t ⟨b,o,none⟩ v).run P w=.ok () (w.setRow b (cs.take o++vs++cs.drop (o+n)).toArray):=by
 have hst:=run_storeCells_at P b o ty vs 0 cs.toArray w hb (by simpa[hl] using ho) h1;simp only[Nat.add_zero,hl] at hst;unfold storeVar;simp[j0 hs,hv,hl,hst]
theorem FU {b o n:Nat} {cs vs:List Value} {ty:TypeId} (hx:ev env x=some (.pointer (some ⟨b,o,none⟩))) (hy:ev env y=some v) (hs:gN P t=some n)
  (hv:v.cells=vs.toArray) (hl:vs.length=n) (h1:∀u∈vs,u.oneCell'=true) (hb:w.heap[b]?=some (.cells cs.toArray ty (0,0))) (ho:o+n<=cs.length):
  gM P N env (.store t x y) w (λu w'=>u=undef/\wR w w' b (.cells (cs.take o++vs++cs.drop (o+n)).toArray ty (0,0))):=oh λρ hρ eD f_=>by
 refine⟨undef,_,.inr ⟨?_,rfl⟩,rfl,DE hb⟩;unfold execOp;rw[f_];simp only[hρ _ _ hx,hρ _ _ hy,Instr.storeAt,Instr.sureAddr,Sem.run_bind,Sem.run_pure,Result.andThen_ok];rw[S_ hs hv hl h1 hb ho];rfl
theorem KS {b o:Nat} {cs:List Value} {ty:TypeId} (hx:ev env x=some (.pointer (some ⟨b,o,none⟩))) (hy:ev env y=some v) (hs:gN P t=some 1)
  (hv:v.cells=#[v]) (h1:v.oneCell'=true) (hb:w.heap[b]?=some (.cells cs.toArray ty (0,0))) (ho:o<cs.length):
  gM P N env (.store t x y) w (λu w'=>u=undef/\wR w w' b (.cells (cs.set o v).toArray ty (0,0))):=by
 have h:=FU (P:=P) (N:=N) (w:=w) (vs:=[v]) (n:=1) hx hy hs (by simpa using hv) rfl (by simpa using h1) hb ho;have e:cs.take o++[v]++cs.drop (o+1)=cs.set o v:=by
  rw[List.set_eq_take_append_cons_drop,if_pos ho];simp
 rwa [e] at h
end
def jH {α:Type} [aY α] (w:World) (M:Nat->Prop) (e:TypeId) (v:Value) (ys:List α):Prop:=
 (v=.slice none 0 0/\ys=[])\/
 ∃g cap cs,v=.slice (some ⟨g,0,none⟩) ys.length cap/\M g/\w.heap[g]?=some (.cells cs e (0,0))/\ys.length<=cap/\cs.size=cap*sz α/\
  ∀i (hi:i<ys.length),rep w.heap M ys[i] (cL cs (i*sz α) (sz α))
section
variable {α:Type} [aY α] {w w':World} {A M M':Nat->Prop} {e:TypeId} {v:Value} {ys zs:List α}
theorem jH.nil:jH w M e (.slice none 0 0) ([]:List α):=.inl ⟨rfl,rfl⟩
theorem jH.ext (h:jH w M e v ys) (he:Ext A w w') (hA:∀b,b<w.heap.size->A b->M b) (hv:∀b,c4 v b->¬A b):jH w' M e v ys:=by
 rcases h with h|⟨g,cap,cs,A5,hg,hc,h1,h2,h3⟩
 ·exact .inl h
 ·refine .inr ⟨g,cap,cs,A5,hg,he.sB hc (hv g (by subst A5;rfl)),h1,h2,λi hi=>aY.keep (h3 i hi) (λb hb hn=>he.block b hb (λha=>hn (hA b hb ha)))⟩
theorem jH.sub (h:jH w M e v ys) (fA:∀b,b<w.heap.size->M' b->M b) (hv:∀b,c4 v b->M' b):jH w M' e v ys:=by
 rcases h with h|⟨g,cap,cs,A5,hg,hc,h1,h2,h3⟩
 ·exact .inl h
 ·exact .inr ⟨g,cap,cs,A5,hv g (by subst A5;rfl),hc,h1,h2,λi hi=>aY.sub (h3 i hi) fA⟩
theorem jH.ga (h:jH w M e v ys):∀b,c4 v b->M b/\b<w.heap.size:=by
 intro b hb;rcases h with⟨rfl,_⟩|⟨g,cap,cs,rfl,hg,hc,_⟩
 ·cases hb
 ·simp only[c4,Value.ownBlock,Option.some.injEq] at hb;subst hb;exact⟨hg,qx hc⟩
theorem jH.len (h:jH w M e v ys):∃a c,v=.slice a ys.length c:=by
 rcases h with⟨rfl,rfl⟩|⟨g,cap,cs,rfl,_⟩
 ·exact⟨none,0,rfl⟩
 ·exact⟨_,_,rfl⟩
theorem jH.read (h:jH w M e v ys) (fA:∀b,b<w.heap.size->M' b->M b/\¬c4 v b) (hl:ys.length<=9223372036854775807):aB w M' ys v:=by
 rcases h with⟨rfl,rfl⟩|⟨g,cap,cs,rfl,hg,hc,h1,h2,h3⟩
 ·exact kR
 ·refine jP.2 ⟨_,cap,rfl,h1,hl,.inr ⟨g,0,rfl,?_⟩⟩;refine⟨λhm=>(fA g (qx hc) hm).2 rfl,cs,e,_,hc,?_,λi hi=>?_⟩
  ·rw[Nat.zero_add,h2];exact Nat.mul_le_mul_right _ h1
  ·rw[Nat.zero_add];exact aY.sub (h3 i hi) (λb hb hm=>(fA b hb hm).1)
theorem nB {cs cs':Array Value} {o o' n:Nat} (h:∀j,j<n->cs[o+j]?=cs'[o'+j]?):cL cs o n=cL cs' o' n:=by
 apply List.ext_getElem?;intro j;simp only[cL,List.getElem?_take,List.getElem?_drop];split
 ·rename_i hj;simpa using h j hj
 ·rfl
variable {P:Program} {N:Nat} {env:Env} {x y:Operand} {t u:TypeId} {s:Value}
def om (P:Program) (t e n bytes:Nat):Bool:=match P.underlying t,P.info? e with
 |some (.slice e'),some i=>e'==e&&i.size==n&&i.bytes==bytes&&(match i.zero with|some z=>z.cells.size==n|none=>false)
 |_,_=>false
theorem tC {n bytes:Nat} (h:om P t e n bytes=true):∃i z,P.underlying t=some (.slice e)/\P.info? e=some i/\i.size=n/\i.bytes=bytes/\i.zero=some z/\z.cells.size=n:=by
 unfold om at h;split at h
 ·rename_i e' i hu hi;simp only[Bool.and_eq_true,beq_iff_eq] at h;obtain⟨⟨⟨rfl,h1⟩,h2⟩,h3⟩:=h;cases hz:i.zero with
  |none=>rw[hz] at h3;cases h3
  |some z=>rw[hz] at h3;exact⟨i,z,hu,hi,h1,h2,hz,by simpa using h3⟩
 ·cases h
theorem KT {bytes:Nat} (hx:ev env x=some v) (hy:ev env y=some s) (hrow:om P t e (sz α) bytes=true) (hsz:0<sz α)
  (hown:jH w M e v ys) (hsrc:aB w M zs s) (hlen: (ys.length+zs.length)*bytes<=140737488355328) (h63:ys.length+zs.length<=140737488355328):
  gM P N env (.call {callee:=.builtin .append,args:=#[x,y],argTypes:=#[t,t]}) w (λv' w'=>
   jH w' (λb=>c4 v' b\/M b) e v' (ys++zs)/\Ext (c4 v) w w'/\(∀b,c4 v' b->c4 v b\/w.heap.size<=b)):=oh λρ hρ eD f_=>by
 obtain⟨i,z,hu,hi,lp,hby,hz,hzs⟩:=tC hrow;obtain⟨a,c,rfl,hcap,hl0,DF⟩:=jP.1 hsrc;have key:∃v' w',(Builtin.append_ #[t,t] eD.type #[v,.slice a zs.length c]).run P w=.ok v' w'/\
   jH w' (λb=>c4 v' b\/M b) e v' (ys++zs)/\Ext (c4 v) w w'/\(∀b,c4 v' b->c4 v b\/w.heap.size<=b):=by
  by_cases rF:zs=[]
  ·subst rF;refine⟨v,w,?_,?_,Ext.refl _ _,λb hb=> .inl hb⟩
   ·have hf: (Builtin.firstCells i.size 0 (.slice a 0 c)).run P w=.ok #[] w:=by cases a<;>simp[Builtin.firstCells,loadCells,loadCellsFrom]
    rcases hown with⟨rfl,_⟩|⟨g,cap,cs,rfl,hg,hc,h1,h2,h3⟩
    ·simp[Builtin.append_,run_underlying hu,sizeOf,typeInfo,hi,Builtin.lenOf,hf]
    ·simp[Builtin.append_,run_underlying hu,sizeOf,typeInfo,hi,Builtin.lenOf,hf,h1,storeCells]
   ·rw[List.append_nil];exact hown.sub (λb hb h=>h.elim (λho=>(hown.ga b ho).1) id) (λb hb=> .inl hb)
  ·rcases DF with h|⟨sb,so,rfl,DG,p8,A6,A7,hsc,hsl,A8⟩
   ·exact absurd h rF
   ·have hm0:0<zs.length:=List.length_pos_iff.2 rF;obtain⟨news,A9⟩:∃news,news=cL p8 so (zs.length*sz α):=⟨_,rfl⟩
    have hnl:news.length=zs.length*i.size:=by
     rw[A9,lp];simp only[cL,List.length_take,List.length_drop,Array.length_toList];omega
    have pq:news.length=zs.length*sz α:=by rw[hnl,lp]
    have kS:∀j,j<zs.length*sz α->news[j]?=p8[so+j]?:=λj hj=>by
     rw[A9];simp only[cL,List.getElem?_take,if_pos hj,List.getElem?_drop];simp
    have hnews:∀j v,news[j]?=some v->w.cell? ((⟨sb,so,none⟩:Addr).add j)=some v:=λj v hv=>by
     have hj:j<zs.length*sz α:=by rw[<-pq];exact(List.getElem?_eq_some_iff.1 hv).1
     rw[mq,cell_of_row w sb (so+j) p8 A6 A7 hsc,<-kS j hj,hv]
    have uS:∀k (hk:k<zs.length),rep w.heap M zs[k] (cL news.toArray (k*sz α) (sz α)):=λk hk=>by
     have:=A8 k hk;rwa [show cL p8 (so+k*sz α) (sz α)=cL news.toArray (k*sz α) (sz α) from nB (λj hj=>by
      have hb:k*sz α+j<zs.length*sz α:=by
       have:=Nat.mul_le_mul_right (sz α) (show k+1<=zs.length from hk);rw[Nat.succ_mul] at this;omega
      rw[show∀m,news.toArray[m]?=news[m]? from λm=>by simp,kS _ hb,Nat.add_assoc])] at this
    have h1c:∀u∈news,u.oneCell'=true:=λu A_=>by
     obtain⟨j,hj,rfl⟩:=List.mem_iff_getElem.1 A_;have hjl:j<zs.length*sz α:=by rw[<-pq];exact hj
     have hk:j/sz α<zs.length:=(Nat.div_lt_iff_lt_mul hsz).2 hjl;refine aY.one (uS (j/sz α) hk) _ ?_;apply List.mem_iff_getElem?.2;refine⟨j%sz α,?_⟩;have hmod:=Nat.mod_lt j hsz;simp only[cL,List.getElem?_take,if_pos hmod,List.getElem?_drop];rw[Nat.mul_comm,Nat.div_add_mod];simp[hj]
    have fresh:∀(olds:List Value) (cap:Nat) (o:Obj),olds.length=ys.length*sz α->(∀k (hk:k<ys.length),rep w.heap M ys[k] (cL olds.toArray (k*sz α) (sz α)))->
      o=.cells (olds.toArray++news.toArray++Builtin.zeroCells z.cells (cap-(ys.length+zs.length))) e (0,0)->ys.length+zs.length<=cap->
      jH (w.drew.alloc o) (λb=>c4 (.slice (some ⟨w.heap.size,0,none⟩) (ys.length+zs.length) cap) b\/M b) e (.slice (some ⟨w.heap.size,0,none⟩) (ys.length+zs.length) cap) (ys++zs):=by
     intro olds cap o holds wS ho FV;subst ho;have hnew:=uR w (.cells (olds.toArray++news.toArray++Builtin.zeroCells z.cells (cap-(ys.length+zs.length))) e (0,0));refine .inr ⟨w.heap.size,cap,_,by rw[List.length_append],.inl rfl,hnew.at_,by rw[List.length_append];exact FV,?_,?_⟩
     ·simp only[Array.size_append,List.size_toArray,size_zeroCells,hzs,holds,pq,<-Nat.add_mul];congr 1;omega
     ·intro k hk;rw[List.length_append] at hk;have hkeep:∀(x:α) (vs:List Value),rep w.heap M x vs->rep (w.drew.alloc (.cells (olds.toArray++news.toArray++Builtin.zeroCells z.cells (cap-(ys.length+zs.length))) e (0,0))).heap
        (λb=>c4 (.slice (some ⟨w.heap.size,0,none⟩) (ys.length+zs.length) cap) b\/M b) x vs:=λx vs hr=>
       aY.keep (aY.sub hr (λb hb h=>h.elim (λe=>by simp only[c4,Value.ownBlock,Option.some.injEq] at e;omega) id)) (λb hb _=>hnew.ext.block b hb (λh=>h))
      by_cases rG:k<ys.length
      ·rw[List.getElem_append_left rG];have:=wS k rG;rw[show cL olds.toArray (k*sz α) (sz α)=cL (olds.toArray++news.toArray++Builtin.zeroCells z.cells (cap-(ys.length+zs.length))) (k*sz α) (sz α) from nB (λj hj=>by
        have hb:k*sz α+j<ys.length*sz α:=by
         have:=Nat.mul_le_mul_right (sz α) (show k+1<=ys.length from rG);rw[Nat.succ_mul] at this;omega
        rw[Array.append_assoc,Array.getElem?_append_left (by simpa[holds] using hb)])] at this
       exact hkeep _ _ this
      ·rw[List.getElem_append_right (by omega)];have uT:k-ys.length<zs.length:=by omega
       have:=uS (k-ys.length) uT;rw[show cL news.toArray ((k-ys.length)*sz α) (sz α)=cL (olds.toArray++news.toArray++Builtin.zeroCells z.cells (cap-(ys.length+zs.length))) (k*sz α) (sz α) from nB (λj hj=>by
        have hb: (k-ys.length)*sz α+j<zs.length*sz α:=by
         have:=Nat.mul_le_mul_right (sz α) (show k-ys.length+1<=zs.length from uT);rw[Nat.succ_mul] at this;omega
        have he:k*sz α=ys.length*sz α+(k-ys.length)*sz α:=by rw[<-Nat.add_mul];congr 1;omega
        rw[Array.getElem?_append_left (by simp only[Array.size_append,List.size_toArray,holds,pq];omega),Array.getElem?_append_right (by simp only[List.size_toArray,holds];omega)];congr 1;simp only[List.size_toArray,holds];omega)] at this
       exact hkeep _ _ this
    rcases hown with⟨rfl,rfl⟩|⟨g,cap,cs,rfl,hg,hc,h1,h2,h3⟩
    ·have hr:=run_append_nil (P:=P) w t eD.type e i z hu hi hz ⟨sb,so,none⟩ zs.length c news hnl hnews hm0 (by omega)
      (by rw[hby];simp only[List.length_nil,Nat.zero_add] at hlen;omega)
     have hfr:=fresh [] (grownCap w zs.length 0 e) _ (by simp) (λk hk=>by simp at hk) rfl (by simpa using grownCap_ge w zs.length 0 e);simp only[List.length_nil,Nat.zero_add,List.nil_append] at hfr;refine⟨_,_,hr,?_,?_,?_⟩
     ·simpa using hfr
     ·exact(uR w _).ext.mono (λb hb h=>h.elim)
     ·intro b hb;simp only[c4,Value.ownBlock,Option.some.injEq] at hb;exact .inr (by omega)
    ·have FW: (cL cs 0 (ys.length*sz α)).length=ys.length*sz α:=by
      have:=Nat.mul_le_mul_right (sz α) h1;simp only[cL,List.length_take,List.length_drop,Array.length_toList];omega
     have KU:∀j,j<ys.length*sz α->(cL cs 0 (ys.length*sz α))[j]?=cs[j]?:=λj hj=>by
      simp only[cL,List.getElem?_take,if_pos hj,List.getElem?_drop];simp
     have wS:∀k (hk:k<ys.length),rep w.heap M ys[k] (cL (cL cs 0 (ys.length*sz α)).toArray (k*sz α) (sz α)):=λk hk=>by
      have:=h3 k hk;rwa [show cL cs (k*sz α) (sz α)=cL (cL cs 0 (ys.length*sz α)).toArray (k*sz α) (sz α) from nB (λj hj=>by
       have hb:k*sz α+j<ys.length*sz α:=by
        have:=Nat.mul_le_mul_right (sz α) (show k+1<=ys.length from hk);rw[Nat.succ_mul] at this;omega
       rw[show∀m,(cL cs 0 (ys.length*sz α)).toArray[m]?=(cL cs 0 (ys.length*sz α))[m]? from λm=>by simp,KU _ hb])] at this
     by_cases hroom:ys.length+zs.length<=cap
     ·have hbound:ys.length*i.size+news.length<=cs.size:=by
       rw[hnl,lp,h2,<-Nat.add_mul];exact Nat.mul_le_mul_right _ hroom
      have hr:=run_append_room (P:=P) w t eD.type e i hu hi g ys.length cap cs hc ⟨sb,so,none⟩ zs.length c news hnl hnews h1c hroom hbound;have wT:=DE (w:=w) (cs:=(cs.toList.take (ys.length*i.size)++news++cs.toList.drop (ys.length*i.size+news.length)).toArray) hc;refine⟨_,_,hr,.inr ⟨g,cap,_,by rw[List.length_append],.inr hg,wT.at_,by rw[List.length_append];exact hroom,?_,?_⟩,?_,?_⟩
      ·simp only[List.size_toArray,List.length_append,List.length_take,List.length_drop,Array.length_toList,hnl,lp] at hbound⊢;omega
      ·intro k hk;rw[List.length_append] at hk;have hkeep:∀(x:α) (vs:List Value),rep w.heap M x vs->rep (w.setRow g (cs.toList.take (ys.length*i.size)++news++cs.toList.drop (ys.length*i.size+news.length)).toArray).heap
         (λb=>c4 (.slice (some ⟨g,0,none⟩) (ys.length+zs.length) cap) b\/M b) x vs:=λx vs hr'=>
        aY.keep (aY.sub hr' (λb hb h=>h.elim (λe=>by simp only[c4,Value.ownBlock,Option.some.injEq] at e;subst e;exact hg) id))
         (λb hb hn=>wT.ext.block b hb (λh=>hn (.inr (by rw[show b=g from h];exact hg))))
       rw[lp] at hbound;by_cases rG:k<ys.length
       ·rw[List.getElem_append_left rG];have:=h3 k rG;rw[show cL cs (k*sz α) (sz α)=cL (cs.toList.take (ys.length*i.size)++news++cs.toList.drop (ys.length*i.size+news.length)).toArray (k*sz α) (sz α) from nB (λj hj=>by
         have hb:k*sz α+j<ys.length*sz α:=by
          have:=Nat.mul_le_mul_right (sz α) (show k+1<=ys.length from rG);rw[Nat.succ_mul] at this;omega
         conv=>rhs;rw[List.getElem?_toArray,List.append_assoc,List.getElem?_append_left (by simp only[List.length_take,Array.length_toList,lp];omega),List.getElem?_take,if_pos (by rw[lp];exact hb)]
         simp)] at this
        exact hkeep _ _ this
       ·rw[List.getElem_append_right (by omega)];have uT:k-ys.length<zs.length:=by omega
        have:=uS (k-ys.length) uT;rw[show cL news.toArray ((k-ys.length)*sz α) (sz α)=cL (cs.toList.take (ys.length*i.size)++news++cs.toList.drop (ys.length*i.size+news.length)).toArray (k*sz α) (sz α) from nB (λj hj=>by
         have hb: (k-ys.length)*sz α+j<zs.length*sz α:=by
          have:=Nat.mul_le_mul_right (sz α) (show k-ys.length+1<=zs.length from uT);rw[Nat.succ_mul] at this;omega
         have he:k*sz α=ys.length*sz α+(k-ys.length)*sz α:=by rw[<-Nat.add_mul];congr 1;omega
         have kf: (cs.toList.take (ys.length*i.size)).length=ys.length*sz α:=by simp only[List.length_take,Array.length_toList,lp];omega
         rw[show∀m,news.toArray[m]?=news[m]? from λm=>by simp,show∀(l:List Value) m,l.toArray[m]?=l[m]? from λl m=>by simp,List.getElem?_append_left (by rw[List.length_append,kf];omega),List.getElem?_append_right (by rw[kf];omega),kf];congr 1;omega)] at this
        exact hkeep _ _ this
      ·exact wT.ext.mono (λb hb h=>by rw[show b=g from h];rfl)
      ·intro b hb;exact .inl hb
     ·have holds:∀j v,(cL cs 0 (ys.length*sz α))[j]?=some v->w.cell? ((⟨g,0,none⟩:Addr).add j)=some v:=λj v hv=>by
       have hj:j<ys.length*sz α:=by rw[<-FW];exact(List.getElem?_eq_some_iff.1 hv).1
       rw[mq,cell_of_row w g (0+j) cs e (0,0) hc,Nat.zero_add,<-KU j hj,hv]
      have hr:=run_append_grow (P:=P) w t eD.type e i z hu hi hz ⟨g,0,none⟩ ys.length cap (cL cs 0 (ys.length*sz α)) (by rw[lp];exact FW) holds ⟨sb,so,none⟩ zs.length c news hnl hnews (by omega) (by omega)
       (growslice_fits (by omega) (by rw[hby];exact hlen))
      have hfr:=fresh _ (grownCap w (ys.length+zs.length) cap e) _ FW wS rfl (grownCap_ge w _ _ e);refine⟨_,_,hr,hfr,?_,?_⟩
      ·exact(uR w _).ext.mono (λb hb h=>h.elim)
      ·intro b hb;simp only[c4,Value.ownBlock,Option.some.injEq] at hb;exact .inr (by omega)
 obtain⟨v',w',hrun,hpost⟩:=key;refine⟨v',w',.inl ?_,hpost⟩;unfold execOp;rw[f_];simp[hρ _ _ hx,hρ _ _ hy,resolve,invoke,builtin,hrun]
end
def cl:Code->Code| .seq a _=>a| .cond _ a _=>a| .block _ b=>b| .loop b=>b| .scope b=>b|c=>c
def aH:Code->Code| .seq _ b=>b| .cond _ _ b=>b|c=>c
def dL:Code->Array Oper| .region _ ops _=>ops|_=>#[]
def bZ (fn:Func):Code:=match fn.body with|some c=>c|none=> .skip
section
variable {P:Program} {f:FuncId} {N:Nat} {k:List Item} {env:Env} {w w':World} {R:Value->World->Prop} {Q:Exit->Act->World->Prop}
variable {ops:Array Oper} {S:World->Prop} {i t:Nat} {L:List (Nat×Bool)} {op:Op} {v:Value} {x y z:Operand} {g:Option (Nat×Bool)}
theorem eG (hop:cq ops i=some (some t,op,g)) (hw:fR ops env g=some true) (ht:Nat.blt t N=true)
 (hy:∀w',S w'->cH P N env op w' v) (h:bK P N Q ops S L ((t,v)::env) w):bK P N Q ops S ((i,true)::L) env w:=ak.yield hop hw ht hy h
theorem Ta (hop:cq ops i=some (some t,op,g)) (hw:fR ops env g=some false) (ht:Nat.blt t N=true)
 (h:bK P N Q ops S L ((t,undef)::env) w):bK P N Q ops S ((i,true)::L) env w:=ak.pass hop hw ht h
theorem eo (hop:cq ops i=some (some t,op,g)) (hw:fR ops env g=some false) (ht:Nat.blt t N=true) (hS:S w)
 (h:bK P N Q ops S L ((t,undef)::env) w):bK P N Q ops S ((i,false)::L) env w:=ak.SY hop hw ht hS h
theorem iN (hop:cq ops i=some (some t,op,g)) (hw:fR ops env g=some true) (ht:Nat.blt t N=true) (hS:S w)
 (hy:cH P N env op w v) (h:bK P N Q ops S L ((t,v)::env) w):bK P N Q ops S ((i,false)::L) env w:=ak.now hop hw ht hS hy h
theorem gK {T:Value->World->Prop} (hop:cq ops i=some (some t,op,g)) (hw:fR ops env g=some true) (ht:Nat.blt t N=true)
 (hy:gM P N env op w T) (h:∀v w',T v w'->S w'/\bK P N Q ops S L ((t,v)::env) w'):bK P N Q ops S ((i,false)::L) env w:=ak.act hop hw ht hy h
theorem nC {T:Value->World->Prop} (hop:cq ops i=some (none,op,g)) (hw:fR ops env g=some true)
 (hy:gM P N env op w T) (h:∀v w',T v w'->S w'/\bK P N Q ops S L env w'):bK P N Q ops S ((i,false)::L) env w:=ak.act hop hw rfl hy h
theorem jQ {gf:FuncId} {args:Array Value} {T:Value->World->Prop} (hop:cq ops i=some (some t,op,g)) (hw:fR ops env g=some true) (ht:Nat.blt t N=true)
 (hy:Enters P N env op w gf args) (hc:Calls P gf args w (bI T))
 (h:∀v w',T v w'->S w'/\bK P N Q ops S L ((t,v)::env) w'):bK P N Q ops S ((i,false)::L) env w:=ak.call hop hw ht hy hc h
theorem Tb {gf:FuncId} {args:Array Value} {T:Value->World->Prop} (hop:cq ops i=some (none,op,g)) (hw:fR ops env g=some true)
 (hy:Enters P N env op w gf args) (hc:Calls P gf args w (bI T))
 (h:∀v w',T v w'->S w'/\bK P N Q ops S L env w'):bK P N Q ops S ((i,false)::L) env w:=ak.call hop hw rfl hy hc h
theorem dy {gf:FuncId} {xs:Array Operand} {ts:Array TypeId} {vs:List Value}
  (lM:∀args w,(callFunc gf args).run P w=.ok (.enter gf args) w) (hargs:nx env xs.toList=some vs):
  Enters P N env (.call {callee:=.value (.func gf),args:=xs,argTypes:=ts}) w gf vs.toArray:=by
 have:=ny (P:=P) (N:=N) (env:=env) (w:=w) (ts:=ts) (x:=.func gf) (cap:=#[]) lM rfl hargs;simpa using this
theorem kp {env':Env} (hs:Sub env' env) (h:Run P f N k env' w R):Run P f N k env w R:=h.sub hs
end
def ax (C:Nat->Nat):Nat->Prop:=λb=>C b≠0
def aL (w:World) (C:Nat->Nat):Prop:=∀b,C b≠0->b<w.heap.size
structure aA (I:List Nat) (w:World) (C:Nat->Nat) (w':World) (aP:Nat->Nat):Prop where
 ext:Ext (λb=>C b∈I) w w'
 col:∀b,b<w.heap.size->aP b=C b
structure cz (w:World) (C:Nat->Nat) (j b:Nat) (o:Obj):Prop where
 col:C b=j
 at_:w.heap[b]?=some o
structure aX {α:Type} [aY α] (w:World) (C:Nat->Nat) (j:Nat) (e:TypeId) (v:Value) (ys:List α):Prop where
 own:jH w (ax C) e v ys
 col:∀b,c4 v b->C b=j
section
variable {α β:Type} [aY α] [aY β] {w w' w'':World} {I J:List Nat} {C aP Ba D:Nat->Nat} {x:α} {xs ys zs:List α} {v u:Value} {b o j n:Nat} {ga KV:Obj} {e:TypeId}
theorem aA.refl (I:List Nat) (w:World) (C:Nat->Nat):aA I w C w C:=⟨Ext.refl _ _,λ_ _=>rfl⟩
theorem aA.uU (h:aL w C):aA [] w C w C:=aA.refl [] w C
theorem aA.trans (h:aA I w C w' aP) (h':aA J w' aP w'' Ba) (hJ:∀c∈J,c∈I):aA I w C w'' Ba:=
 ⟨h.ext.trans h'.ext (λb hb hc=>by rw[h.col b hb] at hc;exact hJ _ hc),λb hb=>(h'.col b (Nat.lt_of_lt_of_le hb h.ext.size)).trans (h.col b hb)⟩
theorem aA.mono (h:aA I w C w' aP) (hI:∀c∈I,c∈J):aA J w C w' aP:=⟨h.ext.mono (λb _ hc=>hI _ hc),h.col⟩
theorem aA.drew (I:List Nat) (w:World) (C:Nat->Nat):aA I w C {w with drawn:=w.drawn+1} C:=⟨Ext.drew _ _,λ_ _=>rfl⟩
theorem aA.size (h:aA I w C w' aP):w.heap.size<=w'.heap.size:=h.ext.size
theorem aL.st (h:aL w C) (hs:aA I w C w' C):aL w' C:=λb hb=>Nat.lt_of_lt_of_le (h b hb) hs.size
theorem aB.st (h:aB w (ax C) x v) (hs:aA I w C w' aP) (h0:0∉I):aB w' (ax aP) x v:=
 aB.ext (h.sub (M':=ax aP) (λb hb hc=>by unfold ax at*;rwa [hs.col b hb] at hc)) hs.ext (λb hb hc=>by unfold ax;rw[hs.col b hb];intro e;rw[e] at hc;exact h0 hc)
theorem dB.st (h:dB w (ax C) x b o) (hs:aA I w C w' aP) (h0:0∉I):dB w' (ax aP) x b o:=
 dB.ext (h.sub (M':=ax aP) (λb hb hc=>by unfold ax at*;rwa [hs.col b hb] at hc)) hs.ext (λb hb hc=>by unfold ax;rw[hs.col b hb];intro e;rw[e] at hc;exact h0 hc)
theorem cz.st (h:cz w C j b ga) (hs:aA I w C w' aP) (hj:j∉I):cz w' aP j b ga:=
 ⟨(hs.col b (qx h.at_)).trans h.col,hs.ext.sB h.at_ (by rw[h.col];exact hj)⟩
theorem aX.st (h:aX w C j e v ys) (hs:aA I w C w' aP) (h0:0∉I) (hj:j∉I):aX w' aP j e v ys:=
 ⟨jH.ext (h.own.sub (M':=ax aP) (λb hb hc=>by unfold ax at*;rwa [hs.col b hb] at hc) (λb hb=>by have:=h.own.ga b hb;unfold ax at*;rw[hs.col b this.2];exact this.1))
   hs.ext (λb hb hc=>by unfold ax;rw[hs.col b hb];intro e;rw[e] at hc;exact h0 hc) (λb hb hc=>by rw[h.col b hb] at hc;exact hj hc),
  λb hb=>(hs.col b (h.own.ga b hb).2).trans (h.col b hb)⟩
theorem aX.nil:aX w C j e (.slice none 0 0) ([]:List α):=⟨jH.nil,λb hb=>by cases hb⟩
def uV (C:Nat->Nat) (b j:Nat):Nat->Nat:=λx=>if x=b then j else C x
def gT (C:Nat->Nat) (v:Value) (j:Nat):Nat->Nat:=λx=>if v.ownBlock=some x then j else C x
theorem New.st (h:New w w' ga) (C:Nat->Nat):aA [] w C w' C:=⟨h.ext.mono (λb _ h=>h.elim),λ_ _=>rfl⟩
theorem New.own (h:New w w' ga) (hF:aL w C) (j:Nat):∃aP,aA [] w C w' aP/\cz w' aP j w.heap.size ga/\aL w' aP:=
 ⟨uV C w.heap.size j,⟨h.ext.mono (λb _ h=>h.elim),λb hb=>by unfold uV;rw[if_neg (by omega)]⟩,⟨by simp[uV],h.at_⟩,λb hb=>by
  unfold uV at hb;rw[h.size];split at hb
  ·omega
  ·have:=hF b hb;omega⟩
theorem wR.own (h:wR w w' b KV) (ho:cz w C j b ga):aA [j] w C w' C/\cz w' C j b KV:=
 ⟨⟨h.ext.mono (λc _ hc=>by rw[show c=b from hc,ho.col];simp),λ_ _=>rfl⟩,⟨ho.col,h.at_⟩⟩
variable {P:Program} {N:Nat} {env:Env} {y z q:Operand} {t:TypeId}
theorem dO {cs:List Value} (hF:aL w C) (j:Nat) (hx:ev env y=some v) (hc:v.cells=cs.toArray):
  gM P N env (.box t y) w (λu w'=>∃aP b,u=.pointer (some ⟨b,0,none⟩)/\aA [] w C w' aP/\cz w' aP j b (.cells cs.toArray t)/\aL w' aP):=λa ha o ho=>by
 obtain⟨u,w',h1,rfl,h2⟩:=KR (P:=P) (N:=N) (t:=t) (w:=w) hx hc a ha o ho;obtain⟨aP,h3,h4,h5⟩:=h2.own hF j;exact⟨_,w',h1,aP,_,rfl,h3,h4,h5⟩
theorem dR {cs:List Value} (hF:aL w C) (j:Nat) (hz:sD P t=some cs):
  gM P N env (.alloc t) w (λu w'=>∃aP b,u=.pointer (some ⟨b,0,none⟩)/\aA [] w C w' aP/\cz w' aP j b (.cells cs.toArray t)/\aL w' aP):=λa ha o ho=>by
 obtain⟨u,w',h1,rfl,h2⟩:=S9 (P:=P) (N:=N) (env:=env) (t:=t) (w:=w) hz a ha o ho;obtain⟨aP,h3,h4,h5⟩:=h2.own hF j;exact⟨_,w',h1,aP,_,rfl,h3,h4,h5⟩
theorem jh {cs:List Value} {ty:TypeId} (hx:ev env y=some (.pointer (some ⟨b,o,none⟩))) (hy:ev env z=some v) (hs:gN P t=some 1)
  (hv:v.cells=#[v]) (h1:v.oneCell'=true) (hb:cz w C j b (.cells cs.toArray ty)) (ho:o<cs.length):
  gM P N env (.store t y z) w (λu w'=>u=undef/\aA [j] w C w' C/\cz w' C j b (.cells (cs.set o v).toArray ty)):=λa ha eD f_=>by
 obtain⟨u,w',h2,h3,h4⟩:=KS (P:=P) (N:=N) (w:=w) hx hy hs hv h1 hb.at_ ho a ha eD f_;exact⟨u,w',h2,h3,h4.own hb⟩
theorem Tc {cs vs:List Value} {ty:TypeId} (hx:ev env y=some (.pointer (some ⟨b,o,none⟩))) (hy:ev env z=some v) (hs:gN P t=some n)
  (hv:v.cells=vs.toArray) (hl:vs.length=n) (h1:∀u∈vs,u.oneCell'=true) (hb:cz w C j b (.cells cs.toArray ty)) (ho:o+n<=cs.length):
  gM P N env (.store t y z) w (λu w'=>u=undef/\aA [j] w C w' C/\cz w' C j b (.cells (cs.take o++vs++cs.drop (o+n)).toArray ty)):=λa ha eD f_=>by
 obtain⟨u,w',h2,h3,h4⟩:=FU (P:=P) (N:=N) (w:=w) hx hy hs hv hl h1 hb.at_ ho a ha eD f_;exact⟨u,w',h2,h3,h4.own hb⟩
theorem gU {bytes:Nat} {s:Value} (hF:aL w C) (hj:j≠0) (hx:ev env y=some v) (hy:ev env z=some s) (hrow:om P t e (sz α) bytes=true) (hsz:0<sz α)
  (hown:aX w C j e v ys) (hsrc:aB w (ax C) zs s) (hlen: (ys.length+zs.length)*bytes<=140737488355328) (h63:ys.length+zs.length<=140737488355328):
  gM P N env (.call {callee:=.builtin .append,args:=#[y,z],argTypes:=#[t,t]}) w (λv' w'=>∃aP,aA [j] w C w' aP/\aX w' aP j e v' (ys++zs)/\aL w' aP):=λa ha eD f_=>by
 obtain⟨v',w',h1,h2,h3,h4⟩:=KT (P:=P) (N:=N) hx hy hrow hsz hown.own hsrc hlen h63 a ha eD f_;have ki:∀b,b<w.heap.size->gT C v' j b=C b:=λb hb=>by
  unfold gT;split
  ·rename_i e;rcases h4 b e with h|h
   ·exact(hown.col b h).symm
   ·omega
  ·rfl
 refine⟨v',w',h1,gT C v' j,⟨h3.mono (λb _ hb=>by rw[hown.col b hb];simp),ki⟩,⟨h2.sub (λb hb hc=>?_) (λb hb=>?_),λb hb=>?_⟩,λb hb=>?_⟩
 ·by_cases ho:c4 v' b
  ·exact .inl ho
  ·right;unfold ax gT at hc;rw[if_neg (show¬v'.ownBlock=some b from ho)] at hc;exact hc
 ·unfold ax gT;rw[if_pos (show v'.ownBlock=some b from hb)];exact hj
 ·unfold gT;rw[if_pos (show v'.ownBlock=some b from hb)]
 ·by_cases ho:c4 v' b
  ·exact(h2.ga b ho).2
  ·unfold gT at hb;rw[if_neg (show¬v'.ownBlock=some b from ho)] at hb;exact Nat.lt_of_lt_of_le (hF b hb) h3.size
def bz (C:Nat->Nat):Nat->Nat:=λb=>if C b=0 then 0 else 1
def dV (C:Nat->Nat) (i:Nat):Nat->Nat:=λb=>if C b=0 then 0 else if C b=i then 2 else 1
theorem KW (C:Nat->Nat) (b:Nat):bz C b≠0↔C b≠0:=by unfold bz;split<;>simp_all
theorem KX (C:Nat->Nat) (i b:Nat):dV C i b≠0↔C b≠0:=by unfold dV;split<;>(try split)<;>simp_all
theorem ez (C:Nat->Nat):ax (bz C)=ax C:=by funext b;exact propext (KW C b)
theorem qA (C:Nat->Nat) (i:Nat):ax (dV C i)=ax C:=by funext b;exact propext (KX C i b)
theorem aL.bz (h:aL w C):aL w (bz C):=λb hb=>h b ((KW C b).1 hb)
theorem aL.dV (h:aL w C) (i:Nat):aL w (dV C i):=λb hb=>h b ((KX C i b).1 hb)
theorem cz.dV {i:Nat} (h:cz w C i b ga) (hi:i≠0):cz w (dV C i) 2 b ga:=⟨by unfold K.dV;rw[if_neg (by rw[h.col];exact hi),if_pos h.col],h.at_⟩
theorem aA.cm (h:aA I w (bz C) w' aP) (hI:∀c∈I,2<=c):aA [] w C w' C:=⟨h.ext.mono (λb _ hc=>by
 have:=hI _ hc;unfold K.bz at this;split at this<;>omega),λ_ _=>rfl⟩
theorem aA.oq {i:Nat} (h:aA I w (dV C i) w' aP) (hI:∀c∈I,2<=c):aA [i] w C w' C:=⟨h.ext.mono (λb _ hc=>by
 have:=hI _ hc;simp only[List.mem_singleton];unfold K.dV at this;split at this
 ·omega
 ·split at this
  ·assumption
  ·omega),λ_ _=>rfl⟩
theorem aA.FX (hs:aA I w D w' aP) (hF:aL w C) (hD:ax D=ax C):∀b,C b≠0->b<w.heap.size/\aP b=D b/\D b≠0:=λb hb=>by
 have h1:=hF b hb;refine⟨h1,hs.col b h1,?_⟩;have:ax D b:=by rw[hD];exact hb
 exact this
theorem aB.out (h:aB w' (ax aP) x v) (hs:aA I w D w' aP) (hF:aL w C) (hD:ax D=ax C):aB w' (ax C) x v:=
 h.sub (λb _ hb=>by obtain⟨h1,h2,h3⟩:=hs.FX hF hD b hb;unfold ax;rw[h2];exact h3)
theorem aX.out (h:aX w' aP j e v ys) (hs:aA I w D w' aP) (hF:aL w C) (hD:ax D=ax C) (hj:∀b,b<w.heap.size->D b≠j) (hl:ys.length<=9223372036854775807):aB w' (ax C) ys v:=
 h.own.read (λb _ hb=>by
  obtain⟨h1,h2,h3⟩:=hs.FX hF hD b hb;exact⟨by unfold ax;rw[h2];exact h3,λho=>hj b h1 (by rw[<-h2];exact h.col b ho)⟩) hl
theorem iY (C:Nat->Nat) {j:Nat} (hj:2<=j) (b:Nat):bz C b≠j:=by unfold bz;split<;>omega
theorem uW (C:Nat->Nat) (i:Nat) {j:Nat} (hj:3<=j) (b:Nat):dV C i b≠j:=by unfold dV;split<;>(try split)<;>omega
theorem dB.stay (h:dB w (ax C) x b o) (hS:Ext (λb=>C b∈I) w w') (h0:0∉I):w'.heap[b]?=w.heap[b]?:=by
 obtain⟨hb,cs,ty,eF,hc,_⟩:=h;exact hS.block b (qx hc) (λhm=>hb (λe=>h0 (by rw[e] at hm;exact hm)))
theorem cz.stay (h:cz w C j b ga) (hS:Ext (λb=>C b∈I) w w') (hj:j∉I):w'.heap[b]?=some ga:=
 hS.sB h.at_ (by rw[h.col];exact hj)
theorem aX.bU (h:aX w C j e v ys) (hy:ev env y=some v) {d:TypeId} (ht:P.underlying t=some (.slice d)):
  ∀w',cH P N env (.call {callee:=.builtin .len,args:=#[y],argTypes:=#[t]}) w' (.int .i64 ys.length):=λw'=>by
 obtain⟨a,c,rfl⟩:=h.own.len;exact wP hy ht
end
section
variable {P:Program} {f:FuncId} {N:Nat} {k:List Item} {env:Env} {w:World} {R:Value->World->Prop} {Q:Exit->Act->World->Prop}
theorem dD {c:Code} {id:Nat} {ops:Array Oper} (I:List Nat) (C:Nat->Nat) (L:List (Nat×Bool)) (hm:P.follows .mixedOrders=true) (hc:c=.region id ops true)
  (hn:Region.noSelect ops=true) (hk:KK ops ops.size (Array.replicate ops.size false) L=true)
  (h:∀w₁,aA [] w C w₁ C->ak P f N k R ops (λw'=>Ext (λb=>C b∈I) w₁ w') L env w₁):Run P f N (.code c::k) env w R:=
 SV _ L hm hc hn hk (Ext.refl _ _) (h _ (aA.drew [] w C))
theorem Td {c:Code} {id:Nat} {ops:Array Oper} (I:List Nat) (C:Nat->Nat) (A:List Nat) (i:Nat) (L:List (Nat×Bool)) (i':Nat) (L':List (Nat×Bool)) (hm:P.follows .mixedOrders=true) (hc:c=.region id ops true)
  (hn:Region.noSelect ops=true) (hk:KM ops i L i' L' ops.size (Array.replicate ops.size false) A=true)
  (h:∀w₁,aA [] w C w₁ C->ak P f N k R ops (λw'=>Ext (λb=>C b∈I) w₁ w') (A.map (λj=>(j,true))++(i,false)::L) env w₁)
  (h':∀w₁,aA [] w C w₁ C->ak P f N k R ops (λw'=>Ext (λb=>C b∈I) w₁ w') (A.map (λj=>(j,true))++(i',false)::L') env w₁):Run P f N (.code c::k) env w R:=
 SX _ A i L i' L' hm hc hn hk (Ext.refl _ _) (h _ (aA.drew [] w C)) (h' _ (aA.drew [] w C))
end
section
variable {α:Type} [aY α] {P:Program} {f:FuncId} {N:Nat} {k:List Item} {env:Env} {w:World} {R:Value->World->Prop} {Q:Exit->Act->World->Prop}
variable {ops:Array Oper} {S:World->Prop} {i t:Nat} {L:List (Nat×Bool)} {v:Value} {y z:Operand} {g:Option (Nat×Bool)} {ty e:TypeId} {M:Nat->Prop} {x:α} {xs:List α} {b o:Nat} {kd:IntKind} {n:Int}
theorem iS {w1:World} (hop:cq ops i=some (some t,.indexAddr ty y z,g)) (hw:fR ops env g=some true) (ht:Nat.blt t N=true) (hl:aB w1 M xs v) (hy:ev env y=some v)
  (hf:h_ P ty=some (e,sz α)) (hz:ev env z=some (.int kd n)) (h0:0<=n) (h1:n<xs.length)
  (h:∀b o,dB w1 M (xs[n.toNat]'(by omega)) b o->bK P N Q ops S L ((t,.pointer (some ⟨b,o,none⟩))::env) w):bK P N Q ops S ((i,true)::L) env w:=by
 obtain⟨b,o,h2,h3⟩:=hl.index (P:=P) (N:=N) hy hf hz h0 h1;exact eG hop hw ht (λw' _=>h3 w') (h b o h2)
theorem iy (hop:cq ops i=some (some t,.load ty y,g)) (hw:fR ops env g=some true) (ht:Nat.blt t N=true) (hS:S w) (hr:dB w M x b o) (ha:iw P ty=some false) (hx:aY.agg α=false)
  (hy:ev env y=some (.pointer (some ⟨b,o,none⟩))) (h:∀v,aB w M x v->bK P N Q ops S L ((t,v)::env) w):bK P N Q ops S ((i,false)::L) env w:=by
 obtain⟨v,h2,h3⟩:=hr.load (P:=P) (N:=N) ha hx hy;exact iN hop hw ht hS (h3 w rfl) (h v h2)
theorem iO {w1:World} (hop:cq ops i=some (some t,.load ty y,g)) (hw:fR ops env g=some true) (ht:Nat.blt t N=true) (hst:∀w',S w'->w'.heap[b]?=w1.heap[b]?) (hr:dB w1 M x b o) (ha:iw P ty=some false) (hx:aY.agg α=false)
  (hy:ev env y=some (.pointer (some ⟨b,o,none⟩))) (h:∀v,aB w1 M x v->bK P N Q ops S L ((t,v)::env) w):bK P N Q ops S ((i,true)::L) env w:=by
 obtain⟨v,h2,h3⟩:=hr.load (P:=P) (N:=N) ha hx hy;exact eG hop hw ht (λw' hS=>h3 w' (hst w' hS)) (h v h2)
theorem ic (hop:cq ops i=some (some t,.load ty y,g)) (hw:fR ops env g=some true) (ht:Nat.blt t N=true) (hS:S w) (hr:dB w M x b o) (ha:iw P ty=some true) (hs:gN P ty=some (sz α)) (hx:aY.agg α=true)
  (hy:ev env y=some (.pointer (some ⟨b,o,none⟩))) (h:∀v,aB w M x v->bK P N Q ops S L ((t,v)::env) w):bK P N Q ops S ((i,false)::L) env w:=by
 obtain⟨v,h2,h3⟩:=hr.A0 (P:=P) (N:=N) ha hs hx hy;exact iN hop hw ht hS (h3 w rfl) (h v h2)
theorem j3 {w1:World} (hop:cq ops i=some (some t,.load ty y,g)) (hw:fR ops env g=some true) (ht:Nat.blt t N=true) (hst:∀w',S w'->w'.heap[b]?=w1.heap[b]?) (hr:dB w1 M x b o) (ha:iw P ty=some true) (hs:gN P ty=some (sz α)) (hx:aY.agg α=true)
  (hy:ev env y=some (.pointer (some ⟨b,o,none⟩))) (h:∀v,aB w1 M x v->bK P N Q ops S L ((t,v)::env) w):bK P N Q ops S ((i,true)::L) env w:=by
 obtain⟨v,h2,h3⟩:=hr.A0 (P:=P) (N:=N) ha hs hx hy;exact eG hop hw ht (λw' hS=>h3 w' (hst w' hS)) (h v h2)
end
def cO (n:Nat) (C:Nat->Nat):Nat->Nat:=λb=>if n<=C b then 0 else C b
section
variable {α:Type} [aY α] {w w' w₀:World} {I:List Nat} {C aP jR:Nat->Nat} {x:α} {ys:List α} {v:Value} {b o j n:Nat} {ga:Obj} {e:TypeId}
theorem yQ (h:ax (cO n C) b):ax C b/\C b<n:=by
 unfold ax cO at*;split at h
 ·exact absurd rfl h
 ·exact⟨h,by omega⟩
theorem aL.cO (h:aL w C) (n:Nat):aL w (cO n C):=λb hb=>h b (yQ hb).1
theorem aB.cO (h:aB w (ax C) x v) (n:Nat):aB w (ax (K.cO n C)) x v:=h.sub (λb _ hb=>(yQ hb).1)
theorem aX.cO (h:aX w C j e v ys) (hj:n<=j) (hl:ys.length<=9223372036854775807):aB w (ax (K.cO n C)) ys v:=
 h.own.read (λb _ hb=>⟨(yQ hb).1,λho=>by have:=(yQ hb).2;rw[h.col b ho] at this;omega⟩) hl
theorem aX.Bb (h:aX w C j e v ys) (hj:j<n):aX w (K.cO n C) j e v ys:=
 ⟨h.own.sub (λb _ hb=>(yQ hb).1) (λb hb=>by unfold ax K.cO;rw[h.col b hb,if_neg (by omega)];have:=(h.own.ga b hb).1;unfold ax at this;rw[h.col b hb] at this;exact this),
  λb hb=>by unfold K.cO;rw[h.col b hb,if_neg (by omega)]⟩
theorem cz.cO (h:cz w C j b ga) (hj:j<n):cz w (K.cO n C) j b ga:=⟨by unfold K.cO;rw[h.col,if_neg (by omega)],h.at_⟩
theorem aA.cO (h:aA I w₀ jR w C) (h0:∀b,jR b<n):aA I w₀ jR w (K.cO n C):=
 ⟨h.ext,λb hb=>by unfold K.cO;rw[h.col b hb,if_neg (by have:=h0 b;omega)]⟩
theorem Bc (C:Nat->Nat) (i b:Nat):dV C i b<3:=by unfold dV;split<;>(try split)<;>omega
theorem KY (C:Nat->Nat) (b:Nat):bz C b<2:=by unfold bz;split<;>omega
theorem aX.one (h:aX w C j e v ys):v.cells=#[v]/\v.oneCell'=true:=by
 obtain⟨a,c,rfl⟩:=h.own.len;exact⟨rfl,rfl⟩
end
theorem Te {env env':Env} {t:Nat} {v:Value} (h:look env t=none) (hs:Sub env env'):Sub env ((t,v)::env'):=λs x hx=>by
 simp only[look];cases hb:Nat.beq t s with
 |true=>rw[Nat.eq_of_beq_eq_true hb,hx] at h;cases h
 |false=>exact hs s x hx
section
variable {P:Program} {f:FuncId} {N:Nat} {k:List Item} {env:Env} {w:World} {R:Value->World->Prop} {Q:Exit->Act->World->Prop} {p:Prop} [Decidable p] {op:Op}
theorem p9 (t:Nat) (b:Bool) (C:Nat->Nat) {c:Code}
  (Tf: (∀w' env' v,aA [] w C w' C->look env' t=some v->v=.bool b->Sub env env'->Run P f N k env' w' R)->Run P f N (.code c::k) env w R)
  (Tg:∀w',aA [] w C w' C->Run P f N k ((t,.bool b)::env) w' R):Run P f N (.code c::k) env w R:=
 Tf λw' env' v hs hl hv hsub=>(Tg w' hs).sub λs x hx=>by
  simp only[look] at hx;cases hb:Nat.beq t s with
  |true=>
   rw[hb] at hx;simp only[cond_true,Option.some.injEq] at hx;rw[<-Nat.eq_of_beq_eq_true hb,hl,hv,hx]
  |false=>rw[hb] at hx;exact hsub s x hx
theorem eV {v v':Value} (h:cH P N env op w v) (e:v=v'):cH P N env op w v':=e▸h
theorem ff (h:cH P N env op w (.bool (decide p))) (hp:p):cH P N env op w (.bool true):=by rwa [decide_eq_true hp] at h
theorem gL (h:cH P N env op w (.bool (decide p))) (hp:¬p):cH P N env op w (.bool false):=by rwa [decide_eq_false hp] at h
end
abbrev af (i:Nat):Nat×Bool:=(i,true)
abbrev nn (i:Nat):Nat×Bool:=(i,false)
section
variable {ops:Array Oper} {i:Nat}
theorem au (t:Nat) (op:Op) (h:cq ops i=some (some t,op,none):=by kernel_rfl):cq ops i=some (some t,op,none):=h
theorem aO (t:Nat) (op:Op) (g:Nat) (b:Bool) (h:cq ops i=some (some t,op,some (g,b)):=by kernel_rfl):cq ops i=some (some t,op,some (g,b)):=h
theorem k0 (op:Op) (h:cq ops i=some (none,op,none):=by kernel_rfl):cq ops i=some (none,op,none):=h
end
def Bd (c:Code) (d:Bool):Bool:=match c with| .region _ _ d'=>d'==d|_=>false
theorem FY {c:Code} {d:Bool} (h:Bd c d=true):∃id,c=.region id (dL c) d:=by
 cases c with
 |region id ops d'=>exact⟨id,by unfold Bd at h;simp only[beq_iff_eq] at h;subst h;rfl⟩
 |_=>cases h
section
variable {P:Program} {f:FuncId} {N:Nat} {k:List Item} {env:Env} {w w':World} {R:Value->World->Prop} {Q:Exit->Act->World->Prop}
variable {ops:Array Oper} {S:World->Prop} {i t:Nat} {L:List (Nat×Bool)} {op:Op} {v:Value} {x y z:Operand} {g:Option (Nat×Bool)}
theorem ay (hop:cq ops i=some (some t,op,g)) (hy:∀w',cH P N env op w' v) (h:bK P N Q ops S L ((t,v)::env) w) (hw:fR ops env g=some true:=by rfl) (ht:Nat.blt t N=true:=by rfl):
 bK P N Q ops S ((i,true)::L) env w:=eG hop hw ht (λw' _=>hy w') h
theorem aq {c:Code} (L:List (Nat×Bool)) (h:ak P f N k R (dL c) (λ_=>True) L env w) (hc:Bd c false=true:=by kernel_rfl) (hL:L.map (·.1)=List.range (dL c).size:=by kernel_rfl):Run P f N (.code c::k) env w R:=by
 obtain⟨id,e⟩:=FY hc;exact SU L e hL h
def KZ (c:Code):Bool:=match c with| .seq _ _=>true|_=>false
def DH (c:Code) (i:Nat):Bool:=match c with| .block j _=>Nat.beq j i|_=>false
def Ti (c:Code):Bool:=match c with| .skip=>true|_=>false
def K0 (c:Code) (i:Nat):Bool:=match c with| .exit j=>Nat.beq j i|_=>false
def Tj (c:Code):Bool:=match c with| .loop _=>true|_=>false
def rR (c:Code):Operand:=match c with| .cond o _ _=>o|_=> .tmp 0
def yR (c:Code) (i:Nat):Bool:=match c with| .cond (.tmp j) _ _=>Nat.beq j i|_=>false
theorem aj {c:Code} (h:Run P f N (.code (cl c):: .code (aH c)::k) env w R) (hc:KZ c=true:=by kernel_rfl):Run P f N (.code c::k) env w R:=
 run_seq (by cases c with|seq a b=>rfl|_=>cases hc) h
theorem bD {c:Code} (id:Nat) (h:Run P f N (.code (cl c):: .inBlock id::k) env w R) (hc:DH c id=true:=by kernel_rfl):Run P f N (.code c::k) env w R:=
 SM (by cases c with|block a b=>simp only[DH] at hc;rw[Nat.eq_of_beq_eq_true hc];rfl|_=>cases hc) h
theorem bq {c:Code} (h:Run P f N k env w R) (hc:Ti c=true:=by kernel_rfl):Run P f N (.code c::k) env w R:=
 SN (by cases c with|skip=>rfl|_=>cases hc) h
theorem cB {c:Code} (id:Nat) {k':List Item} (h:Run P f N k' env w R) (hc:K0 c id=true:=by kernel_rfl) (hk:exitTo id k=some k':=by exact rfl):Run P f N (.code c::k) env w R:=
 SP (by cases c with|exit a=>simp only[K0] at hc;rw[Nat.eq_of_beq_eq_true hc]|_=>cases hc) hk h
theorem DI {c:Code} {t:Nat} (hc:yR c t=true):c=.cond (.tmp t) (cl c) (aH c):=by
 cases c with
 |cond o a b=>cases o with|tmp j=>simp only[yR] at hc;rw[Nat.eq_of_beq_eq_true hc];rfl|_=>cases hc
 |_=>cases hc
theorem bQ {c:Code} (t:Nat) {p:Prop} [Decidable p] (hv:look env t=some (.bool (decide p))) (ht:p->Run P f N (.code (cl c)::k) env w R) (hf:¬p->Run P f N (.code (aH c)::k) env w R) (hc:yR c t=true:=by kernel_rfl):Run P f N (.code c::k) env w R:=
 SQ (DI hc) hv ht hf
theorem nD {c:Code} (t:Nat) {b:Bool} (hv:look env t=some (.bool b)) (ht:b=true->Run P f N (.code (cl c)::k) env w R) (hf:b=false->Run P f N (.code (aH c)::k) env w R) (hc:yR c t=true:=by kernel_rfl):Run P f N (.code c::k) env w R:=
 AZ (DI hc) hv ht hf
theorem lq {c:Code} (t:Nat) (h:Run P f N (.code (cl c)::k) env w R) (hc:yR c t=true:=by kernel_rfl) (hv:look env t=some (.bool true):=by exact rfl):Run P f N (.code c::k) env w R:=
 AZ (DI hc) hv (λ_=>h) (λh=>by cases h)
theorem cQ {c:Code} (t:Nat) (h:Run P f N (.code (aH c)::k) env w R) (hc:yR c t=true:=by kernel_rfl) (hv:look env t=some (.bool false):=by exact rfl):Run P f N (.code c::k) env w R:=
 AZ (DI hc) hv (λh=>by cases h) (λ_=>h)
theorem cM {c:Code} {ι:Type} (I:ι->World->Prop) (e:ι->Env) (m:ι->Nat) (cE:ι) (hs:Sub (e cE) env) (h0:I cE w)
 (hr:∀x w,I x w->(∀y w',I y w'->m y<m x->Run P f N (.inLoop (cl c)::k) (e y) w' R)->Run P f N (.code (cl c):: .inLoop (cl c)::k) (e x) w R) (hc:Tj c=true:=by kernel_rfl):
 Run P f N (.code c::k) env w R:=SR I e m cE (by cases c with|loop b=>rfl|_=>cases hc) hs h0 hr
theorem ah (t a:Nat) (h:bK P N Q ops S L ((t,v)::env) w) (hop:cq ops i=some (some t,.move (.tmp a),none):=by kernel_rfl) (hy:look env a=some v:=by exact rfl) (ht:Nat.blt t N=true:=by rfl):
 bK P N Q ops S ((i,true)::L) env w:=ay hop (λ_=>rD hy) h rfl ht
theorem aD (t a:Nat) (h:bK P N Q ops S L ((t,v)::env) w) (hop:cq ops i=some (some t,.assign (.tmp a),none):=by kernel_rfl) (hy:look env a=some v:=by exact rfl) (ht:Nat.blt t N=true:=by rfl):
 bK P N Q ops S ((i,true)::L) env w:=ay hop (λ_=>pn hy) h rfl ht
theorem aZ (t:Nat) (v:Value) (h:bK P N Q ops S L ((t,v)::env) w) (hop:cq ops i=some (some t,.assign (.const v),none):=by kernel_rfl) (ht:Nat.blt t N=true:=by rfl):
 bK P N Q ops S ((i,true)::L) env w:=ay hop (λ_=>pn rfl) h rfl ht
theorem gi (t a:Nat) {q:Addr} (h:bK P N Q ops S L ((t,.pointer (some q))::env) w) (hop:cq ops i=some (some t,.nilCheck (.tmp a),none):=by kernel_rfl) (hy:look env a=some (.pointer (some q)):=by exact rfl) (ht:Nat.blt t N=true:=by rfl):
 bK P N Q ops S ((i,true)::L) env w:=ay hop (λ_=>FP hy) h rfl ht
theorem cn (t a:Nat) (j:Nat) (b:Bool) (h:bK P N Q ops S L ((t,v)::env) w) (hop:cq ops i=some (some t,.move (.tmp a),some (j,b)):=by kernel_rfl) (hy:look env a=some v:=by exact rfl) (hw:fR ops env (some (j,b))=some true:=by rfl) (ht:Nat.blt t N=true:=by rfl):
 bK P N Q ops S ((i,true)::L) env w:=ay hop (λ_=>rD hy) h hw ht
theorem eY (t a b:Nat) (h:bK P N Q ops S L ((t,v)::env) w) (hop:cq ops i=some (some t,.pick (.tmp a) (.const (.bool true)) (.tmp b),none):=by kernel_rfl) (ha:look env a=some (.bool false):=by exact rfl) (hy:look env b=some v:=by exact rfl) (ht:Nat.blt t N=true:=by rfl):
 bK P N Q ops S ((i,true)::L) env w:=ay hop (λ_=>uO ha hy) h rfl ht
theorem pz (t a b:Nat) (h:bK P N Q ops S L ((t,.bool true)::env) w) (hop:cq ops i=some (some t,.pick (.tmp a) (.const (.bool true)) (.tmp b),none):=by kernel_rfl) (ha:look env a=some (.bool true):=by exact rfl) (ht:Nat.blt t N=true:=by rfl):
 bK P N Q ops S ((i,true)::L) env w:=ay hop (λ_=>wN ha rfl) h rfl ht
theorem dS (t a b:Nat) (h:bK P N Q ops S L ((t,v)::env) w) (hop:cq ops i=some (some t,.pick (.tmp a) (.tmp b) (.const (.bool false)),none):=by kernel_rfl) (ha:look env a=some (.bool true):=by exact rfl) (hy:look env b=some v:=by exact rfl) (ht:Nat.blt t N=true:=by rfl):
 bK P N Q ops S ((i,true)::L) env w:=ay hop (λ_=>wN ha hy) h rfl ht
theorem gn (t a b:Nat) (h:bK P N Q ops S L ((t,.bool false)::env) w) (hop:cq ops i=some (some t,.pick (.tmp a) (.tmp b) (.const (.bool false)),none):=by kernel_rfl) (ha:look env a=some (.bool false):=by exact rfl) (ht:Nat.blt t N=true:=by rfl):
 bK P N Q ops S ((i,true)::L) env w:=ay hop (λ_=>uO ha rfl) h rfl ht
theorem bn (t T a q off:Nat) {b o:Nat} (h:bK P N Q ops S L ((t,.pointer (some ⟨b,o+off,none⟩))::env) w) (hop:cq ops i=some (some t,.fieldAddr T (.tmp a) q,none):=by kernel_rfl) (hf:DB P T q=some off:=by kernel_rfl) (hy:look env a=some (.pointer (some ⟨b,o,none⟩)):=by exact rfl) (ht:Nat.blt t N=true:=by rfl):
 bK P N Q ops S ((i,true)::L) env w:=ay hop (λ_=>yP (off:=off) hf hy) h rfl ht
theorem cW (t T a q off:Nat) (j:Nat) (bb:Bool) {b o:Nat} (h:bK P N Q ops S L ((t,.pointer (some ⟨b,o+off,none⟩))::env) w) (hop:cq ops i=some (some t,.fieldAddr T (.tmp a) q,some (j,bb)):=by kernel_rfl) (hf:DB P T q=some off:=by kernel_rfl) (hy:look env a=some (.pointer (some ⟨b,o,none⟩)):=by exact rfl) (hw:fR ops env (some (j,bb))=some true:=by rfl) (ht:Nat.blt t N=true:=by rfl):
 bK P N Q ops S ((i,true)::L) env w:=ay hop (λ_=>yP (off:=off) hf hy) h hw ht
def DJ (ops:Array Oper) (i:Nat):Option (Option Nat×Option (Nat×Bool)):=(cq ops i).map (λx=>(x.1,x.2.2))
theorem K1 {t:Option Nat} (h:DJ ops i=some (t,g)):∃op,cq ops i=some (t,op,g):=by
 unfold DJ at h;cases hx:cq ops i with
 |none=>rw[hx] at h;cases h
 |some y=>obtain⟨p,q,r⟩:=y;rw[hx] at h;simp only[Option.map_some,Option.some.injEq,Prod.mk.injEq] at h;exact⟨q,by rw[h.1,h.2]⟩
theorem aM (t j:Nat) (b:Bool) (h:bK P N Q ops S L ((t,undef)::env) w) (hop:DJ ops i=some (some t,some (j,b)):=by kernel_rfl) (hw:fR ops env (some (j,b))=some false:=by rfl) (ht:Nat.blt t N=true:=by rfl):
  bK P N Q ops S ((i,true)::L) env w:=by
 obtain⟨op,e⟩:=K1 hop;exact Ta e hw ht h
theorem ai (t:Nat) {v:Value} {env' env:Env} (h:Sub env' env) (hl:look env t=some v:=by exact rfl):Sub ((t,v)::env') env:=aJ t hl rfl h
def DK (z:Env):Nat->Env->Bool
 |0,_=>true
 |n+1,(t,_)::e=>(match look z t with|none=>true|some _=>false)&&DK z n e
 |_+1,[]=>false
theorem K2 (z:Env):∀(n:Nat) (e:Env),e.drop n=z->DK z n e=true->Sub z e
 |0,e,he,_=>by rw[<-he];exact Sub.refl _
 |n+1,(t,v)::e,he,h=>by
  simp only[DK,Bool.and_eq_true] at h;exact Te (by have:=h.1;split at this<;>first|assumption|cases this) (K2 z n e he h.2)
 |_+1,[],_,h=>by cases h
theorem iz (n:Nat) {env env':Env} (he:env'.drop n=env:=by exact rfl) (h:DK env n env'=true:=by kernel_rfl):Sub env env':=K2 env n env' he h
end
section
variable {α:Type} [aY α] {w w' w'':World} {I J:List Nat} {C aP Ba:Nat->Nat} {x:α} {ys:List α} {v:Value} {b o j:Nat} {ga:Obj} {e:TypeId}
theorem aB.t (h:aB w (ax C) x v) (hs:aA I w C w' aP) (h0:0∉I:=by first|decide|(simp<;>omega)):aB w' (ax aP) x v:=h.st hs h0
theorem dB.t (h:dB w (ax C) x b o) (hs:aA I w C w' aP) (h0:0∉I:=by first|decide|(simp<;>omega)):dB w' (ax aP) x b o:=h.st hs h0
theorem cz.t (h:cz w C j b ga) (hs:aA I w C w' aP) (hj:j∉I:=by first|decide|(simp<;>omega)):cz w' aP j b ga:=h.st hs hj
theorem aX.t (h:aX w C j e v ys) (hs:aA I w C w' aP) (h0:0∉I:=by first|decide|(simp<;>omega)) (hj:j∉I:=by first|decide|(simp<;>omega)):aX w' aP j e v ys:=h.st hs h0 hj
theorem aA.t (h:aA I w C w' aP) (h':aA J w' aP w'' Ba) (hJ:∀c∈J,c∈I:=by simp):aA I w C w'' Ba:=h.trans h' hJ
theorem dB.bE (h:dB w (ax C) x b o) (hS:Ext (λb=>C b∈I) w w') (h0:0∉I:=by first|decide|(simp<;>omega)):w'.heap[b]?=w.heap[b]?:=h.stay hS h0
theorem cz.bE (h:cz w C j b ga) (hS:Ext (λb=>C b∈I) w w') (hj:j∉I:=by first|decide|(simp<;>omega)):w'.heap[b]?=some ga:=h.stay hS hj
end
section
variable {P:Program} {f:FuncId} {N:Nat} {k:List Item} {env:Env} {w w':World} {R:Value->World->Prop} {Q:Exit->Act->World->Prop}
variable {ops:Array Oper} {S:World->Prop} {i t:Nat} {L:List (Nat×Bool)} {op:Op} {v:Value} {x y z:Operand} {g:Option (Nat×Bool)}
theorem b7 (t T a:Nat) (c:Int) {m:Int} (h:bK P N Q ops S L ((t,.int .i64 (m+c))::env) w) (hop:cq ops i=some (some t,.binOp .add T (.tmp a) (.const (.int .i64 c)) T,none):=by kernel_rfl) (hy:look env a=some (.int .i64 m):=by exact rfl)
 (h1:-9223372036854775808<=m+c:=by omega) (h2:m+c<=9223372036854775807:=by omega) (ht:Nat.blt t N=true:=by rfl):bK P N Q ops S ((i,true)::L) env w:=ay hop (λ_=>gZ hy rfl h1 h2) h rfl ht
theorem de (t T a b:Nat) {kd:IntKind} {m n:Int} (h:bK P N Q ops S L ((t,.bool (decide (m<n)))::env) w) (hop:cq ops i=some (some t,.binOp .lss T (.tmp a) (.tmp b) T,none):=by kernel_rfl) (hy:look env a=some (.int kd m):=by exact rfl) (hz:look env b=some (.int kd n):=by exact rfl)
 (ht:Nat.blt t N=true:=by rfl):bK P N Q ops S ((i,true)::L) env w:=ay hop (λ_=>fS hy hz) h rfl ht
theorem dW (t a q:Nat) {vs:Array Value} (h:bK P N Q ops S L ((t,v)::env) w) (hop:cq ops i=some (some t,.extract (.tmp a) q,none):=by kernel_rfl) (hy:look env a=some (.tuple vs):=by exact rfl) (hz:vs[q]?=some v:=by exact rfl)
 (ht:Nat.blt t N=true:=by rfl):bK P N Q ops S ((i,true)::L) env w:=ay hop (λ_=>S5 hy hz) h rfl ht
theorem ef (t:Nat) (v:Value) (h:bK P N Q ops S L ((t,v)::env) w) (hop:cq ops i=some (some t,.move (.const v),none):=by kernel_rfl) (ht:Nat.blt t N=true:=by rfl):
 bK P N Q ops S ((i,true)::L) env w:=ay hop (λ_=>rD rfl) h rfl ht
theorem gw (t gf:Nat) (yT tys:List Nat) {vs:List Value} {T:Value->World->Prop} (lM:∀args w,(callFunc gf args).run P w=.ok (.enter gf args) w) (hargs:nx env (yT.map .tmp)=some vs) (hc:Calls P gf vs.toArray w (bI T))
  (h:∀v w',T v w'->S w'/\bK P N Q ops S L ((t,v)::env) w') (hop:cq ops i=some (some t,.call {callee:=.value (.func gf),args:=(yT.map .tmp).toArray,argTypes:=tys.toArray},none):=by kernel_rfl) (ht:Nat.blt t N=true:=by rfl):bK P N Q ops S ((i,false)::L) env w:=
 jQ hop rfl ht (dy lM (by simpa using hargs)) hc h
end
section
variable {P:Program} {N:Nat} {env:Env} {w:World} {Q:Exit->Act->World->Prop} {ops:Array Oper} {i t:Nat} {L:List (Nat×Bool)} {op:Op} {g:Option (Nat×Bool)} {T:Value->World->Prop}
theorem bG (hop:cq ops i=some (some t,op,g)) (hw:fR ops env g=some true) (ht:Nat.blt t N=true) (hy:gM P N env op w T) (h:∀v w',T v w'->bK P N Q ops (λ_=>True) L ((t,v)::env) w'):
 bK P N Q ops (λ_=>True) ((i,false)::L) env w:=gK hop hw ht hy λv w' hT=>⟨trivial,h v w' hT⟩
theorem cg (hop:cq ops i=some (none,op,g)) (hw:fR ops env g=some true) (hy:gM P N env op w T) (h:∀v w',T v w'->bK P N Q ops (λ_=>True) L env w'):
 bK P N Q ops (λ_=>True) ((i,false)::L) env w:=nC hop hw hy λv w' hT=>⟨trivial,h v w' hT⟩
theorem dU {gf:FuncId} {args:Array Value} (hop:cq ops i=some (some t,op,g)) (hw:fR ops env g=some true) (ht:Nat.blt t N=true) (hy:Enters P N env op w gf args) (hc:Calls P gf args w (bI T))
 (h:∀v w',T v w'->bK P N Q ops (λ_=>True) L ((t,v)::env) w'):bK P N Q ops (λ_=>True) ((i,false)::L) env w:=jQ hop hw ht hy hc λv w' hT=>⟨trivial,h v w' hT⟩
theorem uh {gf:FuncId} {args:Array Value} (hop:cq ops i=some (none,op,g)) (hw:fR ops env g=some true) (hy:Enters P N env op w gf args) (hc:Calls P gf args w (bI T))
 (h:∀v w',T v w'->bK P N Q ops (λ_=>True) L env w'):bK P N Q ops (λ_=>True) ((i,false)::L) env w:=Tb hop hw hy hc λv w' hT=>⟨trivial,h v w' hT⟩
theorem bV (t gf:Nat) (yT tys:List Nat) {vs:List Value} (lM:∀args w,(callFunc gf args).run P w=.ok (.enter gf args) w) (hargs:nx env (yT.map .tmp)=some vs) (hc:Calls P gf vs.toArray w (bI T))
 (h:∀v w',T v w'->bK P N Q ops (λ_=>True) L ((t,v)::env) w') (hop:cq ops i=some (some t,.call {callee:=.value (.func gf),args:=(yT.map .tmp).toArray,argTypes:=tys.toArray},none):=by kernel_rfl) (ht:Nat.blt t N=true:=by rfl):
 bK P N Q ops (λ_=>True) ((i,false)::L) env w:=gw t gf yT tys lM hargs hc (λv w' hT=>⟨trivial,h v w' hT⟩) hop ht
end
theorem bW {P:Program} {f:FuncId} {fn:Func} (c:Code) (N:Nat) (args:List Value) {w:World} {R:Value->World->Prop} (hf:P.funcs[f]?=some fn) (h:Run P f N [.code c] (yO 0 args) w R)
 (hb:fn.body=some c:=by kernel_rfl) (hN:fn.ntmps=N:=by kernel_rfl) (hsz:Nat.ble args.length N=true:=by kernel_rfl):Calls P f args.toArray w (bI R):=S4 args hf hb hN hsz h
theorem bR {P:Program} {f:FuncId} {N:Nat} {k:List Item} {env:Env} {w:World} {R:Value->World->Prop} {c:Code} {fn:Func} {t:Nat} {v:Value} (hf:P.funcs[f]?=some fn) (hres:fn.results=#[.tmp t]) (hR:R v w) (hv:look env t=some v:=by exact rfl) (hc:c=.ret:=by kernel_rfl):Run P f N (.code c::k) env w R:=SS hc hf hres hv hR
def tD (place:Nat->Option (Nat×Nat)):List Value->List (Nat×List Value)->Option (List Value)
 |cells,[]=>some cells
 |cells,(i,vs)::rest=>match place i with
  |none=>none
  |some (off,size)=>if vs.length=size/\off+vs.length<=cells.length then tD place (cells.take off++vs++cells.drop (off+vs.length)) rest else none
theorem K3:∀(vs:List Value) (k off:Nat) (cs:List Value),off+k+vs.length<=cs.length->
  ((vs.zipIdx k).foldl (λ(acc:Array Value) (p:Value×Nat)=>acc.setIfInBounds (off+p.2) p.1) cs.toArray)=(cs.take (off+k)++vs++cs.drop (off+k+vs.length)).toArray
 |[],k,off,cs,h=>by simp
 |v::vs,k,off,cs,h=>by
  rw[List.length_cons] at h;rw[List.zipIdx_cons,List.foldl_cons];have e1:cs.toArray.setIfInBounds (off+k) v=(cs.set (off+k) v).toArray:=by simp
  rw[e1,K3 vs (k+1) off (cs.set (off+k) v) (by simp;omega)];congr 1;have hlt:off+k<cs.length:=by omega
  rw[List.set_eq_take_append_cons_drop,if_pos hlt];have e2:off+(k+1)=(cs.take (off+k)).length+1:=by simp;omega
  have eU:off+(k+1)+vs.length=(cs.take (off+k)).length+(1+vs.length):=by simp;omega
  rw[show List.take (off+(k+1)) (cs.take (off+k)++v::cs.drop (off+k+1))=cs.take (off+k)++[v] from by
   rw[e2,List.take_append];simp[Nat.min_eq_left (Nat.le_of_lt hlt),List.take_take,Nat.min_eq_right (Nat.le_succ (off+k))]]
  rw[show List.drop (off+(k+1)+vs.length) (cs.take (off+k)++v::cs.drop (off+k+1))=cs.drop (off+k+(vs.length+1)) from by
   rw[eU,List.drop_append];simp only[Nat.add_sub_cancel_left];rw[List.drop_eq_nil_of_le (by omega),List.nil_append,Nat.add_comm 1,List.drop_succ_cons,List.drop_drop];congr 1;omega]
  simp
theorem fill_eq (place:Nat->Option (Nat×Nat)):∀(ps:List (Nat×Value)) (ei:List (Nat×List Value)) (cs cs':List Value),
  ps.map (λp=>(p.1,p.2.cells))=ei.map (λq=>(q.1,q.2.toArray))->tD place cs ei=some cs'->Instr.fill place cs.toArray ps=some cs'.toArray
 |[],[],cs,cs',_,h=>by simp only[tD,Option.some.injEq] at h;subst h;rfl
 |[],q::ei,_,_,h,_=>by simp at h
 |p::ps,[],_,_,h,_=>by simp at h
 |(i,v)::ps,(j,vs)::ei,cs,cs',h,hf=>by
  simp only[List.map_cons,List.cons.injEq,Prod.mk.injEq] at h;obtain⟨⟨rfl,hv⟩,hr⟩:=h;simp only[tD] at hf;unfold Instr.fill;cases hp:place i with
  |none=>rw[hp] at hf;cases hf
  |some os=>
   obtain⟨off,size⟩:=os;rw[hp] at hf;simp only at hf⊢;split at hf
   ·rename_i hc;rw[hv];have hn:¬(vs.toArray.size≠size\/off+vs.toArray.size>cs.toArray.size):=by simp;omega
    simp only[List.size_toArray] at hn⊢;rw[if_neg (by simpa using hn)];have e: (vs.toArray.zipIdx.foldl (λ(acc:Array Value) (p:Value×Nat)=>acc.setIfInBounds (off+p.2) p.1) cs.toArray)=(cs.take off++vs++cs.drop (off+vs.length)).toArray:=by
     have:=K3 vs 0 off cs (by simpa using hc.2);simpa using this
    rw[show(vs.toArray.zipIdx.foldl (λcs (x:Value×Nat)=>match x with|(c,j)=>cs.setIfInBounds (off+j) c) cs.toArray)=_ from e];exact fill_eq place ps ei _ cs' hr hf
   ·cases hf
def rH (env:Env):List (Nat×Operand)->List (Nat×List Value)->Prop
 |[],[]=>True
 |(i,x)::ps,(j,vs)::ei=>i=j/\(∃v,ev env x=some v/\v.cells=vs.toArray)/\rH env ps ei
 |_,_=>False
def K4 (P:Program) (t:TypeId):Option (List (Nat×Nat)):=match P.underlying t with
 |some (.struct fs)=>fs.toList.mapM λf=>(gN P f.type).map λn=>(f.offset,n)
 |_=>none
section
variable {P:Program} {N:Nat} {env:Env} {w:World} {t:TypeId} {ρ:Operand->Value}
theorem rH.map (hρ:∀x v,ev env x=some v->ρ x=v):∀{ps:List (Nat×Operand)} {ei:List (Nat×List Value)},rH env ps ei->
  (ps.map λp=>(p.1,ρ p.2)).map (λp=>(p.1,p.2.cells))=ei.map (λq=>(q.1,q.2.toArray))
 |[],[],_=>rfl
 |[],_::_,h=>h.elim
 |_::_,[],h=>h.elim
 |(i,x)::ps,(j,vs)::ei,h=>by
  obtain⟨rfl,⟨v,hv,hc⟩,hr⟩:=h;simp only[List.map_cons,hρ x v hv,hc];rw[rH.map hρ hr]
theorem run_map {α β:Type} (g:α->β) (s:Sem α) (w:World): (g<$>s).run P w=(s.run P w).andThen λa w'=> .ok (g a) w':=by
 show(Sem.run P (Sem.bind s (λa=>Sem.pure (g a))) w)=_;exact Sem.run_bind _ _ _ _
theorem run_places {ps:List (Nat×Nat)} {fs:Array Field} (h:fs.toList.mapM (λf=>(gN P f.type).map λn=>(f.offset,n))=some ps) (w:World):
  (fs.mapM λf=>do pure (f.offset,<-sizeOf f.type):Sem (Array (Nat×Nat))).run P w=.ok ps.toArray w:=by
 rw[Array.mapM_eq_mapM_toList];have main:∀(l:List Field) (ps:List (Nat×Nat)),l.mapM (λf=>(gN P f.type).map λn=>(f.offset,n))=some ps->
   (l.mapM λf=>do pure (f.offset,<-sizeOf f.type):Sem (List (Nat×Nat))).run P w=.ok ps w:=by
  intro l
  induction l with
  |nil=>intro ps h;simp at h;subst h;rfl
  |cons f l ih=>
   intro ps h;rw[List.mapM_cons] at h;simp only[Option.bind_eq_bind,Option.bind_eq_some_iff,Option.map_eq_some_iff,Option.pure_def,Option.some.injEq] at h;obtain⟨p,⟨n,hn,rfl⟩,ei,hq,rfl⟩:=h;rw[List.mapM_cons];rw[Sem.run_bind,Sem.run_bind,j0 hn,Result.andThen_ok,Sem.run_pure,Result.andThen_ok,Sem.run_bind,ih ei hq,Result.andThen_ok,Sem.run_pure]
 rw[run_map,main _ _ h];rfl
theorem ig {parts:Array (Nat×Operand)} {zs cs:List Value} {ps:List (Nat×Nat)} {ei:List (Nat×List Value)} (hz:sD P t=some zs) (hp:K4 P t=some ps)
  (hq:rH env parts.toList ei) (hf:tD (ps[·]?) zs ei=some cs):cH P N env (.build t parts) w (.agg cs.toArray):=mk' λρ hρ o ho=>by
 obtain⟨z,h1,h2⟩:=A4 hz w;unfold K4 at hp;split at hp
 ·rename_i fs hu;have rI:=run_places hp w;have hmap:=rH.map hρ hq;have lQ:=fill_eq (ps[·]?) (parts.toList.map λp=>(p.1,ρ p.2)) ei zs cs (by rw[<-hmap]) hf;have FZ:Instr.fill (λx=>ps.toArray[x]?) z.cells (parts.map λx=>(x.1,ρ x.2)).toList=some cs.toArray:=by
   rw[h2];have: (parts.map λx=>(x.1,ρ x.2)).toList=parts.toList.map λp=>(p.1,ρ p.2):=by simp
   rw[this,<-lQ];congr 1;funext x;simp
  unfold execOp;rw[ho];simp only[Instr.build,Sem.run_bind,h1,Result.andThen_ok,run_underlying hu,rI];rw[show(parts.map λx=>match x with|(i,x)=>(i,ρ x)).toList=(parts.map λx=>(x.1,ρ x.2)).toList from rfl,FZ];rfl
 ·cases hp
end
section
variable {α:Type} [aY α] {P:Program} {N:Nat} {env:Env} {w:World} {M:Nat->Prop} {C:Nat->Nat} {t e:TypeId}
def DL (env:Env) (w:World) (M:Nat->Prop):Nat->List (Nat×Operand)->List α->Prop
 |_,[],[]=>True
 |k,(i,x)::ps,y::ys=>i=k/\(∃v,ev env x=some v/\aB w M y v)/\DL env w M (k+1) ps ys
 |_,_,_=>False
theorem aB.cells {x:α} {v:Value} (h:aB w M x v):∃vs,v.cells=vs.toArray/\aY.rep w.heap M x vs:=by
 cases hx:aY.agg α with
 |true=>obtain⟨vs,rfl,_,_,hr⟩:=h.many hx;exact⟨vs,rfl,hr⟩
 |false=>
  have h1:=(h.one hx).1;obtain⟨vs,hr,hv⟩:=h;have hl:=aY.len hr;rw[aY.flat hx] at hl;obtain⟨u,rfl⟩:=List.length_eq_one_iff.1 hl;simp only[hx,Bool.false_eq_true,if_false,List.headD_cons] at hv;subst hv;exact⟨[v],h1,hr⟩
theorem F0:∀{ps:List (Nat×Operand)} {ys:List α} {k:Nat} (pre post:List Value),DL env w M k ps ys->pre.length=k*sz α->post.length=ys.length*sz α->
  ∃ei news,rH env ps ei/\tD (λi=>some (i*sz α,sz α)) (pre++post) ei=some (pre++news)/\news.length=ys.length*sz α/\
   ∀i (hi:i<ys.length),aY.rep w.heap M ys[i] ((news.drop (i*sz α)).take (sz α))
 |[],[],k,pre,post,_,_,hpost=>by
  have:post=[]:=List.eq_nil_of_length_eq_zero (by simpa using hpost);subst this;exact⟨[],[],trivial,by simp[tD],by simp,λi hi=>by simp at hi⟩
 |[],_::_,_,_,_,h,_,_=>h.elim
 |_::_,[],_,_,_,h,_,_=>h.elim
 |(i,x)::ps,y::ys,k,pre,post,h,hpre,hpost=>by
  obtain⟨rfl,⟨v,hv,hr⟩,Tk⟩:=h;obtain⟨vs,hc,qB⟩:=hr.cells;have hl:=aY.len qB;rw[List.length_cons,Nat.succ_mul] at hpost;obtain⟨ei,news,h1,h2,h3,h4⟩:=F0 (k:=i+1) (pre++vs) (post.drop (sz α)) Tk (by rw[List.length_append,hpre,hl,Nat.succ_mul]) (by rw[List.length_drop,hpost];omega);refine⟨(i,vs)::ei,vs++news,⟨rfl,⟨v,hv,hc⟩,h1⟩,?_,?_,?_⟩
  ·simp only[tD];rw[if_pos ⟨hl,by rw[List.length_append,hpre,hl,hpost];omega⟩];rw[show List.take (i*sz α) (pre++post)=pre from by rw[<-hpre];exact List.take_left,show List.drop (i*sz α+vs.length) (pre++post)=post.drop (sz α) from by rw[<-hpre,hl,List.drop_append];simp];rw[h2,List.append_assoc]
  ·rw[List.length_append,hl,h3,List.length_cons,Nat.succ_mul];omega
  ·intro j hj;cases j with
   |zero=>simpa[<-hl] using qB
   |succ j=>
    have:=h4 j (by simpa using hj);rw[show(j+1)*sz α=vs.length+j*sz α from by rw[hl,Nat.succ_mul];omega,List.drop_append,List.drop_eq_nil_of_le (Nat.le_add_right vs.length (j*sz α))];simpa using this
theorem gA {n bytes:Nat} {parts:Array (Nat×Operand)} {ys:List α} (hF:aL w C) (hrow:om P t e (sz α) bytes=true) (hn:n=ys.length) (tE:n*sz α<=16777216) (hsz:0<sz α)
  (hp:DL env w (ax C) 0 parts.toList ys):
  gM P N env (.buildSlice t n parts) w (λv w'=>aA [] w C w' C/\aB w' (ax C) ys v/\aL w' C):=oh λρ hρ eD f_=>by
 subst hn;obtain⟨i,z,hu,hi,hsi,hby,hz,hzs⟩:=tC hrow
 let zs:List Value:=((Array.range (ys.length*sz α)).map λj=>(if ys.length*sz α=0 then(#[]:Array Value) else z.cells)[j%(if ys.length*sz α=0 then(#[]:Array Value) else z.cells).size]!).toList
 obtain⟨ei,news,h1,h2,h3,h4⟩:=F0 (k:=0) [] zs hp (by simp) (by simp[zs]);simp only[List.nil_append] at h2;have hmap:=rH.map hρ h1;have lQ:=fill_eq _ (parts.toList.map λp=>(p.1,ρ p.2)) ei zs news (by rw[<-hmap]) h2;have hnew:=tB w (.cells news.toArray e);have hrun: (Instr.buildSlice t ys.length (parts.map λx=>(x.1,ρ x.2))).run P w=.ok (.slice (some ⟨w.heap.size,0,none⟩) ys.length ys.length) (w.alloc (.cells news.toArray e)):=by
  have hle:¬(ys.length*sz α>2^24):=by omega
  have rI: (parts.map λx=>(x.1,ρ x.2)).toList=parts.toList.map λp=>(p.1,ρ p.2):=by simp
  have Be: (sizeOf e).run P w=.ok (sz α) w:=by simp[sizeOf,typeInfo,hi,hsi]
  unfold Instr.buildSlice;simp only[Sem.run_bind,run_underlying hu,Result.andThen_ok,Be,if_neg hle,Sem.run_pure,rI];by_cases h0:ys.length*sz α=0
  ·have rF:zs=((Array.range (ys.length*sz α)).map λj=>(#[]:Array Value)[j%(#[]:Array Value).size]!).toList:=by simp only[zs,h0,if_true]
   rw[rF] at lQ;simp only[h0,if_true,Sem.run_bind,Sem.run_pure,Result.andThen_ok] at lQ⊢;simp only[Array.toArray_toList] at lQ;rw[lQ];simp[newRow]
  ·have rF:zs=((Array.range (ys.length*sz α)).map λj=>z.cells[j%z.cells.size]!).toList:=by simp only[zs,h0,if_false]
   rw[rF] at lQ;have F1: (zeroValue e).run P w=.ok z w:=by simp[zeroValue,typeInfo,hi,hz]
   simp only[h0,if_false,Sem.run_bind,F1,Sem.run_pure,Result.andThen_ok];simp only[Array.toArray_toList] at lQ;rw[lQ];simp[newRow]
 refine⟨.slice (some ⟨w.heap.size,0,none⟩) ys.length ys.length,w.alloc (.cells news.toArray e),.inl ?_,hnew.st C,?_,hF.st (hnew.st C)⟩
 ·unfold execOp;rw[f_];simp only[Sem.run_bind];rw[show(parts.map λx=>match x with|(i,x)=>(i,ρ x))=(parts.map λx=>(x.1,ρ x.2)) from rfl,hrun];rfl
 ·refine jP.2 ⟨_,_,rfl,Nat.le_refl _,?_,.inr ⟨w.heap.size,0,rfl,λhm=>?_,news.toArray,e,(0,0),hnew.at_,?_,λi hi=>?_⟩⟩
  ·have:ys.length<=ys.length*sz α:=Nat.le_mul_of_pos_right _ hsz;omega
  ·have:=hF _ hm;omega
  ·simp only[Nat.zero_add,List.size_toArray,h3];exact Nat.le_refl _
  ·have:=h4 i hi;rw[Nat.zero_add];exact aY.keep this (λb hb hm=>hnew.ext.block b hb (λh=>h))
end
section
variable {P:Program} {N:Nat} {env:Env} {w:World} {C:Nat->Nat} {y z:Operand} {t ty:TypeId} {v:Value} {b j n:Nat}
theorem dM {cs vs:List Value} (hx:ev env y=some (.pointer (some ⟨b,0,none⟩))) (hy:ev env z=some v) (hs:gN P t=some n)
  (hv:v.cells=vs.toArray) (hl:vs.length=n) (h1:∀u∈vs,u.oneCell'=true) (hb:cz w C j b (.cells cs.toArray ty)) (ho:cs.length=n):
  gM P N env (.store t y z) w (λu w'=>u=undef/\aA [j] w C w' C/\cz w' C j b (.cells vs.toArray ty)):=λa ha eD f_=>by
 obtain⟨u,w',h2,h3,h4,h5⟩:=Tc (P:=P) (N:=N) (w:=w) (o:=0) hx hy hs hv hl h1 hb (by omega) a ha eD f_;have e:List.take 0 cs++vs++List.drop (0+n) cs=vs:=by
  rw[List.drop_eq_nil_of_le (by omega)];simp
 rw[e] at h5;exact⟨u,w',h2,h3,h4,h5⟩
end
structure Raw (n:Nat) where
 vals:List Value
 len:vals.length=n
 one:∀v∈vals,v.oneCell'=true
instance {n:Nat}:aY (Raw n) where
 sz:=n
 agg:=true
 flat h:=by cases h
 rep _ _ x vs:=vs=x.vals
 len h:=by subst h;rename_i x;exact x.len
 one h:=by subst h;rename_i x;exact x.one
 keep h _:=h
 sub h _:=h
structure Block where
 hash:Int
 ids:List Int
instance:aY Block:=aY.via (λb:Block=>((⟨b.hash⟩:iM),b.ids))
structure av where
 a:Int
 b:Int
 deriving DecidableEq
instance:aY av:=aY.via (λc:av=>(c.a,c.b))
section
variable {w:World} {M:Nat->Prop} {b o:Nat} {v:Value}
theorem fN {x:av}:aB w M x v↔v=.agg #[.int .i64 x.a,.int .i64 x.b]:=
 ⟨λh=>by
   obtain⟨vs,⟨us,ws,rfl,h1,h2⟩,hv⟩:=h;have sE:us=[.int .i64 x.a]:=h1;have F2:ws=[.int .i64 x.b]:=h2;subst sE;subst F2;exact hv,
  λh=>⟨[.int .i64 x.a,.int .i64 x.b],⟨_,_,rfl,rfl,rfl⟩,h⟩⟩
end
structure gF where
 list:List Int
 at_:Nat
 state:Int
def gF.x (d:gF):Int:=if h:d.at_<d.list.length then IntKind.u64.wrap d.list[d.at_] else 0
def mix (s x:Int):Int:=IntKind.u64.wrap (IntKind.u64.wrap (IntKind.u64.wrap (s+x)*6364136223846793005)+1442695040888963407)
def F3 (s:Int):Int:=bitsOf .xor .u64 s (s.fdiv (2^min (33:Int).toNat IntKind.u64.bits))
def F4 (y:Int):Int:=bitsOf .xor .u64 y (y.fdiv (2^min (29:Int).toNat IntKind.u64.bits))
def gF.next (d:gF):gF:={list:=d.list,at_:=if d.at_<d.list.length then d.at_+1 else d.at_,state:=mix d.state d.x}
def gF.word (d:gF):Int:=F4 (IntKind.u64.wrap (F3 d.next.state*18397679294719823053))
theorem K5 (n:Int):0<=IntKind.u64.wrap n/\IntKind.u64.wrap n<18446744073709551616:=by
 have h:IntKind.u64.wrap n=n%18446744073709551616:=by simp[IntKind.wrap,IntKind.signed,IntKind.bits]
 rw[h];exact⟨Int.emod_nonneg _ (by decide),Int.emod_lt_of_pos _ (by decide)⟩
theorem gF.Tl (d:gF):0<=d.word/\d.word<18446744073709551616:=K5 _
def gF.num (d:gF) (n:Int):Int:=if n<1 then 0 else(d.word/2)%n
def gF.after (d:gF) (n:Int):gF:=if n<1 then d else d.next
theorem gF.Tm (d:gF) {n:Int} (h:1<=n):0<=d.num n/\d.num n<n:=by
 unfold gF.num;rw[if_neg (by omega)];exact⟨Int.emod_nonneg _ (by omega),Int.emod_lt_of_pos _ (by omega)⟩
theorem gF.Tn (d:gF) (n:Int): (d.after n).list=d.list:=by unfold gF.after;split<;>rfl
def lu (t:TypeId) (w:World) (C:Nat->Nat) (i b:Nat) (d:gF):Prop:=
 d.at_<=d.list.length/\∃v,aB w (ax C) d.list v/\cz w C i b (.cells [v,.int .i64 d.at_,.int .u64 d.state].toArray t)
section
variable {t:TypeId} {w w':World} {C aP:Nat->Nat} {i b:Nat} {d:gF} {I:List Nat}
theorem lu.st (h:lu t w C i b d) (hs:aA I w C w' aP) (h0:0∉I) (hi:i∉I):lu t w' aP i b d:=by
 obtain⟨h1,v,h2,h3⟩:=h;exact⟨h1,v,h2.st hs h0,h3.st hs hi⟩
theorem lu.dV (h:lu t w C i b d) (hi:i≠0):lu t w (dV C i) 2 b d:=by
 obtain⟨h1,v,h2,h3⟩:=h;exact⟨h1,v,by rw[qA];exact h2,h3.dV hi⟩
theorem lu.cO (h:lu t w C i b d) {n:Nat} (hi:i<n):lu t w (K.cO n C) i b d:=by
 obtain⟨h1,v,h2,h3⟩:=h;exact⟨h1,v,h2.cO n,h3.cO hi⟩
theorem lu.out {w₀:World} {jR:Nat->Nat} (h:lu t w' aP 2 b d) (hs:aA I w₀ (K.dV jR i) w' aP) (hF:aL w₀ jR) (hb:jR b=i):lu t w' jR i b d:=by
 obtain⟨h1,v,h2,h3⟩:=h;exact⟨h1,v,h2.out hs hF (qA jR i),⟨hb,h3.at_⟩⟩
end
section
variable {α:Type} [aY α] {w w':World} {C aP:Nat->Nat} {P:Program} {N:Nat} {env:Env} {x y z q:Operand} {t ty e:TypeId} {v u:Value} {xs:List α} {j b g n:Nat}
theorem K6 {zs:List Value} {s:Nat} (hz:zs.length=s) {c i:Nat} (h:i<c):cL (madeCells zs.toArray (c*s)) (i*s) s=zs:=by
 apply List.ext_getElem?;intro k;have hb: (i+1)*s<=c*s:=Nat.mul_le_mul_right s h;rw[Nat.succ_mul] at hb;simp only[cL,List.getElem?_take,List.getElem?_drop];split
 ·rename_i hk;have h1:i*s+k<c*s:=by omega
  have h2: (i*s+k)%s=k:=by rw[Nat.mul_comm,Nat.mul_add_mod];exact Nat.mod_eq_of_lt hk
  simp[madeCells,h1,hz,h2,List.getElem?_eq_getElem (show k<zs.length by omega)]
 ·rename_i hk;rw[List.getElem?_eq_none (by omega)]
theorem Bf {bytes l c:Nat} {kl kc:IntKind} {x0:α} {zs:List Value} (hF:aL w C) (hj:j≠0) (hrow:om P t e (sz α) bytes=true) (yU:sD P e=some zs)
  (hy:ev env y=some (.int kl l)) (hz:ev env z=some (.int kc c)) (hlc:l<=c) (hlen:bytes*c<=140737488355328) (h63:c<=140737488355328) (h0:∀h M,rep h M x0 zs):
  gM P N env (.makeSlice t y z) w (λv w'=>∃aP,aA [] w C w' aP/\aX w' aP j e v (List.replicate l x0)/\aL w' aP):=oh λρ hρ eD f_=>by
 obtain⟨i,j_,hu,hi,hsi,hby,DM,hzs⟩:=tC hrow;have tF:j_.cells=zs.toArray:=by
  unfold sD at yU;rw[hi] at yU;simp[DM] at yU;rw[<-yU]
 have hzl:zs.length=sz α:=by rw[<-hzs,tF];simp
 have hbc: (i.bytes:Int)*c<=281474976710656:=by
  have: ((bytes*c:Nat):Int)<=140737488355328:=by omega
  rw[Int.natCast_mul] at this;rw[hby];omega
 have hr:=run_make (P:=P) w t e i j_ hu hi DM kl kc l c (by omega) (by omega) hbc (by omega);simp only[Int.toNat_natCast,hsi,tF] at hr;have hn:=tB w (.cells (madeCells zs.toArray (c*sz α)) e (0,0));obtain⟨aP,h1,h2,h3⟩:=hn.own hF j;refine⟨_,_,.inl ?_,aP,h1,⟨.inr ⟨w.heap.size,c,madeCells zs.toArray (c*sz α),by rw[List.length_replicate],?_,h2.at_,by rw[List.length_replicate];exact hlc,by simp[madeCells],λk hk=>?_⟩,λb hb=>?_⟩,h3⟩
 ·unfold execOp;rw[f_];simp only[hρ _ _ hy,hρ _ _ hz,Sem.run_bind];rw[hr];rfl
 ·unfold ax;rw[h2.col];exact hj
 ·rw[List.length_replicate] at hk;rw[K6 hzl (show k<c by omega),List.getElem_replicate];exact h0 _ _
 ·simp only[c4,Value.ownBlock,Option.some.injEq] at hb;subst hb;exact h2.col
theorem aX.p_ (h:aX w C j e v xs) (hne:0<xs.length):∃g cap cs,v=.slice (some ⟨g,0,none⟩) xs.length cap/\C g=j/\ax C g/\w.heap[g]?=some (.cells cs e (0,0))/\xs.length<=cap/\cs.size=cap*sz α/\
  ∀i (hi:i<xs.length),rep w.heap (ax C) xs[i] (cL cs (i*sz α) (sz α)):=by
 rcases h.own with⟨_,rfl⟩|⟨g,cap,cs,hv,hg,hc,h1,h2,h3⟩
 ·simp at hne
 ·exact⟨g,cap,cs,hv,h.col g (by subst hv;rfl),hg,hc,h1,h2,h3⟩
theorem aX.index (h:aX w C j e v xs) (hy:ev env y=some v) {e':Nat} {kd:IntKind} {i:Int} (hf:h_ P t=some (e',sz α)) (hz:ev env z=some (.int kd i)) (h0:0<=i) (h1:i<xs.length):
  ∃g,c4 v g/\∀w',cH P N env (.indexAddr t y z) w' (.pointer (some ⟨g,i.toNat*sz α,none⟩)):=by
 obtain⟨g,cap,cs,rfl,_,_,hc,_⟩:=h.p_ (by omega);refine⟨g,rfl,λw'=>?_⟩;have:=DC (P:=P) (N:=N) (w:=w') hf hy hz h0 h1;rwa [Nat.zero_add] at this
theorem aX.load (h:aX w C j e v xs) (hg:c4 v g) {i:Nat} (hi:i<xs.length) (ha:iw P t=some false) (hx:aY.agg α=false) (hy:ev env y=some (.pointer (some ⟨g,i*sz α,none⟩))):
  ∃u,aB w (ax C) xs[i] u/\∀w',w'.heap[g]?=w.heap[g]?->cH P N env (.load t y) w' u:=by
 obtain⟨g',cap,cs,rfl,_,_,hc,h1,h2,h3⟩:=h.p_ (by omega);simp only[c4,Value.ownBlock,Option.some.injEq] at hg;subst hg;have hr:=h3 i hi;have hl:=aY.len hr;rw[aY.flat hx] at hr hl;obtain⟨u,hu⟩:=List.length_eq_one_iff.1 hl;rw[hu] at hr;refine⟨u,qy hr hx,λw' hw=>?_⟩;have Tp:cs[i*1]?=some u:=by
  have:=congrArg (λl=>l[0]?) hu;simpa[cL] using this
 refine kG (cs:=cs.toList) (by rw[hw];simpa using hc) ha ?_ hy;rw[aY.flat hx];simpa using Tp
theorem aX.A0 (h:aX w C j e v xs) (hg:c4 v g) {i:Nat} (hi:i<xs.length) (ha:iw P t=some true) (hs:gN P t=some (sz α)) (hx:aY.agg α=true) (hy:ev env y=some (.pointer (some ⟨g,i*sz α,none⟩))):
  ∃u,aB w (ax C) xs[i] u/\∀w',w'.heap[g]?=w.heap[g]?->cH P N env (.load t y) w' u:=by
 obtain⟨g',cap,cs,rfl,_,_,hc,h1,h2,h3⟩:=h.p_ (by omega);simp only[c4,Value.ownBlock,Option.some.injEq] at hg;subst hg;have hr:=h3 i hi;refine⟨.agg (cL cs (i*sz α) (sz α)).toArray,⟨_,hr,by simp[hx]⟩,λw' hw=>?_⟩;exact jC (cs:=cs.toList) (by rw[hw];simpa using hc) ha hs rfl (aY.len hr) hy
theorem gj {x0:α} {i:Nat} (h:aX w C j e v xs) (hg:c4 v g) (hi:i<xs.length) (hy:ev env y=some (.pointer (some ⟨g,i*sz α,none⟩))) (hz:ev env z=some u) (hs:gN P t=some (sz α)) (hr:aB w (ax C) x0 u):
  gM P N env (.store t y z) w (λu' w'=>u'=undef/\aA [j] w C w' C/\aX w' C j e v (xs.set i x0)):=λa ha eD f_=>by
 obtain⟨g',cap,cs,rfl,ki,fA,hc,h1,h2,h3⟩:=h.p_ (by omega);simp only[c4,Value.ownBlock,Option.some.injEq] at hg;subst hg;obtain⟨vs,hv,qB⟩:=hr.cells;have hb: (i+1)*sz α<=cap*sz α:=Nat.mul_le_mul_right _ (by omega);rw[Nat.succ_mul] at hb;have hvl:=aY.len qB;obtain⟨u',w',k1,k2,tG⟩:=FU (P:=P) (N:=N) (cs:=cs.toList) (n:=sz α) (vs:=vs) hy hz hs hv hvl (aY.one qB) (by simpa using hc) (by simp only[Array.length_toList];omega) a ha eD f_;have hst:aA [j] w C w' C:=⟨tG.ext.mono (λb _ hb=>by rw[show b=g' from hb,ki];simp),λ_ _=>rfl⟩
 have keep:∀{x:α} {vs:List Value},rep w.heap (ax C) x vs->rep w'.heap (ax C) x vs:=λhr=>aY.keep hr (λb hb hn=>tG.ext.block b hb (λe=>hn (by rw[show b=g' from e];exact fA)));refine⟨u',w',k1,k2,hst,⟨.inr ⟨g',cap,_,by rw[List.length_set],fA,tG.at_,by rw[List.length_set];exact h1,?_,λk hk=>?_⟩,h.col⟩⟩
 ·simp only[List.size_toArray,List.length_append,List.length_take,List.length_drop,Array.length_toList,hvl];omega
 ·rw[List.length_set] at hk;rw[List.getElem_set];split
  ·rename_i hik;subst hik;have:cL (cs.toList.take (i*sz α)++vs++cs.toList.drop (i*sz α+sz α)).toArray (i*sz α) (sz α)=vs:=by
    unfold cL;simp only[List.append_assoc];rw[List.drop_append_of_le_length (by simp only[List.length_take,Array.length_toList];omega),List.drop_eq_nil_of_le (by simp only[List.length_take];omega),List.nil_append,<-hvl,List.take_left]
   rw[this];exact keep qB
  ·rename_i hik;have:cL (cs.toList.take (i*sz α)++vs++cs.toList.drop (i*sz α+sz α)).toArray (k*sz α) (sz α)=cL cs (k*sz α) (sz α):=nB (λm hm=>by
    rw[show∀(l:List Value) (p:Nat),l.toArray[p]?=l[p]? from λl p=>by simp,<-Array.getElem?_toList];rcases Nat.lt_or_ge k i with hlt|hge
    ·have:=Nat.mul_le_mul_right (sz α) (show k+1<=i from hlt);rw[Nat.succ_mul] at this;rw[List.append_assoc,List.getElem?_append_left (by simp only[List.length_take,Array.length_toList];omega),List.getElem?_take,if_pos (by omega)]
    ·have:=Nat.mul_le_mul_right (sz α) (show i+1<=k by omega);rw[Nat.succ_mul] at this;rw[List.getElem?_append_right (by simp only[List.length_append,List.length_take,Array.length_toList,hvl];omega),List.getElem?_drop];congr 1;simp only[List.length_append,List.length_take,Array.length_toList,hvl];omega)
   rw[this];exact keep (h3 k hk)
end
section
variable {α:Type} [aY α] {w:World} {C:Nat->Nat} {P:Program} {f:FuncId} {N:Nat} {k:List Item} {R:Value->World->Prop} {Q:Exit->Act->World->Prop} {env:Env} {ops:Array Oper} {S:World->Prop} {i t:Nat} {L:List (Nat×Bool)} {v:Value} {y z:Operand} {jm:Option (Nat×Bool)} {ty e e':TypeId} {xs:List α} {j g:Nat} {kd:IntKind} {n:Int}
theorem tH (hop:cq ops i=some (some t,.indexAddr ty y z,jm)) (hw:fR ops env jm=some true) (ht:Nat.blt t N=true) (hl:aX w C j e v xs) (hy:ev env y=some v)
  (hf:h_ P ty=some (e',sz α)) (hz:ev env z=some (.int kd n)) (h0:0<=n) (h1:n<xs.length)
  (h:∀g,c4 v g->bK P N Q ops S L ((t,.pointer (some ⟨g,n.toNat*sz α,none⟩))::env) w):bK P N Q ops S ((i,true)::L) env w:=by
 obtain⟨g,h2,h3⟩:=hl.index (P:=P) (N:=N) hy hf hz h0 h1;exact eG hop hw ht (λw' _=>h3 w') (h g h2)
theorem qd {i':Nat} (hop:cq ops i=some (some t,.load ty y,jm)) (hw:fR ops env jm=some true) (ht:Nat.blt t N=true) (hS:S w) (hl:aX w C j e v xs) (hg:c4 v g) (hi:i'<xs.length) (ha:iw P ty=some false) (hx:aY.agg α=false)
  (hy:ev env y=some (.pointer (some ⟨g,i'*sz α,none⟩))) (h:∀v,aB w (ax C) xs[i'] v->bK P N Q ops S L ((t,v)::env) w):bK P N Q ops S ((i,false)::L) env w:=by
 obtain⟨v,h2,h3⟩:=hl.load (P:=P) (N:=N) hg hi ha hx hy;exact iN hop hw ht hS (h3 w rfl) (h v h2)
theorem lR {i':Nat} (hop:cq ops i=some (some t,.load ty y,jm)) (hw:fR ops env jm=some true) (ht:Nat.blt t N=true) (hS:S w) (hl:aX w C j e v xs) (hg:c4 v g) (hi:i'<xs.length) (ha:iw P ty=some true) (hs:gN P ty=some (sz α)) (hx:aY.agg α=true)
  (hy:ev env y=some (.pointer (some ⟨g,i'*sz α,none⟩))) (h:∀v,aB w (ax C) xs[i'] v->bK P N Q ops S L ((t,v)::env) w):bK P N Q ops S ((i,false)::L) env w:=by
 obtain⟨v,h2,h3⟩:=hl.A0 (P:=P) (N:=N) hg hi ha hs hx hy;exact iN hop hw ht hS (h3 w rfl) (h v h2)
theorem aX.stay {w':World} {I:List Nat} (h:aX w C j e v xs) (hg:c4 v g) (hS:Ext (λb=>C b∈I) w w') (hj:j∉I):w'.heap[g]?=w.heap[g]?:=
 hS.block g (h.own.ga g hg).2 (by rw[h.col g hg];exact hj)
theorem aX.bE {w':World} {I:List Nat} (h:aX w C j e v xs) (hg:c4 v g) (hS:Ext (λb=>C b∈I) w w') (hj:j∉I:=by first|decide|(simp<;>omega)):w'.heap[g]?=w.heap[g]?:=h.stay hg hS hj
theorem sF {i':Nat} {I:List Nat} (hop:cq ops i=some (some t,.load ty y,jm)) (hw:fR ops env jm=some true) (ht:Nat.blt t N=true) (hl:aX w C j e v xs) (hg:c4 v g) (hst:∀w',S w'->w'.heap[g]?=w.heap[g]?) (hi:i'<xs.length) (ha:iw P ty=some false) (hx:aY.agg α=false)
  (hy:ev env y=some (.pointer (some ⟨g,i'*sz α,none⟩))) (h:∀v,aB w (ax C) xs[i'] v->bK P N Q ops S L ((t,v)::env) w):bK P N Q ops S ((i,true)::L) env w:=by
 obtain⟨v,h2,h3⟩:=hl.load (P:=P) (N:=N) hg hi ha hx hy;exact eG hop hw ht (λw' hS=>h3 w' (hst w' hS)) (h v h2)
theorem nE {i':Nat} {I:List Nat} (hop:cq ops i=some (some t,.load ty y,jm)) (hw:fR ops env jm=some true) (ht:Nat.blt t N=true) (hl:aX w C j e v xs) (hg:c4 v g) (hst:∀w',S w'->w'.heap[g]?=w.heap[g]?) (hi:i'<xs.length) (ha:iw P ty=some true) (hs:gN P ty=some (sz α)) (hx:aY.agg α=true)
  (hy:ev env y=some (.pointer (some ⟨g,i'*sz α,none⟩))) (h:∀v,aB w (ax C) xs[i'] v->bK P N Q ops S L ((t,v)::env) w):bK P N Q ops S ((i,true)::L) env w:=by
 obtain⟨v,h2,h3⟩:=hl.A0 (P:=P) (N:=N) hg hi ha hs hx hy;exact eG hop hw ht (λw' hS=>h3 w' (hst w' hS)) (h v h2)
end
section
variable {α:Type} [aY α] {w w1:World} {M:Nat->Prop} {C:Nat->Nat} {P:Program} {N:Nat} {Q:Exit->Act->World->Prop} {env:Env} {ops:Array Oper} {S:World->Prop} {i:Nat} {L:List (Nat×Bool)} {v:Value} {e1:TypeId} {xs:List α} {j:Nat} {kd:IntKind} {n:Int}
theorem dw (e t ty a b:Nat) (hl:aB w1 M xs v) (hz:look env b=some (.int kd n)) (hop:cq ops i=some (some t,.indexAddr ty (.tmp a) (.tmp b),none):=by kernel_rfl) (hy:look env a=some v:=by exact rfl) (hf:h_ P ty=some (e,sz α):=by kernel_rfl)
 (h0:0<=n:=by omega) (h1:n<xs.length:=by omega) (ht:Nat.blt t N=true:=by rfl) (h:∀b o,dB w1 M (xs[n.toNat]'(by omega)) b o->bK P N Q ops S L ((t,.pointer (some ⟨b,o,none⟩))::env) w):bK P N Q ops S ((i,true)::L) env w:=iS hop rfl ht hl hy hf hz h0 h1 h
theorem dH (e' t ty a b:Nat) (hl:aX w C j e1 v xs) (hz:look env b=some (.int kd n)) (h1:n<xs.length) (hop:cq ops i=some (some t,.indexAddr ty (.tmp a) (.tmp b),none):=by kernel_rfl) (hy:look env a=some v:=by exact rfl) (hf:h_ P ty=some (e',sz α):=by kernel_rfl)
 (h0:0<=n:=by omega) (ht:Nat.blt t N=true:=by rfl) (h:∀g,c4 v g->bK P N Q ops S L ((t,.pointer (some ⟨g,n.toNat*sz α,none⟩))::env) w):bK P N Q ops S ((i,true)::L) env w:=tH hop rfl ht hl hy hf hz h0 h1 h
theorem cK (t T a:Nat) {b o:Nat} {cs:List Value} {ty:TypeId} {eF:Nat×Nat} (hc:w.heap[b]?=some (.cells cs.toArray ty eF)) (hy:look env a=some (.pointer (some ⟨b,o,none⟩))) (hv:cs[o]?=some v) (h:bK P N Q ops (λ_=>True) L ((t,v)::env) w)
 (hop:cq ops i=some (some t,.load T (.tmp a),none):=by kernel_rfl) (ha:iw P T=some false:=by kernel_rfl) (ht:Nat.blt t N=true:=by rfl):bK P N Q ops (λ_=>True) ((i,false)::L) env w:=iN hop rfl ht trivial (kG hc ha hv hy) h
theorem zE (t a T:Nat) (hv:∀w',cH P N env (.call {callee:=.builtin .len,args:=#[.tmp a],argTypes:=#[T]}) w' v) (h:bK P N Q ops S L ((t,v)::env) w)
 (hop:cq ops i=some (some t,.call {callee:=.builtin .len,args:=#[.tmp a],argTypes:=#[T]},none):=by kernel_rfl) (ht:Nat.blt t N=true:=by rfl):bK P N Q ops S ((i,true)::L) env w:=eG hop rfl ht (λw' _=>hv w') h
theorem pE (t a T g:Nat) (b:Bool) (hv:∀w',cH P N env (.call {callee:=.builtin .len,args:=#[.tmp a],argTypes:=#[T]}) w' v) (h:bK P N Q ops S L ((t,v)::env) w)
 (hop:cq ops i=some (some t,.call {callee:=.builtin .len,args:=#[.tmp a],argTypes:=#[T]},some (g,b)):=by kernel_rfl) (hw:fR ops env (some (g,b))=some true:=by rfl) (ht:Nat.blt t N=true:=by rfl):bK P N Q ops S ((i,true)::L) env w:=eG hop hw ht (λw' _=>hv w') h
theorem cD (t T a n:Nat) {b o:Nat} {cs:List Value} {ty:TypeId} {eF:Nat×Nat} (vs:List Value) (hc:w.heap[b]?=some (.cells cs.toArray ty eF)) (h:bK P N Q ops (λ_=>True) L ((t,.agg vs.toArray)::env) w)
 (hop:cq ops i=some (some t,.load T (.tmp a),none):=by kernel_rfl) (ha:iw P T=some true:=by kernel_rfl) (hs:gN P T=some n:=by kernel_rfl) (hy:look env a=some (.pointer (some ⟨b,o,none⟩)):=by exact rfl) (hv: (cs.drop o).take n=vs:=by exact rfl) (hl:vs.length=n:=by exact rfl) (ht:Nat.blt t N=true:=by rfl):
 bK P N Q ops (λ_=>True) ((i,false)::L) env w:=iN hop rfl ht trivial (jC hc ha hs hv hl hy) h
theorem jo (t T a g:Nat) (bb:Bool) (n:Nat) {b o:Nat} {cs:List Value} {ty:TypeId} {eF:Nat×Nat} (vs:List Value) (hc:w.heap[b]?=some (.cells cs.toArray ty eF)) (h:bK P N Q ops (λ_=>True) L ((t,.agg vs.toArray)::env) w)
 (hop:cq ops i=some (some t,.load T (.tmp a),some (g,bb)):=by kernel_rfl) (hw:fR ops env (some (g,bb))=some true:=by rfl) (ha:iw P T=some true:=by kernel_rfl) (hs:gN P T=some n:=by kernel_rfl) (hy:look env a=some (.pointer (some ⟨b,o,none⟩)):=by exact rfl) (hv: (cs.drop o).take n=vs:=by exact rfl) (hl:vs.length=n:=by exact rfl) (ht:Nat.blt t N=true:=by rfl):
 bK P N Q ops (λ_=>True) ((i,false)::L) env w:=iN hop hw ht trivial (jC hc ha hs hv hl hy) h
theorem eH (t T a g:Nat) (bb:Bool) {b o:Nat} {cs:List Value} {ty:TypeId} {eF:Nat×Nat} (hc:w.heap[b]?=some (.cells cs.toArray ty eF)) (h:bK P N Q ops (λ_=>True) L ((t,v)::env) w)
 (hop:cq ops i=some (some t,.load T (.tmp a),some (g,bb)):=by kernel_rfl) (hw:fR ops env (some (g,bb))=some true:=by rfl) (ha:iw P T=some false:=by kernel_rfl) (hy:look env a=some (.pointer (some ⟨b,o,none⟩)):=by exact rfl) (hv:cs[o]?=some v:=by exact rfl) (ht:Nat.blt t N=true:=by rfl):
 bK P N Q ops (λ_=>True) ((i,false)::L) env w:=iN hop hw ht trivial (kG hc ha hv hy) h
theorem ij (t T a n:Nat) {b o:Nat} {cs:List Value} {ty:TypeId} {eF:Nat×Nat} (vs:List Value) (hc:∀{w':World},S w'->w'.heap[b]?=some (.cells cs.toArray ty eF)) (h:bK P N Q ops S L ((t,.agg vs.toArray)::env) w)
 (hop:cq ops i=some (some t,.load T (.tmp a),none):=by kernel_rfl) (ha:iw P T=some true:=by kernel_rfl) (hs:gN P T=some n:=by kernel_rfl) (hy:look env a=some (.pointer (some ⟨b,o,none⟩)):=by exact rfl) (hv: (cs.drop o).take n=vs:=by exact rfl) (hl:vs.length=n:=by exact rfl) (ht:Nat.blt t N=true:=by rfl):
 bK P N Q ops S ((i,true)::L) env w:=eG hop rfl ht (λ_ hS=>jC (hc hS) ha hs hv hl hy) h
theorem ew (t T a:Nat) {b o:Nat} {cs:List Value} {ty:TypeId} {eF:Nat×Nat} (hc:∀{w':World},S w'->w'.heap[b]?=some (.cells cs.toArray ty eF)) (h:bK P N Q ops S L ((t,v)::env) w)
 (hop:cq ops i=some (some t,.load T (.tmp a),none):=by kernel_rfl) (ha:iw P T=some false:=by kernel_rfl) (hy:look env a=some (.pointer (some ⟨b,o,none⟩)):=by exact rfl) (hv:cs[o]?=some v:=by exact rfl) (ht:Nat.blt t N=true:=by rfl):
 bK P N Q ops S ((i,true)::L) env w:=eG hop rfl ht (λ_ hS=>kG (hc hS) ha hv hy) h
end
theorem dZ {P:Program} {N:Nat} {env:Env} {op:Op} {w:World} {p:Prop} [Decidable p] (h:cH P N env op w (.bool (decide p))) (hp:¬p):cH P N env op w (.bool false):=by rwa [decide_eq_false hp] at h
theorem sG {P:Program} {N:Nat} {env:Env} {op:Op} {w:World} {p:Prop} [Decidable p] (h:cH P N env op w (.bool (decide p))) (hp:p):cH P N env op w (.bool true):=by rwa [decide_eq_true hp] at h
theorem z9 (w:World) (C:Nat->Nat):aA [2,3,4,5,6,7,8,9] w (bz C) w (bz C):=aA.refl _ _ _
theorem gp {vs:List Value} (h:vs.all (·.oneCell')=true):∀u∈vs,u.oneCell'=true:=List.all_eq_true.1 h
theorem iP:∀u∈([]:List Value),u.oneCell'=true:=λ_ h=>nomatch h
theorem iQ {v:Value} {vs:List Value} (h:v.oneCell'=true) (t:∀u∈vs,u.oneCell'=true):∀u∈v::vs,u.oneCell'=true:=λ_ hu=>(List.mem_cons.1 hu).elim (λe=>e▸h) (t _)
theorem aQ (n:Nat): (n:Int).toNat=n:=rfl
theorem aX.u {α:Type} [aY α] {w w':World} {C aP:Nat->Nat} {I:List Nat} {j:Nat} {e:TypeId} {v:Value} {ys:List α} (h:aX w C j e v ys) (hs:aA I w C w' aP) (h0:0∉I:=by first|decide|(simp<;>omega)) (hj:j∉I:=by first|decide|(simp<;>omega)):aX w' aP j e v ys:=h.st hs h0 hj
theorem aB.c1 {α:Type} [aY α] {w:World} {C:Nat->Nat} {x:α} {v:Value} (h:aB w (ax C) x v):aB w (ax (bz C)) x v:=by rw[ez];exact h
def yW (n:Nat) (v v2:Value) (k m:Nat):Prop:=∃g l c c',v=.slice (some ⟨g,0,none⟩) l c/\v2=.slice (some ⟨g,k*n,none⟩) m c'
section
variable {α:Type} [aY α] {w w':World} {C aP:Nat->Nat} {P:Program} {N:Nat} {env:Env} {x y z q:Operand} {t ty e:TypeId} {v v2 u:Value} {xs:List α} {j b g n k m e':Nat}
theorem uX {kd:IntKind} {i:Int} {y:Nat} {code:BoundsCode} {w:World} (h0:0<=i) (h1:i<=y): (Instr.sliceBound (.int kd i) y code).run P w=.ok i.toNat w:=by
 simp[Instr.sliceBound,asIntOf,h0,h1]
theorem aX.from_ (h:aX w C j e v xs) (hy:ev env y=some v) {kd:IntKind} {i:Int} (hf:h_ P t=some (e',sz α)) (hz:ev env z=some (.int kd i)) (h0:0<=i) (h1:i<xs.length):
  ∃v2,yW (sz α) v v2 i.toNat (xs.length-i.toNat)/\∀w',cH P N env (.slice t y (some z) none none) w' v2:=by
 obtain⟨g,cap,cs,rfl,_,_,hc,hle,_⟩:=h.p_ (by omega);refine⟨.slice (some ⟨g,i.toNat*sz α,none⟩) (xs.length-i.toNat) (cap-i.toNat),⟨g,_,_,_,rfl,rfl⟩,λw'=>mk' λρ hρ eD ho=>?_⟩;unfold h_ at hf;split at hf
 ·rename_i e1 hu;split at hf
  ·rename_i n' hn;simp only[Option.some.injEq,Prod.mk.injEq] at hf;obtain⟨rfl,rfl⟩:=hf;have hb:=uX (P:=P) (kd:=kd) (y:=xs.length) (code:=.sliceB) (w:=w') h0 (by omega);have hne:¬cap=i.toNat:=by omega
   unfold execOp;rw[ho];simp[hρ _ _ hy,hρ _ _ hz,Instr.sliceAt,Instr.slice,Instr.sliceBounds,run_underlying hu,j0 hn,hb,hne,mq]
  ·cases hf
 ·cases hf
theorem aX.DN (h:aX w C j e v xs) (hy:ev env y=some v) {kd:IntKind} {i:Int} (hf:h_ P t=some (e',sz α)) (hz:ev env z=some (.int kd i)) (h0:0<=i) (h1:i<=xs.length) (hne:0<xs.length):
  ∃v2,aX w C j e v2 (xs.take i.toNat)/\∀w',cH P N env (.slice t y none (some z) none) w' v2:=by
 obtain⟨g,cap,cs,rfl,ki,fA,hc,hle,hsz,hr⟩:=h.p_ hne;have hl: (xs.take i.toNat).length=i.toNat:=by rw[List.length_take];omega
 refine⟨.slice (some ⟨g,0,none⟩) (xs.take i.toNat).length cap,⟨.inr ⟨g,cap,cs,rfl,fA,hc,by omega,hsz,λk hk=>?_⟩,h.col⟩,λw'=>mk' λρ hρ eD ho=>?_⟩
 ·rw[List.getElem_take];exact hr k (by omega)
 ·unfold h_ at hf;split at hf
  ·rename_i e1 hu;split at hf
   ·rename_i n' hn;simp only[Option.some.injEq,Prod.mk.injEq] at hf;obtain⟨rfl,rfl⟩:=hf;have hb:=uX (P:=P) (kd:=kd) (y:=cap) (code:=.sliceAcap) (w:=w') h0 (by omega);unfold execOp;rw[ho];rw[hl];simp[hρ _ _ hy,hρ _ _ hz,Instr.sliceAt,Instr.slice,Instr.sliceBounds,run_underlying hu,j0 hn,hb,mq]
   ·cases hf
  ·cases hf
theorem aB.DN {M:Nat->Prop} (h:aB w M xs v) (hy:ev env y=some v) {kd:IntKind} {i:Int} (hf:h_ P t=some (e',sz α)) (hz:ev env z=some (.int kd i)) (h0:0<=i) (h1:i<=xs.length):
  ∃v2,aB w M (xs.take i.toNat) v2/\∀w',cH P N env (.slice t y none (some z) none) w' v2:=by
 obtain⟨a,c,rfl,hc,hm,hs⟩:=jP.1 h;have hl: (xs.take i.toNat).length=i.toNat:=by rw[List.length_take];omega
 have hval:∀w',cH P N env (.slice t y none (some z) none) w' (.slice a (xs.take i.toNat).length c):=λw'=>mk' λρ hρ eD ho=>by
  unfold h_ at hf;split at hf
  ·rename_i e1 hu;split at hf
   ·rename_i n' hn;simp only[Option.some.injEq,Prod.mk.injEq] at hf;obtain⟨rfl,rfl⟩:=hf;have hb:=uX (P:=P) (kd:=kd) (y:=c) (code:=.sliceAcap) (w:=w') h0 (by omega);have jS: (if c=0 then a else a.map (·.add 0))=a:=by
     cases a with
     |none=>simp
     |some a=>simp[Addr.add]
    unfold execOp;rw[ho,hl];simp[hρ _ _ hy,hρ _ _ hz,Instr.sliceAt,Instr.slice,Instr.sliceBounds,run_underlying hu,j0 hn,hb,jS]
   ·cases hf
  ·cases hf
 refine⟨_,?_,hval⟩;refine jP.2 ⟨_,_,rfl,by omega,by omega,?_⟩;rcases hs with rfl|⟨b,o,rfl,hb,cs,ty,eF,Tq,hl',hr⟩
 ·left;simp
 ·refine .inr ⟨b,o,rfl,hb,cs,ty,eF,Tq,?_,λk hk=>?_⟩
  ·rw[hl];have:=Nat.mul_le_mul_right (sz α) (show i.toNat<=xs.length by omega);omega
  ·rw[List.getElem_take];exact hr k (by omega)
theorem yX {e':Nat} {kd:IntKind} {i:Int} (hs:yW n v v2 k m) (hg:c4 v g) (hf:h_ P t=some (e',n)) (hy:ev env y=some v2) (hz:ev env z=some (.int kd i))
  (h0:0<=i) (h1:i<m):cH P N env (.indexAddr t y z) w (.pointer (some ⟨g,(k+i.toNat)*n,none⟩)):=by
 obtain⟨g',l,c,c',rfl,rfl⟩:=hs;simp only[c4,Value.ownBlock,Option.some.injEq] at hg;subst hg;have:=DC (P:=P) (N:=N) (w:=w) hf hy hz h0 h1;rwa [<-Nat.add_mul] at this
theorem yW.bU (hs:yW n v v2 k m) (hy:ev env y=some v2) {d:TypeId} (ht:P.underlying t=some (.slice d)):
  ∀w',cH P N env (.call {callee:=.builtin .len,args:=#[y],argTypes:=#[t]}) w' (.int .i64 m):=λw'=>by
 obtain⟨g',l,c,c',rfl,rfl⟩:=hs;exact wP hy ht
theorem aX.DP (h:aX w C j e v xs) (hne:0<xs.length):∃g,c4 v g:=by
 obtain⟨g,cap,cs,rfl,_⟩:=h.p_ hne;exact⟨g,rfl⟩
theorem K7 {x0:α} {zs:List Value} (h:aX w C j e v xs) (hs:yW (sz α) v v2 k m) (hkm:k+m=xs.length) (hm:0<m) (hu:P.underlying t=some (.slice ty)) (hz:sD P ty=some zs) (h0:∀h M,rep h M x0 zs) (hy:ev env y=some v2):
  gM P N env (.call {callee:=.builtin .clear,args:=#[y],argTypes:=#[t]}) w (λu' w'=>aA [j] w C w' C/\aX w' C j e v (xs.take k++List.replicate m x0)):=oh λρ hρ eD f_=>by
 obtain⟨g,cap,cs,rfl,ki,fA,hc,h1,h2,h3⟩:=h.p_ (by omega);obtain⟨g',l,c,c',e1,rfl⟩:=hs;simp only[Value.slice.injEq,Option.some.injEq,Addr.mk.injEq,and_true] at e1;obtain⟨rfl,rfl,rfl⟩:=e1;obtain⟨j_,iZ,eZ⟩:=A4 hz w;have hzl:zs.length=sz α:=aY.len (h0 w.heap (ax C));have Ts:j_.cells.size=sz α:=by rw[eZ];simpa using hzl
 have tF: (Builtin.zeroCells j_.cells m).toList.length=m*sz α:=by rw[Array.length_toList,size_zeroCells,Ts]
 have hb: (k+m)*sz α<=cap*sz α:=Nat.mul_le_mul_right _ (by omega);rw[Nat.add_mul] at hb;have hcell:∀i,i<m->cL (Builtin.zeroCells j_.cells m) (i*sz α) (sz α)=zs:=λi hi=>by
  have:=K6 hzl hi;rw[eZ];unfold madeCells at this;unfold Builtin.zeroCells;first|exact this|(rw[List.size_toArray,hzl];exact this)|simpa[hzl] using this
 have hone:∀u∈(Builtin.zeroCells j_.cells m).toList,u.oneCell'=true:=λu A_=>by
  obtain⟨p,hp,rfl⟩:=List.mem_iff_getElem.1 A_;rw[tF] at hp;by_cases hs0:sz α=0
  ·rw[hs0] at hp;omega
  ·have hk:p/sz α<m:=(Nat.div_lt_iff_lt_mul (by omega)).2 hp;refine aY.one (h0 w.heap (ax C)) _ ?_;rw[<-hcell _ hk];apply List.mem_iff_getElem?.2;refine⟨p%sz α,?_⟩;have hmod:=Nat.mod_lt p (show 0<sz α by omega);simp only[cL,List.getElem?_take,if_pos hmod,List.getElem?_drop];rw[Nat.mul_comm,Nat.div_add_mod];simp[hp,tF]
 have hst:=run_storeCells_at P g (k*sz α) e (Builtin.zeroCells j_.cells m).toList 0 cs w hc (by rw[tF];omega) hone;simp only[Nat.add_zero,tF] at hst;have F5:=DE (cs:=(List.take (k*sz α) cs.toList++(Builtin.zeroCells j_.cells m).toList++List.drop (k*sz α+m*sz α) cs.toList).toArray) hc;have tI:aA [j] w C _ C:=⟨F5.ext.mono (λb _ hb=>by rw[show b=g from hb,ki];simp),λ_ _=>rfl⟩
 have keep:∀{x:α} {vs:List Value},rep w.heap (ax C) x vs->rep _ (ax C) x vs:=λhr=>aY.keep hr (λb hb hn=>F5.ext.block b hb (λe=>hn (by rw[show b=g from e];exact fA)));refine⟨.tuple #[],_,.inl ?_,tI,⟨.inr ⟨g,cap,_,?_,fA,F5.at_,?_,?_,λi hi=>?_⟩,h.col⟩⟩
 ·unfold execOp;rw[f_];have hm0:m≠0:=by omega
  have hrun: (Builtin.clear_ #[t] eD.type #[.slice (some ⟨g,k*sz α,none⟩) m c']).run P w=.ok (.tuple #[]) (w.setRow g (List.take (k*sz α) cs.toList++(Builtin.zeroCells j_.cells m).toList++List.drop (k*sz α+m*sz α) cs.toList).toArray):=by
   cases m with
   |zero=>exact absurd rfl hm0
   |succ m=>simp[Builtin.clear_,run_underlying hu,iZ,hst]
  simp[hρ _ _ hy,resolve,invoke,builtin,hrun]
 ·simp;omega
 ·simp;omega
 ·simp only[List.size_toArray,List.length_append,List.length_take,List.length_drop,tF,Array.length_toList];omega
 ·have kS:∀(l:List Value) (p:Nat),l.toArray[p]?=l[p]?:=λl p=>by simp
  by_cases hik:i<k
  ·have F6:i<(xs.take k).length:=by rw[List.length_take];omega
   rw[List.getElem_append_left F6,List.getElem_take];have eE:=Nat.mul_le_mul_right (sz α) (show i+1<=k from hik);rw[Nat.succ_mul] at eE;have hce:cL (List.take (k*sz α) cs.toList++(Builtin.zeroCells j_.cells m).toList++List.drop (k*sz α+m*sz α) cs.toList).toArray (i*sz α) (sz α)=cL cs (i*sz α) (sz α):=nB (λr hr=>by
    rw[kS,List.append_assoc,List.getElem?_append_left (by simp only[List.length_take,Array.length_toList];omega),List.getElem?_take,if_pos (by omega),Array.getElem?_toList])
   rw[hce];exact keep (h3 i (by omega))
  ·have kf: (xs.take k).length=k:=by rw[List.length_take];omega
   rw[List.getElem_append_right (by omega),List.getElem_replicate];have him:i-k<m:=by simp at hi;omega
   have mQ:=Nat.mul_le_mul_right (sz α) (show i-k+1<=m from him);rw[Nat.succ_mul] at mQ;have c6:i*sz α=k*sz α+(i-k)*sz α:=by rw[<-Nat.add_mul];congr 1;omega
   have hce:cL (List.take (k*sz α) cs.toList++(Builtin.zeroCells j_.cells m).toList++List.drop (k*sz α+m*sz α) cs.toList).toArray (i*sz α) (sz α)=cL (Builtin.zeroCells j_.cells m) ((i-k)*sz α) (sz α):=nB (λr hr=>by
    rw[kS,List.append_assoc,List.getElem?_append_right (by simp only[List.length_take,Array.length_toList];omega),List.getElem?_append_left (by simp only[List.length_take,Array.length_toList,tF];omega),Array.getElem?_toList];congr 1;simp only[List.length_take,Array.length_toList];omega)
   rw[hce,hcell _ him];exact h0 _ _
end
section
variable {α:Type} [aY α] {w:World} {C:Nat->Nat} {P:Program} {f:FuncId} {N:Nat} {k:List Item} {R:Value->World->Prop} {Q:Exit->Act->World->Prop} {env:Env} {ops:Array Oper} {S:World->Prop} {i t:Nat} {L:List (Nat×Bool)} {v v2:Value} {y z:Operand} {jm:Option (Nat×Bool)} {ty e e':TypeId} {xs:List α} {j g:Nat} {kd:IntKind} {n:Int}
theorem DQ (hop:cq ops i=some (some t,.slice ty y (some z) none none,jm)) (hw:fR ops env jm=some true) (ht:Nat.blt t N=true) (hl:aX w C j e v xs) (hy:ev env y=some v)
  (hf:h_ P ty=some (e',sz α)) (hz:ev env z=some (.int kd n)) (h0:0<=n) (h1:n<xs.length)
  (h:∀v2,yW (sz α) v v2 n.toNat (xs.length-n.toNat)->bK P N Q ops S L ((t,v2)::env) w):bK P N Q ops S ((i,true)::L) env w:=by
 obtain⟨v2,h2,h3⟩:=hl.from_ (P:=P) (N:=N) hy hf hz h0 h1;exact eG hop hw ht (λw' _=>h3 w') (h v2 h2)
theorem F8 (hop:cq ops i=some (some t,.slice ty y none (some z) none,jm)) (hw:fR ops env jm=some true) (ht:Nat.blt t N=true) (hl:aX w C j e v xs) (hy:ev env y=some v)
  (hf:h_ P ty=some (e',sz α)) (hz:ev env z=some (.int kd n)) (h0:0<=n) (h1:n<=xs.length) (hne:0<xs.length)
  (h:∀v2,aX w C j e v2 (xs.take n.toNat)->bK P N Q ops S L ((t,v2)::env) w):bK P N Q ops S ((i,true)::L) env w:=by
 obtain⟨v2,h2,h3⟩:=hl.DN (P:=P) (N:=N) hy hf hz h0 h1 hne;exact eG hop hw ht (λw' _=>h3 w') (h v2 h2)
theorem K8 {M:Nat->Prop} (hop:cq ops i=some (some t,.slice ty y none (some z) none,jm)) (hw:fR ops env jm=some true) (ht:Nat.blt t N=true) (hl:aB w M xs v) (hy:ev env y=some v)
  (hf:h_ P ty=some (e',sz α)) (hz:ev env z=some (.int kd n)) (h0:0<=n) (h1:n<=xs.length)
  (h:∀v2,aB w M (xs.take n.toNat) v2->bK P N Q ops S L ((t,v2)::env) w):bK P N Q ops S ((i,true)::L) env w:=by
 obtain⟨v2,h2,h3⟩:=hl.DN (P:=P) (N:=N) hy hf hz h0 h1;exact eG hop hw ht (λw' _=>h3 w') (h v2 h2)
end
section
variable {P:Program} {f:FuncId} {N:Nat} {k:List Item} {env:Env} {w:World} {R:Value->World->Prop} {Q:Exit->Act->World->Prop}
theorem Ga {b uY:Nat} {cs:List Value} {eF:Nat×Nat} {ty n:Nat} (hc:w.heap[b]?=some (.cells cs.toArray uY eF)) (ha:iw P ty=some true) (hs:gN P ty=some n) (hl:cs.length=n):
  (loadVar ty ⟨b,0,none⟩).run P w=.ok (.agg cs.toArray) w:=by
 have hcells: (loadCells ⟨b,0,none⟩ n).run P w=.ok cs.toArray w:=by
  have:=run_loadCells_list (P:=P) w ⟨b,0,none⟩ cs (λj u hu=>by
   rw[mq,cell_of_row w b (0+j) cs.toArray uY eF hc];rw[<-hu];simp)
  rwa [hl] at this
 simp only[loadCells] at hcells;simp[loadVar,qz ha,j0 hs,loadCells,hcells]
theorem uZ {c:Code} {fn:Func} {a ty b:Nat} {uY:Nat} {cs:List Value} {eF:Nat×Nat} {n:Nat} (hc:c=.ret) (hf:P.funcs[f]?=some fn) (hres:fn.results=#[.cell a ty]) (hv:look env a=some (.pointer (some ⟨b,0,none⟩)))
  (hb:w.heap[b]?=some (.cells cs.toArray uY eF)) (ha:iw P ty=some true) (hs:gN P ty=some n) (hl:cs.length=n)
  (hR:R (.agg cs.toArray) w):Run P f N (.code c::k) env w R:=λa' jS=>by
 subst hc;refine wJ hf jS.defers ?_ hR;have h1:=jS.slot a _ hv;have h2:=Ga hb ha hs hl;simp only[results,hres];simp[h1,Array.getD_eq_getD_getElem?,asAddr,h2]
theorem u5 {c:Code} {fn:Func} {a ty b u:Nat} {x:Value} {uY:Nat} {cs:List Value} {eF:Nat×Nat} {n:Nat} (hc:c=.ret) (hf:P.funcs[f]?=some fn) (hres:fn.results=#[.cell a ty,.tmp u]) (hv:look env a=some (.pointer (some ⟨b,0,none⟩)))
  (hx:look env u=some x) (hb:w.heap[b]?=some (.cells cs.toArray uY eF)) (ha:iw P ty=some true) (hs:gN P ty=some n) (hl:cs.length=n)
  (hR:R (.tuple #[.agg cs.toArray,x]) w):Run P f N (.code c::k) env w R:=λa' jS=>by
 subst hc;refine wJ hf jS.defers ?_ hR;have h1:=jS.slot a _ hv;have h3:=jS.slot u _ hx;have h2:=Ga hb ha hs hl;simp only[results,hres];simp[h1,h3,Array.getD_eq_getD_getElem?,asAddr,h2]
end
section
variable {P:Program} {N:Nat} {env:Env} {w:World} {x y:Operand} {t u:TypeId} {m n r:Int}
theorem Tt (hx:ev env x=some (.int .i64 m)) (hy:ev env y=some (.int .i64 n)) (ht:P.underlying t=some (.int .i64)):
  cH P N env (.call {callee:=.builtin .max,args:=#[x,y],argTypes:=#[t,t]}) w (.int .i64 (max m n)):=mk' λρ hρ o ho=>by
 unfold execOp;rw[ho];simp[hρ _ _ hx,hρ _ _ hy,go_sem,resolve,invoke,builtin,Builtin.max_,Builtin.max2];by_cases h:m<n
 ·rw[if_pos h];exact(Int.max_eq_right (by omega)).symm
 ·rw[if_neg h];exact(Int.max_eq_left (by omega)).symm
end
section
variable {P:Program} {f:FuncId} {N:Nat} {k:List Item} {env:Env} {w:World} {R:Value->World->Prop} {Q:Exit->Act->World->Prop}
theorem nF {fn:Func} (hf:P.funcs[f]?=some fn) (hres:fn.results=#[]) (hR:R (.tuple #[]) w):Run P f N [] env w R:=λa ha cs=>
 ⟨.tuple #[],w,_,hR,.one step_end,rfl,rfl,ha.defers,rfl,fn,hf,by simp[results,hres,Sem.run,pure]⟩
theorem wU {fn:Fn} {xs ys:Array Operand} {us vs:List Value} (hx:nx env xs.toList=some us) (hy:nx env ys.toList=some vs):
  cH P N env (.makeFunc fn xs ys) w (.func fn us.toArray vs.toArray):=λa ha o ho=>by
 have h1:xs.map a.eval=us.toArray:=by rw[<-ha.nx hx,<-List.map_toArray]
 have h2:ys.map a.eval=vs.toArray:=by rw[<-ha.nx hy,<-List.map_toArray]
 unfold execOp;rw[ho];simp only[h1,h2];rfl
end
def tJ (P:Program) (t:TypeId) {di:Type} [DecidableEq di] (kv:di->Value):Prop:=
 ∀d a b w,(Op.equalIn (d+8) t (kv a) (kv b)).run P w=.ok (decide (a=b)) w
structure sH (P:Program) (t:TypeId) {di:Type} [DecidableEq di] (kv:di->Value):Prop where
 check:∀e k w,(Instr.checkKey e 10000 t (kv k)).run P w=.ok () w
 find:∀k (es:List MapEntry) (ks:List di) w,es.map (·.key)=ks.map kv->
  (Instr.findKey t (kv k) es).run P w=.ok ((ks.findIdx? (λx=>decide (x=k))).bind λi=>(es[i]?).map λe=>(i,e.val)) w
 bits:∀k,Instr.sameBits 10000 (kv k) (kv k)=true
 inj:∀a b,kv a=kv b->a=b
theorem Tv {kind:TypeDesc} {di:Type} [DecidableEq di] {kv:di->Value} (hs:∀a b,Instr.sameNow kind (kv a) (kv b)=some (decide (a=b))) (k:di):
  ∀(es:List MapEntry) (ks:List di) (n:Nat),es.map (·.key)=ks.map kv->
   Instr.findNow kind (kv k) es n=some ((ks.findIdx? (λx=>decide (x=k))).bind λi=>(es[i]?).map λe=>(n+i,e.val))
 |[],[],n,_=>by simp[Instr.findNow]
 |[],_::_,n,h=>by simp at h
 |_::_,[],n,h=>by simp at h
 |e::es,x::ks,n,h=>by
  simp only[List.map_cons,List.cons.injEq] at h;obtain⟨h1,h2⟩:=h;unfold Instr.findNow;rw[h1,hs];by_cases hx:k=x
  ·subst hx;simp[List.findIdx?_cons]
  ·simp only[hx,decide_false];rw[Tv hs k es ks (n+1) h2,List.findIdx?_cons];have:¬x=k:=λe=>hx e.symm;simp only[this,decide_false,Bool.false_eq_true,if_false];cases ks.findIdx? (λx=>decide (x=k)) with
   |none=>rfl
   |some i=>simp[Nat.add_assoc,Nat.add_comm 1]
theorem K9 {P:Program} {t:TypeId} {di:Type} [DecidableEq di] {kv:di->Value} (heq:tJ P t kv) (k:di) (w:World):
  ∀(es:List MapEntry) (ks:List di) (n:Nat),es.map (·.key)=ks.map kv->
   (Instr.findAsking t (kv k) es n).run P w=.ok ((ks.findIdx? (λx=>decide (x=k))).bind λi=>(es[i]?).map λe=>(n+i,e.val)) w
 |[],[],n,_=>by simp[Instr.findAsking]
 |[],_::_,n,h=>by simp at h
 |_::_,[],n,h=>by simp at h
 |e::es,x::ks,n,h=>by
  simp only[List.map_cons,List.cons.injEq] at h;obtain⟨h1,h2⟩:=h;unfold Instr.findAsking Op.equal;rw[h1,Sem.run_bind,show Op.maxDepth=9992+8 from rfl,heq];simp only[Result.andThen_ok];by_cases hx:k=x
  ·subst hx;simp[List.findIdx?_cons]
  ·simp only[hx,decide_false,Bool.false_eq_true,if_false];rw[K9 heq k w es ks (n+1) h2,List.findIdx?_cons];have:¬x=k:=λe=>hx e.symm;simp only[this,decide_false,Bool.false_eq_true,if_false];cases ks.findIdx? (λx=>decide (x=k)) with
   |none=>rfl
   |some i=>simp[Nat.add_assoc,Nat.add_comm 1]
theorem K_ {P:Program} {t:TypeId} {fs:Array Field} {di:Type} [DecidableEq di] {kv:di->Value} (h:P.underlying t=some (.struct fs)) (heq:tJ P t kv)
  (hc:∀e k w,(Instr.checkKey e 10000 t (kv k)).run P w=.ok () w) (hb:∀k,Instr.sameBits 10000 (kv k) (kv k)=true) (hi:∀a b,kv a=kv b->a=b):sH P t kv where
 check:=hc
 find k es ks w hk:=by
  rw[run_findKey_eq w (by rw[h]) (kv k) es];simpa using K9 heq k w es ks 0 hk
 bits:=hb
 inj:=hi
section
variable {di β:Type} [DecidableEq di]
def eu:List (di×β)->di->Option β
 |[],_=>none
 |(x,v)::m,k=>if x=k then some v else eu m k
def gB:List (di×β)->di->β->List (di×β)
 |[],k,v=>[(k,v)]
 |(x,u)::m,k,v=>if x=k then(k,v)::m else(x,u)::gB m k v
def keys (m:List (di×β)):List di:=m.map (·.1)
theorem lT (m:List (di×β)) (k:di) (v:β) (j:di):eu (gB m k v) j=if k=j then some v else eu m j:=by
 induction m with
 |nil=>simp[gB,eu]
 |cons p m ih=>
  obtain⟨x,u⟩:=p;unfold gB;split
  ·rename_i h;subst h;simp only[eu];split<;>rfl
  ·rename_i h;simp only[eu,ih];by_cases h1:x=j
   ·subst h1;rw[if_pos rfl,if_neg (λe=>h e.symm),if_pos rfl]
   ·rw[if_neg h1,if_neg h1]
theorem Tw (m:List (di×β)) (k:di) (v:β) (j:di):j∈keys (gB m k v)↔j=k\/j∈keys m:=by
 induction m with
 |nil=>simp[gB,keys]
 |cons p m ih=>
  obtain⟨x,u⟩:=p;unfold gB;split
  ·rename_i h;subst h;simp[keys]
  ·simp only[keys,List.map_cons,List.mem_cons] at ih⊢;rw[ih];constructor
   ·rintro(h|h|h)
    ·exact .inr (.inl h)
    ·exact .inl h
    ·exact .inr (.inr h)
   ·rintro(h|h|h)
    ·exact .inr (.inl h)
    ·exact .inl h
    ·exact .inr (.inr h)
theorem Tx {m:List (di×β)} (h: (keys m).Nodup) (k:di) (v:β): (keys (gB m k v)).Nodup:=by
 induction m with
 |nil=>simp[gB,keys]
 |cons p m ih=>
  obtain⟨x,u⟩:=p;unfold gB;simp only[keys,List.map_cons,List.nodup_cons] at h;split
  ·rename_i hx;subst hx;simpa[keys] using h
  ·rename_i hx;simp only[keys,List.map_cons,List.nodup_cons];refine⟨λhm=>?_,ih h.2⟩;rcases(Tw m k v x).1 hm with e|e
   ·exact hx e
   ·exact h.1 e
theorem La (m:List (di×β)) (k:di): ((keys m).findIdx? (λx=>decide (x=k))).bind (λi=>(m[i]?).map (·.2))=eu m k:=by
 induction m with
 |nil=>simp[eu,keys]
 |cons p m ih=>
  obtain⟨x,u⟩:=p;simp only[eu,keys,List.map_cons,List.findIdx?_cons] at ih⊢;split
  ·rename_i h;rw[if_pos (by simpa using h)];simp
  ·rename_i h;rw[if_neg (by simpa using h),<-ih];cases (m.map (·.1)).findIdx? (λx=>decide (x=k))<;>simp
theorem Lb {m:List (di×β)} {k:di} (h: (keys m).findIdx? (λx=>decide (x=k))=none) (v:β):gB m k v=m++[(k,v)]:=by
 induction m with
 |nil=>rfl
 |cons p m ih=>
  obtain⟨x,u⟩:=p;simp only[keys,List.map_cons,List.findIdx?_cons] at h;split at h
  ·cases h
  ·rename_i hx;simp only[Option.map_eq_none_iff] at h;unfold gB;rw[if_neg (by simpa using hx),ih h];rfl
theorem Ty {m:List (di×β)} {k:di} {i:Nat} (h: (keys m).findIdx? (λx=>decide (x=k))=some i):∃u,m[i]?=some (k,u):=by
 obtain⟨hlt,h1,_⟩:=List.findIdx?_eq_some_iff_getElem.1 h;simp only[keys,List.getElem_map,decide_eq_true_eq] at h1;simp only[keys,List.length_map] at hlt;exact⟨m[i].2,by rw[List.getElem?_eq_getElem hlt,<-h1]⟩
theorem Tz {m:List (di×β)} {k:di} {i:Nat} (h: (keys m).findIdx? (λx=>decide (x=k))=some i) (v:β):gB m k v=m.set i (k,v)/\∃u,m[i]?=some (k,u):=by
 induction m generalizing i with
 |nil=>simp[keys] at h
 |cons p m ih=>
  obtain⟨x,u⟩:=p;simp only[keys,List.map_cons,List.findIdx?_cons] at h;unfold gB;split at h
  ·rename_i hx;simp only[Option.some.injEq] at h;subst h;have hx':x=k:=by simpa using hx
   subst hx';rw[if_pos rfl];exact⟨rfl,u,rfl⟩
  ·rename_i hx;simp only[Option.map_eq_some_iff] at h;obtain⟨j,hj,rfl⟩:=h;obtain⟨h1,u',h2⟩:=ih hj;rw[if_neg (by simpa using hx),h1];exact⟨rfl,u',by simpa using h2⟩
end
section
variable {di β:Type} [DecidableEq di] {kv:di->Value} {cR:β->Value} {m:List (di×β)}
structure qC (kv:di->Value) (cR:β->Value) (m:List (di×β)) (es:Array MapEntry) (clock:Nat):Prop where
 key:es.toList.map (·.key)=(keys m).map kv
 val:es.toList.map (·.val)=m.map (λp=>cR p.2)
 nodup: (keys m).Nodup
 born:∀e∈es.toList,e.born<clock
 Gb:es.toList.Pairwise (λa b=>a.born<b.born)
def fH (w:World) (C:Nat->Nat) (j b:Nat) (kv:di->Value) (cR:β->Value) (m:List (di×β)):Prop:=
 C b=j/\∃es clock,w.heap[b]?=some (.map es clock)/\qC kv cR m es clock
def ou (w:World) (M:Nat->Prop) (kv:di->Value) (cR:β->Value) (m:List (di×β)) (v:Value):Prop:=
 ∃b,v=.map (some b)/\¬M b/\∃es clock,w.heap[b]?=some (.map es clock)/\qC kv cR m es clock
variable {w w':World} {I:List Nat} {C aP:Nat->Nat} {j b n:Nat} {v:Value}
theorem fH.st (h:fH w C j b kv cR m) (hs:aA I w C w' aP) (hj:j∉I):fH w' aP j b kv cR m:=by
 obtain⟨hc,es,clock,hb,hm⟩:=h;exact⟨(hs.col b (qx hb)).trans hc,es,clock,hs.ext.sB hb (by rw[hc];exact hj),hm⟩
theorem ou.st (h:ou w (ax C) kv cR m v) (hs:aA I w C w' aP) (h0:0∉I):ou w' (ax aP) kv cR m v:=by
 obtain⟨b,e,hn,es,clock,hb,hm⟩:=h;have hc:C b=0:=by by_cases hz:C b=0;exact hz;exact absurd hz hn
 refine⟨b,e,?_,es,clock,hs.ext.sB hb (by rw[hc];exact h0),hm⟩;unfold ax;rw[hs.col b (qx hb)];exact hn
theorem fH.t (h:fH w C j b kv cR m) (hs:aA I w C w' aP) (hj:j∉I:=by first|decide|(simp<;>omega)):fH w' aP j b kv cR m:=h.st hs hj
theorem ou.t (h:ou w (ax C) kv cR m v) (hs:aA I w C w' aP) (h0:0∉I:=by first|decide|(simp<;>omega)):ou w' (ax aP) kv cR m v:=h.st hs h0
theorem fH.out {w₀:World} {jR D:Nat->Nat} (h:fH w' aP j b kv cR m) (hs:aA I w₀ D w' aP) (hF:aL w₀ jR) (hD:ax D=ax jR) (hj:∀b,b<w₀.heap.size->D b≠j):ou w' (ax jR) kv cR m (.map (some b)):=by
 obtain⟨hc,r⟩:=h;refine⟨b,rfl,λhm=>?_,r⟩;obtain⟨h1,h2,h3⟩:=hs.FX hF hD b hm;exact hj b h1 (by rw[<-h2];exact hc)
variable {P:Program} {N:Nat} {env:Env} {x y z q:Operand} {t kt et:TypeId}
theorem Lc {es:Array MapEntry} {clock:Nat} (hm:qC kv cR m es clock) (k:di):
  ((keys m).findIdx? (λx=>decide (x=k))).bind (λi=>(es.toList[i]?).map λe=>(i,e.val))=
   ((keys m).findIdx? (λx=>decide (x=k))).bind (λi=>(m[i]?).map λp=>(i,cR p.2)):=by
 cases (keys m).findIdx? (λx=>decide (x=k)) with
 |none=>rfl
 |some i=>
  simp only[Option.bind_some];have h1: (es.toList.map (·.val))[i]?=(m.map (λp=>cR p.2))[i]?:=by rw[hm.val]
  simp only[List.getElem?_map] at h1;cases h2:es.toList[i]? with
  |none=>rw[h2] at h1;cases h3:m[i]? with
   |none=>rfl
   |some p=>rw[h3] at h1;cases h1
  |some e=>rw[h2] at h1;cases h3:m[i]? with
   |none=>rw[h3] at h1;cases h1
   |some p=>rw[h3] at h1;simp only[Option.map_some,Option.some.injEq] at h1⊢;rw[h1]
theorem X6 {es:Array MapEntry} {clock:Nat} (ht:P.underlying t=some (.map kt et)) (hk:sH P kt kv) {z0:β} (hz:sD P et=some [cR z0]) (hagg:∀z:Value,z.cells=#[cR z0]->z=cR z0)
  (hb:w.heap[b]?=some (.map es clock)) (hm:qC kv cR m es clock) (k:di) (ok:Bool):
  (Instr.lookup t (.map (some b)) (kv k) ok).run P w=.ok (if ok then .tuple #[cR ((eu m k).getD z0),.bool (eu m k).isSome] else cR ((eu m k).getD z0)) w:=by
 obtain⟨j_,h1,h2⟩:=A4 hz w;have h3:=hagg j_ (by simpa using h2);subst h3;have hf:=hk.find k es.toList (keys m) w hm.key;rw[Lc hm] at hf;have hg:=La m k;have kS: (getObj b).run P w=.ok (.map es clock) w:=by simp[getObj,Sem.run,hb]
 unfold Instr.lookup;simp only[Sem.run_bind,run_underlying ht,Result.andThen_ok,kS,Sem.run_pure,hk.check,hf];cases hi: (keys m).findIdx? (λx=>decide (x=k)) with
 |none=>
  rw[hi] at hg;simp only[Option.bind_none] at hg⊢;simp only[Sem.run_bind,h1,Result.andThen_ok,Sem.run_pure,<-hg];cases ok<;>rfl
 |some i=>
  rw[hi] at hg;simp only[Option.bind_some] at hg⊢;cases hp:m[i]? with
  |none=>
   have:=(List.findIdx?_eq_some_iff_getElem.1 hi).1;simp only[keys,List.length_map] at this;rw[List.getElem?_eq_none_iff] at hp;omega
  |some p=>
   rw[hp] at hg;simp only[Option.map_some] at hg⊢;simp only[Sem.run_pure,Result.andThen_ok,<-hg];cases ok<;>rfl
end
section
variable {di β:Type} [DecidableEq di] {kv:di->Value} {cR:β->Value} {m:List (di×β)} {es:Array MapEntry} {clock:Nat}
theorem qC.push (h:qC kv cR m es clock) {k:di} (hk: (keys m).findIdx? (λx=>decide (x=k))=none) (x:β):
  qC kv cR (gB m k x) (es.push {key:=kv k,val:=cR x,born:=clock}) (clock+1) where
 key:=by rw[Lb hk];simp[keys,h.key]
 val:=by rw[Lb hk];simp[h.val]
 nodup:=Tx h.nodup k x
 born e he:=by
  simp only[Array.toList_push,List.mem_append,List.mem_singleton] at he;rcases he with he|rfl
  ·have:=h.born e he;omega
  ·exact Nat.lt_succ_self _
 Gb:=by
  rw[Array.toList_push,List.pairwise_append];refine⟨h.Gb,List.pairwise_singleton _ _,λa ha b hb=>?_⟩;simp only[List.mem_singleton] at hb;subst hb;exact h.born a ha
theorem Ld {γ:Type} (f:MapEntry->γ) (g:MapEntry->MapEntry) (i:Nat) (l:List MapEntry) (hg:∀e,l[i]?=some e->f (g e)=f e): (l.modify i g).map f=l.map f:=by
 apply List.ext_getElem?;intro j;simp only[List.getElem?_map,List.getElem?_modify];cases hj:l[j]? with
 |none=>rfl
 |some e=>
  simp only[Option.map_some];split
  ·rename_i h;subst h;simp[hg e hj]
  ·simp
theorem qC.modify (h:qC kv cR m es clock) {k:di} {i:Nat} (hk: (keys m).findIdx? (λx=>decide (x=k))=some i) (x:β):
  qC kv cR (gB m k x) (es.modify i λe=>{e with key:=kv k,val:=cR x}) clock:=by
 obtain⟨h1,u,h2⟩:=Tz hk x;have hkeys:keys (gB m k x)=keys m:=by
  rw[h1];apply List.ext_getElem?;intro j;simp only[keys,List.getElem?_map,List.getElem?_set];split
  ·rename_i e;subst e;split
   ·rw[h2];rfl
   ·rename_i hlt;rw[List.getElem?_eq_none (by omega)]
  ·rfl
 have hmem:∀e,e∈(es.modify i λe=>{e with key:=kv k,val:=cR x}).toList->∃e'∈es.toList,e'.born=e.born:=λe he=>by
  rw[Array.toList_modify] at he;obtain⟨j,hj⟩:=List.mem_iff_getElem?.1 he;rw[List.getElem?_modify] at hj;cases hjj:es.toList[j]? with
  |none=>rw[hjj] at hj;cases hj
  |some e'=>
   rw[hjj] at hj;refine⟨e',List.mem_of_getElem? hjj,?_⟩;simp only[Option.map_eq_map,Option.map_some,Option.some.injEq] at hj;split at hj<;>subst hj<;>rfl
 refine⟨?_,?_,by rw[hkeys];exact h.nodup,λe he=>?_,?_⟩
 ·rw[Array.toList_modify,hkeys,<-h.key];refine Ld _ _ _ _ (λe he=>?_);have: (es.toList.map (·.key))[i]?=((keys m).map kv)[i]?:=by rw[h.key]
  simp only[List.getElem?_map,he,Option.map_some,keys,h2] at this;simpa using this.symm
 ·rw[Array.toList_modify,h1];apply List.ext_getElem?;intro j;have hval: (es.toList.map (·.val))[j]?=(m.map (λp=>cR p.2))[j]?:=by rw[h.val]
  simp only[List.getElem?_map] at hval;simp only[List.getElem?_map,List.getElem?_modify,List.getElem?_set];by_cases hij:i=j
  ·subst hij;have hlt:i<m.length:=(List.getElem?_eq_some_iff.1 h2).1;rw[h2] at hval;cases he:es.toList[i]? with
   |none=>rw[he] at hval;cases hval
   |some e=>simp[hlt]
  ·simp only[if_neg hij,Option.map_id',id_eq];simpa using hval
 ·obtain⟨e',he',hb⟩:=hmem e he;rw[<-hb];exact h.born e' he'
 ·rw[Array.toList_modify];have hp: (es.toList.map (·.born)).Pairwise (·<·):=by rw[List.pairwise_map];exact h.Gb
  have hq: ((es.toList.modify i λe=>{e with key:=kv k,val:=cR x}).map (·.born)).Pairwise (·<·):=by
   rw[Ld (λe=>e.born) (λe=>{e with key:=kv k,val:=cR x}) i es.toList (λe _=>rfl)];exact hp
  rw[List.pairwise_map] at hq;exact hq
variable {w w':World} {I:List Nat} {C aP:Nat->Nat} {M:Nat->Prop} {j b n:Nat} {v:Value} {P:Program} {N:Nat} {env:Env} {x y z q:Operand} {t kt et:TypeId}
theorem Le {o o':Obj} (hb:w.heap[b]?=some o) (hno:∀c e f,o≠ .cells c e f): (setObj b o').run P w=.ok () {w with heap:=w.heap.setIfInBounds b o'}:=by
 unfold setObj Sem.run;rw[hb];cases o with
 |cells c e f=>exact absurd rfl (hno c e f)
 |_=>rfl
theorem Lf {o:Obj} (o':Obj) (hb:w.heap[b]?=some o):wR w {w with heap:=w.heap.setIfInBounds b o'} b o':=by
 have hlt:=qx hb;refine⟨⟨rfl,rfl,rfl,by simp,λc _ hc=>?_,lP.refl rfl⟩,?_,by simp⟩
 ·simp only[Array.getElem?_setIfInBounds];rw[if_neg (λe=>hc e.symm)]
 ·simp[Array.getElem?_setIfInBounds,hlt]
theorem Lg {o o':Obj} (h:wR w w' b o') (hc:C b=j):aA [j] w C w' C:=⟨h.ext.mono (λc _ hcb=>by rw[show c=b from hcb,hc];simp),λ_ _=>rfl⟩
theorem TA (h:qC kv cR m es clock) {k:di} {i:Nat} (hk: (keys m).findIdx? (λx=>decide (x=k))=some i): (es[i]?).map (·.key)=some (kv k):=by
 obtain⟨u,h2⟩:=Ty hk;have: (es.toList.map (·.key))[i]?=((keys m).map kv)[i]?:=by rw[h.key]
 simp only[List.getElem?_map,keys,h2,Option.map_some] at this;rw[<-this];simp
theorem wV (hF:aL w C) (j:Nat) (kv:di->Value) (cR:β->Value):gM P N env (.makeMap t none) w (λv w'=>∃aP b,v=.map (some b)/\aA [] w C w' aP/\fH w' aP j b kv cR []/\aL w' aP):=oh λρ hρ o ho=>by
 have hn:=tB w (.map #[] 0);obtain⟨aP,h1,h2,h3⟩:=hn.own hF j;refine⟨.map (some w.heap.size),w.alloc (.map #[] 0),.inl ?_,aP,_,rfl,h1,⟨h2.col,#[],0,h2.at_,⟨rfl,rfl,by simp[keys],λe he=>by simp at he,by simp⟩⟩,h3⟩;unfold execOp;rw[ho];simp[go_sem,Instr.makeMap]
variable {z0:β}
def Bg (P:Program) (et:TypeId) (v:Value):Prop:=∀w,(zeroValue et).run P w=.ok v w
theorem DR (ht:P.underlying t=some (.map kt et)) (hk:sH P kt kv) (hz:Bg P et (cR z0)) (hb:w.heap[b]?=some (.map es clock)) (hm:qC kv cR m es clock) {k:di} {ok:Bool}
  (hx:ev env x=some (.map (some b))) (hy:ev env y=some (kv k)):
  cH P N env (.lookup t x y ok) w (if ok then .tuple #[cR ((eu m k).getD z0),.bool (eu m k).isSome] else cR ((eu m k).getD z0)):=mk' λρ hρ o ho=>by
 have hf:=hk.find k es.toList (keys m) w hm.key;rw[Lc hm] at hf;have hg:=La m k;have kS: (getObj b).run P w=.ok (.map es clock) w:=by simp[getObj,Sem.run,hb]
 unfold execOp;rw[ho];simp only[hρ _ _ hx,hρ _ _ hy];unfold Instr.lookup;simp only[Sem.run_bind,run_underlying ht,Result.andThen_ok,kS,Sem.run_pure,hk.check,hf];cases hi: (keys m).findIdx? (λx=>decide (x=k)) with
 |none=>
  rw[hi] at hg;simp only[Option.bind_none] at hg⊢;simp only[Sem.run_bind,hz w,Result.andThen_ok,Sem.run_pure,<-hg];cases ok<;>rfl
 |some i=>
  rw[hi] at hg;simp only[Option.bind_some] at hg⊢;cases hp:m[i]? with
  |none=>
   have:=(List.findIdx?_eq_some_iff_getElem.1 hi).1;simp only[keys,List.length_map] at this;rw[List.getElem?_eq_none_iff] at hp;omega
  |some p=>
   rw[hp] at hg;simp only[Option.map_some] at hg⊢;simp only[Sem.run_pure,Result.andThen_ok,<-hg];cases ok<;>rfl
theorem fH.lookup (h:fH w C j b kv cR m) (ht:P.underlying t=some (.map kt et)) (hk:sH P kt kv) (hz:Bg P et (cR z0)) {k:di}
  (hx:ev env x=some (.map (some b))) (hy:ev env y=some (kv k)):cH P N env (.lookup t x y false) w (cR ((eu m k).getD z0)):=by
 obtain⟨_,es,clock,hb,hm⟩:=h;exact DR (ok:=false) ht hk hz hb hm hx hy
theorem fH.DS (h:fH w C j b kv cR m) (ht:P.underlying t=some (.map kt et)) (hk:sH P kt kv) (hz:Bg P et (cR z0)) {k:di}
  (hx:ev env x=some (.map (some b))) (hy:ev env y=some (kv k)):cH P N env (.lookup t x y true) w (.tuple #[cR ((eu m k).getD z0),.bool (eu m k).isSome]):=by
 obtain⟨_,es,clock,hb,hm⟩:=h;exact DR (ok:=true) ht hk hz hb hm hx hy
theorem ou.lookup (h:ou w M kv cR m v) (ht:P.underlying t=some (.map kt et)) (hk:sH P kt kv) (hz:Bg P et (cR z0)) {k:di}
  (hx:ev env x=some v) (hy:ev env y=some (kv k)):cH P N env (.lookup t x y false) w (cR ((eu m k).getD z0)):=by
 obtain⟨b,rfl,_,es,clock,hb,hm⟩:=h;exact DR (ok:=false) ht hk hz hb hm hx hy
theorem ou.DS (h:ou w M kv cR m v) (ht:P.underlying t=some (.map kt et)) (hk:sH P kt kv) (hz:Bg P et (cR z0)) {k:di}
  (hx:ev env x=some v) (hy:ev env y=some (kv k)):cH P N env (.lookup t x y true) w (.tuple #[cR ((eu m k).getD z0),.bool (eu m k).isSome]):=by
 obtain⟨b,rfl,_,es,clock,hb,hm⟩:=h;exact DR (ok:=true) ht hk hz hb hm hx hy
theorem tK (h:fH w C j b kv cR m) (ht:P.underlying t=some (.map kt et)) (hk:sH P kt kv) {k:di} {u:β}
  (hx:ev env x=some (.map (some b))) (hy:ev env y=some (kv k)) (hz:ev env z=some (cR u)):
  gM P N env (.mapUpdate t x y z) w (λv w'=>v=undef/\aA [j] w C w' C/\fH w' C j b kv cR (gB m k u)):=oh λρ hρ o ho=>by
 obtain⟨hc,es,clock,hb,hm⟩:=h;have hf:=hk.find k es.toList (keys m) w hm.key;have kS: (getObj b).run P w=.ok (.map es clock) w:=by simp[getObj,Sem.run,hb]
 cases hi: (keys m).findIdx? (λx=>decide (x=k)) with
 |none=>
  rw[hi] at hf;have hu:=Lf (.map (es.push {key:=kv k,val:=cR u,born:=clock}) (clock+1)) hb;refine⟨undef,_,.inr ⟨?_,rfl⟩,rfl,Lg (o:=.map #[] 0) hu hc,hc,_,_,hu.at_,hm.push hi u⟩;unfold execOp;rw[ho];simp only[hρ _ _ hx,hρ _ _ hy,hρ _ _ hz];unfold Instr.mapUpdate;simp only[Sem.run_bind,run_underlying ht,Result.andThen_ok,kS,hk.check,hf,Option.bind_none];rw[Le hb (λ_ _ _ h=>by cases h)];rfl
 |some i=>
  rw[hi] at hf;have hu:=Lf (.map (es.modify i λe=>{e with key:=kv k,val:=cR u}) clock) hb;have hke:=TA hm hi;have hlt:i<es.size:=by
   have:=(List.findIdx?_eq_some_iff_getElem.1 hi).1;have h2:=congrArg List.length hm.key;simp only[List.length_map,Array.length_toList] at h2;omega
  have TB: ((es[i]?).map (·.key)).getD (kv k)=kv k:=by rw[hke];rfl
  refine⟨undef,_,.inr ⟨?_,rfl⟩,rfl,Lg (o:=.map #[] 0) hu hc,hc,_,_,hu.at_,hm.modify hi u⟩;unfold execOp;rw[ho];simp only[hρ _ _ hx,hρ _ _ hy,hρ _ _ hz];unfold Instr.mapUpdate;have hel:es.toList[i]?=some es[i]:=by simp[hlt]
  simp only[Sem.run_bind,run_underlying ht,Result.andThen_ok,kS,hk.check,hf,Option.bind_some,hel,Option.map_some];simp only[Sem.run_bind,Instr.keyThatStays,TB,hk.bits,if_true,Sem.run_pure,Result.andThen_ok];rw[Le hb (λ_ _ _ h=>by cases h)];rfl
end
section
variable {di β:Type} [DecidableEq di] {kv:di->Value} {cR:β->Value} {m:List (di×β)} {es:Array MapEntry} {clock:Nat}
variable {w w':World} {I:List Nat} {C aP:Nat->Nat} {M:Nat->Prop} {j b n:Nat} {v:Value} {P:Program} {N:Nat} {env:Env} {x y z q:Operand} {t kt et:TypeId} {z0:β}
variable {it cZ:Nat} {left:List (di×β)} {cur:Option (di×β)}
end
abbrev Gc:Bool->Value:=λb=> .bool b
abbrev cV:av->Value:=λc=> .agg #[.int .i64 c.a,.int .i64 c.b]
abbrev yY:Nat->Value:=λn=> .int .i64 (n:Int)
def iT:List Int->Int
 |[]=>0
 |a::l=>if a=0 then iT l else a
def kj (x y:Int):Int:=if x<y then-1 else if y<x then 1 else 0
def i_ (x y:av):Int:=iT [kj x.a y.a,kj x.b y.b]
theorem TC {l:List Int} {i:Nat} (h:i<l.length):iT (l.drop i)=if l[i]=0 then iT (l.drop (i+1)) else l[i]:=by
 rw[List.drop_eq_getElem_cons h];rfl
section
variable {P:Program} {t ti:TypeId} {n0 n1 nG nH nI nJ:String} {e0 e1:Bool} {y0 y1:Nat}
theorem Bh (hi:P.underlying ti=some (.int .i64)) (a b:Int) (i:Nat) (v:Value) (w:World) (hv: (#[Value.int .i64 a,Value.int .i64 b])[i]?=some v): (part ti #[.int .i64 a,.int .i64 b] i).run P w=.ok v w:=
 run_part_plain w (by simp[Program.plainKey,hi]) hv
theorem Bi (h:P.underlying t=some (.struct #[⟨n0,ti,0,e0,nG,nI,y0⟩,⟨n1,ti,1,e1,nH,nJ,y1⟩])) (h0:n0≠"_") (h1:n1≠"_") (hS:P.stoodInHeld t=false)
  (hi:P.underlying ti=some (.int .i64)):tJ P t cV:=λd a b w=>by
 have hpt:=λa b i v w=>Bh (P:=P) hi a b i v w;have hf:P.fieldsOf t=#[⟨n0,ti,0,e0,nG,nI,y0⟩,⟨n1,ti,1,e1,nH,nJ,y1⟩]:=by simp[Program.fieldsOf,h]
 have he:=λ(x y:Int)=>run_equalIn_int (P:=P) w (d+6) ti .i64 .i64 x y hi;rw[show d+8=(d+7)+1 from rfl,run_equalIn_struct w (d+7) t _ _ (by rw[hf];exact h) hS,hf];have iA:∀c:av,(part ti #[.int .i64 c.a,.int .i64 c.b] 0).run P w=.ok (.int .i64 c.a) w:=λc=>hpt _ _ 0 _ w rfl;have p1:∀c:av,(part ti #[.int .i64 c.a,.int .i64 c.b] 1).run P w=.ok (.int .i64 c.b) w:=λc=>hpt _ _ 1 _ w rfl;have hd: (decide (a=b))=((a.a==b.a)&&(a.b==b.b)):=by
  cases a;cases b;simp only[av.mk.injEq,Bool.decide_and];rfl
 simp only[Op.eqFields,Sem.run_bind,Sem.run_ite,h0,h1,ne_eq,not_false_eq_true,if_true,iA,p1,Result.andThen_ok,he,hd];cases (a.a==b.a)<;>cases (a.b==b.b)<;>simp
theorem lU (h:P.underlying t=some (.struct #[⟨n0,ti,0,e0,nG,nI,y0⟩,⟨n1,ti,1,e1,nH,nJ,y1⟩])) (h0:n0≠"_") (h1:n1≠"_") (hS:P.stoodInHeld t=false)
  (hi:P.underlying ti=some (.int .i64)):sH P t cV:=by
 have hpt:=λa b i v w=>Bh (P:=P) hi a b i v w;refine K_ h (Bi h h0 h1 hS hi) (λe k w=>?_) (λk=>by simp[Instr.sameBits]) (λa b hab=>?_)
 ·have iA: (part ti #[.int .i64 k.a,.int .i64 k.b] 0).run P w=.ok (.int .i64 k.a) w:=hpt _ _ 0 _ w rfl;have p1: (part ti #[.int .i64 k.a,.int .i64 k.b] 1).run P w=.ok (.int .i64 k.b) w:=hpt _ _ 1 _ w rfl;have q:∀(x:Int),(Instr.checkKey e 9999 ti (.int .i64 x)).run P w=.ok () w:=λx=>by unfold Instr.checkKey;simp[run_underlying hi]
  rw[show(10000:Nat)=9999+1 from rfl,Instr.checkKey];simp only[Sem.run_bind,run_underlying h,Result.andThen_ok];rw[<-Array.forIn_toList];simp only[List.forIn_cons,List.forIn_nil,Sem.run_bind,Sem.run_ite,h0,h1,ne_eq,not_false_eq_true,if_true,iA,p1,q,Result.andThen_ok,Sem.run_pure]
 ·cases a;cases b;simp at hab;simp[hab]
theorem Lh (h:P.underlying t=some (.struct #[⟨n0,ti,0,e0,nG,nI,y0⟩,⟨n1,ti,1,e1,nH,nJ,y1⟩])) (h0:n0≠"_") (h1:n1≠"_")
  (hi:P.underlying ti=some (.int .i64)) (d:Nat) (a b:av) (w:World): (Op.eqGuardIn (d+2) t (cV a) (cV b)).run P w=.ok false w:=by
 have hpt:=λa b i v w=>Bh (P:=P) hi a b i v w;have iA:∀c:av,(part ti #[.int .i64 c.a,.int .i64 c.b] 0).run P w=.ok (.int .i64 c.a) w:=λc=>hpt _ _ 0 _ w rfl;have p1:∀c:av,(part ti #[.int .i64 c.a,.int .i64 c.b] 1).run P w=.ok (.int .i64 c.b) w:=λc=>hpt _ _ 1 _ w rfl;have q:∀(x y:Int),(Op.eqGuardIn (d+1) ti (.int .i64 x) (.int .i64 y)).run P w=.ok false w:=λx y=>by unfold Op.eqGuardIn;simp[run_underlying hi]
 rw[show d+2=(d+1)+1 from rfl,Op.eqGuardIn];simp only[Sem.run_bind,run_underlying h,Result.andThen_ok];rw[<-Array.forIn_toList];simp only[List.forIn_cons,List.forIn_nil,Sem.run_bind,Sem.run_ite,h0,h1,ne_eq,not_false_eq_true,if_true,iA,p1,q,Result.andThen_ok,Sem.run_pure,Bool.false_eq_true,if_false]
variable {N:Nat} {env:Env} {x y:Operand} {u:TypeId} {a b:av} {w:World}
theorem Gd (h:P.underlying t=some (.struct #[⟨n0,ti,0,e0,nG,nI,y0⟩,⟨n1,ti,1,e1,nH,nJ,y1⟩])) (h0:n0≠"_") (h1:n1≠"_") (hS:P.stoodInHeld t=false)
  (hi:P.underlying ti=some (.int .i64)) (hx:ev env x=some (cV a)) (hy:ev env y=some (cV b)):cH P N env (.binOp .eql t x y u) w (.bool (decide (a=b))):=mk' λρ hρ o ho=>by
 have h5:=Bi h h0 h1 hS hi (Op.maxDepth-8) a b w;have h6:=Lh h h0 h1 hi (Op.maxDepth-2) a b w;have h7: (Op.equal t (cV a) (cV b)).run P w=.ok (decide (a=b)) w:=h5;have h8: (Op.eqGuardIn Op.maxDepth t (cV a) (cV b)).run P w=.ok false w:=h6;have gx: (eqGuard .eql t x y (cV a) (cV b)).run P w=.ok () w:=by
  unfold eqGuard;simp only[Sem.run_bind,Sem.run_pure,Sem.run_ite,run_program,Result.andThen_ok,h8,Bool.not_true,Bool.false_eq_true,if_false];cases P.eqGuardType P.depth t<;>simp[h8]
 have jq: (binOp .eql t (cV a) (cV b)).run P w=.ok (.bool (decide (a=b))) w:=by
  show(Op.equal t (cV a) (cV b)>>=λz=>pure (Value.bool z)).run P w=_;rw[Sem.run_bind,h7];rfl
 unfold execOp;rw[ho];simp only[hρ _ _ hx,hρ _ _ hy];simp[Sem.run_bind,gx,jq]
theorem Ge (h:P.underlying t=some (.struct #[⟨n0,ti,0,e0,nG,nI,y0⟩,⟨n1,ti,1,e1,nH,nJ,y1⟩])) (h0:n0≠"_") (h1:n1≠"_") (hS:P.stoodInHeld t=false)
  (hi:P.underlying ti=some (.int .i64)) (hx:ev env x=some (cV a)) (hy:ev env y=some (cV b)):cH P N env (.binOp .neq t x y u) w (.bool (decide (a≠b))):=mk' λρ hρ o ho=>by
 have h5:=Bi h h0 h1 hS hi (Op.maxDepth-8) a b w;have h6:=Lh h h0 h1 hi (Op.maxDepth-2) a b w;have h7: (Op.equal t (cV a) (cV b)).run P w=.ok (decide (a=b)) w:=h5;have h8: (Op.eqGuardIn Op.maxDepth t (cV a) (cV b)).run P w=.ok false w:=h6;have gx: (eqGuard .neq t x y (cV a) (cV b)).run P w=.ok () w:=by
  unfold eqGuard;simp only[Sem.run_bind,Sem.run_pure,Sem.run_ite,run_program,Result.andThen_ok,h8,Bool.not_true,Bool.false_eq_true,if_false];cases P.eqGuardType P.depth t<;>simp[h8]
 have jq: (binOp .neq t (cV a) (cV b)).run P w=.ok (.bool (decide (a≠b))) w:=by
  show(Op.equal t (cV a) (cV b)>>=λz=>pure (Value.bool (!z))).run P w=_;rw[Sem.run_bind,h7];simp
 unfold execOp;rw[ho];simp only[hρ _ _ hx,hρ _ _ hy];simp[Sem.run_bind,gx,jq]
end
def nK (x y:av):Bool:=!decide (i_ y x<0)
def j4 (l:List av):List av:=l.mergeSort nK
theorem Gf (x y:av):i_ x y=if x.a<y.a then-1 else if y.a<x.a then 1 else if x.b<y.b then-1 else if y.b<x.b then 1 else 0:=by
 unfold i_ iT iT iT kj;by_cases h1:x.a<y.a<;>by_cases h2:y.a<x.a<;>by_cases h3:x.b<y.b<;>by_cases h4:y.b<x.b<;>simp[h1,h2,h3,h4]
theorem u6 (x y:av):nK x y=true↔x.a<y.a\/x.a=y.a/\x.b<=y.b:=by
 unfold nK;rw[Gf];simp only[Bool.not_eq_true',decide_eq_false_iff_not];split
 ·omega
 ·split
  ·omega
  ·split
   ·omega
   ·split<;>omega
theorem TD (x y z:av) (h:nK x y=true) (h':nK y z=true):nK x z=true:=by rw[u6] at*;omega
theorem TE (x y:av): (nK x y||nK y x)=true:=by rw[Bool.or_eq_true,u6,u6];omega
theorem Gg (x y:av) (h:nK x y=true) (h':nK y x=true):x=y:=by
 rw[u6] at*;have h1:x.a=y.a:=by omega
 have h2:x.b=y.b:=by omega
 cases x;cases y;simp only at h1 h2;rw[h1,h2]
theorem Li (l:List av): (j4 l).Pairwise (λx y=>nK x y=true):=List.pairwise_mergeSort TD TE l
theorem u7 (l:List av): (j4 l).Perm l:=List.mergeSort_perm l nK
theorem Lj {γ:Type} {le:γ->γ->Bool} (ha:∀x y,le x y=true->le y x=true->x=y):∀{l l':List γ},l.Perm l'->l.Pairwise (λx y=>le x y=true)->l'.Pairwise (λx y=>le x y=true)->l=l'
 |[],l',hp,_,_=>by simpa using hp.symm.eq_nil.symm
 |a::l,[],hp,_,_=>by simpa using hp.eq_nil
 |a::l,b::l',hp,h1,h2=>by
  have hab:a=b:=by
   by_cases e:a=b
   ·exact e
   ·have hb:b∈a::l:=hp.symm.subset (by simp);have jS:a∈b::l':=hp.subset (by simp);rcases List.mem_cons.1 hb with hb|hb
    ·exact hb.symm
    ·rcases List.mem_cons.1 jS with jS|jS
     ·exact jS
     ·exact ha _ _ ((List.pairwise_cons.1 h1).1 b hb) ((List.pairwise_cons.1 h2).1 a jS)
  subst hab;rw[Lj ha hp.cons_inv (List.pairwise_cons.1 h1).2 (List.pairwise_cons.1 h2).2]
section
variable {α:Type} [DecidableEq α]
def gG:List α->List α
 |[]=>[]
 |[a]=>[a]
 |a::b::l=>if a=b then gG (b::l) else a::gG (b::l)
theorem Lk (b:α):∀(l:List α) (h:l≠[]),gG (l++[b])=if l.getLast h=b then gG l else gG l++[b]
 |[],h=>absurd rfl h
 |[a],_=>by
  by_cases e:a=b
  ·subst e;simp[gG]
  ·simp[gG,e]
 |a::c::l,h=>by
  have ih:=Lk b (c::l) (by simp);simp only[List.cons_append,gG] at ih⊢;rw[List.getLast_cons (by simp)];by_cases hac:a=c
  ·rw[if_pos hac,if_pos hac];exact ih
  ·rw[if_neg hac,if_neg hac,ih];split<;>simp
theorem DT {l:List α} {k:Nat} (h0:0<k) (h:k<l.length):gG (l.take (k+1))=if l[k-1]'(by omega)=l[k] then gG (l.take k) else gG (l.take k)++[l[k]]:=by
 have hne:l.take k≠[]:=by
  intro e;have: (l.take k).length=0:=by rw[e];rfl
  rw[List.length_take] at this;omega
 rw[List.take_succ_eq_append_getElem h,Lk _ _ hne];have: (l.take k).getLast hne=l[k-1]'(by omega):=by
  rw[List.getLast_eq_getElem];simp only[List.length_take,List.getElem_take];congr 1;omega
 rw[this]
theorem DU {a:α}:∀{l:List α},a∈gG l↔a∈l
 |[]=>by simp[gG]
 |[b]=>by simp[gG]
 |b::c::l=>by
  have ih:=DU (a:=a) (l:=c::l);unfold gG;split
  ·rename_i e;subst e;rw[ih];simp
  ·rw[List.mem_cons,ih,List.mem_cons (a:=a) (b:=b)]
theorem Bj:∀l:List α,(gG l).Sublist l
 |[]=>by simp[gG]
 |[b]=>by simp[gG]
 |b::c::l=>by
  have ih:=Bj (c::l);unfold gG;split
  ·exact ih.cons b
  ·exact ih.cons_cons b
theorem TG (l:List α): (gG l).length<=l.length:=(Bj l).length_le
theorem Gh {le:α->α->Prop} (ha:∀x y,le x y->le y x->x=y):∀{l:List α},l.Pairwise le->(gG l).Nodup
 |[],_=>by simp[gG]
 |[b],_=>by simp[gG]
 |b::c::l,h=>by
  have h2:=(List.pairwise_cons.1 h).2;have ih:=Gh ha h2;unfold gG;split
  ·exact ih
  ·rename_i hne;refine List.nodup_cons.2 ⟨λhm=>?_,ih⟩;rw[DU] at hm;have hbc:=(List.pairwise_cons.1 h).1 c (by simp);rcases List.mem_cons.1 hm with e|hm
   ·exact hne e
   ·exact hne (ha _ _ hbc ((List.pairwise_cons.1 h2).1 b hm))
end
def Ll:av->List Value:=λc=>[.int .i64 c.a,.int .i64 c.b]
instance:Inhabited av:=⟨⟨0,0⟩⟩
theorem TH {h:Array Obj} {M:Nat->Prop}:rep h M (⟨0,0⟩:av) [.int .i64 0,.int .i64 0]:=⟨[_],[_],rfl,rfl,rfl⟩
structure bk where
 A:av
 B:av
 w:Int
 deriving DecidableEq
instance:aY bk:=aY.via (λx:bk=>(x.A,(x.B,x.w)))
instance:Inhabited bk:=⟨⟨⟨0,0⟩,⟨0,0⟩,0⟩⟩
abbrev iB (x:bk):List Value:=[.int .i64 x.A.a,.int .i64 x.A.b,.int .i64 x.B.a,.int .i64 x.B.b,.int .i64 x.w]
abbrev bJ (x:av):List Value:=[.int .i64 x.a,.int .i64 x.b]
section
variable {w:World} {M:Nat->Prop} {b o:Nat} {v:Value}
theorem dB.TI {x:bk} (h:dB w M x b o):dB w M x.A b o:=dB.fst (p:=(x.A,(x.B,x.w))) h
theorem dB.TJ {x:bk} (h:dB w M x b o):dB w M x.B b (o+2):=dB.fst (p:=(x.B,x.w)) (dB.snd (p:=(x.A,(x.B,x.w))) h)
theorem lz {h:Array Obj} {x:av} {vs:List Value}:rep h M x vs↔vs=bJ x:=
 ⟨λhr=>by
   obtain⟨us,ws,rfl,h1,h2⟩:=hr;rw[show us=[.int .i64 x.a] from h1,show ws=[.int .i64 x.b] from h2];rfl,
  λhr=>by subst hr;exact⟨[_],[_],rfl,rfl,rfl⟩⟩
theorem Lm {h:Array Obj} {x:bk} {vs:List Value}:rep h M x vs↔vs=iB x:=
 ⟨λhr=>by
   obtain⟨us,ws,rfl,h1,wW,Bk,rfl,h2,h3⟩:=hr;have e1:=(lz (M:=M) (h:=h) (x:=x.A)).1 h1;have e2:=(lz (M:=M) (h:=h) (x:=x.B)).1 h2;have eU:Bk=[.int .i64 x.w]:=h3;subst e1 e2 eU;rfl,
  λhr=>by
   subst hr;exact⟨bJ x.A,bJ x.B++[.int .i64 x.w],rfl,(lz (M:=M)).2 rfl,bJ x.B,[.int .i64 x.w],rfl,(lz (M:=M)).2 rfl,rfl⟩⟩
theorem jI {x:bk}:aB w M x v↔v=.agg (iB x).toArray:=
 ⟨λh=>by obtain⟨vs,h1,h2⟩:=h;rw[Lm.1 h1] at h2;exact h2,λh=>⟨_,Lm.2 rfl,h⟩⟩
end
structure iC where
 v:Value
instance:Inhabited iC:=⟨⟨.slice none 0 0⟩⟩
instance:aY iC where
 sz:=1
 agg:=false
 flat _:=rfl
 rep _ _ x vs:=vs=[x.v]/\x.v.oneCell'=true
 len h:=by obtain⟨rfl,_⟩:=h;rfl
 one h:=by obtain⟨rfl,h1⟩:=h;intro v hv;simp at hv;subst hv;exact h1
 keep h _:=h
 sub h _:=h
section
variable {w:World} {M:Nat->Prop} {v:Value} {β:Type} [aY β]
theorem ov {x:iC}:aB w M x v↔v=x.v/\x.v.oneCell'=true:=⟨λ⟨vs,h,e⟩=>by obtain⟨rfl,h⟩:=h;exact⟨e,h⟩,λh=>⟨_,⟨rfl,h.2⟩,h.1⟩⟩
theorem aB.TK {xs:List iC} {ys:List β} (h:aB w M xs v) (hb:aY.agg β=false) (hl:ys.length=xs.length) (he:∀i (h1:i<ys.length) (h2:i<xs.length),aB w M ys[i] xs[i].v):aB w M ys v:=by
 obtain⟨a,c,rfl,hc,h63,h0⟩:=jP.1 h;refine jP.2 ⟨a,c,by rw[hl],by rw[hl];exact hc,by rw[hl];exact h63,?_⟩;rcases h0 with h0|⟨b,o,rfl,eE,cs,ty,eF,hcs,hsz,hr⟩
 ·left;subst h0;exact List.eq_nil_of_length_eq_zero hl
 ·right;have s1:sz β=1:=aY.flat hb;refine⟨b,o,rfl,eE,cs,ty,eF,hcs,by rw[hl,s1];exact hsz,λi hi=>?_⟩;have hi2:i<xs.length:=by omega
  have hv:cL cs (o+i*1) 1=[xs[i].v]:=(hr i hi2).1;rw[s1,hv];exact(he i hi hi2).rE hb
end
def gH (x y:av):Prop:=x.a<y.a\/x.a=y.a/\x.b<y.b
instance (x y:av):Decidable (gH x y):=by unfold gH;infer_instance
theorem wX (x:av):¬gH x x:=by unfold gH;omega
theorem Bl {x y z:av} (h:gH x y) (h':gH y z):gH x z:=by unfold gH at*;omega
theorem DV {x y:av}:nK x y=true↔¬gH y x:=by rw[u6];unfold gH;omega
theorem Ln {x y:av} (h1:x.a=y.a) (h2:x.b=y.b):x=y:=by cases x;cases y;simp_all
theorem DX (x y:av):gH x y\/x=y\/gH y x:=by
 unfold gH;by_cases h1:x.a=y.a<;>by_cases h2:x.b=y.b
 ·exact .inr (.inl (Ln h1 h2))
 all_goals omega
theorem Gi {x y:av}:i_ x y=0↔x=y:=by
 rw[Gf];constructor
 ·intro h;apply Ln<;>(split at h<;>first|omega|(split at h<;>first|omega|(split at h<;>first|omega|(split at h<;>omega))))
 ·intro h;subst h;simp
theorem wY {x y:av}:i_ x y<0↔gH x y:=by
 rw[Gf];unfold gH;split
 ·omega
 ·split
  ·omega
  ·split
   ·omega
   ·split<;>omega
def rJ (x y:bk):Prop:=gH x.A y.A\/x.A=y.A/\gH x.B y.B
instance (x y:bk):Decidable (rJ x y):=by unfold rJ;infer_instance
def u9 (a b c d:av):Int:=iT [i_ a c,i_ b d]
theorem Gj {x y:bk}:0<=u9 x.A x.B y.A y.B↔¬rJ x y:=by
 unfold u9 rJ iT iT iT;have h1:= @Gi x.A y.A;have h2:= @wY x.A y.A;have h3:= @Gi x.B y.B;have h4:= @wY x.B y.B;split
 ·rename_i h;have e:=h1.1 h;rw[<-h4,e];have:¬gH y.A y.A:=wX _;split
  ·simp_all
  ·simp only[this,false_or,true_and,<-h4];omega
 ·rename_i h;have:¬x.A=y.A:=λe=>h (h1.2 e);rw[<-h2];simp[this]
def rK (r:av):Bool:=decide (0<=r.a)&&decide (r.a<4)&&decide (1<=r.b)&&decide (r.b<=1048576)
def ow (a b:av):Bool:=rK a&&rK b&&decide (a.a<b.a)
def sI (l:List bk) (i:Nat):Int:=
 if ow l[i]!.A l[i]!.B=false then 41 else if l[i]!.w<1\/1048576<l[i]!.w then 40 else if 0<i/\¬rJ l[i-1]! l[i]! then 12 else 0
def kH (l:List bk):Int:=if 4096<l.length then 1 else iT ((List.range l.length).map (sI l))
theorem TM (a b:List Int):iT (a++b)=if iT a=0 then iT b else iT a:=by
 induction a with
 |nil=>simp[iT]
 |cons x a ih=>simp only[List.cons_append,iT];split<;>simp_all
theorem Lp {l:List Int} (h:∀x∈l,x=0):iT l=0:=by
 induction l with
 |nil=>rfl
 |cons x l ih=>simp only[iT];rw[if_pos (h x (by simp))];exact ih (λy hy=>h y (by simp[hy]))
theorem TN {l:List Int} (h:iT l=0):∀x∈l,x=0:=by
 induction l with
 |nil=>simp
 |cons x l ih=>
  simp only[iT] at h;split at h
  ·rename_i e;intro y hy;rcases List.mem_cons.1 hy with rfl|hy
   ·exact e
   ·exact ih h y hy
  ·rename_i e;exact absurd h e
theorem TP {l:List bk} (h:4096<l.length):kH l=1:=by unfold kH;rw[if_pos h]
theorem Lq {l:List bk} (hl:l.length<=4096) (h0:∀k,k<l.length->sI l k=0):kH l=0:=by
 unfold kH;rw[if_neg (by omega)];refine Lp λx hx=>?_;obtain⟨k,hk,rfl⟩:=List.mem_map.1 hx;exact h0 k (List.mem_range.1 hk)
theorem range_split {i n:Nat} (h:i<n):List.range n=List.range i++(i::(List.range n).drop (i+1)):=by
 have h1: (List.range n).take i=List.range i:=by rw[List.take_range,Nat.min_eq_left (by omega)]
 have h2: (List.range n).drop i=i::(List.range n).drop (i+1):=by
  rw[List.drop_eq_getElem_cons (by simpa using h)];simp
 rw[<-h1,<-h2,List.take_append_drop]
theorem Gk {l:List bk} {i:Nat} (hl:l.length<=4096) (h:i<l.length) (h0:∀k,k<i->sI l k=0) (he:sI l i≠0):kH l=sI l i:=by
 unfold kH;rw[if_neg (by omega),range_split h,List.map_append,TM,if_pos]
 ·simp only[List.map_cons,iT];rw[if_neg he]
 ·refine Lp λx hx=>?_;obtain⟨k,hk,rfl⟩:=List.mem_map.1 hx;exact h0 k (List.mem_range.1 hk)
theorem TQ {l:List bk} (h:kH l=0):l.length<=4096/\∀k,k<l.length->sI l k=0:=by
 unfold kH at h;split at h
 ·cases h
 ·exact⟨by omega,λk hk=>TN h _ (List.mem_map.2 ⟨k,List.mem_range.2 hk,rfl⟩)⟩
theorem Lr {l:List bk} (h:kH l=0):l.length<=4096:=(TQ h).1
theorem TR {l:List bk} {i:Nat} (h:i<l.length):sI l i=if ow l[i].A l[i].B=false then 41 else if l[i].w<1\/1048576<l[i].w then 40 else if 0<i/\¬rJ (l[i-1]'(by omega)) l[i] then 12 else 0:=by
 unfold sI;rw[getElem!_pos l i h,getElem!_pos l (i-1) (by omega)]
def okB (x:bk):Prop:=ow x.A x.B=true/\1<=x.w/\x.w<=1048576
def mR (l:List bk):Prop:=l.length<=4096/\(∀x∈l,okB x)/\l.Pairwise rJ
theorem mR.check {l:List bk} (h:mR l):kH l=0:=by
 obtain⟨h1,h2,h3⟩:=h;refine Lq h1 λk hk=>?_;have hx:=h2 l[k] (List.getElem_mem hk);unfold sI;rw[getElem!_pos l k hk,if_neg (by simp[hx.1]),if_neg (by have:=hx.2;omega)];split
 ·rename_i h;exfalso;obtain⟨h0,hn⟩:=h;rw[getElem!_pos l (k-1) (by omega)] at hn;exact hn (List.pairwise_iff_getElem.1 h3 (k-1) k (by omega) hk (by omega))
 ·rfl
theorem mR.sub {l l':List bk} (h:mR l) (hs:l'.Sublist l):mR l':=⟨Nat.le_trans hs.length_le h.1,λx hx=>h.2.1 x (hs.subset hx),h.2.2.sublist hs⟩
def qD (l:List bk):List av:=l.flatMap λx=>[x.A,x.B]
def bg (l:List bk):List av:=gG (j4 (qD l))
theorem TT (l:List bk) (x:bk):qD (l++[x])=qD l++[x.A,x.B]:=by simp[qD]
theorem TU {l:List bk} {i:Nat} (h:i<l.length):qD (l.take (i+1))=qD (l.take i)++[l[i].A,l[i].B]:=by
 rw[List.take_succ_eq_append_getElem h,TT]
theorem DY (l:List bk): (qD l).length=2*l.length:=by
 induction l with
 |nil=>rfl
 |cons x l ih=>simp only[qD,List.flatMap_cons,List.length_append,List.length_cons,List.length_nil] at*;omega
theorem TV (l:List av): (j4 l).length=l.length:=(u7 l).length_eq
theorem u_ (l:List bk): (bg l).length<=2*l.length:=by
 unfold bg;have:=TG (j4 (qD l));rw[TV,DY] at this;exact this
theorem ji {l:List bk} {r:av}:r∈bg l↔∃x∈l,r=x.A\/r=x.B:=by
 unfold bg;rw[DU,(u7 _).mem_iff];simp[qD,List.mem_flatMap]
theorem wZ (l:List bk): (bg l).Pairwise gH:=by
 unfold bg;have h1:=Li (qD l);have h2:=Gh (le:=λx y=>nK x y=true) Gg h1;have h3:=h1.sublist (Bj _);refine(h3.and h2).imp λ{x y} ⟨h4,h5⟩=>?_;rcases DX x y with h|h|h
 ·exact h
 ·exact absurd h h5
 ·exact absurd h (DV.1 h4)
theorem Bm {l:List av} (h:l.Pairwise gH):l.Nodup:=h.imp λ{x y} hxy e=>by subst e;exact wX _ hxy
theorem Bn (l:List bk): (bg l).Nodup:=Bm (wZ l)
theorem Ls {l l':List av} (h:l.Pairwise gH) (h':l'.Pairwise gH) (hm:∀r,r∈l↔r∈l'):l=l':=by
 have hp:l.Perm l':=(List.perm_ext_iff_of_nodup (Bm h) (Bm h')).2 hm;refine Lj Gg hp (h.imp λ{x y} hxy=>DV.2 λh2=>wX _ (Bl hxy h2)) (h'.imp λ{x y} hxy=>DV.2 λh2=>wX _ (Bl hxy h2))
def qe (ρ:av->av) (a b:av):av->av:=λr=>if ρ r=ρ a then ρ b else ρ r
def ve (ρ:av->av) (l:List bk):av->av:=l.foldl (λρ x=>qe ρ x.A x.B) ρ
def cv (l:List bk):av->av:=ve id l
theorem TW (l:List bk) (x:bk):cv (l++[x])=qe (cv l) x.A x.B:=by unfold cv ve;rw[List.foldl_append];rfl
theorem Lt {γ:Type} (p:av->γ):∀(l:List bk) (ρ:av->av),(∀x∈l,p x.A=p x.B)->(∀r,p (ρ r)=p r)->∀r,p (ve ρ l r)=p r
 |[],ρ,_,h,r=>h r
 |x::l,ρ,hx,h,r=>by
  show p (ve (qe ρ x.A x.B) l r)=p r;refine Lt p l _ (λy hy=>hx y (by simp[hy])) (λs=>?_) r;unfold qe;split
  ·rename_i e;rw[h,<-hx x (by simp),<-h x.A,<-e,h]
  ·exact h s
theorem vi {γ:Type} {p:av->γ} {l:List bk} (hx:∀x∈l,p x.A=p x.B) (r:av):p (cv l r)=p r:=Lt p l id hx (λ_=>rfl) r
theorem Lu:∀(l:List bk) (ρ:av->av) {r s:av},ρ r=ρ s->ve ρ l r=ve ρ l s
 |[],_,_,_,h=>h
 |x::l,ρ,r,s,h=>Lu l (qe ρ x.A x.B) (by unfold qe;rw[h])
theorem Lv:∀(l:List bk) (ρ:av->av) {x:bk},x∈l->ve ρ l x.A=ve ρ l x.B
 |y::l,ρ,x,h=>by
  rcases List.mem_cons.1 h with rfl|h
  ·exact Lu l (qe ρ x.A x.B) (by unfold qe;rw[if_pos rfl];split<;>rfl)
  ·exact Lv l _ h
theorem w_ {l:List bk} {x:bk} (h:x∈l):cv l x.A=cv l x.B:=Lv l id h
theorem DZ {l l':List bk} (h:∀x∈l,x∈l') {r s:av} (e:cv l r=cv l s):cv l' r=cv l' s:=by
 have hp:∀x∈l,cv l' x.A=cv l' x.B:=λx hx=>w_ (h x hx);rw[<-vi hp r,<-vi hp s,e]
theorem Gl {l:List bk} {r:av}:cv l r∈bg l↔r∈bg l:=by
 have:=vi (p:=λr=>decide (r∈bg l)) (l:=l) (λx hx=>by
  rw[decide_eq_true (ji.2 ⟨x,hx,.inl rfl⟩),decide_eq_true (ji.2 ⟨x,hx,.inr rfl⟩)]) r
 simpa using this
theorem D0 {l:List bk} {r:av} (h:r∉bg l):cv l r=r:=by
 have:=vi (p:=λs=>if s∈bg l then none else some s) (l:=l) (λx hx=>by
  rw[if_pos (ji.2 ⟨x,hx,.inl rfl⟩),if_pos (ji.2 ⟨x,hx,.inr rfl⟩)]) r
 rw[if_neg h,if_neg (λhm=>h (Gl.1 hm))] at this;simpa using this
section
variable {α β:Type} [DecidableEq β]
def dJ (f:α->β) (xs:List α):List α:=xs.foldl (λacc r=>if acc.any (λq=>decide (f q=f r)) then acc else acc++[r]) []
def gI (f:α->β) (xs:List α):List (List α):=(dJ f xs).map λq=>xs.filter λr=>decide (f r=f q)
theorem Bo (f:α->β) (xs:List α) (r:α):dJ f (xs++[r])=if(dJ f xs).any (λq=>decide (f q=f r)) then dJ f xs else dJ f xs++[r]:=by
 unfold dJ;rw[List.foldl_append];rfl
theorem Gm {p:List α->Prop} (h0:p []) (h1:∀l a,p l->p (l++[a])) (l:List α):p l:=by
 rw[<-List.reverse_reverse l]
 induction l.reverse with
 |nil=>exact h0
 |cons a l ih=>rw[List.reverse_cons];exact h1 _ a ih
theorem yZ (f:α->β) (xs:List α): (dJ f xs).Sublist xs:=by
 induction xs using Gm with
 |h0=>exact List.Sublist.refl _
 |h1 l a ih=>
  rw[Bo];split
  ·exact ih.trans (List.sublist_append_left _ _)
  ·exact ih.append (List.Sublist.refl _)
theorem Lw {f:α->β} {xs:List α} {r:α}: (dJ f xs).any (λq=>decide (f q=f r))=true↔∃q∈xs,f q=f r:=by
 induction xs using Gm with
 |h0=>simp[dJ]
 |h1 l a ih=>
  rw[Bo];split
  ·rename_i h;rw[ih];constructor
   ·rintro⟨q,hq,e⟩;exact⟨q,by simp[hq],e⟩
   ·rintro⟨q,hq,e⟩;rcases List.mem_append.1 hq with hq|hq
    ·exact⟨q,hq,e⟩
    ·simp only[List.mem_singleton] at hq;subst hq;obtain⟨s,hs,e2⟩:=List.any_eq_true.1 h;exact⟨s,(yZ f l).subset hs,by simpa[e] using e2⟩
  ·simp only[List.any_append,Bool.or_eq_true,ih,List.any_cons,List.any_nil,Bool.or_false,decide_eq_true_eq];constructor
   ·rintro(⟨q,hq,e⟩|e)
    ·exact⟨q,by simp[hq],e⟩
    ·exact⟨a,by simp,e⟩
   ·rintro⟨q,hq,e⟩;rcases List.mem_append.1 hq with hq|hq
    ·exact .inl ⟨q,hq,e⟩
    ·simp only[List.mem_singleton] at hq;subst hq;exact .inr e
theorem Gn {f:α->β} {xs:List α} {r:α} (h:r∈xs):∃q∈dJ f xs,f q=f r:=by
 have:=(Lw (f:=f) (xs:=xs) (r:=r)).2 ⟨r,h,rfl⟩;obtain⟨q,hq,e⟩:=List.any_eq_true.1 this;exact⟨q,hq,by simpa using e⟩
theorem Gp (f:α->β) (xs:List α): ((dJ f xs).map f).Nodup:=by
 induction xs using Gm with
 |h0=>simp[dJ]
 |h1 l a ih=>
  rw[Bo];split
  ·exact ih
  ·rename_i h;rw[List.map_append,List.nodup_append];refine⟨ih,by simp,λx hx y hy e=>h ?_⟩;obtain⟨q,hq,rfl⟩:=List.mem_map.1 hx;simp only[List.map_cons,List.map_nil,List.mem_singleton] at hy;exact List.any_eq_true.2 ⟨q,hq,by simp[e,hy]⟩
theorem mu (f:α->β) (xs:List α): (gI f xs).length=(dJ f xs).length:=by simp[gI]
theorem Bp {f:α->β} {xs:List α} {i:Nat} (h:i<(gI f xs).length): (gI f xs)[i]=xs.filter λr=>decide (f r=f ((dJ f xs)[i]'(by rwa [mu] at h))):=by simp[gI]
theorem Lx {f:α->β} {xs:List α} {r:α} {i:Nat} (hi:i<(dJ f xs).length) (e:f (dJ f xs)[i]=f r):
  dJ f (xs++[r])=dJ f xs/\gI f (xs++[r])=(gI f xs).modify i (·++[r]):=by
 have h1:dJ f (xs++[r])=dJ f xs:=by
  rw[Bo,if_pos (List.any_eq_true.2 ⟨_,List.getElem_mem hi,by simp[e]⟩)]
 refine⟨h1,?_⟩;apply List.ext_getElem?;intro j;unfold gI;rw[h1,List.getElem?_modify,List.getElem?_map,List.getElem?_map];by_cases hj:j<(dJ f xs).length
 ·rw[List.getElem?_eq_getElem hj];simp only[Option.map_some,Option.some.injEq];by_cases hij:i=j
  ·subst hij;simp[List.filter_append,e]
  ·rw[List.filter_append];have:¬f r=f (dJ f xs)[j]:=λh2=>hij (by
    have hn:=List.pairwise_iff_getElem.1 (Gp f xs);rcases Nat.lt_trichotomy i j with h3|h3|h3
    ·exact absurd (by rw[List.getElem_map,List.getElem_map,e,h2]) (hn i j (by simpa using hi) (by simpa using hj) h3)
    ·exact h3
    ·exact absurd (by rw[List.getElem_map,List.getElem_map,e,h2]) (hn j i (by simpa using hj) (by simpa using hi) h3))
   simp[hij,this]
 ·rw[List.getElem?_eq_none (by omega)];simp
theorem Ly {f:α->β} {xs:List α} {r:α} (h:∀q∈dJ f xs,f q≠f r):
  dJ f (xs++[r])=dJ f xs++[r]/\gI f (xs++[r])=gI f xs++[[r]]:=by
 have h0:¬(dJ f xs).any (λq=>decide (f q=f r))=true:=λha=>by
  obtain⟨q,hq,e⟩:=List.any_eq_true.1 ha;exact h q hq (by simpa using e)
 have h1:dJ f (xs++[r])=dJ f xs++[r]:=by rw[Bo,if_neg h0]
 refine⟨h1,?_⟩;unfold gI;rw[h1,List.map_append];congr 1
 ·refine List.map_congr_left λq hq=>?_;rw[List.filter_append];simp[Ne.symm (h q hq)]
 ·simp only[List.map_cons,List.map_nil,List.filter_append,List.cons.injEq,and_true];have:xs.filter (λr_1=>decide (f r_1=f r))=[]:=by
   rw[List.filter_eq_nil_iff];intro q hq hd;exact h0 (Lw.2 ⟨q,hq,by simpa using hd⟩)
  rw[this];simp
end
def dP (l:List bk):List (List av):=gI (cv l) (bg l)
def a_ (l:List bk):List (List bk):=(dJ (cv l) (bg l)).map λq=>l.filter λx=>decide (cv l x.A=cv l q)
theorem TX (l:List bk): (dP l).length<=2*l.length:=by
 unfold dP;rw[mu];exact Nat.le_trans (yZ _ _).length_le (u_ l)
theorem Bq (l:List bk): (a_ l).length=(dP l).length:=by simp[a_,dP,gI]
def mw (u:List (av×av)) (ρ:av->av) (d:av->Nat):Prop:=
 ∀r v,eu u r=some v->(∃v',eu u v=some v')/\ρ v=ρ r/\(v≠r->d v<d r)/\(v=r->ρ r=r)
def Dom (u:List (av×av)) (xs:List av):Prop:=∀r∈xs,∃v,eu u r=some v
theorem Dom.put {u:List (av×av)} {xs:List av} (h:Dom u xs) (a b:av):Dom (gB u a b) xs:=λr hr=>by
 rw[lT];split
 ·exact⟨_,rfl⟩
 ·exact h r hr
theorem Dom.TY {u:List (av×av)} {xs:List av} (h:Dom u xs) (a b:av):Dom (gB u a b) (xs++[a]):=λr hr=>by
 rw[lT];split
 ·exact⟨_,rfl⟩
 ·rename_i e;rcases List.mem_append.1 hr with hr|hr
  ·exact h r hr
  ·simp only[List.mem_singleton] at hr;exact absurd hr.symm e
theorem mw.self {u:List (av×av)} {d:av->Nat} (h:mw u id d) (r:av):mw (gB u r r) id d:=λs v hs=>by
 rw[lT] at hs;split at hs
 ·rename_i e;obtain rfl:r=v:=by simpa using hs
  subst e;exact⟨⟨r,by rw[lT,if_pos rfl]⟩,rfl,λh=>absurd rfl h,λ_=>rfl⟩
 ·obtain⟨⟨v',h1⟩,h2,h3,h4⟩:=h s v hs;refine⟨?_,h2,h3,h4⟩;rw[lT];split
  ·exact⟨_,rfl⟩
  ·exact⟨_,h1⟩
theorem mw.T0 {u:List (av×av)} {ρ:av->av} {d:av->Nat} (h:mw u ρ d) {r v v2:av} (hr:eu u r=some v) (hv:eu u v=some v2) (hne:v≠r):mw (gB u r v2) ρ d:=λs x hs=>by
 have hd:∀{y:av},(∃v',eu u y=some v')->∃v',eu (gB u r v2) y=some v':=λ{y} hy=>by
  rw[lT];split
  ·exact⟨_,rfl⟩
  ·exact hy
 rw[lT] at hs;split at hs
 ·rename_i e;obtain rfl:v2=x:=by simpa using hs
  subst e;obtain⟨_,h2,h3,h4⟩:=h r v hr;obtain⟨g1,g2,g3,g4⟩:=h v v2 hv;refine⟨hd g1,g2.trans h2,λ_=>?_,λe=>?_⟩
  ·have:=h3 hne;by_cases e:v2=v
   ·rw[e];exact this
   ·have:=g3 e;omega
  ·exfalso;have a1:=h3 hne;by_cases e2:v2=v
   ·exact hne (e2.symm.trans e)
   ·have:=g3 e2;rw[e] at this;omega
 ·obtain⟨h1,h2⟩:=h s x hs;exact⟨hd h1,h2⟩
theorem mw.join {u:List (av×av)} {ρ:av->av} {d:av->Nat} (h:mw u ρ d) {a b:av} (ha:eu u (ρ a)=some (ρ a)) (hb:eu u (ρ b)=some (ρ b)):∃d',mw (gB u (ρ a) (ρ b)) (qe ρ a b) d':=by
 have Gq:=(h _ _ ha).2.2.2 rfl;have ib:=(h _ _ hb).2.2.2 rfl;refine⟨λx=>if ρ x=ρ a/\ρ a≠ρ b then d x+d (ρ b)+1 else d x,λs x hs=>?_⟩;have hd:∀{y:av},(∃v',eu u y=some v')->∃v',eu (gB u (ρ a) (ρ b)) y=some v':=λ{y} hy=>by
  rw[lT];split
  ·exact⟨_,rfl⟩
  ·exact hy
 rw[lT] at hs;split at hs
 ·rename_i e;obtain rfl:ρ b=x:=by simpa using hs
  subst e;refine⟨hd ⟨_,hb⟩,?_,λhne=>?_,λe=>?_⟩
  ·unfold qe;rw[Gq,ib];simp
  ·simp only;rw[if_neg (λh=>hne (ib.symm.trans h.1)),if_pos ⟨Gq,λe=>hne e.symm⟩];omega
  ·unfold qe;rw[Gq,if_pos rfl,e]
 ·rename_i hne;obtain⟨h1,h2,h3,h4⟩:=h s x hs;refine⟨hd h1,?_,λhx=>?_,λe=>?_⟩
  ·unfold qe;rw[h2]
  ·have:=h3 hx;simp only[h2];split<;>omega
  ·have:=h4 e;unfold qe;rw[if_neg (λe2=>hne (by rw[<-e2,this])),this]
section
variable {di β:Type} {kv:di->Value} {cR:β->Value} {m:List (di×β)} {w w' w₀:World} {I:List Nat} {C aP jR:Nat->Nat} {i j b:Nat}
theorem fH.dV (h:fH w C i b kv cR m) (hi:i≠0):fH w (K.dV C i) 2 b kv cR m:=⟨by unfold K.dV;rw[if_neg (by rw[h.1];exact hi),if_pos h.1],h.2⟩
theorem fH.T1 (h:fH w' aP j b kv cR m) (hb:jR b=i):fH w' jR i b kv cR m:=⟨hb,h.2⟩
theorem fH.stay [DecidableEq di] (h:fH w C j b kv cR m) (hS:Ext (λb=>C b∈I) w w') (hj:j∉I):fH w' C j b kv cR m:=h.st (I:=I) ⟨hS,λ_ _=>rfl⟩ hj
theorem fH.nL {D:Nat->Nat} (h:fH w' aP j b kv cR m) (hs:aA I w₀ D w' aP) (hF:aL w₀ jR) (hj:∀b,b<w₀.heap.size->D b≠j) (i:Nat):
  ∃bu,(∀b,b<w₀.heap.size->bu b=jR b)/\fH w' bu i b kv cR m/\aL w' bu:=by
 obtain⟨hc,es,clock,hb,hm⟩:=h;have hge:w₀.heap.size<=b:=by
  rcases Nat.lt_or_ge b w₀.heap.size with h1|h1
  ·exact absurd (by rw[<-hs.col b h1];exact hc) (hj b h1)
  ·exact h1
 refine⟨uV jR b i,λc hc=>by unfold uV;rw[if_neg (by omega)],⟨by simp[uV],es,clock,hb,hm⟩,λc hc=>?_⟩;unfold uV at hc;split at hc
 ·rename_i e;rw[e];exact qx hb
 ·exact Nat.lt_of_lt_of_le (hF c hc) hs.size
end
theorem mw.idem {u:List (av×av)} {ρ:av->av} {d:av->Nat} (h:mw u ρ d) {r:av} (hr:eu u r=some r):ρ r=r:=(h r r hr).2.2.2 rfl
def rL (m:List (av×Nat)) (ts:List av):Prop:=∀t i,eu m t=some i↔ts[i]?=some t
theorem rL.nil:rL [] []:=λt i=>by simp[eu]
theorem rL.new {m:List (av×Nat)} {ts:List av} (h:rL m ts) {t:av} (hn:eu m t=none):rL (gB m t ts.length) (ts++[t]):=λs i=>by
 rw[lT];split
 ·rename_i e;subst e;constructor
  ·intro hi;obtain rfl:ts.length=i:=by simpa using hi
   simp
  ·intro hi;rw[List.getElem?_append] at hi;split at hi
   ·have:=(h t i).2 hi;rw[hn] at this;cases this
   ·rename_i hlt;have:i-ts.length=0:=by
     rcases Nat.lt_or_ge (i-ts.length) 1 with h1|h1
     ·omega
     ·rw[List.getElem?_eq_none (by simpa using h1)] at hi;cases hi
    simp;omega
 ·rename_i e;rw[h s i,List.getElem?_append];split
  ·exact Iff.rfl
  ·rename_i hlt;rw[List.getElem?_eq_none (by omega)];constructor
   ·intro h;cases h
   ·intro h3;exfalso;rcases Nat.lt_or_ge (i-ts.length) 1 with h1|h1
    ·have:i-ts.length=0:=by omega
     rw[this] at h3;simp at h3;exact e h3
    ·rw[List.getElem?_eq_none (by simpa using h1)] at h3;cases h3
theorem rL.lt {m:List (av×Nat)} {ts:List av} (h:rL m ts) {t:av} {i:Nat} (hi:eu m t=some i):∃hl:i<ts.length,ts[i]=t:=List.getElem?_eq_some_iff.1 ((h t i).1 hi)
theorem rL.none {m:List (av×Nat)} {ts:List av} (h:rL m ts) {t:av} (hn:eu m t=none):t∉ts:=λhm=>by
 obtain⟨i,hi,e⟩:=List.mem_iff_getElem.1 hm;have:=(h t i).2 (by rw[List.getElem?_eq_getElem hi,e]);rw[hn] at this;cases this
theorem Lz {n:Nat}:∀c∈([2,3,4,5,6,7,8,9]++List.range' 10 n:List Nat),2<=c:=by
 intro c hc;simp only[List.mem_append,List.mem_cons,List.not_mem_nil,or_false,List.mem_range'_1] at hc;omega
def jT (f:Nat->Value) (k:Nat) (y:Value):Nat->Value:=λx=>if x=k then y else f x
def jU (fC:Nat->Value) (n:Nat):List iC:=(List.range n).map λi=>⟨fC i⟩
theorem vj (fC:Nat->Value) (n:Nat): (jU fC n).length=n:=by simp[jU]
theorem D1 {fC:Nat->Value} {n i:Nat} (h:i<(jU fC n).length): (jU fC n)[i].v=fC i:=by simp[jU]
theorem Gs {fC:Nat->Value} {n i:Nat} (y:Value): (jU fC n).set i ⟨y⟩=jU (jT fC i y) n:=by
 apply List.ext_getElem?;intro j;rw[List.getElem?_set];simp only[vj];by_cases hj:j<n
 ·have e1: (jU fC n)[j]?=some ⟨fC j⟩:=by simp[jU,hj]
  have e2: (jU (jT fC i y) n)[j]?=some ⟨jT fC i y j⟩:=by simp[jU,hj]
  rw[e1,e2];by_cases h:i=j
  ·subst h;simp[jT,hj]
  ·rw[if_neg h];simp[jT,Ne.symm h]
 ·have e1: (jU fC n)[j]?=none:=by simp[jU];omega
  have e2: (jU (jT fC i y) n)[j]?=none:=by simp[jU];omega
  rw[e1,e2];split
  ·rw[if_neg (by omega)]
  ·rfl
theorem T2 {fC:Nat->Value} {n:Nat} (y:Value):jU fC n++[⟨y⟩]=jU (jT fC n y) (n+1):=by
 unfold jU;rw[List.range_succ,List.map_append];congr 1
 ·refine List.map_congr_left λi hi=>?_;have:=List.mem_range.1 hi;simp only[jT];rw[if_neg (by omega)]
 ·simp[jT]
theorem T3 (n:Nat) (y:Value):List.replicate n (⟨y⟩:iC)=jU (λ_=>y) n:=by
 unfold jU;apply List.ext_getElem
 ·simp
 ·intro i h1 h2;simp
section
variable {α β:Type} [DecidableEq β] {f:α->β} {xs:List α} {r:α} {i0:Nat}
theorem T4 (hi:i0<(dJ f xs).length) (e:f (dJ f xs)[i0]=f r):
  dJ f (xs++[r])=dJ f xs/\∀i,(gI f (xs++[r])).getD i []=if i=i0 then(gI f xs).getD i0 []++[r] else(gI f xs).getD i []:=by
 obtain⟨h1,h2⟩:=Lx hi e;refine⟨h1,λi=>?_⟩;rw[h2];simp only[List.getD_eq_getElem?_getD,List.getElem?_modify];by_cases h:i=i0
 ·subst h;have:i<(gI f xs).length:=by rw[mu];exact hi
  simp[this]
 ·rw[if_neg h];have:¬i0=i:=λe=>h e.symm;simp[this]
theorem T5 (h:∀q∈dJ f xs,f q≠f r) (h0:i0=(dJ f xs).length):
  dJ f (xs++[r])=dJ f xs++[r]/\∀i,(gI f (xs++[r])).getD i []=if i=i0 then(gI f xs).getD i0 []++[r] else(gI f xs).getD i []:=by
 obtain⟨h1,h2⟩:=Ly h;refine⟨h1,λi=>?_⟩;subst h0;rw[h2,<-mu];simp only[List.getD_eq_getElem?_getD,List.getElem?_append];by_cases h:i=(gI f xs).length
 ·subst h;simp
 ·rw[if_neg h];by_cases h3:i<(gI f xs).length
  ·rw[if_pos h3]
  ·rw[if_neg h3,List.getElem?_eq_none (by simp;omega),List.getElem?_eq_none (by omega)]
theorem Gt (f:α->β) (xs:List α) (i:Nat) {n:Nat} (h:xs.length<=n): ((gI f xs).getD i []).length<=n:=by
 rw[List.getD_eq_getElem?_getD];by_cases hi:i<(gI f xs).length
 ·rw[List.getElem?_eq_getElem hi,Bp];exact Nat.le_trans (List.length_filter_le _ _) h
 ·rw[List.getElem?_eq_none (by omega)];simp
theorem T6 {i:Nat} (h: (dJ f xs).length<=i): (gI f xs).getD i []=[]:=by
 rw[List.getD_eq_getElem?_getD,List.getElem?_eq_none (by rw[mu];exact h)];rfl
end
theorem LA {α:Type} [aY α] {w:World} {M:Nat->Prop} {fC:Nat->Value} {ls:List (List α)} {v:Value} (h:aB w M (jU fC ls.length) v) (he:∀i,i<ls.length->aB w M (ls.getD i []) (fC i)):aB w M ls v:=
 aB.TK h rfl (by rw[vj]) λi h1 h2=>by
  rw[D1];have:=he i h1;rwa [List.getD_eq_getElem?_getD,List.getElem?_eq_getElem h1] at this
def Ix (qf:List (av×Nat)) (P:List (List av)) (k j:Nat):Prop:=∀i r,(i<k/\r∈P.getD i [])\/(i=k/\r∈(P.getD k []).take j)->eu qf r=some i
theorem Ix.nil (P:List (List av)):Ix [] P 0 0:=λi r h=>by
 rcases h with⟨h,_⟩|⟨_,h⟩
 ·omega
 ·simp at h
theorem Ix.next {qf:List (av×Nat)} {P:List (List av)} {k j:Nat} (h:Ix qf P k j) (hj: (P.getD k []).length<=j):Ix qf P (k+1) 0:=λi r hi=>by
 rcases hi with⟨h1,h2⟩|⟨_,h2⟩
 ·by_cases e:i=k
  ·subst e;exact h i r (.inr ⟨rfl,by rw[List.take_of_length_le hj];exact h2⟩)
  ·exact h i r (.inl ⟨by omega,h2⟩)
 ·simp at h2
theorem Br {l:List bk} {i:Nat} {r:av}:r∈(dP l).getD i []↔∃hi:i<(dJ (cv l) (bg l)).length,r∈bg l/\cv l r=cv l (dJ (cv l) (bg l))[i]:=by
 rw[List.getD_eq_getElem?_getD];by_cases hi:i<(dP l).length
 ·rw[List.getElem?_eq_getElem hi];have hi2:i<(dJ (cv l) (bg l)).length:=by unfold dP at hi;rwa [mu] at hi
  have: (dP l)[i]=(bg l).filter λr=>decide (cv l r=cv l (dJ (cv l) (bg l))[i]):=Bp hi;rw[Option.getD_some,this,List.mem_filter,decide_eq_true_eq];exact⟨λh=>⟨hi2,h⟩,λ⟨_,h⟩=>h⟩
 ·rw[List.getElem?_eq_none (by omega)];simp only[Option.getD_none,List.not_mem_nil,false_iff];rintro⟨h,_⟩;exact hi (by unfold dP;rwa [mu])
theorem Gu {α β:Type} [DecidableEq β] {f:α->β} {xs:List α} {i j:Nat} (hi:i<(dJ f xs).length) (hj:j<(dJ f xs).length) (e:f (dJ f xs)[i]=f (dJ f xs)[j]):i=j:=by
 have hn:=List.pairwise_iff_getElem.1 (Gp f xs);rcases Nat.lt_trichotomy i j with h3|h3|h3
 ·exact absurd (by rw[List.getElem_map,List.getElem_map,e]) (hn i j (by simpa using hi) (by simpa using hj) h3)
 ·exact h3
 ·exact absurd (by rw[List.getElem_map,List.getElem_map,e]) (hn j i (by simpa using hj) (by simpa using hi) h3)
theorem T7 {l:List bk} {i j:Nat} {r:av} (h:r∈(dP l).getD i []) (h':r∈(dP l).getD j []):i=j:=by
 obtain⟨hi,_,h1⟩:=Br.1 h;obtain⟨hj,_,h2⟩:=Br.1 h';exact Gu hi hj (h1.symm.trans h2)
theorem Ix.put {qf:List (av×Nat)} {l:List bk} {k j:Nat} (h:Ix qf (dP l) k j) (hk:k<(dP l).length) (hj:j<(dP l)[k].length):Ix (gB qf (dP l)[k][j] k) (dP l) k (j+1):=λi r hi=>by
 have hg: (dP l).getD k []=(dP l)[k]:=by rw[List.getD_eq_getElem?_getD,List.getElem?_eq_getElem hk];rfl
 rw[lT];split
 ·rename_i e;subst e;have hm: (dP l)[k][j]∈(dP l).getD k []:=by rw[hg];exact List.getElem_mem hj
  rcases hi with⟨h1,h2⟩|⟨h1,_⟩
  ·exact absurd (T7 h2 hm) (by omega)
  ·rw[h1]
 ·rename_i e;refine h i r ?_;rcases hi with hi|⟨h1,h2⟩
  ·exact .inl hi
  ·refine .inr ⟨h1,?_⟩;rw[hg] at h2⊢;rw[List.take_succ_eq_append_getElem hj] at h2;rcases List.mem_append.1 h2 with h2|h2
   ·exact h2
   ·simp only[List.mem_singleton] at h2;exact absurd h2.symm e
theorem T8 {l:List bk} {r:av} (h:r∈bg l):∃i,r∈(dP l).getD i []:=by
 obtain⟨q,hq,e⟩:=Gn (f:=cv l) h;obtain⟨i,hi,rfl⟩:=List.mem_iff_getElem.1 hq;exact⟨i,Br.2 ⟨hi,h,e.symm⟩⟩
def qg (l:List bk) (k:Nat):List (List bk):=(dJ (cv l) (bg l)).map λq=>(l.take k).filter λx=>decide (cv l x.A=cv l q)
theorem LB (l:List bk):qg l l.length=a_ l:=by unfold qg a_;rw[List.take_length]
theorem D2 {l:List bk} {k i:Nat} (hi:i<(dJ (cv l) (bg l)).length): (qg l k).getD i []=(l.take k).filter λx=>decide (cv l x.A=cv l (dJ (cv l) (bg l))[i]):=by
 rw[List.getD_eq_getElem?_getD,List.getElem?_eq_getElem (by simpa[qg] using hi)];simp[qg]
theorem T9 (l:List bk) (i:Nat): (qg l 0).getD i []=[]:=by
 rw[List.getD_eq_getElem?_getD];unfold qg;by_cases hi:i<(dJ (cv l) (bg l)).length
 ·rw[List.getElem?_eq_getElem (by simpa using hi)];simp
 ·rw[List.getElem?_eq_none (by simp;omega)];rfl
theorem LC (l:List bk) (k i:Nat): ((qg l k).getD i []).length<=l.length:=by
 by_cases hi:i<(dJ (cv l) (bg l)).length
 ·rw[D2 hi];exact Nat.le_trans (List.length_filter_le _ _) (by rw[List.length_take];omega)
 ·rw[List.getD_eq_getElem?_getD,List.getElem?_eq_none (by simp[qg];omega)];simp
theorem T_ {l:List bk} {k i0 i:Nat} (hk:k<l.length) (h0:l[k].A∈(dP l).getD i0 []) (hi:i<(dP l).length):
  (qg l (k+1)).getD i []=if i=i0 then(qg l k).getD i0 []++[l[k]] else(qg l k).getD i []:=by
 have hi2:i<(dJ (cv l) (bg l)).length:=by unfold dP at hi;rwa [mu] at hi
 obtain⟨Gw,_,e⟩:=Br.1 h0;rw[D2 hi2,List.take_succ_eq_append_getElem hk,List.filter_append];by_cases h:i=i0
 ·subst h;rw[if_pos rfl,D2 hi2];simp[e]
 ·rw[if_neg h,D2 hi2];have:¬cv l l[k].A=cv l (dJ (cv l) (bg l))[i]:=λe2=>h (Gu hi2 Gw (e2.symm.trans e));simp[this]
end Go.K
namespace Go.K
theorem LD:∀(m n:Nat) (f:Nat->Nat),(∀i,i<m->f i<n)->(∀i i',i<m->i'<m->f i=f i'->i=i')->m<=n
 |0,_,_,_,_=>Nat.zero_le _
 |m+1,0,f,h,_=>by have:=h 0 (Nat.succ_pos _);omega
 |m+1,n+1,f,h,hi=>by
  have:=LD m n (λi=>if f i=n then f m else f i) (λi hm=>by
   have h1:=h i (by omega);have h2:=h m (by omega);split
   ·rename_i e;have:f m≠n:=λe2=>by have:=hi i m (by omega) (by omega) (e.trans e2.symm);omega
    omega
   ·omega) (λi i' hm hm' e=>by
   split at e<;>split at e
   ·rename_i e1 e2;exact hi i i' (by omega) (by omega) (e1.trans e2.symm)
   ·have:=hi m i' (by omega) (by omega) e;omega
   ·have:=hi i m (by omega) (by omega) e;omega
   ·exact hi i i' (by omega) (by omega) e)
  omega
section
variable {k:Nat} {c:Nat->Nat->Int} {W Ua:Int} {n at_ T:Nat} {u v u2 v2:Nat->Int} {row way Ub:Nat->Nat} {least Uc:Nat->Int} {cl:Nat->Bool} {rk:Nat->Nat}
end
section
variable {N M:Nat} {wt:Nat->Nat->Int} {U V:Nat->Int} {f:Nat->Nat}
end
end Go.K
namespace Go.K
open aY
theorem rM {α:Type} {l:List α} {i:Nat} {d:α} (h:i<l.length):l.getD i d=l[i]:=by rw[List.getD_eq_getElem?_getD,List.getElem?_eq_getElem h];rfl
section
variable {P:Program} {N:Nat} {env:Env} {w:World} {x y:Operand} {t u:TypeId} {m n:Int}
end
section
variable {c:Nat->Nat->Int} {u v:Nat->Int} {cl:Nat->Bool} {least Cn Uc:Nat->Int} {way Cd Ub:Nat->Nat} {i a k j:Nat} {l1:Nat->Int} {Ua delta:Int} {next:Nat}
variable {row:Nat->Nat} {u' v' u2 v2 l l' l2:Nat->Int}
end
structure Edge where
 a:Int
 b:Int
 w:Int
 deriving DecidableEq
instance:aY Edge:=aY.via (λx:Edge=>(x.a,(x.b,x.w)))
instance:Inhabited Edge:=⟨⟨0,0,0⟩⟩
section
variable {w:World} {M:Nat->Prop} {b o:Nat} {v:Value}
end
def Gx (P:Program) (N:Nat) (ops:Array Oper):List Nat->Env->(Env->Prop)->Prop
 |[],env,K=>K env
 |i::A,env,K=>∃t op v,cq ops i=some (some t,op,none)/\Nat.blt t N=true/\(∀w,cH P N env op w v)/\Gx P N ops A ((t,v)::env) K
def sJ (l:Array Bool):List Nat->Array Bool
 |[]=>l
 |i::is=>sJ (l.setIfInBounds i true) is
def sK (ops:Array Oper):Nat->Array Bool->List Nat->Bool
 |_,_,[]=>true
 |0,_,_::_=>false
 |n+1,listed,j::A=>Region.free .any ops listed j&&(Region.ready .any ops listed).contains j&&!Nat.beq j ops.size&&sK ops n (listed.setIfInBounds j true) A
section
variable {P:Program} {ops:Array Oper} {Q:Exit->Act->World->Prop}
theorem LG {N:Nat} (hs:Region.noSelect ops=true) (hQ:∀c a d v w,Q (.panic c) (Act.put a d v) w->Q (.panic c) a w) {K:Env->Prop} {w:World}:
  ∀(A:List Nat) (n:Nat) (listed:Array Bool) (env:Env) (a:Act),sK ops n listed A=true->mP ops listed->Gx P N ops A env K->gY N env a->
   (∀(env':Env) (a':Act),K env'->gY N env' a'->mP ops (sJ listed A)->o_ P ops Q (λ_=>True) ops.size (n-A.length) (sJ listed A) a' w)->o_ P ops Q (λ_=>True) ops.size n listed a w
 |[],n,listed,env,a,_,dN,hp,ha,hend=>hend env a hp ha dN
 |j::A,0,listed,env,a,hc,_,_,_,_=>by cases hc
 |j::A,n+1,listed,env,a,hc,dN,hp,ha,hend=>by
  simp only[sK,Bool.and_eq_true] at hc;obtain⟨⟨⟨h1,h2⟩,h3⟩,h4⟩:=hc;obtain⟨t,op,v,hop,ht,hv,hp⟩:=hp;obtain⟨o,ho,hd,rfl,hg⟩:=rC hop;have hr:j∈Region.ready .any ops listed:=by simpa using h2
  have hdk:qw N o.dst=true:=by rw[hd];exact ht
  have hy:YieldsIf P ops (λ_=>True) o v a:=.inl ⟨by unfold Region.wanted;rw[hg],λw' _=>hv w' a ha o rfl⟩;have hne:j≠ops.size:=λe=>by subst e;simp at h3
  refine AW ho (Region.noSelect_spec hs) (λc a w hq=>hQ c a _ _ w hq) hne (λl hc hj=>?_) n listed a w dN (Region.free_spec ho h1) hr hy trivial ?_
  ·rw[Array.getD_eq_getD_getElem?,Array.getElem?_eq_none (by rw[hc.1];exact Nat.le_refl _)] at hj;cases hj
  ·have hst:=ha.put hdk v;rw[hd] at hst⊢;exact LG hs hQ A n _ _ _ h4 (mo dN hr) hp hst (λenv' a' k1 k2 tG=>by
    have:=hend env' a' k1 k2 tG;rw[List.length_cons,show n+1-(A.length+1)=n-A.length from by omega] at this;exact this)
theorem LH:∀(is:List Nat) (l:Array Bool),(sJ l is).size=l.size
 |[],_=>rfl
 |i::is,l=>by rw[sJ,LH is];simp
theorem Gy {d:Bool}:∀(is:List Nat) (l:Array Bool) (j:Nat),j<l.size->(sJ l is).getD j d=if j∈is then true else l.getD j d
 |[],l,j,_=>by simp[sJ]
 |i::is,l,j,hj=>by
  rw[sJ,Gy is _ j (by simpa using hj)];by_cases e:j∈is
  ·simp[e]
  ·rw[if_neg e];by_cases e2:j=i
   ·subst e2;rw[if_pos (by simp)];simp[Array.getD,hj]
   ·rw[if_neg (by simp[e,e2]),getD_set_ne d (Ne.symm e2)]
end
theorem D3 {P:Program} {f:FuncId} {N:Nat} {k k':List Item} {env:Env} {w:World} {R:Value->World->Prop} {ι:Type} (I:ι->World->Prop) (e:ι->Env)
 (hr:∀x w,I x w->Run P f N k (e x) w R) (hm: (∀x w,I x w->Run P f N k (e x) w R)->Run P f N k' env w R):Run P f N k' env w R:=hm hr
structure Gz where
 n:Int
 m:Int
 U:List Int
 V:List Int
 tot:Int
 edge:List (List Bool)
instance:aY Gz:=aY.via (λx:Gz=>(x.n,(x.m,(x.U,(x.V,(x.tot,x.edge))))))
section
variable {w w' w₀:World} {M:Nat->Prop} {b o:Nat} {v:Value} {x:Gz}
end
section
variable {n m:Nat} {wt:Nat->Nat->Int} {W:Int}
end
section
variable {P:Program} {N:Nat} {env:Env} {y z:Operand} {t e:TypeId} {b o o' n len:Nat} {k:IntKind} {i:Int} {w:World}
theorem Ud (hu:P.underlying t=some (.array len e)) (hn:gN P e=some n) (hy:ev env y=some (.pointer (some ⟨b,o,none⟩))) (hz:ev env z=some (.int k i))
  (h0:0<=i) (h1:i<len) (ho':o'=o+i.toNat*n):cH P N env (.indexAddr t y z) w (.pointer (some ⟨b,o',none⟩)):=mk' λρ hρ eD ho=>by
 subst ho';unfold execOp;rw[ho];simp only[hρ _ _ hy,hρ _ _ hz];simp[go_sem,Instr.indexAt,run_underlying hu,asIntOf,j0 hn,h0,h1,mq,Instr.sureAddr]
end
end Go.K
