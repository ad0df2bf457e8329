/- A region whose operations come up in whatever order their edges allow: each one is shown once. -/
import Derived.Test.YtmdhggfehknjjaaGreatL3
import Derived.Test.YtmdhggfehknjjaaGreatL2
import Derived.Test.YtmdhggfehknjjaaGreatL1
import Derived.WalkKit
import Derived.ProofKit
import Derived.OpenShut
import Derived.ChangeSlices
import Derived.Below
import Derived.Carry
import Derived.Deep.Slices
import Derived.WideShapes
import Derived.ChangeArms
import Derived.SizedLaws
set_option linter.unusedVariables false
set_option linter.unusedSimpArgs false
set_option linter.unusedSectionVars false
namespace Go.K
open bn
structure Cr where
 i:Nat
 t:Option Nat
 sup:List (Nat×Nat)
 W:List Nat
 bad:List Nat
 kill:List Nat
 dep:List Nat
 use:List Nat
 Ej:List Nat
 F:Value->List Value->World->(Nat->Nat)->Prop
structure Sb where
 bad:List Nat
 F:World->(Nat->Nat)->Prop
def AO (V:List Sb) (u:Nat) (w:World) (C:Nat->Nat):Prop:=match V[u]? with|some v=>v.F w C|none=>True
def Mu (V:List Sb) (u:Nat):List Nat:=match V[u]? with|some v=>v.bad|none=>[]
def AP (val:Nat->Value):List (Nat×Nat)->Env->Env
 |[],e=>e
 |(i,t)::l,e=>(t,val i)::AP val l e
def vals (val:Nat->Value) (l:List (Nat×Nat)):List Value:=l.map λp=>val p.1
def JD (val:Nat->Value):List Cr->Env->Env
 |[],e=>e
 |m::ms,e=>match m.t with|some t=>(t,val m.i)::JD val ms e|none=>JD val ms e
def Sc (val:Nat->Value) (w:World) (C:Nat->Nat) (ks:List Nat):List Cr->Prop
 |[]=>True
 |m::ms=>(bif ks.contains m.i then True else m.F (val m.i) (vals val m.sup) w C)/\Sc val w C ks ms
theorem dX {val:Nat->Value} {w:World} {C:Nat->Nat} {ks:List Nat}:∀{ms:List Cr},(∀m∈ms,m.i∉ks->m.F (val m.i) (vals val m.sup) w C)->Sc val w C ks ms
 |[],_=>trivial
 |m::ms,h=>by
  refine⟨?_,dX λn hn=>h n (List.mem_cons_of_mem _ hn)⟩;cases hc:ks.contains m.i with
  |true=>trivial
  |false=>exact h m b_ λhm=>(by rw[List.contains_iff_mem.2 hm] at hc;cases hc)
def nZ (P:Program) (N:Nat) (ops:Array Oper) (i:Nat) (env:Env) (w:World) (T:Value->World->Prop):Prop:=
 ∀(Q:Exit->Act->World->Prop) a,jf N env a->wpOp P ops Q i (λa' w'=>∃v,a'=a.put ((ops[i]?).bind (·.dst)) v/\T v w') a w
section
variable {P:Program} {N:Nat} {ops:Array Oper} {i:Nat} {env:Env} {w:World} {T dV:Value->World->Prop} {d:Option Nat} {op:Op}
theorem nZ.act (hop:bY ops i=some (d,op,none)) (hy:g_ P N env op w T):nZ P N ops i env w T:=λQ a ha=>by
 obtain⟨o,ho,rfl,rfl,hg⟩:=vV hop;have hw:Region.wanted o (yielded ops a.tmps)=true:=by unfold Region.wanted;rw[hg]
 simp only[wpOp,ho,hw,if_true,Option.bind_some];obtain⟨v,w',hrun,hT⟩:=hy a ha o rfl;left;unfold Oper.wp;rcases hrun with hrun|⟨hrun,rfl⟩
 ·rw[hrun];exact⟨v,rfl,hT⟩
 ·rw[hrun];exact⟨undef,rfl,hT⟩
theorem nZ.val {v:Value} (hop:bY ops i=some (d,op,none)) (hy:cE P N env op w v):nZ P N ops i env w (λx w'=>x=v/\w'=w):=nZ.act hop hy.acts
theorem nZ.call {g:FuncId} {args:Array Value} (hop:bY ops i=some (d,op,none)) (hy:Enters P N env op w g args) (hc:Calls P g args w (aZ T)):nZ P N ops i env w T:=λQ a ha=>by
 obtain⟨o,ho,rfl,rfl,hg⟩:=vV hop;have hw:Region.wanted o (yielded ops a.tmps)=true:=by unfold Region.wanted;rw[hg]
 simp only[wpOp,ho,hw,if_true,Option.bind_some];left;unfold Oper.wp;rw[hy a ha o rfl];simp only[Oper.upon];refine hc.mono λe w' he=>?_;obtain⟨v,rfl,hT⟩:=he;exact⟨v,rfl,hT⟩
theorem nZ.mono (h:nZ P N ops i env w T) (hT:∀v w',T v w'->dV v w'):nZ P N ops i env w dV:=λQ a ha=>wpOp_mono (λa' w' ⟨v,e,h⟩=>⟨v,e,hT v w' h⟩) (h Q a ha)
end
def vT (ops:Array Oper) (i j:Nat):Bool:=match ops[i]? with|some o=>o.after.any (λe=>Region.binds .any e&&Nat.beq e.on j)|none=>false
def sE (ops:Array Oper) (I:List Nat) (A:List Nat) (ms:List Cr) (V:List (List Nat)):Bool:=
 xP ops ops.size (Array.replicate ops.size false) A&&
 (List.range ops.size).all (λu=>A.contains u||ms.any (λm=>Nat.beq m.i u))&&
 ms.all (λm=>Nat.blt m.i ops.size&&!(A.contains m.i)&&m.W.all (λc=>I.contains c)&&
  m.sup.all (λp=>ms.any (λn=>Nat.beq n.i p.1&&n.t==some p.2))&&(m.sup.map (·.1)++m.dep).all (λj=>vT ops m.i j&&Nat.blt j m.i&&ms.all (λk=>!(k.kill.contains j)||Nat.beq k.i m.i||vT ops k.i m.i))&&
  ms.all (λn=>Nat.beq n.i m.i||vT ops n.i m.i||(m.kill.contains n.i||m.W.all (λc=>!(n.bad.contains c)))))&&
 (List.range ops.size).all (λu=>match ops[u]? with|some o=>o.after.all (λe=>Nat.blt e.on u)|none=>true)&&
 ms.all (λm=>m.use.all (λu=>Nat.blt u V.length&&ms.all (λk=>!(k.Ej.contains u)||Nat.beq k.i m.i||vT ops k.i m.i))&&(List.range V.length).all (λu=>m.Ej.contains u||m.W.all (λc=>!((V.getD u []).contains c))))
theorem Mv {ops:Array Oper} {l:Array Bool} (hc:qm ops l) {i j:Nat} (h:vT ops i j=true) (hi:l.getD i false=true):l.getD j false=true:=by
 unfold vT at h;cases ho:ops[i]? with
 |none=>rw[ho] at h;cases h
 |some o=>
  rw[ho] at h;obtain⟨e,he,hb⟩:=Array.any_eq_true'.1 h;rw[Bool.and_eq_true] at hb;rw[<-Nat.eq_of_beq_eq_true hb.2];exact hc.2 i o ho hi e he hb.1
theorem ahO {ops:Array Oper} {l:Array Bool} {i j:Nat} (h:vT ops i j=true) (hr:i∈Region.ready .any ops l):l.getD j false=true:=by
 obtain⟨_,o,ho,hall⟩:=mem_ready.1 hr;unfold vT at h;rw[ho] at h;obtain⟨e,he,hb⟩:=Array.any_eq_true'.1 h;rw[Bool.and_eq_true] at hb;rw[<-Nat.eq_of_beq_eq_true hb.2];exact hall e he hb.1
theorem rz {N:Nat} {val:Nat->Value} {env:Env} {a:Act} (ha:jf N env a):∀(l:List (Nat×Nat)),(∀p∈l,a.tmps[p.2]?=some (val p.1))->jf N (AP val l env) a
 |[],_=>ha
 |(i,t)::l,h=>by
  have ih:=rz ha l λp hp=>h p (by simp[hp]);refine⟨ih.size,ih.defers,λu v hl=>?_⟩;simp only[AP,look] at hl;cases hb:Nat.beq t u with
  |true=>
   rw[hb] at hl;simp only[cond_true,Option.some.injEq] at hl;rw[<-Nat.eq_of_beq_eq_true hb,<-hl];exact h (i,t) b_
  |false=>rw[hb] at hl;exact ih.slot u v hl
theorem Sd {l:Array Bool} {i:Nat} (h:i<l.size):l.getD i true=l.getD i false:=by simp[Array.getD,h]
theorem RA {ops:Array Oper}:∀(A:List Nat) (n:Nat) (l:Array Bool),xP ops n l A=true->∀j∈A,j<ops.size
 |[],_,_,_,j,hj=>by simp at hj
 |a::A,0,_,h,_,_=>by cases h
 |a::A,n+1,l,h,j,hj=>by
  simp only[xP,Bool.and_eq_true] at h;rcases List.mem_cons.1 hj with rfl|hj
  ·obtain⟨_,o,ho,_⟩:=mem_ready.1 (show j∈Region.ready .any ops l by simpa using h.1.1.2);exact(Array.getElem?_eq_some_iff.1 ho).1
  ·exact RA A n _ h.2 j hj
theorem va {ops:Array Oper}:∀(A:List Nat) (n:Nat) (l:Array Bool),xP ops n l A=true->∀j∈A,l.getD j true=false
 |[],_,_,_,j,hj=>by simp at hj
 |a::A,0,_,h,_,_=>by cases h
 |a::A,n+1,l,h,j,hj=>by
  simp only[xP,Bool.and_eq_true] at h;have ha:=(mem_ready.1 (show a∈Region.ready .any ops l by simpa using h.1.1.2)).1;rcases List.mem_cons.1 hj with rfl|hj
  ·exact ha
  ·have:=va A n _ h.2 j hj;by_cases e:a=j
   ·subst e;exact ha
   ·rw[getD_set_ne true e] at this;exact this
theorem kz {ops:Array Oper}:∀(A:List Nat) (n:Nat) (l:Array Bool),xP ops n l A=true->A.Nodup
 |[],_,_,_=>List.nodup_nil
 |a::A,0,_,h=>by cases h
 |a::A,n+1,l,h=>by
  have h0:=h;simp only[xP,Bool.and_eq_true] at h;refine List.nodup_cons.2 ⟨λhm=>?_,kz A n _ h.2⟩;have h1:=va A n _ h.2 a hm;have ha:=(mem_ready.1 (show a∈Region.ready .any ops l by simpa using h.1.1.2)).1;have hs:a<l.size:=by
   rcases Nat.lt_or_ge a l.size with h|h
   ·exact h
   ·simp[Array.getElem?_eq_none h] at ha
  simp[Array.getD,hs] at h1
theorem ahP {P:Program} {f:FuncId} {N:Nat} {k:List Item} {env:Env} {w:World} {R:Value->World->Prop} {c:Code} {id:Nat} {ops:Array Oper} {C:Nat->Nat} (I:List Nat) (J:World->(Nat->Nat)->Prop) (V:List Sb) (A:List Nat) (ms:List Cr) (hm:P.follows .mixedOrders=true) (hc:c=.region id ops true)
  (hn:Region.noSelect ops=true) (hk:sE ops I A ms (V.map (·.bad))=true) (hF:aF w C) (hJ:J {w with drawn:=w.drawn+1} C)
  (hV:∀v∈V,v.F w C/\∀w1 aK w2 dm W,(∀c∈W,c∉v.bad)->v.F w1 aK->av W w1 aK w2 dm->v.F w2 dm)
  (h:NA P N ops A env λAQ=>
   (∀m∈ms,JN ops m.i=some (m.t,none)/\uI N m.t=true/\(∀t,m.t=some t->look AQ t=none)/\
    (∀v vs w1 aK w2 dm W,(∀c∈W,c∉m.bad)->m.F v vs w1 aK->av W w1 aK w2 dm->m.F v vs w2 dm)/\
    (∀val w1 aK,av I w C w1 aK->aF w1 aK->J w1 aK->(∀n∈ms,n.i∈m.sup.map (·.1)++m.dep->n.F (val n.i) (vals val n.sup) w1 aK)->(∀u∈m.use,AO V u w1 aK)->
     nZ P N ops m.i (AP val m.sup AQ) w1 (λv w'=>∃aG,av m.W w1 aK w' aG/\aF w' aG/\J w' aG/\m.F v (vals val m.sup) w' aG)))/\
   (ms.map (·.i)).Nodup/\(ms.filterMap (·.t)).Nodup/\
   ∀val w' aG,av I w C w' aG->aF w' aG->J w' aG->Sc val w' aG (ms.flatMap (·.kill)) ms->(∀u,u<V.length->u∉ms.flatMap (·.Ej)->AO V u w' aG)->bQ P f N k R ops (λ_=>True) [] (JD val ms AQ) w'):
  Run P f N (.code c::k) env w R:=λa ha=>by
 subst hc;unfold sE at hk;rw[Bool.and_eq_true,Bool.and_eq_true,Bool.and_eq_true,Bool.and_eq_true] at hk;obtain⟨⟨⟨⟨mY,hk2⟩,yx⟩,BZ⟩,vb⟩:=hk;rw[List.all_eq_true] at hk2 yx BZ vb;have bx:∀u w1 aK w2 dm W,(∀c∈W,c∉Mu V u)->AO V u w1 aK->av W w1 aK w2 dm->AO V u w2 dm:=λu w1 aK w2 dm W hW h1 hs=>by
  unfold AO Mu at*;cases e:V[u]? with
  |none=>trivial
  |some v=>rw[e] at h1 hW;exact(hV v (List.mem_of_getElem? e)).2 _ _ _ _ _ hW h1 hs
 have nw:∀m∈ms,(∀u∈m.use,u<V.length/\∀q∈ms,u∈q.Ej->q.i=m.i\/vT ops q.i m.i=true)/\∀u,u<V.length->u∈m.Ej\/∀c∈m.W,c∉Mu V u:=λm jP=>by
  have h0:=vb m jP;simp only[Bool.and_eq_true,Bool.not_eq_true',List.all_eq_true,List.contains_iff_mem,Bool.or_eq_true,Bool.eq_false_iff,ne_eq,List.length_map,List.mem_range] at h0;refine⟨λu hu=>⟨by
           have:u+1<=V.length:=by simpa[Nat.blt] using(h0.1 u hu).1
           omega,λq hq Ek=>?_⟩,λu hu=>?_⟩
  ·rcases(h0.1 u hu).2 q hq with(b|b)|b
   ·exact absurd Ek b
   ·exact .inl (Nat.eq_of_beq_eq_true b)
   ·exact .inr b
  ·rcases h0.2 u hu with b|b
   ·exact .inl b
   ·right;intro c hc hcb;refine b c hc ?_;unfold Mu at hcb;rw[List.getD_eq_getElem?_getD,List.getElem?_map];rw[List.getElem?_eq_getElem hu] at hcb⊢;exact hcb
 refine Cw (wp_region_any hm (Cy (S:=λ_=>True) (dh:=ops.size) _ _ _ _ ?_));have hQ:∀c (a:Act) d v w,pI P f k R (.panic c) (Act.put a d v) w->pI P f k R (.panic c) a w:=λc a d v w h=>h.elim;have vL:av I w C {w with drawn:=w.drawn+1} C:=av.drew I w C;refine Ui (N:=N) (w:={w with drawn:=w.drawn+1}) hn hQ A ops.size _ env a mY (Gh ops) h ha (λAQ a2 hK ha2 dM=>?_);obtain⟨y8,hni,hnt,qx⟩:=hK;have ahQ:∀(l:List Cr),(l.map (·.i)).Nodup->∀m∈l,∀m'∈l,m.i=m'.i->m=m':=by
  intro l
  induction l with
  |nil=>intro _ m hm;simp at hm
  |cons x l ih=>
   intro gi m hm m' hm' e;rw[List.map_cons,List.nodup_cons] at gi;rcases List.mem_cons.1 hm with e1|h1
   ·rcases List.mem_cons.1 hm' with e2|h2
    ·rw[e1,e2]
    ·subst e1;exact absurd (List.mem_map.2 ⟨m',h2,e.symm⟩) gi.1
   ·rcases List.mem_cons.1 hm' with e2|h2
    ·subst e2;exact absurd (List.mem_map.2 ⟨m,h1,e⟩) gi.1
    ·exact ih gi.2 m h1 m' h2 e
 have ahR:∀(l:List Cr),(l.filterMap (·.t)).Nodup->∀m∈l,∀m'∈l,∀t,m.t=some t->m'.t=some t->m=m':=by
  intro l
  induction l with
  |nil=>intro _ m hm;simp at hm
  |cons x l ih=>
   intro gi m hm m' hm' t e1 e2;have hx:∀t,x.t=some t->∀y∈l,y.t≠some t:=λt Mw y hy ahS=>by
    rw[List.filterMap_cons_some Mw,List.nodup_cons] at gi;exact gi.1 (List.mem_filterMap.2 ⟨y,hy,ahS⟩)
   have ahT: (l.filterMap (·.t)).Nodup:=by
    cases Mw:x.t with
    |none=>rwa [List.filterMap_cons_none Mw] at gi
    |some u=>rw[List.filterMap_cons_some Mw,List.nodup_cons] at gi;exact gi.2
   rcases List.mem_cons.1 hm with q1|h1
   ·rcases List.mem_cons.1 hm' with q2|h2
    ·rw[q1,q2]
    ·subst q1;exact absurd e2 (hx t e1 m' h2)
   ·rcases List.mem_cons.1 hm' with q2|h2
    ·subst q2;exact absurd e1 (hx t e2 m h1)
    ·exact ih ahT m h1 m' h2 t e1 e2
 have spec:∀m∈ms,m.i<ops.size/\m.i∉A/\(∀c∈m.W,c∈I)/\
   (∀p∈m.sup,∃n∈ms,n.i=p.1/\n.t=some p.2)/\(∀j∈m.sup.map (·.1)++m.dep,vT ops m.i j=true/\j<m.i/\∀q∈ms,j∈q.kill->q.i=m.i\/vT ops q.i m.i=true)/\
   ∀n∈ms,n.i≠m.i->vT ops n.i m.i=true\/n.i∈m.kill\/∀c∈m.W,c∉n.bad:=λm jP=>by
  have h0:=yx m jP;simp only[Bool.and_eq_true,Bool.not_eq_true',List.all_eq_true,List.contains_iff_mem,List.any_eq_true,Bool.or_eq_true,beq_iff_eq,Bool.eq_false_iff,ne_eq] at h0;obtain⟨⟨⟨⟨⟨h1,h2⟩,h3⟩,h6⟩,h4⟩,h5⟩:=h0;refine⟨by
        have:m.i+1<=ops.size:=by simpa[Nat.blt] using h1
        omega,h2,h3,λp hp=>?_,λp hp=>?_,λn hn' hne=>?_⟩
  ·obtain⟨n,xX,hn2,Hs⟩:=h6 p hp;exact⟨n,xX,Nat.eq_of_beq_eq_true hn2,Hs⟩
  ·obtain⟨⟨a1,a2⟩,a4⟩:=h4 p hp;refine⟨a1,by
          have:p+1<=m.i:=by simpa[Nat.blt] using a2
          omega,λq hq Ek=>?_⟩
   rcases a4 q hq with(b|b)|b
   ·exact absurd Ek b
   ·exact .inl (Nat.eq_of_beq_eq_true b)
   ·exact .inr b
  ·rcases h5 n hn' with(b|b)|b|b
   ·exact absurd (Nat.eq_of_beq_eq_true b) hne
   ·exact .inl b
   ·exact .inr (.inl b)
   ·exact .inr (.inr b)
 have pG:∀u (o:Oper),ops[u]?=some o->∀e∈o.after,e.on<u:=λu o ho e he=>by
  have hu:=(Array.getElem?_eq_some_iff.1 ho).1;have:=BZ u (List.mem_range.2 hu);rw[ho] at this;have h2:=(Array.all_eq_true'.1 this) e he;have:e.on+1<=u:=by simpa[Nat.blt] using h2
  omega
 have nk:∀u,u<ops.size->u∈A\/∃m∈ms,m.i=u:=λu hu=>by
  have:=hk2 u (List.mem_range.2 hu);simp only[Bool.or_eq_true,List.contains_iff_mem,List.any_eq_true] at this;rcases this with h1|⟨m,h1,h2⟩
  ·exact .inl h1
  ·exact .inr ⟨m,h1,Nat.eq_of_beq_eq_true h2⟩
 have main:∀(n:Nat) (l:Array Bool) (a:Act) (w':World),l.size=ops.size->qm ops l->(∀j∈A,l.getD j false=true)->(ms.filter λm=>!(l.getD m.i false)).length<=n->
   (∃(aG:Nat->Nat) (val:Nat->Value),jf N AQ a/\av I {w with drawn:=w.drawn+1} C w' aG/\aF w' aG/\J w' aG/\
    (∀u,u<V.length->(∀q∈ms,l.getD q.i false=true->u∉q.Ej)->AO V u w' aG)/\∀m∈ms,l.getD m.i false=true->(∀t,m.t=some t->a.tmps[t]?=some (val m.i))/\((∀q∈ms,l.getD q.i false=true->m.i∉q.kill)->m.F (val m.i) (vals val m.sup) w' aG))->
   sO P ops (pI P f k R) (λ_=>True) ops.size n l a w':=by
  intro n;have stop:∀(l:Array Bool) (a:Act) (w':World),l.size=ops.size->(∀j∈A,l.getD j false=true)->Region.ready .any ops l=[]->
    (∃(aG:Nat->Nat) (val:Nat->Value),jf N AQ a/\av I {w with drawn:=w.drawn+1} C w' aG/\aF w' aG/\J w' aG/\
    (∀u,u<V.length->(∀q∈ms,l.getD q.i false=true->u∉q.Ej)->AO V u w' aG)/\∀m∈ms,l.getD m.i false=true->(∀t,m.t=some t->a.tmps[t]?=some (val m.i))/\((∀q∈ms,l.getD q.i false=true->m.i∉q.kill)->m.F (val m.i) (vals val m.sup) w' aG))->pI P f k R .normal a w':=by
   intro l a w' hl hA hr ⟨aG,val,hst,zu,hlim,hj,FE,hall⟩;have full:∀u,u<ops.size->l.getD u false=true:=by
    intro u
    induction u using Nat.strongRecOn with
    |ind u ih=>
     intro hu;apply Classical.byContradiction;intro hno;have:u∈Region.ready .any ops l:=mem_ready.2 ⟨by rw[Sd af];simpa using hno,ops[u],Array.getElem?_eq_getElem hu,λe he _=>ih e.on (pG u _ (Array.getElem?_eq_getElem hu) e he) (by have:=pG u _ (Array.getElem?_eq_getElem hu) e he;omega)⟩;rw[hr] at this;cases this
   have KT:=λm jP=>hall m jP (full m.i (spec m jP).1);have ahU:∀(q:List Cr),(∀m∈q,m∈ms)->∀t v,look (JD val q AQ) t=some v->a.tmps[t]?=some v:=by
    intro q
    induction q with
    |nil=>intro _ t v h;exact hst.slot t v h
    |cons m q ih=>
     intro hq t v h;simp only[JD] at h;cases AU:m.t with
     |none=>rw[AU] at h;exact ih (λx hx=>hq x (by simp[hx])) t v h
     |some u=>
      rw[AU] at h;simp only[look] at h;cases hb:Nat.beq u t with
      |true=>
       rw[hb] at h;simp only[cond_true,Option.some.injEq] at h;rw[<-Nat.eq_of_beq_eq_true hb,<-h];exact(KT m (hq m b_)).1 u AU
      |false=>rw[hb] at h;exact ih (λx hx=>hq x (by simp[hx])) t v h
   exact qx val w' aG (vL.trans zu (λc hc=>hc)) hlim hj (dX λm jP ay=>(KT m jP).2 (λq hq _ Ek=>ay (List.mem_flatMap.2 ⟨q,hq,Ek⟩))) (λu hu hno=>FE u hu λq hq _ Ek=>hno (List.mem_flatMap.2 ⟨q,hq,Ek⟩)) a ⟨hst.size,hst.defers,ahU ms (λm h=>h)⟩
  induction n with
  |zero=>
   intro l a w' hl dM hA sr hinv;have hr:Region.ready .any ops l=[]:=by
    rw[List.eq_nil_iff_forall_not_mem];intro i hi;obtain⟨hun,o,ho,_⟩:=mem_ready.1 hi;have Se:=(Array.getElem?_eq_some_iff.1 ho).1;rw[Sd af] at hun;rcases nk i Se with Sf|⟨m,jP,rfl⟩
    ·rw[hA i Sf] at hun;cases hun
    ·have:m∈ms.filter λm=>!(l.getD m.i false):=List.mem_filter.2 ⟨jP,by rw[hun];rfl⟩
     rw[List.eq_nil_of_length_eq_zero (Nat.le_zero.1 sr)] at this;cases this
   exact⟨hr,stop l a w' hl hA hr hinv⟩
  |succ n ih=>
   intro l a w' hl dM hA sr hinv;refine⟨λhr=>stop l a w' hl hA hr hinv,λi hi=>?_⟩;obtain⟨aK,val,hst,zu,hlim,hj,FE,hall⟩:=hinv;obtain⟨hun,o,ho,_⟩:=mem_ready.1 hi;have Se:=(Array.getElem?_eq_some_iff.1 ho).1;rw[Sd af] at hun;rcases nk i Se with Sf|⟨m,jP,rfl⟩
   ·rw[hA i Sf] at hun;cases hun
   obtain⟨s1,s2,s3,ahV,Sg,ahW⟩:=spec m jP;have vz:∀p∈m.sup,p.1∈m.sup.map (·.1)++m.dep:=λp hp=>List.mem_append_left _ (List.mem_map.2 ⟨p,hp,rfl⟩);obtain⟨hop,hdk,hlk,alT,hact⟩:=y8 m jP;obtain⟨op,hop⟩:=Ta hop;obtain⟨fB,gO,hd,_,hg⟩:=vV hop;rw[ho] at gO;cases gO;have rD:∀j∈m.sup.map (·.1)++m.dep,l.getD j false=true:=λj hj=>ahO (Sg j hj).1 hi;have ahX:∀q∈ms,q.i∈m.sup.map (·.1)++m.dep->q.F (val q.i) (vals val q.sup) w' aK:=λq hq hp=>by
    obtain⟨a1,a2,a4⟩:=Sg q.i hp;refine(hall q hq (rD q.i hp)).2 λz hz hzl Sh=>?_;rcases a4 z hz Sh with b|b
    ·rw[b,hun] at hzl;cases hzl
    ·have:=Mv dM b hzl;rw[hun] at this;cases this
   have ahY:∀u∈m.use,AO V u w' aK:=λu hu=>by
    obtain⟨a1,a2⟩:=(nw m jP).1 u hu;refine FE u a1 λz hz hzl Sh=>?_;rcases a2 z hz Sh with b|b
    ·rw[b,hun] at hzl;cases hzl
    ·have:=Mv dM b hzl;rw[hun] at this;cases this
   have ahZ:jf N (AP val m.sup AQ) a:=rz hst m.sup λp hp=>by
    obtain⟨q,hq,e1,e2⟩:=ahV p hp;have:=(hall q hq (by rw[e1];exact rD _ (vz p hp))).1 p.2 e2;rw[this,e1]
   refine wpOp_mono (λa' w2 hdone=>⟨λ_=>trivial,?_⟩) (hact val w' aK (vL.trans zu (λc hc=>hc)) hlim hj ahX ahY (pI P f k R) a ahZ);obtain⟨v,rfl,dm,hs2,mM,hj2,AV⟩:=hdone;rw[ho,Option.bind_some,hd];have hput:=hst.put hdk v;have hne:jf N AQ (a.put m.t v):=by
    cases AU:m.t with
    |none=>rw[AU] at hput;exact hput
    |some t=>
     rw[AU] at hput;refine⟨hput.size,hput.defers,λt' v' hlt=>hput.slot t' v' ?_⟩;have:t≠t':=λe=>by subst e;rw[hlk t AU] at hlt;cases hlt
     simp only[tB,look];cases hb:Nat.beq t t' with
     |true=>exact absurd (Nat.eq_of_beq_eq_true hb) this
     |false=>exact hlt
   have ah0:=pJ dM hi;have ah1:∀j,(l.setIfInBounds m.i true).getD j false=true->j=m.i\/l.getD j false=true:=λj hj=>by
    by_cases e:m.i=j
    ·exact .inl e.symm
    ·rw[getD_set_ne false e] at hj;exact .inr hj
   have Si:∀j,l.getD j false=true->(l.setIfInBounds m.i true).getD j false=true:=λj hj=>getD_set_true hj;have Sj: (l.setIfInBounds m.i true).getD m.i false=true:=by simp[Array.getD,hl,s1]
   refine ih _ _ _ (by simp[hl]) ah0 (λj hj=>Si j (hA j hj)) ?_ ?_
   ·have hlt: (ms.filter λq=>!((l.setIfInBounds m.i true).getD q.i false)).length<(ms.filter λq=>!(l.getD q.i false)).length:=by
     have hsub: (ms.filter λq=>!((l.setIfInBounds m.i true).getD q.i false))=(ms.filter λq=>!(l.getD q.i false)).filter λq=>!(Nat.beq q.i m.i):=by
      rw[List.filter_filter];refine List.filter_congr λq _=>?_;by_cases e:m.i=q.i
      ·rw[<-e,Sj];simp
      ·rw[getD_set_ne false e];have:Nat.beq q.i m.i=false:=by
         cases hb:Nat.beq q.i m.i with
         |false=>rfl
         |true=>exact absurd (Nat.eq_of_beq_eq_true hb).symm e
       rw[this];simp
     rw[hsub];have hmem:m∈ms.filter λq=>!(l.getD q.i false):=List.mem_filter.2 ⟨jP,by rw[hun];rfl⟩
     refine Nat.lt_of_le_of_ne (List.length_filter_le _ _) λe=>?_;have:=List.length_filter_eq_length_iff.1 e m hmem;simp at this
    omega
   ·refine⟨dm,λj=>if j=m.i then v else val j,hne,zu.trans hs2 s3,mM,hj2,λu hu hno=>?_,λq hq cD=>?_⟩
    ·have hold:=FE u hu λz hz hzl=>hno z hz (Si z.i hzl);rcases(nw m jP).2 u hu with b|b
     ·exact absurd b (hno m jP Sj)
     ·exact bx u _ _ _ _ m.W b hold hs2
    have ah2:∀z∈ms,l.getD z.i false=true->vals (λj=>if j=m.i then v else val j) z.sup=vals val z.sup:=λz hz hzl=>by
     unfold vals;refine List.map_congr_left λp hp=>?_;show(if p.1=m.i then v else val p.1)=val p.1;rw[if_neg];intro e;have:=Mv dM ((spec z hz).2.2.2.2.1 p.1 (List.mem_append_left _ (List.mem_map.2 ⟨p,hp,rfl⟩))).1 hzl;rw[e,hun] at this;cases this
    by_cases e:q.i=m.i
    ·have:=ahQ ms hni q hq m jP e;subst this;refine⟨λt ht=>?_,λ_=>?_⟩
     ·show _=some (if q.i=q.i then v else val q.i);rw[if_pos rfl];rw[ht] at hput⊢;exact hput.slot t v (by simp[tB,look])
     ·show q.F (if q.i=q.i then v else val q.i) _ _ _;rw[if_pos rfl];have:vals (λj=>if j=q.i then v else val j) q.sup=vals val q.sup:=by
       unfold vals;refine List.map_congr_left λp hp=>?_;show(if p.1=q.i then v else val p.1)=val p.1;rw[if_neg (by have:=(Sg p.1 (vz p hp)).2.1;omega)]
      rw[this];exact AV
    ·rcases ah1 q.i cD with h1|h1
     ·exact absurd h1 e
     obtain⟨q1,q2⟩:=hall q hq h1;refine⟨λt ht=>?_,λhno=>?_⟩
     ·show _=some (if q.i=m.i then v else val q.i);rw[if_neg e,<-q1 t ht];cases AU:m.t with
      |none=>rfl
      |some u=>
       have ah3:u≠t:=λe2=>by subst e2;exact e (by rw[ahR ms hnt q hq m jP u ht AU])
       simp only[Act.put,Array.getElem?_setIfInBounds,if_neg ah3]
     ·show q.F (if q.i=m.i then v else val q.i) _ _ _;rw[if_neg e,ah2 q hq h1];have hold:=q2 λz hz hzl=>hno z hz (Si z.i hzl);rcases ahW q hq e with b|b|b
      ·have:=Mv dM b h1;rw[hun] at this;cases this
      ·exact absurd b (hno m jP Sj)
      ·exact(y8 q hq).2.2.2.1 _ _ _ _ _ _ m.W b hold hs2
 have nW:∀j∈A,j<ops.size:=RA A _ _ mY;have ah4: (ms.filter λm=>!((xO (Array.replicate ops.size false) A).getD m.i false)).length<=ops.size-A.length:=by
  refine Nat.le_trans (List.length_filter_le _ _) ?_;have gi: (A++ms.map (·.i)).Nodup:=by
   rw[List.nodup_append];refine⟨kz A _ _ mY,hni,λa ha b hb e=>?_⟩;obtain⟨m,jP,rfl⟩:=List.mem_map.1 hb;exact(spec m jP).2.1 (e▸ha)
  have hle:=gi.length_le_of_subset (l₂:=List.range ops.size) λj hj=>by
   rcases List.mem_append.1 hj with h|h
   ·exact List.mem_range.2 (nW j h)
   ·obtain⟨m,jP,rfl⟩:=List.mem_map.1 h;exact List.mem_range.2 (spec m jP).1
  rw[List.length_append,List.length_map,List.length_range] at hle;omega
 have:=main (ops.size-A.length) (xO (Array.replicate ops.size false) A) a2 {w with drawn:=w.drawn+1} (by rw[Uj];simp) dM (λj hj=>by
  have ah5:j<ops.size:=nW j hj;rw[NB A _ j (by simpa using ah5),if_pos hj]) ?_ ⟨C,λ_=>undef,ha2,av.refl I _ C,hF.st vL,hJ,λu hu _=>?_,λm jP hl=>?_⟩
 ·exact this
 ·exact ah4
 ·have P_:av [] w C {w with drawn:=w.drawn+1} C:=av.drew [] w C;refine bx u w C _ _ [] b_ ?_ P_;unfold AO;rw[List.getElem?_eq_getElem hu];exact(hV _ (List.getElem_mem hu)).1
 ·rw[NB A _ m.i (by simpa using(spec m jP).1),if_neg (spec m jP).2.1] at hl;simp[Array.getD,(spec m jP).1] at hl
def oy:Nat->Nat:=λ_=>0
theorem ah6 (w:World):aF w oy:=λb h=>absurd rfl h
theorem av.below {w w':World} (h:av [] w oy w' oy):Go.RowKit.Below w.heap.size w w':=h.ext.below (Nat.le_refl _) (λb hb=>by simp at hb)
def sJ {H:Type} (enc:TypeId×Value->H) (P:Program) (w:World) (base:Nat) (spare:Nat->Bool) (held:Bool) (α:Type) [bn α] (t:TypeId):Prop:=
 P.cellsOf t=sz α/\∀(fuel:Nat) (cs:List Value) (x:DataW H×List MemPlace),DataW.trod enc P w base spare held fuel t cs=some x->∃a:α,rep w.heap (aj oy) a cs
section
variable {H:Type} {enc:TypeId×Value->H} {P:Program} {w:World} {base:Nat} {spare:Nat->Bool} {held:Bool} {α β γ:Type} [bn α] [bn β] [bn γ] {t e:TypeId}
theorem ah7 (ht:P.underlying t=some (.int .i64)) (hc:P.cellsOf t=1):sJ enc P w base spare held Int t:=⟨hc,λfuel cs x h=>by
 obtain⟨n,rfl,_⟩:=DataW.trod_int ht h;exact⟨n,rfl⟩⟩
theorem ah8 (ht:P.underlying t=some .bool) (hc:P.cellsOf t=1):sJ enc P w base spare held Bool t:=⟨hc,λfuel cs x h=>by
 obtain⟨b,rfl,_⟩:=DataW.trod_bool ht h;exact⟨b,rfl⟩⟩
theorem ah9 (ht:P.underlying t=some (.slice e)) (hc:P.cellsOf t=1) (hsz:0<sz α) (he:sJ enc P w base spare held α e):sJ enc P w base spare held (List α) t:=⟨hc,λfuel cs x h=>by
 rcases Go.Deep.open_slice ht h with⟨rfl,_⟩|⟨a,len,cap,m,n,D,Pl,rfl,hb,hl,hm,jP,hx,hcell⟩
 ·exact⟨[],none,0,rfl,Nat.le_refl _,by simp,.inl rfl⟩
 ·have Dt:len<=m:=by rw[jP];split<;>omega
  have key:∀k,k<=len->∃xs:List α,xs.length=k/\∀i (hi:i<xs.length),∃cs',w.cells? base (a.add (i*sz α)) (sz α)=some cs'/\rep w.heap (aj oy) xs[i] cs':=by
   intro k
   induction k with
   |zero=>exact λ_=>⟨[],rfl,λi hi=>by simp at hi⟩
   |succ k ih=>
    intro hk;obtain⟨xs,oT,hxs⟩:=ih af;obtain⟨cs',h1,h2⟩:=hcell k af;obtain⟨y,hy⟩:=he.2 _ _ _ h2;rw[he.1] at h1;refine⟨xs++[y],by simp[oT],λi hi=>?_⟩;by_cases hik:i<xs.length
    ·rw[List.getElem_append_left hik];exact hxs i hik
    ·have Gz:i=k:=by simp at hi;omega
     subst Gz;rw[List.getElem_append_right af];exact⟨cs',h1,by simpa[oT] using hy⟩
  obtain⟨xs,oT,hxs⟩:=key len (Nat.le_refl _);refine⟨xs,some a,cap,by rw[oT],by omega,by unfold maxLen at hm;omega,?_⟩;by_cases h0:len=0
  ·left;exact List.length_eq_zero_iff.1 af
  ·right;have hall:∀i (hi:i<xs.length),∃cs',cs'.length=sz α/\(∀j (hj:j<cs'.length),w.cell? (a.add (i*sz α+j))=some cs'[j])/\rep w.heap (aj oy) xs[i] cs':=λi hi=>by
    obtain⟨cs',h1,h2⟩:=hxs i hi;obtain⟨_,h3,h4⟩:=World.cells?_some h1;refine⟨cs',h3,λj hj=>?_,h2⟩;have h5:=h4 j af;rw[Addr.add_add] at h5;rw[h5];exact List.getElem?_eq_getElem hj
   obtain⟨c0,ah_,hc0,_⟩:=hall 0 af;have qM:=hc0 0 af;obtain⟨b,off,spot⟩:=a;have Sk:spot=none:=by simpa[Addr.add] using World.cell?_spot qM
   subst Sk;refine⟨b,off,rfl,?_⟩;simp only[rN] at hall qM;unfold World.cell? at qM;simp only at qM;cases hbk:w.heap[b]? with
   |none=>rw[hbk] at qM;cases qM
   |some fG=>
    cases fG with
    |cells c ty eV=>
     have nC:∀i (hi:i<xs.length),∃cs',cs'.length=sz α/\(∀j (hj:j<cs'.length),c[off+(i*sz α+j)]?=some cs'[j])/\rep w.heap (aj oy) xs[i] cs':=λi hi=>by
      obtain⟨cs',h1,h2,h3⟩:=hall i hi;refine⟨cs',h1,λj hj=>?_,h3⟩;have h4:=h2 j hj;unfold World.cell? at h4;simp only[hbk] at h4;simpa using h4
     refine⟨λh=>h rfl,c,ty,eV,hbk,?_,λi hi=>?_⟩
     ·obtain⟨cs',h1,h2,_⟩:=nC (len-1) af;have h3:=(Array.getElem?_eq_some_iff.1 (h2 (sz α-1) af)).1;have h4:len*sz α=(len-1)*sz α+sz α:=by
       have:len=(len-1)+1:=by omega
       rw[this,Nat.succ_mul];simp
      rw[oT,h4];omega
     ·obtain⟨cs',h1,h2,h3⟩:=nC i hi;have:cR c (off+i*sz α) (sz α)=cs':=by
       apply List.ext_getElem?;intro r;simp only[cR,List.getElem?_take,List.getElem?_drop,Array.getElem?_toList];by_cases hr:r<sz α
       ·rw[if_pos hr,List.getElem?_eq_getElem af,Nat.add_assoc];exact h2 r af
       ·rw[if_neg hr,List.getElem?_eq_none af]
      rw[this];exact h3
    |_=>rw[hbk] at qM;cases qM⟩
theorem cr {f0 f1:Field} (ht:P.underlying t=some (.struct #[f0,f1])) (hc:P.cellsOf t=sz α+sz β) (o0:f0.offset=0) (o1:f1.offset=sz α)
  (h0:sJ enc P w base spare held α f0.type) (h1:sJ enc P w base spare held β f1.type)
  (fuel:Nat) (cs:List Value) (x:DataW H×List MemPlace) (h:DataW.trod enc P w base spare held fuel t cs=some x):∃a:α×β,rep w.heap (aj oy) a cs:=by
 obtain⟨xs,n,_,_,hl,oT,hf⟩:=DataW.trod_struct ht h;have hx2:xs.length=2:=oT;have e0:=hf 0 f0 rfl;have e1:=hf 1 f1 rfl;rw[o0,h0.1,List.drop_zero,List.getElem?_eq_getElem af] at e0;rw[o1,h1.1,List.take_of_length_le (by rw[List.length_drop];omega),List.getElem?_eq_getElem af] at e1;obtain⟨a,ha⟩:=h0.2 _ _ _ e0;obtain⟨b,hb⟩:=h1.2 _ _ _ e1;exact⟨(a,b),_,_,(List.take_append_drop (sz α) cs).symm,ha,hb⟩
theorem sJ.rv (h:sJ enc P w base spare held α t) (hx:bn.agg α=false) {fuel:Nat} {v:Value} {x:DataW H×List MemPlace} (ht:DataW.trod enc P w base spare held fuel t [v]=some x):∃a:α,aq w (aj oy) a v:=by
 obtain⟨a,ha⟩:=h.2 _ _ _ ht;exact⟨a,zi ha hx⟩
end
def sK {H:Type} (enc:TypeId×Value->H) (P:Program) (w:World) (base:Nat) (spare:Nat->Bool) (held:Bool) (α:Type) [bn α] (t:TypeId) (Q:α->Prop):Prop:=
 P.cellsOf t=sz α/\∀(fuel:Nat) (cs:List Value) (x:DataW H×List MemPlace),DataW.trod enc P w base spare held fuel t cs=some x->(∀n∈x.1.weights P t,n<=reachBytes)->∃a:α,rep w.heap (aj oy) a cs/\Q a
theorem lp {H:Type} {P:Program} {e:TypeId} {d:DataW H} {n:Nat}:∀{l:List (DataW H)},d∈l->n∈d.weights P e->n∈DataW.weightsAll P e l
 |[],h,_=>by cases h
 |a::l,h,hn=>by
  simp only[DataW.weightsAll,List.mem_append];rcases List.mem_cons.1 h with rfl|h
  ·exact .inl hn
  ·exact .inr (lp h hn)
section
variable {H:Type} {enc:TypeId×Value->H} {P:Program} {w:World} {base:Nat} {spare:Nat->Bool} {held:Bool} {α β γ:Type} [bn α] [bn β] [bn γ] {t e:TypeId}
theorem sJ.q (h:sJ enc P w base spare held α t):sK enc P w base spare held α t (λ_=>True):=⟨h.1,λfuel cs x hx _=>by
 obtain⟨a,ha⟩:=h.2 fuel cs x hx;exact⟨a,ha,trivial⟩⟩
theorem sK.mono {Q R:α->Prop} (h:sK enc P w base spare held α t Q) (KM:∀a,Q a->R a):sK enc P w base spare held α t R:=⟨h.1,λfuel cs x hx hn=>by
 obtain⟨a,ha,hq⟩:=h.2 fuel cs x hx hn;exact⟨a,ha,KM a hq⟩⟩
theorem aia {Q:α->Prop} {nb:Nat} (ht:P.underlying t=some (.slice e)) (hc:P.cellsOf t=1) (hsz:0<sz α) (hnb:P.bytesOf e=nb) (he:sK enc P w base spare held α e Q):sK enc P w base spare held (List α) t (λl=>l.length*nb<=reachBytes/\∀y∈l,Q y):=⟨hc,λfuel cs x h hq=>by
 rcases Go.Deep.open_slice ht h with⟨rfl,rfl⟩|⟨a,len,cap,m,n,D,Pl,rfl,hb,hl,hm,jP,rfl,hcell⟩
 ·exact⟨[],⟨none,0,rfl,Nat.le_refl _,by simp,.inl rfl⟩,by simp,λy hy=>by cases hy⟩
 ·have Dt:len<=m:=by rw[jP];split<;>omega
  have hw0: (len+(m-len))*nb<=reachBytes:=hq _ (by simp[DataW.weights,ht,hnb]);have hwi:∀i,i<len->∀n∈(D i).weights P e,n<=reachBytes:=λi hi n hn=>hq n (by
   simp only[DataW.weights,ht,List.mem_cons,List.mem_append];exact .inr (.inl (lp (List.mem_map.2 ⟨i,List.mem_range.2 hi,rfl⟩) hn)))
  have key:∀k,k<=len->∃xs:List α,xs.length=k/\(∀y∈xs,Q y)/\∀i (hi:i<xs.length),∃cs',w.cells? base (a.add (i*sz α)) (sz α)=some cs'/\rep w.heap (aj oy) xs[i] cs':=by
   intro k
   induction k with
   |zero=>exact λ_=>⟨[],rfl,λy hy=>(by cases hy),λi hi=>by simp at hi⟩
   |succ k ih=>
    intro hk;obtain⟨xs,oT,Sl,hxs⟩:=ih af;obtain⟨cs',h1,h2⟩:=hcell k af;obtain⟨y,hy,aib⟩:=he.2 _ _ _ h2 (hwi k af);rw[he.1] at h1;refine⟨xs++[y],by simp[oT],λz hz=>(List.mem_append.1 hz).elim (Sl z) (λhz=>by rw[List.mem_singleton.1 hz];exact aib),λi hi=>?_⟩;by_cases hik:i<xs.length
    ·rw[List.getElem_append_left hik];exact hxs i hik
    ·have Gz:i=k:=by simp at hi;omega
     subst Gz;rw[List.getElem_append_right af];exact⟨cs',h1,by simpa[oT] using hy⟩
  obtain⟨xs,oT,Sl,hxs⟩:=key len (Nat.le_refl _);refine⟨xs,?_,by rw[oT];exact Nat.le_trans (Nat.mul_le_mul_right _ af) hw0,Sl⟩;refine⟨some a,cap,by rw[oT],by omega,by unfold maxLen at hm;omega,?_⟩;by_cases h0:len=0
  ·left;exact List.length_eq_zero_iff.1 af
  ·right;have hall:∀i (hi:i<xs.length),∃cs',cs'.length=sz α/\(∀j (hj:j<cs'.length),w.cell? (a.add (i*sz α+j))=some cs'[j])/\rep w.heap (aj oy) xs[i] cs':=λi hi=>by
    obtain⟨cs',h1,h2⟩:=hxs i hi;obtain⟨_,h3,h4⟩:=World.cells?_some h1;refine⟨cs',h3,λj hj=>?_,h2⟩;have h5:=h4 j af;rw[Addr.add_add] at h5;rw[h5];exact List.getElem?_eq_getElem hj
   obtain⟨c0,ah_,hc0,_⟩:=hall 0 af;have qM:=hc0 0 af;obtain⟨b,off,spot⟩:=a;have Sk:spot=none:=by simpa[Addr.add] using World.cell?_spot qM
   subst Sk;refine⟨b,off,rfl,?_⟩;simp only[rN] at hall qM;unfold World.cell? at qM;simp only at qM;cases hbk:w.heap[b]? with
   |none=>rw[hbk] at qM;cases qM
   |some fG=>
    cases fG with
    |cells c ty eV=>
     have nC:∀i (hi:i<xs.length),∃cs',cs'.length=sz α/\(∀j (hj:j<cs'.length),c[off+(i*sz α+j)]?=some cs'[j])/\rep w.heap (aj oy) xs[i] cs':=λi hi=>by
      obtain⟨cs',h1,h2,h3⟩:=hall i hi;refine⟨cs',h1,λj hj=>?_,h3⟩;have h4:=h2 j hj;unfold World.cell? at h4;simp only[hbk] at h4;simpa using h4
     refine⟨λh=>h rfl,c,ty,eV,hbk,?_,λi hi=>?_⟩
     ·obtain⟨cs',h1,h2,_⟩:=nC (len-1) af;have h3:=(Array.getElem?_eq_some_iff.1 (h2 (sz α-1) af)).1;have h4:len*sz α=(len-1)*sz α+sz α:=by
       have:len=(len-1)+1:=by omega
       rw[this,Nat.succ_mul];simp
      rw[oT,h4];omega
     ·obtain⟨cs',h1,h2,h3⟩:=nC i hi;have:cR c (off+i*sz α) (sz α)=cs':=by
       apply List.ext_getElem?;intro r;simp only[cR,List.getElem?_take,List.getElem?_drop,Array.getElem?_toList];by_cases hr:r<sz α
       ·rw[if_pos hr,List.getElem?_eq_getElem af,Nat.add_assoc];exact h2 r af
       ·rw[if_neg hr,List.getElem?_eq_none af]
      rw[this];exact h3
    |_=>rw[hbk] at qM;cases qM⟩
theorem sK.rv {Q:α->Prop} (h:sK enc P w base spare held α t Q) (hx:bn.agg α=false) {fuel:Nat} {v:Value} {x:DataW H×List MemPlace} (ht:DataW.trod enc P w base spare held fuel t [v]=some x) (hn:∀n∈x.1.weights P t,n<=reachBytes):∃a:α,aq w (aj oy) a v/\Q a:=by
 obtain⟨a,ha,hq⟩:=h.2 _ _ _ ht hn;exact⟨a,zi ha hx,hq⟩
theorem aic {ts:List TypeId} {ds:List (DataW H)} (h: (DataW.weightsEach P ts ds).all (·<=reachBytes)=true) {j:Nat} {d:DataW H} (ht:ts[j]?=some t) (hd:ds[j]?=some d):∀n∈d.weights P t,n<=reachBytes:=λn hn=>by
 have:=List.all_eq_true.1 h _ (DataW.weights_mem_each ht hd n hn);simpa using this
end
section
variable {H:Type} {enc:TypeId×Value->H} {P:Program} {w:World} {base:Nat} {spare:Nat->Bool} {held:Bool} {α β γ δ ε:Type} [bn α] [bn β] [bn γ] [bn δ] [bn ε] {t e:TypeId}
theorem aid {zn:α->Prop} {Q1:β->Prop} {Q2:γ->Prop} {Q3:δ->Prop} {Q4:ε->Prop} {f0 f1 f2 f3 f4:Field} (ht:P.underlying t=some (.struct #[f0,f1,f2,f3,f4])) (hc:P.cellsOf t=sz α+(sz β+(sz γ+(sz δ+sz ε)))) (o0:f0.offset=0) (o1:f1.offset=sz α) (o2:f2.offset=sz α+sz β) (Dm:f3.offset=sz α+sz β+sz γ) (aie:f4.offset=sz α+sz β+sz γ+sz δ) (h0:sK enc P w base spare held α f0.type zn) (h1:sK enc P w base spare held β f1.type Q1) (h2:sK enc P w base spare held γ f2.type Q2) (h3:sK enc P w base spare held δ f3.type Q3) (h4:sK enc P w base spare held ε f4.type Q4)
  (fuel:Nat) (cs:List Value) (x:DataW H×List MemPlace) (h:DataW.trod enc P w base spare held fuel t cs=some x) (hq:∀n∈x.1.weights P t,n<=reachBytes):∃a:α×β×γ×δ×ε,rep w.heap (aj oy) a cs/\zn a.1/\Q1 a.2.1/\Q2 a.2.2.1/\Q3 a.2.2.2.1/\Q4 a.2.2.2.2:=by
 obtain⟨xs,n,_,rfl,hl,oT,hf⟩:=DataW.trod_struct ht h;have alU:xs.length=5:=oT;have hw:∀(j:Nat) (hj:j<xs.length) (t':TypeId),[f0.type,f1.type,f2.type,f3.type,f4.type][j]?=some t'->∀m∈(xs[j]).1.weights P t',m<=reachBytes:=λj hj t' ht' m hm=>hq m (by
  simp only[DataW.weights,ht];exact DataW.weights_mem_each (j:=j) ht' (by rw[List.getElem?_map,List.getElem?_eq_getElem hj];rfl) m hm)
 have e0:=hf 0 f0 rfl;have e1:=hf 1 f1 rfl;have e2:=hf 2 f2 rfl;have eH:=hf 3 f3 rfl;have iM:=hf 4 f4 rfl;rw[o0,h0.1,List.drop_zero,List.getElem?_eq_getElem af] at e0;rw[o1,h1.1,List.getElem?_eq_getElem af] at e1;rw[o2,h2.1,List.getElem?_eq_getElem af] at e2;rw[Dm,h3.1,List.getElem?_eq_getElem af] at eH;rw[aie,h4.1,List.take_of_length_le (by rw[List.length_drop];omega),List.getElem?_eq_getElem af] at iM;obtain⟨a0,G7,q0⟩:=h0.2 _ _ _ e0 (hw 0 af _ rfl);obtain⟨a1,r1,q1⟩:=h1.2 _ _ _ e1 (hw 1 af _ rfl);obtain⟨a2,r2,q2⟩:=h2.2 _ _ _ e2 (hw 2 af _ rfl);obtain⟨a3,r3,uP⟩:=h3.2 _ _ _ eH (hw 3 af _ rfl);obtain⟨a4,vo,G1⟩:=h4.2 _ _ _ iM (hw 4 af _ rfl);refine⟨(a0,a1,a2,a3,a4),⟨cs.take (sz α),cs.drop (sz α),(List.take_append_drop (sz α) _).symm,?_,(cs.drop (sz α)).take (sz β),(cs.drop (sz α)).drop (sz β),(List.take_append_drop (sz β) _).symm,?_,((cs.drop (sz α)).drop (sz β)).take (sz γ),((cs.drop (sz α)).drop (sz β)).drop (sz γ),(List.take_append_drop (sz γ) _).symm,?_,(((cs.drop (sz α)).drop (sz β)).drop (sz γ)).take (sz δ),(((cs.drop (sz α)).drop (sz β)).drop (sz γ)).drop (sz δ),(List.take_append_drop (sz δ) _).symm,?_,?_⟩,q0,q1,q2,uP,G1⟩
 ·exact G7
 ·exact r1
 ·rw[List.drop_drop];exact r2
 ·rw[List.drop_drop,List.drop_drop];simpa only[Nat.add_assoc] using r3
 ·rw[List.drop_drop,List.drop_drop,List.drop_drop];simpa only[Nat.add_assoc] using vo
end
section
variable {h:Array Obj} {M:Nat->Prop} {vs:List Value} {w:World} {cs:Array Value} {α β:Type} [bn α] [bn β]
end
end Go.K
