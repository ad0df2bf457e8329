/- Couples (and other structs of two ints): as keys, compared, in order; what stands twice side by side. -/
import Derived.Test.YtmdhggfehknjjaaGreatL1
import Derived.Laws.StructEq
import Derived.ChangeKeysEq
import Derived.WideShapes
import Derived.Laws.Strings
import Derived.Laws.Small
set_option linter.unusedVariables false
set_option linter.unusedSimpArgs false
set_option linter.unusedSectionVars false
namespace Go.K
open bn
abbrev Nj:Bool->Value:=λb=> .bool b
abbrev dx:au->Value:=λc=> .agg #[.int .i64 c.a,.int .i64 c.b]
abbrev EH:Nat->Value:=λn=> .int .i64 (n:Int)
def iT:List Int->Int
 |[]=>0
 |a::l=>if a=0 then iT l else a
def kD (x y:Int):Int:=if x<y then-1 else if y<x then 1 else 0
def j9 (x y:au):Int:=iT [kD x.a y.a,kD x.b y.b]
theorem dg {l:List Int} {i:Nat} (h:i<l.length):iT (l.drop i)=if l[i]=0 then iT (l.drop (i+1)) else l[i]:=by
 rw[List.drop_eq_getElem_cons h];rfl
section
variable {P:Program} {t ti:TypeId} {n0 n1 qV qW qX qY:String} {e0 e1:Bool} {y0 y1:Nat}
theorem GD (hi:P.underlying ti=some (.int .i64)) (a b:Int) (i:Nat) (v:Value) (w:World) (hv: (#[Value.int .i64 a,Value.int .i64 b])[i]?=some v): (part ti #[.int .i64 a,.int .i64 b] i).run P w=.ok v w:=
 run_part_plain w (by simp[Program.plainKey,hi]) hv
theorem GF (h:P.underlying t=some (.struct #[⟨n0,ti,0,e0,qV,qX,y0⟩,⟨n1,ti,1,e1,qW,qY,y1⟩])) (h0:n0≠"_") (h1:n1≠"_") (hS:P.stoodInHeld t=false)
  (hi:P.underlying ti=some (.int .i64)):zw P t dx:=λd a b w=>by
 have hpt:=λa b i v w=>GD (P:=P) hi a b i v w;have hf:P.fieldsOf t=#[⟨n0,ti,0,e0,qV,qX,y0⟩,⟨n1,ti,1,e1,qW,qY,y1⟩]:=by simp[Program.fieldsOf,h]
 have he:=λ(x y:Int)=>run_equalIn_int (P:=P) w (d+6) ti .i64 .i64 x y hi;rw[show d+8=(d+7)+1 from rfl,run_equalIn_struct w (d+7) t _ _ (by rw[hf];exact h) hS,hf];have jF:∀c:au,(part ti #[.int .i64 c.a,.int .i64 c.b] 0).run P w=.ok (.int .i64 c.a) w:=λc=>hpt _ _ 0 _ w rfl;have p1:∀c:au,(part ti #[.int .i64 c.a,.int .i64 c.b] 1).run P w=.ok (.int .i64 c.b) w:=λc=>hpt _ _ 1 _ w rfl;have hd: (decide (a=b))=((a.a==b.a)&&(a.b==b.b)):=by
  cases a;cases b;simp only[au.mk.injEq,Bool.decide_and];rfl
 simp only[Op.eqFields,Sem.run_bind,Sem.run_ite,h0,h1,ne_eq,not_false_eq_true,if_true,jF,p1,Result.andThen_ok,he,hd];cases (a.a==b.a)<;>cases (a.b==b.b)<;>simp
theorem oC (h:P.underlying t=some (.struct #[⟨n0,ti,0,e0,qV,qX,y0⟩,⟨n1,ti,1,e1,qW,qY,y1⟩])) (h0:n0≠"_") (h1:n1≠"_") (hS:P.stoodInHeld t=false)
  (hi:P.underlying ti=some (.int .i64)):xJ P t dx:=by
 have hpt:=λa b i v w=>GD (P:=P) hi a b i v w;refine TK h (GF h h0 h1 hS hi) (λe k w=>?_) (λk=>by simp[Instr.sameBits]) (λa b hab=>?_)
 ·have jF: (part ti #[.int .i64 k.a,.int .i64 k.b] 0).run P w=.ok (.int .i64 k.a) w:=hpt _ _ 0 _ w rfl;have p1: (part ti #[.int .i64 k.a,.int .i64 k.b] 1).run P w=.ok (.int .i64 k.b) w:=hpt _ _ 1 _ w rfl;have q:∀(x:Int),(Instr.checkKey e 9999 ti (.int .i64 x)).run P w=.ok () w:=λx=>by unfold Instr.checkKey;simp[run_underlying hi]
  rw[show(10000:Nat)=9999+1 from rfl,Instr.checkKey];simp only[Sem.run_bind,run_underlying h,Result.andThen_ok];rw[<-Array.forIn_toList];simp only[List.forIn_cons,List.forIn_nil,Sem.run_bind,Sem.run_ite,h0,h1,ne_eq,not_false_eq_true,if_true,jF,p1,q,Result.andThen_ok,Sem.run_pure]
 ·cases a;cases b;simp at hab;simp[hab]
theorem TV (h:P.underlying t=some (.struct #[⟨n0,ti,0,e0,qV,qX,y0⟩,⟨n1,ti,1,e1,qW,qY,y1⟩])) (h0:n0≠"_") (h1:n1≠"_")
  (hi:P.underlying ti=some (.int .i64)) (d:Nat) (a b:au) (w:World): (Op.eqGuardIn (d+2) t (dx a) (dx b)).run P w=.ok false w:=by
 have hpt:=λa b i v w=>GD (P:=P) hi a b i v w;have jF:∀c:au,(part ti #[.int .i64 c.a,.int .i64 c.b] 0).run P w=.ok (.int .i64 c.a) w:=λc=>hpt _ _ 0 _ w rfl;have p1:∀c:au,(part ti #[.int .i64 c.a,.int .i64 c.b] 1).run P w=.ok (.int .i64 c.b) w:=λc=>hpt _ _ 1 _ w rfl;have q:∀(x y:Int),(Op.eqGuardIn (d+1) ti (.int .i64 x) (.int .i64 y)).run P w=.ok false w:=λx y=>by unfold Op.eqGuardIn;simp[run_underlying hi]
 rw[show d+2=(d+1)+1 from rfl,Op.eqGuardIn];simp only[Sem.run_bind,run_underlying h,Result.andThen_ok];rw[<-Array.forIn_toList];simp only[List.forIn_cons,List.forIn_nil,Sem.run_bind,Sem.run_ite,h0,h1,ne_eq,not_false_eq_true,if_true,jF,p1,q,Result.andThen_ok,Sem.run_pure,Bool.false_eq_true,if_false]
variable {N:Nat} {env:Env} {x y:Operand} {u:TypeId} {a b:au} {w:World}
theorem iA (h:P.underlying t=some (.struct #[⟨n0,ti,0,e0,qV,qX,y0⟩,⟨n1,ti,1,e1,qW,qY,y1⟩])) (h0:n0≠"_") (h1:n1≠"_") (hS:P.stoodInHeld t=false)
  (hi:P.underlying ti=some (.int .i64)) (hx:ev env x=some (dx a)) (hy:ev env y=some (dx b)):cE P N env (.binOp .eql t x y u) w (.bool (decide (a=b))):=mk' λρ hρ o ho=>by
 have h5:=GF h h0 h1 hS hi (Op.maxDepth-8) a b w;have h6:=TV h h0 h1 hi (Op.maxDepth-2) a b w;have h7: (Op.equal t (dx a) (dx b)).run P w=.ok (decide (a=b)) w:=h5;have h8: (Op.eqGuardIn Op.maxDepth t (dx a) (dx b)).run P w=.ok false w:=h6;have fC: (eqGuard .eql t x y (dx a) (dx b)).run P w=.ok () w:=by
  unfold eqGuard;simp only[Sem.run_bind,Sem.run_pure,Sem.run_ite,run_program,Result.andThen_ok,h8,Bool.not_true,Bool.false_eq_true,if_false];cases P.eqGuardType P.depth t<;>simp[h8]
 have gq: (binOp .eql t (dx a) (dx b)).run P w=.ok (.bool (decide (a=b))) w:=by
  show(Op.equal t (dx a) (dx b)>>=λz=>pure (Value.bool z)).run P w=_;rw[Sem.run_bind,h7];rfl
 unfold execOp;rw[ho];simp only[hρ _ _ hx,hρ _ _ hy];simp[Sem.run_bind,fC,gq]
theorem J2 (h:P.underlying t=some (.struct #[⟨n0,ti,0,e0,qV,qX,y0⟩,⟨n1,ti,1,e1,qW,qY,y1⟩])) (h0:n0≠"_") (h1:n1≠"_") (hS:P.stoodInHeld t=false)
  (hi:P.underlying ti=some (.int .i64)) (hx:ev env x=some (dx a)) (hy:ev env y=some (dx b)):cE P N env (.binOp .neq t x y u) w (.bool (decide (a≠b))):=mk' λρ hρ o ho=>by
 have h5:=GF h h0 h1 hS hi (Op.maxDepth-8) a b w;have h6:=TV h h0 h1 hi (Op.maxDepth-2) a b w;have h7: (Op.equal t (dx a) (dx b)).run P w=.ok (decide (a=b)) w:=h5;have h8: (Op.eqGuardIn Op.maxDepth t (dx a) (dx b)).run P w=.ok false w:=h6;have fC: (eqGuard .neq t x y (dx a) (dx b)).run P w=.ok () w:=by
  unfold eqGuard;simp only[Sem.run_bind,Sem.run_pure,Sem.run_ite,run_program,Result.andThen_ok,h8,Bool.not_true,Bool.false_eq_true,if_false];cases P.eqGuardType P.depth t<;>simp[h8]
 have gq: (binOp .neq t (dx a) (dx b)).run P w=.ok (.bool (decide (a≠b))) w:=by
  show(Op.equal t (dx a) (dx b)>>=λz=>pure (Value.bool (!z))).run P w=_;rw[Sem.run_bind,h7];simp
 unfold execOp;rw[ho];simp only[hρ _ _ hx,hρ _ _ hy];simp[Sem.run_bind,fC,gq]
end
def qZ (x y:au):Bool:=!decide (j9 y x<0)
def jS (l:List au):List au:=l.mergeSort qZ
theorem J3 (x y:au):j9 x y=if x.a<y.a then-1 else if y.a<x.a then 1 else if x.b<y.b then-1 else if y.b<x.b then 1 else 0:=by
 unfold j9 iT iT iT kD;by_cases h1:x.a<y.a<;>by_cases h2:y.a<x.a<;>by_cases h3:x.b<y.b<;>by_cases h4:y.b<x.b<;>simp[h1,h2,h3,h4]
theorem Bh (x y:au):qZ x y=true↔x.a<y.a\/x.a=y.a/\x.b<=y.b:=by
 unfold qZ;rw[J3];simp only[Bool.not_eq_true',decide_eq_false_iff_not];split
 ·omega
 ·split
  ·omega
  ·split
   ·omega
   ·split<;>omega
theorem TF (x y z:au) (h:qZ x y=true) (h':qZ y z=true):qZ x z=true:=by rw[Bh] at*;omega
theorem dQ (x y:au): (qZ x y||qZ y x)=true:=by rw[Bool.or_eq_true,Bh,Bh];omega
theorem Nk (x y:au) (h:qZ x y=true) (h':qZ y x=true):x=y:=by
 rw[Bh] at*;have h1:x.a=y.a:=by omega
 have h2:x.b=y.b:=by omega
 cases x;cases y;simp only at h1 h2;rw[h1,h2]
theorem TW (l:List au): (jS l).Pairwise (λx y=>qZ x y=true):=List.pairwise_mergeSort TF dQ l
theorem zx (l:List au): (jS l).Perm l:=List.mergeSort_perm l qZ
theorem TX {γ:Type} {le:γ->γ->Bool} (ha:∀x y,le x y=true->le y x=true->x=y):∀{l l':List γ},l.Perm l'->l.Pairwise (λx y=>le x y=true)->l'.Pairwise (λx y=>le x y=true)->l=l'
 |[],l',hp,_,_=>by simpa using hp.symm.eq_nil.symm
 |a::l,[],hp,_,_=>by simpa using hp.eq_nil
 |a::l,b::l',hp,h1,h2=>by
  have hab:a=b:=by
   by_cases e:a=b
   ·exact e
   ·have hb:b∈a::l:=hp.symm.subset b_;have j8:a∈b::l':=hp.subset b_;rcases List.mem_cons.1 hb with hb|hb
    ·exact hb.symm
    ·rcases List.mem_cons.1 j8 with j8|j8
     ·exact j8
     ·exact ha _ _ ((List.pairwise_cons.1 h1).1 b hb) ((List.pairwise_cons.1 h2).1 a j8)
  subst hab;rw[TX ha hp.cons_inv (List.pairwise_cons.1 h1).2 (List.pairwise_cons.1 h2).2]
section
variable {α:Type} [DecidableEq α]
def iI:List α->List α
 |[]=>[]
 |[a]=>[a]
 |a::b::l=>if a=b then iI (b::l) else a::iI (b::l)
theorem TY (b:α):∀(l:List α) (h:l≠[]),iI (l++[b])=if l.getLast h=b then iI l else iI l++[b]
 |[],h=>absurd rfl h
 |[a],_=>by
  by_cases e:a=b
  ·subst e;simp[iI]
  ·simp[iI,e]
 |a::c::l,h=>by
  have ih:=TY b (c::l) b_;simp only[List.cons_append,iI] at ih⊢;rw[List.getLast_cons b_];by_cases hac:a=c
  ·rw[if_pos hac,if_pos hac];exact ih
  ·rw[if_neg hac,if_neg hac,ih];split<;>simp
theorem J4 {l:List α} {k:Nat} (h0:0<k) (h:k<l.length):iI (l.take (k+1))=if l[k-1]'af=l[k] then iI (l.take k) else iI (l.take k)++[l[k]]:=by
 have hne:l.take k≠[]:=by
  intro e;have: (l.take k).length=0:=by rw[e];rfl
  rw[List.length_take] at this;omega
 rw[List.take_succ_eq_append_getElem h,TY _ _ hne];have: (l.take k).getLast hne=l[k-1]'af:=by
  rw[List.getLast_eq_getElem];simp only[List.length_take,List.getElem_take];congr 1;omega
 rw[this]
theorem J5 {a:α}:∀{l:List α},a∈iI l↔a∈l
 |[]=>by simp[iI]
 |[b]=>by simp[iI]
 |b::c::l=>by
  have ih:=J5 (a:=a) (l:=c::l);unfold iI;split
  ·rename_i e;subst e;rw[ih];simp
  ·rw[List.mem_cons,ih,List.mem_cons (a:=a) (b:=b)]
theorem GG:∀l:List α,(iI l).Sublist l
 |[]=>by simp[iI]
 |[b]=>by simp[iI]
 |b::c::l=>by
  have ih:=GG (c::l);unfold iI;split
  ·exact ih.cons b
  ·exact ih.cons_cons b
theorem Cg (l:List α): (iI l).length<=l.length:=(GG l).length_le
theorem Nl {le:α->α->Prop} (ha:∀x y,le x y->le y x->x=y):∀{l:List α},l.Pairwise le->(iI l).Nodup
 |[],_=>by simp[iI]
 |[b],_=>by simp[iI]
 |b::c::l,h=>by
  have h2:=(List.pairwise_cons.1 h).2;have ih:=Nl ha h2;unfold iI;split
  ·exact ih
  ·rename_i hne;refine List.nodup_cons.2 ⟨λhm=>?_,ih⟩;rw[J5] at hm;have hbc:=(List.pairwise_cons.1 h).1 c b_;rcases List.mem_cons.1 hm with e|hm
   ·exact hne e
   ·exact hne (ha _ _ hbc ((List.pairwise_cons.1 h2).1 b hm))
end
def T0:au->List Value:=λc=>[.int .i64 c.a,.int .i64 c.b]
instance:Inhabited au:=⟨⟨0,0⟩⟩
theorem yV {h:Array Obj} {M:Nat->Prop}:rep h M (⟨0,0⟩:au) [.int .i64 0,.int .i64 0]:=⟨[_],[_],rfl,rfl,rfl⟩
structure aH where
 A:au
 B:au
 w:Int
 deriving DecidableEq
instance:bn aH:=bn.via (λx:aH=>(x.A,(x.B,x.w)))
instance:Inhabited aH:=⟨⟨⟨0,0⟩,⟨0,0⟩,0⟩⟩
abbrev jT (x:aH):List Value:=[.int .i64 x.A.a,.int .i64 x.A.b,.int .i64 x.B.a,.int .i64 x.B.b,.int .i64 x.w]
abbrev aV (x:au):List Value:=[.int .i64 x.a,.int .i64 x.b]
section
variable {w:World} {M:Nat->Prop} {b o:Nat} {v:Value}
theorem bk.mE {x:aH} (h:bk w M x b o):bk w M x.A b o:=bk.fst (p:=(x.A,(x.B,x.w))) h
theorem bk.qo {x:aH} (h:bk w M x b o):bk w M x.B b (o+2):=bk.fst (p:=(x.B,x.w)) (bk.snd (p:=(x.A,(x.B,x.w))) h)
theorem bk.wq {x:aH} (h:bk w M x b o):bk w M x.w b (o+4):=bk.snd (p:=(x.B,x.w)) (bk.snd (p:=(x.A,(x.B,x.w))) h)
theorem nH {h:Array Obj} {x:au} {vs:List Value}:rep h M x vs↔vs=aV x:=
 ⟨λhr=>by
   obtain⟨us,ws,rfl,h1,h2⟩:=hr;rw[show us=[.int .i64 x.a] from h1,show ws=[.int .i64 x.b] from h2];rfl,
  λhr=>by subst hr;exact⟨[_],[_],rfl,rfl,rfl⟩⟩
theorem T1 {h:Array Obj} {x:aH} {vs:List Value}:rep h M x vs↔vs=jT x:=
 ⟨λhr=>by
   obtain⟨us,ws,rfl,h1,GH,GJ,rfl,h2,h3⟩:=hr;have e1:=(nH (M:=M) (h:=h) (x:=x.A)).1 h1;have e2:=(nH (M:=M) (h:=h) (x:=x.B)).1 h2;have eH:GJ=[.int .i64 x.w]:=h3;subst e1 e2 eH;rfl,
  λhr=>by
   subst hr;exact⟨aV x.A,aV x.B++[.int .i64 x.w],rfl,(nH (M:=M)).2 rfl,aV x.B,[.int .i64 x.w],rfl,(nH (M:=M)).2 rfl,rfl⟩⟩
theorem jU {x:aH}:aq w M x v↔v=.agg (jT x).toArray:=
 ⟨λh=>by obtain⟨vs,h1,h2⟩:=h;rw[T1.1 h1] at h2;exact h2,λh=>⟨_,T1.2 rfl,h⟩⟩
end
structure gu where
 v:Value
instance:Inhabited gu:=⟨⟨.slice none 0 0⟩⟩
instance:bn gu where
 sz:=1
 agg:=false
 flat _:=rfl
 rep _ _ x vs:=vs=[x.v]/\x.v.oneCell'=true
 len h:=by obtain⟨rfl,_⟩:=h;rfl
 one h:=by obtain⟨rfl,h1⟩:=h;intro v hv;simp at hv;subst hv;exact h1
 keep h _:=h
 sub h _:=h
section
variable {w:World} {M:Nat->Prop} {v:Value} {β:Type} [bn β]
theorem mF {x:gu}:aq w M x v↔v=x.v/\x.v.oneCell'=true:=⟨λ⟨vs,h,e⟩=>by obtain⟨rfl,h⟩:=h;exact⟨e,h⟩,λh=>⟨_,⟨rfl,h.2⟩,h.1⟩⟩
theorem aq.Nn {xs:List gu} {ys:List β} (h:aq w M xs v) (hb:bn.agg β=false) (hl:ys.length=xs.length) (he:∀i (h1:i<ys.length) (h2:i<xs.length),aq w M ys[i] xs[i].v):aq w M ys v:=by
 obtain⟨a,c,rfl,hc,h63,h0⟩:=kT.1 h;refine kT.2 ⟨a,c,by rw[hl],by rw[hl];exact hc,by rw[hl];exact h63,?_⟩;rcases h0 with h0|⟨b,o,rfl,fu,cs,ty,eV,hcs,hsz,hr⟩
 ·left;subst h0;exact List.eq_nil_of_length_eq_zero hl
 ·right;have s1:sz β=1:=bn.flat hb;refine⟨b,o,rfl,fu,cs,ty,eV,hcs,by rw[hl,s1];exact hsz,λi hi=>?_⟩;have hi2:i<xs.length:=by omega
  have hv:cR cs (o+i*1) 1=[xs[i].v]:=(hr i hi2).1;rw[s1,hv];exact(he i hi hi2).Gk hb
end
def eF (x y:au):Prop:=x.a<y.a\/x.a=y.a/\x.b<y.b
instance (x y:au):Decidable (eF x y):=by unfold eF;infer_instance
theorem EI (x:au):¬eF x x:=by unfold eF;omega
theorem Bi {x y z:au} (h:eF x y) (h':eF y z):eF x z:=by unfold eF at*;omega
theorem J6 {x y:au}:qZ x y=true↔¬eF y x:=by rw[Bh];unfold eF;omega
theorem J7 {x y:au} (h1:x.a=y.a) (h2:x.b=y.b):x=y:=by cases x;cases y;simp_all
theorem J8 (x y:au):eF x y\/x=y\/eF y x:=by
 unfold eF;by_cases h1:x.a=y.a<;>by_cases h2:x.b=y.b
 ·exact .inr (.inl (J7 h1 h2))
 all_goals omega
theorem T2 {x y:au}:j9 x y=0↔x=y:=by
 rw[J3];constructor
 ·intro h;apply J7<;>(split at h<;>first|omega|(split at h<;>first|omega|(split at h<;>first|omega|(split at h<;>omega))))
 ·intro h;subst h;simp
theorem xL {x y:au}:j9 x y<0↔eF x y:=by
 rw[J3];unfold eF;split
 ·omega
 ·split
  ·omega
  ·split
   ·omega
   ·split<;>omega
def kN (x y:aH):Prop:=eF x.A y.A\/x.A=y.A/\eF x.B y.B
instance (x y:aH):Decidable (kN x y):=by unfold kN;infer_instance
def sQ (a b c d:au):Int:=iT [j9 a c,j9 b d]
theorem Np {x y:aH}:0<=sQ x.A x.B y.A y.B↔¬kN x y:=by
 unfold sQ kN iT iT iT;have h1:= @T2 x.A y.A;have h2:= @xL x.A y.A;have h3:= @T2 x.B y.B;have h4:= @xL x.B y.B;split
 ·rename_i h;have e:=h1.1 h;rw[<-h4,e];have:¬eF y.A y.A:=EI _;split
  ·simp_all
  ·simp only[this,false_or,true_and,<-h4];omega
 ·rename_i h;have:¬x.A=y.A:=λe=>h (h1.2 e);rw[<-h2];simp[this]
def nI (r:au):Bool:=decide (0<=r.a)&&decide (r.a<4)&&decide (1<=r.b)&&decide (r.b<=1048576)
def iB (a b:au):Bool:=nI a&&nI b&&decide (a.a<b.a)
def wu (l:List aH) (i:Nat):Int:=
 if iB l[i]!.A l[i]!.B=false then 41 else if l[i]!.w<1\/1048576<l[i]!.w then 40 else if 0<i/\¬kN l[i-1]! l[i]! then 12 else 0
def gD (l:List aH):Int:=if 4096<l.length then 1 else iT ((List.range l.length).map (wu l))
theorem TL (a b:List Int):iT (a++b)=if iT a=0 then iT b else iT a:=by
 induction a with
 |nil=>simp[iT]
 |cons x a ih=>simp only[List.cons_append,iT];split<;>simp_all
theorem T3 {l:List Int} (h:∀x∈l,x=0):iT l=0:=by
 induction l with
 |nil=>rfl
 |cons x l ih=>simp only[iT];rw[if_pos (h x b_)];exact ih (λy hy=>h y (by simp[hy]))
theorem ta {l:List Int} (h:iT l=0):∀x∈l,x=0:=by
 induction l with
 |nil=>simp
 |cons x l ih=>
  simp only[iT] at h;split at h
  ·rename_i e;intro y hy;rcases List.mem_cons.1 hy with rfl|hy
   ·exact e
   ·exact ih h y hy
  ·rename_i e;exact absurd h e
theorem T4 {l:List aH} (h:4096<l.length):gD l=1:=by unfold gD;rw[if_pos h]
theorem Nq {l:List aH} (hl:l.length<=4096) (h0:∀k,k<l.length->wu l k=0):gD l=0:=by
 unfold gD;rw[if_neg af];refine T3 λx hx=>?_;obtain⟨k,hk,rfl⟩:=List.mem_map.1 hx;exact h0 k (List.mem_range.1 hk)
theorem range_split {i n:Nat} (h:i<n):List.range n=List.range i++(i::(List.range n).drop (i+1)):=by
 have h1: (List.range n).take i=List.range i:=by rw[List.take_range,Nat.min_eq_left af]
 have h2: (List.range n).drop i=i::(List.range n).drop (i+1):=by
  rw[List.drop_eq_getElem_cons (by simpa using h)];simp
 rw[<-h1,<-h2,List.take_append_drop]
theorem EJ {l:List aH} {i:Nat} (hl:l.length<=4096) (h:i<l.length) (h0:∀k,k<i->wu l k=0) (he:wu l i≠0):gD l=wu l i:=by
 unfold gD;rw[if_neg af,range_split h,List.map_append,TL,if_pos]
 ·simp only[List.map_cons,iT];rw[if_neg he]
 ·refine T3 λx hx=>?_;obtain⟨k,hk,rfl⟩:=List.mem_map.1 hx;exact h0 k (List.mem_range.1 hk)
theorem T5 {l:List aH} (h:gD l=0):l.length<=4096/\∀k,k<l.length->wu l k=0:=by
 unfold gD at h;split at h
 ·cases h
 ·exact⟨by omega,λk hk=>ta h _ (List.mem_map.2 ⟨k,List.mem_range.2 hk,rfl⟩)⟩
theorem GK {l:List aH} (h:gD l=0):l.length<=4096:=(T5 h).1
theorem Nr {l:List aH} {i:Nat} (h:i<l.length):wu l i=if iB l[i].A l[i].B=false then 41 else if l[i].w<1\/1048576<l[i].w then 40 else if 0<i/\¬kN (l[i-1]'af) l[i] then 12 else 0:=by
 unfold wu;rw[getElem!_pos l i h,getElem!_pos l (i-1) af]
def okB (x:aH):Prop:=iB x.A x.B=true/\1<=x.w/\x.w<=1048576
def pN (l:List aH):Prop:=l.length<=4096/\(∀x∈l,okB x)/\l.Pairwise kN
theorem pN.check {l:List aH} (h:pN l):gD l=0:=by
 obtain⟨h1,h2,h3⟩:=h;refine Nq h1 λk hk=>?_;have hx:=h2 l[k] (List.getElem_mem hk);unfold wu;rw[getElem!_pos l k hk,if_neg (by simp[hx.1]),if_neg (by have:=hx.2;omega)];split
 ·rename_i h;exfalso;obtain⟨h0,hn⟩:=h;rw[getElem!_pos l (k-1) af] at hn;exact hn (List.pairwise_iff_getElem.1 h3 (k-1) k af hk af)
 ·rfl
theorem pN.sub {l l':List aH} (h:pN l) (hs:l'.Sublist l):pN l':=⟨Nat.le_trans hs.length_le h.1,λx hx=>h.2.1 x (hs.subset hx),h.2.2.sublist hs⟩
def nJ (l:List aH):List au:=l.flatMap λx=>[x.A,x.B]
def aM (l:List aH):List au:=iI (jS (nJ l))
theorem v7 (l:List aH) (x:aH):nJ (l++[x])=nJ l++[x.A,x.B]:=by simp[nJ]
theorem T6 {l:List aH} {i:Nat} (h:i<l.length):nJ (l.take (i+1))=nJ (l.take i)++[l[i].A,l[i].B]:=by
 rw[List.take_succ_eq_append_getElem h,v7]
theorem GL (l:List aH): (nJ l).length=2*l.length:=by
 induction l with
 |nil=>rfl
 |cons x l ih=>simp only[nJ,List.flatMap_cons,List.length_append,List.length_cons,List.length_nil] at*;omega
theorem W1 (l:List au): (jS l).length=l.length:=(zx l).length_eq
theorem oD (l:List aH): (aM l).length<=2*l.length:=by
 unfold aM;have:=Cg (jS (nJ l));rw[W1,GL] at this;exact this
theorem jG {l:List aH} {r:au}:r∈aM l↔∃x∈l,r=x.A\/r=x.B:=by
 unfold aM;rw[J5,(zx _).mem_iff];simp[nJ,List.mem_flatMap]
theorem zy (l:List aH): (aM l).Pairwise eF:=by
 unfold aM;have h1:=TW (nJ l);have h2:=Nl (le:=λx y=>qZ x y=true) Nk h1;have h3:=h1.sublist (GG _);refine(h3.and h2).imp λ{x y} ⟨h4,h5⟩=>?_;rcases J8 x y with h|h|h
 ·exact h
 ·exact absurd h h5
 ·exact absurd h (J6.1 h4)
theorem CS {l:List au} (h:l.Pairwise eF):l.Nodup:=h.imp λ{x y} hxy e=>by subst e;exact EI _ hxy
theorem xM (l:List aH): (aM l).Nodup:=CS (zy l)
theorem J9 {l l':List au} (h:l.Pairwise eF) (h':l'.Pairwise eF) (hm:∀r,r∈l↔r∈l'):l=l':=by
 have hp:l.Perm l':=(List.perm_ext_iff_of_nodup (CS h) (CS h')).2 hm;refine TX Nk hp (h.imp λ{x y} hxy=>J6.2 λh2=>EI _ (Bi hxy h2)) (h'.imp λ{x y} hxy=>J6.2 λh2=>EI _ (Bi hxy h2))
def tH (ρ:au->au) (a b:au):au->au:=λr=>if ρ r=ρ a then ρ b else ρ r
def Bj (ρ:au->au) (l:List aH):au->au:=l.foldl (λρ x=>tH ρ x.A x.B) ρ
def bZ (l:List aH):au->au:=Bj id l
theorem C4 (l:List aH) (x:aH):bZ (l++[x])=tH (bZ l) x.A x.B:=by unfold bZ Bj;rw[List.foldl_append];rfl
theorem T7 {γ:Type} (p:au->γ):∀(l:List aH) (ρ:au->au),(∀x∈l,p x.A=p x.B)->(∀r,p (ρ r)=p r)->∀r,p (Bj ρ l r)=p r
 |[],ρ,_,h,r=>h r
 |x::l,ρ,hx,h,r=>by
  show p (Bj (tH ρ x.A x.B) l r)=p r;refine T7 p l _ (λy hy=>hx y (by simp[hy])) (λs=>?_) r;unfold tH;split
  ·rename_i e;rw[h,<-hx x b_,<-h x.A,<-e,h]
  ·exact h s
theorem uM {γ:Type} {p:au->γ} {l:List aH} (hx:∀x∈l,p x.A=p x.B) (r:au):p (bZ l r)=p r:=T7 p l id hx (λ_=>rfl) r
theorem T8:∀(l:List aH) (ρ:au->au) {r s:au},ρ r=ρ s->Bj ρ l r=Bj ρ l s
 |[],_,_,_,h=>h
 |x::l,ρ,r,s,h=>T8 l (tH ρ x.A x.B) (by unfold tH;rw[h])
theorem T9:∀(l:List aH) (ρ:au->au) {x:aH},x∈l->Bj ρ l x.A=Bj ρ l x.B
 |y::l,ρ,x,h=>by
  rcases List.mem_cons.1 h with rfl|h
  ·exact T8 l (tH ρ x.A x.B) (by unfold tH;rw[if_pos rfl];split<;>rfl)
  ·exact T9 l _ h
theorem zz {l:List aH} {x:aH} (h:x∈l):bZ l x.A=bZ l x.B:=T9 l id h
theorem Ns {l l':List aH} (h:∀x∈l,x∈l') {r s:au} (e:bZ l r=bZ l s):bZ l' r=bZ l' s:=by
 have hp:∀x∈l,bZ l' x.A=bZ l' x.B:=λx hx=>zz (h x hx);rw[<-uM hp r,<-uM hp s,e]
theorem T_ {l:List aH} {r:au}:bZ l r∈aM l↔r∈aM l:=by
 have:=uM (p:=λr=>decide (r∈aM l)) (l:=l) (λx hx=>by
  rw[decide_eq_true (jG.2 ⟨x,hx,.inl rfl⟩),decide_eq_true (jG.2 ⟨x,hx,.inr rfl⟩)]) r
 simpa using this
theorem Ua {l:List aH} {r:au} (h:r∉aM l):bZ l r=r:=by
 have:=uM (p:=λs=>if s∈aM l then none else some s) (l:=l) (λx hx=>by
  rw[if_pos (jG.2 ⟨x,hx,.inl rfl⟩),if_pos (jG.2 ⟨x,hx,.inr rfl⟩)]) r
 rw[if_neg h,if_neg (λhm=>h (T_.1 hm))] at this;simpa using this
section
variable {α β:Type} [DecidableEq β]
def eC (f:α->β) (xs:List α):List α:=xs.foldl (λacc r=>if acc.any (λq=>decide (f q=f r)) then acc else acc++[r]) []
def iJ (f:α->β) (xs:List α):List (List α):=(eC f xs).map λq=>xs.filter λr=>decide (f r=f q)
theorem EK (f:α->β) (xs:List α) (r:α):eC f (xs++[r])=if(eC f xs).any (λq=>decide (f q=f r)) then eC f xs else eC f xs++[r]:=by
 unfold eC;rw[List.foldl_append];rfl
theorem Nt {p:List α->Prop} (h0:p []) (h1:∀l a,p l->p (l++[a])) (l:List α):p l:=by
 rw[<-List.reverse_reverse l]
 induction l.reverse with
 |nil=>exact h0
 |cons a l ih=>rw[List.reverse_cons];exact h1 _ a ih
theorem CT (f:α->β) (xs:List α): (eC f xs).Sublist xs:=by
 induction xs using Nt with
 |h0=>exact List.Sublist.refl _
 |h1 l a ih=>
  rw[EK];split
  ·exact ih.trans (List.sublist_append_left _ _)
  ·exact ih.append (List.Sublist.refl _)
theorem J_ {f:α->β} {xs:List α} {r:α}: (eC f xs).any (λq=>decide (f q=f r))=true↔∃q∈xs,f q=f r:=by
 induction xs using Nt with
 |h0=>simp[eC]
 |h1 l a ih=>
  rw[EK];split
  ·rename_i h;rw[ih];constructor
   ·rintro⟨q,hq,e⟩;exact⟨q,by simp[hq],e⟩
   ·rintro⟨q,hq,e⟩;rcases List.mem_append.1 hq with hq|hq
    ·exact⟨q,hq,e⟩
    ·simp only[List.mem_singleton] at hq;subst hq;obtain⟨s,hs,e2⟩:=List.any_eq_true.1 h;exact⟨s,(CT f l).subset hs,by simpa[e] using e2⟩
  ·simp only[List.any_append,Bool.or_eq_true,ih,List.any_cons,List.any_nil,Bool.or_false,decide_eq_true_eq];constructor
   ·rintro(⟨q,hq,e⟩|e)
    ·exact⟨q,by simp[hq],e⟩
    ·exact⟨a,by simp,e⟩
   ·rintro⟨q,hq,e⟩;rcases List.mem_append.1 hq with hq|hq
    ·exact .inl ⟨q,hq,e⟩
    ·simp only[List.mem_singleton] at hq;subst hq;exact .inr e
theorem Nu {f:α->β} {xs:List α} {r:α} (h:r∈xs):∃q∈eC f xs,f q=f r:=by
 have:=(J_ (f:=f) (xs:=xs) (r:=r)).2 ⟨r,h,rfl⟩;obtain⟨q,hq,e⟩:=List.any_eq_true.1 this;exact⟨q,hq,by simpa using e⟩
theorem Nv (f:α->β) (xs:List α): ((eC f xs).map f).Nodup:=by
 induction xs using Nt with
 |h0=>simp[eC]
 |h1 l a ih=>
  rw[EK];split
  ·exact ih
  ·rename_i h;rw[List.map_append,List.nodup_append];refine⟨ih,by simp,λx hx y hy e=>h ?_⟩;obtain⟨q,hq,rfl⟩:=List.mem_map.1 hx;simp only[List.map_cons,List.map_nil,List.mem_singleton] at hy;exact List.any_eq_true.2 ⟨q,hq,by simp[e,hy]⟩
theorem oa (f:α->β) (xs:List α): (iJ f xs).length=(eC f xs).length:=by simp[iJ]
theorem EL {f:α->β} {xs:List α} {i:Nat} (h:i<(iJ f xs).length): (iJ f xs)[i]=xs.filter λr=>decide (f r=f ((eC f xs)[i]'(by rwa [oa] at h))):=by simp[iJ]
theorem Ub {f:α->β} {xs:List α} {r:α} {i:Nat} (hi:i<(eC f xs).length) (e:f (eC f xs)[i]=f r):
  eC f (xs++[r])=eC f xs/\iJ f (xs++[r])=(iJ f xs).modify i (·++[r]):=by
 have h1:eC f (xs++[r])=eC f xs:=by
  rw[EK,if_pos (List.any_eq_true.2 ⟨_,List.getElem_mem hi,by simp[e]⟩)]
 refine⟨h1,?_⟩;apply List.ext_getElem?;intro j;unfold iJ;rw[h1,List.getElem?_modify,List.getElem?_map,List.getElem?_map];by_cases hj:j<(eC f xs).length
 ·rw[List.getElem?_eq_getElem hj];simp only[Option.map_some,Option.some.injEq];by_cases hij:i=j
  ·subst hij;simp[List.filter_append,e]
  ·rw[List.filter_append];have:¬f r=f (eC f xs)[j]:=λh2=>hij (by
    have hn:=List.pairwise_iff_getElem.1 (Nv f xs);rcases Nat.lt_trichotomy i j with h3|h3|h3
    ·exact absurd (by rw[List.getElem_map,List.getElem_map,e,h2]) (hn i j (by simpa using hi) (by simpa using hj) h3)
    ·exact h3
    ·exact absurd (by rw[List.getElem_map,List.getElem_map,e,h2]) (hn j i (by simpa using hj) (by simpa using hi) h3))
   simp[hij,this]
 ·rw[List.getElem?_eq_none af];simp
theorem Uc {f:α->β} {xs:List α} {r:α} (h:∀q∈eC f xs,f q≠f r):
  eC f (xs++[r])=eC f xs++[r]/\iJ f (xs++[r])=iJ f xs++[[r]]:=by
 have h0:¬(eC f xs).any (λq=>decide (f q=f r))=true:=λha=>by
  obtain⟨q,hq,e⟩:=List.any_eq_true.1 ha;exact h q hq (by simpa using e)
 have h1:eC f (xs++[r])=eC f xs++[r]:=by rw[EK,if_neg h0]
 refine⟨h1,?_⟩;unfold iJ;rw[h1,List.map_append];congr 1
 ·refine List.map_congr_left λq hq=>?_;rw[List.filter_append];simp[Ne.symm (h q hq)]
 ·simp only[List.map_cons,List.map_nil,List.filter_append,List.cons.injEq,and_true];have:xs.filter (λr_1=>decide (f r_1=f r))=[]:=by
   rw[List.filter_eq_nil_iff];intro q hq hd;exact h0 (J_.2 ⟨q,hq,by simpa using hd⟩)
  rw[this];simp
end
def dU (l:List aH):List (List au):=iJ (bZ l) (aM l)
def aY (l:List aH):List (List aH):=(eC (bZ l) (aM l)).map λq=>l.filter λx=>decide (bZ l x.A=bZ l q)
theorem Nw (l:List aH): (dU l).length<=2*l.length:=by
 unfold dU;rw[oa];exact Nat.le_trans (CT _ _).length_le (oD l)
theorem EM (l:List aH): (aY l).length=(dU l).length:=by simp[aY,dU,iJ]
def pO (u:List (au×au)) (ρ:au->au) (d:au->Nat):Prop:=
 ∀r v,eM u r=some v->(∃v',eM u v=some v')/\ρ v=ρ r/\(v≠r->d v<d r)/\(v=r->ρ r=r)
def Dom (u:List (au×au)) (xs:List au):Prop:=∀r∈xs,∃v,eM u r=some v
theorem Dom.put {u:List (au×au)} {xs:List au} (h:Dom u xs) (a b:au):Dom (ig u a b) xs:=λr hr=>by
 rw[n_];split
 ·exact⟨_,rfl⟩
 ·exact h r hr
theorem Dom.nr {u:List (au×au)} {xs:List au} (h:Dom u xs) (a b:au):Dom (ig u a b) (xs++[a]):=λr hr=>by
 rw[n_];split
 ·exact⟨_,rfl⟩
 ·rename_i e;rcases List.mem_append.1 hr with hr|hr
  ·exact h r hr
  ·simp only[List.mem_singleton] at hr;exact absurd hr.symm e
theorem pO.self {u:List (au×au)} {d:au->Nat} (h:pO u id d) (r:au):pO (ig u r r) id d:=λs v hs=>by
 rw[n_] at hs;split at hs
 ·rename_i e;obtain rfl:r=v:=by simpa using hs
  subst e;exact⟨⟨r,by rw[n_,if_pos rfl]⟩,rfl,λh=>absurd rfl h,λ_=>rfl⟩
 ·obtain⟨⟨v',h1⟩,h2,h3,h4⟩:=h s v hs;refine⟨?_,h2,h3,h4⟩;rw[n_];split
  ·exact⟨_,rfl⟩
  ·exact⟨_,h1⟩
theorem pO.cS {u:List (au×au)} {ρ:au->au} {d:au->Nat} (h:pO u ρ d) {r v v2:au} (hr:eM u r=some v) (hv:eM u v=some v2) (hne:v≠r):pO (ig u r v2) ρ d:=λs x hs=>by
 have hd:∀{y:au},(∃v',eM u y=some v')->∃v',eM (ig u r v2) y=some v':=λ{y} hy=>by
  rw[n_];split
  ·exact⟨_,rfl⟩
  ·exact hy
 rw[n_] at hs;split at hs
 ·rename_i e;obtain rfl:v2=x:=by simpa using hs
  subst e;obtain⟨_,h2,h3,h4⟩:=h r v hr;obtain⟨g1,g2,g3,g4⟩:=h v v2 hv;refine⟨hd g1,g2.trans h2,λ_=>?_,λe=>?_⟩
  ·have:=h3 hne;by_cases e:v2=v
   ·rw[e];exact this
   ·have:=g3 e;omega
  ·exfalso;have a1:=h3 hne;by_cases e2:v2=v
   ·exact hne (e2.symm.trans e)
   ·have:=g3 e2;rw[e] at this;omega
 ·obtain⟨h1,h2⟩:=h s x hs;exact⟨hd h1,h2⟩
theorem pO.join {u:List (au×au)} {ρ:au->au} {d:au->Nat} (h:pO u ρ d) {a b:au} (ha:eM u (ρ a)=some (ρ a)) (hb:eM u (ρ b)=some (ρ b)):∃d',pO (ig u (ρ a) (ρ b)) (tH ρ a b) d':=by
 have ga:=(h _ _ ha).2.2.2 rfl;have ib:=(h _ _ hb).2.2.2 rfl;refine⟨λx=>if ρ x=ρ a/\ρ a≠ρ b then d x+d (ρ b)+1 else d x,λs x hs=>?_⟩;have hd:∀{y:au},(∃v',eM u y=some v')->∃v',eM (ig u (ρ a) (ρ b)) y=some v':=λ{y} hy=>by
  rw[n_];split
  ·exact⟨_,rfl⟩
  ·exact hy
 rw[n_] at hs;split at hs
 ·rename_i e;obtain rfl:ρ b=x:=by simpa using hs
  subst e;refine⟨hd ⟨_,hb⟩,?_,λhne=>?_,λe=>?_⟩
  ·unfold tH;rw[ga,ib];simp
  ·simp only;rw[if_neg (λh=>hne (ib.symm.trans h.1)),if_pos ⟨ga,λe=>hne e.symm⟩];omega
  ·unfold tH;rw[ga,if_pos rfl,e]
 ·rename_i hne;obtain⟨h1,h2,h3,h4⟩:=h s x hs;refine⟨hd h1,?_,λhx=>?_,λe=>?_⟩
  ·unfold tH;rw[h2]
  ·have:=h3 hx;simp only[h2];split<;>omega
  ·have:=h4 e;unfold tH;rw[if_neg (λe2=>hne (by rw[<-e2,this])),this]
section
variable {dw β:Type} {kv:dw->Value} {cW:β->Value} {m:List (dw×β)} {w w' w₀:World} {I:List Nat} {C aG lI:Nat->Nat} {i j b:Nat}
theorem fH.cv (h:fH w C i b kv cW m) (hi:i≠0):fH w (K.cv C i) 2 b kv cW m:=⟨by unfold K.cv;rw[if_neg (by rw[h.1];exact hi),if_pos h.1],h.2⟩
theorem fH.x2 (h:fH w' aG j b kv cW m) (hb:lI b=i):fH w' lI i b kv cW m:=⟨hb,h.2⟩
theorem fH.stay [DecidableEq dw] (h:fH w C j b kv cW m) (hS:Ext (λb=>C b∈I) w w') (hj:j∉I):fH w' C j b kv cW m:=h.st (I:=I) ⟨hS,λ_ _=>rfl⟩ hj
theorem fH.eG [DecidableEq dw] (h:fH w C j b kv cW m) (hS:Ext (λb=>C b∈I) w w') (hj:j∉I:=by first|decide|(simp<;>omega)):fH w' C j b kv cW m:=h.stay hS hj
theorem fH.mG {D:Nat->Nat} (h:fH w' aG j b kv cW m) (hs:av I w₀ D w' aG) (hF:aF w₀ lI) (hj:∀b,b<w₀.heap.size->D b≠j) (i:Nat):
  ∃aK,(∀b,b<w₀.heap.size->aK b=lI b)/\fH w' aK i b kv cW m/\aF w' aK:=by
 obtain⟨hc,es,clock,hb,hm⟩:=h;have hge:w₀.heap.size<=b:=by
  rcases Nat.lt_or_ge b w₀.heap.size with h1|h1
  ·exact absurd (by rw[<-hs.col b h1];exact hc) (hj b h1)
  ·exact h1
 refine⟨Ba lI b i,λc hc=>by unfold Ba;rw[if_neg af],⟨by simp[Ba],es,clock,hb,hm⟩,λc hc=>?_⟩;unfold Ba at hc;split at hc
 ·rename_i e;rw[e];exact tC hb
 ·exact Nat.lt_of_lt_of_le (hF c hc) hs.size
end
theorem pO.idem {u:List (au×au)} {ρ:au->au} {d:au->Nat} (h:pO u ρ d) {r:au} (hr:eM u r=some r):ρ r=r:=(h r r hr).2.2.2 rfl
def wz (m:List (au×Nat)) (ts:List au):Prop:=∀t i,eM m t=some i↔ts[i]?=some t
theorem wz.nil:wz [] []:=λt i=>by simp[eM]
theorem wz.new {m:List (au×Nat)} {ts:List au} (h:wz m ts) {t:au} (hn:eM m t=none):wz (ig m t ts.length) (ts++[t]):=λs i=>by
 rw[n_];split
 ·rename_i e;subst e;constructor
  ·intro hi;obtain rfl:ts.length=i:=by simpa using hi
   simp
  ·intro hi;rw[List.getElem?_append] at hi;split at hi
   ·have:=(h t i).2 hi;rw[hn] at this;cases this
   ·rename_i hlt;have:i-ts.length=0:=by
     rcases Nat.lt_or_ge (i-ts.length) 1 with h1|h1
     ·omega
     ·rw[List.getElem?_eq_none (by simpa using h1)] at hi;cases hi
    simp;omega
 ·rename_i e;rw[h s i,List.getElem?_append];split
  ·exact Iff.rfl
  ·rename_i hlt;rw[List.getElem?_eq_none af];constructor
   ·intro h;cases h
   ·intro h3;exfalso;rcases Nat.lt_or_ge (i-ts.length) 1 with h1|h1
    ·have:i-ts.length=0:=by omega
     rw[this] at h3;simp at h3;exact e h3
    ·rw[List.getElem?_eq_none (by simpa using h1)] at h3;cases h3
theorem wz.lt {m:List (au×Nat)} {ts:List au} (h:wz m ts) {t:au} {i:Nat} (hi:eM m t=some i):∃hl:i<ts.length,ts[i]=t:=List.getElem?_eq_some_iff.1 ((h t i).1 hi)
theorem wz.none {m:List (au×Nat)} {ts:List au} (h:wz m ts) {t:au} (hn:eM m t=none):t∉ts:=λhm=>by
 obtain⟨i,hi,e⟩:=List.mem_iff_getElem.1 hm;have:=(h t i).2 (by rw[List.getElem?_eq_getElem hi,e]);rw[hn] at this;cases this
theorem Nx {n:Nat}:∀c∈([2,3,4,5,6,7,8,9]++List.range' 10 n:List Nat),2<=c:=by
 intro c hc;simp only[List.mem_append,List.mem_cons,List.not_mem_nil,or_false,List.mem_range'_1] at hc;omega
def kO (f:Nat->Value) (k:Nat) (y:Value):Nat->Value:=λx=>if x=k then y else f x
def k_ (fI:Nat->Value) (n:Nat):List gu:=(List.range n).map λi=>⟨fI i⟩
theorem xN (fI:Nat->Value) (n:Nat): (k_ fI n).length=n:=by simp[k_]
theorem GN {fI:Nat->Value} {n i:Nat} (h:i<(k_ fI n).length): (k_ fI n)[i].v=fI i:=by simp[k_]
theorem Ka {fI:Nat->Value} {n i:Nat} (y:Value): (k_ fI n).set i ⟨y⟩=k_ (kO fI i y) n:=by
 apply List.ext_getElem?;intro j;rw[List.getElem?_set];simp only[xN];by_cases hj:j<n
 ·have e1: (k_ fI n)[j]?=some ⟨fI j⟩:=by simp[k_,hj]
  have e2: (k_ (kO fI i y) n)[j]?=some ⟨kO fI i y j⟩:=by simp[k_,hj]
  rw[e1,e2];by_cases h:i=j
  ·subst h;simp[kO,hj]
  ·rw[if_neg h];simp[kO,Ne.symm h]
 ·have e1: (k_ fI n)[j]?=none:=by simp[k_];omega
  have e2: (k_ (kO fI i y) n)[j]?=none:=by simp[k_];omega
  rw[e1,e2];split
  ·rw[if_neg af]
  ·rfl
theorem y3 {fI:Nat->Value} {n:Nat} (y:Value):k_ fI n++[⟨y⟩]=k_ (kO fI n y) (n+1):=by
 unfold k_;rw[List.range_succ,List.map_append];congr 1
 ·refine List.map_congr_left λi hi=>?_;have:=List.mem_range.1 hi;simp only[kO];rw[if_neg af]
 ·simp[kO]
theorem Ud (n:Nat) (y:Value):List.replicate n (⟨y⟩:gu)=k_ (λ_=>y) n:=by
 unfold k_;apply List.ext_getElem
 ·simp
 ·intro i h1 h2;simp
section
variable {α β:Type} [DecidableEq β] {f:α->β} {xs:List α} {r:α} {i0:Nat}
theorem q3 (hi:i0<(eC f xs).length) (e:f (eC f xs)[i0]=f r):
  eC f (xs++[r])=eC f xs/\∀i,(iJ f (xs++[r])).getD i []=if i=i0 then(iJ f xs).getD i0 []++[r] else(iJ f xs).getD i []:=by
 obtain⟨h1,h2⟩:=Ub hi e;refine⟨h1,λi=>?_⟩;rw[h2];simp only[List.getD_eq_getElem?_getD,List.getElem?_modify];by_cases h:i=i0
 ·subst h;have:i<(iJ f xs).length:=by rw[oa];exact hi
  simp[this]
 ·rw[if_neg h];have:¬i0=i:=λe=>h e.symm;simp[this]
theorem Tr (h:∀q∈eC f xs,f q≠f r) (h0:i0=(eC f xs).length):
  eC f (xs++[r])=eC f xs++[r]/\∀i,(iJ f (xs++[r])).getD i []=if i=i0 then(iJ f xs).getD i0 []++[r] else(iJ f xs).getD i []:=by
 obtain⟨h1,h2⟩:=Uc h;refine⟨h1,λi=>?_⟩;subst h0;rw[h2,<-oa];simp only[List.getD_eq_getElem?_getD,List.getElem?_append];by_cases h:i=(iJ f xs).length
 ·subst h;simp
 ·rw[if_neg h];by_cases h3:i<(iJ f xs).length
  ·rw[if_pos h3]
  ·rw[if_neg h3,List.getElem?_eq_none sN,List.getElem?_eq_none af]
theorem Ny (f:α->β) (xs:List α) (i:Nat) {n:Nat} (h:xs.length<=n): ((iJ f xs).getD i []).length<=n:=by
 rw[List.getD_eq_getElem?_getD];by_cases hi:i<(iJ f xs).length
 ·rw[List.getElem?_eq_getElem hi,EL];exact Nat.le_trans (List.length_filter_le _ _) h
 ·rw[List.getElem?_eq_none af];simp
theorem B1 {i:Nat} (h: (eC f xs).length<=i): (iJ f xs).getD i []=[]:=by
 rw[List.getD_eq_getElem?_getD,List.getElem?_eq_none (by rw[oa];exact h)];rfl
end
theorem Nz {α:Type} [bn α] {w:World} {M:Nat->Prop} {fI:Nat->Value} {ls:List (List α)} {v:Value} (h:aq w M (k_ fI ls.length) v) (he:∀i,i<ls.length->aq w M (ls.getD i []) (fI i)):aq w M ls v:=
 aq.Nn h rfl (by rw[xN]) λi h1 h2=>by
  rw[GN];have:=he i h1;rwa [List.getD_eq_getElem?_getD,List.getElem?_eq_getElem h1] at this
def Ix (j_:List (au×Nat)) (P:List (List au)) (k j:Nat):Prop:=∀i r,(i<k/\r∈P.getD i [])\/(i=k/\r∈(P.getD k []).take j)->eM j_ r=some i
theorem Ix.nil (P:List (List au)):Ix [] P 0 0:=λi r h=>by
 rcases h with⟨h,_⟩|⟨_,h⟩
 ·omega
 ·simp at h
theorem Ix.next {j_:List (au×Nat)} {P:List (List au)} {k j:Nat} (h:Ix j_ P k j) (hj: (P.getD k []).length<=j):Ix j_ P (k+1) 0:=λi r hi=>by
 rcases hi with⟨h1,h2⟩|⟨_,h2⟩
 ·by_cases e:i=k
  ·subst e;exact h i r (.inr ⟨rfl,by rw[List.take_of_length_le hj];exact h2⟩)
  ·exact h i r (.inl ⟨by omega,h2⟩)
 ·simp at h2
theorem EN {l:List aH} {i:Nat} {r:au}:r∈(dU l).getD i []↔∃hi:i<(eC (bZ l) (aM l)).length,r∈aM l/\bZ l r=bZ l (eC (bZ l) (aM l))[i]:=by
 rw[List.getD_eq_getElem?_getD];by_cases hi:i<(dU l).length
 ·rw[List.getElem?_eq_getElem hi];have hi2:i<(eC (bZ l) (aM l)).length:=by unfold dU at hi;rwa [oa] at hi
  have: (dU l)[i]=(aM l).filter λr=>decide (bZ l r=bZ l (eC (bZ l) (aM l))[i]):=EL hi;rw[Option.getD_some,this,List.mem_filter,decide_eq_true_eq];exact⟨λh=>⟨hi2,h⟩,λ⟨_,h⟩=>h⟩
 ·rw[List.getElem?_eq_none af];simp only[Option.getD_none,List.not_mem_nil,false_iff];rintro⟨h,_⟩;exact hi (by unfold dU;rwa [oa])
theorem Kc {α β:Type} [DecidableEq β] {f:α->β} {xs:List α} {i j:Nat} (hi:i<(eC f xs).length) (hj:j<(eC f xs).length) (e:f (eC f xs)[i]=f (eC f xs)[j]):i=j:=by
 have hn:=List.pairwise_iff_getElem.1 (Nv f xs);rcases Nat.lt_trichotomy i j with h3|h3|h3
 ·exact absurd (by rw[List.getElem_map,List.getElem_map,e]) (hn i j (by simpa using hi) (by simpa using hj) h3)
 ·exact h3
 ·exact absurd (by rw[List.getElem_map,List.getElem_map,e]) (hn j i (by simpa using hj) (by simpa using hi) h3)
theorem Ue {l:List aH} {i j:Nat} {r:au} (h:r∈(dU l).getD i []) (h':r∈(dU l).getD j []):i=j:=by
 obtain⟨hi,_,h1⟩:=EN.1 h;obtain⟨hj,_,h2⟩:=EN.1 h';exact Kc hi hj (h1.symm.trans h2)
theorem Ix.put {j_:List (au×Nat)} {l:List aH} {k j:Nat} (h:Ix j_ (dU l) k j) (hk:k<(dU l).length) (hj:j<(dU l)[k].length):Ix (ig j_ (dU l)[k][j] k) (dU l) k (j+1):=λi r hi=>by
 have hg: (dU l).getD k []=(dU l)[k]:=by rw[List.getD_eq_getElem?_getD,List.getElem?_eq_getElem hk];rfl
 rw[n_];split
 ·rename_i e;subst e;have hm: (dU l)[k][j]∈(dU l).getD k []:=by rw[hg];exact List.getElem_mem hj
  rcases hi with⟨h1,h2⟩|⟨h1,_⟩
  ·exact absurd (Ue h2 hm) af
  ·rw[h1]
 ·rename_i e;refine h i r ?_;rcases hi with hi|⟨h1,h2⟩
  ·exact .inl hi
  ·refine .inr ⟨h1,?_⟩;rw[hg] at h2⊢;rw[List.take_succ_eq_append_getElem hj] at h2;rcases List.mem_append.1 h2 with h2|h2
   ·exact h2
   ·simp only[List.mem_singleton] at h2;exact absurd h2.symm e
theorem Uf {l:List aH} {r:au} (h:r∈aM l):∃i,r∈(dU l).getD i []:=by
 obtain⟨q,hq,e⟩:=Nu (f:=bZ l) h;obtain⟨i,hi,rfl⟩:=List.mem_iff_getElem.1 hq;exact⟨i,EN.2 ⟨hi,h,e.symm⟩⟩
def sR (l:List aH) (k:Nat):List (List aH):=(eC (bZ l) (aM l)).map λq=>(l.take k).filter λx=>decide (bZ l x.A=bZ l q)
theorem Ke (l:List aH):sR l l.length=aY l:=by unfold sR aY;rw[List.take_length]
theorem Kf {l:List aH} {k i:Nat} (hi:i<(eC (bZ l) (aM l)).length): (sR l k).getD i []=(l.take k).filter λx=>decide (bZ l x.A=bZ l (eC (bZ l) (aM l))[i]):=by
 rw[List.getD_eq_getElem?_getD,List.getElem?_eq_getElem (by simpa[sR] using hi)];simp[sR]
theorem Ug (l:List aH) (i:Nat): (sR l 0).getD i []=[]:=by
 rw[List.getD_eq_getElem?_getD];unfold sR;by_cases hi:i<(eC (bZ l) (aM l)).length
 ·rw[List.getElem?_eq_getElem (by simpa using hi)];simp
 ·rw[List.getElem?_eq_none sN];rfl
theorem Kg (l:List aH) (k i:Nat): ((sR l k).getD i []).length<=l.length:=by
 by_cases hi:i<(eC (bZ l) (aM l)).length
 ·rw[Kf hi];exact Nat.le_trans (List.length_filter_le _ _) tA
 ·rw[List.getD_eq_getElem?_getD,List.getElem?_eq_none (by simp[sR];omega)];simp
theorem Uh {l:List aH} {k i0 i:Nat} (hk:k<l.length) (h0:l[k].A∈(dU l).getD i0 []) (hi:i<(dU l).length):
  (sR l (k+1)).getD i []=if i=i0 then(sR l k).getD i0 []++[l[k]] else(sR l k).getD i []:=by
 have hi2:i<(eC (bZ l) (aM l)).length:=by unfold dU at hi;rwa [oa] at hi
 obtain⟨lg,_,e⟩:=EN.1 h0;rw[Kf hi2,List.take_succ_eq_append_getElem hk,List.filter_append];by_cases h:i=i0
 ·subst h;rw[if_pos rfl,Kf hi2];simp[e]
 ·rw[if_neg h,Kf hi2];have:¬bZ l l[k].A=bZ l (eC (bZ l) (aM l))[i]:=λe2=>h (Kc hi2 lg (e2.symm.trans e));simp[this]
def NA (P:Program) (N:Nat) (ops:Array Oper):List Nat->Env->(Env->Prop)->Prop
 |[],env,K=>K env
 |i::A,env,K=>∃t op v,bY ops i=some (some t,op,none)/\Nat.blt t N=true/\(∀w,cE P N env op w v)/\NA P N ops A ((t,v)::env) K
def xO (l:Array Bool):List Nat->Array Bool
 |[]=>l
 |i::is=>xO (l.setIfInBounds i true) is
def xP (ops:Array Oper):Nat->Array Bool->List Nat->Bool
 |_,_,[]=>true
 |0,_,_::_=>false
 |n+1,listed,j::A=>Region.free .any ops listed j&&(Region.ready .any ops listed).contains j&&!Nat.beq j ops.size&&xP ops n (listed.setIfInBounds j true) A
section
variable {P:Program} {ops:Array Oper} {Q:Exit->Act->World->Prop}
theorem Ui {N:Nat} (hs:Region.noSelect ops=true) (hQ:∀c a d v w,Q (.panic c) (Act.put a d v) w->Q (.panic c) a w) {K:Env->Prop} {w:World}:
  ∀(A:List Nat) (n:Nat) (listed:Array Bool) (env:Env) (a:Act),xP ops n listed A=true->qm ops listed->NA P N ops A env K->jf N env a->
   (∀(env':Env) (a':Act),K env'->jf N env' a'->qm ops (xO listed A)->sO P ops Q (λ_=>True) ops.size (n-A.length) (xO listed A) a' w)->sO P ops Q (λ_=>True) ops.size n listed a w
 |[],n,listed,env,a,_,dM,hp,ha,hend=>hend env a hp ha dM
 |j::A,0,listed,env,a,hc,_,_,_,_=>by cases hc
 |j::A,n+1,listed,env,a,hc,dM,hp,ha,hend=>by
  simp only[xP,Bool.and_eq_true] at hc;obtain⟨⟨⟨h1,h2⟩,h3⟩,h4⟩:=hc;obtain⟨t,op,v,hop,ht,hv,hp⟩:=hp;obtain⟨o,ho,hd,rfl,hg⟩:=vV hop;have hr:j∈Region.ready .any ops listed:=by simpa using h2
  have hdk:uI N o.dst=true:=by rw[hd];exact ht
  have hy:YieldsIf P ops (λ_=>True) o v a:=.inl ⟨by unfold Region.wanted;rw[hg],λw' _=>hv w' a ha o rfl⟩;have hne:j≠ops.size:=λe=>by subst e;simp at h3
  refine Gf ho (Region.noSelect_spec hs) (λc a w hq=>hQ c a _ _ w hq) hne (λl hc hj=>?_) n listed a w dM (Region.free_spec ho h1) hr hy trivial ?_
  ·rw[Array.getD_eq_getD_getElem?,Array.getElem?_eq_none (by rw[hc.1];exact Nat.le_refl _)] at hj;cases hj
  ·have hst:=ha.put hdk v;rw[hd] at hst⊢;exact Ui hs hQ A n _ _ _ h4 (pJ dM hr) hp hst (λenv' a' k1 k2 zq=>by
    have:=hend env' a' k1 k2 zq;rw[List.length_cons,show n+1-(A.length+1)=n-A.length from by omega] at this;exact this)
theorem Uj:∀(is:List Nat) (l:Array Bool),(xO l is).size=l.size
 |[],_=>rfl
 |i::is,l=>by rw[xO,Uj is];simp
theorem NB {d:Bool}:∀(is:List Nat) (l:Array Bool) (j:Nat),j<l.size->(xO l is).getD j d=if j∈is then true else l.getD j d
 |[],l,j,_=>by simp[xO]
 |i::is,l,j,hj=>by
  rw[xO,NB is _ j (by simpa using hj)];by_cases e:j∈is
  ·simp[e]
  ·rw[if_neg e];by_cases e2:j=i
   ·subst e2;rw[if_pos b_];simp[Array.getD,hj]
   ·rw[if_neg (by simp[e,e2]),getD_set_ne d (Ne.symm e2)]
end
theorem GO {P:Program} {f:FuncId} {N:Nat} {k k':List Item} {env:Env} {w:World} {R:Value->World->Prop} {ι:Type} (I:ι->World->Prop) (e:ι->Env)
 (hr:∀x w,I x w->Run P f N k (e x) w R) (hm: (∀x w,I x w->Run P f N k (e x) w R)->Run P f N k' env w R):Run P f N k' env w R:=hm hr
theorem xQ {α:Type} {l:List α} {i:Nat} {d:α} (h:i<l.length):l.getD i d=l[i]:=by rw[List.getD_eq_getElem?_getD,List.getElem?_eq_getElem h];rfl
theorem A6.B2 {k:IntKind} {a b:A6 k} (h:a.n=b.n):a=b:=by cases a;cases b;simp only at h;subst h;rfl
instance {k:IntKind}:DecidableEq (A6 k):=λa b=>decidable_of_iff (a.n=b.n) ⟨A6.B2,λh=>by rw[h]⟩
instance {k:IntKind}:Inhabited (A6 k):=⟨⟨0⟩⟩
structure Bits where
 len:Int
 words:List j5
 deriving DecidableEq
instance:bn Bits:=bn.via (λx:Bits=>(x.len,x.words))
instance:Inhabited Bits:=⟨⟨0,[]⟩⟩
structure NC where
 arr:Bits
 mem:List Int
instance:bn NC:=bn.via (λx:NC=>(x.arr,x.mem))
instance:Inhabited NC:=⟨⟨⟨0,[]⟩,[]⟩⟩
structure ND where
 val:ByteArray
 cnt:Int
instance:bn ND:=bn.via (λx:ND=>(x.val,x.cnt))
structure Uk where
 Cm:Int
 val:ByteArray
instance:bn Uk:=bn.via (λx:Uk=>(x.Cm,x.val))
section
variable {w:World} {M:Nat->Prop} {b o:Nat} {v u:Value}
theorem zC {x:Bits}:aq w M x v↔∃u,v=.agg #[.int .i64 x.len,u]/\aq w M x.words u:=by
 constructor
 ·rintro⟨vs,⟨us,ws,rfl,h1,h2⟩,hv⟩;have hl:=bn.len h2;obtain⟨u,rfl⟩:=List.length_eq_one_iff.1 hl;have xF:us=[.int .i64 x.len]:=h1;subst xF;exact⟨u,hv,zi h2 rfl⟩
 ·rintro⟨u,rfl,h⟩;exact⟨[.int .i64 x.len,u],⟨[.int .i64 x.len],[u],rfl,rfl,h.Gk rfl⟩,rfl⟩
end
def rU (n:Int):Bool:=decide (64<=n)&&decide (n<=512)&&decide (n%64=0)
def ij (b:Bits):Bool:=rU b.len&&decide ((b.words.length:Int)=b.len/64)
theorem NF {n:Int}:rU n=true↔64<=n/\n<=512/\n%64=0:=by unfold rU;simp[and_assoc]
theorem xR {b:Bits}:ij b=true↔(64<=b.len/\b.len<=512/\b.len%64=0)/\(b.words.length:Int)=b.len/64:=by unfold ij;rw[Bool.and_eq_true,NF];simp
section
variable {cl:List Bits} {k n:Nat}
def zD (cl:List Bits) (i:Nat):Bits:=cl.getD i default
def Bk (cl:List Bits) (k:Nat):List Nat:=(List.range k).filter λi=>ij (zD cl i)
theorem nS {i:Nat}:i∈Bk cl k↔i<k/\ij (zD cl i)=true:=by unfold Bk;rw[List.mem_filter,List.mem_range]
theorem zT: (Bk cl k).Pairwise (·<·):=by unfold Bk;exact List.pairwise_lt_range.sublist List.filter_sublist
abbrev wA (cl:List Bits) (k:Nat):List Nat:=eC (zD cl) (Bk cl k)
abbrev GQ (cl:List Bits) (k:Nat):List (List Nat):=iJ (zD cl) (Bk cl k)
theorem Ul {g:Nat} (h:g<(wA cl k).length): (GQ cl k).getD g []=(Bk cl k).filter λr=>decide (zD cl r=zD cl (wA cl k)[g]):=by
 have h1:g<(GQ cl k).length:=by rw[oa];exact h
 rw[List.getD_eq_getElem?_getD,List.getElem?_eq_getElem h1];exact EL h1
theorem NG {g i:Nat} (h:g<(wA cl k).length):i∈(GQ cl k).getD g []↔i<k/\ij (zD cl i)=true/\zD cl i=zD cl (wA cl k)[g]:=by
 rw[Ul h,List.mem_filter,nS];simp[and_assoc]
end
def Kh (l:List Int) (i:Nat):Int:=l.getD i 0
section
variable {sz:List Int} {es:List ND} {u:List (Int×ByteArray)} {i j k:Nat}
end
section
variable {cl:List Bits} {n g g2 i j K:Nat} {Bl:List Int}
abbrev xS (cl:List Bits) (n g:Nat):List Nat:=(GQ cl n).getD g []
theorem bw (hg:g<(wA cl n).length) (h:i∈xS cl n g):i<n:=((NG hg).1 h).1
theorem p4 (hg:g<(wA cl n).length) (hh:g2<(wA cl n).length) (h1:i∈xS cl n g) (h2:i∈xS cl n g2):g=g2:=by
 have a:=((NG hg).1 h1).2.2;have b:=((NG hh).1 h2).2.2;exact Kc hg hh (a.symm.trans b)
theorem p7 (hg:g<(wA cl n).length): (xS cl n g).Nodup:=by
 show((GQ cl n).getD g []).Nodup;rw[Ul hg];have: (Bk cl n).Nodup:=zT.imp λh=>Nat.ne_of_lt h;exact this.sublist List.filter_sublist
structure NH (cl:List Bits) (n K j:Nat) (Bl:List Int):Prop where
 len:Bl.length=n
 Lw:∀i,i<n->∀g:Nat,Kh Bl i=g↔g<(wA cl n).length/\(g<K/\i∈xS cl n g\/g=K/\i∈(xS cl n g).take j)
theorem NH.free (h:NH cl n K j Bl) (hK:K<(wA cl n).length) (hj:j<(xS cl n K).length):Kh Bl (xS cl n K)[j]<0:=by
 have hm:=List.getElem_mem hj;have hlt:=bw hK hm;rcases Int.lt_or_le (Kh Bl (xS cl n K)[j]) 0 with h1|h1
 ·exact h1
 ·obtain⟨h2,h3⟩:=(h.Lw _ hlt (Kh Bl (xS cl n K)[j]).toNat).1 af;rcases h3 with⟨h4,h5⟩|⟨h4,h5⟩
  ·have:=p4 h2 hK h5 hm;omega
  ·rw[h4] at h5;obtain⟨q,hq,e⟩:=List.getElem_of_mem h5;rw[List.length_take] at hq;rw[List.getElem_take] at e;have:=(List.getElem_inj (p7 hK)).1 e;omega
section
variable (h:NH cl n (wA cl n).length 0 Bl)
include h
end
end
section
variable {α:Type} [bn α] {w w':World} {C aK D D':Nat->Nat} {I:List Nat} {e:TypeId} {v:Value} {ys:List α} {x:α} {j j1 i b:Nat} {t:TypeId}
theorem aQ.mG (h:aQ w' aK j1 e v ys) (hs:av I w D w' aK) (hF:aF w C) (hD:aj D=aj C) (hj:∀b,b<w.heap.size->D b≠j1) (h1:j1≠0) (j:Nat) (hjj:j≠0):
  ∃aG,(∀b,b<w.heap.size->aG b=C b)/\aF w' aG/\(∀b,aj aG b->aj aK b)/\aQ w' aG j e v ys:=by
 have old:∀b,aj C b->aj aK b:=λb hb=>by
  have hlt:=hF b hb;unfold aj;rw[hs.col b hlt];have:aj D b:=by rw[hD];exact hb
  exact this
 have fresh:∀b,cQ v b->¬b<w.heap.size:=λb hb hlt=>hj b hlt (by rw[<-hs.col b hlt];exact h.col b hb);refine⟨gP C v j,λb hb=>?_,λb hb=>?_,λb hb=>?_,⟨h.own.sub (λb _ hb=>?_) (λb hb=>?_),λb hb=>?_⟩⟩
 ·unfold gP;rw[if_neg (show¬v.ownBlock=some b from λe=>fresh b e hb)]
 ·by_cases ho:cQ v b
  ·exact(h.own.fG b ho).2
  ·unfold gP at hb;rw[if_neg (show¬v.ownBlock=some b from ho)] at hb;exact Nat.lt_of_lt_of_le (hF b hb) hs.size
 ·by_cases ho:cQ v b
  ·unfold aj;rw[h.col b ho];exact h1
  ·unfold aj gP at hb;rw[if_neg (show¬v.ownBlock=some b from ho)] at hb;exact old b hb
 ·by_cases ho:cQ v b
  ·unfold aj;rw[h.col b ho];exact h1
  ·unfold aj gP at hb;rw[if_neg (show¬v.ownBlock=some b from ho)] at hb;exact old b hb
 ·unfold aj gP;rw[if_pos (show v.ownBlock=some b from hb)];exact hjj
 ·unfold gP;rw[if_pos (show v.ownBlock=some b from hb)]
theorem av.mG {aG:Nat->Nat} (h:av I w C w' D') (hc:∀b,b<w.heap.size->aG b=C b):av I w C w' aG:=⟨h.ext,hc⟩
theorem aq.mG {aG:Nat->Nat} (h:aq w' (aj aK) x v) (h_:∀b,aj aG b->aj aK b):aq w' (aj aG) x v:=h.sub (λb _ hb=>h_ b hb)
end
section
variable {α:Type} [bn α] {P:Program} {N:Nat} {env:Env} {w:World} {M:Nat->Prop} {t e e':TypeId} {v s:Value} {x y z q:Operand} {xs ys zs:List α}
theorem Um {zs:List α} {sb so:Nat} {tF:Array Value} {Gn:TypeId} {Gp:Nat×Nat} (hsc:w.heap[sb]?=some (.cells tF Gn Gp)) (hsl:so+zs.length*sz α<=tF.size)
  (Gq:∀k (hk:k<zs.length),rep w.heap M zs[k] (cR tF (so+k*sz α) (sz α))):
  ∃news:List Value,news.length=zs.length*sz α/\(∀j v,news[j]?=some v->w.cell? ((⟨sb,so,none⟩:Addr).add j)=some v)/\∀k (hk:k<zs.length),rep w.heap M zs[k] (cR news.toArray (k*sz α) (sz α)):=by
 obtain⟨news,Gs⟩:∃news,news=cR tF so (zs.length*sz α):=⟨_,rfl⟩
 have hnl:news.length=zs.length*sz α:=by
  rw[Gs];simp only[cR,List.length_take,List.length_drop,Array.length_toList];omega
 have nC:∀j,j<zs.length*sz α->news[j]?=tF[so+j]?:=λj hj=>by
  rw[Gs];simp only[cR,List.getElem?_take,if_pos hj,List.getElem?_drop];simp
 refine⟨news,hnl,λj v hv=>?_,λk hk=>?_⟩
 ·have hj:j<zs.length*sz α:=by rw[<-hnl];exact(List.getElem?_eq_some_iff.1 hv).1
  rw[rN,cell_of_row w sb (so+j) tF Gn Gp hsc,<-nC j hj,hv]
 ·have:=Gq k hk;rwa [show cR tF (so+k*sz α) (sz α)=cR news.toArray (k*sz α) (sz α) from tD (λj hj=>by
   have hb:k*sz α+j<zs.length*sz α:=by
    have:=Nat.mul_le_mul_right (sz α) (show k+1<=zs.length from hk);rw[Nat.succ_mul] at this;omega
   rw[show∀m,news.toArray[m]?=news[m]? from λm=>by simp,nC _ hb,Nat.add_assoc])] at this
theorem qb {bytes:Nat} {a:Option Addr} (hx:ev env x=some (.slice a ys.length ys.length)) (hy:ev env y=some s) (hrow:rO P t e (sz α) bytes=true) (hsz:0<sz α)
  (hown:aq w M ys (.slice a ys.length ys.length)) (hsrc:aq w M zs s) (xT:zs≠[]) (hlen: (ys.length+zs.length)*bytes<=140737488355328) (h63:ys.length+zs.length<=140737488355328):
  g_ P N env (.call {callee:=.builtin .append,args:=#[x,y],argTypes:=#[t,t]}) w (λv' w'=>
   k7 w' (λb=>cQ v' b\/M b) e v' (ys++zs)/\Ext (λ_=>False) w w'/\(∀b,cQ v' b->w.heap.size<=b)):=sP λρ hρ fB gO=>by
 obtain⟨i,z,hu,hi,tE,hby,hz,hzs⟩:=A8 hrow;obtain⟨a2,c,rfl,hcap,hl0,JJ⟩:=kT.1 hsrc;have key:∃v' w',(Builtin.append_ #[t,t] fB.type #[.slice a ys.length ys.length,.slice a2 zs.length c]).run P w=.ok v' w'/\
   k7 w' (λb=>cQ v' b\/M b) e v' (ys++zs)/\Ext (λ_=>False) w w'/\(∀b,cQ v' b->w.heap.size<=b):=by
  rcases JJ with h|⟨sb,so,rfl,Ew,tF,Gn,Gp,hsc,hsl,Gq⟩
  ·exact absurd h xT
  ·have hm0:0<zs.length:=List.length_pos_iff.2 xT;obtain⟨news,hnl,hnews,Gt⟩:=Um (w:=w) (M:=M) hsc hsl Gq;have A9:news.length=zs.length*i.size:=by rw[hnl,tE]
   have fresh:∀(olds:List Value) (cap:Nat) (o:Obj),olds.length=ys.length*sz α->(∀k (hk:k<ys.length),rep w.heap M ys[k] (cR olds.toArray (k*sz α) (sz α)))->
     o=.cells (olds.toArray++news.toArray++Builtin.zeroCells z.cells (cap-(ys.length+zs.length))) e (0,0)->ys.length+zs.length<=cap->
     k7 (w.drew.alloc o) (λb=>cQ (.slice (some ⟨w.heap.size,0,none⟩) (ys.length+zs.length) cap) b\/M b) e (.slice (some ⟨w.heap.size,0,none⟩) (ys.length+zs.length) cap) (ys++zs):=by
    intro olds cap o holds CK ho MR;subst ho;have hnew:=A7 w (.cells (olds.toArray++news.toArray++Builtin.zeroCells z.cells (cap-(ys.length+zs.length))) e (0,0));refine .inr ⟨w.heap.size,cap,_,by rw[List.length_append],.inl rfl,hnew.at_,by rw[List.length_append];exact MR,?_,?_⟩
    ·simp only[Array.size_append,List.size_toArray,size_zeroCells,hzs,holds,hnl,<-Nat.add_mul];congr 1;omega
    ·intro k hk;rw[List.length_append] at hk;have hkeep:∀(x:α) (vs:List Value),rep w.heap M x vs->rep (w.drew.alloc (.cells (olds.toArray++news.toArray++Builtin.zeroCells z.cells (cap-(ys.length+zs.length))) e (0,0))).heap
       (λb=>cQ (.slice (some ⟨w.heap.size,0,none⟩) (ys.length+zs.length) cap) b\/M b) x vs:=λx vs hr=>
      bn.keep (bn.sub hr (λb hb h=>h.elim (λe=>by simp only[cQ,Value.ownBlock,Option.some.injEq] at e;omega) id)) (λb hb _=>hnew.ext.block b hb (λh=>h))
     by_cases vY:k<ys.length
     ·rw[List.getElem_append_left vY];have:=CK k vY;rw[show cR olds.toArray (k*sz α) (sz α)=cR (olds.toArray++news.toArray++Builtin.zeroCells z.cells (cap-(ys.length+zs.length))) (k*sz α) (sz α) from tD (λj hj=>by
       have hb:k*sz α+j<ys.length*sz α:=by
        have:=Nat.mul_le_mul_right (sz α) (show k+1<=ys.length from vY);rw[Nat.succ_mul] at this;omega
       rw[Array.append_assoc,Array.getElem?_append_left (by simpa[holds] using hb)])] at this
      exact hkeep _ _ this
     ·rw[List.getElem_append_right af];have A_:k-ys.length<zs.length:=by omega
      have:=Gt (k-ys.length) A_;rw[show cR news.toArray ((k-ys.length)*sz α) (sz α)=cR (olds.toArray++news.toArray++Builtin.zeroCells z.cells (cap-(ys.length+zs.length))) (k*sz α) (sz α) from tD (λj hj=>by
       have hb: (k-ys.length)*sz α+j<zs.length*sz α:=by
        have:=Nat.mul_le_mul_right (sz α) (show k-ys.length+1<=zs.length from A_);rw[Nat.succ_mul] at this;omega
       have he:k*sz α=ys.length*sz α+(k-ys.length)*sz α:=by rw[<-Nat.add_mul];congr 1;omega
       rw[Array.getElem?_append_left (by simp only[Array.size_append,List.size_toArray,holds,hnl];omega),Array.getElem?_append_right (by simp only[List.size_toArray,holds];omega)];congr 1;simp only[List.size_toArray,holds];omega)] at this
      exact hkeep _ _ this
   by_cases hys:ys=[]
   ·subst hys;rcases a with _|ab
    case' some=>
     have hr:=run_append_grow (P:=P) w t fB.type e i z hu hi hz ab 0 0 [] b_ (λj v hv=>by simp at hv) ⟨sb,so,none⟩ zs.length c news A9 hnews af af
      (growslice_fits af (by rw[hby];exact hlen))
     have hfr:=fresh [] (grownCap w (0+zs.length) 0 e) _ b_ (λk hk=>by simp at hk) rfl (grownCap_ge w _ _ e);refine⟨_,_,hr,hfr,?_,?_⟩
     ·exact(A7 w _).ext.mono (λb hb h=>h.elim)
     ·intro b hb;simp only[cQ,Value.ownBlock,Option.some.injEq] at hb;omega
    have hr:=run_append_nil (P:=P) w t fB.type e i z hu hi hz ⟨sb,so,none⟩ zs.length c news A9 hnews hm0 af
     (by rw[hby];simp only[List.length_nil,Nat.zero_add] at hlen;omega)
    have hfr:=fresh [] (grownCap w zs.length 0 e) _ b_ (λk hk=>by simp at hk) rfl (by simpa using grownCap_ge w zs.length 0 e);simp only[List.length_nil,Nat.zero_add,List.nil_append] at hfr;refine⟨_,_,hr,?_,?_,?_⟩
    ·simpa using hfr
    ·exact(A7 w _).ext.mono (λb hb h=>h.elim)
    ·intro b hb;simp only[cQ,Value.ownBlock,Option.some.injEq] at hb;omega
   ·obtain⟨a3,c3,Pv,_,_,DW⟩:=kT.1 hown;injection Pv with h1 h2 h3;subst h1;rcases DW with h|⟨fG,π,Ki,CU,ajF,ajG,ajH,C5,wB,bt⟩
    ·exact absurd h hys
    ·subst Ki;obtain⟨olds,kE,holds,CK⟩:=Um (w:=w) (M:=M) C5 wB bt;have hr:=run_append_grow (P:=P) w t fB.type e i z hu hi hz ⟨fG,π,none⟩ ys.length ys.length olds (by rw[tE];exact kE) holds ⟨sb,so,none⟩ zs.length c news A9 hnews af af
      (growslice_fits af (by rw[hby];exact hlen))
     have hfr:=fresh _ (grownCap w (ys.length+zs.length) ys.length e) _ kE CK rfl (grownCap_ge w _ _ e);refine⟨_,_,hr,hfr,?_,?_⟩
     ·exact(A7 w _).ext.mono (λb hb h=>h.elim)
     ·intro b hb;simp only[cQ,Value.ownBlock,Option.some.injEq] at hb;omega
 obtain⟨v',w',hrun,hpost⟩:=key;refine⟨v',w',.inl ?_,hpost⟩;unfold execOp;rw[gO];simp[hρ _ _ hx,hρ _ _ hy,resolve,invoke,builtin,hrun]
end
section
variable {α:Type} [bn α] {P:Program} {N:Nat} {env:Env} {w w':World} {C aG:Nat->Nat} {I:List Nat} {t e e':TypeId} {v s:Value} {y z:Operand} {xs ys zs:List α} {j b n ty:Nat} {fG ajI:Obj}
theorem GU {bytes:Nat} {a:Option Addr} (hF:aF w C) (hj:j≠0) (hx:ev env y=some (.slice a ys.length ys.length)) (hy:ev env z=some s) (hrow:rO P t e (sz α) bytes=true) (hsz:0<sz α)
  (hown:aq w (aj C) ys (.slice a ys.length ys.length)) (hsrc:aq w (aj C) zs s) (xT:zs≠[]) (hlen: (ys.length+zs.length)*bytes<=140737488355328) (h63:ys.length+zs.length<=140737488355328):
  g_ P N env (.call {callee:=.builtin .append,args:=#[y,z],argTypes:=#[t,t]}) w (λv' w'=>∃aG,av [] w C w' aG/\aQ w' aG j e v' (ys++zs)/\aF w' aG):=λa' j8 fB gO=>by
 obtain⟨v',w',h1,h2,h3,h4⟩:=qb (P:=P) (N:=N) hx hy hrow hsz hown hsrc xT hlen h63 a' j8 fB gO;have kU:∀b,b<w.heap.size->gP C v' j b=C b:=λb hb=>by
  unfold gP;split
  ·rename_i e;have:=h4 b e;omega
  ·rfl
 refine⟨v',w',h1,gP C v' j,⟨h3.mono (λb _ hb=>hb.elim),kU⟩,⟨h2.sub (λb hb hc=>?_) (λb hb=>?_),λb hb=>?_⟩,λb hb=>?_⟩
 ·by_cases ho:cQ v' b
  ·exact .inl ho
  ·right;unfold aj gP at hc;rw[if_neg (show¬v'.ownBlock=some b from ho)] at hc;exact hc
 ·unfold aj gP;rw[if_pos (show v'.ownBlock=some b from hb)];exact hj
 ·unfold gP;rw[if_pos (show v'.ownBlock=some b from hb)]
 ·by_cases ho:cQ v' b
  ·exact(h2.fG b ho).2
  ·unfold gP at hb;rw[if_neg (show¬v'.ownBlock=some b from ho)] at hb;exact Nat.lt_of_lt_of_le (hF b hb) h3.size
end
end Go.K
namespace Go.K
open bn
section
variable {α:Type} [bn α] {w:World} {C:Nat->Nat} {P:Program} {f:FuncId} {N:Nat} {k:List Item} {R:Value->World->Prop} {Q:Exit->Act->World->Prop} {env:Env} {ops:Array Oper} {S:World->Prop} {i t:Nat} {L:List (Nat×Bool)} {v:Value} {y z q:Operand} {iG:Option (Nat×Bool)} {ty e e':TypeId} {xs:List α} {kd GV:IntKind}
end
structure Un where
 ln:Int
 Uo:Value
 mv:Value
instance:Inhabited Un:=⟨⟨0,.slice none 0 0,.slice none 0 0⟩⟩
instance:bn Un where
 sz:=3
 agg:=true
 flat h:=by cases h
 rep _ _ x vs:=vs=[.int .i64 x.ln,x.Uo,x.mv]/\x.Uo.oneCell'=true/\x.mv.oneCell'=true
 len h:=by obtain⟨rfl,_⟩:=h;rfl
 one h:=by
  obtain⟨rfl,h1,h2⟩:=h;intro v hv;simp only[List.mem_cons,List.not_mem_nil,or_false] at hv;rcases hv with rfl|rfl|rfl
  ·rfl
  ·exact h1
  ·exact h2
 keep h _:=h
 sub h _:=h
section
variable {cl:List Bits} {k g i0 n:Nat} {wf mf:Nat->Value} {w:World} {M:Nat->Prop} {C:Nat->Nat} {j:Nat} {e:TypeId} {v u m:Value}
end
end Go.K
namespace Go.K
open bn
section
variable {P:Program} {N:Nat} {env:Env} {w:World} {x:Operand} {t u e:TypeId} {b:Addr} {l c:Nat}
end
end Go.K
namespace Go.K
open bn
section
variable {P:Program} {N:Nat} {env:Env} {w:World} {C:Nat->Nat} {t e:TypeId}
end
end Go.K
namespace Go.K
end Go.K
namespace Go.K
section
variable {P:Program} {N:Nat} {env:Env} {w:World} {x y:Operand} {t u:TypeId} {a b:ByteArray}
end
end Go.K
namespace Go.K
open bn
def jH (a b:j5):j5:=⟨bitsOf .and .u64 a.n b.n⟩
def lJ (a b:Bits):Bits:=⟨a.len,List.zipWith jH a.words b.words⟩
def xU (x:Int):Int:=
 let x1:=IntKind.u64.wrap (bitsOf .and .u64 (x.fdiv (2^min (1:Int).toNat IntKind.u64.bits)) 6148914691236517205+bitsOf .and .u64 x 6148914691236517205)
 let uN:=IntKind.u64.wrap (bitsOf .and .u64 (x1.fdiv (2^min (2:Int).toNat IntKind.u64.bits)) 3689348814741910323+bitsOf .and .u64 x1 3689348814741910323)
 let EO:=bitsOf .and .u64 (IntKind.u64.wrap (uN.fdiv (2^min (4:Int).toNat IntKind.u64.bits)+uN)) 1085102592571150095
 let GX:=IntKind.u64.wrap (EO+EO.fdiv (2^min (8:Int).toNat IntKind.u64.bits))
 let GY:=IntKind.u64.wrap (GX+GX.fdiv (2^min (16:Int).toNat IntKind.u64.bits))
 let Up:=IntKind.u64.wrap (GY+GY.fdiv (2^min (32:Int).toNat IntKind.u64.bits))
 bitsOf .and .i64 (IntKind.i64.wrap Up) 127
theorem k3 (m:Int):0<=bitsOf .and .i64 m 127/\bitsOf .and .i64 m 127<=127:=by
 have h1: ((BitVec.ofInt 64 m&&&BitVec.ofInt 64 127:BitVec 64)).toNat<=127:=by
  rw[BitVec.toNat_and];exact Nat.le_trans Nat.and_le_right ak
 have:bitsOf .and .i64 m 127=(((BitVec.ofInt 64 m&&&BitVec.ofInt 64 127:BitVec 64)).toNat:Int):=by
  show IntKind.i64.wrap (((BitVec.ofInt 64 m&&&BitVec.ofInt 64 127:BitVec 64)).toNat:Int)=_;apply wrap_i64<;>omega
 rw[this];omega
theorem Uq (x:Int):0<=xU x/\xU x<=127:=k3 _
def wC (l:List j5) (k:Nat):Int:=match k with|0=>0|k+1=>wC l k+xU (l.getD k default).n
theorem Kj (l:List j5):∀k:Nat,0<=wC l k/\wC l k<=k*127
 |0=>⟨Int.le_refl _,Int.le_refl _⟩
 |k+1=>by
  have ih:=Kj l k;have:=Uq (l.getD k default).n;show 0<=wC l k+xU (l.getD k default).n/\wC l k+xU (l.getD k default).n<=_;omega
def gX (b:Bits):Int:=if ij b then wC b.words b.words.length else 0
theorem Kk {b:Bits} (h:ij b=true):b.words.length<=8/\1<=b.words.length:=by have:=xR.1 h;omega
def kW (a b:Bits):Prop:=ij a=true/\ij b=true/\a.len=b.len
instance (a b:Bits):Decidable (kW a b):=by unfold kW;exact inferInstance
theorem GZ {a b:Bits} (h:kW a b):ij (lJ a b)=true:=by
 obtain⟨h1,h2,h3⟩:=h;have v1:=xR.1 h1;have v2:=xR.1 h2;refine xR.2 ⟨v1.1,?_⟩;show((List.zipWith jH a.words b.words).length:Int)=a.len/64;rw[List.length_zipWith];omega
theorem Ur {a b:Bits} (h:kW a b):a.words.length=b.words.length:=by
 obtain⟨h1,h2,h3⟩:=h;have v1:=xR.1 h1;have v2:=xR.1 h2;omega
theorem G3 {a b:List j5} {k:Nat} (h1:k<a.length) (h2:k<b.length): (List.zipWith jH a b).take (k+1)=(List.zipWith jH a b).take k++[jH a[k] b[k]]:=by
 rw[List.take_succ_eq_append_getElem En,List.getElem_zipWith]
def Kl (ys cl:List Bits) (i k:Nat):Prop:=ys.length=cl.length/\i<=k/\ys.take i=(cl.take k).filter ij/\∀q (h1:q<ys.length) (h2:q<cl.length),k<=q->ys[q]=cl[q]
theorem Kl.drop {ys cl:List Bits} {i k:Nat} (h:Kl ys cl i k) (hk:k<cl.length) (hv:ij cl[k]=false):Kl ys cl i (k+1):=by
 obtain⟨h1,h2,h3,h4⟩:=h;refine⟨h1,by omega,?_,λq hq1 iq hq=>h4 q hq1 iq af⟩;rw[h3,List.take_succ_eq_append_getElem hk,List.filter_append,List.filter_cons,if_neg (by rw[hv];simp),List.filter_nil,List.append_nil]
theorem Kl.all {cl:List Bits} (h0:∀i (hi:i<cl.length),ij cl[i]=true):cl.filter ij=cl:=List.filter_eq_self.2 λx hx=>by
 obtain⟨q,hq,rfl⟩:=List.getElem_of_mem hx;exact h0 q hq
end Go.K
theorem Go.K.Us {a b:List j5} {k:Nat} {z:j5} (h1:k<a.length) (h2:k<b.length):
  ((List.zipWith jH a b).take k++List.replicate (a.length-k) z).set k (jH a[k] b[k])=(List.zipWith jH a b).take (k+1)++List.replicate (a.length-(k+1)) z:=by
 have hl: ((List.zipWith jH a b).take k).length=k:=by rw[List.length_take,List.length_zipWith];omega
 rw[List.set_append,if_neg af,hl,Nat.sub_self,show a.length-k=(a.length-(k+1))+1 from by omega,List.replicate_succ,List.set_cons_zero,G3 h1 h2,List.append_assoc];rfl
namespace Go.K
open bn
section
variable {P:Program} {N:Nat} {env:Env} {w:World} {C:Nat->Nat} {t e:TypeId}
end
def nK (x:Int):Prop:=0<=x/\x<18446744073709551616
theorem vn (x y:Int):nK (bitsOf .and .u64 x y):=Te _
def xV (n:Int) (b:Bits):Prop:=b.len=n/\(b.words.length:Int)=n/64/\∀x∈b.words,nK x.n
def Ut (b:Bits):Prop:=b=⟨0,[]⟩\/xV 64 b\/xV 128 b
theorem Ut.len {b:Bits} (h:Ut b):b.words.length<=2:=by
 rcases h with rfl|h|h
 ·exact Nat.zero_le _
 ·have:=h.2.1;omega
 ·have:=h.2.1;omega
def pop:Nat->Nat->Nat
 |0,_=>0
 |n+1,x=>x%2+pop n (x/2)
theorem Uu (m n x:Nat):pop (m+n) x=pop m x+pop n (x/2^m):=by
 induction m generalizing x with
 |zero=>simp[pop]
 |succ m ih=>
  rw[show m+1+n=(m+n)+1 from by omega];show x%2+pop (m+n) (x/2)=x%2+pop m (x/2)+_;rw[ih,Nat.div_div_eq_div_mul,show 2*2^m=2^(m+1) from by rw[Nat.pow_succ,Nat.mul_comm],Nat.add_assoc]
theorem Uv (m x:Nat):pop m x=pop m (x%2^m):=by
 induction m generalizing x with
 |zero=>rfl
 |succ m ih=>
  show x%2+pop m (x/2)=x%2^(m+1)%2+pop m (x%2^(m+1)/2);rw[ih (x/2),ih (x%2^(m+1)/2),Nat.mod_mod_of_dvd x ⟨2^m,by rw[Nat.pow_succ,Nat.mul_comm]⟩];congr 2;rw[show 2^(m+1)=2*2^m from by rw[Nat.pow_succ,Nat.mul_comm],Nat.mod_mul_right_div_self,Nat.mod_mod]
theorem Bm (m x:Nat):pop m x<=m:=by
 induction m generalizing x with
 |zero=>exact Nat.le_refl _
 |succ m ih=>show x%2+_<=_;have:=ih (x/2);omega
theorem Gd (m x y:Nat):pop m (x&&&y)<=pop m x:=by
 induction m generalizing x y with
 |zero=>exact Nat.le_refl _
 |succ m ih=>
  show(x&&&y)%2+pop m ((x&&&y)/2)<=x%2+pop m (x/2);have h1:=ih (x/2) (y/2);have h2: (x&&&y)/2=x/2&&&y/2:=Nat.and_div_two_pow (n:=1);have h3: (x&&&y)%2=x%2&&&y%2:=Nat.and_mod_two_pow (n:=1);rw[h2,h3];have h4:x%2&&&y%2<=x%2:=Nat.and_le_left;omega
def lane (b:Nat):Nat->Nat
 |0=>0
 |n+1=>256*lane b n+b
def a1 (m v:Nat):Nat:=(v/2&&&m)+(v&&&m)
def a2 (m v:Nat):Nat:=(v/4&&&m)+(v&&&m)
def a3 (m v:Nat):Nat:=(v/16+v)&&&m
theorem G0 (a b c d:Nat) (hb:b<256) (hd:d<256): (256*a+b)&&&(256*c+d)=256*(a&&&c)+(b&&&d):=by
 have h1: ((256*a+b)&&&(256*c+d))/2^8=(256*a+b)/2^8&&&(256*c+d)/2^8:=Nat.and_div_two_pow;have h2: ((256*a+b)&&&(256*c+d))%2^8=(256*a+b)%2^8&&&(256*c+d)%2^8:=Nat.and_mod_two_pow;have e1: (256*a+b)/2^8=a:=by omega
 have e2: (256*c+d)/2^8=c:=by omega
 have eH: (256*a+b)%2^8=b:=by omega
 have iM: (256*c+d)%2^8=d:=by omega
 rw[e1,e2] at h1;rw[eH,iM] at h2;omega
theorem vF:∀q,q<2->∀k,k<128->(q*128+k)&&&0x55=k&&&0x55:=by decide+kernel
theorem cT:∀q,q<4->∀k,k<64->(q*64+k)&&&0x33=k&&&0x33:=by decide+kernel
theorem L0 (n h l:Nat) (hl:l<256):a1 (lane 0x55 (n+1)) (256*h+l)=256*a1 (lane 0x55 n) h+a1 0x55 l:=by
 unfold a1;show((256*h+l)/2&&&(256*lane 0x55 n+0x55))+((256*h+l)&&&(256*lane 0x55 n+0x55))=_;rw[show(256*h+l)/2=256*(h/2)+(h%2*128+l/2) from by omega,G0 _ _ _ _ af ak,G0 _ _ _ _ hl ak,vF _ af _ af];omega
theorem ug (n h l:Nat) (hl:l<256):a2 (lane 0x33 (n+1)) (256*h+l)=256*a2 (lane 0x33 n) h+a2 0x33 l:=by
 unfold a2;show((256*h+l)/4&&&(256*lane 0x33 n+0x33))+((256*h+l)&&&(256*lane 0x33 n+0x33))=_;rw[show(256*h+l)/4=256*(h/4)+(h%4*64+l/4) from by omega,G0 _ _ _ _ af ak,G0 _ _ _ _ hl ak,cT _ af _ af];omega
theorem z1 (n h l:Nat) (hh:h%16<=4) (h1:l/16<=4) (h2:l%16<=4):a3 (lane 0x0f (n+1)) (256*h+l)=256*a3 (lane 0x0f n) h+a3 0x0f l:=by
 unfold a3;show((256*h+l)/16+(256*h+l))&&&(256*lane 0x0f n+0x0f)=_;rw[show(256*h+l)/16+(256*h+l)=256*(h/16+h)+(h%16*16+(l/16+l)) from by omega,G0 _ _ _ _ af ak];have e1:h%16*16+(l/16+l)&&&0x0f=(h%16*16+(l/16+l))%16:=Nat.and_two_pow_sub_one_eq_mod _ 4;have e2: (l/16+l)&&&0x0f=(l/16+l)%16:=Nat.and_two_pow_sub_one_eq_mod _ 4;rw[e1,e2];omega
theorem NI:∀l,l<256->a1 0x55 l<256/\a2 0x33 (a1 0x55 l)/16<=4/\a2 0x33 (a1 0x55 l)%16<=4/\a3 0x0f (a2 0x33 (a1 0x55 l))=pop 8 l:=by decide+kernel
def CV (n v:Nat):Nat:=a2 (lane 0x33 n) (a1 (lane 0x55 n) v)
def zJ (n v:Nat):Nat:=a3 (lane 0x0f n) (CV n v)
theorem Uw (n h l:Nat) (hl:l<256):CV (n+1) (256*h+l)=256*CV n h+a2 0x33 (a1 0x55 l):=by
 unfold CV;rw[L0 _ _ _ hl,ug _ _ _ (NI l hl).1]
theorem vk (n h:Nat):CV n h%16<=4:=by
 cases n with
 |zero=>unfold CV a2;simp[lane]
 |succ n=>
  have e:h=256*(h/256)+h%256:=by omega
  rw[e,Uw _ _ _ af];have:=(NI (h%256) af).2.2.1;omega
theorem Nd (n h l:Nat) (hl:l<256):zJ (n+1) (256*h+l)=256*zJ n h+pop 8 l:=by
 unfold zJ;obtain⟨b1,b2,b3,b4⟩:=NI l hl;rw[Uw _ _ _ hl,z1 _ _ _ (vk n h) b2 b3,b4]
theorem Bn (n v:Nat):zJ (n+1) v=256*zJ n (v/256)+pop 8 (v%256):=by
 have e:v=256*(v/256)+v%256:=by omega
 have:=Nd n (v/256) (v%256) af;rwa [<-e] at this
theorem vh (v:Nat):zJ 0 v=0:=by unfold zJ a3;simp[lane]
theorem CW (a b:Nat) (ha:a<18446744073709551616) (hb:b<18446744073709551616):bitsOf .and .u64 (a:Int) (b:Int)=((a&&&b:Nat):Int):=by
 have h1: ((BitVec.ofInt 64 (a:Int)&&&BitVec.ofInt 64 (b:Int):BitVec 64)).toNat=a&&&b:=by
  rw[BitVec.toNat_and,BitVec.toNat_ofInt,BitVec.toNat_ofInt];congr 1<;>omega
 have h2:a&&&b<=a:=Nat.and_le_left;show IntKind.u64.wrap (((BitVec.ofInt 64 (a:Int)&&&BitVec.ofInt 64 (b:Int):BitVec 64)).toNat:Int)=_;rw[h1];apply wrap_u64<;>omega
theorem Zs (a b:Nat) (ha:a<9223372036854775808) (hb:b<9223372036854775808):bitsOf .and .i64 (a:Int) (b:Int)=((a&&&b:Nat):Int):=by
 have h1: ((BitVec.ofInt 64 (a:Int)&&&BitVec.ofInt 64 (b:Int):BitVec 64)).toNat=a&&&b:=by
  rw[BitVec.toNat_and,BitVec.toNat_ofInt,BitVec.toNat_ofInt];congr 1<;>omega
 have h2:a&&&b<=a:=Nat.and_le_left;show IntKind.i64.wrap (((BitVec.ofInt 64 (a:Int)&&&BitVec.ofInt 64 (b:Int):BitVec 64)).toNat:Int)=_;rw[h1];apply wrap_i64<;>omega
theorem CX (a k:Nat) (hk:k<=64): (a:Int).fdiv (2^min (k:Int).toNat IntKind.u64.bits)=((a/2^k:Nat):Int):=by
 rw[show min (k:Int).toNat IntKind.u64.bits=k from by simp[IntKind.bits];omega];rw[Int.fdiv_eq_ediv_of_nonneg _ (by exact Int.pow_nonneg ak)]
 norm_cast
theorem G2 {y t p:Nat} (q:p<=8) (h:y=256*t+p):y/256=t:=by omega
theorem p5 {y t1 t2 t3 jF p1 p2:Nat} (q0:jF<=8) (q1:p1<=8) (q2:p2<=8) (h:y=256*t1+jF) (h1:t1=256*t2+p1) (h2:t2=256*t3+p2): (y+t1)/65536=t2+t3:=by
 have:y+t1=65536*(t2+t3)+(256*(p1+p2)+(jF+p1)):=by omega
 rw[this];have h3:256*(p1+p2)+(jF+p1)<65536:=by omega
 clear this h h1 h2;generalize 256*(p1+p2)+(jF+p1)=z at*;omega
theorem kA {T Km Kn Ko Kq:Nat} (h0:Km<=32) (h1:Kn<=32) (h2:Ko<=32) (h3:Kq<=32): (4294967296*T+(Km+256*Kn+65536*Ko+16777216*Kq))/4294967296=T:=by
 have h:Km+256*Kn+65536*Ko+16777216*Kq<4294967296:=by omega
 generalize Km+256*Kn+65536*Ko+16777216*Kq=z at*;clear h0 h1 h2 h3;omega
theorem kB {P K:Nat} (h:P<=64): (P+128*K)%128=P:=by omega
theorem o3 {jF p1 p2 p3 wD CY EP wE uO:Nat} (q0:jF<=8) (q1:p1<=8) (q2:p2<=8) (uP:p3<=8) (G1:wD<=8) (Ux:CY<=8) (Uy:EP<=8) (Uz:wE<=8)
  (h:uO=256*(256*(256*(256*(256*(256*(256*(256*0+wE)+EP)+CY)+wD)+p3)+p2)+p1)+jF):
  (uO+uO/256+(uO+uO/256)/65536+(uO+uO/256+(uO+uO/256)/65536)/4294967296)%128=jF+(p1+(p2+(p3+(wD+(CY+(EP+wE)))))):=by
 rw[show 256*0+wE=wE from Nat.zero_add _] at h;obtain⟨t6,h6⟩:∃t,t=256*wE+EP:=⟨_,rfl⟩
 rw[<-h6] at h;obtain⟨t5,h5⟩:∃t,t=256*t6+CY:=⟨_,rfl⟩
 rw[<-h5] at h;obtain⟨t4,h4⟩:∃t,t=256*t5+wD:=⟨_,rfl⟩
 rw[<-h4] at h;obtain⟨t3,h3⟩:∃t,t=256*t4+p3:=⟨_,rfl⟩
 rw[<-h3] at h;obtain⟨t2,h2⟩:∃t,t=256*t3+p2:=⟨_,rfl⟩
 rw[<-h2] at h;obtain⟨t1,h1⟩:∃t,t=256*t2+p1:=⟨_,rfl⟩
 rw[<-h1] at h;rw[G2 q0 h,p5 q0 q1 q2 h h1 h2];have eH:uO+t1+(t2+t3)=4294967296*(t4+t5+t6+wE)+((jF+p1+p2+p3)+256*(p1+p2+p3+wD)+65536*(p2+p3+wD+CY)+16777216*(p3+wD+CY+EP)):=by
  clear q0 q1 q2 uP G1 Ux Uy Uz;subst h;subst h1;subst h2;subst h3;subst h4;subst h5;subst h6;omega
 have iM: (uO+t1+(t2+t3))/4294967296=t4+t5+t6+wE:=by
  rw[eH];exact kA af af af af
 rw[iM];have ER:uO+t1+(t2+t3)+(t4+t5+t6+wE)=(jF+(p1+(p2+(p3+(wD+(CY+(EP+wE)))))))+128*(2*(t1+t2+t3+t4+t5+t6+wE)):=by
  clear q0 q1 q2 uP G1 Ux Uy Uz eH iM;omega
 rw[ER];exact kB (by clear eH iM ER h h1 h2 h3 h4 h5 h6;omega)
theorem ES (a:Nat) (ha:a<18446744073709551616):IntKind.u64.wrap (a:Int)=a:=by apply wrap_u64<;>omega
theorem st1 (v:Nat) (hv:v<18446744073709551616):IntKind.u64.wrap (bitsOf .and .u64 ((v:Int).fdiv (2^min (1:Int).toNat IntKind.u64.bits)) 6148914691236517205+bitsOf .and .u64 (v:Int) 6148914691236517205)=((a1 6148914691236517205 v:Nat):Int)/\a1 6148914691236517205 v<18446744073709551616:=by
 have l1:v/2&&&6148914691236517205<=6148914691236517205:=Nat.and_le_right;have l2:v&&&6148914691236517205<=6148914691236517205:=Nat.and_le_right;have s1: (v:Int).fdiv (2^min (1:Int).toNat IntKind.u64.bits)=((v/2:Nat):Int):=CX v 1 ak;rw[s1,show(6148914691236517205:Int)=((6148914691236517205:Nat):Int) from rfl,CW _ _ af ak,CW _ _ hv ak,<-Int.natCast_add,ES _ af];unfold a1;exact⟨rfl,by omega⟩
theorem st2 (v:Nat) (hv:v<18446744073709551616):IntKind.u64.wrap (bitsOf .and .u64 ((v:Int).fdiv (2^min (2:Int).toNat IntKind.u64.bits)) 3689348814741910323+bitsOf .and .u64 (v:Int) 3689348814741910323)=((a2 3689348814741910323 v:Nat):Int)/\a2 3689348814741910323 v<=7378697629483820646:=by
 have l1:v/4&&&3689348814741910323<=3689348814741910323:=Nat.and_le_right;have l2:v&&&3689348814741910323<=3689348814741910323:=Nat.and_le_right;have s1: (v:Int).fdiv (2^min (2:Int).toNat IntKind.u64.bits)=((v/4:Nat):Int):=CX v 2 ak;rw[s1,show(3689348814741910323:Int)=((3689348814741910323:Nat):Int) from rfl,CW _ _ af ak,CW _ _ hv ak,<-Int.natCast_add,ES _ af];unfold a2;exact⟨rfl,by omega⟩
theorem A1 (v:Nat) (hv:v<=7378697629483820646):bitsOf .and .u64 (IntKind.u64.wrap ((v:Int).fdiv (2^min (4:Int).toNat IntKind.u64.bits)+(v:Int))) 1085102592571150095=((a3 1085102592571150095 v:Nat):Int)/\a3 1085102592571150095 v<=1085102592571150095:=by
 have s1: (v:Int).fdiv (2^min (4:Int).toNat IntKind.u64.bits)=((v/16:Nat):Int):=CX v 4 ak;rw[s1,<-Int.natCast_add,ES _ af,show(1085102592571150095:Int)=((1085102592571150095:Nat):Int) from rfl,CW _ _ af ak];unfold a3;exact⟨rfl,Nat.and_le_right⟩
theorem o9 (v:Nat) (hv:v<=1085102592571150095):IntKind.u64.wrap ((v:Int)+(v:Int).fdiv (2^min (8:Int).toNat IntKind.u64.bits))=((v+v/256:Nat):Int)/\v+v/256<=2170205185142300190:=by
 have s1: (v:Int).fdiv (2^min (8:Int).toNat IntKind.u64.bits)=((v/256:Nat):Int):=CX v 8 ak;rw[s1,<-Int.natCast_add,ES _ af];exact⟨rfl,by omega⟩
theorem o6 (v:Nat) (hv:v<=2170205185142300190):IntKind.u64.wrap ((v:Int)+(v:Int).fdiv (2^min (16:Int).toNat IntKind.u64.bits))=((v+v/65536:Nat):Int)/\v+v/65536<=4340410370284600380:=by
 have s1: (v:Int).fdiv (2^min (16:Int).toNat IntKind.u64.bits)=((v/65536:Nat):Int):=CX v 16 ak;rw[s1,<-Int.natCast_add,ES _ af];exact⟨rfl,by omega⟩
theorem c8 (v:Nat) (hv:v<=4340410370284600380):IntKind.u64.wrap ((v:Int)+(v:Int).fdiv (2^min (32:Int).toNat IntKind.u64.bits))=((v+v/4294967296:Nat):Int)/\v+v/4294967296<=9000000000000000000:=by
 have s1: (v:Int).fdiv (2^min (32:Int).toNat IntKind.u64.bits)=((v/4294967296:Nat):Int):=CX v 32 ak;rw[s1,<-Int.natCast_add,ES _ af];exact⟨rfl,by omega⟩
theorem az (v:Nat) (hv:v<=9000000000000000000):bitsOf .and .i64 (IntKind.i64.wrap (v:Int)) 127=((v%128:Nat):Int):=by
 rw[show IntKind.i64.wrap (v:Int)=(v:Int) from by apply wrap_i64<;>omega,show(127:Int)=((127:Nat):Int) from rfl,Zs _ _ af ak];rw[show v&&&127=v%128 from Nat.and_two_pow_sub_one_eq_mod _ 7]
theorem Zr:lane 0x55 8=6148914691236517205:=by decide+kernel
theorem x3:lane 0x33 8=3689348814741910323:=by decide+kernel
theorem p6:lane 0x0f 8=1085102592571150095:=by decide+kernel
theorem e5 (v:Nat):pop 64 v=pop 8 (v%256)+(pop 8 (v/256%256)+(pop 8 (v/256/256%256)+(pop 8 (v/256/256/256%256)+(pop 8 (v/256/256/256/256%256)+(pop 8 (v/256/256/256/256/256%256)+(pop 8 (v/256/256/256/256/256/256%256)+pop 8 (v/256/256/256/256/256/256/256%256))))))):=by
 have st:∀n x,pop (8+n) x=pop 8 (x%256)+pop n (x/256):=λn x=>by rw[Uu,Uv 8 x]
 have z:∀x,pop 0 x=0:=λ_=>rfl;rw[show(64:Nat)=8+56 from rfl,st,show(56:Nat)=8+48 from rfl,st,show(48:Nat)=8+40 from rfl,st,show(40:Nat)=8+32 from rfl,st,show(32:Nat)=8+24 from rfl,st,show(24:Nat)=8+16 from rfl,st,show pop 16=pop (8+8) from rfl,st,show pop 8 (v/256/256/256/256/256/256/256)=pop 8 (v/256/256/256/256/256/256/256%256) from Uv 8 _]
theorem HB (v:Nat):zJ 8 v=256*(256*(256*(256*(256*(256*(256*(256*0+pop 8 (v/256/256/256/256/256/256/256%256))+pop 8 (v/256/256/256/256/256/256%256))+pop 8 (v/256/256/256/256/256%256))+pop 8 (v/256/256/256/256%256))+pop 8 (v/256/256/256%256))+pop 8 (v/256/256%256))+pop 8 (v/256%256))+pop 8 (v%256):=by
 rw[Bn,Bn,Bn,Bn,Bn,Bn,Bn,Bn,vh]
theorem j0 (v:Nat) (hv:v<18446744073709551616):xU (v:Int)=((pop 64 v:Nat):Int):=by
 obtain⟨e1,b1⟩:=st1 v hv;obtain⟨e2,b2⟩:=st2 _ b1;obtain⟨eH,b3⟩:=A1 _ b2;obtain⟨iM,b4⟩:=o9 _ b3;obtain⟨ER,me⟩:=o6 _ b4;obtain⟨NJ,NK⟩:=c8 _ me;have UA:=az _ NK;have hs:=o3 (Bm 8 _) (Bm 8 _) (Bm 8 _) (Bm 8 _) (Bm 8 _) (Bm 8 _) (Bm 8 _) (Bm 8 _) (HB v);rw[<-e5] at hs;unfold zJ CV at hs;rw[Zr,x3,p6] at hs;rw[hs] at UA;rw[<-UA,<-NJ,<-ER,<-iM,<-eH,<-e2,<-e1];rfl
theorem ep (x:Int) (h:nK x):xU x=pop 64 x.toNat:=by
 obtain⟨h1,h2⟩:=h;have:=j0 x.toNat af;rwa [Int.toNat_of_nonneg h1] at this
def pw (x:j5):Nat:=pop 64 x.n.toNat
def rV (l:List j5):Nat:=(l.map pw).sum
theorem xV.valid {n:Int} {b:Bits} (h:xV n b) (hn:n=64\/n=128):ij b=true:=xR.2 ⟨by rw[h.1];omega,by rw[h.2.1,h.1]⟩
theorem UB {l:List j5} (hu:∀x∈l,nK x.n):∀k,k<=l.length->wC l k=(rV (l.take k):Nat)
 |0,_=>rfl
 |k+1,hk=>by
  have ih:=UB hu k af;have hx:=ep _ (hu _ (List.getElem_mem (show k<l.length by omega)));show wC l k+xU (l.getD k default).n=_;rw[xQ af,ih,hx,List.take_succ_eq_append_getElem af];unfold rV;rw[List.map_append,List.sum_append];simp[pw]
theorem ET {b:Bits} (hv:ij b=true) (hu:∀x∈b.words,nK x.n):gX b=(rV b.words:Nat):=by
 unfold gX;rw[hv,UB hu _ (Nat.le_refl _),List.take_length];rfl
theorem gb {a b:j5} (ha:nK a.n) (hb:nK b.n):pw (jH a b)<=pw a:=by
 unfold pw jH;have e:bitsOf .and .u64 a.n b.n=((a.n.toNat&&&b.n.toNat:Nat):Int):=by
  obtain⟨h1,h2⟩:=ha;obtain⟨h3,h4⟩:=hb;have:=CW a.n.toNat b.n.toNat af af;rwa [Int.toNat_of_nonneg h1,Int.toNat_of_nonneg h3] at this
 show pop 64 (bitsOf .and .u64 a.n b.n).toNat<=_;rw[e,Int.toNat_natCast];exact Gd _ _ _
theorem NL:∀{l m:List j5},(∀x∈l,nK x.n)->(∀x∈m,nK x.n)->rV (List.zipWith jH l m)<=rV l
 |[],_,_,_=>by simp[rV]
 |_::_,[],_,_=>by simp[rV]
 |a::l,b::m,h1,h2=>by
  have ih:=NL (l:=l) (m:=m) (λx hx=>h1 x (by simp[hx])) (λx hx=>h2 x (by simp[hx]));have:=gb (h1 a b_) (h2 b b_);simp only[rV,List.zipWith_cons_cons,List.map_cons,List.sum_cons] at ih⊢;omega
theorem UC {l m:List j5}:∀x∈List.zipWith jH l m,nK x.n:=λx hx=>by
 obtain⟨i,hi,rfl⟩:=List.getElem_of_mem hx;rw[List.getElem_zipWith];exact vn _ _
section
variable {a x c:Bits} {l:List Bits}
end
def zK (b:Bits) (i:Nat):Int:=bitsOf .and .u64 (((b.words.getD ((i:Int)/64).toNat default).n).fdiv (2^min ((i:Int)%64).toNat IntKind.u64.bits)) 1
def qp (b:Bits):Nat->Int
 |0=>0
 |k+1=>qp b k+if zK b k=1 then 1 else 0
theorem UD {b:Bits} {k:Nat} (h:zK b k=1):qp b (k+1)=qp b k+1:=by show _+(if _ then _ else _)=_;rw[if_pos h]
theorem UE {b:Bits} {k:Nat} (h:¬zK b k=1):qp b (k+1)=qp b k:=by show _+(if _ then _ else _)=_;rw[if_neg h];omega
theorem UF (b:Bits):∀k:Nat,0<=qp b k/\qp b k<=k
 |0=>⟨Int.le_refl _,Int.le_refl _⟩
 |k+1=>by
  have:=UF b k;show 0<=qp b k+(if _ then _ else _)/\qp b k+(if _ then _ else _)<=_;split<;>omega
theorem C6 {b:Bits} {i:Nat} (hi:i/64<b.words.length) (hu:∀x∈b.words,nK x.n):zK b i=((b.words[i/64].n.toNat/2^(i%64)%2:Nat):Int):=by
 obtain⟨h1,h2⟩:=hu _ (List.getElem_mem hi);unfold zK;have e1: ((i:Int)/64).toNat=i/64:=by omega
 have e2: ((i:Int)%64)=((i%64:Nat):Int):=by omega
 rw[e1,xQ hi,e2];obtain⟨v,hv⟩:∃v:Nat,b.words[i/64].n=v:=⟨b.words[i/64].n.toNat,by omega⟩
 rw[hv] at h2⊢;rw[CX v (i%64) af,Int.toNat_natCast];have hle:v/2^(i%64)<=v:=Nat.div_le_self _ _;rw[show(1:Int)=((1:Nat):Int) from rfl,CW _ _ af ak];congr 1;exact Nat.and_two_pow_sub_one_eq_mod _ 1
theorem UG {b:Bits} (hu:∀x∈b.words,nK x.n):∀k,k<=64*b.words.length->qp b k=((rV (b.words.take (k/64))+pop (k%64) ((b.words.getD (k/64) default).n.toNat):Nat):Int)
 |0,_=>rfl
 |k+1,hk=>by
  have hi:k/64<b.words.length:=by omega
  have ih:=UG hu k af;have hb:=C6 hi hu;have hstep:qp b (k+1)=qp b k+zK b k:=by
   by_cases h:zK b k=1
   ·rw[UD h,h]
   ·rw[UE h];omega
  rw[xQ hi] at ih;obtain⟨v,hv⟩:∃v,v=b.words[k/64].n.toNat:=⟨_,rfl⟩
  rw[<-hv] at hb ih;have hp:pop (k%64+1) v=pop (k%64) v+v/2^(k%64)%2:=by rw[Uu];rfl
  rw[hstep,ih,hb];rcases Nat.lt_or_ge (k%64+1) 64 with h|h
  ·have e1: (k+1)/64=k/64:=by omega
   have e2: (k+1)%64=k%64+1:=by omega
   rw[e1,e2,xQ hi,<-hv,hp];omega
  ·have e1: (k+1)/64=k/64+1:=by omega
   have e2: (k+1)%64=0:=by omega
   have eH:k%64=63:=by omega
   rw[e1,e2];rw[eH] at hp;rw[List.take_succ_eq_append_getElem hi];unfold rV;rw[List.map_append,List.sum_append];rw[eH];show _=((_+(pw b.words[k/64]+0)+0:Nat):Int)
   unfold pw;rw[<-hv,show pop 64 v=pop 63 v+v/2^63%2 from hp];omega
theorem wm {b:Bits} (hv:ij b=true) (hu:∀x∈b.words,nK x.n):qp b b.len.toNat=(rV b.words:Nat):=by
 have h:=xR.1 hv;have e:b.len.toNat=64*b.words.length:=by omega
 rw[UG hu _ af];have e1:b.len.toNat/64=b.words.length:=by omega
 have e2:b.len.toNat%64=0:=by omega
 rw[e1,e2,List.take_length];rfl
end Go.K
namespace Go.K
structure cN (k:Nat) (c:Nat->Nat->Int) (W:Int) (n:Nat) (u v:Nat->Int) (row:Nat->Nat):Prop where
 bR:n<=k
 G4:∀j,1<=j->j<=k->row j<=n
 inj:∀j j',1<=j->j<=k->1<=j'->j'<=k->row j=row j'->row j≠0->j=j'
 ZG:∀r,1<=r->r<=n->∃j,1<=j/\j<=k/\row j=r
 tight:∀j,1<=j->j<=k->row j≠0->u (row j)+v j=c (row j) j
 NM:∀r j,1<=r->r<=n->1<=j->j<=k->u r+v j<=c r j
 zL:∀j,1<=j->j<=k->v j<=0
 G5:∀j,1<=j->j<=k->row j=0->v j=0
 un:∀r,n<r->r<=k->u r=0
 G6:u 0=0
 NN:∀r,1<=r->r<=n->-W<=u r/\u r<=0
 v0:0<=v 0/\v 0<=n*W
structure EU (k:Nat) (c:Nat->Nat->Int) (W:Int) (n:Nat) (u v:Nat->Int) (row way:Nat->Nat) (cl:Nat->Bool) (rk:Nat->Nat) (T:Nat):Prop where
 bR:n<k
 G7:row 0=n+1
 G4:∀j,1<=j->j<=k->row j<=n
 inj:∀j j',1<=j->j<=k->1<=j'->j'<=k->row j=row j'->row j≠0->j=j'
 ZG:∀r,1<=r->r<=n->∃j,1<=j/\j<=k/\row j=r
 tight:∀j,1<=j->j<=k->row j≠0->u (row j)+v j=c (row j) j
 NM:∀r j,1<=r->r<=n->1<=j->j<=k->u r+v j<=c r j
 zL:∀j,1<=j->j<=k->v j<=0
 G5:∀j,1<=j->j<=k->row j=0->v j=0
 un:∀r,n+1<r->r<=k->u r=0
 G6:u 0=0
 NN:∀r,1<=r->r<=n->-W<=u r
 v0:0<=v 0+u (n+1)/\v 0+u (n+1)<=n*W
 c0:cl 0=true
 ajJ:∀j,1<=j->j<=k->cl j=true->row j≠0
 ajK:∀j,1<=j->j<=k->cl j=true->way j<=k/\cl (way j)=true/\rk (way j)<rk j/\u (row (way j))+v j=c (row (way j)) j
 ajL:∀j,j<=k->cl j=true->rk j<=T
def x4 (k:Nat) (xW:Int) (n:Nat) (u:Nat->Int) (least:Nat->Int) (cl:Nat->Bool):Prop:=
 u (n+1)=0/\∀j,1<=j->j<=k->cl j=false/\least j=xW
def UH (k:Nat) (c:Nat->Nat->Int) (W:Int) (n x:Nat) (u v:Nat->Int) (row way:Nat->Nat) (least:Nat->Int) (cl:Nat->Bool):Prop:=
 (∀j,1<=j->j<=k->u (n+1)+v j<=c (n+1) j)/\-W<=u (n+1)/\
 (∀a j,a<=k->cl a=true->a≠x->1<=j->j<=k->cl j=false->least j<=c (row a) j-u (row a)-v j)/\
 (∀j,1<=j->j<=k->cl j=false->way j<=k/\cl (way j)=true/\least j=c (row (way j)) j-u (row (way j))-v j)
theorem Kr:∀(m n:Nat) (f:Nat->Nat),(∀i,i<m->f i<n)->(∀i i',i<m->i'<m->f i=f i'->i=i')->m<=n
 |0,_,_,_,_=>Nat.zero_le _
 |m+1,0,f,h,_=>by have:=h 0 (Nat.succ_pos _);omega
 |m+1,n+1,f,h,hi=>by
  have:=Kr m n (λi=>if f i=n then f m else f i) (λi hm=>by
   have h1:=h i af;have h2:=h m af;split
   ·rename_i e;have:f m≠n:=λe2=>by have:=hi i m af af (e.trans e2.symm);omega
    omega
   ·omega) (λi i' hm hm' e=>by
   split at e<;>split at e
   ·rename_i e1 e2;exact hi i i' af af (e1.trans e2.symm)
   ·have:=hi m i' af af e;omega
   ·have:=hi i m af af e;omega
   ·exact hi i i' af af e)
  omega
section
variable {k:Nat} {c:Nat->Nat->Int} {W xW:Int} {n at_ T:Nat} {u v u2 v2:Nat->Int} {row way x5:Nat->Nat} {least q4:Nat->Int} {cl:Nat->Bool} {rk:Nat->Nat}
theorem EU.free (h:EU k c W n u v row way cl rk T):∃j,1<=j/\j<=k/\row j=0:=by
 apply Classical.byContradiction;intro hn;have h1:∀j,1<=j->j<=k->row j≠0:=λj a b e=>hn ⟨j,a,b,e⟩;have:=Kr k n (λi=>row (i+1)-1) (λi hi=>by
  have:=h.G4 (i+1) af af;have:=h1 (i+1) af af;omega) (λi i' hi hi' e=>by
  have a1:=h1 (i+1) af af;have a2:=h1 (i'+1) af af;have:=h.inj (i+1) (i'+1) af af af af af a1;omega)
 have:=h.bR;omega
theorem EU.ajM (h:EU k c W n u v row way cl rk T) (hc:∀r j,1<=r->r<=k->1<=j->j<=k->-W<=c r j/\c r j<=0) {x:Nat} (hp:x4 k xW n u least cl\/UH k c W n x u v row way least cl):
  (∀r,r<=k->-W<=u r/\u r<=0)/\(∀j,1<=j->j<=k->-W<=v j/\v j<=0)/\(0<=v 0/\v 0<=(k+1)*W):=by
 obtain⟨EV,f1,f2,f3⟩:=h.free;have fv:=h.G5 EV f1 f2 f3;have hnk:=h.bR;have hW:0<=W:=by have:=hc (n+1) EV af af f1 f2;omega
 have hi:-W<=u (n+1)/\u (n+1)<=0:=by
  rcases hp with⟨h1,_⟩|⟨h1,h2,_⟩
  ·rw[h1];omega
  ·have:=h1 EV f1 f2;have:=hc (n+1) EV af af f1 f2;omega
 have hu:∀r,r<=k->-W<=u r/\u r<=0:=λr hr=>by
  rcases Nat.eq_zero_or_pos r with rfl|h1
  ·rw[h.G6];omega
  ·rcases Nat.lt_trichotomy r (n+1) with h2|rfl|h2
   ·have:=h.NM r EV h1 af f1 f2;have:=hc r EV h1 hr f1 f2;have:=h.NN r h1 af;omega
   ·exact hi
   ·rw[h.un r h2 hr];omega
 refine⟨hu,λj h1 h2=>?_,?_⟩
 ·have h3:=h.zL j h1 h2;by_cases e:row j=0
  ·rw[h.G5 j h1 h2 e];omega
  ·have:=h.tight j h1 h2 e;have hr:=h.G4 j h1 h2;have:=hc (row j) j af af h1 h2;have:=(hu (row j) af).2;omega
 ·have h1:=h.v0;have h2: (n:Int)*W<=k*W:=Int.mul_le_mul_of_nonneg_right af hW;rw[Int.add_mul,Int.one_mul];omega
structure u0 (k:Nat) (c:Nat->Nat->Int) (n next:Nat) (u v:Nat->Int) (row:Nat->Nat) (cl:Nat->Bool) (rk:Nat->Nat) (p:Nat) (row':Nat->Nat):Prop where
 pk:p<=k
 pc:p=next\/cl p=true
 f1:∀j j',j<=k->j'<=k->j≠p->j'≠p->row' j=row' j'->row' j≠0->j=j'
 f2:∀r,1<=r->r<=n+1->∃j,j<=k/\j≠p/\row' j=r
 f3:∀j,1<=j->j<=k->j≠p->row' j≠0->u (row' j)+v j=c (row' j) j
 f4:∀a,a<=k->cl a=true->(p=next\/rk a<rk p)->row' a=row a
 f5:∀j,1<=j->j<=k->j≠p->row' j=0->row j=0
 f6:∀j,j<=k->row' j<=n+1
theorem EU.done (h:EU k c W n u v row way cl rk T) (hc:∀r j,1<=r->r<=k->1<=j->j<=k->-W<=c r j/\c r j<=0) (hp:UH k c W n (k+1) u v row way least cl) {next:Nat} (xX:1<=next) (hn2:next<=k) (hr:row next=0) {row':Nat->Nat}
  (hf:u0 k c n next u v row cl rk 0 row'):cN k c W (n+1) u v row':=by
 have hnk:=h.bR;have fv:=h.G5 next xX hn2 hr
 have uQ:∀r j,1<=r->r<=n+1->1<=j->j<=k->u r+v j<=c r j:=λr j h1 h2 h3 h4=>by
  by_cases e:r=n+1
  ·subst e;exact hp.1 j h3 h4
  ·exact h.NM r j h1 af h3 h4
 refine⟨hnk,λj _ h2=>hf.f6 j h2,λj j' h1 h2 h3 h4 e hne=>hf.f1 j j' h2 h4 af af e hne,λr h1 h2=>?_,λj h1 h2 hne=>hf.f3 j h1 h2 af hne,uQ,h.zL,λj h1 h2 e=>h.G5 j h1 h2 (hf.f5 j h1 h2 af e),h.un,h.G6,λr h1 h2=>⟨?_,?_⟩,?_⟩
 ·obtain⟨j,a,b,e⟩:=hf.f2 r h1 h2;exact⟨j,by omega,a,e⟩
 ·by_cases e:r=n+1
  ·subst e;exact hp.2.1
  ·exact h.NN r h1 af
 ·have:=uQ r next h1 h2 xX hn2
  have:=hc r next h1 af xX hn2
  omega
 ·have h1:=h.v0;have h2:=hp.2.1;have h3:=uQ (n+1) next af af xX hn2
  have h4:=hc (n+1) next af af xX hn2
  have e: ((n+1:Nat):Int)*W=n*W+W:=by rw[Int.natCast_add,Int.add_mul];simp
  rw[e];omega
end
section
variable {N M:Nat} {wt:Nat->Nat->Int} {U V:Nat->Int} {f:Nat->Nat}
end
def r0 (n m:Nat) (J:Nat->Nat->Prop) (must:Nat->Prop):Prop:=
 ∃g:Nat->Nat,(∀i,i<n->must i->g i<m/\J i (g i))/\∀i i',i<n->i'<n->must i->must i'->g i=g i'->i=i'
structure NP (n m:Nat) (J:Nat->Nat->Prop) (pt:Nat->Int):Prop where
 ok:∀j,j<m->pt j= -1\/0<=pt j/\pt j<n/\J (pt j).toNat j
 inj:∀j j',j<m->j'<m->pt j=pt j'->pt j≠-1->j=j'
structure Aug (n m:Nat) (J:Nat->Nat->Prop) (pt:Nat->Int) (lq:Nat->Bool) (i:Nat) (mX:Nat->Int):Prop where
 ok:∀j,j<m->mX j= -1\/0<=mX j/\mX j<n/\J (mX j).toNat j
 new:∃j,j<m/\lq j=false/\mX j=i
 old:∀j,j<m->lq j=true->mX j=pt j
 inj:∀j j',j<m->j'<m->mX j=mX j'->mX j≠-1->j=j'\/mX j=i/\(lq j=true\/lq j'=true)
 keep:∀j,j<m->pt j≠-1->∃j',j'<m/\mX j'=pt j
 rows:∀j,j<m->mX j≠-1->mX j=i\/∃j',j'<m/\pt j'=mX j
structure CZ (m:Nat) (J:Nat->Nat->Prop) (pt:Nat->Int) (lq q8:Nat->Bool):Prop where
 up:∀j,j<m->lq j=true->q8 j=true
 full:∀j,j<m->q8 j=true->lq j=false->pt j≠-1/\∀j',j'<m->J (pt j).toNat j'->q8 j'=true
theorem CZ.refl {m:Nat} {J:Nat->Nat->Prop} {pt:Nat->Int} {lq:Nat->Bool}:CZ m J pt lq lq:=⟨λ_ _ h=>h,λ_ _ h1 h2=>by rw[h1] at h2;cases h2⟩
theorem Aug.free {n m:Nat} {J:Nat->Nat->Prop} {pt mX:Nat->Int} {lq:Nat->Bool} {i j:Nat} (h:NP n m J pt) (hs:∀k,k<m->pt k=i->lq k=true) (hi:i<n) (hj:j<m) (hsj:lq j=false) (hJ:J i j) (hf:pt j= -1)
  (h1:mX j=i) (h2:∀k,k≠j->mX k=pt k):Aug n m J pt lq i mX:=by
 refine⟨λk hk=>?_,⟨j,hj,hsj,h1⟩,λk hk hsk=>h2 k (λe=>by subst e;rw[hsj] at hsk;cases hsk),λk k' hk hk' e hne=>?_,λk hk hne=>?_,λk hk hne=>?_⟩
 ·by_cases e:k=j
  ·subst e;rw[h1];exact .inr ⟨by omega,by omega,by simpa using hJ⟩
  ·rw[h2 k e];exact h.ok k hk
 ·by_cases e1:k=j
  ·by_cases e2:k'=j
   ·exact .inl (e1.trans e2.symm)
   ·subst e1;rw[h1,h2 k' e2] at e;exact .inr ⟨h1,.inr (hs k' hk' e.symm)⟩
  ·by_cases e2:k'=j
   ·subst e2;rw[h1,h2 k e1] at e;exact .inr ⟨by rw[h2 k e1,e],.inl (hs k hk e)⟩
   ·rw[h2 k e1,h2 k' e2] at e;rw[h2 k e1] at hne;exact .inl (h.inj k k' hk hk' e hne)
 ·exact⟨k,hk,h2 k (λe=>by subst e;exact hne hf)⟩
 ·by_cases e:k=j
  ·subst e;exact .inl h1
  ·rw[h2 k e];exact .inr ⟨k,hk,rfl⟩
theorem Aug.step {n m:Nat} {J:Nat->Nat->Prop} {pt NQ mX:Nat->Int} {lq NR:Nat->Bool} {i j r:Nat} (h:NP n m J pt) (hs:∀k,k<m->pt k=i->lq k=true) (hi:i<n) (hj:j<m) (hsj:lq j=false) (hJ:J i j) (hr:pt j=r)
  (uR:∀k,k<m->lq k=true->NR k=true) (hs1:NR j=true) (ha:Aug n m J pt NR r NQ) (h1:mX j=i) (h2:∀k,k≠j->mX k=NQ k):Aug n m J pt lq i mX:=by
 have hir: (i:Int)≠r:=λe=>by have:=hs j hj (by rw[hr,e]);rw[hsj] at this;cases this
 obtain⟨jn,n1,n2,n3⟩:=ha.new;have hjn:jn≠j:=λe=>by subst e;rw[hs1] at n2;cases n2
 have kU:∀k,k<m->k≠j->NQ k=i->lq k=true:=λk hk hkj e=>by
  rcases ha.rows k hk af with e1|⟨k',hk',e1⟩
  ·omega
  ·have mY:=hs k' hk' af;have:=ha.old k' hk' (uR k' hk' mY);rcases ha.inj k k' hk hk' af af with e2|⟨e2,_⟩
   ·subst e2;exact mY
   ·omega
 refine⟨λk hk=>?_,⟨j,hj,hsj,h1⟩,λk hk hsk=>?_,λk k' hk hk' e hne=>?_,λk hk hne=>?_,λk hk hne=>?_⟩
 ·by_cases e:k=j
  ·subst e;rw[h1];exact .inr ⟨by omega,by omega,by simpa using hJ⟩
  ·rw[h2 k e];exact ha.ok k hk
 ·have e:k≠j:=λe=>by subst e;rw[hsj] at hsk;cases hsk
  rw[h2 k e];exact ha.old k hk (uR k hk hsk)
 ·by_cases e1:k=j
  ·by_cases e2:k'=j
   ·exact .inl (e1.trans e2.symm)
   ·subst e1;rw[h1,h2 k' e2] at e;exact .inr ⟨h1,.inr (kU k' hk' e2 e.symm)⟩
  ·by_cases e2:k'=j
   ·subst e2;rw[h1,h2 k e1] at e;exact .inr ⟨by rw[h2 k e1,e],.inl (kU k hk e1 e)⟩
   ·rw[h2 k e1,h2 k' e2] at e;rw[h2 k e1] at hne⊢;rcases ha.inj k k' hk hk' e hne with eH|⟨eH,iM⟩
    · exact .inl eH
    ·
      exfalso;rcases iM with iM|iM
      ·have:=ha.old k hk iM;exact e1 (h.inj k j hk hj af af)
      ·have:=ha.old k' hk' iM;exact e2 (h.inj k' j hk' hj af af)
 ·by_cases e:k=j
  ·subst e;exact⟨jn,n1,by rw[h2 jn hjn,n3,hr]⟩
  ·obtain⟨k',hk',e1⟩:=ha.keep k hk hne;by_cases e2:k'=j
   ·subst e2;have:=ha.old k' hk' hs1;exact absurd (h.inj k k' hk hk' af hne) e
   ·exact⟨k',hk',by rw[h2 k' e2];exact e1⟩
 ·by_cases e:k=j
  ·subst e;exact .inl h1
  ·rw[h2 k e] at hne⊢;rcases ha.rows k hk hne with e1|e1
   ·exact .inr ⟨j,hj,by omega⟩
   ·exact .inr e1
structure Has (n m:Nat) (J:Nat->Nat->Prop) (must:Nat->Prop) (t:Nat) (pt:Nat->Int):Prop where
 base:NP n m J pt
 all:∀i,i<t->must i->∃j,j<m/\pt j=i
 only:∀j,j<m->pt j≠-1->must (pt j).toNat/\pt j<t
theorem Has.skip {n m t:Nat} {J:Nat->Nat->Prop} {must:Nat->Prop} {pt:Nat->Int} (h:Has n m J must t pt) (hm:¬must t):Has n m J must (t+1) pt:=
 ⟨h.base,λi hi Ks=>by
  by_cases e:i=t
  ·subst e;exact absurd Ks hm
  ·exact h.all i af Ks,λj hj hne=>⟨(h.only j hj hne).1,by have:=(h.only j hj hne).2;omega⟩⟩
theorem Has.none {n m t:Nat} {J:Nat->Nat->Prop} {must:Nat->Prop} {pt:Nat->Int} {lq q8:Nat->Bool} (h:Has n m J must t pt) (ht:t<n) (hm:must t) (uR:∀j,j<m->lq j=false) (hf:CZ m J pt lq q8) (hr:∀j,j<m->J t j->q8 j=true):¬r0 n m J must:=by
 rintro⟨g,g1,g2⟩
 classical
 have hrow:∀j,j<m->q8 j=true->0<=pt j/\(pt j).toNat<t/\must (pt j).toNat/\∀j',j'<m->J (pt j).toNat j'->q8 j'=true:=λj hj hs=>by
  obtain⟨a,b⟩:=hf.full j hj hs (uR j hj);have h1:=h.only j hj a;have h2:=h.base.ok j hj;exact⟨by omega,by omega,h1.1,b⟩
 have hg:∀j,j<m->q8 j=true->g (pt j).toNat<m/\q8 (g (pt j).toNat)=true:=λj hj hs=>by
  obtain⟨a,b,c,d⟩:=hrow j hj hs;have:=g1 _ af c;exact⟨this.1,d _ this.1 this.2⟩
 have ht1:=g1 t ht hm;have ht2:=hr _ ht1.1 ht1.2;have:=Kr (m+1) m (λj=>if j=m then g t else if q8 j=true then g (pt j).toNat else j) (λj hj=>by
  split
  ·exact ht1.1
  ·split
   ·exact(hg j af (by assumption)).1
   ·omega) (λj j' hj hj' e=>by
  have sep:∀k k',k<m->k'<m->q8 k=true->¬q8 k'=true->g (pt k).toNat≠k':=λk k' hk hk' h1 h2 e=>h2 (by rw[<-e];exact(hg k hk h1).2);have same:∀k k',k<m->k'<m->q8 k=true->q8 k'=true->g (pt k).toNat=g (pt k').toNat->k=k':=λk k' hk hk' h1 h2 e=>by
   obtain⟨a1,a2,a3,_⟩:=hrow k hk h1;obtain⟨b1,b2,b3,_⟩:=hrow k' hk' h2;have:=g2 _ _ af af a3 b3 e;exact h.base.inj k k' hk hk' af af
  have top:∀k,k<m->q8 k=true->g t≠g (pt k).toNat:=λk hk h1 e=>by
   obtain⟨a1,a2,a3,_⟩:=hrow k hk h1;have:=g2 _ _ ht af hm a3 e;omega
  by_cases e1:j=m
  ·by_cases e2:j'=m
   ·omega
   ·rw[if_pos e1,if_neg e2] at e;split at e
    ·exact absurd e (top j' af (by assumption))
    ·rename_i hs;exact absurd (by rw[<-e];exact ht2) hs
  ·rw[if_neg e1] at e;by_cases e2:j'=m
   ·rw[if_pos e2] at e;split at e
    ·exact absurd e.symm (top j af (by assumption))
    ·rename_i hs;exact absurd (by rw[e];exact ht2) hs
   ·rw[if_neg e2] at e;split at e
    ·split at e
     ·exact same j j' af af (by assumption) (by assumption) e
     ·exact absurd e (sep j j' af af (by assumption) (by assumption))
    ·split at e
     ·exact absurd e.symm (sep j' j af af (by assumption) (by assumption))
     ·exact e)
 omega
end Go.K
namespace Go.K
open bn
theorem lK {α:Type} {l:List α} {i:Nat} {d:α} (h:i<l.length):l.getD i d=l[i]:=by rw[List.getD_eq_getElem?_getD,List.getElem?_eq_getElem h];rfl
abbrev RB (l:List Bool):Nat->Bool:=λj=>l.getD j false
section
variable {P:Program} {N:Nat} {env:Env} {w:World} {x y:Operand} {t u:TypeId} {m n:Int}
end
def NS (c:Nat->Nat->Int) (u v:Nat->Int) (i q:Nat):Int:=c i q-u i-v q
def b9 (c:Nat->Nat->Int) (u v least:Nat->Int) (i q:Nat):Int:=if NS c u v i q<least q then NS c u v i q else least q
structure NT (c:Nat->Nat->Int) (u v:Nat->Int) (cl:Nat->Bool) (least:Nat->Int) (way:Nat->Nat) (i a k j:Nat) (Kt:Nat->Int) (G8:Nat->Nat):Prop where
 l:∀q,1<=q->q<=k->cl q=false->Kt q=if q<j then b9 c u v least i q else least q
 w:∀q,1<=q->q<=k->cl q=false->G8 q=if q<j then(if NS c u v i q<least q then a else way q) else way q
 wc:∀q,1<=q->q<=k->cl q=true->G8 q=way q
def EW (cl:Nat->Bool) (l1:Nat->Int) (xW:Int) (j:Nat) (delta:Int) (next:Nat):Prop:=
 (next=0/\delta=xW/\∀q,1<=q->q<j->cl q=true)\/(1<=next/\next<j/\cl next=false/\delta=l1 next/\∀q,1<=q->q<j->cl q=false->delta<=l1 q)
section
variable {c:Nat->Nat->Int} {u v:Nat->Int} {cl:Nat->Bool} {least Kt q4:Nat->Int} {way G8 x5:Nat->Nat} {i a k j:Nat} {l1:Nat->Int} {xW delta:Int} {next:Nat}
theorem NT.skip (h:NT c u v cl least way i a k j Kt G8) (hc:cl j=true):NT c u v cl least way i a k (j+1) Kt G8:=
 have e:∀q,cl q=false->(q<j+1↔q<j):=λq hq=>⟨λh=>by
  rcases Nat.lt_or_eq_of_le (Nat.le_of_lt_succ h) with h1|h1
  ·exact h1
  ·subst h1;exact absurd (hc.symm.trans hq) ak,λh=>by omega⟩
 ⟨λq h1 h2 h3=>by simp only[e q h3];exact h.l q h1 h2 h3,λq h1 h2 h3=>by simp only[e q h3];exact h.w q h1 h2 h3,h.wc⟩
theorem EW.skip (h:EW cl l1 xW j delta next) (hc:cl j=true):EW cl l1 xW (j+1) delta next:=by
 rcases h with⟨h1,h2,h3⟩|⟨h1,h2,h3,h4,h5⟩
 ·refine .inl ⟨h1,h2,λq a b=>?_⟩;by_cases e:q=j
  ·subst e;exact hc
  ·exact h3 q a af
 ·refine .inr ⟨h1,by omega,h3,h4,λq a b c=>?_⟩;by_cases e:q=j
  ·subst e;rw[hc] at c;cases c
  ·exact h5 q a af c
theorem EW.take (h:EW cl l1 xW j delta next) (hj:1<=j) (hc:cl j=false) (hlt:l1 j<delta):EW cl l1 xW (j+1) (l1 j) j:=by
 refine .inr ⟨hj,by omega,hc,rfl,λq a b c=>?_⟩;by_cases e:q=j
 ·subst e;exact Int.le_refl _
 ·rcases h with⟨h1,h2,h3⟩|⟨h1,h2,h3,h4,h5⟩
  ·have:=h3 q a af;rw[this] at c;cases c
  ·have:=h5 q a af c;omega
variable {row:Nat->Nat} {u' v' u2 v2 l l' l2:Nat->Int}
end
structure Edge where
 a:Int
 b:Int
 w:Int
 deriving DecidableEq
instance:bn Edge:=bn.via (λx:Edge=>(x.a,(x.b,x.w)))
instance:Inhabited Edge:=⟨⟨0,0,0⟩⟩
section
variable {w:World} {M:Nat->Prop} {b o:Nat} {v:Value}
end
structure NU where
 n:Int
 m:Int
 U:List Int
 V:List Int
 tot:Int
 edge:List (List Bool)
instance:bn NU:=bn.via (λx:NU=>(x.n,(x.m,(x.U,(x.V,(x.tot,x.edge))))))
section
variable {w w' w₀:World} {M:Nat->Prop} {b o:Nat} {v:Value} {x:NU}
end
section
variable {n m:Nat} {wt:Nat->Nat->Int} {W:Int}
end
section
variable {P:Program} {N:Nat} {env:Env} {y z:Operand} {t e:TypeId} {b o o' n len:Nat} {k:IntKind} {i:Int} {w:World}
theorem vg (hu:P.underlying t=some (.array len e)) (hn:gN P e=some n) (hy:ev env y=some (.pointer (some ⟨b,o,none⟩))) (hz:ev env z=some (.int k i))
  (h0:0<=i) (h1:i<len) (ho':o'=o+i.toNat*n):cE P N env (.indexAddr t y z) w (.pointer (some ⟨b,o',none⟩)):=mk' λρ hρ fB ho=>by
 subst ho';unfold execOp;rw[ho];simp only[hρ _ _ hy,hρ _ _ hz];simp[go_sem,Instr.indexAt,run_underlying hu,asIntOf,mW hn,h0,h1,rN,Instr.sureAddr]
end
section
variable {α:Type} {ys zs us:List α} {σ d_:Nat->Nat} {a b i j n:Nat}
structure fO (ys:List α) (σ:Nat->Nat) (zs:List α):Prop where
 len:zs.length=ys.length
 at_:∀i,i<ys.length->σ i<ys.length/\zs[i]?=ys[σ i]?
theorem fO.id (ys:List α):fO ys (λi=>i) ys:=⟨rfl,λi h=>⟨h,rfl⟩⟩
theorem fO.get (h:fO ys σ zs) (hi:i<ys.length):zs[i]'(by rw[h.len];exact hi)=ys[σ i]'(h.at_ i hi).1:=by
 have:=(h.at_ i hi).2;rw[List.getElem?_eq_getElem (by rw[h.len];exact hi),List.getElem?_eq_getElem (h.at_ i hi).1] at this;exact Option.some.inj this
def nL (σ:Nat->Nat) (i j:Nat):Nat->Nat:=λk=>if k=i then σ j else if k=j then σ i else σ k
theorem fO.swap (h:fO ys σ zs) (hi:i<ys.length) (hj:j<ys.length) {x y:α} (hx:x=zs[j]'(by rw[h.len];exact hj)) (hy:y=zs[i]'(by rw[h.len];exact hi)):fO ys (nL σ i j) ((zs.set i x).set j y):=by
 subst hx hy;have hl:=h.len;refine⟨by simp[h.len],λk hk=>?_⟩;have hki:=h.at_ i hi;have hkj:=h.at_ j hj;have hkk:=h.at_ k hk;unfold nL;rw[List.getElem?_set,List.getElem?_set];by_cases e1:k=i
 ·subst e1;rw[if_pos rfl];refine⟨hkj.1,?_⟩;by_cases e2:j=k
  ·subst e2;simp[hl,hk,<-hkk.2,List.getElem?_eq_getElem (show j<zs.length by omega)]
  ·rw[if_neg e2];simp[hl,hk,<-hkj.2,List.getElem?_eq_getElem (show j<zs.length by omega)]
 ·rw[if_neg e1];by_cases e2:k=j
  ·subst e2;rw[if_pos rfl];refine⟨hki.1,?_⟩;simp[hl,hk,<-hki.2,List.getElem?_eq_getElem (show i<zs.length by omega)]
  ·rw[if_neg e2];refine⟨hkk.1,?_⟩;simp[Ne.symm e1,Ne.symm e2,hkk.2]
structure fV (σ:Nat->Nat) (a b:Nat):Prop where
 out:∀i,¬(a<=i/\i<b)->σ i=i
 mc:∀i,a<=i->i<b->a<=σ i/\σ i<b
 inj:∀i j,σ i=σ j->i=j
theorem fV.id (a b:Nat):fV (λi=>i) a b:=⟨λ_ _=>rfl,λ_ h1 h2=>⟨h1,h2⟩,λ_ _ h=>h⟩
theorem fV.swap (h:fV σ a b) (hi:a<=i/\i<b) (hj:a<=j/\j<b):fV (nL σ i j) a b:=by
 refine⟨λk hk=>?_,λk h1 h2=>?_,λk k' e=>?_⟩
 ·unfold nL;rw[if_neg (by intro e;subst e;exact hk hi),if_neg (by intro e;subst e;exact hk hj)];exact h.out k hk
 ·unfold nL;split
  ·exact h.mc j hj.1 hj.2
  ·split
   ·exact h.mc i hi.1 hi.2
   ·exact h.mc k h1 h2
 ·unfold nL at e;by_cases e1:k=i
  ·by_cases e2:k'=i
   ·omega
   ·rw[if_pos e1,if_neg e2] at e;by_cases eH:k'=j
    ·rw[if_pos eH] at e;have:=h.inj _ _ e;omega
    ·rw[if_neg eH] at e;have:=h.inj _ _ e;omega
  ·rw[if_neg e1] at e;by_cases iM:k=j
   ·rw[if_pos iM] at e;by_cases e2:k'=i
    ·rw[if_pos e2] at e;have:=h.inj _ _ e;omega
    ·rw[if_neg e2] at e;by_cases eH:k'=j
     ·omega
     ·rw[if_neg eH] at e;have:=h.inj _ _ e;omega
   ·rw[if_neg iM] at e;by_cases e2:k'=i
    ·rw[if_pos e2] at e;have:=h.inj _ _ e;omega
    ·rw[if_neg e2] at e;by_cases eH:k'=j
     ·rw[if_pos eH] at e;have:=h.inj _ _ e;omega
     ·rw[if_neg eH] at e;exact h.inj _ _ e
theorem fV.mono {a' b':Nat} (h:fV σ a b) (ha:a'<=a) (hb:b<=b'):fV σ a' b':=⟨λi hi=>h.out i (λe=>hi ⟨by omega,by omega⟩),λi h1 h2=>by
 by_cases e:a<=i/\i<b
 ·have:=h.mc i e.1 e.2;omega
 ·rw[h.out i e];exact⟨h1,h2⟩,h.inj⟩
theorem fV.comp {d_:Nat->Nat} (h:fV σ a b) (h':fV d_ a b):fV (λi=>σ (d_ i)) a b:=⟨λi hi=>by show σ (d_ i)=i;rw[h'.out i hi,h.out i hi],λi h1 h2=>by
 have:=h'.mc i h1 h2;exact h.mc _ this.1 this.2,λi j e=>h'.inj _ _ (h.inj _ _ e)⟩
def jV (T:Nat->Nat->Prop) (σ:Nat->Nat) (a b:Nat):Prop:=∀i j,a<=i->i<j->j<b->T (σ i) (σ j)
def e9 (c:α->α->Int) (ys:List α) (i j:Nat):Prop:=∃(hi:i<ys.length) (hj:j<ys.length),c ys[i] ys[j]<0\/c ys[i] ys[j]=0/\i<j
structure mZ (c:α->α->Int) (P:α->Prop):Prop where
 anti:∀x y,P x->P y->(c x y<0↔0<c y x)
 trans:∀x y z,P x->P y->P z->c x y<=0->c y z<=0->c x z<=0
theorem mZ.eq {c:α->α->Int} {P:α->Prop} (h:mZ c P) {x y:α} (hx:P x) (hy:P y):c x y=0↔c y x=0:=by
 have h1:=h.anti x y hx hy;have h2:=h.anti y x hy hx;omega
theorem mZ.UI {c:α->α->Int} {P:α->Prop} (h:mZ c P) {x y z:α} (hx:P x) (hy:P y) (hz:P z) (h1:c x y<0) (h2:c y z<=0):c x z<0:=by
 have h3:=h.trans x y z hx hy hz af h2;have h4:=h.anti x y hx hy;apply Classical.byContradiction;intro hn;have e:c x z=0:=by omega
 have e2:=(h.eq hx hz).1 e;have:=h.trans y z x hy hz hx h2 af;omega
theorem mZ.Cb {c:α->α->Int} {P:α->Prop} (h:mZ c P) {x y z:α} (hx:P x) (hy:P y) (hz:P z) (h1:c x y<=0) (h2:c y z<0):c x z<0:=by
 have h3:=h.trans x y z hx hy hz h1 af;have h4:=h.anti y z hy hz;apply Classical.byContradiction;intro hn;have e:c x z=0:=by omega
 have e2:=(h.eq hx hz).1 e;have:=h.trans z x y hz hx hy af h1;omega
theorem NV {c:α->α->Int} {P:α->Prop} (h:mZ c P) (hP:∀x∈ys,P x) {i j k:Nat} (h1:e9 c ys i j) (h2:e9 c ys j k):e9 c ys i k:=by
 obtain⟨hi,hj,h1⟩:=h1;obtain⟨_,hk,h2⟩:=h2;have p1:=hP _ (List.getElem_mem hi);have p2:=hP _ (List.getElem_mem hj);have p3:=hP _ (List.getElem_mem hk);refine⟨hi,hk,?_⟩;rcases h1 with h1|⟨h1,e1⟩
 ·exact .inl (h.UI p1 p2 p3 h1 (by rcases h2 with h2|h2<;>omega))
 ·rcases h2 with h2|⟨h2,e2⟩
  ·exact .inl (h.Cb p1 p2 p3 af h2)
  ·refine .inr ⟨?_,by omega⟩;have a:=h.trans _ _ _ p1 p2 p3 af af;have b:=h.trans _ _ _ p3 p2 p1 (by rw[(h.eq p3 p2).2 h2];omega) (by rw[(h.eq p2 p1).2 h1];omega);have:=h.anti _ _ p1 p3;have:=h.anti _ _ p3 p1;omega
theorem NW {c:α->α->Int} {P:α->Prop} (h:mZ c P) (hP:∀x∈ys,P x) {i j:Nat} (hi:i<ys.length) (hj:j<ys.length) (hne:i≠j):e9 c ys i j\/e9 c ys j i:=by
 have p1:=hP _ (List.getElem_mem hi);have p2:=hP _ (List.getElem_mem hj);have h1:=h.anti _ _ p1 p2;have h2:=h.anti _ _ p2 p1;by_cases e1:c ys[i] ys[j]<0
 ·exact .inl ⟨hi,hj,.inl e1⟩
 ·by_cases e2:c ys[j] ys[i]<0
  ·exact .inr ⟨hj,hi,.inl e2⟩
  ·have eH:c ys[i] ys[j]=0:=by omega
   have iM:c ys[j] ys[i]=0:=by omega
   rcases Nat.lt_or_gt_of_ne hne with h|h
   ·exact .inl ⟨hi,hj,.inr ⟨eH,h⟩⟩
   ·exact .inr ⟨hj,hi,.inr ⟨iM,h⟩⟩
theorem UJ {c:α->α->Int} {P:α->Prop} (h:mZ c P) (hP:∀x∈ys,P x) {i j:Nat} (h1:e9 c ys i j) (h2:e9 c ys j i):False:=by
 obtain⟨hi,hj,h1⟩:=h1;obtain⟨_,_,h2⟩:=h2;have p1:=hP _ (List.getElem_mem hi);have p2:=hP _ (List.getElem_mem hj);have:=h.anti _ _ p1 p2;have:=h.anti _ _ p2 p1;rcases h1 with h1|h1<;>rcases h2 with h2|h2<;>omega
theorem sv {c:α->α->Int} {P:α->Prop} (h:mZ c P) (hP:∀x∈ys,P x) {i j:Nat} (hi:i<ys.length) (hj:j<ys.length) (hij:i<j):e9 c ys j i↔c ys[j] ys[i]<0:=by
 constructor
 ·rintro⟨_,_,h1|h1⟩
  ·exact h1
  ·omega
 ·intro h1;exact⟨hj,hi,.inl h1⟩
structure tI (c:α->α->Int) (ys:List α) (σ:Nat->Nat) (a i j:Nat):Prop where
 within:fV σ a (i+1)
 le:a<=j/\j<=i
 EX:σ j=i
 jw:∀p q,a<=p->p<q->q<=i->p≠j->q≠j->e9 c ys (σ p) (σ q)
 UK:∀q,j<q->q<=i->e9 c ys i (σ q)
theorem tI.start {c:α->α->Int} (h:fV σ a i) (ha:a<=i) (hs:jV (e9 c ys) σ a i):tI c ys σ a i i:=
 ⟨h.mono (Nat.le_refl _) af,⟨ha,Nat.le_refl _⟩,h.out i af,λp q h1 h2 h3 h4 h5=>hs p q h1 h2 af,λq h1 h2=>by omega⟩
theorem tI.step {c:α->α->Int} (h:tI c ys σ a i j) (hj:a<j) (hlt:e9 c ys i (σ (j-1))):tI c ys (nL σ j (j-1)) a i (j-1):=by
 have e0:nL σ j (j-1) (j-1)=i:=by unfold nL;rw[if_neg af,if_pos rfl];exact h.EX
 have e1:nL σ j (j-1) j=σ (j-1):=by unfold nL;rw[if_pos rfl]
 have e2:∀k,k≠j->k≠j-1->nL σ j (j-1) k=σ k:=λk h1 h2=>by unfold nL;rw[if_neg h1,if_neg h2]
 have hle:=h.le;refine⟨h.within.swap ⟨by omega,by omega⟩ ⟨by omega,by omega⟩,⟨by omega,by omega⟩,e0,λp q h1 h2 h3 h4 h5=>?_,λq h1 h2=>?_⟩
 ·by_cases EY:p=j
  ·subst EY;rw[e1,e2 q af af];exact h.jw (p-1) q af af h3 af af
  ·by_cases eq:q=j
   ·subst eq;rw[e1,e2 p af af];exact h.jw p (q-1) h1 af af af af
   ·rw[e2 p EY h4,e2 q eq h5];exact h.jw p q h1 h2 h3 EY eq
 ·by_cases eq:q=j
  ·subst eq;rw[e1];exact hlt
  ·rw[e2 q eq af];exact h.UK q af h2
theorem tI.done {c:α->α->Int} {P:α->Prop} (hc:mZ c P) (hP:∀x∈ys,P x) (h:tI c ys σ a i j) (hi:i<ys.length) (hj:j=a\/¬e9 c ys i (σ (j-1))):fV σ a (i+1)/\jV (e9 c ys) σ a (i+1):=by
 have hle:=h.le;refine⟨h.within,λp q h1 h2 h3=>?_⟩;by_cases EY:p=j
 ·subst EY;rw[h.EX];exact h.UK q h2 af
 ·by_cases eq:q=j
  ·subst eq;rw[h.EX];rcases hj with hj|hj
   ·omega
   ·have hw:=h.within.mc (q-1) af af;have hne:σ (q-1)≠i:=λe=>by have:=h.within.inj (q-1) q (by rw[e,h.EX]);omega
    have hl:e9 c ys (σ (q-1)) i:=(NW hc hP af hi hne).resolve_right hj;by_cases e:p=q-1
    ·rw[e];exact hl
    ·exact NV hc hP (h.jw p (q-1) h1 af af af af) hl
  ·exact h.jw p q h1 h2 af EY eq
end
inductive uS where
 |run (L:List (Nat×Bool))
 |one (A:List Nat) (i:Nat) (t:uS)
 |fork (A:List Nat) (i:Nat) (t:uS) (i':Nat) (t':uS)
 |NY (A:List Nat) (i:Nat) (t:uS) (i':Nat) (t':uS) (i2:Nat) (t2:uS)
def pP (Q:Exit->Act->World->Prop) (K:Act->World->Prop):Exit->Act->World->Prop
 | .normal,a,w=>K a w
 |e,a,w=>Q e a w
def qq (P:Program) (ops:Array Oper) (S:World->Prop) (Q:Exit->Act->World->Prop):uS->Act->World->Prop
 | .run L,a,w=>kC P ops S Q L a w
 | .one A i t,a,w=>kC P ops S (pP Q λa w=>wpOp P ops Q i (λa' w'=>S w'/\qq P ops S Q t a' w') a w) (A.map λj=>(j,true)) a w
 | .fork A i t i' t',a,w=>kC P ops S (pP Q λa w=>wpOp P ops Q i (λa' w'=>S w'/\qq P ops S Q t a' w') a w/\wpOp P ops Q i' (λa' w'=>S w'/\qq P ops S Q t' a' w') a w) (A.map λj=>(j,true)) a w
 | .NY A i t i' t' i2 t2,a,w=>kC P ops S (pP Q λa w=>wpOp P ops Q i (λa' w'=>S w'/\qq P ops S Q t a' w') a w/\wpOp P ops Q i' (λa' w'=>S w'/\qq P ops S Q t' a' w') a w/\wpOp P ops Q i2 (λa' w'=>S w'/\qq P ops S Q t2 a' w') a w) (A.map λj=>(j,true)) a w
def Bo (ops:Array Oper) (dh:Nat) (k:Nat->Array Bool->Bool):Nat->Array Bool->List Nat->Bool
 |n,listed,[]=>k n listed
 |0,_,_::_=>false
 |n+1,listed,j::A=>!Nat.beq j dh&&(Nat.ble ops.size dh||needs ops 8 dh j)&&Region.free .any ops listed j&&(Region.ready .any ops listed).contains j&&Bo ops dh k n (listed.setIfInBounds j true) A
def Bp (ops:Array Oper) (dh:Nat):uS->Nat->Array Bool->Bool
 | .run L,n,listed=>vU ops dh n listed L
 | .one A i t,n,listed=>Bo ops dh (λn l=>match n with|0=>false|n+1=>(Region.ready .any ops l==[i])&&Bp ops dh t n (l.setIfInBounds i true)) n listed A
 | .fork A i t i' t',n,listed=>Bo ops dh (λn l=>match n with
  |0=>false
  |n+1=>((Region.ready .any ops l==[i,i'])||(Region.ready .any ops l==[i',i]))&&Bp ops dh t n (l.setIfInBounds i true)&&Bp ops dh t' n (l.setIfInBounds i' true)) n listed A
 | .NY A i t i' t' i2 t2,n,listed=>Bo ops dh (λn l=>match n with
  |0=>false
  |n+1=>(Region.ready .any ops l).all (λj=>Nat.beq j i||Nat.beq j i'||Nat.beq j i2)&&(Region.ready .any ops l).contains i&&(Region.ready .any ops l).contains i'&&(Region.ready .any ops l).contains i2&&Bp ops dh t n (l.setIfInBounds i true)&&Bp ops dh t' n (l.setIfInBounds i' true)&&Bp ops dh t2 n (l.setIfInBounds i2 true)) n listed A
section
variable {P:Program} {ops:Array Oper} {S:World->Prop} {Q:Exit->Act->World->Prop}
theorem Ku (hs:Region.noSelect ops=true) (hQ:∀c a d v w,Q (.panic c) (Act.put a d v) w->Q (.panic c) a w) {dh:Nat} {k:Nat->Array Bool->Bool} {K:Act->World->Prop}
  (hk:∀n listed a w,k n listed=true->qm ops listed->S w->K a w->sO P ops Q S dh n listed a w):
  ∀(n:Nat) (listed:Array Bool) (A:List Nat) (a:Act) (w:World),Bo ops dh k n listed A=true->qm ops listed->S w->
   kC P ops S (pP Q K) (A.map λj=>(j,true)) a w->sO P ops Q S dh n listed a w
 |n,listed,[],a,w,hc,dM,hS,h=>by
  unfold Bo at hc;exact hk n listed a w hc dM hS h
 |0,listed,_::_,a,w,hc,_,_,_=>by simp[Bo] at hc
 |n+1,listed,j::A,a,w,hc,dM,hS,h=>by
  simp only[Bo,Bool.and_eq_true] at hc;obtain⟨⟨⟨⟨h1,h2⟩,h3⟩,h4⟩,h5⟩:=hc;obtain⟨o,v,hi,hy,h⟩:=h;have hr:j∈Region.ready .any ops listed:=by simpa using h4
  exact Gf hi (Region.noSelect_spec hs) (λc a w hq=>hQ c a _ _ w hq) (λe=>by subst e;simp at h1) (JH h2) n listed a w dM (Region.free_spec hi h3) hr hy hS (Ku hs hQ hk n _ A _ w h5 (pJ dM hr) hS h)
theorem C8 (hs:Region.noSelect ops=true) (hQ:∀c a d v w,Q (.panic c) (Act.put a d v) w->Q (.panic c) a w) {dh:Nat}:
  ∀(t:uS) (n:Nat) (listed:Array Bool) (a:Act) (w:World),Bp ops dh t n listed=true->qm ops listed->S w->qq P ops S Q t a w->sO P ops Q S dh n listed a w
 | .run L,n,listed,a,w,hc,dM,hS,h=>Cz hs hQ n listed L a w hc dM (λ_=>hS) h
 | .one A i t,n,listed,a,w,hc,dM,hS,h=>by
  refine Ku hs hQ (λn listed a w hk dM hS h=>?_) n listed A a w hc dM hS h;cases n with
  |zero=>cases hk
  |succ n=>
   simp only[Bool.and_eq_true,beq_iff_eq] at hk;obtain⟨h0,h1⟩:=hk;have hr:i∈Region.ready .any ops listed:=by rw[h0];simp
   refine⟨λCA=>(by rw[CA] at h0;cases h0),λj hj=>?_⟩;rw[h0,List.mem_singleton] at hj;subst hj;exact wpOp_mono (λa' w' g=>⟨λ_=>g.1,C8 hs hQ t n _ a' w' h1 (pJ dM hr) g.1 g.2⟩) h
 | .fork A i t i' t',n,listed,a,w,hc,dM,hS,h=>by
  refine Ku hs hQ (λn listed a w hk dM hS h=>?_) n listed A a w hc dM hS h;cases n with
  |zero=>cases hk
  |succ n=>
   simp only[Bool.and_eq_true,Bool.or_eq_true,beq_iff_eq] at hk;obtain⟨⟨h0,h1⟩,h2⟩:=hk;have hm:∀j,j∈Region.ready .any ops listed↔j=i\/j=i':=λj=>by
    rcases h0 with e|e<;>rw[e]<;>simp[or_comm]
   have hr:i∈Region.ready .any ops listed:=(hm i).2 (.inl rfl);have hr':i'∈Region.ready .any ops listed:=(hm i').2 (.inr rfl);refine⟨λCA=>(by rw[CA] at hr;cases hr),λj hj=>?_⟩;rcases(hm j).1 hj with rfl|rfl
   ·exact wpOp_mono (λa' w' g=>⟨λ_=>g.1,C8 hs hQ t n _ a' w' h1 (pJ dM hr) g.1 g.2⟩) h.1
   ·exact wpOp_mono (λa' w' g=>⟨λ_=>g.1,C8 hs hQ t' n _ a' w' h2 (pJ dM hr') g.1 g.2⟩) h.2
 | .NY A i t i' t' i2 t2,n,listed,a,w,hc,dM,hS,h=>by
  refine Ku hs hQ (λn listed a w hk dM hS h=>?_) n listed A a w hc dM hS h;cases n with
  |zero=>cases hk
  |succ n=>
   simp only[Bool.and_eq_true] at hk;obtain⟨⟨⟨⟨⟨⟨h0,r1⟩,r2⟩,r3⟩,h1⟩,h2⟩,h3⟩:=hk;have hr:i∈Region.ready .any ops listed:=by simpa using r1
   have hr':i'∈Region.ready .any ops listed:=by simpa using r2
   have nM:i2∈Region.ready .any ops listed:=by simpa using r3
   refine⟨λCA=>(by rw[CA] at hr;cases hr),λj hj=>?_⟩;have hj2:=List.all_eq_true.1 h0 j hj;simp only[Bool.or_eq_true] at hj2;rcases hj2 with(e|e)|e<;>have e:=Nat.eq_of_beq_eq_true e<;>subst e
   ·exact wpOp_mono (λa' w' g=>⟨λ_=>g.1,C8 hs hQ t n _ a' w' h1 (pJ dM hr) g.1 g.2⟩) h.1
   ·exact wpOp_mono (λa' w' g=>⟨λ_=>g.1,C8 hs hQ t' n _ a' w' h2 (pJ dM hr') g.1 g.2⟩) h.2.1
   ·exact wpOp_mono (λa' w' g=>⟨λ_=>g.1,C8 hs hQ t2 n _ a' w' h3 (pJ dM nM) g.1 g.2⟩) h.2.2
theorem UL {K:Act->World->Prop} (h:LetsOut (pP Q K)):LetsOut Q:=h
theorem Kv {i:Nat} {a:Act} {w:World} {K X:Act->World->Prop} (h:wpOp P ops (pP Q K) i X a w):wpOp P ops Q i X a w:=by
 unfold wpOp at*;cases ho:ops[i]? with
 |none=>rw[ho] at h;exact h
 |some o=>
  rw[ho] at h;simp only at h⊢;split at h
  ·rename_i hw;rw[if_pos hw];refine h.imp (λh=>?_) (λh=>⟨h.1,UL h.2⟩);unfold Oper.wp at*;generalize (execOp a.eval o).run P w=r at*;cases r with
   |ok n w'=>
    cases n<;>simp only[Oper.upon] at h⊢<;>first|exact h|exact Calls.mono h (λe w'' he=>by cases e<;>first|exact he|exact UL he)
   |halt x w'=>cases x<;>simp only[Oper.upon] at h⊢<;>exact h
  ·rename_i hw;rw[if_neg hw];exact h
end
def Kw (P:Program) (N:Nat) (Q:Exit->Act->World->Prop) (ops:Array Oper) (S:World->Prop) (t:uS) (env:Env) (w:World):Prop:=∀a,jf N env a->qq P ops S Q t a w
section
variable {P:Program} {N:Nat} {Q:Exit->Act->World->Prop} {ops:Array Oper} {S S':World->Prop} {A:List Nat} {i i' i2:Nat} {t t' t2:uS} {L:List (Nat×Bool)} {env:Env} {w:World}
theorem tJ (h:bN P N Q ops S L env w):Kw P N Q ops S (.run L) env w:=h
theorem C9 (h:bN P N (pP Q λa w=>wpOp P ops Q i (λa' w'=>S w'/\qq P ops S Q t a' w') a w/\wpOp P ops Q i' (λa' w'=>S w'/\qq P ops S Q t' a' w') a w) ops S (A.map λj=>(j,true)) env w):Kw P N Q ops S (.fork A i t i' t') env w:=h
theorem C_ (h:bN P N (pP Q λa w=>S w/\qq P ops S Q t a w) ops S [(i,false)] env w) (h':bN P N (pP Q λa w=>S w/\qq P ops S Q t' a w) ops S [(i',false)] env w):
  bN P N (pP Q λa w=>wpOp P ops Q i (λa' w'=>S w'/\qq P ops S Q t a' w') a w/\wpOp P ops Q i' (λa' w'=>S w'/\qq P ops S Q t' a' w') a w) ops S [] env w:=λa ha=>by
 show wpOp P ops Q i (λa' w'=>S w'/\qq P ops S Q t a' w') a w/\wpOp P ops Q i' (λa' w'=>S w'/\qq P ops S Q t' a' w') a w;exact⟨wpOp_mono (λa' w' g=>g.2) (Kv (h a ha)),wpOp_mono (λa' w' g=>g.2) (Kv (h' a ha))⟩
theorem sS (hS:S w) (h:Kw P N Q ops S t env w):bN P N (pP Q λa w=>S w/\qq P ops S Q t a w) ops S' [] env w:=λa ha=>⟨hS,h a ha⟩
variable {f:FuncId} {k:List Item} {R:Value->World->Prop}
theorem EZ {c:Code} {id:Nat} (I:List Nat) (C:Nat->Nat) (dh:Nat) (t:uS) (hm:P.follows .mixedOrders=true) (hc:c=.region id ops true)
  (hn:Region.noSelect ops=true) (hk:Bp ops dh t ops.size (Array.replicate ops.size false)=true)
  (h:∀w₁,av [] w C w₁ C->Kw P N (pI P f k R) ops (λw'=>Ext (λb=>C b∈I) w₁ w') t env w₁):Run P f N (.code c::k) env w R:=λa ha=>by
 subst hc;exact Cw (wp_region_any hm (Cy _ _ _ _ (C8 hn (λc a d v w h=>h.elim) t _ _ a _ hk (Gh ops) (Ext.refl _ _) (h _ (av.drew [] w C) a ha))))
end
def Da (ops:Array Oper) (dh:Nat) (nN:List (Nat×Bool)):Nat->Array Bool->List (Nat×Bool)->Bool
 |0,_,[]=>false
 |n+1,listed,[]=>(Region.ready .any ops listed==[dh])&&(listed.setIfInBounds dh true).getD dh false&&vU ops (JG ops.size nN) n (listed.setIfInBounds dh true) nN
 |0,_,_::_=>false
 |n+1,listed,(i,true)::L=>!Nat.beq i dh&&needs ops 8 dh i&&Region.free .any ops listed i&&(Region.ready .any ops listed).contains i&&Da ops dh nN n (listed.setIfInBounds i true) L
 |n+1,listed,(i,false)::L=>(Region.ready .any ops listed==[i])&&!Nat.beq i dh&&Da ops dh nN n (listed.setIfInBounds i true) L
section
variable {P:Program} {ops:Array Oper} {S:World->Prop} {Q:Exit->Act->World->Prop}
theorem UM {dh:Nat}:∀(fuel:Nat) (listed:Array Bool) (a:Act) (w:World),listed.getD dh false=true->wpAny P .any ops Q fuel listed a w->sO P ops Q S dh fuel listed a w
 |0,listed,a,w,_,h=>h
 |fuel+1,listed,a,w,hj,h=>⟨h.1,λi hi=>wpOp_mono (λa' w' h'=>⟨λe=>(by rw[getD_set_true hj] at e;cases e),UM fuel _ a' w' (getD_set_true hj) h'⟩) (h.2 i hi)⟩
theorem NZ (hs:Region.noSelect ops=true) (hQ:∀c a d v w,Q (.panic c) (Act.put a d v) w->Q (.panic c) a w) {dh:Nat} {nN:List (Nat×Bool)}:
  ∀(n:Nat) (listed:Array Bool) (L:List (Nat×Bool)) (a:Act) (w:World),Da ops dh nN n listed L=true->qm ops listed->S w->
   kC P ops S (pP Q λa w=>S w/\wpOp P ops Q dh (λa' w'=>kC P ops (λ_=>True) Q nN a' w') a w) L a w->sO P ops Q S dh n listed a w
 |0,_,[],a,w,hc,_,_,_=>by cases hc
 |0,_,_::_,a,w,hc,_,_,_=>by cases hc
 |n+1,listed,[],a,w,hc,dM,hS,h=>by
  simp only[Da,Bool.and_eq_true,beq_iff_eq] at hc;obtain⟨⟨h1,h2⟩,h3⟩:=hc;have h:S w/\wpOp P ops Q dh (λa' w'=>kC P ops (λ_=>True) Q nN a' w') a w:=h;have hr:dh∈Region.ready .any ops listed:=by rw[h1];simp
  refine⟨λh0=>(by rw[h0] at h1;cases h1),λj hj=>?_⟩;rw[h1,List.mem_singleton] at hj;subst hj;exact wpOp_mono (λa' w' h'=>⟨λe=>(by rw[h2] at e;cases e),UM n _ a' w' h2 (Cy _ _ _ _ (Cz hs hQ n _ nN a' w' h3 (pJ dM hr) (λ_=>trivial) h'))⟩) h.2
 |n+1,listed,(i,true)::L,a,w,hc,dM,hS,h=>by
  simp only[Da,Bool.and_eq_true] at hc;obtain⟨⟨⟨⟨h1,h2⟩,h3⟩,h4⟩,h5⟩:=hc;obtain⟨o,v,hi,hy,h⟩:=h;have hr:i∈Region.ready .any ops listed:=by simpa using h4
  exact Gf hi (Region.noSelect_spec hs) (λc a w hq=>hQ c a _ _ w hq) (λe=>by subst e;simp at h1) (JH (by rw[h2,Bool.or_true])) n listed a w dM (Region.free_spec hi h3) hr hy hS (NZ hs hQ n _ L _ w h5 (pJ dM hr) hS h)
 |n+1,listed,(i,false)::L,a,w,hc,dM,hS,h=>by
  simp only[Da,Bool.and_eq_true,beq_iff_eq] at hc;obtain⟨⟨h1,h2⟩,h3⟩:=hc;have hr:i∈Region.ready .any ops listed:=by rw[h1];simp
  have h:=Kv (h:wpOp P ops (pP Q λa w=>S w/\wpOp P ops Q dh (λa' w'=>kC P ops (λ_=>True) Q nN a' w') a w) i (λa' w'=>(Ep L=true->S w')/\kC P ops S (pP Q λa w=>S w/\wpOp P ops Q dh (λa' w'=>kC P ops (λ_=>True) Q nN a' w') a w) L a' w') a w);refine⟨λh0=>(by rw[h0] at h1;cases h1),λj hj=>?_⟩;rw[h1,List.mem_singleton] at hj;subst hj;refine wpOp_mono (λa' w' h'=>?_) h;have UN:S w':=by
   cases L with
   |nil=>have:S w'/\wpOp P ops Q dh (λa' w'=>kC P ops (λ_=>True) Q nN a' w') a' w':=h'.2;exact this.1
   |cons x L=>exact h'.1 rfl
  exact⟨λ_=>UN,NZ hs hQ n _ L a' w' h3 (pJ dM hr) UN h'.2⟩
end
section
variable {P:Program} {N:Nat} {Q:Exit->Act->World->Prop} {ops:Array Oper} {S S':World->Prop} {dh:Nat} {nN:List (Nat×Bool)} {env:Env} {w:World}
theorem n4 (hS:S w) (h:bN P N (pP Q λa w=>kC P ops (λ_=>True) Q nN a w) ops (λ_=>True) [(dh,false)] env w):
  bN P N (pP Q λa w=>S w/\wpOp P ops Q dh (λa' w'=>kC P ops (λ_=>True) Q nN a' w') a w) ops S [] env w:=λa ha=>by
 show S w/\wpOp P ops Q dh (λa' w'=>kC P ops (λ_=>True) Q nN a' w') a w;exact⟨hS,wpOp_mono (λa' w' g=>g.2) (Kv (h a ha))⟩
theorem Zo (h:bN P N Q ops (λ_=>True) nN env w):bN P N (pP Q λa w=>kC P ops (λ_=>True) Q nN a w) ops (λ_=>True) [] env w:=λa ha=>h a ha
variable {f:FuncId} {k:List Item} {R:Value->World->Prop}
theorem S0 {c:Code} {id:Nat} (I:List Nat) (C:Nat->Nat) (dh:Nat) (L nN:List (Nat×Bool)) (hm:P.follows .mixedOrders=true) (hc:c=.region id ops true)
  (hn:Region.noSelect ops=true) (hk:Da ops dh nN ops.size (Array.replicate ops.size false) L=true)
  (h:∀w₁,av [] w C w₁ C->bN P N (pP (pI P f k R) λa w=>Ext (λb=>C b∈I) w₁ w/\wpOp P ops (pI P f k R) dh (λa' w'=>kC P ops (λ_=>True) (pI P f k R) nN a' w') a w) ops (λw'=>Ext (λb=>C b∈I) w₁ w') L env w₁):Run P f N (.code c::k) env w R:=λa ha=>by
 subst hc;exact Cw (wp_region_any hm (Cy _ _ _ _ (NZ hn (λc a d v w h=>h.elim) _ _ L a _ hk (Gh ops) (Ext.refl _ _) (h _ (av.drew [] w C) a ha))))
end
structure UO where
 pr:Int
 aJ:List Int
 df:List Int
instance:bn UO:=bn.via (λx:UO=>(x.pr,(x.aJ,x.df)))
section
variable {P:Program} {N:Nat} {env:Env} {y z:Operand} {t e:TypeId} {b o o' n len:Nat} {k:IntKind} {i:Int} {w:World} {v:Value} {M:Nat->Prop}
theorem N0 {cs:List Value} (hu:P.underlying t=some (.array len e)) (hn:gN P e=some 1) (ha:gH P e=some false) (hy:ev env y=some (.agg cs.toArray)) (hz:ev env z=some (.int k i))
  (h0:0<=i) (h1:i<len) (hv:cs[i.toNat]?=some v):cE P N env (.index t y z) w v:=mk' λρ hρ fB ho=>by
 unfold execOp;rw[ho];simp[hρ _ _ hy,hρ _ _ hz,go_sem,Instr.index,asIntOf,run_underlying hu,mW hn,h0,h1,part,uJ ha,hv]
theorem UQ {parts:Array (Nat×Operand)} {zs cs:List Value} {c4:List (Nat×List Value)} (hu:P.underlying t=some (.array len e)) (hn:gN P e=some n) (hz:xD P t=some zs)
  (hq:v8 env parts.toList c4) (hf:zm (λi=>some (i*n,n)) zs c4=some cs):cE P N env (.build t parts) w (.agg cs.toArray):=mk' λρ hρ o ho=>by
 obtain⟨z,h1,h2⟩:=Gl hz w;have hmap:=v8.map hρ hq;have oB:=fill_eq (λi=>some (i*n,n)) (parts.toList.map λp=>(p.1,ρ p.2)) c4 zs cs (by rw[<-hmap]) hf;have M0:Instr.fill (λi=>some (i*n,n)) z.cells (parts.map λx=>(x.1,ρ x.2)).toList=some cs.toArray:=by
  rw[h2];have: (parts.map λx=>(x.1,ρ x.2)).toList=parts.toList.map λp=>(p.1,ρ p.2):=by simp
  rw[this,<-oB]
 unfold execOp;rw[ho];simp only[Instr.build,Sem.run_bind,h1,Result.andThen_ok,run_underlying hu,mW hn];rw[show(parts.map λx=>match x with|(i,x)=>(i,ρ x)).toList=(parts.map λx=>(x.1,ρ x.2)).toList from rfl,M0];rfl
end
def rW (x:Int):Prop:=-65536<=x/\x<=65536
instance (x:Int):Decidable (rW x):=by unfold rW;infer_instance
structure mg (pr:Int) (aJ df:List Int):Prop where
 l1:1<=aJ.length
 qt:aJ.length<=5
 ld:df.length=aJ.length
 fp:rW pr
 fa:∀i (h:i<aJ.length),rW aJ[i]
 fd:∀i (h:i<df.length),rW df[i]
def qu (p i:Nat):Nat:=p/3^i%3
def rX (p n:Nat):List Nat:=(List.range n).map (qu p)
theorem N1 (p i:Nat):qu p i<3:=Nat.mod_lt _ ak
theorem G9 (p n:Nat): (rX p n).length=n:=by simp[rX]
theorem Kx {p n i:Nat} (h:i<(rX p n).length): (rX p n)[i]=qu p i:=by simp[rX]
theorem UR (p n:Nat):rX p (n+1)=rX p n++[qu p n]:=by simp[rX,List.range_succ]
def G_ (aJ df:List Int) (f:Nat):List Int:=[0,df.getD f 0,aJ.getD f 0]
def sU (aJ df:List Int) (p f:Nat):Int:=(G_ aJ df f).getD (qu p f) 0
def kX (pr:Int) (aJ df:List Int) (p:Nat):Nat->Int
 |0=>pr
 |k+1=>kX pr aJ df p k+sU aJ df p k
theorem mg.a {pr:Int} {aJ df:List Int} (h:mg pr aJ df) {i:Nat} (hi:i<aJ.length):-65536<=aJ.getD i 0/\aJ.getD i 0<=65536:=by rw[lK hi];exact h.fa i hi
theorem mg.d {pr:Int} {aJ df:List Int} (h:mg pr aJ df) {i:Nat} (hi:i<aJ.length):-65536<=df.getD i 0/\df.getD i 0<=65536:=by rw[lK (by rw[h.ld];exact hi)];exact h.fd i (by rw[h.ld];exact hi)
theorem mg.N2 {pr:Int} {aJ df:List Int} (h:mg pr aJ df) {i:Nat} (hi:i<aJ.length) (p:Nat):-65536<=sU aJ df p i/\sU aJ df p i<=65536:=by
 have h1:=h.a hi;have h2:=h.d hi;have h3:=N1 p i;unfold sU G_
 match e:qu p i,h3 with
 |0,_=>simp
 |1,_=>simpa using h2
 |2,_=>simpa using h1
theorem mg.US {pr:Int} {aJ df:List Int} (h:mg pr aJ df) (p:Nat):∀k,k<=aJ.length->-65536*((k:Int)+1)<=kX pr aJ df p k/\kX pr aJ df p k<=65536*((k:Int)+1)
 |0,_=>by have:=h.fp;unfold rW at this;unfold kX;constructor<;>omega
 |k+1,hk=>by
  have h1:=h.US p k af;have h2:=h.N2 (i:=k) af p;unfold kX;constructor<;>omega
theorem mg.sc {pr:Int} {aJ df:List Int} (h:mg pr aJ df) (p:Nat) {k:Nat} (hk:k<=aJ.length):-393216<=kX pr aJ df p k/\kX pr aJ df p k<=393216:=by
 have:=h.US p k hk;have:=h.qt;omega
theorem Ky {n:Nat} (h:n<=5):3^n<=243:=Nat.le_trans (Nat.pow_le_pow_right ak h) ak
theorem N3 {n:Nat} (h:n<=5): ([.int .i64 1,.int .i64 3,.int .i64 9,.int .i64 27,.int .i64 81,.int .i64 243]:List Value)[((n:Nat):Int).toNat]?=some (.int .i64 ((3^n:Nat):Int)):=by
 rw[Int.toNat_natCast]
 match n,h with
 |0,_=>rfl
 |1,_=>rfl
 |2,_=>rfl
 |3,_=>rfl
 |4,_=>rfl
 |5,_=>rfl
section
variable {P:Program} {f:FuncId} {N:Nat} {k:List Item} {env:Env} {w:World} {R:Value->World->Prop}
end
structure xY (n:Nat) (aJ df:List Int):Prop where
 la:aJ.length=n
 ld:df.length=n
 ba:∀x∈aJ,-3<=x/\x<=60
 bd:∀x∈df,-60<=x/\x<=3
theorem xY.nil:xY 0 [] []:=⟨rfl,rfl,by simp,by simp⟩
theorem xY.snoc {n:Nat} {aJ df:List Int} {p q:Int} (h:xY n aJ df) (h1:-3<=p) (h2:p<=60) (h3:-60<=q) (h4:q<=3):xY (n+1) (aJ++[p]) (df++[q]):=
 ⟨by simp[h.la],by simp[h.ld],λx hx=>by
  rcases List.mem_append.1 hx with hx|hx
  ·exact h.ba x hx
  ·rw[List.mem_singleton.1 hx];exact⟨h1,h2⟩,λx hx=>by
  rcases List.mem_append.1 hx with hx|hx
  ·exact h.bd x hx
  ·rw[List.mem_singleton.1 hx];exact⟨h3,h4⟩⟩
theorem xY.ok {n:Nat} {pr:Int} {aJ df:List Int} (h:xY n aJ df) (h1:1<=n) (h5:n<=5) (h2:-40<=pr) (h3:pr<=10):mg pr aJ df:=
 ⟨by rw[h.la];exact h1,by rw[h.la];exact h5,by rw[h.la,h.ld],by unfold rW;omega,λi hi=>by have:=h.ba _ (List.getElem_mem hi);unfold rW;omega,λi hi=>by have:=h.bd _ (List.getElem_mem hi);unfold rW;omega⟩
section
variable {α:Type} {ys zs:List α} {σ:Nat->Nat} {a b i j:Nat} {c:α->α->Int} {P:α->Prop}
theorem fV.thin (h:fV σ a (a+1)) (hb:a<=b):fV σ a b:=by
 have hid:∀i,σ i=i:=λi=>by
  by_cases e:a<=i/\i<a+1
  ·have:=h.mc i e.1 e.2;omega
  ·exact h.out i e
 exact⟨λi _=>hid i,λi h1 h2=>by rw[hid i];exact⟨h1,h2⟩,h.inj⟩
theorem tI.lt (h:tI c ys σ a i j) (hj:a<j):σ (j-1)<i:=by
 have hl:=h.le;have h1:=h.within.mc (j-1) af af;have h2:σ (j-1)≠i:=λe=>by have:=h.within.inj (j-1) j (by rw[e,h.EX]);omega
 omega
theorem tI.ord (hc:mZ c P) (hP:∀x∈ys,P x) (hL:fO ys σ zs) (h:tI c ys σ a i j) (hj:a<j) (hi:i<ys.length) (h1:j<zs.length) (h2:j-1<zs.length):e9 c ys i (σ (j-1))↔c zs[j] zs[j-1]<0:=by
 have hl:=h.le;have e1:=hL.get (show j<ys.length by omega);have e2:=hL.get (show j-1<ys.length by omega);have hlt:=h.lt hj;rw[e1,e2,sv hc hP af hi hlt];simp only[h.EX]
end
theorem Kz {x y:Int}:kD x y<0↔x<y:=by unfold kD;split<;>(try split)<;>omega
section
variable {P:Program} {N:Nat} {env:Env} {y z:Operand} {t:TypeId} {k:IntKind} {n:Nat} {s:ByteArray} {b:UInt8} {w:World}
end
section
variable {P:Program} {f:FuncId} {N:Nat} {k:List Item} {env:Env} {w:World} {R:Value->World->Prop}
end
def S1 (x y:au):Int:=kD y.b x.b
section
variable {α:Type} {ys zs us:List α} {σ d_:Nat->Nat} {c:α->α->Int} {P:α->Prop}
def fm (c:α->α->Int) (ys zs:List α):Prop:=∃σ,fO ys σ zs/\fV σ 0 ys.length/\jV (e9 c ys) σ 0 ys.length
theorem S2 {n:Nat} (hc:mZ c P) (hP:∀x∈ys,P x) (hn:n=ys.length) (h1:fV σ 0 n) (h2:jV (e9 c ys) σ 0 n) (t1:fV d_ 0 n) (t2:jV (e9 c ys) d_ 0 n):∀i,i<n->σ i=d_ i:=by
 intro i
 induction i using Nat.strongRecOn with
 |ind i ih=>
  intro hi;apply Classical.byContradiction;intro hne;have key:∀(ρ xZ:Nat->Nat),fV ρ 0 n->jV (e9 c ys) ρ 0 n->fV xZ 0 n->(∀k,k<i->ρ k=xZ k)->ρ i≠xZ i->e9 c ys (ρ i) (xZ i):=by
   intro ρ xZ r1 r2 p1 hk hne;have S3:∃m,m<n/\ρ m=xZ i:=by
    apply Classical.byContradiction;intro hno;have h1:=p1.mc i af hi;have:=Kr n (n-1) (λm=>if ρ m<xZ i then ρ m else ρ m-1) (λm hm=>by
     have h2:=r1.mc m af hm;have h3:ρ m≠xZ i:=λe=>hno ⟨m,hm,e⟩;split<;>omega) (λm m' hm hm' e=>by
     have h3:ρ m≠xZ i:=λe=>hno ⟨m,hm,e⟩;have h4:ρ m'≠xZ i:=λe=>hno ⟨m',hm',e⟩;refine r1.inj _ _ ?_;split at e<;>split at e<;>omega)
    omega
   obtain⟨m,hm,e⟩:=S3;have Ks:i<m:=by
    rcases Nat.lt_trichotomy m i with h|h|h
    ·have:=hk m h;rw[e] at this;have:=p1.inj _ _ this;omega
    ·subst h;exact absurd e hne
    ·exact h
   rw[<-e];exact r2 i m af Ks hm
  have a:=key σ d_ h1 h2 t1 (λk hk=>ih k hk af) hne;have b:=key d_ σ t1 t2 h1 (λk hk=>(ih k hk af).symm) (Ne.symm hne);exact UJ hc hP a b
theorem fm.uniq (hc:mZ c P) (hP:∀x∈ys,P x) (h:fm c ys zs) (h':fm c ys us):zs=us:=by
 obtain⟨σ,a1,a2,a3⟩:=h;obtain⟨d_,b1,b2,b3⟩:=h';have he:=S2 hc hP rfl a2 a3 b2 b3;apply List.ext_getElem?;intro i;by_cases hi:i<ys.length
 ·rw[(a1.at_ i hi).2,(b1.at_ i hi).2,he i hi]
 ·rw[List.getElem?_eq_none (by rw[a1.len];omega),List.getElem?_eq_none (by rw[b1.len];omega)]
noncomputable def uT (c:α->α->Int) (ys:List α):List α:=open Classical in if h:∃zs,fm c ys zs then h.choose else ys
theorem fm.eq (hc:mZ c P) (hP:∀x∈ys,P x) (h:fm c ys zs):zs=uT c ys:=by
 have he:∃zs,fm c ys zs:=⟨zs,h⟩
 unfold uT;rw[dif_pos he];exact h.uniq hc hP he.choose_spec
end
def UT (aJ df:List Int) (p:Nat):Nat->List au
 |0=>[]
 |k+1=>UT aJ df p k++if 0<aJ.getD k 0-sU aJ df p k then[⟨(k:Int),aJ.getD k 0-sU aJ df p k⟩] else[]
section
variable {α:Type} {ys zs:List α} {c:α->α->Int}
theorem fm.len (h:fm c ys zs):zs.length=ys.length:=by obtain⟨σ,h1,_⟩:=h;exact h1.len
theorem fm.sub (h:fm c ys zs):∀x∈zs,x∈ys:=λx hx=>by
 obtain⟨σ,h1,_⟩:=h;obtain⟨i,hi,rfl⟩:=List.getElem_of_mem hx;rw[h1.get (by rw[<-h1.len];exact hi)];exact List.getElem_mem _
end
def KA (s:Int) (gs:List au):Nat->Int
 |0=>s
 |k+1=>KA s gs k+(gs.getD k ⟨0,0⟩).b
def mH (lo hi s:Int):Int:=if hi<=s then 2 else if lo<=s then 1 else 0
def Dl (pr:Int) (aJ df:List Int) (lo hi:Int) (p:Nat) (fl:List Int) (ok:Bool):Prop:=
 (¬(lo<=kX pr aJ df p aJ.length/\kX pr aJ df p aJ.length<hi)/\ok=false/\fl=[])\/
 ((lo<=kX pr aJ df p aJ.length/\kX pr aJ df p aJ.length<hi)/\∃gs k,fm S1 (UT aJ df p aJ.length) gs/\k<=gs.length/\(∀j,j<k->KA (kX pr aJ df p aJ.length) gs j<hi)/\
  ((KA (kX pr aJ df p aJ.length) gs k<hi/\k=gs.length/\ok=false/\fl=[])\/(hi<=KA (kX pr aJ df p aJ.length) gs k/\ok=true/\fm kD ((gs.take k).map (·.a)) fl)))
structure rY where
 r:au
 ver:Int
 Bq:Int
 ch:Int
 deriving DecidableEq
instance:bn rY:=bn.via (λx:rY=>(x.r,(x.ver,(x.Bq,x.ch))))
instance:Inhabited rY:=⟨⟨⟨0,0⟩,0,0,0⟩⟩
structure bp where
 A:au
 B:au
 bz:Int
 bH:Int
 same:Bool
 deriving DecidableEq
instance:bn bp:=bn.via (λx:bp=>(x.A,(x.B,(x.bz,(x.bH,x.same)))))
instance:Inhabited bp:=⟨⟨⟨0,0⟩,⟨0,0⟩,0,0,false⟩⟩
abbrev mI (x:bp):List Value:=[.int .i64 x.A.a,.int .i64 x.A.b,.int .i64 x.B.a,.int .i64 x.B.b,.int .i64 x.bz,.int .i64 x.bH,.bool x.same]
section
variable {w:World} {M:Nat->Prop} {b o:Nat} {v:Value}
theorem E0 {h:Array Obj} {x:bp} {vs:List Value}:rep h M x vs↔vs=mI x:=
 ⟨λhr=>by
   obtain⟨us,ws,rfl,h1,GH,GJ,rfl,h2,N4,UU,rfl,h3,WI,A2,rfl,h4,h5⟩:=hr;have e1:=(nH (M:=M) (h:=h) (x:=x.A)).1 h1;have e2:=(nH (M:=M) (h:=h) (x:=x.B)).1 h2;have eH:N4=[.int .i64 x.bz]:=h3;have iM:WI=[.int .i64 x.bH]:=h4;have ER:A2=[.bool x.same]:=h5;subst e1 e2 eH iM ER;rfl,
  λhr=>by
   subst hr;exact⟨aV x.A,aV x.B++[.int .i64 x.bz,.int .i64 x.bH,.bool x.same],rfl,(nH (M:=M)).2 rfl,aV x.B,[_,_,_],rfl,(nH (M:=M)).2 rfl,[_],[_,_],rfl,rfl,[_],[_],rfl,rfl,rfl⟩⟩
theorem rZ {x:bp}:aq w M x v↔v=.agg (mI x).toArray:=
 ⟨λh=>by obtain⟨vs,h1,h2⟩:=h;rw[E0.1 h1] at h2;exact h2,λh=>⟨_,E0.2 rfl,h⟩⟩
end
def UW (x y:rY):Int:=iT [j9 x.r y.r,kD x.ver y.ver,kD x.Bq y.Bq]
def oE (x y:bp):Int:=iT [sQ x.A x.B y.A y.B,kD x.bz y.bz,kD x.bH y.bH]
def jI (n:Int):Bool:=decide (1<=n/\n<=1048576)
def zM (x:bp):Prop:=iB x.A x.B=true/\jI x.bz=true/\jI x.bH=true
structure qv where
 id:Int
 ver:Int
 dy:List Bits
instance:bn qv:=bn.via (λx:qv=>(x.id,(x.ver,x.dy)))
structure dP where
 rc:qv
 hs:List j5
 has:List Bool
instance:bn dP:=bn.via (λx:dP=>(x.rc,(x.hs,x.has)))
instance:Inhabited qv:=⟨⟨0,0,[]⟩⟩
instance:Inhabited dP:=⟨⟨default,[],[]⟩⟩
structure iN where
 A:au
 B:au
 pat:Int
 wt:Int
 deriving DecidableEq
instance:bn iN:=bn.via (λx:iN=>(x.A,(x.B,(x.pat,x.wt))))
instance:Inhabited iN:=⟨⟨⟨0,0⟩,⟨0,0⟩,0,0⟩⟩
abbrev Br (x:iN):List Value:=[.int .i64 x.A.a,.int .i64 x.A.b,.int .i64 x.B.a,.int .i64 x.B.b,.int .i64 x.pat,.int .i64 x.wt]
section
variable {w:World} {M:Nat->Prop} {b o:Nat} {v u:Value}
theorem bk.N5 {x:qv} (h:bk w M x b o):bk w M x.id b o:=bk.fst (p:=(x.id,(x.ver,x.dy))) h
theorem bk.KB {x:qv} (h:bk w M x b o):bk w M x.ver b (o+1):=bk.fst (p:=(x.ver,x.dy)) (bk.snd (p:=(x.id,(x.ver,x.dy))) h)
theorem bk.src {x:dP} (h:bk w M x b o):bk w M x.rc b o:=bk.fst (p:=(x.rc,(x.hs,x.has))) h
theorem bk.Db {x:iN} (h:bk w M x b o):bk w M x.A b o:=bk.fst (p:=(x.A,(x.B,(x.pat,x.wt)))) h
theorem bk.Dc {x:iN} (h:bk w M x b o):bk w M x.B b (o+2):=bk.fst (p:=(x.B,(x.pat,x.wt))) (bk.snd (p:=(x.A,(x.B,(x.pat,x.wt)))) h)
theorem UX {h:Array Obj} {x:qv} {vs:List Value}:rep h M x vs↔∃u,vs=[.int .i64 x.id,.int .i64 x.ver,u]/\rep h M x.dy [u]:=by
 constructor
 ·rintro⟨us,ws,rfl,h1,GH,GJ,rfl,h2,h3⟩;obtain⟨u,rfl⟩:=List.length_eq_one_iff.1 (bn.len h3);have e1:us=[.int .i64 x.id]:=h1;have e2:GH=[.int .i64 x.ver]:=h2;subst e1 e2;exact⟨u,rfl,h3⟩
 ·rintro⟨u,rfl,h⟩;exact⟨[_],[_,u],rfl,rfl,[_],[u],rfl,rfl,h⟩
theorem UY {h:Array Obj} {x:dP} {vs:List Value}:rep h M x vs↔∃u p q,vs=[.int .i64 x.rc.id,.int .i64 x.rc.ver,u,p,q]/\rep h M x.rc.dy [u]/\rep h M x.hs [p]/\rep h M x.has [q]:=by
 constructor
 ·rintro⟨us,ws,rfl,h1,GH,GJ,rfl,h2,h3⟩;obtain⟨u,rfl,h4⟩:=UX.1 h1;obtain⟨p,rfl⟩:=List.length_eq_one_iff.1 (bn.len h2);obtain⟨q,rfl⟩:=List.length_eq_one_iff.1 (bn.len h3);exact⟨u,p,q,rfl,h4,h2,h3⟩
 ·rintro⟨u,p,q,rfl,h1,h2,h3⟩;exact⟨[_,_,u],[p,q],rfl,UX.2 ⟨u,rfl,h1⟩,[p],[q],rfl,h2,h3⟩
theorem x7 {x:dP}:aq w M x v↔∃u p q,v=.agg #[.int .i64 x.rc.id,.int .i64 x.rc.ver,u,p,q]/\aq w M x.rc.dy u/\aq w M x.hs p/\aq w M x.has q:=by
 constructor
 ·rintro⟨vs,h,hv⟩;obtain⟨u,p,q,rfl,h1,h2,h3⟩:=UY.1 h;exact⟨u,p,q,hv,zi h1 rfl,zi h2 rfl,zi h3 rfl⟩
 ·rintro⟨u,p,q,rfl,h1,h2,h3⟩;exact⟨_,UY.2 ⟨u,p,q,rfl,h1.Gk rfl,h2.Gk rfl,h3.Gk rfl⟩,rfl⟩
theorem UZ {h:Array Obj} {x:iN} {vs:List Value}:rep h M x vs↔vs=Br x:=
 ⟨λhr=>by
   obtain⟨us,ws,rfl,h1,GH,GJ,rfl,h2,N4,UU,rfl,h3,h4⟩:=hr;have e1:=(nH (M:=M) (h:=h) (x:=x.A)).1 h1;have e2:=(nH (M:=M) (h:=h) (x:=x.B)).1 h2;have eH:N4=[.int .i64 x.pat]:=h3;have iM:UU=[.int .i64 x.wt]:=h4;subst e1 e2 eH iM;rfl,
  λhr=>by
   subst hr;exact⟨aV x.A,aV x.B++[.int .i64 x.pat,.int .i64 x.wt],rfl,(nH (M:=M)).2 rfl,aV x.B,[_,_],rfl,(nH (M:=M)).2 rfl,[_],[_],rfl,rfl,rfl⟩⟩
theorem KC {x:iN}:aq w M x v↔v=.agg (Br x).toArray:=
 ⟨λh=>by obtain⟨vs,h1,h2⟩:=h;rw[UZ.1 h1] at h2;exact h2,λh=>⟨_,UZ.2 rfl,h⟩⟩
end
theorem X3 {P:Program} {N:Nat} {env:Env} {w:World} {x y z q:Operand} {t:TypeId} {a b c d n:Int} (hx:ev env x=some (.int .i64 a)) (hy:ev env y=some (.int .i64 b)) (hz:ev env z=some (.int .i64 c)) (hq:ev env q=some (.int .i64 d)) (h1:a=n) (h2:b=n) (h3:c=n) (h4:d=n) (ht:P.underlying t=some (.int .i64)):
  cE P N env (.call {callee:=.builtin .min,args:=#[x,y,z,q],argTypes:=#[t,t,t,t]}) w (.int .i64 n):=mk' λρ hρ o ho=>by
 subst h1 h2 h3 h4;unfold execOp;rw[ho];simp[hρ _ _ hx,hρ _ _ hy,hρ _ _ hz,hρ _ _ hq,go_sem,resolve,invoke,builtin,Builtin.min_,Builtin.min2]
def De (n:Int):Prop:=1<=n/\n<=1048576
def q9 (b:Bits):Bool:=decide (b.len=0)&&decide ((b.words.length:Int)=0)
def pQ (b:Bits):Prop:=b=⟨0,[]⟩\/xV 64 b
theorem pQ.ok {b:Bits} (h:pQ b):q9 b=true\/ij b=true:=by
 rcases h with rfl|h
 ·exact .inl ak
 ·exact .inr (h.valid (.inl rfl))
structure U0 (n k:Nat) (x:dP):Prop where
 id:De x.rc.id
 ver:De x.rc.ver
 fl:x.rc.dy.length=n
 fo:∀b∈x.rc.dy,pQ b
 hl:x.hs.length=k
 ha:x.has.length=k
structure He (n k:Nat) (l:List dP):Prop where
 len:l.length<=4
 all:∀x∈l,U0 n k x
 jw:l.Pairwise λx y=>x.rc.id<y.rc.id
def r5 (a b:Bits):Int:=if kW a b then(if gX a+gX b=0 then 0 else(4000*gX (lJ a b)+(gX a+gX b))/(2*(gX a+gX b))) else-1
theorem vB {a b:Bits} (ha:xV 64 a) (hb:xV 64 b):gX (lJ a b)<=gX a/\gX (lJ a b)<=gX b/\0<=gX (lJ a b)/\gX a<=127/\gX b<=127:=by
 have bz:=ha.valid (.inl rfl);have bH:=hb.valid (.inl rfl);have hok:kW a b:=⟨bz,bH,by rw[ha.1,hb.1]⟩
 have hz:∀x∈(lJ a b).words,nK x.n:=UC;have h1:rV (List.zipWith jH a.words b.words)<=rV a.words:=NL ha.2.2 hb.2.2;have h2:rV (List.zipWith jH a.words b.words)<=rV b.words:=by
  have e:List.zipWith jH a.words b.words=List.zipWith jH b.words a.words:=by
   rw[List.zipWith_comm];congr 1;funext x y;unfold jH;congr 1;unfold bitsOf;simp only[BitVec.and_comm]
  rw[e];exact NL hb.2.2 ha.2.2
 have h3:∀c:Bits,xV 64 c->gX c<=127:=λc hc=>by
  unfold gX;rw[if_pos (hc.valid (.inl rfl))];have:=(Kj c.words c.words.length).2;have hl: (c.words.length:Int)=1:=by rw[hc.2.1];rfl
  omega
 refine⟨?_,?_,?_,h3 a ha,h3 b hb⟩
 ·rw[ET (GZ hok) hz,ET bz ha.2.2];exact Int.ofNat_le.2 h1
 ·rw[ET (GZ hok) hz,ET bH hb.2.2];exact Int.ofNat_le.2 h2
 ·rw[ET (GZ hok) hz];omega
theorem aS {a b:Bits} (ha:pQ a) (hb:pQ b):-1<=r5 a b/\r5 a b<=1000:=by
 unfold r5;by_cases hok:kW a b
 ·rw[if_pos hok];have ha2:xV 64 a:=ha.resolve_left λe=>by subst e;exact absurd hok.1 ak
  have fu:xV 64 b:=hb.resolve_left λe=>by subst e;exact absurd hok.2.1 ak
  obtain⟨h1,h2,h3,h4,h5⟩:=vB ha2 fu;by_cases h0:gX a+gX b=0
  ·rw[if_pos h0];omega
  ·rw[if_neg h0];have hp:0<2*(gX a+gX b):=by omega
   constructor
   ·have:=Int.ediv_nonneg (a:=4000*gX (lJ a b)+(gX a+gX b)) (b:=2*(gX a+gX b)) af af;omega
   ·have: (4000*gX (lJ a b)+(gX a+gX b))/(2*(gX a+gX b))<1001:=Int.ediv_lt_of_lt_mul hp af;omega
 ·rw[if_neg hok];omega
theorem E1 (b:Bits):0<=gX b/\gX b<=1016:=by
 unfold gX;split
 ·rename_i h;have:=Kj b.words b.words.length;have:=(Kk h).1;omega
 ·omega
def pR (x y:qv):List Int:=List.zipWith r5 x.dy y.dy
def wF (t s:Int):Nat:=if s<0 then 0 else if s<t then 1 else 2
theorem aN (t s:Int):wF t s<3:=by unfold wF;split<;>(try split)<;>omega
def mh (bK N6:List Int):List Nat:=List.zipWith wF bK N6
theorem KD {x y:qv} (h:x.dy.length=y.dy.length): (pR x y).length=x.dy.length:=by unfold pR;rw[List.length_zipWith];omega
theorem U1 {x y:qv} {k:Nat} (h1:k<x.dy.length) (h2:k<y.dy.length): (pR x y).take (k+1)=(pR x y).take k++[r5 x.dy[k] y.dy[k]]:=by
 have h:k<(pR x y).length:=by unfold pR;rw[List.length_zipWith];omega
 rw[List.take_succ_eq_append_getElem h];simp[pR]
theorem U2 {x y:qv} (h1:∀b∈x.dy,pQ b) (h2:∀b∈y.dy,pQ b):∀z∈pR x y,-1<=z/\z<=1000:=λz hz=>by
 unfold pR at hz;obtain⟨i,hi,rfl⟩:=List.getElem_of_mem hz;rw[List.getElem_zipWith];exact aS (h1 _ (List.getElem_mem _)) (h2 _ (List.getElem_mem _))
theorem N7 {t s:List Int} {k d:Nat} (h1:k<t.length) (h2:k<s.length) (he:wF t[k] s[k]=d): ((mh t s).take k++List.replicate (t.length-k) 0).set k d=(mh t s).take (k+1)++List.replicate (t.length-(k+1)) 0:=by
 have h:k<(mh t s).length:=by unfold mh;rw[List.length_zipWith];omega
 have hl: ((mh t s).take k).length=k:=by rw[List.length_take];omega
 rw[List.set_append_right _ _ af,hl,Nat.sub_self,show t.length-k=(t.length-(k+1))+1 from by omega,List.replicate_succ,List.set_cons_zero,List.take_succ_eq_append_getElem h,List.append_assoc];simp[mh,he]
def oF (l:List Nat):Nat->Nat
 |0=>0
 |k+1=>oF l k+l.getD k 0*3^k
theorem N8 {l:List Nat} (h:∀x∈l,x<3):∀k,oF l k<3^k
 |0=>by simp[oF]
 |k+1=>by
  have h1:=N8 h k;have h2:l.getD k 0<3:=by
   rw[List.getD_eq_getElem?_getD];cases e:l[k]? with
   |none=>simp
   |some y=>exact h y (List.mem_of_getElem? e)
  unfold oF;have h3:l.getD k 0*3^k<=2*3^k:=Nat.mul_le_mul_right _ af;rw[Nat.pow_succ];omega
def zP (bK:List Int) (x y:qv):Nat:=oF (mh bK (pR x y)) bK.length
theorem N9 {bK N6:List Int}:∀x∈mh bK N6,x<3:=λx hx=>by
 unfold mh at hx;obtain⟨i,hi,rfl⟩:=List.getElem_of_mem hx;rw[List.getElem_zipWith];exact aN _ _
theorem U3 (bK:List Int) (x y:qv):zP bK x y<3^bK.length:=N8 N9 _
def zQ (x y:dP) (h:Nat):Bool:=x.has.getD h false&&y.has.getD h false&&decide ((x.hs.getD h default).n=(y.hs.getD h default).n)
def N_ (x y:dP):Nat:=min (min x.hs.length x.has.length) (min y.hs.length y.has.length)
def r6 (x y:dP):Bool:=(List.range (N_ x y)).any (zQ x y)
theorem KE {x y:dP} {i:Nat} (i1:i<x.hs.length) (i2:i<x.has.length) (i3:i<y.hs.length) (i4:i<y.has.length):zQ x y i=(x.has[i]&&y.has[i]&&decide (x.hs[i].n=y.hs[i].n)):=by
 unfold zQ;rw[xQ i1,xQ i2,xQ i3,xQ i4]
theorem U4 {x y:dP} {k:Nat} (h1:x.hs.length=k) (h2:x.has.length=k) (h3:y.hs.length=k) (h4:y.has.length=k):N_ x y=k:=by unfold N_;omega
theorem U5 {x y:dP} {k i:Nat} (h1:x.hs.length=k) (h2:x.has.length=k) (h3:y.hs.length=k) (h4:y.has.length=k) (hi:i<k) (h:zQ x y i=true):r6 x y=true:=by
 unfold r6;rw[U4 h1 h2 h3 h4,List.any_eq_true];exact⟨i,List.mem_range.2 hi,h⟩
theorem U6 {x y:dP} {k:Nat} (h1:x.hs.length=k) (h2:x.has.length=k) (h3:y.hs.length=k) (h4:y.has.length=k) (h:∀j,j<k->zQ x y j=false):r6 x y=false:=by
 unfold r6;rw[U4 h1 h2 h3 h4,List.any_eq_false];exact λj hj=>by rw[h j (List.mem_range.1 hj)];decide
structure tK where
 pr:Int
 aJ:List Int
 df:List Int
 bK:List Int
def tL (m:tK) (a b:au) (x y:dP):iN:=⟨a,b,zP m.bK x.rc y.rc,kX m.pr m.aJ m.df (zP m.bK x.rc y.rc) m.aJ.length⟩
def oc (m:tK) (r s:Nat) (x:dP) (l:List dP):List iN:=(l.filter (r6 x)).map λy=>tL m ⟨r,x.rc.id⟩ ⟨s,y.rc.id⟩ x y
def kP (sh:List (List dP)) (s:Nat):List dP:=sh.getD s []
def od (m:tK) (sh:List (List dP)) (r:Nat) (x:dP) (n:Nat):List iN:=(List.range' (r+1) n).flatMap λs=>oc m r s x (kP sh s)
def m_ (m:tK) (sh:List (List dP)) (r:Nat) (l:List dP):List iN:=l.flatMap λx=>od m sh r x (sh.length-(r+1))
def ja (m:tK) (sh:List (List dP)) (n:Nat):List iN:=(List.range n).flatMap λr=>m_ m sh r (kP sh r)
theorem KF {α β:Type} {f:α->List β} {b:Nat}:∀{l:List α},(∀x∈l,(f x).length<=b)->(l.flatMap f).length<=l.length*b
 |[],_=>by simp
 |a::l,h=>by
  rw[List.flatMap_cons,List.length_append,List.length_cons,Nat.succ_mul];have:=h a b_;have:=KF (f:=f) (b:=b) (l:=l) λx hx=>h x (by simp[hx]);omega
structure q_ (n k:Nat) (sh:List (List dP)):Prop where
 len:sh.length<=3
 all:∀l∈sh,He n k l
section
variable {m:tK} {sh:List (List dP)} {n k r s i j:Nat} {x y:dP} {l:List dP}
theorem q_.at_ (h:q_ n k sh) (s:Nat):He n k (kP sh s):=by
 unfold kP;rw[List.getD_eq_getElem?_getD];cases e:sh[s]? with
 |none=>exact⟨by simp,by simp,List.Pairwise.nil⟩
 |some l=>exact h.all l (List.mem_of_getElem? e)
theorem Oa: (oc m r s x l).length<=l.length:=by unfold oc;rw[List.length_map];exact List.length_filter_le _ _
theorem Oc (h:q_ n k sh) (q:Nat): (od m sh r x q).length<=q*4:=by
 have:=KF (l:=List.range' (r+1) q) (f:=λs=>oc m r s x (kP sh s)) (b:=4) λs _=>Nat.le_trans Oa (h.at_ s).len;rw[List.length_range'] at this;exact this
theorem Od (h:q_ n k sh): (m_ m sh r l).length<=l.length*12:=
 KF λx _=>Nat.le_trans (Oc h _) (by have:=h.len;omega)
theorem KG (h:q_ n k sh) (q:Nat): (ja m sh q).length<=q*48:=by
 have:=KF (l:=List.range q) (f:=λr=>m_ m sh r (kP sh r)) (b:=48) λr _=>Nat.le_trans (Od h) (by have:=(h.at_ r).len;omega);rw[List.length_range] at this;exact this
theorem U7 (hj:j<l.length):oc m r s x (l.take (j+1))=oc m r s x (l.take j)++(if r6 x l[j] then[tL m ⟨r,x.rc.id⟩ ⟨s,l[j].rc.id⟩ x l[j]] else[]):=by
 unfold oc;rw[List.take_succ_eq_append_getElem hj,List.filter_append,List.map_append];congr 1;by_cases h:r6 x l[j]=true
 ·rw[if_pos h,List.filter_cons_of_pos h];rfl
 ·rw[if_neg h,List.filter_cons_of_neg h];rfl
theorem U8 {q:Nat}:od m sh r x (q+1)=od m sh r x q++oc m r (r+1+q) x (kP sh (r+1+q)):=by
 unfold od;rw[List.range'_concat,List.flatMap_append];simp
theorem U9 (hi:i<l.length):m_ m sh r (l.take (i+1))=m_ m sh r (l.take i)++od m sh r l[i] (sh.length-(r+1)):=by
 unfold m_;rw[List.take_succ_eq_append_getElem hi,List.flatMap_append];simp
theorem U_:ja m sh (r+1)=ja m sh r++m_ m sh r (kP sh r):=by
 unfold ja;rw[List.range_succ,List.flatMap_append];simp
theorem Va {c:iN} {q:Nat}:c∈ja m sh q↔∃r s x y,r<q/\r<s/\s<sh.length/\x∈kP sh r/\y∈kP sh s/\r6 x y=true/\c=tL m ⟨r,x.rc.id⟩ ⟨s,y.rc.id⟩ x y:=by
 unfold ja m_ od oc;simp only[List.mem_flatMap,List.mem_range,List.mem_range'_1,List.mem_map,List.mem_filter];constructor
 ·rintro⟨r,hr,x,hx,s,hs,y,⟨hy,ha⟩,rfl⟩;have:r+1<sh.length:=by omega
  exact⟨r,s,x,y,hr,by omega,by omega,hx,hy,ha,rfl⟩
 ·rintro⟨r,s,x,y,hr,h1,h2,hx,hy,ha,rfl⟩;exact⟨r,hr,x,hx,s,⟨by omega,by omega⟩,y,⟨hy,ha⟩,rfl⟩
end
theorem KH {α:Type} (f:α->Nat) (N:Nat):∀(l:List α) (lo:Nat),l.Pairwise (λx y=>f x<f y)->(∀x∈l,lo<=f x/\f x<N)->l.length<=N-lo
 |[],_,_,_=>Nat.zero_le _
 |x::l,lo,hp,h=>by
  obtain⟨h1,h2⟩:=List.pairwise_cons.1 hp;have hx:=h x b_;have ih:=KH f N l (f x+1) h2 (λy hy=>⟨h1 y hy,(h y (by simp[hy])).2⟩);simp only[List.length_cons];omega
def KI (R I:Nat) (x:aH):Prop:=0<=x.A.a/\x.A.a<x.B.a/\x.B.a<R/\1<=x.A.b/\x.A.b<=I/\1<=x.B.b/\x.B.b<=I/\1<=x.w/\x.w<=9
def lN (r i s k:Nat) (x:aH):Prop:=x.A.a<r\/x.A.a=r/\(x.A.b<i\/x.A.b=i/\(x.B.a<s\/x.B.a=s/\x.B.b<k))
def KJ (R I r i s k:Nat) (l:List aH):Prop:=(∀x∈l,KI R I x/\lN r i s k x)/\l.Pairwise kN
theorem KJ.nil (R I r i s k:Nat):KJ R I r i s k []:=⟨λx h=>by simp at h,List.Pairwise.nil⟩
theorem KJ.len {R I r i s k:Nat} {l:List aH} (h:KJ R I r i s k l) (hR:R<=7) (hI:I<=7):l.length<=4096:=by
 have hb:∀x∈l,KI R I x:=λx hx=>(h.1 x hx).1;have:=KH (λx:aH=>(x.A.a*512+x.A.b*64+x.B.a*8+x.B.b).toNat) 4096 l 0 (h.2.imp_of_mem λ{x y} hx hy hxy=>by
  have h1:=hb x hx;have h2:=hb y hy;unfold KI at h1 h2;unfold kN eF at hxy;show(x.A.a*512+x.A.b*64+x.B.a*8+x.B.b).toNat<(y.A.a*512+y.A.b*64+y.B.a*8+y.B.b).toNat;rcases hxy with(h3|⟨h3,h4⟩)|⟨h3,h4|⟨h4,h5⟩⟩
  ·omega
  ·omega
  ·rw[h3] at*;omega
  ·rw[h3] at*;omega) (λx hx=>by
  have h1:=hb x hx;unfold KI at h1;show 0<=_/\(x.A.a*512+x.A.b*64+x.B.a*8+x.B.b).toNat<4096;omega)
 simpa using this
structure Key where
 comps:List au
instance:bn Key where
 sz:=1
 agg:=true
 flat h:=by cases h
 rep h M x vs:=rep h M x.comps vs
 len h:=bn.len (α:=List au) h
 one h:=bn.one (α:=List au) h
 keep h hk:=bn.keep (α:=List au) h hk
 sub h hk:=bn.sub (α:=List au) h hk
structure e6 where
 val:Value
 one:val.oneCell'=true
instance:bn e6 where
 sz:=1
 agg:=false
 flat _:=rfl
 rep _ _ x vs:=vs=[x.val]
 len h:=by subst h;rfl
 one h:=by subst h;rename_i x;intro v hv;simp at hv;subst hv;exact x.one
 keep h _:=h
 sub h _:=h
section
variable {w:World} {M:Nat->Prop} {b o:Nat} {v:Value}
end
def idxOf {α:Type} (p:α->Bool) (l:List α):Int:=if l.any p then(l.findIdx p:Int) else-1
theorem x8 {α:Type} {p:α->Bool} {l:List α} {k:Nat} (h:k<l.length) (h0:∀i (hi:i<k),p (l[i]'af)=false) (hp:p l[k]=true):idxOf p l=k:=by
 unfold idxOf;rw[if_pos (List.any_eq_true.2 ⟨l[k],List.getElem_mem h,hp⟩)];have:l.findIdx p=k:=(List.findIdx_eq h).2 ⟨hp,λj hj=>by simpa using h0 j hj⟩;rw[this]
theorem Bs {α:Type} {p:α->Bool} {l:List α} (h0:∀i (hi:i<l.length),p l[i]=false):idxOf p l= -1:=by
 unfold idxOf;rw[if_neg];intro h;obtain⟨x,hx,hp⟩:=List.any_eq_true.1 h;obtain⟨i,hi,rfl⟩:=List.mem_iff_getElem.1 hx;rw[h0 i hi] at hp;cases hp
theorem Bt {α:Type} {p:α->Bool} {l:List α}:decide (0<=idxOf p l)=l.any p:=by
 unfold idxOf;cases h:l.any p
 ·rfl
 ·simp only[if_true];exact decide_eq_true af
theorem Vb {l:List au} {c:au} (h:c∈l):∃i:Nat,idxOf (λx=>decide (c=x)) l=(i:Int)/\∃hi:i<l.length,l[i]=c:=by
 have ha:l.any (λx=>decide (c=x))=true:=List.any_eq_true.2 ⟨c,h,by simp⟩;refine⟨_,by unfold idxOf;rw[if_pos ha],?_⟩;have hlt:l.findIdx (λx=>decide (c=x))<l.length:=List.findIdx_lt_length.2 ⟨c,h,by simp⟩;refine⟨hlt,?_⟩;have:=List.findIdx_getElem (w:=hlt);simpa[eq_comm] using this
def KK (ks:List Key):Prop:=ks.length<=12/\∀k∈ks,k.comps.length<=12
def Hf (ks:List Key):List au:=ks.flatMap (·.comps)
theorem b6 {ks:List Key} (h:∀k∈ks,k.comps.length<=12): (Hf ks).length<=ks.length*12:=by
 induction ks with
 |nil=>simp[Hf]
 |cons k ks ih=>
  have h1:=h k b_;have h2:=ih (λx hx=>h x (by simp[hx]));unfold Hf at*;simp only[List.flatMap_cons,List.length_append,List.length_cons];omega
theorem KK.len {ks:List Key} (h:KK ks) (i:Nat): (Hf (ks.take i)).length<=144:=by
 have h1:=b6 (ks:=ks.take i) (λk hk=>h.2 k (List.mem_of_mem_take hk));have h2:=h.1;rw[List.length_take] at h1;have:=Nat.mul_le_mul_right 12 (Nat.min_le_right i ks.length);omega
theorem KK.all {ks:List Key} (h:KK ks): (Hf ks).length<=144:=by have:=h.len ks.length;rwa [List.take_length] at this
def Pt (mask n:Nat):List Int:=((List.range n).filter λi=>mask.testBit i).map λi:Nat=>(i:Int)
def Vc (f q:Nat->Int) (Oe:Int):Nat->Option Nat
 |0=>none
 |n+1=>if Oe<q n then Vc f q Oe n else match Vc f q Oe n with
  |none=>some n
  |some m=>if f n<f m\/(f n=f m/\q n<q m) then some n else some m
def pk (bm:Option Nat):List Int:=match bm with|none=>[]|some m=>Pt m 8
def wG (l:List (List au)) (c:au):Int:=idxOf (λp=>p.any λx=>decide (c=x)) l
theorem ri {α:Type} {l:List (List α)} {i:Nat} (h:i<l.length):l.getD i []=l[i]:=by rw[List.getD_eq_getElem?_getD,List.getElem?_eq_getElem h];rfl
theorem dS {α:Type} {l:List (List α)} {i:Nat} {r:α} (h:r∈l.getD i []):i<l.length:=by
 rcases Nat.lt_or_ge i l.length with h1|h1
 ·exact h1
 ·rw[List.getD_eq_getElem?_getD,List.getElem?_eq_none h1] at h;simp at h
theorem Df {l:List au} {c:au}: (l.any λx=>decide (c=x))=true↔c∈l:=by
 rw[List.any_eq_true];exact⟨λ⟨x,hx,e⟩=>by rw[of_decide_eq_true e];exact hx,λh=>⟨c,h,by simp⟩⟩
theorem Gr {l:List aH} {r:au} {i:Nat} (h:r∈(dU l).getD i []):wG (dU l) r=i:=by
 have hi:=dS h;refine x8 hi (λj hj=>Bool.eq_false_iff.2 λhp=>?_) ?_
 ·have:=Ue (l:=l) (i:=j) (by rw[ri (show j<(dU l).length by omega)];exact Df.1 hp) h;omega
 ·rw[ri hi] at h;exact Df.2 h
theorem Vd (l:List aH): (dU l).length<=(aM l).length:=by unfold dU;rw[oa];exact(CT _ _).length_le
def wH (j_:List (au×Bool)) (r:au):Bool:=(eM j_ r).getD false
structure KL (l:List aH) (fr:au) (j_:List (au×Bool)):Prop where
 val:∀r v,eM j_ r=some v->v=true/\r∈aM l/\bZ l r=bZ l fr
 from_:eM j_ fr=some true
theorem KL.wH {l:List aH} {fr:au} {j_:List (au×Bool)} (h:KL l fr j_) {r:au} (hr:wH j_ r=true):r∈aM l/\bZ l r=bZ l fr:=by
 unfold K.wH at hr;cases hm:eM j_ r with
 |none=>rw[hm] at hr;simp at hr
 |some v=>exact(h.val r v hm).2
theorem KL.all {l:List aH} {fr:au} {j_:List (au×Bool)} (h:KL l fr j_) (hc:∀x∈l,K.wH j_ x.A=K.wH j_ x.B) {r:au} (hr:r∈aM l):K.wH j_ r=true↔bZ l r=bZ l fr:=by
 constructor
 ·exact λh1=>(h.wH h1).2
 ·intro e;have h1:=uM (p:=K.wH j_) hc r;have h2:=uM (p:=K.wH j_) hc fr;have h3:K.wH j_ fr=true:=by unfold K.wH;rw[h.from_];rfl
  rw[<-h1,e,h2,h3]
theorem Hg {l:List aH} {i:Nat} (h:i<(aY l).length): (aY l)[i]=l.filter λx=>decide (bZ l x.A=bZ l ((eC (bZ l) (aM l))[i]'(by simpa[aY] using h))):=by simp[aY]
theorem Ve {l:List aH} {i:Nat} (h:i<(dU l).length): (dU l)[i]=(aM l).filter λr=>decide (bZ l r=bZ l ((eC (bZ l) (aM l))[i]'(by unfold dU at h;rwa [oa] at h))):=EL h
theorem Og {l:List aH} {i:Nat} (h:i<(aY l).length) (h':i<(dU l).length):aM (aY l)[i]=(dU l)[i]:=by
 rw[Hg,Ve];refine J9 (zy _) ((zy l).filter _) λr=>?_;rw[jG,List.mem_filter,jG,decide_eq_true_eq];constructor
 ·rintro⟨x,hx,e⟩;obtain⟨hx,h2⟩:=List.mem_filter.1 hx;refine⟨⟨x,hx,e⟩,?_⟩;have h2:=of_decide_eq_true h2;rcases e with rfl|rfl
  ·exact h2
  ·rw[<-zz hx];exact h2
 ·rintro⟨⟨x,hx,e⟩,h2⟩;refine⟨x,List.mem_filter.2 ⟨hx,decide_eq_true ?_⟩,e⟩;rcases e with rfl|rfl
  ·exact h2
  ·rw[zz hx];exact h2
theorem E2 {l:List aH} (hv:pN l) {i:Nat} (h:i<(aY l).length):pN (aY l)[i]:=by
 rw[Hg];exact hv.sub List.filter_sublist
def kF (ds:List bp) (a b:au):Bool:=ds.any λd=>!d.same&&decide (d.A=a/\d.B=b)
def eP (ds:List bp) (a b:au):Bool:=decide (a.a=b.a)||kF ds a b||kF ds b a
theorem Vg (ds:List bp) (a b:au):eP ds a b=eP ds b a:=by
 unfold eP;rw[show decide (a.a=b.a)=decide (b.a=a.a) from decide_eq_decide.2 ⟨Eq.symm,Eq.symm⟩,Bool.or_assoc,Bool.or_assoc,Bool.or_comm (kF ds a b)]
theorem y2 (ds:List bp) (a:au):eP ds a a=true:=by unfold eP;simp
def jh (l:List aH) (s:List au):List aH:=l.filter λx=>decide (x.A∈s/\x.B∈s)
theorem Lg {l:List aH} {s s':List au} (h:∀r,r∈s↔r∈s'):jh l s=jh l s':=by
 unfold jh;refine List.filter_congr λx _=>?_;rw[decide_eq_decide,h,h]
def sV (l:List aH) (s:List au):Prop:=∀x∈s,∀y∈s,bZ (jh l s) x=bZ (jh l s) y
theorem sV.congr {l:List aH} {s s':List au} (h:∀r,r∈s↔r∈s') (hj:sV l s):sV l s':=λx hx y hy=>by
 rw[<-Lg (l:=l) h];exact hj x ((h x).2 hx) y ((h y).2 hy)
def lM (l:List aH) (s:List au):Bool:=s.all λx=>decide (bZ (jh l s) x=bZ (jh l s) (s.headD ⟨0,0⟩))
theorem Oh {l:List aH} {s:List au}:lM l s=true↔sV l s:=by
 unfold lM sV;rw[List.all_eq_true];constructor
 ·intro h x hx y hy;have h1:=of_decide_eq_true (h x hx);have h2:=of_decide_eq_true (h y hy);rw[h1,h2]
 ·intro h x hx;rw[decide_eq_true_eq];refine h x hx _ ?_;cases s with
  |nil=>simp at hx
  |cons a s=>simp
def uU (x:aH) (p:List au):Bool:=decide (x.A∈p/\x.B∈p)
def fc (l:List aH) (ps:List (List au)):Int:=((l.filter λx=>ps.any (uU x)).map (·.w)).sum
def gV (sets:List (List au)):List (List au):=sets.filter λs=>decide (2<=s.length)
def pT (ds:List bp) (s:List au) (r:au):Bool:=!(s.any λb=>eP ds b r)
def qw (ds:List bp):List au->List (List au)->List (List (List au))
 |[],sets=>[sets]
 |r::rs,sets=>((List.range sets.length).flatMap λk=>if pT ds (sets.getD k []) r then qw ds rs (sets.set k (sets.getD k []++[r])) else[])++qw ds rs (sets++[[r]])
structure iU where
 found:Bool
 best:List (List au)
 val:Int
def pU (l:List aH) (sets:List (List au)):Bool:=(gV sets).all (lM l)
def oe (l:List aH) (st:iU) (sets:List (List au)):iU:=
 if pU l sets=true/\(st.found=false\/st.val<fc l (gV sets)) then⟨true,gV sets,fc l (gV sets)⟩ else st
def tM (l:List aH) (ds:List bp) (rs:List au) (sets:List (List au)) (st:iU):iU:=(qw ds rs sets).foldl (oe l) st
def sW:iU:=⟨false,[],0⟩
def rj (l:List aH) (ds:List bp):List (List au):=(tM l ds (aM l) [] sW).best
def sX (l:List aH) (ds:List bp) (r:au) (rs:List au) (sets:List (List au)) (st:iU):Nat->iU
 |0=>st
 |k+1=>if pT ds (sets.getD k []) r then tM l ds rs (sets.set k (sets.getD k []++[r])) (sX l ds r rs sets st k) else sX l ds r rs sets st k
theorem Vh (l:List aH) (ds:List bp) (r:au) (rs:List au) (sets:List (List au)) (st:iU):∀k,sX l ds r rs sets st k=((List.range k).flatMap λk=>if pT ds (sets.getD k []) r then qw ds rs (sets.set k (sets.getD k []++[r])) else[]).foldl (oe l) st
 |0=>rfl
 |k+1=>by
  rw[List.range_succ,List.flatMap_append,List.foldl_append,<-Vh l ds r rs sets st k,sX];simp only[List.flatMap_cons,List.flatMap_nil,List.append_nil];split
  ·rfl
  ·rfl
theorem ek (l:List aH) (ds:List bp) (r:au) (rs:List au) (sets:List (List au)) (st:iU):tM l ds (r::rs) sets st=tM l ds rs (sets++[[r]]) (sX l ds r rs sets st sets.length):=by
 unfold tM;rw[qw,List.foldl_append,<-Vh]
theorem KO (l:List aH) (ds:List bp) (sets:List (List au)) (st:iU):tM l ds [] sets st=oe l st sets:=rfl
section
variable {l:List aH} {ds:List bp} {rs xs:List au} {sets out:List (List au)} {st:iU}
structure lu (ds:List bp) (xs:List au) (sets:List (List au)):Prop where
 perm:sets.flatten.Perm xs
 ne:∀s∈sets,s≠[]
 sub:∀s∈sets,s.Sublist xs
 bar:∀s∈sets,s.Pairwise λa b=>eP ds a b=false
 heads: (sets.map λs=>s.headD ⟨0,0⟩).Sublist xs
theorem lu.nil:lu ds [] []:=⟨List.Perm.refl _,by simp,by simp,by simp,by simp⟩
theorem Vi:∀{sets:List (List au)} {k:Nat} {r:au},k<sets.length->(sets.set k (sets.getD k []++[r])).flatten.Perm (sets.flatten++[r])
 |[],k,r,h=>by simp at h
 |s::ss,0,r,_=>by
  simp only[List.set_cons_zero,List.getD_cons_zero,List.flatten_cons,List.append_assoc];exact List.Perm.append_left s (List.perm_append_comm)
 |s::ss,k+1,r,h=>by
  simp only[List.set_cons_succ,List.getD_cons_succ,List.flatten_cons,List.append_assoc];exact List.Perm.append_left s (Vi (by simpa using h))
theorem Vj {s:List au} {r:au}:pT ds s r=true↔∀b∈s,eP ds b r=false:=by
 unfold pT;rw[Bool.not_eq_true',List.any_eq_false];exact⟨λh b hb=>by simpa using h b hb,λh b hb=>by rw[h b hb];decide⟩
theorem lu.put (h:lu ds xs sets) {k:Nat} {r:au} (hk:k<sets.length) (hok:pT ds (sets.getD k []) r=true):lu ds (xs++[r]) (sets.set k (sets.getD k []++[r])):=by
 have hm:sets.getD k []∈sets:=by rw[ri hk];exact List.getElem_mem _
 have hin:∀s∈sets.set k (sets.getD k []++[r]),s∈sets\/s=sets.getD k []++[r]:=λs hs=>by
  rcases List.mem_or_eq_of_mem_set hs with h|h
  ·exact .inl h
  ·exact .inr h
 refine⟨(Vi hk).trans (h.perm.append_right _),λs hs=>?_,λs hs=>?_,λs hs=>?_,?_⟩
 ·rcases hin s hs with h1|rfl
  ·exact h.ne s h1
  ·simp
 ·rcases hin s hs with h1|rfl
  ·exact(h.sub s h1).trans (List.sublist_append_left _ _)
  ·exact(h.sub _ hm).append (List.Sublist.refl _)
 ·rcases hin s hs with h1|rfl
  ·exact h.bar s h1
  ·refine List.pairwise_append.2 ⟨h.bar _ hm,List.pairwise_singleton _ _,λa ha b hb=>?_⟩;rw[List.mem_singleton] at hb;subst hb;exact Vj.1 hok a ha
 ·have e: ((sets.set k (sets.getD k []++[r])).map λs=>s.headD ⟨0,0⟩)=sets.map λs=>s.headD ⟨0,0⟩:=by
   apply List.ext_getElem?;intro i;rw[List.getElem?_map,List.getElem?_map,List.getElem?_set];by_cases e:k=i
   ·subst e;rw[if_pos rfl,if_pos hk,List.getElem?_eq_getElem hk];have hne:=h.ne _ hm;rw[ri hk] at hne⊢;cases e2:sets[k] with
    |nil=>exact absurd e2 hne
    |cons a t=>simp
   ·rw[if_neg e]
  rw[e];exact h.heads.trans (List.sublist_append_left _ _)
theorem lu.new (h:lu ds xs sets) (r:au):lu ds (xs++[r]) (sets++[[r]]):=by
 have hin:∀s∈sets++[[r]],s∈sets\/s=[r]:=λs hs=>by
  rcases List.mem_append.1 hs with h|h
  ·exact .inl h
  ·exact .inr (List.mem_singleton.1 h)
 refine⟨by rw[List.flatten_append];simpa using h.perm.append_right [r],λs hs=>?_,λs hs=>?_,λs hs=>?_,?_⟩
 ·rcases hin s hs with h1|rfl
  ·exact h.ne s h1
  ·simp
 ·rcases hin s hs with h1|rfl
  ·exact(h.sub s h1).trans (List.sublist_append_left _ _)
  ·exact List.sublist_append_right _ _
 ·rcases hin s hs with h1|rfl
  ·exact h.bar s h1
  ·exact List.pairwise_singleton _ _
 ·rw[List.map_append];exact h.heads.append (List.Sublist.refl _)
theorem Hh:∀{rs xs:List au} {sets:List (List au)},lu ds xs sets->∀out∈qw ds rs sets,lu ds (xs++rs) out
 |[],xs,sets,h,out,ho=>by
  rw[qw,List.mem_singleton] at ho;subst ho;rw[List.append_nil];exact h
 |r::rs,xs,sets,h,out,ho=>by
  rw[qw,List.mem_append,List.mem_flatMap] at ho;have e:xs++r::rs=(xs++[r])++rs:=by simp
  rw[e];rcases ho with⟨k,hk,ho⟩|ho
  ·split at ho
   ·rename_i hok;exact Hh (h.put (List.mem_range.1 hk) hok) out ho
   ·simp at ho
  ·exact Hh (h.new r) out ho
theorem A3 {sets:List (List au)} {i:Nat} {r:au} (h:i<sets.length):sets.modify i (·++[r])=sets.set i (sets.getD i []++[r]):=by
 apply List.ext_getElem?;intro j;rw[List.getElem?_modify,List.getElem?_set,ri h];by_cases e:i=j
 ·subst e;simp[h]
 ·simp[e]
theorem Oi {dw:Type} [DecidableEq dw] (f:au->dw):∀(rs xs:List au),(∀a∈xs++rs,∀b∈xs++rs,a≠b->f a=f b->eP ds a b=false)->(xs++rs).Nodup->iJ f (xs++rs)∈qw ds rs (iJ f xs)
 |[],xs,_,_=>by rw[List.append_nil,qw,List.mem_singleton]
 |r::rs,xs,hb,hn=>by
  have e:xs++r::rs=(xs++[r])++rs:=by simp
  rw[e] at hb hn⊢;have ih:=Oi f rs (xs++[r]) hb hn;rw[qw,List.mem_append,List.mem_flatMap];by_cases hq:∃q∈eC f xs,f q=f r
  ·obtain⟨q,hq,KM⟩:=hq;obtain⟨i,hi,rfl⟩:=List.getElem_of_mem hq;left;refine⟨i,List.mem_range.2 (by rw[oa];exact hi),?_⟩;have hlt:i<(iJ f xs).length:=by rw[oa];exact hi
   rw[if_pos]
   ·have h2:=Ub (xs:=xs) (r:=r) hi KM;rw[h2.2,A3 hlt] at ih;exact ih
   ·rw[Vj];intro b KN;rw[ri hlt,EL hlt,List.mem_filter,decide_eq_true_eq] at KN;refine hb b (by simp[KN.1]) r b_ (λe=>?_) (by rw[KN.2,KM]);subst e;have:=(List.nodup_append.1 (List.nodup_append.1 hn).1).2.2 b KN.1 b b_;exact this rfl
  ·right;have h2:=Uc (xs:=xs) (r:=r) (f:=f) (λq bf e=>hq ⟨q,bf,e⟩);rw[h2.2] at ih;exact ih
end
section
variable {l:List aH} {ds:List bp} {rs xs:List au} {sets out ps:List (List au)} {st:iU}
structure Good (l:List aH) (L:List (List (List au))) (st:iU):Prop where
 no:st.found=false->∀s∈L,pU l s=false
 yes:st.found=true->(∃s∈L,pU l s=true/\st.best=gV s/\st.val=fc l (gV s))/\∀s∈L,pU l s=true->fc l (gV s)<=st.val
theorem Good.step {L:List (List (List au))} (h:Good l L st) (s:List (List au)):Good l (L++[s]) (oe l st s):=by
 unfold oe;by_cases hc:pU l s=true/\(st.found=false\/st.val<fc l (gV s))
 ·rw[if_pos hc];refine⟨λe=>(by cases e),λ_=>⟨⟨s,by simp,hc.1,rfl,rfl⟩,λs' hs' hf=>?_⟩⟩;rcases List.mem_append.1 hs' with h1|h1
  ·show fc l (gV s')<=fc l (gV s);cases e:st.found with
   |false=>rw[h.no e s' h1] at hf;cases hf
   |true=>
    have h2:=(h.yes e).2 s' h1 hf;have h3:=hc.2.resolve_left (by rw[e];decide);omega
  ·rw[List.mem_singleton] at h1;subst h1;exact Int.le_refl _
 ·rw[if_neg hc];refine⟨λe s' hs'=>?_,λe=>⟨?_,λs' hs' hf=>?_⟩⟩
  ·rcases List.mem_append.1 hs' with h1|h1
   ·exact h.no e s' h1
   ·rw[List.mem_singleton] at h1;subst h1;rw[Bool.eq_false_iff];intro hf;exact hc ⟨hf,.inl e⟩
  ·obtain⟨⟨q,h1,h2⟩,_⟩:=h.yes e;exact⟨q,by simp[h1],h2⟩
  ·rcases List.mem_append.1 hs' with h1|h1
   ·exact(h.yes e).2 s' h1 hf
   ·rw[List.mem_singleton] at h1;subst h1;apply Classical.byContradiction;intro hn;exact hc ⟨hf,.inr af⟩
theorem Good.fold {Bu:List (List (List au))}:∀(L:List (List (List au))) {st:iU} {Bu:List (List (List au))},Good l Bu st->Good l (Bu++L) (L.foldl (oe l) st)
 |[],st,Bu,h=>by rw[List.append_nil];exact h
 |s::L,st,Bu,h=>by
  have:=Good.fold (Bu:=Bu) L (h.step s);rw[List.append_assoc] at this;exact this
theorem Good.start:Good l [] sW:=⟨λ_ s h=>by simp at h,λe=>by cases e⟩
theorem X2 (f:au->au) (hf:∀a b,f a=f b->a=b) (hn:xs.Nodup):gV (iJ f xs)=[]:=by
 unfold gV;rw[List.filter_eq_nil_iff];intro s hs;obtain⟨i,hi,rfl⟩:=List.getElem_of_mem hs;rw[EL hi];simp only[decide_eq_true_eq];intro h2;have gi:=hn.sublist (List.filter_sublist (p:=λr=>decide (f r=f ((eC f xs)[i]'(by rwa [oa] at hi)))));generalize hL:List.filter (λr=>decide (f r=f ((eC f xs)[i]'(by rwa [oa] at hi)))) xs=L at*;have h0:L[0]∈L:=List.getElem_mem _;have h1:L[1]∈L:=List.getElem_mem _;have e0:f L[0]=f L[1]:=by
  have a:∀z∈L,f z=f ((eC f xs)[i]'(by rwa [oa] at hi)):=λz hz=>by
   rw[<-hL,List.mem_filter] at hz;exact of_decide_eq_true hz.2
  rw[a _ h0,a _ h1]
 have:=List.pairwise_iff_getElem.1 (List.nodup_iff_pairwise_ne.1 gi) 0 1 af af af;exact this (hf _ _ e0)
theorem gx (l:List aH) (ds:List bp):∃s,lu ds (aM l) s/\pU l s=true/\rj l ds=gV s/\
  (tM l ds (aM l) [] sW).val=fc l (rj l ds)/\
  ∀{dw:Type} [DecidableEq dw] (f:au->dw),(∀a∈aM l,∀b∈aM l,a≠b->f a=f b->eP ds a b=false)->pU l (iJ f (aM l))=true->fc l (gV (iJ f (aM l)))<=fc l (rj l ds):=by
 have lP:Good l (qw ds (aM l) []) (tM l ds (aM l) [] sW):=by
  have:=Good.fold (Bu:=[]) (qw ds (aM l) []) (Good.start (l:=l));exact this
 have hn:=xM l;have hid:iJ (id:au->au) (aM l)∈qw ds (aM l) []:=by
  have:=Oi (ds:=ds) (id:au->au) (aM l) [] (λa _ b _ hne e=>absurd e hne) (by simpa using hn);exact this
 have lg:pU l (iJ (id:au->au) (aM l))=true:=by
  unfold pU;rw[X2 id (λa b e=>e) hn];rfl
 have hfound: (tM l ds (aM l) [] sW).found=true:=by
  cases e: (tM l ds (aM l) [] sW).found with
  |true=>rfl
  |false=>have:=lP.no e _ hid;rw[lg] at this;cases this
 obtain⟨⟨s,h1,h2,h3,h4⟩,h5⟩:=lP.yes hfound;refine⟨s,by have:=Hh lu.nil s h1;simpa using this,h2,h3,by rw[h4];unfold rj;rw[h3],λf hb qx=>?_⟩;have:=Oi (ds:=ds) f (aM l) [] (by simpa using hb) (by simpa using hn);have h6:=h5 _ this qx;rw[h4] at h6;unfold rj;rw[h3];exact h6
theorem gy {s:List au} {a b:au} (ha:a∈s) (hb:b∈s) (hne:a≠b):2<=s.length:=by
 rcases s with _|⟨x,_|⟨y,t⟩⟩
 ·simp at ha
 ·simp at ha hb;subst ha;exact absurd hb.symm hne
 ·simp
structure eU (l:List aH) (ds:List bp) (ps:List (List au)):Prop where
 jw:∀p∈ps,p.Pairwise eF
 len:∀p∈ps,2<=p.length
 bar:∀p∈ps,p.Pairwise λa b=>eP ds a b=false
 join:∀p∈ps,sV l p
 zR:ps.flatten.Nodup
 heads:ps.Pairwise λp q=>eF (p.headD ⟨0,0⟩) (q.headD ⟨0,0⟩)
theorem Vk {s:List au} (h:sV l s) (h2:2<=s.length) (hn:s.Nodup) {r:au} (hr:r∈s):r∈aM l:=by
 apply Classical.byContradiction;intro hno;have Vl:r∉aM (jh l s):=λhm=>by
  obtain⟨x,hx,e⟩:=jG.1 hm;exact hno (jG.2 ⟨x,(List.mem_filter.1 hx).1,e⟩)
 obtain⟨q,hq,hne⟩:∃q∈s,q≠r:=by
  have h0:=List.getElem_mem (l:=s) (n:=0) af;have h1:=List.getElem_mem (l:=s) (n:=1) af;have hne:=List.pairwise_iff_getElem.1 (List.nodup_iff_pairwise_ne.1 hn) 0 1 af af af;by_cases e:s[0]=r
  ·exact⟨_,h1,λe2=>hne (by rw[e,e2])⟩
  ·exact⟨_,h0,e⟩
 have e1:=h q hq r hr;rw[Ua Vl] at e1;by_cases iq:q∈aM (jh l s)
 ·have:=T_.2 iq;rw[e1] at this;exact Vl this
 ·rw[Ua iq] at e1;exact hne e1
theorem eU.nodup (h:eU l ds ps) {p:List au} (hp:p∈ps):p.Nodup:=CS (h.jw p hp)
theorem eU.refs (h:eU l ds ps) {p:List au} (hp:p∈ps) {r:au} (hr:r∈p):r∈aM l:=Vk (h.join p hp) (h.len p hp) (h.nodup hp) hr
theorem Vf {x:aH} (h:okB x):x.A≠x.B:=λe=>by
 have:=h.1;unfold iB at this;rw[e] at this;simp at this
end
def wI (c d:iN):Prop:=eF c.A d.A\/c.A=d.A/\eF c.B d.B
section
variable {m:tK} {sh KP:List (List dP)} {n k r s q i j:Nat} {x y:dP} {l:List dP}
theorem s4 (h:l.Pairwise λx y=>x.rc.id<y.rc.id): (oc m r s x l).Pairwise wI:=by
 unfold oc;rw[List.pairwise_map];exact(h.filter _).imp λ{a b} hab=> .inr ⟨rfl,.inr ⟨rfl,hab⟩⟩
theorem Oj {c:iN}:c∈oc m r s x l↔∃y∈l,r6 x y=true/\c=tL m ⟨r,x.rc.id⟩ ⟨s,y.rc.id⟩ x y:=by
 unfold oc;simp only[List.mem_map,List.mem_filter];exact⟨λ⟨y,⟨h1,h2⟩,e⟩=>⟨y,h1,h2,e.symm⟩,λ⟨y,h1,h2,e⟩=>⟨y,⟨h1,h2⟩,e.symm⟩⟩
theorem Ol {c:iN}:c∈od m sh r x q->c.A=⟨r,x.rc.id⟩:=λh=>by
 unfold od at h;obtain⟨s,_,h⟩:=List.mem_flatMap.1 h;obtain⟨y,_,_,rfl⟩:=Oj.1 h;rfl
theorem c9 (h:q_ n k sh): (od m sh r x q).Pairwise wI:=by
 unfold od;rw[List.pairwise_flatMap];refine⟨λs _=>s4 (h.at_ s).jw,(List.pairwise_lt_range' (s:=r+1) (n:=q) (step:=1)).imp λ{a b} hab c hc d hd=>?_⟩;obtain⟨y,_,_,rfl⟩:=Oj.1 hc;obtain⟨z,_,_,rfl⟩:=Oj.1 hd;exact .inr ⟨rfl,.inl (by show(a:Int)<b;omega)⟩
theorem Vm {c:iN}:c∈m_ m sh r l->c.A.a=r:=λh=>by
 obtain⟨x,_,h⟩:=List.mem_flatMap.1 h;rw[Ol h]
theorem cA (h:q_ n k sh) (hl:l.Pairwise λx y=>x.rc.id<y.rc.id): (m_ m sh r l).Pairwise wI:=by
 unfold m_;rw[List.pairwise_flatMap];refine⟨λx _=>c9 h,hl.imp λ{a b} hab c hc d hd=>?_⟩;have h1:=Ol hc;have h2:=Ol hd;refine .inl ?_;rw[h1,h2];exact .inr ⟨rfl,hab⟩
theorem Vn (h:q_ n k sh): (ja m sh q).Pairwise wI:=by
 unfold ja;rw[List.pairwise_flatMap];refine⟨λr _=>cA h (h.at_ r).jw,List.pairwise_lt_range.imp λ{a b} hab c hc d hd=>?_⟩;have h1:=Vm hc;have h2:=Vm hd;refine .inl (.inl ?_);rw[h1,h2];omega
theorem Vo {c d:iN} (h:wI c d):sQ c.A c.B d.A d.B<0:=by
 have h1:= @Np ⟨c.A,c.B,0⟩ ⟨d.A,d.B,0⟩;have h2:kN ⟨c.A,c.B,0⟩ ⟨d.A,d.B,0⟩:=h;have h3:¬0<=sQ c.A c.B d.A d.B:=λe=>h1.1 e h2;omega
structure Hi (m:tK):Prop where
 w:mg m.pr m.aJ m.df
 t:m.bK.length=m.aJ.length
theorem Hi.wt (h:Hi m) (a b:au) (x y:dP):-393216<=(tL m a b x y).wt/\(tL m a b x y).wt<=393216:=h.w.sc _ (Nat.le_refl _)
theorem pS (h:q_ n k sh) {c:iN} (hc:c∈ja m sh q):iB c.A c.B=true:=by
 obtain⟨r,s,x,y,_,h1,h2,hx,hy,_,rfl⟩:=Va.1 hc;have hl:=h.len;have e1:=((h.at_ r).all x hx).id;have e2:=((h.at_ s).all y hy).id;unfold De at e1 e2;unfold iB nI tL;simp only[Bool.and_eq_true,decide_eq_true_eq];omega
theorem Vp (h:q_ n k sh) (hm:Hi m):∀c∈ja m sh q,iB c.A c.B=true/\-1048576<=c.wt/\c.wt<=1048576:=λc hc=>by
 have e:=pS h hc;obtain⟨r,s,x,y,_,_,_,_,_,_,rfl⟩:=Va.1 hc;have:=hm.wt ⟨r,x.rc.id⟩ ⟨s,y.rc.id⟩ x y;exact⟨e,by omega,by omega⟩
structure zS (n k:Nat) (l:List dP) (id:Int):Prop where
 all:∀x∈l,U0 n k x
 jw:l.Pairwise λx y=>x.rc.id<y.rc.id
 top:∀x∈l,x.rc.id<=id
 Vq:0<=id
 Om:id<=2*l.length
 cK:∀x∈l,x.rc.ver<=2
def KQ (n k:Nat) (l:List dP):Prop:=He n k l/\∀x∈l,x.rc.ver<=2
theorem zS.nil:zS n k [] 0:=⟨by simp,List.Pairwise.nil,by simp,by omega,by simp,by simp⟩
theorem zS.snoc {l:List dP} {id id' ver:Int} {fl:List Bits} {hl:List j5} {kG:List Bool} (h:zS n k l id) (h1:id<id') (h2:id'<=id+2) (v1:1<=ver) (v2:ver<=2) (hm:l.length<=100) (hf:fl.length=n) (hg:∀b∈fl,pQ b) (hh:hl.length=k) (hb:kG.length=k):
  zS n k (l++[⟨⟨id',ver,fl⟩,hl,kG⟩]) id':=by
 have h0:=h.Vq;have h3:=h.Om;refine⟨λx hx=>?_,?_,λx hx=>?_,by omega,by simp only[List.length_append,List.length_cons,List.length_nil];omega,λx hx=>?_⟩
 ·rcases List.mem_append.1 hx with hx|hx
  ·exact h.all x hx
  ·rw[List.mem_singleton.1 hx];exact⟨⟨by show 1<=id';omega,by show id'<=1048576;omega⟩,⟨v1,by show ver<=1048576;omega⟩,hf,hg,hh,hb⟩
 ·rw[List.pairwise_append];refine⟨h.jw,List.pairwise_singleton _ _,λx hx y hy=>?_⟩;rw[List.mem_singleton.1 hy];have:=h.top x hx;show x.rc.id<id';omega
 ·rcases List.mem_append.1 hx with hx|hx
  ·have:=h.top x hx;omega
  ·rw[List.mem_singleton.1 hx];exact Int.le_refl _
 ·rcases List.mem_append.1 hx with hx|hx
  ·exact h.cK x hx
  ·rw[List.mem_singleton.1 hx];exact v2
theorem zS.ok {l:List dP} {id:Int} (h:zS n k l id) (hl:l.length<=4):KQ n k l:=⟨⟨hl,h.all,h.jw⟩,h.cK⟩
def x9:List j5:=[⟨255⟩,⟨254⟩,⟨61680⟩,⟨1⟩,⟨4294901760⟩,⟨0⟩]
theorem oN {k:Nat} (h:k<x9.length):nK (x9[k]).n:=by
 have h1:∀x∈x9,nK x.n:=by simp[x9,nK]
 exact h1 _ (List.getElem_mem h)
end
section
variable {l:List aH} {ds:List bp} {ps E:List (List au)}
theorem Hj {α:Type}:∀{a b:List (List α)},a.Sublist b->a.flatten.Sublist b.flatten
 |_,_,.slnil=>List.Sublist.refl _
 |_,_,.cons x h=>by rw[List.flatten_cons];exact(Hj h).trans (List.sublist_append_right _ _)
 |_,_,.cons_cons x h=>by rw[List.flatten_cons,List.flatten_cons];exact(List.Sublist.refl _).append (Hj h)
theorem Vr (l:List aH) (ds:List bp):eU l ds (rj l ds):=by
 obtain⟨s,hI,hf,he,_,_⟩:=gx l ds;rw[he];have hsub: (gV s).Sublist s:=List.filter_sublist;have hm:∀p∈gV s,p∈s/\2<=p.length:=λp hp=>by
  have:=List.mem_filter.1 hp;exact⟨this.1,of_decide_eq_true this.2⟩
 refine⟨λp hp=>(zy l).sublist (hI.sub p (hm p hp).1),λp hp=>(hm p hp).2,λp hp=>hI.bar p (hm p hp).1,λp hp=>?_,?_,?_⟩
 ·exact Oh.1 (List.all_eq_true.1 hf p hp)
 ·exact(hI.perm.nodup_iff.2 (xM l)).sublist (Hj hsub)
 ·have h1: (s.map λp=>p.headD ⟨0,0⟩).Pairwise eF:=(zy l).sublist hI.heads;rw[List.pairwise_map] at h1;exact h1.sublist hsub
theorem Dg {i:Nat} (h:i<(aY l).length):i<(eC (bZ l) (aM l)).length:=by simpa[aY] using h
theorem Vs {i:Nat} (h:i<(aY l).length):i<(dU l).length:=by unfold dU;rw[oa];exact Dg h
theorem uV {i:Nat} (h:i<(aY l).length) {r:au}:r∈aM (aY l)[i]↔r∈aM l/\bZ l r=bZ l ((eC (bZ l) (aM l))[i]'(Dg h)):=by
 rw[Og h (Vs h),Ve (Vs h),List.mem_filter,decide_eq_true_eq]
theorem On {i:Nat} (h:i<(aY l).length) {x:aH}:x∈(aY l)[i]↔x∈l/\bZ l x.A=bZ l ((eC (bZ l) (aM l))[i]'(Dg h)):=by
 rw[Hg h,List.mem_filter,decide_eq_true_eq]
theorem Oo {i j:Nat} (hi:i<(aY l).length) (hj:j<(aY l).length) {r:au} (h1:r∈aM (aY l)[i]) (h2:r∈aM (aY l)[j]):i=j:=by
 have a:=(uV hi).1 h1;have b:=(uV hj).1 h2;exact Kc (Dg hi) (Dg hj) (by rw[<-a.2,b.2])
theorem Zt {r:au} (h:r∈aM l):∃i,∃hi:i<(aY l).length,r∈aM (aY l)[i]:=by
 obtain⟨q,hq,e⟩:=Nu (f:=bZ l) h;obtain⟨i,hi,rfl⟩:=List.getElem_of_mem hq;have hi2:i<(aY l).length:=by simpa[aY] using hi
 exact⟨i,hi2,(uV hi2).2 ⟨h,e.symm⟩⟩
theorem Vt {l l':List aH} {s:List au} (h:∀x∈l,x∈l') (hj:sV l s):sV l' s:=λx hx y hy=>
 Ns (l:=jh l s) (l':=jh l' s) (λz hz=>by
  have:=List.mem_filter.1 hz;exact List.mem_filter.2 ⟨h z this.1,this.2⟩) (hj x hx y hy)
theorem Zq {Q:Nat->List (List au)} (hQ:∀i (h:i<(aY l).length),eU (aY l)[i] ds (Q i)) (hp:E.Perm ((List.range (aY l).length).flatMap Q)) (hs:E.Pairwise λp q=>eF (p.headD ⟨0,0⟩) (q.headD ⟨0,0⟩)):
  eU l ds E/\∀i (h:i<(aY l).length),fc (aY l)[i] E=fc (aY l)[i] (Q i):=by
 have hm:∀p,p∈E↔∃i,∃h:i<(aY l).length,p∈Q i:=λp=>by
  rw[hp.mem_iff,List.mem_flatMap];exact⟨λ⟨i,h1,h2⟩=>⟨i,List.mem_range.1 h1,h2⟩,λ⟨i,h1,h2⟩=>⟨i,List.mem_range.2 h1,h2⟩⟩
 refine⟨⟨λp hp=>?_,λp hp=>?_,λp hp=>?_,λp hp=>?_,?_,hs⟩,λi h=>?_⟩
 ·obtain⟨i,h,h2⟩:=(hm p).1 hp;exact(hQ i h).jw p h2
 ·obtain⟨i,h,h2⟩:=(hm p).1 hp;exact(hQ i h).len p h2
 ·obtain⟨i,h,h2⟩:=(hm p).1 hp;exact(hQ i h).bar p h2
 ·obtain⟨i,h,h2⟩:=(hm p).1 hp;exact Vt (λx hx=>((On h).1 hx).1) ((hQ i h).join p h2)
 ·rw[hp.flatten.nodup_iff];have key:∀k,k<=(aY l).length->((List.range k).flatMap Q).flatten.Nodup/\∀r∈((List.range k).flatMap Q).flatten,∃i,∃h:i<(aY l).length,i<k/\r∈aM (aY l)[i]:=by
   intro k
   induction k with
   |zero=>intro _;simp
   |succ k ih=>
    intro hk;obtain⟨h1,h2⟩:=ih af;have ay:k<(aY l).length:=by omega
    have e: ((List.range (k+1)).flatMap Q).flatten=((List.range k).flatMap Q).flatten++(Q k).flatten:=by
     rw[List.range_succ,List.flatMap_append,List.flatten_append];simp
    have hin:∀r∈(Q k).flatten,r∈aM (aY l)[k]:=λr hr=>by
     obtain⟨p,hp,hr⟩:=List.mem_flatten.1 hr;exact(hQ k ay).refs hp hr
    rw[e];refine⟨List.nodup_append.2 ⟨h1,(hQ k ay).zR,λa ha b hb e2=>?_⟩,λr hr=>?_⟩
    ·subst e2;obtain⟨i,hi,hik,h3⟩:=h2 a ha;have:=Oo hi ay h3 (hin a hb);omega
    ·rcases List.mem_append.1 hr with h3|h3
     ·obtain⟨i,hi,hik,h4⟩:=h2 r h3;exact⟨i,hi,by omega,h4⟩
     ·exact⟨k,ay,by omega,hin r h3⟩
  exact(key _ (Nat.le_refl _)).1
 ·unfold fc;congr 2;refine List.filter_congr λx hx=>?_;rw[Bool.eq_iff_iff,List.any_eq_true,List.any_eq_true];constructor
  ·rintro⟨p,hp,h2⟩;obtain⟨j,hj,h3⟩:=(hm p).1 hp;have hin:=h2;unfold uU at hin;rw[decide_eq_true_eq] at hin;have h4:=(hQ j hj).refs h3 hin.1;have h5:x.A∈aM (aY l)[i]:=jG.2 ⟨x,hx,.inl rfl⟩;have:=Oo hj h h4 h5;subst this;exact⟨p,h3,h2⟩
  ·rintro⟨p,hp,h2⟩;exact⟨p,(hm p).2 ⟨i,h,hp⟩,h2⟩
end
def iO (x y:aH):Int:=kD y.w x.w
theorem wJ:mZ iO (λ_=>True):=⟨λx y _ _=>by unfold iO kD;split<;>split<;>(try split)<;>(try split)<;>omega,λx y z _ _ _=>by unfold iO kD;split<;>split<;>(try split)<;>(try split)<;>(try split)<;>omega⟩
def ya (ds:List bp) (p q:List au):Bool:=p.any λr=>q.any (eP ds r)
def qy (ds:List bp) (g:au->List au) (b:aH):au->List au:=
 if b.B∈g b.A\/ya ds (g b.A) (g b.B)=true then g else λr=>if r∈g b.A++g b.B then g b.A++g b.B else g r
def ef (ds:List bp) (ord:List aH):au->List au:=ord.foldl (qy ds) λr=>[r]
def yb (g:au->List au) (r:au):Bool:=decide (1<(jS (g r)).length/\(jS (g r)).head?=some r)
def og (refs:List au) (g:au->List au):List (List au):=(refs.filter (yb g)).map λr=>jS (g r)
noncomputable def sY (l:List aH) (ds:List bp):List (List au):=og (aM l) (ef ds (uT iO l))
section
variable {l:List aH} {ds:List bp} {g:au->List au} {refs:List au}
theorem Vu {p q:List au}:ya ds p q=false↔∀r∈p,∀o∈q,eP ds r o=false:=by
 unfold ya;rw[List.any_eq_false];constructor
 ·intro h r hr o ho;have:=h r hr;rw[Bool.not_eq_true,List.any_eq_false] at this;simpa using this o ho
 ·intro h r hr;rw[Bool.not_eq_true,List.any_eq_false];intro o ho;simp[h r hr o ho]
structure jW (l:List aH) (ds:List bp) (g:au->List au):Prop where
 self:∀r,r∈g r
 same:∀r,∀q∈g r,g q=g r
 nd:∀r,(g r).Nodup
 bar:∀r,∀a∈g r,∀b∈g r,a≠b->eP ds a b=false
 join:∀r,sV l (g r)
theorem jW.start:jW l ds (λr=>[r]):=
 ⟨λr=>by simp,λr q hq=>by rw[List.mem_singleton.1 hq],λr=>by simp,λr a ha b hb hne=>absurd (by rw[List.mem_singleton.1 ha,List.mem_singleton.1 hb]) hne,λr x hx y hy=>by rw[List.mem_singleton.1 hx,List.mem_singleton.1 hy]⟩
theorem jW.apart (h:jW l ds g) {a b:au} (hab:b∉g a):∀r∈g a,r∉g b:=λr h1 h2=>by
 have e1:=h.same a r h1;have e2:=h.same b r h2;exact hab (by rw[<-e1,e2];exact h.self b)
theorem jW.step (h:jW l ds g) {b:aH} (hb:b∈l):jW l ds (qy ds g b):=by
 unfold qy;split
 ·exact h
 ·rename_i hn;have h1:b.B∉g b.A:=λe=>hn (.inl e);have h2:ya ds (g b.A) (g b.B)=false:=Bool.eq_false_iff.2 λe=>hn (.inr e);have hap:=h.apart h1;have hin:∀r q,r∈g b.A++g b.B->(q∈g r->q∈g b.A++g b.B):=λr q hr hq=>by
   rcases List.mem_append.1 hr with h3|h3
   ·rw[h.same _ r h3] at hq;exact List.mem_append.2 (.inl hq)
   ·rw[h.same _ r h3] at hq;exact List.mem_append.2 (.inr hq)
  have hJ:sV l (g b.A++g b.B):=by
   have ka:∀x∈g b.A,∀y∈g b.A,bZ (jh l (g b.A++g b.B)) x=bZ (jh l (g b.A++g b.B)) y:=λx hx y hy=>
    Ns (l:=jh l (g b.A)) (λz hz=>by
     obtain⟨a1,a2⟩:=List.mem_filter.1 hz;rw[decide_eq_true_eq] at a2;exact List.mem_filter.2 ⟨a1,by rw[decide_eq_true_eq];exact⟨List.mem_append.2 (.inl a2.1),List.mem_append.2 (.inl a2.2)⟩⟩) (h.join _ x hx y hy)
   have kb:∀x∈g b.B,∀y∈g b.B,bZ (jh l (g b.A++g b.B)) x=bZ (jh l (g b.A++g b.B)) y:=λx hx y hy=>
    Ns (l:=jh l (g b.B)) (λz hz=>by
     obtain⟨a1,a2⟩:=List.mem_filter.1 hz;rw[decide_eq_true_eq] at a2;exact List.mem_filter.2 ⟨a1,by rw[decide_eq_true_eq];exact⟨List.mem_append.2 (.inr a2.1),List.mem_append.2 (.inr a2.2)⟩⟩) (h.join _ x hx y hy)
   have Gv:bZ (jh l (g b.A++g b.B)) b.A=bZ (jh l (g b.A++g b.B)) b.B:=
    zz (List.mem_filter.2 ⟨hb,by rw[decide_eq_true_eq];exact⟨List.mem_append.2 (.inl (h.self _)),List.mem_append.2 (.inr (h.self _))⟩⟩)
   have all:∀x∈g b.A++g b.B,bZ (jh l (g b.A++g b.B)) x=bZ (jh l (g b.A++g b.B)) b.A:=λx hx=>by
    rcases List.mem_append.1 hx with h3|h3
    ·exact ka x h3 _ (h.self _)
    ·rw[kb x h3 _ (h.self _),Gv]
   exact λx hx y hy=>by rw[all x hx,all y hy]
  refine⟨λr=>?_,λr q hq=>?_,λr=>?_,λr a ha c hc hne=>?_,λr=>?_⟩
  ·show r∈(if r∈g b.A++g b.B then g b.A++g b.B else g r);split
   ·rename_i h3;exact h3
   ·exact h.self r
  ·split at hq
   ·rename_i h3;rw[if_pos hq,if_pos h3]
   ·rename_i h3;have h4:q∉g b.A++g b.B:=λe=>by
     have:=hin q r e (by rw[h.same r q hq];exact h.self r);exact h3 this
    rw[if_neg h3,if_neg h4];exact h.same r q hq
  ·split
   ·exact List.nodup_append.2 ⟨h.nd _,h.nd _,λa ha c hc e=>hap a ha (e▸hc)⟩
   ·exact h.nd r
  ·split at ha
   ·rename_i h3;rw[if_pos h3] at hc;rcases List.mem_append.1 ha with h4|h4
    ·rcases List.mem_append.1 hc with h5|h5
     ·exact h.bar _ a h4 c h5 hne
     ·exact Vu.1 h2 a h4 c h5
    ·rcases List.mem_append.1 hc with h5|h5
     ·rw[Vg];exact Vu.1 h2 c h5 a h4
     ·exact h.bar _ a h4 c h5 hne
   ·rename_i h3;rw[if_neg h3] at hc;exact h.bar r a ha c hc hne
  ·split
   ·exact hJ
   ·exact h.join r
theorem jW.fold:∀(ord:List aH) {g:au->List au},jW l ds g->(∀b∈ord,b∈l)->jW l ds (ord.foldl (qy ds) g)
 |[],g,h,_=>h
 |b::ord,g,h,hm=>jW.fold ord (h.step (hm b b_)) λc hc=>hm c (by simp[hc])
theorem mj {s:List au} {r:au}:r∈jS s↔r∈s:=(zx s).mem_iff
theorem KR (s:List au) (hn:s.Nodup): (jS s).Pairwise eF:=by
 have h1:=TW s;have h2: (jS s).Nodup:=(zx s).nodup_iff.2 hn;refine(h1.and (List.nodup_iff_pairwise_ne.1 h2)).imp λ{a b} ⟨h3,h4⟩=>?_;rcases J8 a b with h|h|h
 ·exact h
 ·exact absurd h h4
 ·exact absurd h (J6.1 h3)
theorem jW.out (h:jW l ds g) (hr:refs.Pairwise eF):eU l ds (og refs g):=by
 have hm:∀p∈og refs g,∃r∈refs,p=jS (g r)/\1<(jS (g r)).length/\(jS (g r)).head?=some r:=λp hp=>by
  obtain⟨r,hr,rfl⟩:=List.mem_map.1 hp;obtain⟨h1,h2⟩:=List.mem_filter.1 hr;exact⟨r,h1,rfl,of_decide_eq_true h2⟩
 have Vv:∀r,(jS (g r)).head?=some r->(jS (g r)).headD ⟨0,0⟩=r:=λr e=>by rw[List.headD_eq_head?_getD,e];rfl
 refine⟨λp hp=>?_,λp hp=>?_,λp hp=>?_,λp hp=>?_,?_,?_⟩
 ·obtain⟨r,_,rfl,_⟩:=hm p hp;exact KR _ (h.nd r)
 ·obtain⟨r,_,rfl,h2,_⟩:=hm p hp;exact h2
 ·obtain⟨r,_,rfl,_⟩:=hm p hp;exact List.pairwise_iff_getElem.2 λi j hi hj hij=>h.bar r _ (mj.1 (List.getElem_mem _)) _ (mj.1 (List.getElem_mem _)) (λe=>by
   have:=List.pairwise_iff_getElem.1 (KR _ (h.nd r)) i j hi hj hij;rw[e] at this;exact EI _ this)
 ·obtain⟨r,_,rfl,_⟩:=hm p hp;exact sV.congr (λq=>mj.symm) (h.join r)
 ·have key:∀rs:List au,rs.Nodup->(∀r∈rs,(jS (g r)).head?=some r)->(rs.map λr=>jS (g r)).flatten.Nodup:=by
   intro rs
   induction rs with
   |nil=>intro _ _;simp
   |cons a t ih=>
    intro hn hh;have hn2:=List.nodup_cons.1 hn;rw[List.map_cons,List.flatten_cons];refine List.nodup_append.2 ⟨(zx _).nodup_iff.2 (h.nd a),ih hn2.2 λr hr=>hh r (by simp[hr]),λx hx y hy e=>?_⟩;subst e;obtain⟨p,hp,wv⟩:=List.mem_flatten.1 hy;obtain⟨r,hr,rfl⟩:=List.mem_map.1 hp;have e1:=h.same a x (mj.1 hx);have e2:=h.same r x (mj.1 wv);have h3:=hh a b_;have h4:=hh r (by simp[hr]);rw[<-e1,e2,h4] at h3;injection h3 with h3;subst h3;exact hn2.1 hr
  refine key _ ((CS hr).sublist List.filter_sublist) λr hr=>?_;exact(of_decide_eq_true (List.mem_filter.1 hr).2).2
 ·unfold og;rw[List.pairwise_map];refine List.Pairwise.imp_of_mem ?_ (hr.sublist List.filter_sublist);intro a b ha hb hab;rw[Vv a (of_decide_eq_true (List.mem_filter.1 ha).2).2,Vv b (of_decide_eq_true (List.mem_filter.1 hb).2).2];exact hab
theorem x6 (l:List aH) (ds:List bp) {ord:List aH} (ho:∀b∈ord,b∈l):eU l ds (og (aM l) (ef ds ord)):=(jW.fold ord jW.start ho).out (zy l)
end
section
variable {P:Program} {N:Nat} {env:Env} {x y:Operand} {t u:TypeId} {a b:Bool} {w:World}
theorem q5 (ht:P.underlying t=some .bool) (op:BinOp) (a b:Bool): (eqGuard op t x y (.bool a) (.bool b)).run P w=.ok () w:=by
 have h8: (Op.eqGuardIn Op.maxDepth t (.bool a) (.bool b)).run P w=.ok false w:=by
  rw[show Op.maxDepth=(Op.maxDepth-1)+1 from rfl,Op.eqGuardIn];simp[run_underlying ht]
 unfold eqGuard;cases op<;>simp[Sem.run_bind,Sem.run_pure,Sem.run_ite,run_program,Result.andThen_ok,h8]<;>(cases P.eqGuardType P.depth t<;>simp[h8])
theorem KS (ht:P.underlying t=some .bool) (hx:ev env x=some (.bool a)) (hy:ev env y=some (.bool b)):cE P N env (.binOp .neq t x y u) w (.bool (decide (a≠b))):=mk' λρ hρ o ho=>by
 have h7: (Op.equal t (.bool a) (.bool b)).run P w=.ok (a==b) w:=Go.run_equal_bool w t a b ht;have gq: (binOp .neq t (.bool a) (.bool b)).run P w=.ok (.bool (decide (a≠b))) w:=by
  show(Op.equal t (.bool a) (.bool b)>>=λz=>pure (Value.bool (!z))).run P w=_;rw[Sem.run_bind,h7];cases a<;>cases b<;>rfl
 unfold execOp;rw[ho];simp only[hρ _ _ hx,hρ _ _ hy];simp[Sem.run_bind,q5 ht,gq]
end
section
variable {dw β:Type} [DecidableEq dw] {kv:dw->Value} {cW:β->Value} {m:List (dw×β)} {w:World} {C:Nat->Nat} {j b:Nat}
variable {P:Program} {N:Nat} {env:Env} {x y z:Operand} {t kt et:TypeId}
end
section
variable {α:Type} [bn α] {w:World} {C:Nat->Nat} {j:Nat} {xs:List α} {v:Value} {e:TypeId} {g i off k:Nat}
variable {P:Program} {N:Nat} {env:Env} {y z:Operand} {t:TypeId} {u:Value} {us:List Value}
theorem q6 {cs:List Value} {p s:Nat} (hp:p+s<=cs.length) (hl:us.length=k) (ho:off+k<=s):
  cR (cs.take (p+off)++us++cs.drop (p+off+k)).toArray p s=(cR cs.toArray p s).take off++us++(cR cs.toArray p s).drop (off+k):=by
 have l1: (cs.take (p+off)).length=p+off:=by rw[List.length_take];omega
 have l2: (cR cs.toArray p s).length=s:=by simp only[cR,List.length_take,List.length_drop];omega
 have hA:∀m,m<s->(cR cs.toArray p s)[m]?=cs[p+m]?:=λm hm=>by simp only[cR,List.getElem?_take,List.getElem?_drop,if_pos hm]
 generalize ajN:cR cs.toArray p s=A at*;have l3: (A.take off).length=off:=by rw[List.length_take];omega
 apply List.ext_getElem?;intro m;simp only[cR,List.getElem?_take,List.getElem?_drop];by_cases h3:m<s
 ·rw[if_pos h3];by_cases h1:m<off
  ·rw[List.append_assoc,List.append_assoc,List.getElem?_append_left af,List.getElem?_append_left af,List.getElem?_take,if_pos af,List.getElem?_take,if_pos h1,hA m h3]
  ·by_cases h2:m<off+k
   ·rw[List.append_assoc,List.append_assoc,List.getElem?_append_right af,List.getElem?_append_right (l₁:=A.take off) af,List.getElem?_append_left af,List.getElem?_append_left af];congr 1;omega
   ·rw[List.getElem?_append_right (by rw[List.length_append];omega),List.getElem?_append_right (l₁:=A.take off++us) (by rw[List.length_append];omega),List.getElem?_drop,List.getElem?_drop,List.length_append,List.length_append,l1,l3,hl,hA _ af];congr 1;omega
 ·rw[if_neg h3,List.getElem?_eq_none];simp only[List.length_append,List.length_drop];omega
theorem Vw {x0:α} (h:aQ w C j e v xs) (hg:cQ v g) (hi:i<xs.length) (hy:ev env y=some (.pointer (some ⟨g,i*sz α+off,none⟩))) (hz:ev env z=some u) (hs:gN P t=some k)
  (hv:u.cells=us.toArray) (hl:us.length=k) (h1:∀u∈us,u.oneCell'=true) (ho:off+k<=sz α)
  (hr:∀vs,rep w.heap (aj C) xs[i] vs->rep w.heap (aj C) x0 (vs.take off++us++vs.drop (off+k))):
  g_ P N env (.store t y z) w (λu' w'=>u'=undef/\av [j] w C w' C/\aQ w' C j e v (xs.set i x0)):=λa ha fB gO=>by
 obtain⟨g',cap,cs,rfl,kU,h_,hc,hcap,h2,h3⟩:=h.xG af;simp only[cQ,Value.ownBlock,Option.some.injEq] at hg;subst hg;have hb: (i+1)*sz α<=cap*sz α:=Nat.mul_le_mul_right _ af;rw[Nat.succ_mul] at hb;obtain⟨u',w',k1,k2,zq⟩:=JI (P:=P) (N:=N) (cs:=cs.toList) (n:=k) (vs:=us) hy hz hs hv hl h1 (by simpa using hc) (by simp only[Array.length_toList];omega) a ha fB gO;have hst:av [j] w C w' C:=⟨zq.ext.mono (λb _ hb=>by rw[show b=g' from hb,kU];simp),λ_ _=>rfl⟩
 have keep:∀{x:α} {vs:List Value},rep w.heap (aj C) x vs->rep w'.heap (aj C) x vs:=λhr=>bn.keep hr (λb hb hn=>zq.ext.block b hb (λe=>hn (by rw[show b=g' from e];exact h_)));refine⟨u',w',k1,k2,hst,⟨.inr ⟨g',cap,_,by rw[List.length_set],h_,zq.at_,by rw[List.length_set];exact hcap,?_,λq hk=>?_⟩,h.col⟩⟩
 ·simp only[List.size_toArray,List.length_append,List.length_take,List.length_drop,Array.length_toList,hl];omega
 ·rw[List.length_set] at hk;rw[List.getElem_set];split
  ·rename_i hik;subst hik;rw[q6 (by simp only[Array.length_toList];omega) hl ho];exact keep (hr _ (by simpa using h3 i hi))
  ·rename_i hik;have:cR (cs.toList.take (i*sz α+off)++us++cs.toList.drop (i*sz α+off+k)).toArray (q*sz α) (sz α)=cR cs (q*sz α) (sz α):=tD (λm hm=>by
    rw[show∀(l:List Value) (p:Nat),l.toArray[p]?=l[p]? from λl p=>by simp,<-Array.getElem?_toList];rcases Nat.lt_or_ge q i with hlt|hge
    ·have:=Nat.mul_le_mul_right (sz α) (show q+1<=i from hlt);rw[Nat.succ_mul] at this;rw[List.append_assoc,List.getElem?_append_left (by simp only[List.length_take,Array.length_toList];omega),List.getElem?_take,if_pos af]
    ·have:=Nat.mul_le_mul_right (sz α) (show i+1<=q by omega);rw[Nat.succ_mul] at this;rw[List.getElem?_append_right (by simp only[List.length_append,List.length_take,Array.length_toList,hl];omega),List.getElem?_drop];congr 1;simp only[List.length_append,List.length_take,Array.length_toList,hl];omega)
   rw[this];exact keep (h3 q hk)
end
section
variable {P:Program} {t gC ti:TypeId} {n0 n1 n2 qV qW Oq qX qY Ot:String} {e0 e1 e2:Bool} {y0 y1 Ou:Nat} {N:Nat} {env:Env} {x y:Operand} {u:TypeId} {w:World}
theorem q7 (h:P.underlying t=some (.struct #[⟨n0,gC,0,e0,qV,qX,y0⟩,⟨n1,gC,2,e1,qW,qY,y1⟩,⟨n2,ti,4,e2,Oq,Ot,Ou⟩])) (h0:n0≠"_") (h1:n1≠"_") (h2:n2≠"_") (hS:P.stoodInHeld t=false)
  (hE:zw P gC dx) (hi:P.underlying ti=some (.int .i64)) (ha:gH P gC=some true) (hs:gN P gC=some 2) (a b:aH):
  (Op.equalIn 10000 t (.agg (jT a).toArray) (.agg (jT b).toArray)).run P w=.ok (decide (a=b)) w:=by
 have hf:P.fieldsOf t=#[⟨n0,gC,0,e0,qV,qX,y0⟩,⟨n1,gC,2,e1,qW,qY,y1⟩,⟨n2,ti,4,e2,Oq,Ot,Ou⟩]:=by simp[Program.fieldsOf,h]
 have jF:∀c:aH,(part gC (jT c).toArray 0).run P w=.ok (dx c.A) w:=λc=>by
  unfold part;simp only[Sem.run_bind,uJ ha,Result.andThen_ok,if_true,mW hs,Sem.run_pure];rfl
 have p1:∀c:aH,(part gC (jT c).toArray 2).run P w=.ok (dx c.B) w:=λc=>by
  unfold part;simp only[Sem.run_bind,uJ ha,Result.andThen_ok,if_true,mW hs,Sem.run_pure];rfl
 have p2:∀c:aH,(part ti (jT c).toArray 4).run P w=.ok (.int .i64 c.w) w:=λc=>run_part_plain w (by simp[Program.plainKey,hi]) rfl;have he:∀a b:au,(Op.equalIn 9999 gC (dx a) (dx b)).run P w=.ok (decide (a=b)) w:=λ(a b:au)=>hE 9991 a b w;have hn:∀x y:Int,(Op.equalIn 9999 ti (.int .i64 x) (.int .i64 y)).run P w=.ok (x==y) w:=λ(x y:Int)=>run_equalIn_int (P:=P) w 9998 ti .i64 .i64 x y hi;rw[show(10000:Nat)=9999+1 from rfl,run_equalIn_struct w 9999 t _ _ (by rw[hf];exact h) hS,hf];have hd: (decide (a=b))=((decide (a.A=b.A)&&decide (a.B=b.B))&&(a.w==b.w)):=by
  cases a;cases b;simp only[aH.mk.injEq,Bool.decide_and,Bool.and_assoc];rfl
 simp only[Op.eqFields,Sem.run_bind,Sem.run_ite,h0,h1,h2,ne_eq,not_false_eq_true,if_true,jF,p1,p2,Result.andThen_ok,hd,he,hn];cases decide (a.A=b.A)<;>cases decide (a.B=b.B)<;>cases (a.w==b.w)<;>simp[jF,p1,p2,he,hn]
theorem Vx (h:P.underlying t=some (.struct #[⟨n0,gC,0,e0,qV,qX,y0⟩,⟨n1,gC,2,e1,qW,qY,y1⟩,⟨n2,ti,4,e2,Oq,Ot,Ou⟩])) (h0:n0≠"_") (h1:n1≠"_") (h2:n2≠"_") (hS:P.stoodInHeld t=false)
  (hE:zw P gC dx) (hi:P.underlying ti=some (.int .i64)) (ha:gH P gC=some true) (hs:gN P gC=some 2) (hg:P.eqGuardType P.depth t=false) {a b:aH} (hx:ev env x=some (.agg (jT a).toArray)) (hy:ev env y=some (.agg (jT b).toArray)):
  cE P N env (.binOp .neq t x y u) w (.bool (decide (a≠b))):=mk' λρ hρ o ho=>by
 unfold execOp;rw[ho];simp only[hρ _ _ hx,hρ _ _ hy,Sem.run_bind,run_eqGuard_agg _ _ _ _ _ _ _ hg,Result.andThen_ok,run_neq_struct,q7 h h0 h1 h2 hS hE hi ha hs,Sem.run_pure];simp
end
abbrev tN:au×au->Value:=λp=> .agg #[.int .i64 p.1.a,.int .i64 p.1.b,.int .i64 p.2.a,.int .i64 p.2.b]
section
variable {P:Program} {t gC ti:TypeId} {n0 n1 m0 m1 qV qW Hl Ho qX qY Hp Hq:String} {e0 e1 f0 f1:Bool} {y0 y1 x0 x1:Nat}
theorem Vy (h:P.underlying gC=some (.struct #[⟨n0,ti,0,e0,qV,qX,y0⟩,⟨n1,ti,1,e1,qW,qY,y1⟩])) (h0:n0≠"_") (h1:n1≠"_") (hS:P.stoodInHeld gC=false)
  (hi:P.underlying ti=some (.int .i64)) (d:Nat) (a b:au) (w:World): (Op.equalIn (d+2) gC (dx a) (dx b)).run P w=.ok (decide (a=b)) w:=by
 have hpt:=λa b i v w=>GD (P:=P) hi a b i v w;have hf:P.fieldsOf gC=#[⟨n0,ti,0,e0,qV,qX,y0⟩,⟨n1,ti,1,e1,qW,qY,y1⟩]:=by simp[Program.fieldsOf,h]
 have he:=λ(x y:Int)=>run_equalIn_int (P:=P) w d ti .i64 .i64 x y hi;rw[show d+2=(d+1)+1 from rfl,run_equalIn_struct w (d+1) gC _ _ (by rw[hf];exact h) hS,hf];have jF:∀c:au,(part ti #[.int .i64 c.a,.int .i64 c.b] 0).run P w=.ok (.int .i64 c.a) w:=λc=>hpt _ _ 0 _ w rfl;have p1:∀c:au,(part ti #[.int .i64 c.a,.int .i64 c.b] 1).run P w=.ok (.int .i64 c.b) w:=λc=>hpt _ _ 1 _ w rfl;have hd: (decide (a=b))=((a.a==b.a)&&(a.b==b.b)):=by
  cases a;cases b;simp only[au.mk.injEq,Bool.decide_and];rfl
 simp only[Op.eqFields,Sem.run_bind,Sem.run_ite,h0,h1,ne_eq,not_false_eq_true,if_true,jF,p1,Result.andThen_ok,he,hd];cases (a.a==b.a)<;>cases (a.b==b.b)<;>simp
theorem zU (h:P.underlying t=some (.struct #[⟨m0,gC,0,f0,Hl,Hp,x0⟩,⟨m1,gC,2,f1,Ho,Hq,x1⟩])) (g0:m0≠"_") (g1:m1≠"_") (hS:P.stoodInHeld t=false)
  (hr:P.underlying gC=some (.struct #[⟨n0,ti,0,e0,qV,qX,y0⟩,⟨n1,ti,1,e1,qW,qY,y1⟩])) (h0:n0≠"_") (h1:n1≠"_") (Ov:P.stoodInHeld gC=false)
  (hi:P.underlying ti=some (.int .i64)) (ha:gH P gC=some true) (hs:gN P gC=some 2):xJ P t tN:=by
 have hf:P.fieldsOf t=#[⟨m0,gC,0,f0,Hl,Hp,x0⟩,⟨m1,gC,2,f1,Ho,Hq,x1⟩]:=by simp[Program.fieldsOf,h]
 have jF:∀(c:au×au) w,(part gC #[.int .i64 c.1.a,.int .i64 c.1.b,.int .i64 c.2.a,.int .i64 c.2.b] 0).run P w=.ok (dx c.1) w:=λc w=>by
  unfold part;simp only[Sem.run_bind,uJ ha,Result.andThen_ok,if_true,mW hs,Sem.run_pure];rfl
 have p1:∀(c:au×au) w,(part gC #[.int .i64 c.1.a,.int .i64 c.1.b,.int .i64 c.2.a,.int .i64 c.2.b] 2).run P w=.ok (dx c.2) w:=λc w=>by
  unfold part;simp only[Sem.run_bind,uJ ha,Result.andThen_ok,if_true,mW hs,Sem.run_pure];rfl
 refine TK h (λd a b w=>?_) (λe k w=>?_) (λk=>by simp[Instr.sameBits]) (λa b hab=>?_)
 ·have he:=λ(x y:au)=>Vy hr h0 h1 Ov hi (d+5) x y w;rw[show d+8=(d+7)+1 from rfl,run_equalIn_struct w (d+7) t _ _ (by rw[hf];exact h) hS,hf];have hd: (decide (a=b))=(decide (a.1=b.1)&&decide (a.2=b.2)):=by
   cases a;cases b;simp only[Prod.mk.injEq,Bool.decide_and]
  simp only[Op.eqFields,Sem.run_bind,Sem.run_ite,g0,g1,ne_eq,not_false_eq_true,if_true,jF,p1,Result.andThen_ok,he,hd,show d+7=d+5+2 from rfl];cases decide (a.1=b.1)<;>cases decide (a.2=b.2)<;>simp[he,show d+7=d+5+2 from rfl,jF,p1]
 ·have q:∀(x:Int),(Instr.checkKey e 9998 ti (.int .i64 x)).run P w=.ok () w:=λx=>by unfold Instr.checkKey;simp[run_underlying hi]
  have hpt:=λa b i v w=>GD (P:=P) hi a b i v w;have G7:∀c:au,(part ti #[.int .i64 c.a,.int .i64 c.b] 0).run P w=.ok (.int .i64 c.a) w:=λc=>hpt _ _ 0 _ w rfl;have r1:∀c:au,(part ti #[.int .i64 c.a,.int .i64 c.b] 1).run P w=.ok (.int .i64 c.b) w:=λc=>hpt _ _ 1 _ w rfl;have e7:∀c:au,(Instr.checkKey e 9999 gC (dx c)).run P w=.ok () w:=λc=>by
   rw[show(9999:Nat)=9998+1 from rfl,Instr.checkKey];simp only[Sem.run_bind,run_underlying hr,Result.andThen_ok];rw[<-Array.forIn_toList];simp only[List.forIn_cons,List.forIn_nil,Sem.run_bind,Sem.run_ite,h0,h1,ne_eq,not_false_eq_true,if_true,G7,r1,q,Result.andThen_ok,Sem.run_pure]
  rw[show(10000:Nat)=9999+1 from rfl,Instr.checkKey];simp only[Sem.run_bind,run_underlying h,Result.andThen_ok];rw[<-Array.forIn_toList];simp only[List.forIn_cons,List.forIn_nil,Sem.run_bind,Sem.run_ite,g0,g1,ne_eq,not_false_eq_true,if_true,jF,p1,e7,Result.andThen_ok,Sem.run_pure]
 ·obtain⟨⟨a1,a2⟩,⟨a3,a4⟩⟩:=a;obtain⟨⟨b1,b2⟩,⟨b3,b4⟩⟩:=b;simp at hab;simp[hab]
end
def fQ (w:World) (M:Nat->Prop) (ds:List bp) (v:Value):Prop:=∃m:List ((au×au)×Bool),pM w M tN (λb:Bool=> .bool b) m v/\∀a b,(eM m (a,b)).getD false=kF ds a b
section
variable {w w' w₀:World} {C aG lI D:Nat->Nat} {I:List Nat} {ds:List bp} {v:Value}
theorem fQ.st (h:fQ w (aj C) ds v) (hs:av I w C w' aG) (h0:0∉I):fQ w' (aj aG) ds v:=let⟨m,h1,h2⟩:=h;⟨m,h1.st hs h0,h2⟩
theorem fQ.t (h:fQ w (aj C) ds v) (hs:av I w C w' aG) (h0:0∉I:=by first|decide|(simp<;>omega)):fQ w' (aj aG) ds v:=h.st hs h0
theorem fQ.mv (h:fQ w (aj C) ds v) (hs:av I w C w' aG:=by exact pL) (h0:0∉I:=by first|decide|(simp<;>omega)):fQ w' (aj aG) ds v:=h.st hs h0
theorem fQ.sub {M M':Nat->Prop} (h:fQ w M ds v) (h_:∀b,M' b->M b):fQ w M' ds v:=let⟨m,⟨b,h1,h3,h4⟩,h2⟩:=h;⟨m,⟨b,h1,λe=>h3 (h_ b e),h4⟩,h2⟩
theorem fQ.one {M:Nat->Prop} (h:fQ w M ds v):v.cells=#[v]/\v.oneCell'=true:=by obtain⟨m,⟨b,rfl,_⟩,_⟩:=h;exact⟨rfl,rfl⟩
end
theorem Wt {ds:List bp} {k:Nat} (h:k<ds.length) (a b:au):kF (ds.take (k+1)) a b=(kF (ds.take k) a b||(!ds[k].same&&decide (ds[k].A=a/\ds[k].B=b))):=by
 unfold kF;rw[List.take_succ_eq_append_getElem h,List.any_append];simp
abbrev ji:Nat->Nat:=λ_=>0
theorem oG (w:World):aF w ji:=λb hb=>absurd rfl hb
section
variable {w w':World} {C D:Nat->Nat}
theorem av.re (h:av [] w D w' D) (C:Nat->Nat):av [] w C w' C:=⟨h.ext.mono (λb _ hb=>by cases hb),λ_ _=>rfl⟩
end
section
variable {α:Type} [bn α] {P:Program} {N:Nat} {env:Env} {w w':World} {C aG D:Nat->Nat} {I:List Nat} {t e:TypeId} {v s:Value} {x y z q:Operand} {xs ys zs:List α} {j n:Nat}
theorem aQ.nc (h:aQ w C j e v ys) (hl:ys.length<=9223372036854775807):aq w (aj ji) ys v:=h.own.read (λb _ hb=>absurd rfl hb) hl
theorem aq.c0 {M:Nat->Prop} (h:aq w M ys v):aq w (aj ji) ys v:=h.sub (λb _ hb=>absurd rfl hb)
def nP (w:World) (C:Nat->Nat) (j:Nat) (e:TypeId) (v:Value) (ys:List α):Prop:=aQ w C j e v ys\/∃a,v=.slice a ys.length ys.length/\aq w (aj C) ys v
theorem nP.st (h:nP w C j e v ys) (hs:av I w C w' aG) (h0:0∉I) (hj:j∉I):nP w' aG j e v ys:=h.imp (λh=>h.st hs h0 hj) (λ⟨a,h1,h2⟩=>⟨a,h1,h2.st hs h0⟩)
theorem nP.u (h:nP w C j e v ys) (hs:av I w C w' aG) (h0:0∉I:=by first|decide|(simp<;>omega)) (hj:j∉I:=by first|decide|(simp<;>omega)):nP w' aG j e v ys:=h.st hs h0 hj
theorem nP.nc (h:nP w C j e v ys) (hl:ys.length<=9223372036854775807):aq w (aj ji) ys v:=by
 rcases h with h|⟨a,_,h⟩
 ·exact h.nc hl
 ·exact h.c0
theorem nP.Ev (h:nP w C j e v ys) (hy:ev env y=some v) {d:TypeId} (ht:P.underlying t=some (.slice d)):
  ∀w',cE P N env (.call {callee:=.builtin .len,args:=#[y],argTypes:=#[t]}) w' (.int .i64 ys.length):=λw'=>by
 rcases h with h|⟨a,rfl,_⟩
 ·exact h.Ev hy ht w'
 ·exact A5 hy ht
theorem nP.ln (h:nP w C j e v ys):∃a c,v=.slice a ys.length c:=by
 rcases h with h|⟨a,rfl,_⟩
 ·exact h.own.len
 ·exact⟨_,_,rfl⟩
theorem Vz {bytes:Nat} (hF:aF w C) (hj:j≠0) (hx:ev env y=some v) (hy:ev env z=some s) (hrow:rO P t e (sz α) bytes=true) (hsz:0<sz α)
  (hown:nP w C j e v ys) (hsrc:aq w (aj C) zs s) (xT:zs≠[]) (hlen: (ys.length+zs.length)*bytes<=140737488355328) (h63:ys.length+zs.length<=140737488355328):
  g_ P N env (.call {callee:=.builtin .append,args:=#[y,z],argTypes:=#[t,t]}) w (λv' w'=>∃aG,av [j] w C w' aG/\aQ w' aG j e v' (ys++zs)/\aF w' aG):=by
 rcases hown with h|⟨a,rfl,h⟩
 ·exact eO hF hj hx hy hrow hsz h hsrc hlen h63
 ·intro a' j8 fB gO;obtain⟨v',w',h1,aG,h2,h3,h4⟩:=GU (j:=j) (P:=P) (N:=N) (a:=a) hF hj hx hy hrow hsz h hsrc xT hlen h63 a' j8 fB gO;exact⟨v',w',h1,aG,h2.mono (λc hc=>by cases hc),h3,h4⟩
theorem aq.uf {M:Nat->Prop} {e':TypeId} {k:Nat} (h:aq w M xs v) (hy:ev env y=some v) {kd GV:IntKind} (hf:j6 P t=some (e',sz α)) (hz:ev env z=some (.int kd k)) (hq:ev env q=some (.int GV k)) (hk:k<=xs.length):
  ∃a,aq w M (xs.take k) (.slice a k k)/\∀w',cE P N env (.slice t y none (some z) (some q)) w' (.slice a k k):=by
 obtain⟨a,c,rfl,hc,hm,hs⟩:=kT.1 h;have jD: (xs.take k).length=k:=by rw[List.length_take];omega
 refine⟨a,?_,λw'=>mk' λρ hρ fB ho=>?_⟩
 ·refine kT.2 ⟨a,k,by rw[jD],by omega,by omega,?_⟩;rcases hs with h|⟨b,o,rfl,hb,cs,ty,eV,hcs,hsz,hr⟩
  ·left;rw[h];simp
  ·right;refine⟨b,o,rfl,hb,cs,ty,eV,hcs,?_,λi hi=>?_⟩
   ·rw[jD];have:=Nat.mul_le_mul_right (sz α) hk;omega
   ·rw[List.getElem_take];exact hr i af
 ·unfold j6 at hf;split at hf
  ·rename_i e1 hu;split at hf
   ·rename_i n' hn;have hb:=CP (P:=P) (kd:=GV) (y:=c) (code:=.slice3Acap) (w:=w') (i:=(k:Int)) af af;have fu:=CP (P:=P) (kd:=kd) (y:=k) (code:=.slice3B) (w:=w') (i:=(k:Int)) af af;have j8:a.map (·.add 0)=a:=by
     cases a with
     |none=>simp
     |some a=>simp[Addr.add]
    simp only[Int.toNat_natCast] at hb fu;unfold execOp;rw[ho];simp[hρ _ _ hy,hρ _ _ hz,hρ _ _ hq,Instr.sliceAt,Instr.slice,Instr.sliceBounds,run_underlying hu,mW hn,hb,fu,j8]
   ·cases hf
  ·cases hf
end
section
variable {α:Type} [bn α] {w w':World} {C aG:Nat->Nat} {I:List Nat} {e:TypeId} {v:Value} {ys:List α} {j:Nat}
theorem nP.t (h:nP w C j e v ys) (hs:av I w C w' aG) (h0:0∉I:=by first|decide|(simp<;>omega)) (hj:j∉I:=by first|decide|(simp<;>omega)):nP w' aG j e v ys:=h.st hs h0 hj
theorem nP.mv (h:nP w C j e v ys) (hs:av I w C w' aG:=by exact pL) (h0:0∉I:=by first|decide|(simp<;>omega)) (hj:j∉I:=by first|decide|(simp<;>omega)):nP w' aG j e v ys:=h.st hs h0 hj
end
section
variable {α:Type} [bn α] {w:World} {C:Nat->Nat} {P:Program} {f:FuncId} {N:Nat} {k:List Item} {R:Value->World->Prop} {Q:Exit->Act->World->Prop} {env:Env} {ops:Array Oper} {S:World->Prop} {i t:Nat} {L:List (Nat×Bool)} {v:Value} {y z q:Operand} {iG:Option (Nat×Bool)} {ty e e':TypeId} {xs:List α} {kd GV:IntKind} {m:Nat}
theorem F9 {M:Nat->Prop} (hop:bY ops i=some (some t,.slice ty y none (some z) (some q),iG)) (hw:eo ops env iG=some true) (ht:Nat.blt t N=true) (hl:aq w M xs v) (hy:ev env y=some v)
  (hf:j6 P ty=some (e',sz α)) (hz:ev env z=some (.int kd m)) (hq:ev env q=some (.int GV m)) (hk:m<=xs.length)
  (h:∀a,aq w M (xs.take m) (.slice a m m)->bN P N Q ops S L ((t,.slice a m m)::env) w):bN P N Q ops S ((i,true)::L) env w:=by
 obtain⟨a,h2,h3⟩:=hl.uf (P:=P) (N:=N) hy hf hz hq hk;exact kL hop hw ht (λw' _=>h3 w') (h a h2)
end
structure oH (l:List aH) (s ys:List au):Prop where
 nd:ys.Nodup
 sub:∀r∈ys,r∈s
 first:s.headD ⟨0,0⟩∈ys
 same:∀r∈ys,bZ (jh l s) r=bZ (jh l s) (s.headD ⟨0,0⟩)
section
variable {l:List aH} {s ys:List au}
theorem oH.start (h:1<=s.length):oH l s (s.take 1):=by
 cases s with
 |nil=>simp at h
 |cons a t=>exact⟨by simp,by simp,by simp,by simp⟩
theorem oH.len (h:oH l s ys):ys.length<=s.length:=h.nd.length_le_of_subset h.sub
theorem oH.add (h:oH l s ys) {x:aH} (hx:x∈l) (hA:x.A∈s) (hB:x.B∈s) {r:au} (hr: (r=x.A/\x.B∈ys)\/(r=x.B/\x.A∈ys)) (hn:r∉ys):oH l s (ys++[r]):=by
 have he:bZ (jh l s) x.A=bZ (jh l s) x.B:=zz (List.mem_filter.2 ⟨hx,by rw[decide_eq_true_eq];exact⟨hA,hB⟩⟩);have fR:r∈s:=by rcases hr with⟨rfl,_⟩|⟨rfl,_⟩<;>assumption
 have hsame:bZ (jh l s) r=bZ (jh l s) (s.headD ⟨0,0⟩):=by
  rcases hr with⟨rfl,h1⟩|⟨rfl,h1⟩
  ·rw[he];exact h.same _ h1
  ·rw[<-he];exact h.same _ h1
 refine⟨List.nodup_append.2 ⟨h.nd,by simp,λa ha b hb e=>?_⟩,λq hq=>?_,List.mem_append.2 (.inl h.first),λq hq=>?_⟩
 ·rw[List.mem_singleton] at hb;subst hb;subst e;exact hn ha
 ·rcases List.mem_append.1 hq with h1|h1
  ·exact h.sub q h1
  ·rw[List.mem_singleton.1 h1];exact fR
 ·rcases List.mem_append.1 hq with h1|h1
  ·exact h.same q h1
  ·rw[List.mem_singleton.1 h1];exact hsame
theorem oH.fin (h:oH l s ys) (hn:s.Nodup) (hc:∀x∈l,x.A∈s->x.B∈s->(x.A∈ys↔x.B∈ys)): (ys.length:Int)=s.length↔lM l s=true:=by
 have hall:∀r,bZ (jh l s) r=bZ (jh l s) (s.headD ⟨0,0⟩)->r∈ys:=λr e=>by
  have hinv:∀x∈jh l s,decide (x.A∈ys)=decide (x.B∈ys):=λx hx=>by
   obtain⟨h1,h2⟩:=List.mem_filter.1 hx;rw[decide_eq_true_eq] at h2;exact decide_eq_decide.2 (hc x h1 h2.1 h2.2)
  have e1:=uM (p:=λr=>decide (r∈ys)) hinv r;have e2:=uM (p:=λr=>decide (r∈ys)) hinv (s.headD ⟨0,0⟩);have eH:decide (r∈ys)=decide (s.headD ⟨0,0⟩∈ys):=by rw[<-e1,<-e2,e]
  rw[decide_eq_true h.first] at eH;exact of_decide_eq_true eH
 unfold lM;rw[List.all_eq_true];constructor
 ·intro e r hr;rw[decide_eq_true_eq];refine h.same r ?_;apply Classical.byContradiction;intro hno;have h1: (r::ys).Nodup:=List.nodup_cons.2 ⟨hno,h.nd⟩;have h2:=h1.length_le_of_subset (l₂:=s) (λq hq=>by
   rcases List.mem_cons.1 hq with rfl|hq
   ·exact hr
   ·exact h.sub q hq)
  simp only[List.length_cons] at h2;omega
 ·intro KT;have h2:=hn.length_le_of_subset (l₂:=ys) (λq hq=>hall q (of_decide_eq_true (KT q hq)));have:=h.len;omega
end
def jj (w:World) (C:Nat->Nat) (b:Nat) (o:Obj):Prop:=C b<2/\w.heap[b]?=some o
section
variable {w w':World} {I:List Nat} {C aG:Nat->Nat} {b:Nat} {o:Obj}
theorem jj.at_ (h:jj w C b o):w.heap[b]?=some o:=h.2
theorem jj.st (h:jj w C b o) (hs:av I w C w' aG) (hI:∀c∈I,2<=c):jj w' aG b o:=
 ⟨by rw[hs.col b (tC h.2)];exact h.1,by rw[hs.ext.xB h.2 (λhm=>by have:=hI _ hm;have:=h.1;omega)]⟩
theorem jj.t (h:jj w C b o) (hs:av I w C w' aG) (hI:∀c∈I,2<=c:=by decide):jj w' aG b o:=h.st hs hI
theorem jj.mv (h:jj w C b o) (hs:av I w C w' aG:=by exact pL) (hI:∀c∈I,2<=c:=by decide):jj w' aG b o:=h.st hs hI
theorem jj.stay (h:jj w C b o) (hS:Ext (λb=>C b∈I) w w') (hI:∀c∈I,2<=c):w'.heap[b]?=some o:=hS.xB h.2 (λhm=>by have:=hI _ hm;have:=h.1;omega)
theorem jj.eG (h:jj w C b o) (hS:Ext (λb=>C b∈I) w w') (hI:∀c∈I,2<=c:=by decide):w'.heap[b]?=some o:=h.stay hS hI
theorem jj.sz (h:jj w C b o) (hI:∀c∈I,2<=c:=by decide):∀w',Ext (λb=>C b∈I) w w'->w'.heap[b]?=some o:=λ_ hS=>h.stay hS hI
theorem jj.of (h:w.heap[b]?=some o) (C:Nat->Nat):jj w (aI C) b o:=⟨by unfold aI;split<;>omega,h⟩
theorem av.same {D D':Nat->Nat} (hs:av [] w D w' D') (h:w.heap[b]?=some o):w'.heap[b]?=some o:=hs.ext.xB h (λhm=>by cases hm)
end
def Dh (ds:List bp) (s:List au):Bool:=(List.range s.length).all λi=>!((s.take i).any λb=>eP ds b (s.getD i ⟨0,0⟩))
def rm (l:List aH) (ds:List bp) (s:List au):Bool:=decide (2<=s.length)&&Dh ds s&&lM l s
theorem KU {ds:List bp} {s:List au}:Dh ds s=true↔s.Pairwise λa b=>eP ds a b=false:=by
 unfold Dh;rw[List.all_eq_true,List.pairwise_iff_getElem];constructor
 ·intro h i j hi hj hij;have h1:=h j (List.mem_range.2 hj);rw[Bool.not_eq_true',List.any_eq_false] at h1;have h2:=h1 s[i] (by rw[List.mem_take_iff_getElem];exact⟨i,by omega,rfl⟩);rw[lK hj] at h2;simpa using h2
 ·intro h j hj;have hj:=List.mem_range.1 hj;rw[Bool.not_eq_true',List.any_eq_false];intro b hb;obtain⟨i,hi,rfl⟩:=List.mem_take_iff_getElem.1 hb;rw[lK hj,h i j af hj af];decide
theorem VA {ds:List bp} {s:List au} (h:s.Pairwise λa b=>eP ds a b=false):s.Nodup:=List.nodup_iff_pairwise_ne.2 (h.imp λ{a b} h e=>by subst e;rw[y2] at h;cases h)
theorem VB {ds:List bp} {s:List au} (h:∀i (hi:i<s.length),(s.take i).any (λb=>eP ds b s[i])=false):Dh ds s=true:=by
 unfold Dh;rw[List.all_eq_true];intro i hi;have hi:=List.mem_range.1 hi;rw[lK hi,h i hi];rfl
theorem VC {ds:List bp} {s:List au} {i:Nat} (hi:i<s.length) (h: (s.take i).any (λb=>eP ds b s[i])=true):Dh ds s=false:=by
 unfold Dh;rw[List.all_eq_false];exact⟨i,List.mem_range.2 hi,by rw[lK hi,h];decide⟩
theorem eU.T' {l:List aH} {ds:List bp} {ps:List (List au)} (h:eU l ds ps) {p:List au} (hp:p∈ps):rm l ds p=true:=by
 unfold rm;rw[decide_eq_true (h.len p hp),KU.2 (h.bar p hp),Oh.2 (h.join p hp)];rfl
section
variable {l:List aH} {ds:List bp} {ps:List (List au)}
theorem Ow {k:Nat} (h:k<l.length) (ps:List (List au)):fc (l.take (k+1)) ps=if ps.any (uU l[k])=true then fc (l.take k) ps+l[k].w else fc (l.take k) ps:=by
 unfold fc;rw[List.take_succ_eq_append_getElem h,List.filter_append,List.map_append,List.sum_append];by_cases e:ps.any (uU l[k])=true
 ·rw[if_pos e,List.filter_cons_of_pos (p:=λx=>ps.any (uU x)) e];simp
 ·rw[if_neg e,List.filter_cons_of_neg (p:=λx=>ps.any (uU x)) e];simp
theorem Hr (hw:∀x∈l,1<=x.w/\x.w<=1048576) (ps:List (List au)):∀k,k<=l.length->0<=fc (l.take k) ps/\fc (l.take k) ps<=1048576*(k:Int)
 |0,_=>by simp[fc]
 |k+1,hk=>by
  have h1:=Hr hw ps k af;have h2:=hw _ (List.getElem_mem (show k<l.length by omega));rw[Ow af];split<;>omega
theorem E3 (ps:List (List au)):fc (l.take l.length) ps=fc l ps:=by rw[List.take_length]
theorem Ox (x:aH) (p:List au):uU x p=(decide (x.A∈p)&&decide (x.B∈p)):=by unfold uU;rw[Bool.decide_and]
def Seen (m:List (au×Bool)) (rs:List au):Prop:=∀r,(eM m r).getD false=true↔r∈rs
theorem Seen.nil:Seen [] []:=λr=>by simp[eM]
theorem Seen.put {m:List (au×Bool)} {rs:List au} (h:Seen m rs) (r:au):Seen (ig m r true) (rs++[r]):=λq=>by
 rw[n_,List.mem_append,List.mem_singleton];by_cases e:r=q
 ·rw[if_pos e];simp[e]
 ·rw[if_neg e,h q];exact⟨.inl,λh=>h.resolve_right (λe2=>e e2.symm)⟩
theorem Seen.not {m:List (au×Bool)} {rs:List au} (h:Seen m rs) {r:au} (hr:r∉rs): (eM m r).getD false=false:=Bool.eq_false_iff.2 λe=>hr ((h r).1 e)
theorem eU.fresh (h:eU l ds ps) {i j:Nat} (hi:i<ps.length) (hj:j<ps[i].length):ps[i][j]∉(ps.take i).flatten++ps[i].take j:=λhm=>by
 have hn:=h.zR;have e:ps=ps.take i++ps[i]::ps.drop (i+1):=by rw[<-List.drop_eq_getElem_cons hi,List.take_append_drop]
 rw[e,List.flatten_append,List.flatten_cons,<-List.append_assoc] at hn;have hn2:=(List.nodup_append.1 hn).1;have e2:ps[i]=ps[i].take j++ps[i][j]::ps[i].drop (j+1):=by rw[<-List.drop_eq_getElem_cons hj,List.take_append_drop]
 rcases List.mem_append.1 hm with h1|h1
 ·exact(List.nodup_append.1 hn2).2.2 _ h1 _ (List.getElem_mem hj) rfl
 ·have Hs:=(List.nodup_append.1 hn2).2.1;rw[e2] at Hs;exact(List.nodup_append.1 Hs).2.2 _ h1 _ List.mem_cons_self rfl
theorem Q0 {i:Nat} (hi:i<ps.length): (ps.take (i+1)).flatten=(ps.take i).flatten++ps[i].take ps[i].length:=by
 rw[List.take_succ_eq_append_getElem hi,List.flatten_append,List.take_length];simp
theorem VD (rows:List (List au)): (gV rows).length<=rows.length:=List.length_filter_le _ _
theorem VE {rows:List (List au)} {i:Nat} (h:i<rows.length):gV (rows.take (i+1))=if 2<=rows[i].length then gV (rows.take i)++[rows[i]] else gV (rows.take i):=by
 unfold gV;rw[List.take_succ_eq_append_getElem h,List.filter_append];by_cases e:2<=rows[i].length
 ·rw[if_pos e,List.filter_cons_of_pos (by rw[decide_eq_true_eq];exact e)];rfl
 ·rw[if_neg e,List.filter_cons_of_neg (by rw[decide_eq_true_eq];exact e)];simp
theorem r4 {rows:List (List au)} (h:∀q (hq:q<rows.length),2<=rows[q].length->lM l rows[q]=true):pU l rows=true:=by
 unfold pU;rw[List.all_eq_true];intro s hs;obtain⟨h1,h2⟩:=List.mem_filter.1 hs;obtain⟨q,hq,rfl⟩:=List.getElem_of_mem h1;exact h q hq (of_decide_eq_true h2)
theorem xb {rows:List (List au)} {q:Nat} (hq:q<rows.length) (h2:2<=rows[q].length) (h:lM l rows[q]=false):pU l rows=false:=by
 unfold pU;rw[List.all_eq_false];exact⟨_,List.mem_filter.2 ⟨List.getElem_mem hq,by rw[decide_eq_true_eq];exact h2⟩,by rw[h];decide⟩
theorem n9 {rows:List (List au)} {st:iU} (h:pU l rows=false):oe l st rows=st:=by unfold oe;rw[if_neg (by rw[h];rintro⟨h,_⟩;cases h)]
theorem lS {rows:List (List au)} {st:iU} (h:st.found=true) (h2:fc l (gV rows)<=st.val):oe l st rows=st:=by
 unfold oe;rw[if_neg];rintro⟨_,h3|h3⟩
 ·rw[h] at h3;cases h3
 ·omega
theorem VF {rows:List (List au)} {st:iU} (h:pU l rows=true) (h2:st.found=false\/st.val<fc l (gV rows)):oe l st rows=⟨true,gV rows,fc l (gV rows)⟩:=by unfold oe;rw[if_pos ⟨h,h2⟩]
end
end Go.K
