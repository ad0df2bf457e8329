/- Bonds and what hangs together: plain. -/
import Derived.Test.YtmdhggfehknjjaaGreatL1
import Derived.Shelf.SlSortCmp.NoneTotal
import Derived.Lib.AppendZeros
import Derived.Laws.Small
set_option linter.unusedVariables false
set_option linter.unusedSimpArgs false
set_option linter.unusedSectionVars false
namespace Go.K
open aZ
structure aD where
 A:ak
 B:ak
 w:Int
 deriving DecidableEq
instance:aZ aD:=aZ.via (λx:aD=>(x.A,(x.B,x.w)))
instance:Inhabited aD:=⟨⟨⟨0,0⟩,⟨0,0⟩,0⟩⟩
abbrev iH (x:aD):List Value:=[.int .i64 x.A.a,.int .i64 x.A.b,.int .i64 x.B.a,.int .i64 x.B.b,.int .i64 x.w]
abbrev bh (x:ak):List Value:=[.int .i64 x.a,.int .i64 x.b]
section
variable {w:World} {M:Nat->Prop} {b o:Nat} {v:Value}
theorem bJ.jr {x:aD} (h:bJ w M x b o):bJ w M x.A b o:=bJ.fst (p:=(x.A,(x.B,x.w))) h
theorem bJ.mJ {x:aD} (h:bJ w M x b o):bJ w M x.B b (o+2):=bJ.fst (p:=(x.B,x.w)) (bJ.snd (p:=(x.A,(x.B,x.w))) h)
theorem bJ.gA {x:aD} (h:bJ w M x b o):bJ w M x.w b (o+4):=bJ.snd (p:=(x.B,x.w)) (bJ.snd (p:=(x.A,(x.B,x.w))) h)
theorem qb {h:Array Obj} {x:ak} {vs:List Value}:rep h M x vs↔vs=bh x:=
 ⟨λhr=>by
   obtain⟨us,ws,rfl,h1,h2⟩:=hr;rw[show us=[.int .i64 x.a] from h1,show ws=[.int .i64 x.b] from h2];rfl,
  λhr=>by subst hr;exact⟨[_],[_],rfl,rfl,rfl⟩⟩
theorem y5 {h:Array Obj} {x:aD} {vs:List Value}:rep h M x vs↔vs=iH x:=
 ⟨λhr=>by
   obtain⟨us,ws,rfl,h1,KX,Cy,rfl,h2,h3⟩:=hr;have e1:=(qb (M:=M) (h:=h) (x:=x.A)).1 h1;have e2:=(qb (M:=M) (h:=h) (x:=x.B)).1 h2;have fA:Cy=[.int .i64 x.w]:=h3;subst e1 e2 fA;rfl,
  λhr=>by
   subst hr;exact⟨bh x.A,bh x.B++[.int .i64 x.w],rfl,(qb (M:=M)).2 rfl,bh x.B,[.int .i64 x.w],rfl,(qb (M:=M)).2 rfl,rfl⟩⟩
theorem gY {x:aD}:av w M x v↔v=.agg (iH x).toArray:=
 ⟨λh=>by obtain⟨vs,h1,h2⟩:=h;rw[y5.1 h1] at h2;exact h2,λh=>⟨_,y5.2 rfl,h⟩⟩
end
structure gC where
 v:Value
instance:Inhabited gC:=⟨⟨.slice none 0 0⟩⟩
instance:aZ gC where
 sz:=1
 agg:=false
 flat _:=rfl
 rep _ _ x vs:=vs=[x.v]/\x.v.oneCell'=true
 len h:=by obtain⟨rfl,_⟩:=h;rfl
 one h:=by obtain⟨rfl,h1⟩:=h;intro v hv;simp at hv;subst hv;exact h1
 keep h _:=h
 sub h _:=h
section
variable {w:World} {M:Nat->Prop} {v:Value} {β:Type} [aZ β]
theorem lY {x:gC}:av w M x v↔v=x.v/\x.v.oneCell'=true:=⟨λ⟨vs,h,e⟩=>by obtain⟨rfl,h⟩:=h;exact⟨e,h⟩,λh=>⟨_,⟨rfl,h.2⟩,h.1⟩⟩
theorem av.KY {xs:List gC} {ys:List β} (h:av w M xs v) (hb:aZ.agg β=false) (hl:ys.length=xs.length) (he:∀i (h1:i<ys.length) (h2:i<xs.length),av w M ys[i] xs[i].v):av w M ys v:=by
 obtain⟨a,c,rfl,hc,h63,h0⟩:=ko.1 h;refine ko.2 ⟨a,c,by rw[hl],by rw[hl];exact hc,by rw[hl];exact h63,?_⟩;rcases h0 with h0|⟨b,o,rfl,fc,cs,ty,e8,hcs,hsz,hr⟩
 ·left;subst h0;exact List.eq_nil_of_length_eq_zero hl
 ·right;have s1:sz β=1:=aZ.flat hb;refine⟨b,o,rfl,fc,cs,ty,e8,hcs,by rw[hl,s1];exact hsz,λi hi=>?_⟩;have hi2:i<xs.length:=by omega
  have hv:dh cs (o+i*1) 1=[xs[i].v]:=(hr i hi2).1;rw[s1,hv];exact(he i hi hi2).D9 hb
end
def er (x y:ak):Prop:=x.a<y.a\/x.a=y.a/\x.b<y.b
instance (x y:ak):Decidable (er x y):=by unfold er;infer_instance
theorem Cz (x:ak):¬er x x:=by unfold er;omega
theorem vH {x y z:ak} (h:er x y) (h':er y z):er x z:=by unfold er at*;omega
theorem Hs {x y:ak}:p_ x y=true↔¬er y x:=by rw[y4];unfold er;omega
theorem Es {x y:ak} (h1:x.a=y.a) (h2:x.b=y.b):x=y:=by cases x;cases y;simp_all
theorem CA (x y:ak):er x y\/x=y\/er y x:=by
 unfold er;by_cases h1:x.a=y.a<;>by_cases h2:x.b=y.b
 ·exact .inr (.inl (Es h1 h2))
 all_goals omega
theorem Qz {x y:ak}:jq x y=0↔x=y:=by
 rw[Hl];constructor
 ·intro h;apply Es<;>(split at h<;>first|omega|(split at h<;>first|omega|(split at h<;>first|omega|(split at h<;>omega))))
 ·intro h;subst h;simp
theorem t_ {x y:ak}:jq x y<0↔er x y:=by
 rw[Hl];unfold er;split
 ·omega
 ·split
  ·omega
  ·split
   ·omega
   ·split<;>omega
def gZ (x y:aD):Prop:=er x.A y.A\/x.A=y.A/\er x.B y.B
instance (x y:aD):Decidable (gZ x y):=by unfold gZ;infer_instance
def r8 (a b c d:ak):Int:=iV [jq a c,jq b d]
theorem QA {x y:aD}:0<=r8 x.A x.B y.A y.B↔¬gZ x y:=by
 unfold r8 gZ iV iV iV;have h1:= @Qz x.A y.A;have h2:= @t_ x.A y.A;have h3:= @Qz x.B y.B;have h4:= @t_ x.B y.B;split
 ·rename_i h;have e:=h1.1 h;rw[<-h4,e];have:¬er y.A y.A:=Cz _;split
  ·simp_all
  ·simp only[this,false_or,true_and,<-h4];omega
 ·rename_i h;have:¬x.A=y.A:=λe=>h (h1.2 e);rw[<-h2];simp[this]
def mK (r:ak):Bool:=decide (0<=r.a)&&decide (r.a<4)&&decide (1<=r.b)&&decide (r.b<=1048576)
def jK (a b:ak):Bool:=mK a&&mK b&&decide (a.a<b.a)
def uc (l:List aD) (i:Nat):Int:=
 if jK l[i]!.A l[i]!.B=false then 41 else if l[i]!.w<1\/1048576<l[i]!.w then 40 else if 0<i/\¬gZ l[i-1]! l[i]! then 12 else 0
def gD (l:List aD):Int:=if 4096<l.length then 1 else iV ((List.range l.length).map (uc l))
theorem Yc (a b:List Int):iV (a++b)=if iV a=0 then iV b else iV a:=by
 induction a with
 |nil=>simp[iV]
 |cons x a ih=>simp only[List.cons_append,iV];split<;>simp_all
theorem QB {l:List Int} (h:∀x∈l,x=0):iV l=0:=by
 induction l with
 |nil=>rfl
 |cons x l ih=>simp only[iV];rw[if_pos (h x aF)];exact ih (λy hy=>h y (by simp[hy]))
theorem Yd {l:List Int} (h:iV l=0):∀x∈l,x=0:=by
 induction l with
 |nil=>simp
 |cons x l ih=>
  simp only[iV] at h;split at h
  ·rename_i e;intro y hy;rcases List.mem_cons.1 hy with rfl|hy
   ·exact e
   ·exact ih h y hy
  ·rename_i e;exact absurd h e
theorem QC {l:List aD} (h:4096<l.length):gD l=1:=by unfold gD;rw[if_pos h]
theorem KZ {l:List aD} (hl:l.length<=4096) (h0:∀k,k<l.length->uc l k=0):gD l=0:=by
 unfold gD;rw[if_neg ah];refine QB λx hx=>?_;obtain⟨k,hk,rfl⟩:=List.mem_map.1 hx;exact h0 k (List.mem_range.1 hk)
theorem range_split {i n:Nat} (h:i<n):List.range n=List.range i++(i::(List.range n).drop (i+1)):=by
 have h1: (List.range n).take i=List.range i:=by rw[List.take_range,Nat.min_eq_left ah]
 have h2: (List.range n).drop i=i::(List.range n).drop (i+1):=by
  rw[List.drop_eq_getElem_cons (by simpa using h)];simp
 rw[<-h1,<-h2,List.take_append_drop]
theorem CB {l:List aD} {i:Nat} (hl:l.length<=4096) (h:i<l.length) (h0:∀k,k<i->uc l k=0) (he:uc l i≠0):gD l=uc l i:=by
 unfold gD;rw[if_neg ah,range_split h,List.map_append,Yc,if_pos]
 ·simp only[List.map_cons,iV];rw[if_neg he]
 ·refine QB λx hx=>?_;obtain⟨k,hk,rfl⟩:=List.mem_map.1 hx;exact h0 k (List.mem_range.1 hk)
theorem QD {l:List aD} (h:gD l=0):l.length<=4096/\∀k,k<l.length->uc l k=0:=by
 unfold gD at h;split at h
 ·cases h
 ·exact⟨by omega,λk hk=>Yd h _ (List.mem_map.2 ⟨k,List.mem_range.2 hk,rfl⟩)⟩
theorem Et {l:List aD} (h:gD l=0):l.length<=4096:=(QD h).1
theorem K0 {l:List aD} {i:Nat} (h:i<l.length):uc l i=if jK l[i].A l[i].B=false then 41 else if l[i].w<1\/1048576<l[i].w then 40 else if 0<i/\¬gZ (l[i-1]'ah) l[i] then 12 else 0:=by
 unfold uc;rw[getElem!_pos l i h,getElem!_pos l (i-1) ah]
def okB (x:aD):Prop:=jK x.A x.B=true/\1<=x.w/\x.w<=1048576
def ow (l:List aD):Prop:=l.length<=4096/\(∀x∈l,okB x)/\l.Pairwise gZ
theorem ow.check {l:List aD} (h:ow l):gD l=0:=by
 obtain⟨h1,h2,h3⟩:=h;refine KZ h1 λk hk=>?_;have hx:=h2 l[k] (List.getElem_mem hk);unfold uc;rw[getElem!_pos l k hk,if_neg (by simp[hx.1]),if_neg (by have:=hx.2;omega)];split
 ·rename_i h;exfalso;obtain⟨h0,hn⟩:=h;rw[getElem!_pos l (k-1) ah] at hn;exact hn (List.pairwise_iff_getElem.1 h3 (k-1) k ah hk ah)
 ·rfl
theorem ow.sub {l l':List aD} (h:ow l) (hs:l'.Sublist l):ow l':=⟨Nat.le_trans hs.length_le h.1,λx hx=>h.2.1 x (hs.subset hx),h.2.2.sublist hs⟩
def mL (l:List aD):List ak:=l.flatMap λx=>[x.A,x.B]
def aO (l:List aD):List ak:=iG (jJ (mL l))
theorem Ye (l:List aD) (x:aD):mL (l++[x])=mL l++[x.A,x.B]:=by simp[mL]
theorem QE {l:List aD} {i:Nat} (h:i<l.length):mL (l.take (i+1))=mL (l.take i)++[l[i].A,l[i].B]:=by
 rw[List.take_succ_eq_append_getElem h,Ye]
theorem Eu (l:List aD): (mL l).length=2*l.length:=by
 induction l with
 |nil=>rfl
 |cons x l ih=>simp only[mL,List.flatMap_cons,List.length_append,List.length_cons,List.length_nil] at*;omega
theorem Yf (l:List ak): (jJ l).length=l.length:=(xq l).length_eq
theorem lJ (l:List aD): (aO l).length<=2*l.length:=by
 unfold aO;have:=XV (jJ (mL l));rw[Yf,Eu] at this;exact this
theorem jB {l:List aD} {r:ak}:r∈aO l↔∃x∈l,r=x.A\/r=x.B:=by
 unfold aO;rw[Hp,(xq _).mem_iff];simp[mL,List.mem_flatMap]
theorem xu (l:List aD): (aO l).Pairwise er:=by
 unfold aO;have h1:=Qv (mL l);have h2:=KW (le:=λx y=>p_ x y=true) KV h1;have h3:=h1.sublist (Er _);refine(h3.and h2).imp λ{x y} ⟨h4,h5⟩=>?_;rcases CA x y with h|h|h
 ·exact h
 ·exact absurd h h5
 ·exact absurd h (Hs.1 h4)
theorem AF {l:List ak} (h:l.Pairwise er):l.Nodup:=h.imp λ{x y} hxy e=>by subst e;exact Cz _ hxy
theorem vI (l:List aD): (aO l).Nodup:=AF (xu l)
theorem Ht {l l':List ak} (h:l.Pairwise er) (h':l'.Pairwise er) (hm:∀r,r∈l↔r∈l'):l=l':=by
 have hp:l.Perm l':=(List.perm_ext_iff_of_nodup (AF h) (AF h')).2 hm;refine Qw KV hp (h.imp λ{x y} hxy=>Hs.2 λh2=>Cz _ (vH hxy h2)) (h'.imp λ{x y} hxy=>Hs.2 λh2=>Cz _ (vH hxy h2))
def r9 (ρ:ak->ak) (a b:ak):ak->ak:=λr=>if ρ r=ρ a then ρ b else ρ r
def y6 (ρ:ak->ak) (l:List aD):ak->ak:=l.foldl (λρ x=>r9 ρ x.A x.B) ρ
def b8 (l:List aD):ak->ak:=y6 id l
theorem Yg (l:List aD) (x:aD):b8 (l++[x])=r9 (b8 l) x.A x.B:=by unfold b8 y6;rw[List.foldl_append];rfl
theorem QF {γ:Type} (p:ak->γ):∀(l:List aD) (ρ:ak->ak),(∀x∈l,p x.A=p x.B)->(∀r,p (ρ r)=p r)->∀r,p (y6 ρ l r)=p r
 |[],ρ,_,h,r=>h r
 |x::l,ρ,hx,h,r=>by
  show p (y6 (r9 ρ x.A x.B) l r)=p r;refine QF p l _ (λy hy=>hx y (by simp[hy])) (λs=>?_) r;unfold r9;split
  ·rename_i e;rw[h,<-hx x aF,<-h x.A,<-e,h]
  ·exact h s
theorem sZ {γ:Type} {p:ak->γ} {l:List aD} (hx:∀x∈l,p x.A=p x.B) (r:ak):p (b8 l r)=p r:=QF p l id hx (λ_=>rfl) r
theorem QG:∀(l:List aD) (ρ:ak->ak) {r s:ak},ρ r=ρ s->y6 ρ l r=y6 ρ l s
 |[],_,_,_,h=>h
 |x::l,ρ,r,s,h=>QG l (r9 ρ x.A x.B) (by unfold r9;rw[h])
theorem QH:∀(l:List aD) (ρ:ak->ak) {x:aD},x∈l->y6 ρ l x.A=y6 ρ l x.B
 |y::l,ρ,x,h=>by
  rcases List.mem_cons.1 h with rfl|h
  ·exact QG l (r9 ρ x.A x.B) (by unfold r9;rw[if_pos rfl];split<;>rfl)
  ·exact QH l _ h
theorem xw {l:List aD} {x:aD} (h:x∈l):b8 l x.A=b8 l x.B:=QH l id h
theorem K1 {l l':List aD} (h:∀x∈l,x∈l') {r s:ak} (e:b8 l r=b8 l s):b8 l' r=b8 l' s:=by
 have hp:∀x∈l,b8 l' x.A=b8 l' x.B:=λx hx=>xw (h x hx);rw[<-sZ hp r,<-sZ hp s,e]
theorem QI {l:List aD} {r:ak}:b8 l r∈aO l↔r∈aO l:=by
 have:=sZ (p:=λr=>decide (r∈aO l)) (l:=l) (λx hx=>by
  rw[decide_eq_true (jB.2 ⟨x,hx,.inl rfl⟩),decide_eq_true (jB.2 ⟨x,hx,.inr rfl⟩)]) r
 simpa using this
theorem QJ {l:List aD} {r:ak} (h:r∉aO l):b8 l r=r:=by
 have:=sZ (p:=λs=>if s∈aO l then none else some s) (l:=l) (λx hx=>by
  rw[if_pos (jB.2 ⟨x,hx,.inl rfl⟩),if_pos (jB.2 ⟨x,hx,.inr rfl⟩)]) r
 rw[if_neg h,if_neg (λhm=>h (QI.1 hm))] at this;simpa using this
section
variable {α β:Type} [DecidableEq β]
def eC (f:α->β) (xs:List α):List α:=xs.foldl (λacc r=>if acc.any (λq=>decide (f q=f r)) then acc else acc++[r]) []
def iK (f:α->β) (xs:List α):List (List α):=(eC f xs).map λq=>xs.filter λr=>decide (f r=f q)
theorem CD (f:α->β) (xs:List α) (r:α):eC f (xs++[r])=if(eC f xs).any (λq=>decide (f q=f r)) then eC f xs else eC f xs++[r]:=by
 unfold eC;rw[List.foldl_append];rfl
theorem K2 {p:List α->Prop} (h0:p []) (h1:∀l a,p l->p (l++[a])) (l:List α):p l:=by
 rw[<-List.reverse_reverse l]
 induction l.reverse with
 |nil=>exact h0
 |cons a l ih=>rw[List.reverse_cons];exact h1 _ a ih
theorem AG (f:α->β) (xs:List α): (eC f xs).Sublist xs:=by
 induction xs using K2 with
 |h0=>exact List.Sublist.refl _
 |h1 l a ih=>
  rw[CD];split
  ·exact ih.trans (List.sublist_append_left _ _)
  ·exact ih.append (List.Sublist.refl _)
theorem Hu {f:α->β} {xs:List α} {r:α}: (eC f xs).any (λq=>decide (f q=f r))=true↔∃q∈xs,f q=f r:=by
 induction xs using K2 with
 |h0=>simp[eC]
 |h1 l a ih=>
  rw[CD];split
  ·rename_i h;rw[ih];constructor
   ·rintro⟨q,hq,e⟩;exact⟨q,by simp[hq],e⟩
   ·rintro⟨q,hq,e⟩;rcases List.mem_append.1 hq with hq|hq
    ·exact⟨q,hq,e⟩
    ·simp only[List.mem_singleton] at hq;subst hq;obtain⟨s,hs,e2⟩:=List.any_eq_true.1 h;exact⟨s,(AG f l).subset hs,by simpa[e] using e2⟩
  ·simp only[List.any_append,Bool.or_eq_true,ih,List.any_cons,List.any_nil,Bool.or_false,decide_eq_true_eq];constructor
   ·rintro(⟨q,hq,e⟩|e)
    ·exact⟨q,by simp[hq],e⟩
    ·exact⟨a,by simp,e⟩
   ·rintro⟨q,hq,e⟩;rcases List.mem_append.1 hq with hq|hq
    ·exact .inl ⟨q,hq,e⟩
    ·simp only[List.mem_singleton] at hq;subst hq;exact .inr e
theorem K3 {f:α->β} {xs:List α} {r:α} (h:r∈xs):∃q∈eC f xs,f q=f r:=by
 have:=(Hu (f:=f) (xs:=xs) (r:=r)).2 ⟨r,h,rfl⟩;obtain⟨q,hq,e⟩:=List.any_eq_true.1 this;exact⟨q,hq,by simpa using e⟩
theorem K4 (f:α->β) (xs:List α): ((eC f xs).map f).Nodup:=by
 induction xs using K2 with
 |h0=>simp[eC]
 |h1 l a ih=>
  rw[CD];split
  ·exact ih
  ·rename_i h;rw[List.map_append,List.nodup_append];refine⟨ih,by simp,λx hx y hy e=>h ?_⟩;obtain⟨q,hq,rfl⟩:=List.mem_map.1 hx;simp only[List.map_cons,List.map_nil,List.mem_singleton] at hy;exact List.any_eq_true.2 ⟨q,hq,by simp[e,hy]⟩
theorem nQ (f:α->β) (xs:List α): (iK f xs).length=(eC f xs).length:=by simp[iK]
theorem Ev {f:α->β} {xs:List α} {i:Nat} (h:i<(iK f xs).length): (iK f xs)[i]=xs.filter λr=>decide (f r=f ((eC f xs)[i]'(by rwa [nQ] at h))):=by simp[iK]
theorem QL {f:α->β} {xs:List α} {r:α} {i:Nat} (hi:i<(eC f xs).length) (e:f (eC f xs)[i]=f r):
  eC f (xs++[r])=eC f xs/\iK f (xs++[r])=(iK f xs).modify i (·++[r]):=by
 have h1:eC f (xs++[r])=eC f xs:=by
  rw[CD,if_pos (List.any_eq_true.2 ⟨_,List.getElem_mem hi,by simp[e]⟩)]
 refine⟨h1,?_⟩;apply List.ext_getElem?;intro j;unfold iK;rw[h1,List.getElem?_modify,List.getElem?_map,List.getElem?_map];by_cases hj:j<(eC f xs).length
 ·rw[List.getElem?_eq_getElem hj];simp only[Option.map_some,Option.some.injEq];by_cases hij:i=j
  ·subst hij;simp[List.filter_append,e]
  ·rw[List.filter_append];have:¬f r=f (eC f xs)[j]:=λh2=>hij (by
    have hn:=List.pairwise_iff_getElem.1 (K4 f xs);rcases Nat.lt_trichotomy i j with h3|h3|h3
    ·exact absurd (by rw[List.getElem_map,List.getElem_map,e,h2]) (hn i j (by simpa using hi) (by simpa using hj) h3)
    ·exact h3
    ·exact absurd (by rw[List.getElem_map,List.getElem_map,e,h2]) (hn j i (by simpa using hj) (by simpa using hi) h3))
   simp[hij,this]
 ·rw[List.getElem?_eq_none ah];simp
theorem QM {f:α->β} {xs:List α} {r:α} (h:∀q∈eC f xs,f q≠f r):
  eC f (xs++[r])=eC f xs++[r]/\iK f (xs++[r])=iK f xs++[[r]]:=by
 have h0:¬(eC f xs).any (λq=>decide (f q=f r))=true:=λha=>by
  obtain⟨q,hq,e⟩:=List.any_eq_true.1 ha;exact h q hq (by simpa using e)
 have h1:eC f (xs++[r])=eC f xs++[r]:=by rw[CD,if_neg h0]
 refine⟨h1,?_⟩;unfold iK;rw[h1,List.map_append];congr 1
 ·refine List.map_congr_left λq hq=>?_;rw[List.filter_append];simp[Ne.symm (h q hq)]
 ·simp only[List.map_cons,List.map_nil,List.filter_append,List.cons.injEq,and_true];have:xs.filter (λr_1=>decide (f r_1=f r))=[]:=by
   rw[List.filter_eq_nil_iff];intro q hq hd;exact h0 (Hu.2 ⟨q,hq,by simpa using hd⟩)
  rw[this];simp
end
def dM (l:List aD):List (List ak):=iK (b8 l) (aO l)
def aP (l:List aD):List (List aD):=(eC (b8 l) (aO l)).map λq=>l.filter λx=>decide (b8 l x.A=b8 l q)
theorem K5 (l:List aD): (dM l).length<=2*l.length:=by
 unfold dM;rw[nQ];exact Nat.le_trans (AG _ _).length_le (lJ l)
theorem vJ (l:List aD): (aP l).length=(dM l).length:=by simp[aP,dM,iK]
def ox (u:List (ak×ak)) (ρ:ak->ak) (d:ak->Nat):Prop:=
 ∀r v,fe u r=some v->(∃v',fe u v=some v')/\ρ v=ρ r/\(v≠r->d v<d r)/\(v=r->ρ r=r)
def Dom (u:List (ak×ak)) (xs:List ak):Prop:=∀r∈xs,∃v,fe u r=some v
theorem Dom.put {u:List (ak×ak)} {xs:List ak} (h:Dom u xs) (a b:ak):Dom (iu u a b) xs:=λr hr=>by
 rw[nN];split
 ·exact⟨_,rfl⟩
 ·exact h r hr
theorem Dom.Yh {u:List (ak×ak)} {xs:List ak} (h:Dom u xs) (a b:ak):Dom (iu u a b) (xs++[a]):=λr hr=>by
 rw[nN];split
 ·exact⟨_,rfl⟩
 ·rename_i e;rcases List.mem_append.1 hr with hr|hr
  ·exact h r hr
  ·simp only[List.mem_singleton] at hr;exact absurd hr.symm e
theorem ox.self {u:List (ak×ak)} {d:ak->Nat} (h:ox u id d) (r:ak):ox (iu u r r) id d:=λs v hs=>by
 rw[nN] at hs;split at hs
 ·rename_i e;obtain rfl:r=v:=by simpa using hs
  subst e;exact⟨⟨r,by rw[nN,if_pos rfl]⟩,rfl,λh=>absurd rfl h,λ_=>rfl⟩
 ·obtain⟨⟨v',h1⟩,h2,h3,h4⟩:=h s v hs;refine⟨?_,h2,h3,h4⟩;rw[nN];split
  ·exact⟨_,rfl⟩
  ·exact⟨_,h1⟩
theorem ox.Yi {u:List (ak×ak)} {ρ:ak->ak} {d:ak->Nat} (h:ox u ρ d) {r v v2:ak} (hr:fe u r=some v) (hv:fe u v=some v2) (hne:v≠r):ox (iu u r v2) ρ d:=λs x hs=>by
 have hd:∀{y:ak},(∃v',fe u y=some v')->∃v',fe (iu u r v2) y=some v':=λ{y} hy=>by
  rw[nN];split
  ·exact⟨_,rfl⟩
  ·exact hy
 rw[nN] at hs;split at hs
 ·rename_i e;obtain rfl:v2=x:=by simpa using hs
  subst e;obtain⟨_,h2,h3,h4⟩:=h r v hr;obtain⟨g1,g2,g3,g4⟩:=h v v2 hv;refine⟨hd g1,g2.trans h2,λ_=>?_,λe=>?_⟩
  ·have:=h3 hne;by_cases e:v2=v
   ·rw[e];exact this
   ·have:=g3 e;omega
  ·exfalso;have a1:=h3 hne;by_cases e2:v2=v
   ·exact hne (e2.symm.trans e)
   ·have:=g3 e2;rw[e] at this;omega
 ·obtain⟨h1,h2⟩:=h s x hs;exact⟨hd h1,h2⟩
theorem ox.join {u:List (ak×ak)} {ρ:ak->ak} {d:ak->Nat} (h:ox u ρ d) {a b:ak} (ha:fe u (ρ a)=some (ρ a)) (hb:fe u (ρ b)=some (ρ b)):∃d',ox (iu u (ρ a) (ρ b)) (r9 ρ a b) d':=by
 have gj:=(h _ _ ha).2.2.2 rfl;have ib:=(h _ _ hb).2.2.2 rfl;refine⟨λx=>if ρ x=ρ a/\ρ a≠ρ b then d x+d (ρ b)+1 else d x,λs x hs=>?_⟩;have hd:∀{y:ak},(∃v',fe u y=some v')->∃v',fe (iu u (ρ a) (ρ b)) y=some v':=λ{y} hy=>by
  rw[nN];split
  ·exact⟨_,rfl⟩
  ·exact hy
 rw[nN] at hs;split at hs
 ·rename_i e;obtain rfl:ρ b=x:=by simpa using hs
  subst e;refine⟨hd ⟨_,hb⟩,?_,λhne=>?_,λe=>?_⟩
  ·unfold r9;rw[gj,ib];simp
  ·simp only;rw[if_neg (λh=>hne (ib.symm.trans h.1)),if_pos ⟨gj,λe=>hne e.symm⟩];omega
  ·unfold r9;rw[gj,if_pos rfl,e]
 ·rename_i hne;obtain⟨h1,h2,h3,h4⟩:=h s x hs;refine⟨hd h1,?_,λhx=>?_,λe=>?_⟩
  ·unfold r9;rw[h2]
  ·have:=h3 hx;simp only[h2];split<;>omega
  ·have:=h4 e;unfold r9;rw[if_neg (λe2=>hne (by rw[<-e2,this])),this]
section
variable {α:Type} [aZ α] {w w':World} {C a_ D D':Nat->Nat} {I:List Nat} {e:TypeId} {v:Value} {ys:List α} {x:α} {j j1 i b:Nat} {t:TypeId}
theorem bg.mM (h:bg w' a_ j1 e v ys) (hs:ax I w D w' a_) (hF:aL w C) (hD:au D=au C) (hj:∀b,b<w.heap.size->D b≠j1) (h1:j1≠0) (j:Nat) (hjj:j≠0):
  ∃aQ,(∀b,b<w.heap.size->aQ b=C b)/\aL w' aQ/\(∀b,au aQ b->au a_ b)/\bg w' aQ j e v ys:=by
 have old:∀b,au C b->au a_ b:=λb hb=>by
  have hlt:=hF b hb;unfold au;rw[hs.col b hlt];have:au D b:=by rw[hD];exact hb
  exact this
 have fresh:∀b,c9 v b->¬b<w.heap.size:=λb hb hlt=>hj b hlt (by rw[<-hs.col b hlt];exact h.col b hb);refine⟨gN C v j,λb hb=>?_,λb hb=>?_,λb hb=>?_,⟨h.own.sub (λb _ hb=>?_) (λb hb=>?_),λb hb=>?_⟩⟩
 ·unfold gN;rw[if_neg (show¬v.ownBlock=some b from λe=>fresh b e hb)]
 ·by_cases ho:c9 v b
  ·exact(h.own.fh b ho).2
  ·unfold gN at hb;rw[if_neg (show¬v.ownBlock=some b from ho)] at hb;exact Nat.lt_of_lt_of_le (hF b hb) hs.size
 ·by_cases ho:c9 v b
  ·unfold au;rw[h.col b ho];exact h1
  ·unfold au gN at hb;rw[if_neg (show¬v.ownBlock=some b from ho)] at hb;exact old b hb
 ·by_cases ho:c9 v b
  ·unfold au;rw[h.col b ho];exact h1
  ·unfold au gN at hb;rw[if_neg (show¬v.ownBlock=some b from ho)] at hb;exact old b hb
 ·unfold au gN;rw[if_pos (show v.ownBlock=some b from hb)];exact hjj
 ·unfold gN;rw[if_pos (show v.ownBlock=some b from hb)]
theorem ax.mM {aQ:Nat->Nat} (h:ax I w C w' D') (hc:∀b,b<w.heap.size->aQ b=C b):ax I w C w' aQ:=⟨h.ext,hc⟩
theorem av.mM {aQ:Nat->Nat} (h:av w' (au a_) x v) (iD:∀b,au aQ b->au a_ b):av w' (au aQ) x v:=h.sub (λb _ hb=>iD b hb)
end
end Go.K
namespace Go.K
open aZ Go.Proofs Go.Shelf Go.Sort
theorem QN {W w':World} (h:Ext (λ_=>False) W w'):∃q os',w'=grow (W.drewN q) os':=by
 refine⟨w'.drawn-W.drawn,w'.heap.extract W.heap.size w'.heap.size,?_⟩;obtain⟨h1,h2,h3,h4,h5,h6⟩:=h;obtain⟨hp,tp,afZ,os,out⟩:=w';simp only at h1 h2 h3 h4 h5 h6;unfold nJ at h6;simp only at h6;subst h1 h2 h3;simp only[grow,World.drewN,World.mk.injEq,and_true,true_and];refine⟨?_,by omega⟩;apply Array.ext_getElem?;intro b;rw[Array.getElem?_append];split
 ·rename_i hb;exact h5 b hb (λh=>h)
 ·rename_i hb;rw[Array.getElem?_extract];simp only[Nat.min_self];split
  ·congr 1;omega
  ·rw[Array.getElem?_eq_none ah]
section
variable {P:Program} {ρ:Ren} {α:Type} [Inhabited α] [aZ α] {enc:α->List Value} {cf:α->α->Int} {w:World} {C:Nat->Nat} {j g0:Nat} {e:TypeId} {v:Value} {ys:List α}
def CF (cf:α->α->Int):α->α->Bool:=λx y=>!(ltOf cf) y x
theorem Yj {F cs:Array Value} (h:F.size<=cs.size) (t:Nat): (putCells id 0 F cs)[t]?=if t<F.size then F[t]? else cs[t]?:=by
 unfold putCells;rw[Array.getElem?_mapIdx];by_cases ht:t<cs.size
 ·rw[Array.getElem?_eq_getElem ht];simp only[Option.map_some,Nat.zero_le,true_and,Nat.zero_add,Nat.sub_zero,id];split
  ·rename_i h1;rw[Array.getElem?_eq_getElem h1,getElem!_pos F t h1]
  ·rfl
 ·rw[Array.getElem?_eq_none ah,if_neg ah];rfl
theorem QO {k:Nat} (hk:∀x,(enc x).length=k) (d:Array α) {i r:Nat} (hi:i<d.size) (hr:r<k): (flatK enc k d)[i*k+r]?=(enc d[i])[r]?:=by
 have hlt:i*k+r<d.size*k:=by
  have:=Nat.mul_le_mul_right k (show i+1<=d.size from hi);rw[Nat.succ_mul] at this;omega
 have hdiv: (i*k+r)/k=i:=by rw[Nat.mul_comm,Nat.mul_add_div ah,Nat.div_eq_of_lt hr];rfl
 have hmod: (i*k+r)%k=r:=by rw[Nat.mul_comm,Nat.mul_add_mod,Nat.mod_eq_of_lt hr]
 have h:=get_flatK enc k d (i*k+r) hlt;rw[hdiv,hmod,getElem!_pos d i hi,getElem!_pos (flatK enc k d) _ (by rw[size_flatK];exact hlt),getElem!_pos (enc d[i]) r (by rw[hk];exact hr)] at h;rw[Array.getElem?_eq_getElem (by rw[size_flatK];exact hlt),h,List.getElem?_eq_getElem]
theorem QS (L:SlLaysF0.n6 P ρ) (aE:∀w,(isAgg (ρ.t 24)).run P w=.ok true w) (zE:∀w,(Go.sizeOf (ρ.t 24)).run P w=.ok (sz α) w)
  (Ew:∀h M x vs,rep h M x vs↔vs=enc x) (hk:∀x:α,(enc x).length=sz α) (h0:0<sz α) (h1:∀x,∀u∈enc x,u.oneCell'=true) (hO:SWO (ltOf cf)) (hT:∀x y,(ltOf cf) x y=false->(ltOf cf) y x=false->x=y)
  (eg:∀args w,(callFunc g0 args).run P w=.ok (.enter g0 args) w)
  (hcmp:∀W x y,Calls P g0 #[.agg (enc x).toArray,.agg (enc y).toArray] W (bH λu w'=>u=.int .i64 (cf x y)/\Ext (λ_=>False) W w'))
  (hF:aL w C) (ho:bg w C j e v ys) (hlen:ys.length<=140737488355328):
  Calls P (ρ.f 6) #[v,.func (.func g0) #[] #[]] w (bH λu w'=>u=.tuple #[]/\ax [j] w C w' C/\bg w' C j e v (ys.mergeSort (CF cf))/\aL w' C):=by
 obtain⟨hown,kr⟩:=ho;rcases hown with⟨rfl,rfl⟩|⟨g,cap,cs,rfl,hg,hc,hcap,h2,h3⟩
 ·refine(AnyF.slices_SortFunc_none (P:=P) (ρ:=ρ) {L with} none 0 (.func (.func g0) #[] #[]) w).mono ?_;rintro e' w' ⟨rfl,rfl⟩;exact⟨_,rfl,rfl,ax.refl _ _ _,by simpa using(bg.nil (α:=α)),hF⟩
 ·have hcell:∀i (hi:i<ys.length) r,r<sz α->cs[i*sz α+r]?=(enc ys[i])[r]?:=λi hi r hr=>by
   have h:=(Ew _ _ _ _).1 (h3 i hi);have:=congrArg (λl=>l[r]?) h;simp only[dh,List.getElem?_take,if_pos hr,List.getElem?_drop,Array.getElem?_toList] at this;exact this
  have hH:HoldsK enc (sz α) w g 0 ys.toArray:=λt ht=>by
   rw[size_flatK] at ht;simp only[List.size_toArray] at ht;have hi:t/sz α<ys.length:=Nat.div_lt_of_lt_mul (by rwa [Nat.mul_comm] at ht);have hr:=Nat.mod_lt t h0;have Yk:t/sz α*sz α+t%sz α=t:=by rw[Nat.mul_comm];exact Nat.div_add_mod t (sz α)
   have h5:=hcell _ hi _ hr;have h6:=QO hk ys.toArray (i:=t/sz α) (r:=t%sz α) (by simpa using hi) hr;rw[Yk] at h5 h6;refine⟨?_,?_⟩
   ·rw[cell_of_row w g (0+t) cs e (0,0) hc,Nat.zero_add,h5];simp only[List.getElem_toArray] at h6;rw[<-h6,id];rw[getElem!_pos _ t (by rw[size_flatK];simpa using ht),Array.getElem?_eq_getElem]
   ·simp[World.frozen?,hc]
  have K6:CmpLays P g0 #[] enc (sz α) cf g 0 ys.toArray.size w:=λm os dk hd x y=>by
   have h:=hcmp (sortWorldK enc (sz α) w g 0 m dk os) x y;rw[Array.append_empty];refine h.mono ?_;rintro e' w' ⟨u,rfl,rfl,hx⟩;exact⟨rfl,QN hx⟩
  have hsort:=AnyQ.slices_SortFunc_total L (sz α) aE zE enc hk h1 cf hO g0 #[] g 0 cap ys.toArray w eg K6 hH (rX hc) sV hT;refine hsort.mono ?_;rintro e' w' ⟨rfl,n,os,hw⟩;have ud:=List.mergeSort_perm ys (CF cf);have hl:=ud.length_eq;have hle: (flatK enc (sz α) (ys.mergeSort (CF cf)).toArray).size<=cs.size:=by
   rw[size_flatK,h2];simp only[List.size_toArray,hl];exact Nat.mul_le_mul_right _ hcap
  have ku:w'.heap[g]?=some (.cells (putCells id 0 (flatK enc (sz α) (ys.mergeSort (CF cf)).toArray) cs) e (0,0)):=by
   rw[hw];show(grow (putRow id (Sort.ahead w n) g 0 (flatK enc (sz α) (ys.mergeSort (CF cf)).toArray)) os).heap[g]?=_;simp only[grow,putRow,mapBlock,Sort.ahead];rw[Array.getElem?_append_left (by simpa using rX hc),Array.getElem?_modify,if_pos rfl,hc];rfl
  have Hg:ax [j] w C w' C:=⟨⟨by rw[hw];rfl,by rw[hw];rfl,by rw[hw];rfl,by
    rw[hw];show w.heap.size<=(grow (putRow id (Sort.ahead w n) g 0 _) os).heap.size;simp[grow,putRow,mapBlock,Sort.ahead],λb hb hn=>by
    have K7:g≠b:=λe=>hn (by rw[<-e,kr g rfl];simp);rw[hw];show(grow (putRow id (Sort.ahead w n) g 0 _) os).heap[b]?=_;simp only[grow,putRow,mapBlock,Sort.ahead];rw[Array.getElem?_append_left (by simpa using hb),Array.getElem?_modify,if_neg K7],by
    rw[hw];unfold nJ;exact Nat.le_add_right _ _⟩,λ_ _=>rfl⟩
  refine⟨_,rfl,rfl,Hg,⟨.inr ⟨g,cap,_,by rw[hl],hg,ku,by rw[hl];exact hcap,?_,?_⟩,kr⟩,hF.st Hg⟩
  ·simp only[putCells,Array.size_mapIdx];exact h2
  ·intro i hi;refine(Ew _ _ _ _).2 ?_;apply List.ext_getElem?;intro r;simp only[dh,List.getElem?_take,List.getElem?_drop,Array.getElem?_toList];split
   ·rename_i hr;have hlt:i*sz α+r<(flatK enc (sz α) (ys.mergeSort (CF cf)).toArray).size:=by
     rw[size_flatK];simp only[List.size_toArray];have:=Nat.mul_le_mul_right (sz α) (show i+1<=_ from hi);rw[Nat.succ_mul] at this;omega
    rw[Yj hle,if_pos hlt,QO hk _ (by simpa using hi) hr];simp
   ·rename_i hr;rw[List.getElem?_eq_none (by rw[hk];omega)]
end
end Go.K
namespace Go.K
open aZ
section
variable {dy β:Type} {kv:dy->Value} {dw:β->Value} {m:List (dy×β)} {w w' w₀:World} {I:List Nat} {C aQ kW:Nat->Nat} {i j b:Nat}
theorem fZ.eM (h:fZ w C i b kv dw m) (hi:i≠0):fZ w (K.eM C i) 2 b kv dw m:=⟨by unfold K.eM;rw[if_neg (by rw[h.1];exact hi),if_pos h.1],h.2⟩
theorem fZ.Yl (h:fZ w' aQ j b kv dw m) (hb:kW b=i):fZ w' kW i b kv dw m:=⟨hb,h.2⟩
theorem fZ.stay [DecidableEq dy] (h:fZ w C j b kv dw m) (hS:Ext (λb=>C b∈I) w w') (hj:j∉I):fZ w' C j b kv dw m:=h.st (I:=I) ⟨hS,λ_ _=>rfl⟩ hj
theorem fZ.yU [DecidableEq dy] (h:fZ w C j b kv dw m) (hS:Ext (λb=>C b∈I) w w') (hj:j∉I:=by first|decide|(simp<;>omega)):fZ w' C j b kv dw m:=h.stay hS hj
theorem fZ.mM {D:Nat->Nat} (h:fZ w' aQ j b kv dw m) (hs:ax I w₀ D w' aQ) (hF:aL w₀ kW) (hj:∀b,b<w₀.heap.size->D b≠j) (i:Nat):
  ∃a_,(∀b,b<w₀.heap.size->a_ b=kW b)/\fZ w' a_ i b kv dw m/\aL w' a_:=by
 obtain⟨hc,es,clock,hb,hm⟩:=h;have hge:w₀.heap.size<=b:=by
  rcases Nat.lt_or_ge b w₀.heap.size with h1|h1
  ·exact absurd (by rw[<-hs.col b h1];exact hc) (hj b h1)
  ·exact h1
 refine⟨yT kW b i,λc hc=>by unfold yT;rw[if_neg ah],⟨by simp[yT],es,clock,hb,hm⟩,λc hc=>?_⟩;unfold yT at hc;split at hc
 ·rename_i e;rw[e];exact rX hb
 ·exact Nat.lt_of_lt_of_le (hF c hc) hs.size
end
theorem ox.idem {u:List (ak×ak)} {ρ:ak->ak} {d:ak->Nat} (h:ox u ρ d) {r:ak} (hr:fe u r=some r):ρ r=r:=(h r r hr).2.2.2 rfl
def ue (m:List (ak×Nat)) (ts:List ak):Prop:=∀t i,fe m t=some i↔ts[i]?=some t
theorem ue.nil:ue [] []:=λt i=>by simp[fe]
theorem ue.new {m:List (ak×Nat)} {ts:List ak} (h:ue m ts) {t:ak} (hn:fe m t=none):ue (iu m t ts.length) (ts++[t]):=λs i=>by
 rw[nN];split
 ·rename_i e;subst e;constructor
  ·intro hi;obtain rfl:ts.length=i:=by simpa using hi
   simp
  ·intro hi;rw[List.getElem?_append] at hi;split at hi
   ·have:=(h t i).2 hi;rw[hn] at this;cases this
   ·rename_i hlt;have:i-ts.length=0:=by
     rcases Nat.lt_or_ge (i-ts.length) 1 with h1|h1
     ·omega
     ·rw[List.getElem?_eq_none (by simpa using h1)] at hi;cases hi
    simp;omega
 ·rename_i e;rw[h s i,List.getElem?_append];split
  ·exact Iff.rfl
  ·rename_i hlt;rw[List.getElem?_eq_none ah];constructor
   ·intro h;cases h
   ·intro h3;exfalso;rcases Nat.lt_or_ge (i-ts.length) 1 with h1|h1
    ·have:i-ts.length=0:=by omega
     rw[this] at h3;simp at h3;exact e h3
    ·rw[List.getElem?_eq_none (by simpa using h1)] at h3;cases h3
theorem ue.lt {m:List (ak×Nat)} {ts:List ak} (h:ue m ts) {t:ak} {i:Nat} (hi:fe m t=some i):∃hl:i<ts.length,ts[i]=t:=List.getElem?_eq_some_iff.1 ((h t i).1 hi)
theorem ue.none {m:List (ak×Nat)} {ts:List ak} (h:ue m ts) {t:ak} (hn:fe m t=none):t∉ts:=λhm=>by
 obtain⟨i,hi,e⟩:=List.mem_iff_getElem.1 hm;have:=(h t i).2 (by rw[List.getElem?_eq_getElem hi,e]);rw[hn] at this;cases this
theorem K8 {n:Nat}:∀c∈([2,3,4,5,6,7,8,9]++List.range' 10 n:List Nat),2<=c:=by
 intro c hc;simp only[List.mem_append,List.mem_cons,List.not_mem_nil,or_false,List.mem_range'_1] at hc;omega
def kf (f:Nat->Value) (k:Nat) (y:Value):Nat->Value:=λx=>if x=k then y else f x
def kL (gP:Nat->Value) (n:Nat):List gC:=(List.range n).map λi=>⟨gP i⟩
theorem vK (gP:Nat->Value) (n:Nat): (kL gP n).length=n:=by simp[kL]
theorem Ex {gP:Nat->Value} {n i:Nat} (h:i<(kL gP n).length): (kL gP n)[i].v=gP i:=by simp[kL]
theorem Hv {gP:Nat->Value} {n i:Nat} (y:Value): (kL gP n).set i ⟨y⟩=kL (kf gP i y) n:=by
 apply List.ext_getElem?;intro j;rw[List.getElem?_set];simp only[vK];by_cases hj:j<n
 ·have e1: (kL gP n)[j]?=some ⟨gP j⟩:=by simp[kL,hj]
  have e2: (kL (kf gP i y) n)[j]?=some ⟨kf gP i y j⟩:=by simp[kL,hj]
  rw[e1,e2];by_cases h:i=j
  ·subst h;simp[kf,hj]
  ·rw[if_neg h];simp[kf,Ne.symm h]
 ·have e1: (kL gP n)[j]?=none:=by simp[kL];omega
  have e2: (kL (kf gP i y) n)[j]?=none:=by simp[kL];omega
  rw[e1,e2];split
  ·rw[if_neg ah]
  ·rfl
theorem Ym {gP:Nat->Value} {n:Nat} (y:Value):kL gP n++[⟨y⟩]=kL (kf gP n y) (n+1):=by
 unfold kL;rw[List.range_succ,List.map_append];congr 1
 ·refine List.map_congr_left λi hi=>?_;have:=List.mem_range.1 hi;simp only[kf];rw[if_neg ah]
 ·simp[kf]
theorem QU (n:Nat) (y:Value):List.replicate n (⟨y⟩:gC)=kL (λ_=>y) n:=by
 unfold kL;apply List.ext_getElem
 ·simp
 ·intro i h1 h2;simp
section
variable {α β:Type} [DecidableEq β] {f:α->β} {xs:List α} {r:α} {i0:Nat}
theorem Yn (hi:i0<(eC f xs).length) (e:f (eC f xs)[i0]=f r):
  eC f (xs++[r])=eC f xs/\∀i,(iK f (xs++[r])).getD i []=if i=i0 then(iK f xs).getD i0 []++[r] else(iK f xs).getD i []:=by
 obtain⟨h1,h2⟩:=QL hi e;refine⟨h1,λi=>?_⟩;rw[h2];simp only[List.getD_eq_getElem?_getD,List.getElem?_modify];by_cases h:i=i0
 ·subst h;have:i<(iK f xs).length:=by rw[nQ];exact hi
  simp[this]
 ·rw[if_neg h];have:¬i0=i:=λe=>h e.symm;simp[this]
theorem Yo (h:∀q∈eC f xs,f q≠f r) (h0:i0=(eC f xs).length):
  eC f (xs++[r])=eC f xs++[r]/\∀i,(iK f (xs++[r])).getD i []=if i=i0 then(iK f xs).getD i0 []++[r] else(iK f xs).getD i []:=by
 obtain⟨h1,h2⟩:=QM h;refine⟨h1,λi=>?_⟩;subst h0;rw[h2,<-nQ];simp only[List.getD_eq_getElem?_getD,List.getElem?_append];by_cases h:i=(iK f xs).length
 ·subst h;simp
 ·rw[if_neg h];by_cases h3:i<(iK f xs).length
  ·rw[if_pos h3]
  ·rw[if_neg h3,List.getElem?_eq_none sV,List.getElem?_eq_none ah]
theorem K9 (f:α->β) (xs:List α) (i:Nat) {n:Nat} (h:xs.length<=n): ((iK f xs).getD i []).length<=n:=by
 rw[List.getD_eq_getElem?_getD];by_cases hi:i<(iK f xs).length
 ·rw[List.getElem?_eq_getElem hi,Ev];exact Nat.le_trans (List.length_filter_le _ _) h
 ·rw[List.getElem?_eq_none ah];simp
theorem Yp {i:Nat} (h: (eC f xs).length<=i): (iK f xs).getD i []=[]:=by
 rw[List.getD_eq_getElem?_getD,List.getElem?_eq_none (by rw[nQ];exact h)];rfl
end
theorem K_ {α:Type} [aZ α] {w:World} {M:Nat->Prop} {gP:Nat->Value} {ls:List (List α)} {v:Value} (h:av w M (kL gP ls.length) v) (he:∀i,i<ls.length->av w M (ls.getD i []) (gP i)):av w M ls v:=
 av.KY h rfl (by rw[vK]) λi h1 h2=>by
  rw[Ex];have:=he i h1;rwa [List.getD_eq_getElem?_getD,List.getElem?_eq_getElem h1] at this
def Ix (jX:List (ak×Nat)) (P:List (List ak)) (k j:Nat):Prop:=∀i r,(i<k/\r∈P.getD i [])\/(i=k/\r∈(P.getD k []).take j)->fe jX r=some i
theorem Ix.nil (P:List (List ak)):Ix [] P 0 0:=λi r h=>by
 rcases h with⟨h,_⟩|⟨_,h⟩
 ·omega
 ·simp at h
theorem Ix.next {jX:List (ak×Nat)} {P:List (List ak)} {k j:Nat} (h:Ix jX P k j) (hj: (P.getD k []).length<=j):Ix jX P (k+1) 0:=λi r hi=>by
 rcases hi with⟨h1,h2⟩|⟨_,h2⟩
 ·by_cases e:i=k
  ·subst e;exact h i r (.inr ⟨rfl,by rw[List.take_of_length_le hj];exact h2⟩)
  ·exact h i r (.inl ⟨by omega,h2⟩)
 ·simp at h2
theorem CG {l:List aD} {i:Nat} {r:ak}:r∈(dM l).getD i []↔∃hi:i<(eC (b8 l) (aO l)).length,r∈aO l/\b8 l r=b8 l (eC (b8 l) (aO l))[i]:=by
 rw[List.getD_eq_getElem?_getD];by_cases hi:i<(dM l).length
 ·rw[List.getElem?_eq_getElem hi];have hi2:i<(eC (b8 l) (aO l)).length:=by unfold dM at hi;rwa [nQ] at hi
  have: (dM l)[i]=(aO l).filter λr=>decide (b8 l r=b8 l (eC (b8 l) (aO l))[i]):=Ev hi;rw[Option.getD_some,this,List.mem_filter,decide_eq_true_eq];exact⟨λh=>⟨hi2,h⟩,λ⟨_,h⟩=>h⟩
 ·rw[List.getElem?_eq_none ah];simp only[Option.getD_none,List.not_mem_nil,false_iff];rintro⟨h,_⟩;exact hi (by unfold dM;rwa [nQ])
theorem La {α β:Type} [DecidableEq β] {f:α->β} {xs:List α} {i j:Nat} (hi:i<(eC f xs).length) (hj:j<(eC f xs).length) (e:f (eC f xs)[i]=f (eC f xs)[j]):i=j:=by
 have hn:=List.pairwise_iff_getElem.1 (K4 f xs);rcases Nat.lt_trichotomy i j with h3|h3|h3
 ·exact absurd (by rw[List.getElem_map,List.getElem_map,e]) (hn i j (by simpa using hi) (by simpa using hj) h3)
 ·exact h3
 ·exact absurd (by rw[List.getElem_map,List.getElem_map,e]) (hn j i (by simpa using hj) (by simpa using hi) h3)
theorem QV {l:List aD} {i j:Nat} {r:ak} (h:r∈(dM l).getD i []) (h':r∈(dM l).getD j []):i=j:=by
 obtain⟨hi,_,h1⟩:=CG.1 h;obtain⟨hj,_,h2⟩:=CG.1 h';exact La hi hj (h1.symm.trans h2)
theorem Ix.put {jX:List (ak×Nat)} {l:List aD} {k j:Nat} (h:Ix jX (dM l) k j) (hk:k<(dM l).length) (hj:j<(dM l)[k].length):Ix (iu jX (dM l)[k][j] k) (dM l) k (j+1):=λi r hi=>by
 have hg: (dM l).getD k []=(dM l)[k]:=by rw[List.getD_eq_getElem?_getD,List.getElem?_eq_getElem hk];rfl
 rw[nN];split
 ·rename_i e;subst e;have hm: (dM l)[k][j]∈(dM l).getD k []:=by rw[hg];exact List.getElem_mem hj
  rcases hi with⟨h1,h2⟩|⟨h1,_⟩
  ·exact absurd (QV h2 hm) ah
  ·rw[h1]
 ·rename_i e;refine h i r ?_;rcases hi with hi|⟨h1,h2⟩
  ·exact .inl hi
  ·refine .inr ⟨h1,?_⟩;rw[hg] at h2⊢;rw[List.take_succ_eq_append_getElem hj] at h2;rcases List.mem_append.1 h2 with h2|h2
   ·exact h2
   ·simp only[List.mem_singleton] at h2;exact absurd h2.symm e
theorem QW {l:List aD} {r:ak} (h:r∈aO l):∃i,r∈(dM l).getD i []:=by
 obtain⟨q,hq,e⟩:=K3 (f:=b8 l) h;obtain⟨i,hi,rfl⟩:=List.mem_iff_getElem.1 hq;exact⟨i,CG.2 ⟨hi,h,e.symm⟩⟩
def ry (l:List aD) (k:Nat):List (List aD):=(eC (b8 l) (aO l)).map λq=>(l.take k).filter λx=>decide (b8 l x.A=b8 l q)
theorem Hw (l:List aD):ry l l.length=aP l:=by unfold ry aP;rw[List.take_length]
theorem Hx {l:List aD} {k i:Nat} (hi:i<(eC (b8 l) (aO l)).length): (ry l k).getD i []=(l.take k).filter λx=>decide (b8 l x.A=b8 l (eC (b8 l) (aO l))[i]):=by
 rw[List.getD_eq_getElem?_getD,List.getElem?_eq_getElem (by simpa[ry] using hi)];simp[ry]
theorem QX (l:List aD) (i:Nat): (ry l 0).getD i []=[]:=by
 rw[List.getD_eq_getElem?_getD];unfold ry;by_cases hi:i<(eC (b8 l) (aO l)).length
 ·rw[List.getElem?_eq_getElem (by simpa using hi)];simp
 ·rw[List.getElem?_eq_none sV];rfl
theorem Hy (l:List aD) (k i:Nat): ((ry l k).getD i []).length<=l.length:=by
 by_cases hi:i<(eC (b8 l) (aO l)).length
 ·rw[Hx hi];exact Nat.le_trans (List.length_filter_le _ _) rT
 ·rw[List.getD_eq_getElem?_getD,List.getElem?_eq_none (by simp[ry];omega)];simp
theorem QY {l:List aD} {k i0 i:Nat} (hk:k<l.length) (h0:l[k].A∈(dM l).getD i0 []) (hi:i<(dM l).length):
  (ry l (k+1)).getD i []=if i=i0 then(ry l k).getD i0 []++[l[k]] else(ry l k).getD i []:=by
 have hi2:i<(eC (b8 l) (aO l)).length:=by unfold dM at hi;rwa [nQ] at hi
 obtain⟨iy,_,e⟩:=CG.1 h0;rw[Hx hi2,List.take_succ_eq_append_getElem hk,List.filter_append];by_cases h:i=i0
 ·subst h;rw[if_pos rfl,Hx hi2];simp[e]
 ·rw[if_neg h,Hx hi2];have:¬b8 l l[k].A=b8 l (eC (b8 l) (aO l))[i]:=λe2=>h (La hi2 iy (e2.symm.trans e));simp[this]
theorem Hz {α:Type} (f:α->Nat) (N:Nat):∀(l:List α) (lo:Nat),l.Pairwise (λx y=>f x<f y)->(∀x∈l,lo<=f x/\f x<N)->l.length<=N-lo
 |[],_,_,_=>Nat.zero_le _
 |x::l,lo,hp,h=>by
  obtain⟨h1,h2⟩:=List.pairwise_cons.1 hp;have hx:=h x aF;have ih:=Hz f N l (f x+1) h2 (λy hy=>⟨h1 y hy,(h y (by simp[hy])).2⟩);simp only[List.length_cons];omega
def rA (R I:Nat) (x:aD):Prop:=0<=x.A.a/\x.A.a<x.B.a/\x.B.a<R/\1<=x.A.b/\x.A.b<=I/\1<=x.B.b/\x.B.b<=I/\1<=x.w/\x.w<=9
def vL (r i s k:Nat) (x:aD):Prop:=x.A.a<r\/x.A.a=r/\(x.A.b<i\/x.A.b=i/\(x.B.a<s\/x.B.a=s/\x.B.b<k))
def oZ (R I r i s k:Nat) (l:List aD):Prop:=(∀x∈l,rA R I x/\vL r i s k x)/\l.Pairwise gZ
def Lb (R I:Nat) (l:List aD):Prop:=(∀x∈l,rA R I x)/\l.Pairwise gZ/\l.length<=4096
theorem oZ.nil (R I r i s k:Nat):oZ R I r i s k []:=⟨λx h=>by simp at h,List.Pairwise.nil⟩
theorem oZ.to {R I r i s k r' i' s' k':Nat} {l:List aD} (h:oZ R I r i s k l) (hc:∀x,rA R I x->vL r i s k x->vL r' i' s' k' x):oZ R I r' i' s' k' l:=
 ⟨λx hx=>⟨(h.1 x hx).1,hc x (h.1 x hx).1 (h.1 x hx).2⟩,h.2⟩
theorem oZ.len {R I r i s k:Nat} {l:List aD} (h:oZ R I r i s k l) (hR:R<=7) (hI:I<=7):l.length<=4096:=by
 have hb:∀x∈l,rA R I x:=λx hx=>(h.1 x hx).1;have:=Hz (λx:aD=>(x.A.a*512+x.A.b*64+x.B.a*8+x.B.b).toNat) 4096 l 0 (h.2.imp_of_mem λ{x y} hx hy hxy=>by
  have h1:=hb x hx;have h2:=hb y hy;unfold rA at h1 h2;unfold gZ er at hxy;show(x.A.a*512+x.A.b*64+x.B.a*8+x.B.b).toNat<(y.A.a*512+y.A.b*64+y.B.a*8+y.B.b).toNat;rcases hxy with(h3|⟨h3,h4⟩)|⟨h3,h4|⟨h4,h5⟩⟩
  ·omega
  ·omega
  ·rw[h3] at*;omega
  ·rw[h3] at*;omega) (λx hx=>by
  have h1:=hb x hx;unfold rA at h1;show 0<=_/\(x.A.a*512+x.A.b*64+x.B.a*8+x.B.b).toNat<4096;omega)
 simpa using this
theorem oZ.push {R I r i s k:Nat} {l:List aD} {q:Nat} (h:oZ R I r i s k l) (hr:r<s) (hs:s<R) (hi:1<=i/\i<=I) (hk:1<=k/\k<=I) (hq: (q:Int)<9):oZ R I r i s (k+1) (l++[⟨⟨r,i⟩,⟨s,k⟩,1+q⟩]):=by
 refine⟨λx hx=>?_,?_⟩
 ·rcases List.mem_append.1 hx with hx|hx
  ·obtain⟨h1,h2⟩:=h.1 x hx;refine⟨h1,?_⟩;unfold vL at*;omega
  ·simp only[List.mem_singleton] at hx;subst hx;refine⟨?_,?_⟩
   ·unfold rA;refine⟨by show(0:Int)<=r;omega,by show(r:Int)<s;omega,by show(s:Int)<R;omega,by show(1:Int)<=i;omega,by show(i:Int)<=I;omega,by show(1:Int)<=k;omega,by show(k:Int)<=I;omega,by show(1:Int)<=1+q;omega,by show(1:Int)+q<=9;omega⟩
   ·exact .inr ⟨rfl,.inr ⟨rfl,.inr ⟨rfl,by show(k:Int)<(k+1:Nat);omega⟩⟩⟩
 ·rw[List.pairwise_append];refine⟨h.2,by simp,λx hx y hy=>?_⟩;simp only[List.mem_singleton] at hy;subst hy;obtain⟨h1,h2⟩:=h.1 x hx;unfold vL at h2;unfold rA at h1;unfold gZ er;rcases h2 with h2|⟨h2,h3|⟨h3,h4⟩⟩
  ·exact .inl (.inl h2)
  ·exact .inl (.inr ⟨h2,h3⟩)
  ·exact .inr ⟨Es h2 h3,h4⟩
theorem oZ.fin {R I r i s k:Nat} {l:List aD} (h:oZ R I r i s k l) (hR:R<=7) (hI:I<=7):Lb R I l:=⟨λx hx=>(h.1 x hx).1,h.2,h.len hR hI⟩
structure Key where
 comps:List ak
instance:aZ Key where
 sz:=1
 agg:=true
 flat h:=by cases h
 rep h M x vs:=rep h M x.comps vs
 len h:=aZ.len (α:=List ak) h
 one h:=aZ.one (α:=List ak) h
 keep h hk:=aZ.keep (α:=List ak) h hk
 sub h hk:=aZ.sub (α:=List ak) h hk
structure Yq where
 val:Value
 one:val.oneCell'=true
instance:aZ Yq where
 sz:=1
 agg:=false
 flat _:=rfl
 rep _ _ x vs:=vs=[x.val]
 len h:=by subst h;rfl
 one h:=by subst h;rename_i x;intro v hv;simp at hv;subst hv;exact x.one
 keep h _:=h
 sub h _:=h
section
variable {w:World} {M:Nat->Prop} {b o:Nat} {v:Value}
end
def idxOf {α:Type} (p:α->Bool) (l:List α):Int:=if l.any p then(l.findIdx p:Int) else-1
theorem AH {α:Type} {p:α->Bool} {l:List α} {k:Nat} (h:k<l.length) (h0:∀i (hi:i<k),p (l[i]'ah)=false) (hp:p l[k]=true):idxOf p l=k:=by
 unfold idxOf;rw[if_pos (List.any_eq_true.2 ⟨l[k],List.getElem_mem h,hp⟩)];have:l.findIdx p=k:=(List.findIdx_eq h).2 ⟨hp,λj hj=>by simpa using h0 j hj⟩;rw[this]
theorem Ey {α:Type} {p:α->Bool} {l:List α} (h0:∀i (hi:i<l.length),p l[i]=false):idxOf p l= -1:=by
 unfold idxOf;rw[if_neg];intro h;obtain⟨x,hx,hp⟩:=List.any_eq_true.1 h;obtain⟨i,hi,rfl⟩:=List.mem_iff_getElem.1 hx;rw[h0 i hi] at hp;cases hp
theorem xx {α:Type} {p:α->Bool} {l:List α}:decide (0<=idxOf p l)=l.any p:=by
 unfold idxOf;cases h:l.any p
 ·rfl
 ·simp only[if_true];exact decide_eq_true ah
theorem QZ {l:List ak} {c:ak} (h:c∈l):∃i:Nat,idxOf (λx=>decide (c=x)) l=(i:Int)/\∃hi:i<l.length,l[i]=c:=by
 have ha:l.any (λx=>decide (c=x))=true:=List.any_eq_true.2 ⟨c,h,by simp⟩;refine⟨_,by unfold idxOf;rw[if_pos ha],?_⟩;have hlt:l.findIdx (λx=>decide (c=x))<l.length:=List.findIdx_lt_length.2 ⟨c,h,by simp⟩;refine⟨hlt,?_⟩;have:=List.findIdx_getElem (w:=hlt);simpa[eq_comm] using this
def HA (ks:List Key):Prop:=ks.length<=12/\∀k∈ks,k.comps.length<=12
def Ez (ks:List Key):List ak:=ks.flatMap (·.comps)
theorem Yr {ks:List Key} (h:∀k∈ks,k.comps.length<=12): (Ez ks).length<=ks.length*12:=by
 induction ks with
 |nil=>simp[Ez]
 |cons k ks ih=>
  have h1:=h k aF;have h2:=ih (λx hx=>h x (by simp[hx]));unfold Ez at*;simp only[List.flatMap_cons,List.length_append,List.length_cons];omega
theorem HA.len {ks:List Key} (h:HA ks) (i:Nat): (Ez (ks.take i)).length<=144:=by
 have h1:=Yr (ks:=ks.take i) (λk hk=>h.2 k (List.mem_of_mem_take hk));have h2:=h.1;rw[List.length_take] at h1;have:=Nat.mul_le_mul_right 12 (Nat.min_le_right i ks.length);omega
theorem HA.all {ks:List Key} (h:HA ks): (Ez ks).length<=144:=by have:=h.len ks.length;rwa [List.take_length] at this
def qd (l:List (List ak)) (c:ak):Int:=idxOf (λp=>p.any λx=>decide (c=x)) l
theorem qe {α:Type} {l:List (List α)} {i:Nat} (h:i<l.length):l.getD i []=l[i]:=by rw[List.getD_eq_getElem?_getD,List.getElem?_eq_getElem h];rfl
theorem Ys {α:Type} {l:List (List α)} {i:Nat} {r:α} (h:r∈l.getD i []):i<l.length:=by
 rcases Nat.lt_or_ge i l.length with h1|h1
 ·exact h1
 ·rw[List.getD_eq_getElem?_getD,List.getElem?_eq_none h1] at h;simp at h
theorem xy {l:List ak} {c:ak}: (l.any λx=>decide (c=x))=true↔c∈l:=by
 rw[List.any_eq_true];exact⟨λ⟨x,hx,e⟩=>by rw[of_decide_eq_true e];exact hx,λh=>⟨c,h,by simp⟩⟩
theorem Yt {l:List aD} {r:ak} {i:Nat} (h:r∈(dM l).getD i []):qd (dM l) r=i:=by
 have hi:=Ys h;refine AH hi (λj hj=>Bool.eq_false_iff.2 λhp=>?_) ?_
 ·have:=QV (l:=l) (i:=j) (by rw[qe (show j<(dM l).length by omega)];exact xy.1 hp) h;omega
 ·rw[qe hi] at h;exact xy.2 h
theorem EA (l:List aD): (dM l).length<=(aO l).length:=by unfold dM;rw[nQ];exact(AG _ _).length_le
def ug (jX:List (ak×Bool)) (r:ak):Bool:=(fe jX r).getD false
structure HC (l:List aD) (fr:ak) (jX:List (ak×Bool)):Prop where
 val:∀r v,fe jX r=some v->v=true/\r∈aO l/\b8 l r=b8 l fr
 from_:fe jX fr=some true
theorem HC.ug {l:List aD} {fr:ak} {jX:List (ak×Bool)} (h:HC l fr jX) {r:ak} (hr:ug jX r=true):r∈aO l/\b8 l r=b8 l fr:=by
 unfold K.ug at hr;cases hm:fe jX r with
 |none=>rw[hm] at hr;simp at hr
 |some v=>exact(h.val r v hm).2
theorem HC.all {l:List aD} {fr:ak} {jX:List (ak×Bool)} (h:HC l fr jX) (hc:∀x∈l,K.ug jX x.A=K.ug jX x.B) {r:ak} (hr:r∈aO l):K.ug jX r=true↔b8 l r=b8 l fr:=by
 constructor
 ·exact λh1=>(h.ug h1).2
 ·intro e;have h1:=sZ (p:=K.ug jX) hc r;have h2:=sZ (p:=K.ug jX) hc fr;have h3:K.ug jX fr=true:=by unfold K.ug;rw[h.from_];rfl
  rw[<-h1,e,h2,h3]
theorem EB {l:List aD} {i:Nat} (h:i<(aP l).length): (aP l)[i]=l.filter λx=>decide (b8 l x.A=b8 l ((eC (b8 l) (aO l))[i]'(by simpa[aP] using h))):=by simp[aP]
theorem Q5 {l:List aD} {i:Nat} (h:i<(dM l).length): (dM l)[i]=(aO l).filter λr=>decide (b8 l r=b8 l ((eC (b8 l) (aO l))[i]'(by unfold dM at h;rwa [nQ] at h))):=Ev h
theorem HD {l:List aD} {i:Nat} (h:i<(aP l).length) (h':i<(dM l).length):aO (aP l)[i]=(dM l)[i]:=by
 rw[EB,Q5];refine Ht (xu _) ((xu l).filter _) λr=>?_;rw[jB,List.mem_filter,jB,decide_eq_true_eq];constructor
 ·rintro⟨x,hx,e⟩;obtain⟨hx,h2⟩:=List.mem_filter.1 hx;refine⟨⟨x,hx,e⟩,?_⟩;have h2:=of_decide_eq_true h2;rcases e with rfl|rfl
  ·exact h2
  ·rw[<-xw hx];exact h2
 ·rintro⟨⟨x,hx,e⟩,h2⟩;refine⟨x,List.mem_filter.2 ⟨hx,decide_eq_true ?_⟩,e⟩;rcases e with rfl|rfl
  ·exact h2
  ·rw[xw hx];exact h2
theorem CH {l:List aD} (hv:ow l) {i:Nat} (h:i<(aP l).length):ow (aP l)[i]:=by
 rw[EB];exact hv.sub List.filter_sublist
section
variable {α:Type} {ys zs us:List α} {σ dU:Nat->Nat} {a b i j n:Nat}
structure fT (ys:List α) (σ:Nat->Nat) (zs:List α):Prop where
 len:zs.length=ys.length
 at_:∀i,i<ys.length->σ i<ys.length/\zs[i]?=ys[σ i]?
theorem fT.id (ys:List α):fT ys (λi=>i) ys:=⟨rfl,λi h=>⟨h,rfl⟩⟩
theorem fT.get (h:fT ys σ zs) (hi:i<ys.length):zs[i]'(by rw[h.len];exact hi)=ys[σ i]'(h.at_ i hi).1:=by
 have:=(h.at_ i hi).2;rw[List.getElem?_eq_getElem (by rw[h.len];exact hi),List.getElem?_eq_getElem (h.at_ i hi).1] at this;exact Option.some.inj this
def mN (σ:Nat->Nat) (i j:Nat):Nat->Nat:=λk=>if k=i then σ j else if k=j then σ i else σ k
theorem fT.swap (h:fT ys σ zs) (hi:i<ys.length) (hj:j<ys.length) {x y:α} (hx:x=zs[j]'(by rw[h.len];exact hj)) (hy:y=zs[i]'(by rw[h.len];exact hi)):fT ys (mN σ i j) ((zs.set i x).set j y):=by
 subst hx hy;have hl:=h.len;refine⟨by simp[h.len],λk hk=>?_⟩;have hki:=h.at_ i hi;have hkj:=h.at_ j hj;have hkk:=h.at_ k hk;unfold mN;rw[List.getElem?_set,List.getElem?_set];by_cases e1:k=i
 ·subst e1;rw[if_pos rfl];refine⟨hkj.1,?_⟩;by_cases e2:j=k
  ·subst e2;simp[hl,hk,<-hkk.2,List.getElem?_eq_getElem (show j<zs.length by omega)]
  ·rw[if_neg e2];simp[hl,hk,<-hkj.2,List.getElem?_eq_getElem (show j<zs.length by omega)]
 ·rw[if_neg e1];by_cases e2:k=j
  ·subst e2;rw[if_pos rfl];refine⟨hki.1,?_⟩;simp[hl,hk,<-hki.2,List.getElem?_eq_getElem (show i<zs.length by omega)]
  ·rw[if_neg e2];refine⟨hkk.1,?_⟩;simp[Ne.symm e1,Ne.symm e2,hkk.2]
structure f_ (σ:Nat->Nat) (a b:Nat):Prop where
 out:∀i,¬(a<=i/\i<b)->σ i=i
 lK:∀i,a<=i->i<b->a<=σ i/\σ i<b
 inj:∀i j,σ i=σ j->i=j
theorem f_.id (a b:Nat):f_ (λi=>i) a b:=⟨λ_ _=>rfl,λ_ h1 h2=>⟨h1,h2⟩,λ_ _ h=>h⟩
theorem f_.swap (h:f_ σ a b) (hi:a<=i/\i<b) (hj:a<=j/\j<b):f_ (mN σ i j) a b:=by
 refine⟨λk hk=>?_,λk h1 h2=>?_,λk k' e=>?_⟩
 ·unfold mN;rw[if_neg (by intro e;subst e;exact hk hi),if_neg (by intro e;subst e;exact hk hj)];exact h.out k hk
 ·unfold mN;split
  ·exact h.lK j hj.1 hj.2
  ·split
   ·exact h.lK i hi.1 hi.2
   ·exact h.lK k h1 h2
 ·unfold mN at e;by_cases e1:k=i
  ·by_cases e2:k'=i
   ·omega
   ·rw[if_pos e1,if_neg e2] at e;by_cases fA:k'=j
    ·rw[if_pos fA] at e;have:=h.inj _ _ e;omega
    ·rw[if_neg fA] at e;have:=h.inj _ _ e;omega
  ·rw[if_neg e1] at e;by_cases jL:k=j
   ·rw[if_pos jL] at e;by_cases e2:k'=i
    ·rw[if_pos e2] at e;have:=h.inj _ _ e;omega
    ·rw[if_neg e2] at e;by_cases fA:k'=j
     ·omega
     ·rw[if_neg fA] at e;have:=h.inj _ _ e;omega
   ·rw[if_neg jL] at e;by_cases e2:k'=i
    ·rw[if_pos e2] at e;have:=h.inj _ _ e;omega
    ·rw[if_neg e2] at e;by_cases fA:k'=j
     ·rw[if_pos fA] at e;have:=h.inj _ _ e;omega
     ·rw[if_neg fA] at e;exact h.inj _ _ e
theorem f_.mono {a' b':Nat} (h:f_ σ a b) (ha:a'<=a) (hb:b<=b'):f_ σ a' b':=⟨λi hi=>h.out i (λe=>hi ⟨by omega,by omega⟩),λi h1 h2=>by
 by_cases e:a<=i/\i<b
 ·have:=h.lK i e.1 e.2;omega
 ·rw[h.out i e];exact⟨h1,h2⟩,h.inj⟩
theorem f_.comp {dU:Nat->Nat} (h:f_ σ a b) (h':f_ dU a b):f_ (λi=>σ (dU i)) a b:=⟨λi hi=>by show σ (dU i)=i;rw[h'.out i hi,h.out i hi],λi h1 h2=>by
 have:=h'.lK i h1 h2;exact h.lK _ this.1 this.2,λi j e=>h'.inj _ _ (h.inj _ _ e)⟩
def jM (T:Nat->Nat->Prop) (σ:Nat->Nat) (a b:Nat):Prop:=∀i j,a<=i->i<j->j<b->T (σ i) (σ j)
def fB (c:α->α->Int) (ys:List α) (i j:Nat):Prop:=∃(hi:i<ys.length) (hj:j<ys.length),c ys[i] ys[j]<0\/c ys[i] ys[j]=0/\i<j
structure mA (c:α->α->Int) (P:α->Prop):Prop where
 anti:∀x y,P x->P y->(c x y<0↔0<c y x)
 trans:∀x y z,P x->P y->P z->c x y<=0->c y z<=0->c x z<=0
theorem mA.eq {c:α->α->Int} {P:α->Prop} (h:mA c P) {x y:α} (hx:P x) (hy:P y):c x y=0↔c y x=0:=by
 have h1:=h.anti x y hx hy;have h2:=h.anti y x hy hx;omega
theorem mA.Q6 {c:α->α->Int} {P:α->Prop} (h:mA c P) {x y z:α} (hx:P x) (hy:P y) (hz:P z) (h1:c x y<0) (h2:c y z<=0):c x z<0:=by
 have h3:=h.trans x y z hx hy hz ah h2;have h4:=h.anti x y hx hy;apply Classical.byContradiction;intro hn;have e:c x z=0:=by omega
 have e2:=(h.eq hx hz).1 e;have:=h.trans y z x hy hz hx h2 ah;omega
theorem mA.Yu {c:α->α->Int} {P:α->Prop} (h:mA c P) {x y z:α} (hx:P x) (hy:P y) (hz:P z) (h1:c x y<=0) (h2:c y z<0):c x z<0:=by
 have h3:=h.trans x y z hx hy hz h1 ah;have h4:=h.anti y z hy hz;apply Classical.byContradiction;intro hn;have e:c x z=0:=by omega
 have e2:=(h.eq hx hz).1 e;have:=h.trans z x y hz hx hy ah h1;omega
theorem Lc {c:α->α->Int} {P:α->Prop} (h:mA c P) (hP:∀x∈ys,P x) {i j k:Nat} (h1:fB c ys i j) (h2:fB c ys j k):fB c ys i k:=by
 obtain⟨hi,hj,h1⟩:=h1;obtain⟨_,hk,h2⟩:=h2;have p1:=hP _ (List.getElem_mem hi);have p2:=hP _ (List.getElem_mem hj);have p3:=hP _ (List.getElem_mem hk);refine⟨hi,hk,?_⟩;rcases h1 with h1|⟨h1,e1⟩
 ·exact .inl (h.Q6 p1 p2 p3 h1 (by rcases h2 with h2|h2<;>omega))
 ·rcases h2 with h2|⟨h2,e2⟩
  ·exact .inl (h.Yu p1 p2 p3 ah h2)
  ·refine .inr ⟨?_,by omega⟩;have a:=h.trans _ _ _ p1 p2 p3 ah ah;have b:=h.trans _ _ _ p3 p2 p1 (by rw[(h.eq p3 p2).2 h2];omega) (by rw[(h.eq p2 p1).2 h1];omega);have:=h.anti _ _ p1 p3;have:=h.anti _ _ p3 p1;omega
theorem Ld {c:α->α->Int} {P:α->Prop} (h:mA c P) (hP:∀x∈ys,P x) {i j:Nat} (hi:i<ys.length) (hj:j<ys.length) (hne:i≠j):fB c ys i j\/fB c ys j i:=by
 have p1:=hP _ (List.getElem_mem hi);have p2:=hP _ (List.getElem_mem hj);have h1:=h.anti _ _ p1 p2;have h2:=h.anti _ _ p2 p1;by_cases e1:c ys[i] ys[j]<0
 ·exact .inl ⟨hi,hj,.inl e1⟩
 ·by_cases e2:c ys[j] ys[i]<0
  ·exact .inr ⟨hj,hi,.inl e2⟩
  ·have fA:c ys[i] ys[j]=0:=by omega
   have jL:c ys[j] ys[i]=0:=by omega
   rcases Nat.lt_or_gt_of_ne hne with h|h
   ·exact .inl ⟨hi,hj,.inr ⟨fA,h⟩⟩
   ·exact .inr ⟨hj,hi,.inr ⟨jL,h⟩⟩
theorem Q7 {c:α->α->Int} {P:α->Prop} (h:mA c P) (hP:∀x∈ys,P x) {i j:Nat} (h1:fB c ys i j) (h2:fB c ys j i):False:=by
 obtain⟨hi,hj,h1⟩:=h1;obtain⟨_,_,h2⟩:=h2;have p1:=hP _ (List.getElem_mem hi);have p2:=hP _ (List.getElem_mem hj);have:=h.anti _ _ p1 p2;have:=h.anti _ _ p2 p1;rcases h1 with h1|h1<;>rcases h2 with h2|h2<;>omega
theorem Yv {c:α->α->Int} {P:α->Prop} (h:mA c P) (hP:∀x∈ys,P x) {i j:Nat} (hi:i<ys.length) (hj:j<ys.length) (hij:i<j):fB c ys j i↔c ys[j] ys[i]<0:=by
 constructor
 ·rintro⟨_,_,h1|h1⟩
  ·exact h1
  ·omega
 ·intro h1;exact⟨hj,hi,.inl h1⟩
structure r_ (c:α->α->Int) (ys:List α) (σ:Nat->Nat) (a i j:Nat):Prop where
 within:f_ σ a (i+1)
 le:a<=j/\j<=i
 CL:σ j=i
 kz:∀p q,a<=p->p<q->q<=i->p≠j->q≠j->fB c ys (σ p) (σ q)
 Q8:∀q,j<q->q<=i->fB c ys i (σ q)
theorem r_.start {c:α->α->Int} (h:f_ σ a i) (ha:a<=i) (hs:jM (fB c ys) σ a i):r_ c ys σ a i i:=
 ⟨h.mono (Nat.le_refl _) ah,⟨ha,Nat.le_refl _⟩,h.out i ah,λp q h1 h2 h3 h4 h5=>hs p q h1 h2 ah,λq h1 h2=>by omega⟩
theorem r_.step {c:α->α->Int} (h:r_ c ys σ a i j) (hj:a<j) (hlt:fB c ys i (σ (j-1))):r_ c ys (mN σ j (j-1)) a i (j-1):=by
 have e0:mN σ j (j-1) (j-1)=i:=by unfold mN;rw[if_neg ah,if_pos rfl];exact h.CL
 have e1:mN σ j (j-1) j=σ (j-1):=by unfold mN;rw[if_pos rfl]
 have e2:∀k,k≠j->k≠j-1->mN σ j (j-1) k=σ k:=λk h1 h2=>by unfold mN;rw[if_neg h1,if_neg h2]
 have hle:=h.le;refine⟨h.within.swap ⟨by omega,by omega⟩ ⟨by omega,by omega⟩,⟨by omega,by omega⟩,e0,λp q h1 h2 h3 h4 h5=>?_,λq h1 h2=>?_⟩
 ·by_cases CM:p=j
  ·subst CM;rw[e1,e2 q ah ah];exact h.kz (p-1) q ah ah h3 ah ah
  ·by_cases eq:q=j
   ·subst eq;rw[e1,e2 p ah ah];exact h.kz p (q-1) h1 ah ah ah ah
   ·rw[e2 p CM h4,e2 q eq h5];exact h.kz p q h1 h2 h3 CM eq
 ·by_cases eq:q=j
  ·subst eq;rw[e1];exact hlt
  ·rw[e2 q eq ah];exact h.Q8 q ah h2
theorem r_.done {c:α->α->Int} {P:α->Prop} (hc:mA c P) (hP:∀x∈ys,P x) (h:r_ c ys σ a i j) (hi:i<ys.length) (hj:j=a\/¬fB c ys i (σ (j-1))):f_ σ a (i+1)/\jM (fB c ys) σ a (i+1):=by
 have hle:=h.le;refine⟨h.within,λp q h1 h2 h3=>?_⟩;by_cases CM:p=j
 ·subst CM;rw[h.CL];exact h.Q8 q h2 ah
 ·by_cases eq:q=j
  ·subst eq;rw[h.CL];rcases hj with hj|hj
   ·omega
   ·have hw:=h.within.lK (q-1) ah ah;have hne:σ (q-1)≠i:=λe=>by have:=h.within.inj (q-1) q (by rw[e,h.CL]);omega
    have hl:fB c ys (σ (q-1)) i:=(Ld hc hP ah hi hne).resolve_right hj;by_cases e:p=q-1
    ·rw[e];exact hl
    ·exact Lc hc hP (h.kz p (q-1) h1 ah ah ah ah) hl
  ·exact h.kz p q h1 h2 ah CM eq
end
end Go.K
namespace Go.K
structure Q9 (k:Nat) (c:Nat->Nat->Int) (W:Int) (n:Nat) (u v:Nat->Int) (row way:Nat->Nat) (cl:Nat->Bool) (rk:Nat->Nat) (T:Nat):Prop where
 Yw:n<k
 AJ:row 0=n+1
 Le:∀j,1<=j->j<=k->row j<=n
 inj:∀j j',1<=j->j<=k->1<=j'->j'<=k->row j=row j'->row j≠0->j=j'
 af0:∀r,1<=r->r<=n->∃j,1<=j/\j<=k/\row j=r
 tight:∀j,1<=j->j<=k->row j≠0->u (row j)+v j=c (row j) j
 af1:∀r j,1<=r->r<=n->1<=j->j<=k->u r+v j<=c r j
 fL:∀j,1<=j->j<=k->v j<=0
 af2:∀j,1<=j->j<=k->row j=0->v j=0
 un:∀r,n+1<r->r<=k->u r=0
 af3:u 0=0
 af4:∀r,1<=r->r<=n->-W<=u r
 v0:0<=v 0+u (n+1)/\v 0+u (n+1)<=n*W
 c0:cl 0=true
 af5:∀j,1<=j->j<=k->cl j=true->row j≠0
 af6:∀j,1<=j->j<=k->cl j=true->way j<=k/\cl (way j)=true/\rk (way j)<rk j/\u (row (way j))+v j=c (row (way j)) j
 af7:∀j,j<=k->cl j=true->rk j<=T
theorem HE:∀(m n:Nat) (f:Nat->Nat),(∀i,i<m->f i<n)->(∀i i',i<m->i'<m->f i=f i'->i=i')->m<=n
 |0,_,_,_,_=>Nat.zero_le _
 |m+1,0,f,h,_=>by have:=h 0 (Nat.succ_pos _);omega
 |m+1,n+1,f,h,hi=>by
  have:=HE m n (λi=>if f i=n then f m else f i) (λi hm=>by
   have h1:=h i ah;have h2:=h m ah;split
   ·rename_i e;have:f m≠n:=λe2=>by have:=hi i m ah ah (e.trans e2.symm);omega
    omega
   ·omega) (λi i' hm hm' e=>by
   split at e<;>split at e
   ·rename_i e1 e2;exact hi i i' ah ah (e1.trans e2.symm)
   ·have:=hi m i' ah ah e;omega
   ·have:=hi i m ah ah e;omega
   ·exact hi i i' ah ah e)
  omega
section
variable {k:Nat} {c:Nat->Nat->Int} {W AK:Int} {n at_ T:Nat} {u v u2 v2:Nat->Int} {row way Yx:Nat->Nat} {least Yy:Nat->Int} {cl:Nat->Bool} {rk:Nat->Nat}
theorem Q9.free (h:Q9 k c W n u v row way cl rk T):∃j,1<=j/\j<=k/\row j=0:=by
 apply Classical.byContradiction;intro hn;have h1:∀j,1<=j->j<=k->row j≠0:=λj a b e=>hn ⟨j,a,b,e⟩;have:=HE k n (λi=>row (i+1)-1) (λi hi=>by
  have:=h.Le (i+1) ah ah;have:=h1 (i+1) ah ah;omega) (λi i' hi hi' e=>by
  have a1:=h1 (i+1) ah ah;have a2:=h1 (i'+1) ah ah;have:=h.inj (i+1) (i'+1) ah ah ah ah ah a1;omega)
 have:=h.Yw;omega
end
section
variable {N M:Nat} {wt:Nat->Nat->Int} {U V:Nat->Int} {f:Nat->Nat}
end
def Yz (n m:Nat) (J:Nat->Nat->Prop) (must:Nat->Prop):Prop:=
 ∃g:Nat->Nat,(∀i,i<n->must i->g i<m/\J i (g i))/\∀i i',i<n->i'<n->must i->must i'->g i=g i'->i=i'
structure Lf (n m:Nat) (J:Nat->Nat->Prop) (pt:Nat->Int):Prop where
 ok:∀j,j<m->pt j= -1\/0<=pt j/\pt j<n/\J (pt j).toNat j
 inj:∀j j',j<m->j'<m->pt j=pt j'->pt j≠-1->j=j'
structure Aug (n m:Nat) (J:Nat->Nat->Prop) (pt:Nat->Int) (kM:Nat->Bool) (i:Nat) (mB:Nat->Int):Prop where
 ok:∀j,j<m->mB j= -1\/0<=mB j/\mB j<n/\J (mB j).toNat j
 new:∃j,j<m/\kM j=false/\mB j=i
 old:∀j,j<m->kM j=true->mB j=pt j
 inj:∀j j',j<m->j'<m->mB j=mB j'->mB j≠-1->j=j'\/mB j=i/\(kM j=true\/kM j'=true)
 keep:∀j,j<m->pt j≠-1->∃j',j'<m/\mB j'=pt j
 rows:∀j,j<m->mB j≠-1->mB j=i\/∃j',j'<m/\pt j'=mB j
structure AL (m:Nat) (J:Nat->Nat->Prop) (pt:Nat->Int) (kM qf:Nat->Bool):Prop where
 up:∀j,j<m->kM j=true->qf j=true
 full:∀j,j<m->qf j=true->kM j=false->pt j≠-1/\∀j',j'<m->J (pt j).toNat j'->qf j'=true
theorem AL.refl {m:Nat} {J:Nat->Nat->Prop} {pt:Nat->Int} {kM:Nat->Bool}:AL m J pt kM kM:=⟨λ_ _ h=>h,λ_ _ h1 h2=>by rw[h1] at h2;cases h2⟩
theorem Aug.free {n m:Nat} {J:Nat->Nat->Prop} {pt mB:Nat->Int} {kM:Nat->Bool} {i j:Nat} (h:Lf n m J pt) (hs:∀k,k<m->pt k=i->kM k=true) (hi:i<n) (hj:j<m) (hsj:kM j=false) (hJ:J i j) (hf:pt j= -1)
  (h1:mB j=i) (h2:∀k,k≠j->mB k=pt k):Aug n m J pt kM i mB:=by
 refine⟨λk hk=>?_,⟨j,hj,hsj,h1⟩,λk hk hsk=>h2 k (λe=>by subst e;rw[hsj] at hsk;cases hsk),λk k' hk hk' e hne=>?_,λk hk hne=>?_,λk hk hne=>?_⟩
 ·by_cases e:k=j
  ·subst e;rw[h1];exact .inr ⟨by omega,by omega,by simpa using hJ⟩
  ·rw[h2 k e];exact h.ok k hk
 ·by_cases e1:k=j
  ·by_cases e2:k'=j
   ·exact .inl (e1.trans e2.symm)
   ·subst e1;rw[h1,h2 k' e2] at e;exact .inr ⟨h1,.inr (hs k' hk' e.symm)⟩
  ·by_cases e2:k'=j
   ·subst e2;rw[h1,h2 k e1] at e;exact .inr ⟨by rw[h2 k e1,e],.inl (hs k hk e)⟩
   ·rw[h2 k e1,h2 k' e2] at e;rw[h2 k e1] at hne;exact .inl (h.inj k k' hk hk' e hne)
 ·exact⟨k,hk,h2 k (λe=>by subst e;exact hne hf)⟩
 ·by_cases e:k=j
  ·subst e;exact .inl h1
  ·rw[h2 k e];exact .inr ⟨k,hk,rfl⟩
theorem Aug.step {n m:Nat} {J:Nat->Nat->Prop} {pt Lh mB:Nat->Int} {kM Li:Nat->Bool} {i j r:Nat} (h:Lf n m J pt) (hs:∀k,k<m->pt k=i->kM k=true) (hi:i<n) (hj:j<m) (hsj:kM j=false) (hJ:J i j) (hr:pt j=r)
  (HF:∀k,k<m->kM k=true->Li k=true) (hs1:Li j=true) (ha:Aug n m J pt Li r Lh) (h1:mB j=i) (h2:∀k,k≠j->mB k=Lh k):Aug n m J pt kM i mB:=by
 have hir: (i:Int)≠r:=λe=>by have:=hs j hj (by rw[hr,e]);rw[hsj] at this;cases this
 obtain⟨jn,n1,n2,n3⟩:=ha.new;have hjn:jn≠j:=λe=>by subst e;rw[hs1] at n2;cases n2
 have kr:∀k,k<m->k≠j->Lh k=i->kM k=true:=λk hk hkj e=>by
  rcases ha.rows k hk ah with e1|⟨k',hk',e1⟩
  ·omega
  ·have qA:=hs k' hk' ah;have:=ha.old k' hk' (HF k' hk' qA);rcases ha.inj k k' hk hk' ah ah with e2|⟨e2,_⟩
   ·subst e2;exact qA
   ·omega
 refine⟨λk hk=>?_,⟨j,hj,hsj,h1⟩,λk hk hsk=>?_,λk k' hk hk' e hne=>?_,λk hk hne=>?_,λk hk hne=>?_⟩
 ·by_cases e:k=j
  ·subst e;rw[h1];exact .inr ⟨by omega,by omega,by simpa using hJ⟩
  ·rw[h2 k e];exact ha.ok k hk
 ·have e:k≠j:=λe=>by subst e;rw[hsj] at hsk;cases hsk
  rw[h2 k e];exact ha.old k hk (HF k hk hsk)
 ·by_cases e1:k=j
  ·by_cases e2:k'=j
   ·exact .inl (e1.trans e2.symm)
   ·subst e1;rw[h1,h2 k' e2] at e;exact .inr ⟨h1,.inr (kr k' hk' e2 e.symm)⟩
  ·by_cases e2:k'=j
   ·subst e2;rw[h1,h2 k e1] at e;exact .inr ⟨by rw[h2 k e1,e],.inl (kr k hk e1 e)⟩
   ·rw[h2 k e1,h2 k' e2] at e;rw[h2 k e1] at hne⊢;rcases ha.inj k k' hk hk' e hne with fA|⟨fA,jL⟩
    · exact .inl fA
    ·
      exfalso;rcases jL with jL|jL
      ·have:=ha.old k hk jL;exact e1 (h.inj k j hk hj ah ah)
      ·have:=ha.old k' hk' jL;exact e2 (h.inj k' j hk' hj ah ah)
 ·by_cases e:k=j
  ·subst e;exact⟨jn,n1,by rw[h2 jn hjn,n3,hr]⟩
  ·obtain⟨k',hk',e1⟩:=ha.keep k hk hne;by_cases e2:k'=j
   ·subst e2;have:=ha.old k' hk' hs1;exact absurd (h.inj k k' hk hk' ah hne) e
   ·exact⟨k',hk',by rw[h2 k' e2];exact e1⟩
 ·by_cases e:k=j
  ·subst e;exact .inl h1
  ·rw[h2 k e] at hne⊢;rcases ha.rows k hk hne with e1|e1
   ·exact .inr ⟨j,hj,by omega⟩
   ·exact .inr e1
structure Has (n m:Nat) (J:Nat->Nat->Prop) (must:Nat->Prop) (t:Nat) (pt:Nat->Int):Prop where
 base:Lf n m J pt
 all:∀i,i<t->must i->∃j,j<m/\pt j=i
 only:∀j,j<m->pt j≠-1->must (pt j).toNat/\pt j<t
theorem Has.skip {n m t:Nat} {J:Nat->Nat->Prop} {must:Nat->Prop} {pt:Nat->Int} (h:Has n m J must t pt) (hm:¬must t):Has n m J must (t+1) pt:=
 ⟨h.base,λi hi HG=>by
  by_cases e:i=t
  ·subst e;exact absurd HG hm
  ·exact h.all i ah HG,λj hj hne=>⟨(h.only j hj hne).1,by have:=(h.only j hj hne).2;omega⟩⟩
theorem Has.none {n m t:Nat} {J:Nat->Nat->Prop} {must:Nat->Prop} {pt:Nat->Int} {kM qf:Nat->Bool} (h:Has n m J must t pt) (ht:t<n) (hm:must t) (HF:∀j,j<m->kM j=false) (hf:AL m J pt kM qf) (hr:∀j,j<m->J t j->qf j=true):¬Yz n m J must:=by
 rintro⟨g,g1,g2⟩
 classical
 have hrow:∀j,j<m->qf j=true->0<=pt j/\(pt j).toNat<t/\must (pt j).toNat/\∀j',j'<m->J (pt j).toNat j'->qf j'=true:=λj hj hs=>by
  obtain⟨a,b⟩:=hf.full j hj hs (HF j hj);have h1:=h.only j hj a;have h2:=h.base.ok j hj;exact⟨by omega,by omega,h1.1,b⟩
 have hg:∀j,j<m->qf j=true->g (pt j).toNat<m/\qf (g (pt j).toNat)=true:=λj hj hs=>by
  obtain⟨a,b,c,d⟩:=hrow j hj hs;have:=g1 _ ah c;exact⟨this.1,d _ this.1 this.2⟩
 have ht1:=g1 t ht hm;have ht2:=hr _ ht1.1 ht1.2;have:=HE (m+1) m (λj=>if j=m then g t else if qf j=true then g (pt j).toNat else j) (λj hj=>by
  split
  ·exact ht1.1
  ·split
   ·exact(hg j ah (by assumption)).1
   ·omega) (λj j' hj hj' e=>by
  have sep:∀k k',k<m->k'<m->qf k=true->¬qf k'=true->g (pt k).toNat≠k':=λk k' hk hk' h1 h2 e=>h2 (by rw[<-e];exact(hg k hk h1).2);have same:∀k k',k<m->k'<m->qf k=true->qf k'=true->g (pt k).toNat=g (pt k').toNat->k=k':=λk k' hk hk' h1 h2 e=>by
   obtain⟨a1,a2,a3,_⟩:=hrow k hk h1;obtain⟨b1,b2,b3,_⟩:=hrow k' hk' h2;have:=g2 _ _ ah ah a3 b3 e;exact h.base.inj k k' hk hk' ah ah
  have top:∀k,k<m->qf k=true->g t≠g (pt k).toNat:=λk hk h1 e=>by
   obtain⟨a1,a2,a3,_⟩:=hrow k hk h1;have:=g2 _ _ ht ah hm a3 e;omega
  by_cases e1:j=m
  ·by_cases e2:j'=m
   ·omega
   ·rw[if_pos e1,if_neg e2] at e;split at e
    ·exact absurd e (top j' ah (by assumption))
    ·rename_i hs;exact absurd (by rw[<-e];exact ht2) hs
  ·rw[if_neg e1] at e;by_cases e2:j'=m
   ·rw[if_pos e2] at e;split at e
    ·exact absurd e.symm (top j ah (by assumption))
    ·rename_i hs;exact absurd (by rw[e];exact ht2) hs
   ·rw[if_neg e2] at e;split at e
    ·split at e
     ·exact same j j' ah ah (by assumption) (by assumption) e
     ·exact absurd e (sep j j' ah ah (by assumption) (by assumption))
    ·split at e
     ·exact absurd e.symm (sep j' j ah ah (by assumption) (by assumption))
     ·exact e)
 omega
end Go.K
namespace Go.K
open aZ
theorem s4 {α:Type} {l:List α} {i:Nat} {d:α} (h:i<l.length):l.getD i d=l[i]:=by rw[List.getD_eq_getElem?_getD,List.getElem?_eq_getElem h];rfl
abbrev YA (l:List Bool):Nat->Bool:=λj=>l.getD j false
section
variable {P:Program} {N:Nat} {env:Env} {w:World} {x y:Operand} {t u:TypeId} {m n:Int}
end
def Lj (c:Nat->Nat->Int) (u v:Nat->Int) (i q:Nat):Int:=c i q-u i-v q
def YB (c:Nat->Nat->Int) (u v least:Nat->Int) (i q:Nat):Int:=if Lj c u v i q<least q then Lj c u v i q else least q
structure Lk (c:Nat->Nat->Int) (u v:Nat->Int) (cl:Nat->Bool) (least:Nat->Int) (way:Nat->Nat) (i a k j:Nat) (HI:Nat->Int) (EC:Nat->Nat):Prop where
 l:∀q,1<=q->q<=k->cl q=false->HI q=if q<j then YB c u v least i q else least q
 w:∀q,1<=q->q<=k->cl q=false->EC q=if q<j then(if Lj c u v i q<least q then a else way q) else way q
 wc:∀q,1<=q->q<=k->cl q=true->EC q=way q
def CN (cl:Nat->Bool) (l1:Nat->Int) (AK:Int) (j:Nat) (delta:Int) (next:Nat):Prop:=
 (next=0/\delta=AK/\∀q,1<=q->q<j->cl q=true)\/(1<=next/\next<j/\cl next=false/\delta=l1 next/\∀q,1<=q->q<j->cl q=false->delta<=l1 q)
section
variable {c:Nat->Nat->Int} {u v:Nat->Int} {cl:Nat->Bool} {least HI Yy:Nat->Int} {way EC Yx:Nat->Nat} {i a k j:Nat} {l1:Nat->Int} {AK delta:Int} {next:Nat}
theorem Lk.skip (h:Lk c u v cl least way i a k j HI EC) (hc:cl j=true):Lk c u v cl least way i a k (j+1) HI EC:=
 have e:∀q,cl q=false->(q<j+1↔q<j):=λq hq=>⟨λh=>by
  rcases Nat.lt_or_eq_of_le (Nat.le_of_lt_succ h) with h1|h1
  ·exact h1
  ·subst h1;exact absurd (hc.symm.trans hq) ai,λh=>by omega⟩
 ⟨λq h1 h2 h3=>by simp only[e q h3];exact h.l q h1 h2 h3,λq h1 h2 h3=>by simp only[e q h3];exact h.w q h1 h2 h3,h.wc⟩
theorem CN.skip (h:CN cl l1 AK j delta next) (hc:cl j=true):CN cl l1 AK (j+1) delta next:=by
 rcases h with⟨h1,h2,h3⟩|⟨h1,h2,h3,h4,h5⟩
 ·refine .inl ⟨h1,h2,λq a b=>?_⟩;by_cases e:q=j
  ·subst e;exact hc
  ·exact h3 q a ah
 ·refine .inr ⟨h1,by omega,h3,h4,λq a b c=>?_⟩;by_cases e:q=j
  ·subst e;rw[hc] at c;cases c
  ·exact h5 q a ah c
theorem CN.take (h:CN cl l1 AK j delta next) (hj:1<=j) (hc:cl j=false) (hlt:l1 j<delta):CN cl l1 AK (j+1) (l1 j) j:=by
 refine .inr ⟨hj,by omega,hc,rfl,λq a b c=>?_⟩;by_cases e:q=j
 ·subst e;exact Int.le_refl _
 ·rcases h with⟨h1,h2,h3⟩|⟨h1,h2,h3,h4,h5⟩
  ·have:=h3 q a ah;rw[this] at c;cases c
  ·have:=h5 q a ah c;omega
variable {row:Nat->Nat} {u' v' u2 v2 l l' l2:Nat->Int}
end
structure Edge where
 a:Int
 b:Int
 w:Int
 deriving DecidableEq
instance:aZ Edge:=aZ.via (λx:Edge=>(x.a,(x.b,x.w)))
instance:Inhabited Edge:=⟨⟨0,0,0⟩⟩
section
variable {w:World} {M:Nat->Prop} {b o:Nat} {v:Value}
end
section
variable {P:Program} {ops:Array Oper} {Q:Exit->Act->World->Prop}
end
theorem ED {P:Program} {f:FuncId} {N:Nat} {k k':List Item} {env:Env} {w:World} {R:Value->World->Prop} {ι:Type} (I:ι->World->Prop) (e:ι->Env)
 (hr:∀x w,I x w->Run P f N k (e x) w R) (hm: (∀x w,I x w->Run P f N k (e x) w R)->Run P f N k' env w R):Run P f N k' env w R:=hm hr
structure Ll where
 n:Int
 m:Int
 U:List Int
 V:List Int
 tot:Int
 edge:List (List Bool)
instance:aZ Ll:=aZ.via (λx:Ll=>(x.n,(x.m,(x.U,(x.V,(x.tot,x.edge))))))
section
variable {w w' w₀:World} {M:Nat->Prop} {b o:Nat} {v:Value} {x:Ll}
end
section
variable {n m:Nat} {wt:Nat->Nat->Int} {W:Int}
end
section
variable {P:Program} {N:Nat} {env:Env} {y z:Operand} {t e:TypeId} {b o o' n len:Nat} {k:IntKind} {i:Int} {w:World}
theorem y7 (hu:P.underlying t=some (.array len e)) (hn:gX P e=some n) (hy:ev env y=some (.pointer (some ⟨b,o,none⟩))) (hz:ev env z=some (.int k i))
  (h0:0<=i) (h1:i<len) (ho':o'=o+i.toNat*n):cZ P N env (.indexAddr t y z) w (.pointer (some ⟨b,o',none⟩)):=mk' λρ hρ fN ho=>by
 subst ho';unfold execOp;rw[ho];simp only[hρ _ _ hy,hρ _ _ hz];simp[go_sem,Instr.indexAt,run_underlying hu,asIntOf,nc hn,h0,h1,qt,Instr.sureAddr]
end
inductive s5 where
 |run (L:List (Nat×Bool))
 |one (A:List Nat) (i:Nat) (t:s5)
 |fork (A:List Nat) (i:Nat) (t:s5) (i':Nat) (t':s5)
 |Lm (A:List Nat) (i:Nat) (t:s5) (i':Nat) (t':s5) (i2:Nat) (t2:s5)
def uh (Q:Exit->Act->World->Prop) (K:Act->World->Prop):Exit->Act->World->Prop
 | .normal,a,w=>K a w
 |e,a,w=>Q e a w
def o_ (P:Program) (ops:Array Oper) (S:World->Prop) (Q:Exit->Act->World->Prop):s5->Act->World->Prop
 | .run L,a,w=>oV P ops S Q L a w
 | .one A i t,a,w=>oV P ops S (uh Q λa w=>wpOp P ops Q i (λa' w'=>S w'/\o_ P ops S Q t a' w') a w) (A.map λj=>(j,true)) a w
 | .fork A i t i' t',a,w=>oV P ops S (uh Q λa w=>wpOp P ops Q i (λa' w'=>S w'/\o_ P ops S Q t a' w') a w/\wpOp P ops Q i' (λa' w'=>S w'/\o_ P ops S Q t' a' w') a w) (A.map λj=>(j,true)) a w
 | .Lm A i t i' t' i2 t2,a,w=>oV P ops S (uh Q λa w=>wpOp P ops Q i (λa' w'=>S w'/\o_ P ops S Q t a' w') a w/\wpOp P ops Q i' (λa' w'=>S w'/\o_ P ops S Q t' a' w') a w/\wpOp P ops Q i2 (λa' w'=>S w'/\o_ P ops S Q t2 a' w') a w) (A.map λj=>(j,true)) a w
def y8 (ops:Array Oper) (e6:Nat) (k:Nat->Array Bool->Bool):Nat->Array Bool->List Nat->Bool
 |n,listed,[]=>k n listed
 |0,_,_::_=>false
 |n+1,listed,j::A=>!Nat.beq j e6&&(Nat.ble ops.size e6||needs ops 8 e6 j)&&Region.free .any ops listed j&&(Region.ready .any ops listed).contains j&&y8 ops e6 k n (listed.setIfInBounds j true) A
def y9 (ops:Array Oper) (e6:Nat):s5->Nat->Array Bool->Bool
 | .run L,n,listed=>vh ops e6 n listed L
 | .one A i t,n,listed=>y8 ops e6 (λn l=>match n with|0=>false|n+1=>(Region.ready .any ops l==[i])&&y9 ops e6 t n (l.setIfInBounds i true)) n listed A
 | .fork A i t i' t',n,listed=>y8 ops e6 (λn l=>match n with
  |0=>false
  |n+1=>((Region.ready .any ops l==[i,i'])||(Region.ready .any ops l==[i',i]))&&y9 ops e6 t n (l.setIfInBounds i true)&&y9 ops e6 t' n (l.setIfInBounds i' true)) n listed A
 | .Lm A i t i' t' i2 t2,n,listed=>y8 ops e6 (λn l=>match n with
  |0=>false
  |n+1=>(Region.ready .any ops l).all (λj=>Nat.beq j i||Nat.beq j i'||Nat.beq j i2)&&(Region.ready .any ops l).contains i&&(Region.ready .any ops l).contains i'&&(Region.ready .any ops l).contains i2&&y9 ops e6 t n (l.setIfInBounds i true)&&y9 ops e6 t' n (l.setIfInBounds i' true)&&y9 ops e6 t2 n (l.setIfInBounds i2 true)) n listed A
section
variable {P:Program} {ops:Array Oper} {S:World->Prop} {Q:Exit->Act->World->Prop}
theorem HJ (hs:Region.noSelect ops=true) (hQ:∀c a d v w,Q (.panic c) (Act.put a d v) w->Q (.panic c) a w) {e6:Nat} {k:Nat->Array Bool->Bool} {K:Act->World->Prop}
  (hk:∀n listed a w,k n listed=true->sW ops listed->S w->K a w->wY P ops Q S e6 n listed a w):
  ∀(n:Nat) (listed:Array Bool) (A:List Nat) (a:Act) (w:World),y8 ops e6 k n listed A=true->sW ops listed->S w->
   oV P ops S (uh Q K) (A.map λj=>(j,true)) a w->wY P ops Q S e6 n listed a w
 |n,listed,[],a,w,hc,fG,hS,h=>by
  unfold y8 at hc;exact hk n listed a w hc fG hS h
 |0,listed,_::_,a,w,hc,_,_,_=>by simp[y8] at hc
 |n+1,listed,j::A,a,w,hc,fG,hS,h=>by
  simp only[y8,Bool.and_eq_true] at hc;obtain⟨⟨⟨⟨h1,h2⟩,h3⟩,h4⟩,h5⟩:=hc;obtain⟨o,v,hi,hy,h⟩:=h;have hr:j∈Region.ready .any ops listed:=by simpa using h4
  exact J9 hi (Region.noSelect_spec hs) (λc a w hq=>hQ c a _ _ w hq) (λe=>by subst e;simp at h1) (Ke h2) n listed a w fG (Region.free_spec hi h3) hr hy hS (HJ hs hQ hk n _ A _ w h5 (rV fG hr) hS h)
theorem AO (hs:Region.noSelect ops=true) (hQ:∀c a d v w,Q (.panic c) (Act.put a d v) w->Q (.panic c) a w) {e6:Nat}:
  ∀(t:s5) (n:Nat) (listed:Array Bool) (a:Act) (w:World),y9 ops e6 t n listed=true->sW ops listed->S w->o_ P ops S Q t a w->wY P ops Q S e6 n listed a w
 | .run L,n,listed,a,w,hc,fG,hS,h=>B_ hs hQ n listed L a w hc fG (λ_=>hS) h
 | .one A i t,n,listed,a,w,hc,fG,hS,h=>by
  refine HJ hs hQ (λn listed a w hk fG hS h=>?_) n listed A a w hc fG hS h;cases n with
  |zero=>cases hk
  |succ n=>
   simp only[Bool.and_eq_true,beq_iff_eq] at hk;obtain⟨h0,h1⟩:=hk;have hr:i∈Region.ready .any ops listed:=by rw[h0];simp
   refine⟨λAp=>(by rw[Ap] at h0;cases h0),λj hj=>?_⟩;rw[h0,List.mem_singleton] at hj;subst hj;exact wpOp_mono (λa' w' g=>⟨λ_=>g.1,AO hs hQ t n _ a' w' h1 (rV fG hr) g.1 g.2⟩) h
 | .fork A i t i' t',n,listed,a,w,hc,fG,hS,h=>by
  refine HJ hs hQ (λn listed a w hk fG hS h=>?_) n listed A a w hc fG hS h;cases n with
  |zero=>cases hk
  |succ n=>
   simp only[Bool.and_eq_true,Bool.or_eq_true,beq_iff_eq] at hk;obtain⟨⟨h0,h1⟩,h2⟩:=hk;have hm:∀j,j∈Region.ready .any ops listed↔j=i\/j=i':=λj=>by
    rcases h0 with e|e<;>rw[e]<;>simp[or_comm]
   have hr:i∈Region.ready .any ops listed:=(hm i).2 (.inl rfl);have hr':i'∈Region.ready .any ops listed:=(hm i').2 (.inr rfl);refine⟨λAp=>(by rw[Ap] at hr;cases hr),λj hj=>?_⟩;rcases(hm j).1 hj with rfl|rfl
   ·exact wpOp_mono (λa' w' g=>⟨λ_=>g.1,AO hs hQ t n _ a' w' h1 (rV fG hr) g.1 g.2⟩) h.1
   ·exact wpOp_mono (λa' w' g=>⟨λ_=>g.1,AO hs hQ t' n _ a' w' h2 (rV fG hr') g.1 g.2⟩) h.2
 | .Lm A i t i' t' i2 t2,n,listed,a,w,hc,fG,hS,h=>by
  refine HJ hs hQ (λn listed a w hk fG hS h=>?_) n listed A a w hc fG hS h;cases n with
  |zero=>cases hk
  |succ n=>
   simp only[Bool.and_eq_true] at hk;obtain⟨⟨⟨⟨⟨⟨h0,r1⟩,r2⟩,r3⟩,h1⟩,h2⟩,h3⟩:=hk;have hr:i∈Region.ready .any ops listed:=by simpa using r1
   have hr':i'∈Region.ready .any ops listed:=by simpa using r2
   have kZ:i2∈Region.ready .any ops listed:=by simpa using r3
   refine⟨λAp=>(by rw[Ap] at hr;cases hr),λj hj=>?_⟩;have hj2:=List.all_eq_true.1 h0 j hj;simp only[Bool.or_eq_true] at hj2;rcases hj2 with(e|e)|e<;>have e:=Nat.eq_of_beq_eq_true e<;>subst e
   ·exact wpOp_mono (λa' w' g=>⟨λ_=>g.1,AO hs hQ t n _ a' w' h1 (rV fG hr) g.1 g.2⟩) h.1
   ·exact wpOp_mono (λa' w' g=>⟨λ_=>g.1,AO hs hQ t' n _ a' w' h2 (rV fG hr') g.1 g.2⟩) h.2.1
   ·exact wpOp_mono (λa' w' g=>⟨λ_=>g.1,AO hs hQ t2 n _ a' w' h3 (rV fG kZ) g.1 g.2⟩) h.2.2
theorem Q_ {K:Act->World->Prop} (h:LetsOut (uh Q K)):LetsOut Q:=h
theorem Ra {i:Nat} {a:Act} {w:World} {K X:Act->World->Prop} (h:wpOp P ops (uh Q K) i X a w):wpOp P ops Q i X a w:=by
 unfold wpOp at*;cases ho:ops[i]? with
 |none=>rw[ho] at h;exact h
 |some o=>
  rw[ho] at h;simp only at h⊢;split at h
  ·rename_i hw;rw[if_pos hw];refine h.imp (λh=>?_) (λh=>⟨h.1,Q_ h.2⟩);unfold Oper.wp at*;generalize (execOp a.eval o).run P w=r at*;cases r with
   |ok n w'=>
    cases n<;>simp only[Oper.upon] at h⊢<;>first|exact h|exact Calls.mono h (λe w'' he=>by cases e<;>first|exact he|exact Q_ he)
   |halt x w'=>cases x<;>simp only[Oper.upon] at h⊢<;>exact h
  ·rename_i hw;rw[if_neg hw];exact h
end
def HK (P:Program) (N:Nat) (Q:Exit->Act->World->Prop) (ops:Array Oper) (S:World->Prop) (t:s5) (env:Env) (w:World):Prop:=∀a,kV N env a->o_ P ops S Q t a w
section
variable {P:Program} {N:Nat} {Q:Exit->Act->World->Prop} {ops:Array Oper} {S S':World->Prop} {A:List Nat} {i i' i2:Nat} {t t' t2:s5} {L:List (Nat×Bool)} {env:Env} {w:World}
theorem sg (h:bO P N Q ops S L env w):HK P N Q ops S (.run L) env w:=h
theorem AP (h:bO P N (uh Q λa w=>wpOp P ops Q i (λa' w'=>S w'/\o_ P ops S Q t a' w') a w/\wpOp P ops Q i' (λa' w'=>S w'/\o_ P ops S Q t' a' w') a w) ops S (A.map λj=>(j,true)) env w):HK P N Q ops S (.fork A i t i' t') env w:=h
theorem AQ (h:bO P N (uh Q λa w=>S w/\o_ P ops S Q t a w) ops S [(i,false)] env w) (h':bO P N (uh Q λa w=>S w/\o_ P ops S Q t' a w) ops S [(i',false)] env w):
  bO P N (uh Q λa w=>wpOp P ops Q i (λa' w'=>S w'/\o_ P ops S Q t a' w') a w/\wpOp P ops Q i' (λa' w'=>S w'/\o_ P ops S Q t' a' w') a w) ops S [] env w:=λa ha=>by
 show wpOp P ops Q i (λa' w'=>S w'/\o_ P ops S Q t a' w') a w/\wpOp P ops Q i' (λa' w'=>S w'/\o_ P ops S Q t' a' w') a w;exact⟨wpOp_mono (λa' w' g=>g.2) (Ra (h a ha)),wpOp_mono (λa' w' g=>g.2) (Ra (h' a ha))⟩
theorem rB (hS:S w) (h:HK P N Q ops S t env w):bO P N (uh Q λa w=>S w/\o_ P ops S Q t a w) ops S' [] env w:=λa ha=>⟨hS,h a ha⟩
variable {f:FuncId} {k:List Item} {R:Value->World->Prop}
theorem CO {c:Code} {id:Nat} (I:List Nat) (C:Nat->Nat) (e6:Nat) (t:s5) (hm:P.follows .mixedOrders=true) (hc:c=.region id ops true)
  (hn:Region.noSelect ops=true) (hk:y9 ops e6 t ops.size (Array.replicate ops.size false)=true)
  (h:∀w₁,ax [] w C w₁ C->HK P N (ve P f k R) ops (λw'=>Ext (λb=>C b∈I) w₁ w') t env w₁):Run P f N (.code c::k) env w R:=λa ha=>by
 subst hc;exact D4 (wp_region_any hm (GU _ _ _ _ (AO hn (λc a d v w h=>h.elim) t _ _ a _ hk (Kf ops) (Ext.refl _ _) (h _ (ax.drew [] w C) a ha))))
end
section
variable {P:Program} {ops:Array Oper} {S:World->Prop} {Q:Exit->Act->World->Prop}
end
section
variable {P:Program} {N:Nat} {Q:Exit->Act->World->Prop} {ops:Array Oper} {S S':World->Prop} {e6:Nat} {af8:List (Nat×Bool)} {env:Env} {w:World}
variable {f:FuncId} {k:List Item} {R:Value->World->Prop}
end
structure Rb where
 pr:Int
 eD:List Int
 df:List Int
instance:aZ Rb:=aZ.via (λx:Rb=>(x.pr,(x.eD,x.df)))
section
variable {P:Program} {N:Nat} {env:Env} {y z:Operand} {t e:TypeId} {b o o' n len:Nat} {k:IntKind} {i:Int} {w:World} {v:Value} {M:Nat->Prop}
end
def Ln (x:Int):Prop:=-65536<=x/\x<=65536
instance (x:Int):Decidable (Ln x):=by unfold Ln;infer_instance
def YC (p i:Nat):Nat:=p/3^i%3
def YD (eD df:List Int) (f:Nat):List Int:=[0,df.getD f 0,eD.getD f 0]
def HL (eD df:List Int) (p f:Nat):Int:=(YD eD df f).getD (YC p f) 0
def y_ (pr:Int) (eD df:List Int) (p:Nat):Nat->Int
 |0=>pr
 |k+1=>y_ pr eD df p k+HL eD df p k
section
variable {P:Program} {f:FuncId} {N:Nat} {k:List Item} {env:Env} {w:World} {R:Value->World->Prop}
end
structure Rc (n:Nat) (eD df:List Int):Prop where
 la:eD.length=n
 ld:df.length=n
 ba:∀x∈eD,-3<=x/\x<=60
 bd:∀x∈df,-60<=x/\x<=3
theorem Rc.nil:Rc 0 [] []:=⟨rfl,rfl,by simp,by simp⟩
section
variable {α:Type} {ys zs:List α} {σ:Nat->Nat} {a b i j:Nat} {c:α->α->Int} {P:α->Prop}
theorem f_.thin (h:f_ σ a (a+1)) (hb:a<=b):f_ σ a b:=by
 have hid:∀i,σ i=i:=λi=>by
  by_cases e:a<=i/\i<a+1
  ·have:=h.lK i e.1 e.2;omega
  ·exact h.out i e
 exact⟨λi _=>hid i,λi h1 h2=>by rw[hid i];exact⟨h1,h2⟩,h.inj⟩
theorem r_.lt (h:r_ c ys σ a i j) (hj:a<j):σ (j-1)<i:=by
 have hl:=h.le;have h1:=h.within.lK (j-1) ah ah;have h2:σ (j-1)≠i:=λe=>by have:=h.within.inj (j-1) j (by rw[e,h.CL]);omega
 omega
theorem r_.ord (hc:mA c P) (hP:∀x∈ys,P x) (hL:fT ys σ zs) (h:r_ c ys σ a i j) (hj:a<j) (hi:i<ys.length) (h1:j<zs.length) (h2:j-1<zs.length):fB c ys i (σ (j-1))↔c zs[j] zs[j-1]<0:=by
 have hl:=h.le;have e1:=hL.get (show j<ys.length by omega);have e2:=hL.get (show j-1<ys.length by omega);have hlt:=h.lt hj;rw[e1,e2,Yv hc hP ah hi hlt];simp only[h.CL]
end
theorem CP {x y:Int}:jW x y<0↔x<y:=by unfold jW;split<;>(try split)<;>omega
section
variable {P:Program} {N:Nat} {env:Env} {y z:Operand} {t:TypeId} {k:IntKind} {n:Nat} {s:ByteArray} {b:UInt8} {w:World}
end
section
variable {P:Program} {f:FuncId} {N:Nat} {k:List Item} {env:Env} {w:World} {R:Value->World->Prop}
end
def YE (x y:ak):Int:=jW y.b x.b
section
variable {α:Type} {ys zs us:List α} {σ dU:Nat->Nat} {c:α->α->Int} {P:α->Prop}
def fH (c:α->α->Int) (ys zs:List α):Prop:=∃σ,fT ys σ zs/\f_ σ 0 ys.length/\jM (fB c ys) σ 0 ys.length
theorem YF {n:Nat} (hc:mA c P) (hP:∀x∈ys,P x) (hn:n=ys.length) (h1:f_ σ 0 n) (h2:jM (fB c ys) σ 0 n) (t1:f_ dU 0 n) (t2:jM (fB c ys) dU 0 n):∀i,i<n->σ i=dU i:=by
 intro i
 induction i using Nat.strongRecOn with
 |ind i ih=>
  intro hi;apply Classical.byContradiction;intro hne;have key:∀(ρ vM:Nat->Nat),f_ ρ 0 n->jM (fB c ys) ρ 0 n->f_ vM 0 n->(∀k,k<i->ρ k=vM k)->ρ i≠vM i->fB c ys (ρ i) (vM i):=by
   intro ρ vM r1 r2 p1 hk hne;have YG:∃m,m<n/\ρ m=vM i:=by
    apply Classical.byContradiction;intro hno;have h1:=p1.lK i ah hi;have:=HE n (n-1) (λm=>if ρ m<vM i then ρ m else ρ m-1) (λm hm=>by
     have h2:=r1.lK m ah hm;have h3:ρ m≠vM i:=λe=>hno ⟨m,hm,e⟩;split<;>omega) (λm m' hm hm' e=>by
     have h3:ρ m≠vM i:=λe=>hno ⟨m,hm,e⟩;have h4:ρ m'≠vM i:=λe=>hno ⟨m',hm',e⟩;refine r1.inj _ _ ?_;split at e<;>split at e<;>omega)
    omega
   obtain⟨m,hm,e⟩:=YG;have HG:i<m:=by
    rcases Nat.lt_trichotomy m i with h|h|h
    ·have:=hk m h;rw[e] at this;have:=p1.inj _ _ this;omega
    ·subst h;exact absurd e hne
    ·exact h
   rw[<-e];exact r2 i m ah HG hm
  have a:=key σ dU h1 h2 t1 (λk hk=>ih k hk ah) hne;have b:=key dU σ t1 t2 h1 (λk hk=>(ih k hk ah).symm) (Ne.symm hne);exact Q7 hc hP a b
theorem fH.uniq (hc:mA c P) (hP:∀x∈ys,P x) (h:fH c ys zs) (h':fH c ys us):zs=us:=by
 obtain⟨σ,a1,a2,a3⟩:=h;obtain⟨dU,b1,b2,b3⟩:=h';have he:=YF hc hP rfl a2 a3 b2 b3;apply List.ext_getElem?;intro i;by_cases hi:i<ys.length
 ·rw[(a1.at_ i hi).2,(b1.at_ i hi).2,he i hi]
 ·rw[List.getElem?_eq_none (by rw[a1.len];omega),List.getElem?_eq_none (by rw[b1.len];omega)]
noncomputable def s6 (c:α->α->Int) (ys:List α):List α:=open Classical in if h:∃zs,fH c ys zs then h.choose else ys
theorem fH.eq (hc:mA c P) (hP:∀x∈ys,P x) (h:fH c ys zs):zs=s6 c ys:=by
 have he:∃zs,fH c ys zs:=⟨zs,h⟩
 unfold s6;rw[dif_pos he];exact h.uniq hc hP he.choose_spec
end
def Re (eD df:List Int) (p:Nat):Nat->List ak
 |0=>[]
 |k+1=>Re eD df p k++if 0<eD.getD k 0-HL eD df p k then[⟨(k:Int),eD.getD k 0-HL eD df p k⟩] else[]
section
variable {α:Type} {ys zs:List α} {c:α->α->Int}
theorem fH.len (h:fH c ys zs):zs.length=ys.length:=by obtain⟨σ,h1,_⟩:=h;exact h1.len
theorem fH.sub (h:fH c ys zs):∀x∈zs,x∈ys:=λx hx=>by
 obtain⟨σ,h1,_⟩:=h;obtain⟨i,hi,rfl⟩:=List.getElem_of_mem hx;rw[h1.get (by rw[<-h1.len];exact hi)];exact List.getElem_mem _
end
def HM (s:Int) (gs:List ak):Nat->Int
 |0=>s
 |k+1=>HM s gs k+(gs.getD k ⟨0,0⟩).b
def YH (pr:Int) (eD df:List Int) (lo hi:Int) (p:Nat) (fl:List Int) (ok:Bool):Prop:=
 (¬(lo<=y_ pr eD df p eD.length/\y_ pr eD df p eD.length<hi)/\ok=false/\fl=[])\/
 ((lo<=y_ pr eD df p eD.length/\y_ pr eD df p eD.length<hi)/\∃gs k,fH YE (Re eD df p eD.length) gs/\k<=gs.length/\(∀j,j<k->HM (y_ pr eD df p eD.length) gs j<hi)/\
  ((HM (y_ pr eD df p eD.length) gs k<hi/\k=gs.length/\ok=false/\fl=[])\/(hi<=HM (y_ pr eD df p eD.length) gs k/\ok=true/\fH jW ((gs.take k).map (·.a)) fl)))
structure qB where
 r:ak
 ver:Int
 za:Int
 ch:Int
 deriving DecidableEq
instance:aZ qB:=aZ.via (λx:qB=>(x.r,(x.ver,(x.za,x.ch))))
instance:Inhabited qB:=⟨⟨⟨0,0⟩,0,0,0⟩⟩
structure bC where
 A:ak
 B:ak
 cR:Int
 bz:Int
 same:Bool
 deriving DecidableEq
instance:aZ bC:=aZ.via (λx:bC=>(x.A,(x.B,(x.cR,(x.bz,x.same)))))
instance:Inhabited bC:=⟨⟨⟨0,0⟩,⟨0,0⟩,0,0,false⟩⟩
abbrev ni (x:bC):List Value:=[.int .i64 x.A.a,.int .i64 x.A.b,.int .i64 x.B.a,.int .i64 x.B.b,.int .i64 x.cR,.int .i64 x.bz,.bool x.same]
section
variable {w:World} {M:Nat->Prop} {b o:Nat} {v:Value}
theorem Rf {h:Array Obj} {x:bC} {vs:List Value}:rep h M x vs↔vs=ni x:=
 ⟨λhr=>by
   obtain⟨us,ws,rfl,h1,KX,Cy,rfl,h2,YI,af9,rfl,h3,YJ,YK,rfl,h4,h5⟩:=hr;have e1:=(qb (M:=M) (h:=h) (x:=x.A)).1 h1;have e2:=(qb (M:=M) (h:=h) (x:=x.B)).1 h2;have fA:YI=[.int .i64 x.cR]:=h3;have jL:YJ=[.int .i64 x.bz]:=h4;have YL:YK=[.bool x.same]:=h5;subst e1 e2 fA jL YL;rfl,
  λhr=>by
   subst hr;exact⟨bh x.A,bh x.B++[.int .i64 x.cR,.int .i64 x.bz,.bool x.same],rfl,(qb (M:=M)).2 rfl,bh x.B,[_,_,_],rfl,(qb (M:=M)).2 rfl,[_],[_,_],rfl,rfl,[_],[_],rfl,rfl,rfl⟩⟩
theorem zb {x:bC}:av w M x v↔v=.agg (ni x).toArray:=
 ⟨λh=>by obtain⟨vs,h1,h2⟩:=h;rw[Rf.1 h1] at h2;exact h2,λh=>⟨_,Rf.2 rfl,h⟩⟩
end
def Rg (x y:qB):Int:=iV [jq x.r y.r,jW x.ver y.ver,jW x.za y.za]
def lZ (x y:bC):Int:=iV [r8 x.A x.B y.A y.B,jW x.cR y.cR,jW x.bz y.bz]
def jt (n:Int):Bool:=decide (1<=n/\n<=1048576)
def uj (x:bC):Prop:=jK x.A x.B=true/\jt x.cR=true/\jt x.bz=true
section
variable {α:Type} [aZ α] {P:Program} {N:Nat} {env:Env} {w:World} {M:Nat->Prop} {t e e':TypeId} {v s:Value} {x y z q:Operand} {xs ys zs:List α}
theorem Rh {zs:List α} {sb so:Nat} {r5:Array Value} {Eb:TypeId} {Ec:Nat×Nat} (hsc:w.heap[sb]?=some (.cells r5 Eb Ec)) (hsl:so+zs.length*sz α<=r5.size)
  (Ed:∀k (hk:k<zs.length),rep w.heap M zs[k] (dh r5 (so+k*sz α) (sz α))):
  ∃news:List Value,news.length=zs.length*sz α/\(∀j v,news[j]?=some v->w.cell? ((⟨sb,so,none⟩:Addr).add j)=some v)/\∀k (hk:k<zs.length),rep w.heap M zs[k] (dh news.toArray (k*sz α) (sz α)):=by
 obtain⟨news,Ee⟩:∃news,news=dh r5 so (zs.length*sz α):=⟨_,rfl⟩
 have hnl:news.length=zs.length*sz α:=by
  rw[Ee];simp only[dh,List.length_take,List.length_drop,Array.length_toList];omega
 have mI:∀j,j<zs.length*sz α->news[j]?=r5[so+j]?:=λj hj=>by
  rw[Ee];simp only[dh,List.getElem?_take,if_pos hj,List.getElem?_drop];simp
 refine⟨news,hnl,λj v hv=>?_,λk hk=>?_⟩
 ·have hj:j<zs.length*sz α:=by rw[<-hnl];exact(List.getElem?_eq_some_iff.1 hv).1
  rw[qt,cell_of_row w sb (so+j) r5 Eb Ec hsc,<-mI j hj,hv]
 ·have:=Ed k hk;rwa [show dh r5 (so+k*sz α) (sz α)=dh news.toArray (k*sz α) (sz α) from rY (λj hj=>by
   have hb:k*sz α+j<zs.length*sz α:=by
    have:=Nat.mul_le_mul_right (sz α) (show k+1<=zs.length from hk);rw[Nat.succ_mul] at this;omega
   rw[show∀m,news.toArray[m]?=news[m]? from λm=>by simp,mI _ hb,Nat.add_assoc])] at this
theorem YM {bytes:Nat} {a:Option Addr} (hx:ev env x=some (.slice a ys.length ys.length)) (hy:ev env y=some s) (hrow:qu P t e (sz α) bytes=true) (hsz:0<sz α)
  (hown:av w M ys (.slice a ys.length ys.length)) (hsrc:av w M zs s) (xA:zs≠[]) (hlen: (ys.length+zs.length)*bytes<=140737488355328) (h63:ys.length+zs.length<=140737488355328):
  ig P N env (.call {callee:=.builtin .append,args:=#[x,y],argTypes:=#[t,t]}) w (λv' w'=>
   kH w' (λb=>c9 v' b\/M b) e v' (ys++zs)/\Ext (λ_=>False) w w'/\(∀b,c9 v' b->w.heap.size<=b)):=rq λρ hρ fN ij=>by
 obtain⟨i,z,hu,hi,rZ,hby,hz,hzs⟩:=yO hrow;obtain⟨a2,c,rfl,hcap,hl0,GZ⟩:=ko.1 hsrc;have key:∃v' w',(Builtin.append_ #[t,t] fN.type #[.slice a ys.length ys.length,.slice a2 zs.length c]).run P w=.ok v' w'/\
   kH w' (λb=>c9 v' b\/M b) e v' (ys++zs)/\Ext (λ_=>False) w w'/\(∀b,c9 v' b->w.heap.size<=b):=by
  rcases GZ with h|⟨sb,so,rfl,jH,r5,Eb,Ec,hsc,hsl,Ed⟩
  ·exact absurd h xA
  ·have hm0:0<zs.length:=List.length_pos_iff.2 xA;obtain⟨news,hnl,hnews,Ef⟩:=Rh (w:=w) (M:=M) hsc hsl Ed;have yP:news.length=zs.length*i.size:=by rw[hnl,rZ]
   have fresh:∀(olds:List Value) (cap:Nat) (o:Obj),olds.length=ys.length*sz α->(∀k (hk:k<ys.length),rep w.heap M ys[k] (dh olds.toArray (k*sz α) (sz α)))->
     o=.cells (olds.toArray++news.toArray++Builtin.zeroCells z.cells (cap-(ys.length+zs.length))) e (0,0)->ys.length+zs.length<=cap->
     kH (w.drew.alloc o) (λb=>c9 (.slice (some ⟨w.heap.size,0,none⟩) (ys.length+zs.length) cap) b\/M b) e (.slice (some ⟨w.heap.size,0,none⟩) (ys.length+zs.length) cap) (ys++zs):=by
    intro olds cap o holds Au ho Kr;subst ho;have hnew:=yK w (.cells (olds.toArray++news.toArray++Builtin.zeroCells z.cells (cap-(ys.length+zs.length))) e (0,0));refine .inr ⟨w.heap.size,cap,_,by rw[List.length_append],.inl rfl,hnew.at_,by rw[List.length_append];exact Kr,?_,?_⟩
    ·simp only[Array.size_append,List.size_toArray,size_zeroCells,hzs,holds,hnl,<-Nat.add_mul];congr 1;omega
    ·intro k hk;rw[List.length_append] at hk;have hkeep:∀(x:α) (vs:List Value),rep w.heap M x vs->rep (w.drew.alloc (.cells (olds.toArray++news.toArray++Builtin.zeroCells z.cells (cap-(ys.length+zs.length))) e (0,0))).heap
       (λb=>c9 (.slice (some ⟨w.heap.size,0,none⟩) (ys.length+zs.length) cap) b\/M b) x vs:=λx vs hr=>
      aZ.keep (aZ.sub hr (λb hb h=>h.elim (λe=>by simp only[c9,Value.ownBlock,Option.some.injEq] at e;omega) id)) (λb hb _=>hnew.ext.block b hb (λh=>h))
     by_cases tS:k<ys.length
     ·rw[List.getElem_append_left tS];have:=Au k tS;rw[show dh olds.toArray (k*sz α) (sz α)=dh (olds.toArray++news.toArray++Builtin.zeroCells z.cells (cap-(ys.length+zs.length))) (k*sz α) (sz α) from rY (λj hj=>by
       have hb:k*sz α+j<ys.length*sz α:=by
        have:=Nat.mul_le_mul_right (sz α) (show k+1<=ys.length from tS);rw[Nat.succ_mul] at this;omega
       rw[Array.append_assoc,Array.getElem?_append_left (by simpa[holds] using hb)])] at this
      exact hkeep _ _ this
     ·rw[List.getElem_append_right ah];have yQ:k-ys.length<zs.length:=by omega
      have:=Ef (k-ys.length) yQ;rw[show dh news.toArray ((k-ys.length)*sz α) (sz α)=dh (olds.toArray++news.toArray++Builtin.zeroCells z.cells (cap-(ys.length+zs.length))) (k*sz α) (sz α) from rY (λj hj=>by
       have hb: (k-ys.length)*sz α+j<zs.length*sz α:=by
        have:=Nat.mul_le_mul_right (sz α) (show k-ys.length+1<=zs.length from yQ);rw[Nat.succ_mul] at this;omega
       have he:k*sz α=ys.length*sz α+(k-ys.length)*sz α:=by rw[<-Nat.add_mul];congr 1;omega
       rw[Array.getElem?_append_left (by simp only[Array.size_append,List.size_toArray,holds,hnl];omega),Array.getElem?_append_right (by simp only[List.size_toArray,holds];omega)];congr 1;simp only[List.size_toArray,holds];omega)] at this
      exact hkeep _ _ this
   by_cases hys:ys=[]
   ·subst hys;rcases a with _|ab
    case' some=>
     have hr:=run_append_grow (P:=P) w t fN.type e i z hu hi hz ab 0 0 [] aF (λj v hv=>by simp at hv) ⟨sb,so,none⟩ zs.length c news yP hnews ah ah
      (growslice_fits ah (by rw[hby];exact hlen))
     have hfr:=fresh [] (grownCap w (0+zs.length) 0 e) _ aF (λk hk=>by simp at hk) rfl (grownCap_ge w _ _ e);refine⟨_,_,hr,hfr,?_,?_⟩
     ·exact(yK w _).ext.mono (λb hb h=>h.elim)
     ·intro b hb;simp only[c9,Value.ownBlock,Option.some.injEq] at hb;omega
    have hr:=run_append_nil (P:=P) w t fN.type e i z hu hi hz ⟨sb,so,none⟩ zs.length c news yP hnews hm0 ah
     (by rw[hby];simp only[List.length_nil,Nat.zero_add] at hlen;omega)
    have hfr:=fresh [] (grownCap w zs.length 0 e) _ aF (λk hk=>by simp at hk) rfl (by simpa using grownCap_ge w zs.length 0 e);simp only[List.length_nil,Nat.zero_add,List.nil_append] at hfr;refine⟨_,_,hr,?_,?_,?_⟩
    ·simpa using hfr
    ·exact(yK w _).ext.mono (λb hb h=>h.elim)
    ·intro b hb;simp only[c9,Value.ownBlock,Option.some.injEq] at hb;omega
   ·obtain⟨a3,c3,YN,_,_,YO⟩:=ko.1 hown;injection YN with h1 h2 h3;subst h1;rcases YO with h|⟨fh,YP,HN,HO,af_,aga,agb,YQ,xB,YR⟩
    ·exact absurd h hys
    ·subst HN;obtain⟨olds,l5,holds,Au⟩:=Rh (w:=w) (M:=M) YQ xB YR;have hr:=run_append_grow (P:=P) w t fN.type e i z hu hi hz ⟨fh,YP,none⟩ ys.length ys.length olds (by rw[rZ];exact l5) holds ⟨sb,so,none⟩ zs.length c news yP hnews ah ah
      (growslice_fits ah (by rw[hby];exact hlen))
     have hfr:=fresh _ (grownCap w (ys.length+zs.length) ys.length e) _ l5 Au rfl (grownCap_ge w _ _ e);refine⟨_,_,hr,hfr,?_,?_⟩
     ·exact(yK w _).ext.mono (λb hb h=>h.elim)
     ·intro b hb;simp only[c9,Value.ownBlock,Option.some.injEq] at hb;omega
 obtain⟨v',w',hrun,hpost⟩:=key;refine⟨v',w',.inl ?_,hpost⟩;unfold execOp;rw[ij];simp[hρ _ _ hx,hρ _ _ hy,resolve,invoke,builtin,hrun]
end
section
variable {α:Type} [aZ α] {P:Program} {N:Nat} {env:Env} {w w':World} {C aQ:Nat->Nat} {I:List Nat} {t e e':TypeId} {v s:Value} {y z:Operand} {xs ys zs:List α} {j b n ty:Nat} {fh agc:Obj}
theorem EE {bytes:Nat} {a:Option Addr} (hF:aL w C) (hj:j≠0) (hx:ev env y=some (.slice a ys.length ys.length)) (hy:ev env z=some s) (hrow:qu P t e (sz α) bytes=true) (hsz:0<sz α)
  (hown:av w (au C) ys (.slice a ys.length ys.length)) (hsrc:av w (au C) zs s) (xA:zs≠[]) (hlen: (ys.length+zs.length)*bytes<=140737488355328) (h63:ys.length+zs.length<=140737488355328):
  ig P N env (.call {callee:=.builtin .append,args:=#[y,z],argTypes:=#[t,t]}) w (λv' w'=>∃aQ,ax [] w C w' aQ/\bg w' aQ j e v' (ys++zs)/\aL w' aQ):=λa' jV fN ij=>by
 obtain⟨v',w',h1,h2,h3,h4⟩:=YM (P:=P) (N:=N) hx hy hrow hsz hown hsrc xA hlen h63 a' jV fN ij;have kr:∀b,b<w.heap.size->gN C v' j b=C b:=λb hb=>by
  unfold gN;split
  ·rename_i e;have:=h4 b e;omega
  ·rfl
 refine⟨v',w',h1,gN C v' j,⟨h3.mono (λb _ hb=>hb.elim),kr⟩,⟨h2.sub (λb hb hc=>?_) (λb hb=>?_),λb hb=>?_⟩,λb hb=>?_⟩
 ·by_cases ho:c9 v' b
  ·exact .inl ho
  ·right;unfold au gN at hc;rw[if_neg (show¬v'.ownBlock=some b from ho)] at hc;exact hc
 ·unfold au gN;rw[if_pos (show v'.ownBlock=some b from hb)];exact hj
 ·unfold gN;rw[if_pos (show v'.ownBlock=some b from hb)]
 ·by_cases ho:c9 v' b
  ·exact(h2.fh b ho).2
  ·unfold gN at hb;rw[if_neg (show¬v'.ownBlock=some b from ho)] at hb;exact Nat.lt_of_lt_of_le (hF b hb) h3.size
end
end Go.K
namespace Go.K
open aZ
section
variable {α:Type} [aZ α] {w:World} {C:Nat->Nat} {P:Program} {f:FuncId} {N:Nat} {k:List Item} {R:Value->World->Prop} {Q:Exit->Act->World->Prop} {env:Env} {ops:Array Oper} {S:World->Prop} {i t:Nat} {L:List (Nat×Bool)} {v:Value} {y z q:Operand} {gq:Option (Nat×Bool)} {ty e e':TypeId} {xs:List α} {kd EF:IntKind}
end
def YS (r:ak) (ver za:Int) (s:qB):Bool:=decide (s.r=r/\s.ver=ver/\s.za=za)
def YT (sh:List qB) (r:ak) (ver za:Int):Bool:=sh.any (YS r ver za)
def uk (sh:List qB) (r:ak) (ver:Int) (vals:List ByteArray) (fl:List Int):Nat->List qB
 |0=>[]
 |k+1=>uk sh r ver vals fl k++if(k:Int)∈fl/\YT sh r ver k=false then[⟨r,ver,k,((vals.getD k ByteArray.empty).size:Nat)⟩] else[]
def CQ (l:List qB):Int:=(l.map (·.ch)).sum
section
variable {α:Type} [aZ α] {P:Program} {N:Nat} {env:Env} {w w':World} {C aQ:Nat->Nat} {t e u:TypeId} {v s:Value} {x y z:Operand} {a b:Addr} {l c n:Nat} {M:Nat->Prop}
theorem AU (hx:ev env x=some (.slice (some b) l c)) (ht:P.underlying t=some (.slice e)):cZ P N env (.binOp .eql t x (.const (.slice none 0 0)) u) w (.bool false):=mk' λρ hρ o ho=>by
 unfold execOp;rw[ho];have hc:ρ (.const (.slice none 0 0))=.slice none 0 0:=hρ _ _ rfl;have h1: (Op.equalIn Op.maxDepth t (.slice (some b) l c) (.slice none 0 0)).run P w=.ok false w:=by rw[show Op.maxDepth=9999+1 from rfl,Op.equalIn];simp[run_underlying ht]
 simp[hρ _ _ hx,hc,go_sem,eqGuard,binOp,Op.equal,h1]
theorem Lp (hx:ev env x=some (.slice none l c)) (ht:P.underlying t=some (.slice e)):cZ P N env (.binOp .eql t x (.const (.slice none 0 0)) u) w (.bool true):=mk' λρ hρ o ho=>by
 unfold execOp;rw[ho];have hc:ρ (.const (.slice none 0 0))=.slice none 0 0:=hρ _ _ rfl;have h1: (Op.equalIn Op.maxDepth t (.slice none l c) (.slice none 0 0)).run P w=.ok true w:=by rw[show Op.maxDepth=9999+1 from rfl,Op.equalIn];simp[run_underlying ht]
 simp[hρ _ _ hx,hc,go_sem,eqGuard,binOp,Op.equal,h1]
theorem CS {bytes:Nat} (hF:aL w C) (hrow:qu P t e n bytes=true):ig P N env (.buildSlice t 0 #[]) w (λv w'=>(∃a,v=.slice (some a) 0 0)/\ax [] w C w' C/\aL w' C):=rq λρ hρ fN ij=>by
 obtain⟨i,z,hu,hi,hsi,hby,hz,hzs⟩:=yO hrow;have Ek: (sizeOf e).run P w=.ok n w:=by simp[sizeOf,typeInfo,hi,hsi]
 have hnew:=xd w (.cells #[] e);have hrun: (Instr.buildSlice t 0 #[]).run P w=.ok (.slice (some ⟨w.heap.size,0,none⟩) 0 0) (w.alloc (.cells #[] e)):=by
  unfold Instr.buildSlice;simp[run_underlying hu,Ek,Instr.fill,newRow,show Array.range 0=(#[]:Array Nat) from by simp[Array.range]]
 refine⟨.slice (some ⟨w.heap.size,0,none⟩) 0 0,w.alloc (.cells #[] e),.inl ?_,⟨_,rfl⟩,hnew.st C,hF.st (hnew.st C)⟩;unfold execOp;rw[ij];simp only[Sem.run_bind];rw[show Array.map (λx:Nat×Operand=>(x.fst,ρ x.snd)) #[]=#[] from by simp,hrun];rfl
theorem Ri {bytes:Nat} (hx:ev env x=some (.slice (some a) 0 0)) (hy:ev env y=some s) (hrow:qu P t e (sz α) bytes=true) (hsrc:av w M ([]:List α) s):
  ig P N env (.call {callee:=.builtin .append,args:=#[x,y],argTypes:=#[t,t]}) w (λv' w'=>v'=.slice (some a) 0 0/\ax [] w C w' C):=rq λρ hρ fN ij=>by
 obtain⟨i,z,hu,hi,rZ,hby,hz,hzs⟩:=yO hrow;obtain⟨a2,c,rfl,hcap,hl0,GZ⟩:=ko.1 hsrc;have hf: (Builtin.firstCells i.size 0 (.slice a2 0 c)).run P w=.ok #[] w:=by cases a2<;>simp[Builtin.firstCells,loadCells,loadCellsFrom]
 have hrun: (Builtin.append_ #[t,t] fN.type #[.slice (some a) 0 0,.slice a2 0 c]).run P w=.ok (.slice (some a) 0 0) w:=by
  simp[Builtin.append_,run_underlying hu,sizeOf,typeInfo,hi,Builtin.lenOf,hf,storeCells]
 refine⟨_,w,.inl ?_,rfl,ax.refl _ _ _⟩;unfold execOp;rw[ij];simp[hρ _ _ hx,hρ _ _ hy,resolve,invoke,builtin,hrun]
theorem CT {a:Addr}:av w M ([]:List α) (.slice (some a) 0 0):=ko.2 ⟨_,0,rfl,Nat.le_refl _,by simp,.inl rfl⟩
end
section
variable {α:Type} [aZ α] {P:Program} {N:Nat} {env:Env} {w:World} {C:Nat->Nat} {t ti e j n l c:Nat} {y z:Operand} {a:Addr}
theorem YU {bytes:Nat} (hF:aL w C) (hj:j≠0) (hy:ev env y=some (.slice none 0 0)) (hz:ev env z=some (.int .i64 n)) (hrow:qu P t e (sz α) bytes=true) (hsz:0<sz α) (hby:bytes<=100000)
  (YV:P.underlying ti=some (.int .i64)) (h0:0<n) (hn:n<=1000000):
  ig P N env (.call {callee:=.builtin .append,args:=#[y,z],argTypes:=#[t,ti]}) w (λv w'=>∃aQ g cap,v=.slice (some ⟨g,0,none⟩) n cap/\ax [] w C w' aQ/\bg w' aQ j e (.slice (some ⟨g,0,none⟩) 0 cap) ([]:List α)/\aL w' aQ):=rq λρ hρ fN ij=>by
 obtain⟨i,lU,hu,hi,hsi,hb,G5,hzs⟩:=yO hrow;have hr:=Lib.run_append_nil_zeros (P:=P) w t ti fN.type e i lU .i64 .i64 hu YV hi G5 n h0 (by rw[hsi];exact hsz) ah (by rw[hb];have:=Nat.mul_le_mul hn hby;omega);have hge:=grownCap_ge w n 0 e;obtain⟨cap,hcap⟩:∃cap,cap=grownCap w n 0 e:=⟨_,rfl⟩
 rw[<-hcap] at hr hge;have qC:=yK w (.cells (Builtin.zeroCells lU.cells n++Builtin.zeroCells lU.cells (cap-n)) e (0,0));obtain⟨aQ,h1,h2,h3⟩:=qC.own hF j;refine⟨_,_,.inl ?_,aQ,_,cap,rfl,h1,⟨.inr ⟨w.heap.size,cap,_,rfl,?_,h2.at_,Nat.zero_le _,?_,λk hk=>by simp at hk⟩,λb hb=>?_⟩,h3⟩
 ·unfold execOp;rw[ij];simp[hρ _ _ hy,hρ _ _ hz,resolve,invoke,builtin,hr]
 ·unfold au;rw[h2.col];exact hj
 ·rw[Array.size_append,size_zeroCells,size_zeroCells,hzs,<-Nat.add_mul];congr 1;omega
 ·simp only[c9,Value.ownBlock,Option.some.injEq] at hb;subst hb;exact h2.col
theorem Rj {b:Option Addr} (hx:ev env y=some (.slice b l c)) (ht:P.underlying t=some (.slice e)):
  cZ P N env (.call {callee:=.builtin .cap,args:=#[y],argTypes:=#[t]}) w (.int .i64 c):=mk' λρ hρ o ho=>by
 unfold execOp;rw[ho];simp[hρ _ _ hx,go_sem,resolve,invoke,builtin,Builtin.cap_,run_underlying ht,goInt]
theorem YW (hx:ev env y=some (.slice none 0 0)) (hz:ev env z=some (.int .i64 0)) (hu:P.underlying t=some (.slice e)) (hi: (P.info? e).isSome=true):cZ P N env (.slice t y none (some z) none) w (.slice none 0 0):=mk' λρ hρ o ho=>by
 obtain⟨i,hi⟩:=Option.isSome_iff_exists.1 hi;unfold execOp;rw[ho];simp[hρ _ _ hx,hρ _ _ hz,Instr.sliceAt,Instr.slice,run_underlying hu,Instr.sliceBounds,Instr.sliceBound,asIntOf,sizeOf,typeInfo,hi]
theorem YX {g:Nat} (hx:ev env y=some (.slice (some ⟨g,0,none⟩) l c)) (hz:ev env z=some (.int .i64 0)) (hu:P.underlying t=some (.slice e)) (hi: (P.info? e).isSome=true):cZ P N env (.slice t y none (some z) none) w (.slice (some ⟨g,0,none⟩) 0 c):=mk' λρ hρ o ho=>by
 obtain⟨i,hi⟩:=Option.isSome_iff_exists.1 hi;unfold execOp;rw[ho];simp[hρ _ _ hx,hρ _ _ hz,Instr.sliceAt,Instr.slice,run_underlying hu,Instr.sliceBounds,Instr.sliceBound,asIntOf,sizeOf,typeInfo,hi];exact λ_=>rfl
end
section
variable {α:Type}
theorem HP {ll:List (List α)} {k:Nat} (h:k<ll.length): (ll.take (k+1)).flatten=(ll.take k).flatten++ll[k]:=by
 rw[List.take_succ_eq_append_getElem h,List.flatten_append];simp
theorem zc {ll:List (List α)} (k:Nat): (ll.take k).flatten.length<=ll.flatten.length:=by
 have:ll.flatten.length=(ll.take k).flatten.length+(ll.drop k).flatten.length:=by rw[<-List.length_append,<-List.flatten_append,List.take_append_drop]
 omega
end
theorem EG {x y:Int}:jW x y=0↔x=y:=by unfold jW;split<;>(try split)<;>omega
theorem HQ {x y:Int}:0<jW x y↔y<x:=by unfold jW;split<;>(try split)<;>omega
theorem AV (a b c:Int):iV [a,b,c]=if a≠0 then a else if b≠0 then b else c:=by
 unfold iV;by_cases h:a=0
 ·simp[h];unfold iV;by_cases h2:b=0
  ·simp[h2,iV];exact λe=>e.symm
  ·simp[h2]
 ·simp[h]
theorem AW (a b:Int):iV [a,b]=if a≠0 then a else b:=by
 unfold iV;by_cases h:a=0
 ·simp[h,iV];exact λe=>e.symm
 ·simp[h]
section
variable {P:Program} {f:FuncId} {N:Nat} {k:List Item} {env:Env} {w:World} {R:Value->World->Prop}
theorem HR {c:Code} {fn:Func} {a ty b u u2:Nat} {x Lq:Value} {yZ:Nat} {cs:List Value} {e8:Nat×Nat} {n:Nat} (hc:c=.ret) (hf:P.funcs[f]?=some fn) (hres:fn.results=#[.cell a ty,.tmp u,.tmp u2]) (hv:look env a=some (.pointer (some ⟨b,0,none⟩)))
  (hx:look env u=some x) (hx2:look env u2=some Lq) (hb:w.heap[b]?=some (.cells cs.toArray yZ e8)) (ha:gM P ty=some true) (hs:gX P ty=some n) (hl:cs.length=n)
  (hR:R (.tuple #[.agg cs.toArray,x,Lq]) w):Run P f N (.code c::k) env w R:=λa' jV=>by
 subst hc;refine Ao hf jV.defers ?_ hR;have h1:=jV.slot a _ hv;have h3:=jV.slot u _ hx;have h4:=jV.slot u2 _ hx2;have h2:=KQ hb ha hs hl;simp only[results,hres];simp[h1,h3,h4,Array.getD_eq_getD_getElem?,asAddr,h2]
end
def Rk (pr:Int) (eD df:List Int) (lo hh:Int) (p:Nat) (CU:Int) (sh:List qB) (A B:ak) (si sj:List ByteArray) (ze xC:Int) (Lr:Int) (Ls now:List qB) (e:Int):Prop:=
 ∃fl ok,YH pr eD df lo hh p fl ok/\
  ((ok=false/\e=13)\/
   (ok=true/\∃sq z2,fH Rg (sh++uk sh A ze si fl si.length) sq/\fH Rg (sq++uk sq B xC sj fl sj.length) z2/\
    ((CU<CQ (uk sh A ze si fl si.length)+CQ (uk sq B xC sj fl sj.length)/\e=45)\/
     (CQ (uk sh A ze si fl si.length)+CQ (uk sq B xC sj fl sj.length)<=CU/\e=0/\Ls=z2/\now=uk sh A ze si fl si.length++uk sq B xC sj fl sj.length/\
      Lr=CU-(CQ (uk sh A ze si fl si.length)+CQ (uk sq B xC sj fl sj.length))))))
def zf (x y:bC):Prop:=x.A.a<y.A.a\/(x.A.a=y.A.a/\(x.A.b<y.A.b\/(x.A.b=y.A.b/\(x.B.a<y.B.a\/(x.B.a=y.B.a/\(x.B.b<y.B.b\/(x.B.b=y.B.b/\(x.cR<y.cR\/(x.cR=y.cR/\x.bz<y.bz)))))))))
def AX (x y:ak):Prop:=x.a<y.a\/(x.a=y.a/\x.b<y.b)
def Lt (x y:ak):Prop:=x.a=y.a/\x.b=y.b
theorem zg {x y:ak}: (jq x y<0↔AX x y)/\(jq x y=0↔Lt x y)/\(0<jq x y↔AX y x):=by
 unfold jq AX Lt;rw[AW];have a1:= @CP x.a y.a;have a2:= @EG x.a y.a;have a3:= @HQ x.a y.a;have b1:= @CP x.b y.b;have b2:= @EG x.b y.b;have b3:= @HQ x.b y.b;by_cases h1:jW x.a y.a=0
 ·rw[if_neg ah];refine⟨?_,?_,?_⟩<;>omega
 ·rw[if_pos h1];refine⟨?_,?_,?_⟩<;>omega
set_option maxHeartbeats 4000000 in
theorem YY {x y:bC}: (lZ x y<0↔zf x y)/\(0<lZ x y↔zf y x):=by
 unfold lZ r8;obtain⟨a1,a2,a3⟩:= @zg x.A y.A;obtain⟨b1,b2,b3⟩:= @zg x.B y.B;have c1:= @CP x.cR y.cR;have c2:= @EG x.cR y.cR;have c3:= @HQ x.cR y.cR;have d1:= @CP x.bz y.bz;have d3:= @HQ x.bz y.bz;rw[AV,AW];unfold AX Lt at*;unfold zf;by_cases h1:jq x.A y.A=0
 ·rw[if_neg (show¬(jq x.A y.A≠0) by omega)];by_cases h2:jq x.B y.B=0
  ·rw[if_neg ah];by_cases h3:jW x.cR y.cR=0
   ·rw[if_neg ah];constructor<;>omega
   ·rw[if_pos h3];constructor<;>omega
  ·rw[if_pos h2];constructor<;>omega
 ·rw[if_pos h1,if_pos h1];constructor<;>omega
def HS {α:Type} [aZ α] (w:World) (C:Nat->Nat) (j:Nat) (e:TypeId) (v:Value) (ys:List α):Prop:=bg w C j e v ys\/(ys=[]/\∃a,v=.slice (some a) 0 0)
section
variable {α:Type} [aZ α] {P:Program} {N:Nat} {env:Env} {w w':World} {C aQ a_ D:Nat->Nat} {I:List Nat} {t e:TypeId} {v s:Value} {x y z:Operand} {xs ys zs:List α} {j j1 n:Nat}
theorem HS.ln (h:HS w C j e v ys):∃a c,v=.slice a ys.length c:=by
 rcases h with h|⟨rfl,a,rfl⟩
 ·exact h.own.len
 ·exact⟨_,_,rfl⟩
theorem HS.one (h:HS w C j e v ys):v.cells=#[v]/\v.oneCell'=true:=by
 rcases h with h|⟨rfl,a,rfl⟩
 ·exact h.one
 ·exact⟨rfl,rfl⟩
end
section
variable {α:Type} [aZ α] {w:World} {C:Nat->Nat} {P:Program} {f:FuncId} {N:Nat} {k:List Item} {R:Value->World->Prop} {Q:Exit->Act->World->Prop} {env:Env} {ops:Array Oper} {S:World->Prop} {i t:Nat} {L:List (Nat×Bool)} {v v2:Value} {y z:Operand} {gq:Option (Nat×Bool)} {ty e e':TypeId} {xs:List α} {j g:Nat} {kd:IntKind} {n:Int}
end
section
variable {α:Type} [aZ α] {w w':World} {C aQ:Nat->Nat} {I:List Nat} {e:TypeId} {v:Value} {ys:List α} {j:Nat}
end
section
variable {α:Type} {ys zs us:List α} {σ dU:Nat->Nat} {c:α->α->Int} {P:α->Prop}
theorem YZ {n:Nat} (h:f_ σ 0 n): ((List.range n).map σ).Perm (List.range n):=by
 have jv: ((List.range n).map σ).Nodup:=by
  rw[List.nodup_iff_pairwise_ne,List.pairwise_map];exact(List.nodup_iff_pairwise_ne.1 List.nodup_range).imp (λhne e=>hne (h.inj _ _ e))
 have hsub: (List.range n).map σ⊆List.range n:=λx hx=>by
  obtain⟨i,hi,rfl⟩:=List.mem_map.1 hx;exact List.mem_range.2 (h.lK i ah (List.mem_range.1 hi)).2
 refine(List.perm_ext_iff_of_nodup jv List.nodup_range).2 λa=>⟨λha=>hsub ha,λha=>?_⟩
 apply Classical.byContradiction;intro hn;have h1: (a::(List.range n).map σ).Nodup:=List.nodup_cons.2 ⟨hn,jv⟩;have h2:=h1.length_le_of_subset (l₂:=List.range n) (λx hx=>by
  rcases List.mem_cons.1 hx with rfl|hx
  ·exact ha
  ·exact hsub hx)
 simp at h2;omega
theorem fH.perm (h:fH c ys zs):zs.Perm ys:=by
 obtain⟨σ,h1,h2,h3⟩:=h;have e1:zs.map some=((List.range ys.length).map σ).map (λi=>ys[i]?):=by
  apply List.ext_getElem
  ·simp[h1.len]
  ·intro i hi hj;have hlt:i<ys.length:=by simpa[h1.len] using hi
   simp only[List.getElem_map,List.getElem_range];rw[<-(h1.at_ i hlt).2,List.getElem?_eq_getElem (by rw[h1.len];exact hlt)]
 have e2:ys.map some=(List.range ys.length).map (λi=>ys[i]?):=by
  apply List.ext_getElem
  ·simp
  ·intro i hi hj;simp only[List.getElem_map,List.getElem_range];rw[List.getElem?_eq_getElem (by simpa using hi)]
 have fA: (zs.map some).Perm (ys.map some):=by rw[e1,e2];exact(YZ h2).map _
 have jL:=fA.filterMap id;simpa using jL
theorem fH.le (h:fH c ys zs) {i j:Nat} (hij:i<j) (hj:j<zs.length):c (zs[i]'ah) zs[j]<=0:=by
 obtain⟨σ,h1,h2,h3⟩:=h;have hl:=h1.len;rw[h1.get (show i<ys.length by omega),h1.get (show j<ys.length by omega)];obtain⟨_,_,h4⟩:=h3 i j ah hij ah;omega
theorem fH.self (h:∀i j (hij:i<j) (hj:j<ys.length),c (ys[i]'ah) ys[j]<0):fH c ys ys:=
 ⟨λi=>i,fT.id ys,f_.id _ _,λi j h1 h2 h3=>⟨Nat.lt_trans h2 h3,h3,.inl (h i j h2 h3)⟩⟩
end
section
variable {sh z:List qB} {r r2:ak} {ver xC:Int} {vals:List ByteArray} {fl:List Int} {k:Nat}
end
section
variable {pr:Int} {eD df:List Int} {lo hi:Int} {p:Nat} {fl Rl:List Int} {ok agd:Bool}
end
section
variable {pr:Int} {eD df:List Int} {lo hh:Int} {p:Nat} {CU:Int} {sh:List qB} {ds:List bC} {A B:ak} {si sj:List ByteArray} {ze xC Lr e:Int} {Ls now:List qB}
theorem Rk.code (h:Rk pr eD df lo hh p CU sh A B si sj ze xC Lr Ls now e):e=0\/e=13\/e=45:=by
 obtain⟨fl,ok,_,⟨_,h⟩|⟨_,sq,z2,_,_,⟨_,h⟩|⟨_,h,_⟩⟩⟩:=h
 ·exact .inr (.inl h)
 ·exact .inr (.inr h)
 ·exact .inl h
end
def vN (f:Nat->Int):Nat->Int
 |0=>0
 |n+1=>if vN f n≠0 then vN f n else f n
theorem CV {f:Nat->Int}:∀{n:Nat},(∀k,k<n->f k=0)->vN f n=0
 |0,_=>rfl
 |n+1,h=>by rw[vN,if_neg (by rw[CV (λk hk=>h k ah)];simp)];exact h n ah
theorem Lu {f:Nat->Int} {i:Nat} (h0:∀k,k<i->f k=0) (hf:f i≠0):∀{n:Nat},i<n->vN f n=f i
 |0,h=>absurd h ah
 |n+1,h=>by
  rw[vN];by_cases e:i=n
  ·subst e;rw[if_neg (by rw[CV h0];simp)]
  ·rw[if_pos (by rw[Lu h0 hf (show i<n by omega)];exact hf),Lu h0 hf ah]
theorem Rm {f:Nat->Int}:∀{n:Nat},vN f n=0->∀k,k<n->f k=0
 |0,_,k,h=>absurd h ah
 |n+1,h,k,hk=>by
  rw[vN] at h;split at h
  ·rename_i h1;exact absurd h h1
  ·rename_i h1;by_cases e:k=n
   ·subst e;exact h
   ·exact Rm (Classical.not_not.1 h1) k ah
theorem CW {f:Nat->Int} {i n:Nat} {e:Int} (h0:∀k,k<i->f k=0) (hi:i<n) (he:f i=e) (hne:e≠0):vN f n=e:=by
 rw[Lu h0 (by rw[he];exact hne) hi,he]
theorem HT {f:Nat->Int} {i:Nat} (h0:∀k,k<i->f k=0) (he:f i=0):∀k,k<i+1->f k=0:=λk hk=>by
 by_cases e:k=i
 ·subst e;exact he
 ·exact h0 k ah
theorem vO (x y:ak):jq x y=if x=y then 0 else if er x y then-1 else 1:=by
 rw[Hl];by_cases e:x=y
 ·subst e;simp
 ·rw[if_neg e];unfold er;have h:¬(x.a=y.a/\x.b=y.b):=λh=>e (Es h.1 h.2)
  (repeat' split)<;>first|rfl|omega
theorem s7 (x y:Int):jW x y=if x=y then 0 else if x<y then-1 else 1:=by
 unfold jW;(repeat' split)<;>first|rfl|omega
section
variable {w:World} {M:Nat->Prop} {b o:Nat}
theorem bJ.ej {x:bC} (h:bJ w M x b o):bJ w M x.A b o:=bJ.fst (p:=(x.A,(x.B,(x.cR,(x.bz,x.same))))) h
theorem bJ.Rn {x:bC} (h:bJ w M x b o):bJ w M (x.B,(x.cR,(x.bz,x.same))) b (o+2):=bJ.snd (p:=(x.A,(x.B,(x.cR,(x.bz,x.same))))) h
theorem bJ.lH {x:bC} (h:bJ w M x b o):bJ w M x.B b (o+2):=bJ.fst (p:=(x.B,(x.cR,(x.bz,x.same)))) h.Rn
theorem bJ.Ro {x:bC} (h:bJ w M x b o):bJ w M (x.cR,(x.bz,x.same)) b (o+4):=bJ.snd (p:=(x.B,(x.cR,(x.bz,x.same)))) h.Rn
theorem bJ.Rp {x:bC} (h:bJ w M x b o):bJ w M x.cR b (o+4):=bJ.fst (p:=(x.cR,(x.bz,x.same))) h.Ro
theorem bJ.Rq {x:bC} (h:bJ w M x b o):bJ w M (x.bz,x.same) b (o+5):=bJ.snd (p:=(x.cR,(x.bz,x.same))) h.Ro
theorem bJ.Y0 {x:bC} (h:bJ w M x b o):bJ w M x.bz b (o+5):=bJ.fst (p:=(x.bz,x.same)) h.Rq
theorem bJ.s8 {x:bC} (h:bJ w M x b o):bJ w M x.same b (o+6):=bJ.snd (p:=(x.bz,x.same)) h.Rq
end
def su (l:List bC) (i:Nat):Int:=
 if jK (l.getD i default).A (l.getD i default).B=false then 41 else if(jt (l.getD i default).cR&&jt (l.getD i default).bz)=false then 42
 else if 0<i/\¬lZ (l.getD (i-1) default) (l.getD i default)<0 then 12 else 0
def jY (l:List bC):Int:=if 4096<l.length then 1 else vN (su l) l.length
theorem Rr {l:List bC} {i:Nat} (hi:i<l.length) (h:jK l[i].A l[i].B=false):su l i=41:=by unfold su;rw[s4 hi,if_pos h]
theorem Rs {l:List bC} {i:Nat} (hi:i<l.length) (h:jK l[i].A l[i].B=true) (h2: (jt l[i].cR&&jt l[i].bz)=false):su l i=42:=by
 unfold su;rw[s4 hi,if_neg (by rw[h];simp),if_pos h2]
theorem Rt {l:List bC} {i:Nat} (hi:i<l.length) (h:jK l[i].A l[i].B=true) (h2: (jt l[i].cR&&jt l[i].bz)=true) (h0:0<i) (h3:¬lZ (l[i-1]'ah) l[i]<0):su l i=12:=by
 unfold su;rw[s4 hi,s4 (show i-1<l.length by omega),if_neg (by rw[h];simp),if_neg (by rw[h2];simp),if_pos ⟨h0,h3⟩]
theorem EH {l:List bC} {i:Nat} (hi:i<l.length) (h:jK l[i].A l[i].B=true) (h2: (jt l[i].cR&&jt l[i].bz)=true) (h3:∀h0:0<i,lZ (l[i-1]'ah) l[i]<0):su l i=0:=by
 unfold su;rw[s4 hi,s4 (show i-1<l.length by omega),if_neg (by rw[h];simp),if_neg (by rw[h2];simp),if_neg (λe=>e.2 (h3 e.1))]
theorem Ru {l:List bC} {i:Nat} (hi:i<l.length) (h:su l i=0):uj l[i]/\∀h0:0<i,lZ (l[i-1]'ah) l[i]<0:=by
 unfold su at h;rw[s4 hi,s4 (show i-1<l.length by omega)] at h;split at h
 ·exact absurd h ai
 ·rename_i h1;split at h
  ·exact absurd h ai
  ·rename_i h2;split at h
   ·exact absurd h ai
   ·rename_i h3;have Aw: (jt l[i].cR&&jt l[i].bz)=true:=by simpa using h2
    rw[Bool.and_eq_true] at Aw;exact⟨⟨by simpa using h1,Aw.1,Aw.2⟩,λh0=>Classical.byContradiction λhn=>h3 ⟨h0,hn⟩⟩
theorem Lv {l:List bC} (h:jY l=0):l.length<=4096/\(∀i (hi:i<l.length),uj l[i])/\∀i (hi:i+1<l.length),lZ l[i] l[i+1]<0:=by
 unfold jY at h;split at h
 ·exact absurd h ai
 ·have hz:=Rm h;refine⟨by omega,λi hi=>(Ru hi (hz i hi)).1,λi hi=>(Ru hi (hz (i+1) hi)).2 ah⟩
def Rv (pr:Int) (eD df:List Int):Prop:=eD.length<1\/5<eD.length\/df.length≠eD.length\/¬Ln pr
instance (pr:Int) (eD df:List Int):Decidable (Rv pr eD df):=by unfold Rv;infer_instance
open Classical in
def Rw (lo hh:Int):Prop:=hh<1\/65536<hh\/lo< -65536\/hh<lo
instance (lo hh:Int):Decidable (Rw lo hh):=by unfold Rw;infer_instance
open Classical in
section
variable {CU:Int} {sh:List qB} {ds:List bC} {pr:Int} {eD df:List Int} {lo hh p:Int} {A B:ak} {age ze:Int} {si:List ByteArray} {agf xC:Int} {sj:List ByteArray} {fl Rl:List Int} {e e':Int}
end
section
variable {P:Program} {N:Nat} {env:Env} {x y:Operand} {t u:TypeId} {a b:Bool} {w:World}
theorem Y1 (ht:P.underlying t=some .bool) (op:BinOp) (a b:Bool): (eqGuard op t x y (.bool a) (.bool b)).run P w=.ok () w:=by
 have h8: (Op.eqGuardIn Op.maxDepth t (.bool a) (.bool b)).run P w=.ok false w:=by
  rw[show Op.maxDepth=(Op.maxDepth-1)+1 from rfl,Op.eqGuardIn];simp[run_underlying ht]
 unfold eqGuard;cases op<;>simp[Sem.run_bind,Sem.run_pure,Sem.run_ite,run_program,Result.andThen_ok,h8]<;>(cases P.eqGuardType P.depth t<;>simp[h8])
theorem EI (ht:P.underlying t=some .bool) (hx:ev env x=some (.bool a)) (hy:ev env y=some (.bool b)):cZ P N env (.binOp .neq t x y u) w (.bool (decide (a≠b))):=mk' λρ hρ o ho=>by
 have h7: (Op.equal t (.bool a) (.bool b)).run P w=.ok (a==b) w:=Go.run_equal_bool w t a b ht;have jd: (binOp .neq t (.bool a) (.bool b)).run P w=.ok (.bool (decide (a≠b))) w:=by
  show(Op.equal t (.bool a) (.bool b)>>=λz=>pure (Value.bool (!z))).run P w=_;rw[Sem.run_bind,h7];cases a<;>cases b<;>rfl
 unfold execOp;rw[ho];simp only[hρ _ _ hx,hρ _ _ hy];simp[Sem.run_bind,Y1 ht,jd]
end
section
variable {dy β:Type} [DecidableEq dy] {kv:dy->Value} {dw:β->Value} {m:List (dy×β)} {w:World} {C:Nat->Nat} {j b:Nat}
variable {P:Program} {N:Nat} {env:Env} {x y z:Operand} {t kt et:TypeId}
end
section
variable {α:Type} [aZ α] {w:World} {C:Nat->Nat} {j:Nat} {xs:List α} {v:Value} {e:TypeId} {g i off k:Nat}
variable {P:Program} {N:Nat} {env:Env} {y z:Operand} {t:TypeId} {u:Value} {us:List Value}
theorem Y2 {cs:List Value} {p s:Nat} (hp:p+s<=cs.length) (hl:us.length=k) (ho:off+k<=s):
  dh (cs.take (p+off)++us++cs.drop (p+off+k)).toArray p s=(dh cs.toArray p s).take off++us++(dh cs.toArray p s).drop (off+k):=by
 have l1: (cs.take (p+off)).length=p+off:=by rw[List.length_take];omega
 have l2: (dh cs.toArray p s).length=s:=by simp only[dh,List.length_take,List.length_drop];omega
 have hA:∀m,m<s->(dh cs.toArray p s)[m]?=cs[p+m]?:=λm hm=>by simp only[dh,List.getElem?_take,List.getElem?_drop,if_pos hm]
 generalize agh:dh cs.toArray p s=A at*;have l3: (A.take off).length=off:=by rw[List.length_take];omega
 apply List.ext_getElem?;intro m;simp only[dh,List.getElem?_take,List.getElem?_drop];by_cases h3:m<s
 ·rw[if_pos h3];by_cases h1:m<off
  ·rw[List.append_assoc,List.append_assoc,List.getElem?_append_left ah,List.getElem?_append_left ah,List.getElem?_take,if_pos ah,List.getElem?_take,if_pos h1,hA m h3]
  ·by_cases h2:m<off+k
   ·rw[List.append_assoc,List.append_assoc,List.getElem?_append_right ah,List.getElem?_append_right (l₁:=A.take off) ah,List.getElem?_append_left ah,List.getElem?_append_left ah];congr 1;omega
   ·rw[List.getElem?_append_right (by rw[List.length_append];omega),List.getElem?_append_right (l₁:=A.take off++us) (by rw[List.length_append];omega),List.getElem?_drop,List.getElem?_drop,List.length_append,List.length_append,l1,l3,hl,hA _ ah];congr 1;omega
 ·rw[if_neg h3,List.getElem?_eq_none];simp only[List.length_append,List.length_drop];omega
theorem Lx {x0:α} (h:bg w C j e v xs) (hg:c9 v g) (hi:i<xs.length) (hy:ev env y=some (.pointer (some ⟨g,i*sz α+off,none⟩))) (hz:ev env z=some u) (hs:gX P t=some k)
  (hv:u.cells=us.toArray) (hl:us.length=k) (h1:∀u∈us,u.oneCell'=true) (ho:off+k<=sz α)
  (hr:∀vs,rep w.heap (au C) xs[i] vs->rep w.heap (au C) x0 (vs.take off++us++vs.drop (off+k))):
  ig P N env (.store t y z) w (λu' w'=>u'=undef/\ax [j] w C w' C/\bg w' C j e v (xs.set i x0)):=λa ha fN ij=>by
 obtain⟨g',cap,cs,rfl,kr,iD,hc,hcap,h2,h3⟩:=h.vD ah;simp only[c9,Value.ownBlock,Option.some.injEq] at hg;subst hg;have hb: (i+1)*sz α<=cap*sz α:=Nat.mul_le_mul_right _ ah;rw[Nat.succ_mul] at hb;obtain⟨u',w',k1,k2,Ay⟩:=GY (P:=P) (N:=N) (cs:=cs.toList) (n:=k) (vs:=us) hy hz hs hv hl h1 (by simpa using hc) (by simp only[Array.length_toList];omega) a ha fN ij;have hst:ax [j] w C w' C:=⟨Ay.ext.mono (λb _ hb=>by rw[show b=g' from hb,kr];simp),λ_ _=>rfl⟩
 have keep:∀{x:α} {vs:List Value},rep w.heap (au C) x vs->rep w'.heap (au C) x vs:=λhr=>aZ.keep hr (λb hb hn=>Ay.ext.block b hb (λe=>hn (by rw[show b=g' from e];exact iD)));refine⟨u',w',k1,k2,hst,⟨.inr ⟨g',cap,_,by rw[List.length_set],iD,Ay.at_,by rw[List.length_set];exact hcap,?_,λq hk=>?_⟩,h.col⟩⟩
 ·simp only[List.size_toArray,List.length_append,List.length_take,List.length_drop,Array.length_toList,hl];omega
 ·rw[List.length_set] at hk;rw[List.getElem_set];split
  ·rename_i hik;subst hik;rw[Y2 (by simp only[Array.length_toList];omega) hl ho];exact keep (hr _ (by simpa using h3 i hi))
  ·rename_i hik;have:dh (cs.toList.take (i*sz α+off)++us++cs.toList.drop (i*sz α+off+k)).toArray (q*sz α) (sz α)=dh cs (q*sz α) (sz α):=rY (λm hm=>by
    rw[show∀(l:List Value) (p:Nat),l.toArray[p]?=l[p]? from λl p=>by simp,<-Array.getElem?_toList];rcases Nat.lt_or_ge q i with hlt|hge
    ·have:=Nat.mul_le_mul_right (sz α) (show q+1<=i from hlt);rw[Nat.succ_mul] at this;rw[List.append_assoc,List.getElem?_append_left (by simp only[List.length_take,Array.length_toList];omega),List.getElem?_take,if_pos ah]
    ·have:=Nat.mul_le_mul_right (sz α) (show i+1<=q by omega);rw[Nat.succ_mul] at this;rw[List.getElem?_append_right (by simp only[List.length_append,List.length_take,Array.length_toList,hl];omega),List.getElem?_drop];congr 1;simp only[List.length_append,List.length_take,Array.length_toList,hl];omega)
   rw[this];exact keep (h3 q hk)
end
section
variable {P:Program} {t aY ti:TypeId} {n0 n1 n2 p6 p7 Ly p8 p9 Lz:String} {e0 e1 e2:Bool} {y0 y1 LA:Nat} {N:Nat} {env:Env} {x y:Operand} {u:TypeId} {w:World}
theorem Y3 (h:P.underlying t=some (.struct #[⟨n0,aY,0,e0,p6,p8,y0⟩,⟨n1,aY,2,e1,p7,p9,y1⟩,⟨n2,ti,4,e2,Ly,Lz,LA⟩])) (h0:n0≠"_") (h1:n1≠"_") (h2:n2≠"_") (hS:P.stoodInHeld t=false)
  (hE:xl P aY dH) (hi:P.underlying ti=some (.int .i64)) (ha:gM P aY=some true) (hs:gX P aY=some 2) (a b:aD):
  (Op.equalIn 10000 t (.agg (iH a).toArray) (.agg (iH b).toArray)).run P w=.ok (decide (a=b)) w:=by
 have hf:P.fieldsOf t=#[⟨n0,aY,0,e0,p6,p8,y0⟩,⟨n1,aY,2,e1,p7,p9,y1⟩,⟨n2,ti,4,e2,Ly,Lz,LA⟩]:=by simp[Program.fieldsOf,h]
 have nh:∀c:aD,(part aY (iH c).toArray 0).run P w=.ok (dH c.A) w:=λc=>by
  unfold part;simp only[Sem.run_bind,tQ ha,Result.andThen_ok,if_true,nc hs,Sem.run_pure];rfl
 have p1:∀c:aD,(part aY (iH c).toArray 2).run P w=.ok (dH c.B) w:=λc=>by
  unfold part;simp only[Sem.run_bind,tQ ha,Result.andThen_ok,if_true,nc hs,Sem.run_pure];rfl
 have p2:∀c:aD,(part ti (iH c).toArray 4).run P w=.ok (.int .i64 c.w) w:=λc=>run_part_plain w (by simp[Program.plainKey,hi]) rfl;have he:∀a b:ak,(Op.equalIn 9999 aY (dH a) (dH b)).run P w=.ok (decide (a=b)) w:=λ(a b:ak)=>hE 9991 a b w;have hn:∀x y:Int,(Op.equalIn 9999 ti (.int .i64 x) (.int .i64 y)).run P w=.ok (x==y) w:=λ(x y:Int)=>run_equalIn_int (P:=P) w 9998 ti .i64 .i64 x y hi;rw[show(10000:Nat)=9999+1 from rfl,run_equalIn_struct w 9999 t _ _ (by rw[hf];exact h) hS,hf];have hd: (decide (a=b))=((decide (a.A=b.A)&&decide (a.B=b.B))&&(a.w==b.w)):=by
  cases a;cases b;simp only[aD.mk.injEq,Bool.decide_and,Bool.and_assoc];rfl
 simp only[Op.eqFields,Sem.run_bind,Sem.run_ite,h0,h1,h2,ne_eq,not_false_eq_true,if_true,nh,p1,p2,Result.andThen_ok,hd,he,hn];cases decide (a.A=b.A)<;>cases decide (a.B=b.B)<;>cases (a.w==b.w)<;>simp[nh,p1,p2,he,hn]
theorem Rx (h:P.underlying t=some (.struct #[⟨n0,aY,0,e0,p6,p8,y0⟩,⟨n1,aY,2,e1,p7,p9,y1⟩,⟨n2,ti,4,e2,Ly,Lz,LA⟩])) (h0:n0≠"_") (h1:n1≠"_") (h2:n2≠"_") (hS:P.stoodInHeld t=false)
  (hE:xl P aY dH) (hi:P.underlying ti=some (.int .i64)) (ha:gM P aY=some true) (hs:gX P aY=some 2) (hg:P.eqGuardType P.depth t=false) {a b:aD} (hx:ev env x=some (.agg (iH a).toArray)) (hy:ev env y=some (.agg (iH b).toArray)):
  cZ P N env (.binOp .neq t x y u) w (.bool (decide (a≠b))):=mk' λρ hρ o ho=>by
 unfold execOp;rw[ho];simp only[hρ _ _ hx,hρ _ _ hy,Sem.run_bind,run_eqGuard_agg _ _ _ _ _ _ _ hg,Result.andThen_ok,run_neq_struct,Y3 h h0 h1 h2 hS hE hi ha hs,Sem.run_pure];simp
end
def jw (ds:List bC) (a b:ak):Bool:=ds.any λd=>!d.same&&decide (d.A=a/\d.B=b)
def eU (ds:List bC) (a b:ak):Bool:=decide (a.a=b.a)||jw ds a b||jw ds b a
theorem Ry (ds:List bC) (a b:ak):eU ds a b=eU ds b a:=by
 unfold eU;rw[show decide (a.a=b.a)=decide (b.a=a.a) from decide_eq_decide.2 ⟨Eq.symm,Eq.symm⟩,Bool.or_assoc,Bool.or_assoc,Bool.or_comm (jw ds a b)]
theorem Y4 (ds:List bC) (a:ak):eU ds a a=true:=by unfold eU;simp
def jh (l:List aD) (s:List ak):List aD:=l.filter λx=>decide (x.A∈s/\x.B∈s)
theorem Y5 {l:List aD} {s s':List ak} (h:∀r,r∈s↔r∈s'):jh l s=jh l s':=by
 unfold jh;refine List.filter_congr λx _=>?_;rw[decide_eq_decide,h,h]
def rC (l:List aD) (s:List ak):Prop:=∀x∈s,∀y∈s,b8 (jh l s) x=b8 (jh l s) y
theorem rC.congr {l:List aD} {s s':List ak} (h:∀r,r∈s↔r∈s') (hj:rC l s):rC l s':=λx hx y hy=>by
 rw[<-Y5 (l:=l) h];exact hj x ((h x).2 hx) y ((h y).2 hy)
def k4 (l:List aD) (s:List ak):Bool:=s.all λx=>decide (b8 (jh l s) x=b8 (jh l s) (s.headD ⟨0,0⟩))
theorem LB {l:List aD} {s:List ak}:k4 l s=true↔rC l s:=by
 unfold k4 rC;rw[List.all_eq_true];constructor
 ·intro h x hx y hy;have h1:=of_decide_eq_true (h x hx);have h2:=of_decide_eq_true (h y hy);rw[h1,h2]
 ·intro h x hx;rw[decide_eq_true_eq];refine h x hx _ ?_;cases s with
  |nil=>simp at hx
  |cons a s=>simp
def s9 (x:aD) (p:List ak):Bool:=decide (x.A∈p/\x.B∈p)
def e9 (l:List aD) (ps:List (List ak)):Int:=((l.filter λx=>ps.any (s9 x)).map (·.w)).sum
def gQ (sets:List (List ak)):List (List ak):=sets.filter λs=>decide (2<=s.length)
def oy (ds:List bC) (s:List ak) (r:ak):Bool:=!(s.any λb=>eU ds b r)
def pg (ds:List bC):List ak->List (List ak)->List (List (List ak))
 |[],sets=>[sets]
 |r::rs,sets=>((List.range sets.length).flatMap λk=>if oy ds (sets.getD k []) r then pg ds rs (sets.set k (sets.getD k []++[r])) else[])++pg ds rs (sets++[[r]])
structure iW where
 found:Bool
 best:List (List ak)
 val:Int
def oA (l:List aD) (sets:List (List ak)):Bool:=(gQ sets).all (k4 l)
def nj (l:List aD) (st:iW) (sets:List (List ak)):iW:=
 if oA l sets=true/\(st.found=false\/st.val<e9 l (gQ sets)) then⟨true,gQ sets,e9 l (gQ sets)⟩ else st
def sw (l:List aD) (ds:List bC) (rs:List ak) (sets:List (List ak)) (st:iW):iW:=(pg ds rs sets).foldl (nj l) st
def rE:iW:=⟨false,[],0⟩
def qg (l:List aD) (ds:List bC):List (List ak):=(sw l ds (aO l) [] rE).best
def rF (l:List aD) (ds:List bC) (r:ak) (rs:List ak) (sets:List (List ak)) (st:iW):Nat->iW
 |0=>st
 |k+1=>if oy ds (sets.getD k []) r then sw l ds rs (sets.set k (sets.getD k []++[r])) (rF l ds r rs sets st k) else rF l ds r rs sets st k
theorem Rz (l:List aD) (ds:List bC) (r:ak) (rs:List ak) (sets:List (List ak)) (st:iW):∀k,rF l ds r rs sets st k=((List.range k).flatMap λk=>if oy ds (sets.getD k []) r then pg ds rs (sets.set k (sets.getD k []++[r])) else[]).foldl (nj l) st
 |0=>rfl
 |k+1=>by
  rw[List.range_succ,List.flatMap_append,List.foldl_append,<-Rz l ds r rs sets st k,rF];simp only[List.flatMap_cons,List.flatMap_nil,List.append_nil];split
  ·rfl
  ·rfl
theorem Y6 (l:List aD) (ds:List bC) (r:ak) (rs:List ak) (sets:List (List ak)) (st:iW):sw l ds (r::rs) sets st=sw l ds rs (sets++[[r]]) (rF l ds r rs sets st sets.length):=by
 unfold sw;rw[pg,List.foldl_append,<-Rz]
theorem Y7 (l:List aD) (ds:List bC) (sets:List (List ak)) (st:iW):sw l ds [] sets st=nj l st sets:=rfl
section
variable {l:List aD} {ds:List bC} {rs xs:List ak} {sets out:List (List ak)} {st:iW}
structure kN (ds:List bC) (xs:List ak) (sets:List (List ak)):Prop where
 perm:sets.flatten.Perm xs
 ne:∀s∈sets,s≠[]
 sub:∀s∈sets,s.Sublist xs
 bar:∀s∈sets,s.Pairwise λa b=>eU ds a b=false
 heads: (sets.map λs=>s.headD ⟨0,0⟩).Sublist xs
theorem kN.nil:kN ds [] []:=⟨List.Perm.refl _,by simp,by simp,by simp,by simp⟩
theorem RC:∀{sets:List (List ak)} {k:Nat} {r:ak},k<sets.length->(sets.set k (sets.getD k []++[r])).flatten.Perm (sets.flatten++[r])
 |[],k,r,h=>by simp at h
 |s::ss,0,r,_=>by
  simp only[List.set_cons_zero,List.getD_cons_zero,List.flatten_cons,List.append_assoc];exact List.Perm.append_left s (List.perm_append_comm)
 |s::ss,k+1,r,h=>by
  simp only[List.set_cons_succ,List.getD_cons_succ,List.flatten_cons,List.append_assoc];exact List.Perm.append_left s (RC (by simpa using h))
theorem RD {s:List ak} {r:ak}:oy ds s r=true↔∀b∈s,eU ds b r=false:=by
 unfold oy;rw[Bool.not_eq_true',List.any_eq_false];exact⟨λh b hb=>by simpa using h b hb,λh b hb=>by rw[h b hb];decide⟩
theorem kN.put (h:kN ds xs sets) {k:Nat} {r:ak} (hk:k<sets.length) (hok:oy ds (sets.getD k []) r=true):kN ds (xs++[r]) (sets.set k (sets.getD k []++[r])):=by
 have hm:sets.getD k []∈sets:=by rw[qe hk];exact List.getElem_mem _
 have hin:∀s∈sets.set k (sets.getD k []++[r]),s∈sets\/s=sets.getD k []++[r]:=λs hs=>by
  rcases List.mem_or_eq_of_mem_set hs with h|h
  ·exact .inl h
  ·exact .inr h
 refine⟨(RC hk).trans (h.perm.append_right _),λs hs=>?_,λs hs=>?_,λs hs=>?_,?_⟩
 ·rcases hin s hs with h1|rfl
  ·exact h.ne s h1
  ·simp
 ·rcases hin s hs with h1|rfl
  ·exact(h.sub s h1).trans (List.sublist_append_left _ _)
  ·exact(h.sub _ hm).append (List.Sublist.refl _)
 ·rcases hin s hs with h1|rfl
  ·exact h.bar s h1
  ·refine List.pairwise_append.2 ⟨h.bar _ hm,List.pairwise_singleton _ _,λa ha b hb=>?_⟩;rw[List.mem_singleton] at hb;subst hb;exact RD.1 hok a ha
 ·have e: ((sets.set k (sets.getD k []++[r])).map λs=>s.headD ⟨0,0⟩)=sets.map λs=>s.headD ⟨0,0⟩:=by
   apply List.ext_getElem?;intro i;rw[List.getElem?_map,List.getElem?_map,List.getElem?_set];by_cases e:k=i
   ·subst e;rw[if_pos rfl,if_pos hk,List.getElem?_eq_getElem hk];have hne:=h.ne _ hm;rw[qe hk] at hne⊢;cases e2:sets[k] with
    |nil=>exact absurd e2 hne
    |cons a t=>simp
   ·rw[if_neg e]
  rw[e];exact h.heads.trans (List.sublist_append_left _ _)
theorem kN.new (h:kN ds xs sets) (r:ak):kN ds (xs++[r]) (sets++[[r]]):=by
 have hin:∀s∈sets++[[r]],s∈sets\/s=[r]:=λs hs=>by
  rcases List.mem_append.1 hs with h|h
  ·exact .inl h
  ·exact .inr (List.mem_singleton.1 h)
 refine⟨by rw[List.flatten_append];simpa using h.perm.append_right [r],λs hs=>?_,λs hs=>?_,λs hs=>?_,?_⟩
 ·rcases hin s hs with h1|rfl
  ·exact h.ne s h1
  ·simp
 ·rcases hin s hs with h1|rfl
  ·exact(h.sub s h1).trans (List.sublist_append_left _ _)
  ·exact List.sublist_append_right _ _
 ·rcases hin s hs with h1|rfl
  ·exact h.bar s h1
  ·exact List.pairwise_singleton _ _
 ·rw[List.map_append];exact h.heads.append (List.Sublist.refl _)
theorem EJ:∀{rs xs:List ak} {sets:List (List ak)},kN ds xs sets->∀out∈pg ds rs sets,kN ds (xs++rs) out
 |[],xs,sets,h,out,ho=>by
  rw[pg,List.mem_singleton] at ho;subst ho;rw[List.append_nil];exact h
 |r::rs,xs,sets,h,out,ho=>by
  rw[pg,List.mem_append,List.mem_flatMap] at ho;have e:xs++r::rs=(xs++[r])++rs:=by simp
  rw[e];rcases ho with⟨k,hk,ho⟩|ho
  ·split at ho
   ·rename_i hok;exact EJ (h.put (List.mem_range.1 hk) hok) out ho
   ·simp at ho
  ·exact EJ (h.new r) out ho
theorem Y8 {sets:List (List ak)} {i:Nat} {r:ak} (h:i<sets.length):sets.modify i (·++[r])=sets.set i (sets.getD i []++[r]):=by
 apply List.ext_getElem?;intro j;rw[List.getElem?_modify,List.getElem?_set,qe h];by_cases e:i=j
 ·subst e;simp[h]
 ·simp[e]
theorem LC {dy:Type} [DecidableEq dy] (f:ak->dy):∀(rs xs:List ak),(∀a∈xs++rs,∀b∈xs++rs,a≠b->f a=f b->eU ds a b=false)->(xs++rs).Nodup->iK f (xs++rs)∈pg ds rs (iK f xs)
 |[],xs,_,_=>by rw[List.append_nil,pg,List.mem_singleton]
 |r::rs,xs,hb,hn=>by
  have e:xs++r::rs=(xs++[r])++rs:=by simp
  rw[e] at hb hn⊢;have ih:=LC f rs (xs++[r]) hb hn;rw[pg,List.mem_append,List.mem_flatMap];by_cases hq:∃q∈eC f xs,f q=f r
  ·obtain⟨q,hq,HU⟩:=hq;obtain⟨i,hi,rfl⟩:=List.getElem_of_mem hq;left;refine⟨i,List.mem_range.2 (by rw[nQ];exact hi),?_⟩;have hlt:i<(iK f xs).length:=by rw[nQ];exact hi
   rw[if_pos]
   ·have h2:=QL (xs:=xs) (r:=r) hi HU;rw[h2.2,Y8 hlt] at ih;exact ih
   ·rw[RD];intro b HV;rw[qe hlt,Ev hlt,List.mem_filter,decide_eq_true_eq] at HV;refine hb b (by simp[HV.1]) r aF (λe=>?_) (by rw[HV.2,HU]);subst e;have:=(List.nodup_append.1 (List.nodup_append.1 hn).1).2.2 b HV.1 b aF;exact this rfl
  ·right;have h2:=QM (xs:=xs) (r:=r) (f:=f) (λq Y9 e=>hq ⟨q,Y9,e⟩);rw[h2.2] at ih;exact ih
end
section
variable {l:List aD} {ds:List bC} {rs xs:List ak} {sets out ps:List (List ak)} {st:iW}
structure Good (l:List aD) (L:List (List (List ak))) (st:iW):Prop where
 no:st.found=false->∀s∈L,oA l s=false
 yes:st.found=true->(∃s∈L,oA l s=true/\st.best=gQ s/\st.val=e9 l (gQ s))/\∀s∈L,oA l s=true->e9 l (gQ s)<=st.val
theorem Good.step {L:List (List (List ak))} (h:Good l L st) (s:List (List ak)):Good l (L++[s]) (nj l st s):=by
 unfold nj;by_cases hc:oA l s=true/\(st.found=false\/st.val<e9 l (gQ s))
 ·rw[if_pos hc];refine⟨λe=>(by cases e),λ_=>⟨⟨s,by simp,hc.1,rfl,rfl⟩,λs' hs' hf=>?_⟩⟩;rcases List.mem_append.1 hs' with h1|h1
  ·show e9 l (gQ s')<=e9 l (gQ s);cases e:st.found with
   |false=>rw[h.no e s' h1] at hf;cases hf
   |true=>
    have h2:=(h.yes e).2 s' h1 hf;have h3:=hc.2.resolve_left (by rw[e];decide);omega
  ·rw[List.mem_singleton] at h1;subst h1;exact Int.le_refl _
 ·rw[if_neg hc];refine⟨λe s' hs'=>?_,λe=>⟨?_,λs' hs' hf=>?_⟩⟩
  ·rcases List.mem_append.1 hs' with h1|h1
   ·exact h.no e s' h1
   ·rw[List.mem_singleton] at h1;subst h1;rw[Bool.eq_false_iff];intro hf;exact hc ⟨hf,.inl e⟩
  ·obtain⟨⟨q,h1,h2⟩,_⟩:=h.yes e;exact⟨q,by simp[h1],h2⟩
  ·rcases List.mem_append.1 hs' with h1|h1
   ·exact(h.yes e).2 s' h1 hf
   ·rw[List.mem_singleton] at h1;subst h1;apply Classical.byContradiction;intro hn;exact hc ⟨hf,.inr ah⟩
theorem Good.fold {zh:List (List (List ak))}:∀(L:List (List (List ak))) {st:iW} {zh:List (List (List ak))},Good l zh st->Good l (zh++L) (L.foldl (nj l) st)
 |[],st,zh,h=>by rw[List.append_nil];exact h
 |s::L,st,zh,h=>by
  have:=Good.fold (zh:=zh) L (h.step s);rw[List.append_assoc] at this;exact this
theorem Good.start:Good l [] rE:=⟨λ_ s h=>by simp at h,λe=>by cases e⟩
theorem Y_ (f:ak->ak) (hf:∀a b,f a=f b->a=b) (hn:xs.Nodup):gQ (iK f xs)=[]:=by
 unfold gQ;rw[List.filter_eq_nil_iff];intro s hs;obtain⟨i,hi,rfl⟩:=List.getElem_of_mem hs;rw[Ev hi];simp only[decide_eq_true_eq];intro h2;have jv:=hn.sublist (List.filter_sublist (p:=λr=>decide (f r=f ((eC f xs)[i]'(by rwa [nQ] at hi)))));generalize hL:List.filter (λr=>decide (f r=f ((eC f xs)[i]'(by rwa [nQ] at hi)))) xs=L at*;have h0:L[0]∈L:=List.getElem_mem _;have h1:L[1]∈L:=List.getElem_mem _;have e0:f L[0]=f L[1]:=by
  have a:∀z∈L,f z=f ((eC f xs)[i]'(by rwa [nQ] at hi)):=λz hz=>by
   rw[<-hL,List.mem_filter] at hz;exact of_decide_eq_true hz.2
  rw[a _ h0,a _ h1]
 have:=List.pairwise_iff_getElem.1 (List.nodup_iff_pairwise_ne.1 jv) 0 1 ah ah ah;exact this (hf _ _ e0)
theorem Za (l:List aD) (ds:List bC):∃s,kN ds (aO l) s/\oA l s=true/\qg l ds=gQ s/\
  (sw l ds (aO l) [] rE).val=e9 l (qg l ds)/\
  ∀{dy:Type} [DecidableEq dy] (f:ak->dy),(∀a∈aO l,∀b∈aO l,a≠b->f a=f b->eU ds a b=false)->oA l (iK f (aO l))=true->e9 l (gQ (iK f (aO l)))<=e9 l (qg l ds):=by
 have jZ:Good l (pg ds (aO l) []) (sw l ds (aO l) [] rE):=by
  have:=Good.fold (zh:=[]) (pg ds (aO l) []) (Good.start (l:=l));exact this
 have hn:=vI l;have hid:iK (id:ak->ak) (aO l)∈pg ds (aO l) []:=by
  have:=LC (ds:=ds) (id:ak->ak) (aO l) [] (λa _ b _ hne e=>absurd e hne) (by simpa using hn);exact this
 have iy:oA l (iK (id:ak->ak) (aO l))=true:=by
  unfold oA;rw[Y_ id (λa b e=>e) hn];rfl
 have hfound: (sw l ds (aO l) [] rE).found=true:=by
  cases e: (sw l ds (aO l) [] rE).found with
  |true=>rfl
  |false=>have:=jZ.no e _ hid;rw[iy] at this;cases this
 obtain⟨⟨s,h1,h2,h3,h4⟩,h5⟩:=jZ.yes hfound;refine⟨s,by have:=EJ kN.nil s h1;simpa using this,h2,h3,by rw[h4];unfold qg;rw[h3],λf hb qD=>?_⟩;have:=LC (ds:=ds) f (aO l) [] (by simpa using hb) (by simpa using hn);have h6:=h5 _ this qD;rw[h4] at h6;unfold qg;rw[h3];exact h6
theorem Zb {s:List ak} {a b:ak} (ha:a∈s) (hb:b∈s) (hne:a≠b):2<=s.length:=by
 rcases s with _|⟨x,_|⟨y,t⟩⟩
 ·simp at ha
 ·simp at ha hb;subst ha;exact absurd hb.symm hne
 ·simp
structure eG (l:List aD) (ds:List bC) (ps:List (List ak)):Prop where
 kz:∀p∈ps,p.Pairwise er
 len:∀p∈ps,2<=p.length
 bar:∀p∈ps,p.Pairwise λa b=>eU ds a b=false
 join:∀p∈ps,rC l p
 vP:ps.flatten.Nodup
 heads:ps.Pairwise λp q=>er (p.headD ⟨0,0⟩) (q.headD ⟨0,0⟩)
theorem RE {s:List ak} (h:rC l s) (h2:2<=s.length) (hn:s.Nodup) {r:ak} (hr:r∈s):r∈aO l:=by
 apply Classical.byContradiction;intro hno;have RF:r∉aO (jh l s):=λhm=>by
  obtain⟨x,hx,e⟩:=jB.1 hm;exact hno (jB.2 ⟨x,(List.mem_filter.1 hx).1,e⟩)
 obtain⟨q,hq,hne⟩:∃q∈s,q≠r:=by
  have h0:=List.getElem_mem (l:=s) (n:=0) ah;have h1:=List.getElem_mem (l:=s) (n:=1) ah;have hne:=List.pairwise_iff_getElem.1 (List.nodup_iff_pairwise_ne.1 hn) 0 1 ah ah ah;by_cases e:s[0]=r
  ·exact⟨_,h1,λe2=>hne (by rw[e,e2])⟩
  ·exact⟨_,h0,e⟩
 have e1:=h q hq r hr;rw[QJ RF] at e1;by_cases mC:q∈aO (jh l s)
 ·have:=QI.2 mC;rw[e1] at this;exact RF this
 ·rw[QJ mC] at e1;exact hne e1
theorem eG.nodup (h:eG l ds ps) {p:List ak} (hp:p∈ps):p.Nodup:=AF (h.kz p hp)
theorem eG.refs (h:eG l ds ps) {p:List ak} (hp:p∈ps) {r:ak} (hr:r∈p):r∈aO l:=RE (h.join p hp) (h.len p hp) (h.nodup hp) hr
theorem Zc {x:aD} (h:okB x):x.A≠x.B:=λe=>by
 have:=h.1;unfold jK at this;rw[e] at this;simp at this
end
section
variable {l:List aD} {ds:List bC} {ps E:List (List ak)}
theorem EK {α:Type}:∀{a b:List (List α)},a.Sublist b->a.flatten.Sublist b.flatten
 |_,_,.slnil=>List.Sublist.refl _
 |_,_,.cons x h=>by rw[List.flatten_cons];exact(EK h).trans (List.sublist_append_right _ _)
 |_,_,.cons_cons x h=>by rw[List.flatten_cons,List.flatten_cons];exact(List.Sublist.refl _).append (EK h)
theorem RG (l:List aD) (ds:List bC):eG l ds (qg l ds):=by
 obtain⟨s,hI,hf,he,_,_⟩:=Za l ds;rw[he];have hsub: (gQ s).Sublist s:=List.filter_sublist;have hm:∀p∈gQ s,p∈s/\2<=p.length:=λp hp=>by
  have:=List.mem_filter.1 hp;exact⟨this.1,of_decide_eq_true this.2⟩
 refine⟨λp hp=>(xu l).sublist (hI.sub p (hm p hp).1),λp hp=>(hm p hp).2,λp hp=>hI.bar p (hm p hp).1,λp hp=>?_,?_,?_⟩
 ·exact LB.1 (List.all_eq_true.1 hf p hp)
 ·exact(hI.perm.nodup_iff.2 (vI l)).sublist (EK hsub)
 ·have h1: (s.map λp=>p.headD ⟨0,0⟩).Pairwise er:=(xu l).sublist hI.heads;rw[List.pairwise_map] at h1;exact h1.sublist hsub
theorem AY {i:Nat} (h:i<(aP l).length):i<(eC (b8 l) (aO l)).length:=by simpa[aP] using h
theorem RH {i:Nat} (h:i<(aP l).length):i<(dM l).length:=by unfold dM;rw[nQ];exact AY h
theorem ta {i:Nat} (h:i<(aP l).length) {r:ak}:r∈aO (aP l)[i]↔r∈aO l/\b8 l r=b8 l ((eC (b8 l) (aO l))[i]'(AY h)):=by
 rw[HD h (RH h),Q5 (RH h),List.mem_filter,decide_eq_true_eq]
theorem LD {i:Nat} (h:i<(aP l).length) {x:aD}:x∈(aP l)[i]↔x∈l/\b8 l x.A=b8 l ((eC (b8 l) (aO l))[i]'(AY h)):=by
 rw[EB h,List.mem_filter,decide_eq_true_eq]
theorem LG {i j:Nat} (hi:i<(aP l).length) (hj:j<(aP l).length) {r:ak} (h1:r∈aO (aP l)[i]) (h2:r∈aO (aP l)[j]):i=j:=by
 have a:=(ta hi).1 h1;have b:=(ta hj).1 h2;exact La (AY hi) (AY hj) (by rw[<-a.2,b.2])
theorem Zd {r:ak} (h:r∈aO l):∃i,∃hi:i<(aP l).length,r∈aO (aP l)[i]:=by
 obtain⟨q,hq,e⟩:=K3 (f:=b8 l) h;obtain⟨i,hi,rfl⟩:=List.getElem_of_mem hq;have hi2:i<(aP l).length:=by simpa[aP] using hi
 exact⟨i,hi2,(ta hi2).2 ⟨h,e.symm⟩⟩
theorem RI {l l':List aD} {s:List ak} (h:∀x∈l,x∈l') (hj:rC l s):rC l' s:=λx hx y hy=>
 K1 (l:=jh l s) (l':=jh l' s) (λz hz=>by
  have:=List.mem_filter.1 hz;exact List.mem_filter.2 ⟨h z this.1,this.2⟩) (hj x hx y hy)
theorem Ze {Q:Nat->List (List ak)} (hQ:∀i (h:i<(aP l).length),eG (aP l)[i] ds (Q i)) (hp:E.Perm ((List.range (aP l).length).flatMap Q)) (hs:E.Pairwise λp q=>er (p.headD ⟨0,0⟩) (q.headD ⟨0,0⟩)):
  eG l ds E/\∀i (h:i<(aP l).length),e9 (aP l)[i] E=e9 (aP l)[i] (Q i):=by
 have hm:∀p,p∈E↔∃i,∃h:i<(aP l).length,p∈Q i:=λp=>by
  rw[hp.mem_iff,List.mem_flatMap];exact⟨λ⟨i,h1,h2⟩=>⟨i,List.mem_range.1 h1,h2⟩,λ⟨i,h1,h2⟩=>⟨i,List.mem_range.2 h1,h2⟩⟩
 refine⟨⟨λp hp=>?_,λp hp=>?_,λp hp=>?_,λp hp=>?_,?_,hs⟩,λi h=>?_⟩
 ·obtain⟨i,h,h2⟩:=(hm p).1 hp;exact(hQ i h).kz p h2
 ·obtain⟨i,h,h2⟩:=(hm p).1 hp;exact(hQ i h).len p h2
 ·obtain⟨i,h,h2⟩:=(hm p).1 hp;exact(hQ i h).bar p h2
 ·obtain⟨i,h,h2⟩:=(hm p).1 hp;exact RI (λx hx=>((LD h).1 hx).1) ((hQ i h).join p h2)
 ·rw[hp.flatten.nodup_iff];have key:∀k,k<=(aP l).length->((List.range k).flatMap Q).flatten.Nodup/\∀r∈((List.range k).flatMap Q).flatten,∃i,∃h:i<(aP l).length,i<k/\r∈aO (aP l)[i]:=by
   intro k
   induction k with
   |zero=>intro _;simp
   |succ k ih=>
    intro hk;obtain⟨h1,h2⟩:=ih ah;have aA:k<(aP l).length:=by omega
    have e: ((List.range (k+1)).flatMap Q).flatten=((List.range k).flatMap Q).flatten++(Q k).flatten:=by
     rw[List.range_succ,List.flatMap_append,List.flatten_append];simp
    have hin:∀r∈(Q k).flatten,r∈aO (aP l)[k]:=λr hr=>by
     obtain⟨p,hp,hr⟩:=List.mem_flatten.1 hr;exact(hQ k aA).refs hp hr
    rw[e];refine⟨List.nodup_append.2 ⟨h1,(hQ k aA).vP,λa ha b hb e2=>?_⟩,λr hr=>?_⟩
    ·subst e2;obtain⟨i,hi,hik,h3⟩:=h2 a ha;have:=LG hi aA h3 (hin a hb);omega
    ·rcases List.mem_append.1 hr with h3|h3
     ·obtain⟨i,hi,hik,h4⟩:=h2 r h3;exact⟨i,hi,by omega,h4⟩
     ·exact⟨k,aA,by omega,hin r h3⟩
  exact(key _ (Nat.le_refl _)).1
 ·unfold e9;congr 2;refine List.filter_congr λx hx=>?_;rw[Bool.eq_iff_iff,List.any_eq_true,List.any_eq_true];constructor
  ·rintro⟨p,hp,h2⟩;obtain⟨j,hj,h3⟩:=(hm p).1 hp;have hin:=h2;unfold s9 at hin;rw[decide_eq_true_eq] at hin;have h4:=(hQ j hj).refs h3 hin.1;have h5:x.A∈aO (aP l)[i]:=jB.2 ⟨x,hx,.inl rfl⟩;have:=LG hj h h4 h5;subst this;exact⟨p,h3,h2⟩
  ·rintro⟨p,hp,h2⟩;exact⟨p,(hm p).2 ⟨i,h,hp⟩,h2⟩
end
def iL (x y:aD):Int:=jW y.w x.w
theorem uo:mA iL (λ_=>True):=⟨λx y _ _=>by unfold iL jW;split<;>split<;>(try split)<;>(try split)<;>omega,λx y z _ _ _=>by unfold iL jW;split<;>split<;>(try split)<;>(try split)<;>(try split)<;>omega⟩
def vQ (ds:List bC) (p q:List ak):Bool:=p.any λr=>q.any (eU ds r)
def pn (ds:List bC) (g:ak->List ak) (b:aD):ak->List ak:=
 if b.B∈g b.A\/vQ ds (g b.A) (g b.B)=true then g else λr=>if r∈g b.A++g b.B then g b.A++g b.B else g r
def dW (ds:List bC) (ord:List aD):ak->List ak:=ord.foldl (pn ds) λr=>[r]
def vS (g:ak->List ak) (r:ak):Bool:=decide (1<(jJ (g r)).length/\(jJ (g r)).head?=some r)
def nq (refs:List ak) (g:ak->List ak):List (List ak):=(refs.filter (vS g)).map λr=>jJ (g r)
noncomputable def rG (l:List aD) (ds:List bC):List (List ak):=nq (aO l) (dW ds (s6 iL l))
section
variable {l:List aD} {ds:List bC} {g:ak->List ak} {refs:List ak}
theorem RJ {p q:List ak}:vQ ds p q=false↔∀r∈p,∀o∈q,eU ds r o=false:=by
 unfold vQ;rw[List.any_eq_false];constructor
 ·intro h r hr o ho;have:=h r hr;rw[Bool.not_eq_true,List.any_eq_false] at this;simpa using this o ho
 ·intro h r hr;rw[Bool.not_eq_true,List.any_eq_false];intro o ho;simp[h r hr o ho]
structure jN (l:List aD) (ds:List bC) (g:ak->List ak):Prop where
 self:∀r,r∈g r
 same:∀r,∀q∈g r,g q=g r
 nd:∀r,(g r).Nodup
 bar:∀r,∀a∈g r,∀b∈g r,a≠b->eU ds a b=false
 join:∀r,rC l (g r)
theorem jN.start:jN l ds (λr=>[r]):=
 ⟨λr=>by simp,λr q hq=>by rw[List.mem_singleton.1 hq],λr=>by simp,λr a ha b hb hne=>absurd (by rw[List.mem_singleton.1 ha,List.mem_singleton.1 hb]) hne,λr x hx y hy=>by rw[List.mem_singleton.1 hx,List.mem_singleton.1 hy]⟩
theorem jN.apart (h:jN l ds g) {a b:ak} (hab:b∉g a):∀r∈g a,r∉g b:=λr h1 h2=>by
 have e1:=h.same a r h1;have e2:=h.same b r h2;exact hab (by rw[<-e1,e2];exact h.self b)
theorem jN.step (h:jN l ds g) {b:aD} (hb:b∈l):jN l ds (pn ds g b):=by
 unfold pn;split
 ·exact h
 ·rename_i hn;have h1:b.B∉g b.A:=λe=>hn (.inl e);have h2:vQ ds (g b.A) (g b.B)=false:=Bool.eq_false_iff.2 λe=>hn (.inr e);have hap:=h.apart h1;have hin:∀r q,r∈g b.A++g b.B->(q∈g r->q∈g b.A++g b.B):=λr q hr hq=>by
   rcases List.mem_append.1 hr with h3|h3
   ·rw[h.same _ r h3] at hq;exact List.mem_append.2 (.inl hq)
   ·rw[h.same _ r h3] at hq;exact List.mem_append.2 (.inr hq)
  have hJ:rC l (g b.A++g b.B):=by
   have ka:∀x∈g b.A,∀y∈g b.A,b8 (jh l (g b.A++g b.B)) x=b8 (jh l (g b.A++g b.B)) y:=λx hx y hy=>
    K1 (l:=jh l (g b.A)) (λz hz=>by
     obtain⟨a1,a2⟩:=List.mem_filter.1 hz;rw[decide_eq_true_eq] at a2;exact List.mem_filter.2 ⟨a1,by rw[decide_eq_true_eq];exact⟨List.mem_append.2 (.inl a2.1),List.mem_append.2 (.inl a2.2)⟩⟩) (h.join _ x hx y hy)
   have kb:∀x∈g b.B,∀y∈g b.B,b8 (jh l (g b.A++g b.B)) x=b8 (jh l (g b.A++g b.B)) y:=λx hx y hy=>
    K1 (l:=jh l (g b.B)) (λz hz=>by
     obtain⟨a1,a2⟩:=List.mem_filter.1 hz;rw[decide_eq_true_eq] at a2;exact List.mem_filter.2 ⟨a1,by rw[decide_eq_true_eq];exact⟨List.mem_append.2 (.inr a2.1),List.mem_append.2 (.inr a2.2)⟩⟩) (h.join _ x hx y hy)
   have Zf:b8 (jh l (g b.A++g b.B)) b.A=b8 (jh l (g b.A++g b.B)) b.B:=
    xw (List.mem_filter.2 ⟨hb,by rw[decide_eq_true_eq];exact⟨List.mem_append.2 (.inl (h.self _)),List.mem_append.2 (.inr (h.self _))⟩⟩)
   have all:∀x∈g b.A++g b.B,b8 (jh l (g b.A++g b.B)) x=b8 (jh l (g b.A++g b.B)) b.A:=λx hx=>by
    rcases List.mem_append.1 hx with h3|h3
    ·exact ka x h3 _ (h.self _)
    ·rw[kb x h3 _ (h.self _),Zf]
   exact λx hx y hy=>by rw[all x hx,all y hy]
  refine⟨λr=>?_,λr q hq=>?_,λr=>?_,λr a ha c hc hne=>?_,λr=>?_⟩
  ·show r∈(if r∈g b.A++g b.B then g b.A++g b.B else g r);split
   ·rename_i h3;exact h3
   ·exact h.self r
  ·split at hq
   ·rename_i h3;rw[if_pos hq,if_pos h3]
   ·rename_i h3;have h4:q∉g b.A++g b.B:=λe=>by
     have:=hin q r e (by rw[h.same r q hq];exact h.self r);exact h3 this
    rw[if_neg h3,if_neg h4];exact h.same r q hq
  ·split
   ·exact List.nodup_append.2 ⟨h.nd _,h.nd _,λa ha c hc e=>hap a ha (e▸hc)⟩
   ·exact h.nd r
  ·split at ha
   ·rename_i h3;rw[if_pos h3] at hc;rcases List.mem_append.1 ha with h4|h4
    ·rcases List.mem_append.1 hc with h5|h5
     ·exact h.bar _ a h4 c h5 hne
     ·exact RJ.1 h2 a h4 c h5
    ·rcases List.mem_append.1 hc with h5|h5
     ·rw[Ry];exact RJ.1 h2 c h5 a h4
     ·exact h.bar _ a h4 c h5 hne
   ·rename_i h3;rw[if_neg h3] at hc;exact h.bar r a ha c hc hne
  ·split
   ·exact hJ
   ·exact h.join r
theorem jN.fold:∀(ord:List aD) {g:ak->List ak},jN l ds g->(∀b∈ord,b∈l)->jN l ds (ord.foldl (pn ds) g)
 |[],g,h,_=>h
 |b::ord,g,h,hm=>jN.fold ord (h.step (hm b aF)) λc hc=>hm c (by simp[hc])
theorem lM {s:List ak} {r:ak}:r∈jJ s↔r∈s:=(xq s).mem_iff
theorem HW (s:List ak) (hn:s.Nodup): (jJ s).Pairwise er:=by
 have h1:=Qv s;have h2: (jJ s).Nodup:=(xq s).nodup_iff.2 hn;refine(h1.and (List.nodup_iff_pairwise_ne.1 h2)).imp λ{a b} ⟨h3,h4⟩=>?_;rcases CA a b with h|h|h
 ·exact h
 ·exact absurd h h4
 ·exact absurd h (Hs.1 h3)
theorem jN.out (h:jN l ds g) (hr:refs.Pairwise er):eG l ds (nq refs g):=by
 have hm:∀p∈nq refs g,∃r∈refs,p=jJ (g r)/\1<(jJ (g r)).length/\(jJ (g r)).head?=some r:=λp hp=>by
  obtain⟨r,hr,rfl⟩:=List.mem_map.1 hp;obtain⟨h1,h2⟩:=List.mem_filter.1 hr;exact⟨r,h1,rfl,of_decide_eq_true h2⟩
 have RK:∀r,(jJ (g r)).head?=some r->(jJ (g r)).headD ⟨0,0⟩=r:=λr e=>by rw[List.headD_eq_head?_getD,e];rfl
 refine⟨λp hp=>?_,λp hp=>?_,λp hp=>?_,λp hp=>?_,?_,?_⟩
 ·obtain⟨r,_,rfl,_⟩:=hm p hp;exact HW _ (h.nd r)
 ·obtain⟨r,_,rfl,h2,_⟩:=hm p hp;exact h2
 ·obtain⟨r,_,rfl,_⟩:=hm p hp;exact List.pairwise_iff_getElem.2 λi j hi hj hij=>h.bar r _ (lM.1 (List.getElem_mem _)) _ (lM.1 (List.getElem_mem _)) (λe=>by
   have:=List.pairwise_iff_getElem.1 (HW _ (h.nd r)) i j hi hj hij;rw[e] at this;exact Cz _ this)
 ·obtain⟨r,_,rfl,_⟩:=hm p hp;exact rC.congr (λq=>lM.symm) (h.join r)
 ·have key:∀rs:List ak,rs.Nodup->(∀r∈rs,(jJ (g r)).head?=some r)->(rs.map λr=>jJ (g r)).flatten.Nodup:=by
   intro rs
   induction rs with
   |nil=>intro _ _;simp
   |cons a t ih=>
    intro hn hh;have hn2:=List.nodup_cons.1 hn;rw[List.map_cons,List.flatten_cons];refine List.nodup_append.2 ⟨(xq _).nodup_iff.2 (h.nd a),ih hn2.2 λr hr=>hh r (by simp[hr]),λx hx y hy e=>?_⟩;subst e;obtain⟨p,hp,Zg⟩:=List.mem_flatten.1 hy;obtain⟨r,hr,rfl⟩:=List.mem_map.1 hp;have e1:=h.same a x (lM.1 hx);have e2:=h.same r x (lM.1 Zg);have h3:=hh a aF;have h4:=hh r (by simp[hr]);rw[<-e1,e2,h4] at h3;injection h3 with h3;subst h3;exact hn2.1 hr
  refine key _ ((AF hr).sublist List.filter_sublist) λr hr=>?_;exact(of_decide_eq_true (List.mem_filter.1 hr).2).2
 ·unfold nq;rw[List.pairwise_map];refine List.Pairwise.imp_of_mem ?_ (hr.sublist List.filter_sublist);intro a b ha hb hab;rw[RK a (of_decide_eq_true (List.mem_filter.1 ha).2).2,RK b (of_decide_eq_true (List.mem_filter.1 hb).2).2];exact hab
theorem Zh (l:List aD) (ds:List bC) {ord:List aD} (ho:∀b∈ord,b∈l):eG l ds (nq (aO l) (dW ds ord)):=(jN.fold ord jN.start ho).out (xu l)
end
abbrev xD:ak×ak->Value:=λp=> .agg #[.int .i64 p.1.a,.int .i64 p.1.b,.int .i64 p.2.a,.int .i64 p.2.b]
section
variable {P:Program} {t aY ti:TypeId} {n0 n1 m0 m1 p6 p7 EL EM p8 p9 EN EO:String} {e0 e1 f0 f1:Bool} {y0 y1 x0 x1:Nat}
theorem RL (h:P.underlying aY=some (.struct #[⟨n0,ti,0,e0,p6,p8,y0⟩,⟨n1,ti,1,e1,p7,p9,y1⟩])) (h0:n0≠"_") (h1:n1≠"_") (hS:P.stoodInHeld aY=false)
  (hi:P.underlying ti=some (.int .i64)) (d:Nat) (a b:ak) (w:World): (Op.equalIn (d+2) aY (dH a) (dH b)).run P w=.ok (decide (a=b)) w:=by
 have hpt:=λa b i v w=>Eo (P:=P) hi a b i v w;have hf:P.fieldsOf aY=#[⟨n0,ti,0,e0,p6,p8,y0⟩,⟨n1,ti,1,e1,p7,p9,y1⟩]:=by simp[Program.fieldsOf,h]
 have he:=λ(x y:Int)=>run_equalIn_int (P:=P) w d ti .i64 .i64 x y hi;rw[show d+2=(d+1)+1 from rfl,run_equalIn_struct w (d+1) aY _ _ (by rw[hf];exact h) hS,hf];have nh:∀c:ak,(part ti #[.int .i64 c.a,.int .i64 c.b] 0).run P w=.ok (.int .i64 c.a) w:=λc=>hpt _ _ 0 _ w rfl;have p1:∀c:ak,(part ti #[.int .i64 c.a,.int .i64 c.b] 1).run P w=.ok (.int .i64 c.b) w:=λc=>hpt _ _ 1 _ w rfl;have hd: (decide (a=b))=((a.a==b.a)&&(a.b==b.b)):=by
  cases a;cases b;simp only[ak.mk.injEq,Bool.decide_and];rfl
 simp only[Op.eqFields,Sem.run_bind,Sem.run_ite,h0,h1,ne_eq,not_false_eq_true,if_true,nh,p1,Result.andThen_ok,he,hd];cases (a.a==b.a)<;>cases (a.b==b.b)<;>simp
theorem CX (h:P.underlying t=some (.struct #[⟨m0,aY,0,f0,EL,EN,x0⟩,⟨m1,aY,2,f1,EM,EO,x1⟩])) (g0:m0≠"_") (g1:m1≠"_") (hS:P.stoodInHeld t=false)
  (hr:P.underlying aY=some (.struct #[⟨n0,ti,0,e0,p6,p8,y0⟩,⟨n1,ti,1,e1,p7,p9,y1⟩])) (h0:n0≠"_") (h1:n1≠"_") (LH:P.stoodInHeld aY=false)
  (hi:P.underlying ti=some (.int .i64)) (ha:gM P aY=some true) (hs:gX P aY=some 2):xm P t xD:=by
 have hf:P.fieldsOf t=#[⟨m0,aY,0,f0,EL,EN,x0⟩,⟨m1,aY,2,f1,EM,EO,x1⟩]:=by simp[Program.fieldsOf,h]
 have nh:∀(c:ak×ak) w,(part aY #[.int .i64 c.1.a,.int .i64 c.1.b,.int .i64 c.2.a,.int .i64 c.2.b] 0).run P w=.ok (dH c.1) w:=λc w=>by
  unfold part;simp only[Sem.run_bind,tQ ha,Result.andThen_ok,if_true,nc hs,Sem.run_pure];rfl
 have p1:∀(c:ak×ak) w,(part aY #[.int .i64 c.1.a,.int .i64 c.1.b,.int .i64 c.2.a,.int .i64 c.2.b] 2).run P w=.ok (dH c.2) w:=λc w=>by
  unfold part;simp only[Sem.run_bind,tQ ha,Result.andThen_ok,if_true,nc hs,Sem.run_pure];rfl
 refine Ql h (λd a b w=>?_) (λe k w=>?_) (λk=>by simp[Instr.sameBits]) (λa b hab=>?_)
 ·have he:=λ(x y:ak)=>RL hr h0 h1 LH hi (d+5) x y w;rw[show d+8=(d+7)+1 from rfl,run_equalIn_struct w (d+7) t _ _ (by rw[hf];exact h) hS,hf];have hd: (decide (a=b))=(decide (a.1=b.1)&&decide (a.2=b.2)):=by
   cases a;cases b;simp only[Prod.mk.injEq,Bool.decide_and]
  simp only[Op.eqFields,Sem.run_bind,Sem.run_ite,g0,g1,ne_eq,not_false_eq_true,if_true,nh,p1,Result.andThen_ok,he,hd,show d+7=d+5+2 from rfl];cases decide (a.1=b.1)<;>cases decide (a.2=b.2)<;>simp[he,show d+7=d+5+2 from rfl,nh,p1]
 ·have q:∀(x:Int),(Instr.checkKey e 9998 ti (.int .i64 x)).run P w=.ok () w:=λx=>by unfold Instr.checkKey;simp[run_underlying hi]
  have hpt:=λa b i v w=>Eo (P:=P) hi a b i v w;have AJ:∀c:ak,(part ti #[.int .i64 c.a,.int .i64 c.b] 0).run P w=.ok (.int .i64 c.a) w:=λc=>hpt _ _ 0 _ w rfl;have r1:∀c:ak,(part ti #[.int .i64 c.a,.int .i64 c.b] 1).run P w=.ok (.int .i64 c.b) w:=λc=>hpt _ _ 1 _ w rfl;have Zi:∀c:ak,(Instr.checkKey e 9999 aY (dH c)).run P w=.ok () w:=λc=>by
   rw[show(9999:Nat)=9998+1 from rfl,Instr.checkKey];simp only[Sem.run_bind,run_underlying hr,Result.andThen_ok];rw[<-Array.forIn_toList];simp only[List.forIn_cons,List.forIn_nil,Sem.run_bind,Sem.run_ite,h0,h1,ne_eq,not_false_eq_true,if_true,AJ,r1,q,Result.andThen_ok,Sem.run_pure]
  rw[show(10000:Nat)=9999+1 from rfl,Instr.checkKey];simp only[Sem.run_bind,run_underlying h,Result.andThen_ok];rw[<-Array.forIn_toList];simp only[List.forIn_cons,List.forIn_nil,Sem.run_bind,Sem.run_ite,g0,g1,ne_eq,not_false_eq_true,if_true,nh,p1,Zi,Result.andThen_ok,Sem.run_pure]
 ·obtain⟨⟨a1,a2⟩,⟨a3,a4⟩⟩:=a;obtain⟨⟨b1,b2⟩,⟨b3,b4⟩⟩:=b;simp at hab;simp[hab]
end
def gp (w:World) (M:Nat->Prop) (ds:List bC) (v:Value):Prop:=∃m:List ((ak×ak)×Bool),tY w M xD (λb:Bool=> .bool b) m v/\∀a b,(fe m (a,b)).getD false=jw ds a b
section
variable {w w' w₀:World} {C aQ kW D:Nat->Nat} {I:List Nat} {ds:List bC} {v:Value}
theorem gp.st (h:gp w (au C) ds v) (hs:ax I w C w' aQ) (h0:0∉I):gp w' (au aQ) ds v:=let⟨m,h1,h2⟩:=h;⟨m,h1.st hs h0,h2⟩
theorem gp.t (h:gp w (au C) ds v) (hs:ax I w C w' aQ) (h0:0∉I:=by first|decide|(simp<;>omega)):gp w' (au aQ) ds v:=h.st hs h0
theorem gp.sub {M M':Nat->Prop} (h:gp w M ds v) (iD:∀b,M' b->M b):gp w M' ds v:=let⟨m,⟨b,h1,h3,h4⟩,h2⟩:=h;⟨m,⟨b,h1,λe=>h3 (iD b e),h4⟩,h2⟩
theorem gp.one {M:Nat->Prop} (h:gp w M ds v):v.cells=#[v]/\v.oneCell'=true:=by obtain⟨m,⟨b,rfl,_⟩,_⟩:=h;exact⟨rfl,rfl⟩
end
theorem Zj {ds:List bC} {k:Nat} (h:k<ds.length) (a b:ak):jw (ds.take (k+1)) a b=(jw (ds.take k) a b||(!ds[k].same&&decide (ds[k].A=a/\ds[k].B=b))):=by
 unfold jw;rw[List.take_succ_eq_append_getElem h,List.any_append];simp
abbrev ji:Nat->Nat:=λ_=>0
theorem nR (w:World):aL w ji:=λb hb=>absurd rfl hb
section
variable {w w':World} {C D:Nat->Nat}
theorem ax.re (h:ax [] w D w' D) (C:Nat->Nat):ax [] w C w' C:=⟨h.ext.mono (λb _ hb=>by cases hb),λ_ _=>rfl⟩
end
section
variable {α:Type} [aZ α] {P:Program} {N:Nat} {env:Env} {w w':World} {C aQ D:Nat->Nat} {I:List Nat} {t e:TypeId} {v s:Value} {x y z q:Operand} {xs ys zs:List α} {j n:Nat}
theorem bg.mD (h:bg w C j e v ys) (hl:ys.length<=9223372036854775807):av w (au ji) ys v:=h.own.read (λb _ hb=>absurd rfl hb) hl
theorem av.c0 {M:Nat->Prop} (h:av w M ys v):av w (au ji) ys v:=h.sub (λb _ hb=>absurd rfl hb)
def oB (w:World) (C:Nat->Nat) (j:Nat) (e:TypeId) (v:Value) (ys:List α):Prop:=bg w C j e v ys\/∃a,v=.slice a ys.length ys.length/\av w (au C) ys v
theorem oB.st (h:oB w C j e v ys) (hs:ax I w C w' aQ) (h0:0∉I) (hj:j∉I):oB w' aQ j e v ys:=h.imp (λh=>h.st hs h0 hj) (λ⟨a,h1,h2⟩=>⟨a,h1,h2.st hs h0⟩)
theorem oB.u (h:oB w C j e v ys) (hs:ax I w C w' aQ) (h0:0∉I:=by first|decide|(simp<;>omega)) (hj:j∉I:=by first|decide|(simp<;>omega)):oB w' aQ j e v ys:=h.st hs h0 hj
theorem oB.mD (h:oB w C j e v ys) (hl:ys.length<=9223372036854775807):av w (au ji) ys v:=by
 rcases h with h|⟨a,_,h⟩
 ·exact h.mD hl
 ·exact h.c0
theorem oB.Ci (h:oB w C j e v ys) (hy:ev env y=some v) {d:TypeId} (ht:P.underlying t=some (.slice d)):
  ∀w',cZ P N env (.call {callee:=.builtin .len,args:=#[y],argTypes:=#[t]}) w' (.int .i64 ys.length):=λw'=>by
 rcases h with h|⟨a,rfl,_⟩
 ·exact h.Ci hy ht w'
 ·exact yH hy ht
theorem oB.ln (h:oB w C j e v ys):∃a c,v=.slice a ys.length c:=by
 rcases h with h|⟨a,rfl,_⟩
 ·exact h.own.len
 ·exact⟨_,_,rfl⟩
theorem RN {bytes:Nat} (hF:aL w C) (hj:j≠0) (hx:ev env y=some v) (hy:ev env z=some s) (hrow:qu P t e (sz α) bytes=true) (hsz:0<sz α)
  (hown:oB w C j e v ys) (hsrc:av w (au C) zs s) (xA:zs≠[]) (hlen: (ys.length+zs.length)*bytes<=140737488355328) (h63:ys.length+zs.length<=140737488355328):
  ig P N env (.call {callee:=.builtin .append,args:=#[y,z],argTypes:=#[t,t]}) w (λv' w'=>∃aQ,ax [j] w C w' aQ/\bg w' aQ j e v' (ys++zs)/\aL w' aQ):=by
 rcases hown with h|⟨a,rfl,h⟩
 ·exact eY hF hj hx hy hrow hsz h hsrc hlen h63
 ·intro a' jV fN ij;obtain⟨v',w',h1,aQ,h2,h3,h4⟩:=EE (j:=j) (P:=P) (N:=N) (a:=a) hF hj hx hy hrow hsz h hsrc xA hlen h63 a' jV fN ij;exact⟨v',w',h1,aQ,h2.mono (λc hc=>by cases hc),h3,h4⟩
theorem av.Zk {M:Nat->Prop} {e':TypeId} {k:Nat} (h:av w M xs v) (hy:ev env y=some v) {kd EF:IntKind} (hf:jS P t=some (e',sz α)) (hz:ev env z=some (.int kd k)) (hq:ev env q=some (.int EF k)) (hk:k<=xs.length):
  ∃a,av w M (xs.take k) (.slice a k k)/\∀w',cZ P N env (.slice t y none (some z) (some q)) w' (.slice a k k):=by
 obtain⟨a,c,rfl,hc,hm,hs⟩:=ko.1 h;have r6: (xs.take k).length=k:=by rw[List.length_take];omega
 refine⟨a,?_,λw'=>mk' λρ hρ fN ho=>?_⟩
 ·refine ko.2 ⟨a,k,by rw[r6],by omega,by omega,?_⟩;rcases hs with h|⟨b,o,rfl,hb,cs,ty,e8,hcs,hsz,hr⟩
  ·left;rw[h];simp
  ·right;refine⟨b,o,rfl,hb,cs,ty,e8,hcs,?_,λi hi=>?_⟩
   ·rw[r6];have:=Nat.mul_le_mul_right (sz α) hk;omega
   ·rw[List.getElem_take];exact hr i ah
 ·unfold jS at hf;split at hf
  ·rename_i e1 hu;split at hf
   ·rename_i n' hn;have hb:=AA (P:=P) (kd:=EF) (y:=c) (code:=.slice3Acap) (w:=w') (i:=(k:Int)) ah ah;have fc:=AA (P:=P) (kd:=kd) (y:=k) (code:=.slice3B) (w:=w') (i:=(k:Int)) ah ah;have jV:a.map (·.add 0)=a:=by
     cases a with
     |none=>simp
     |some a=>simp[Addr.add]
    simp only[Int.toNat_natCast] at hb fc;unfold execOp;rw[ho];simp[hρ _ _ hy,hρ _ _ hz,hρ _ _ hq,Instr.sliceAt,Instr.slice,Instr.sliceBounds,run_underlying hu,nc hn,hb,fc,jV]
   ·cases hf
  ·cases hf
end
section
variable {α:Type} [aZ α] {w w':World} {C aQ:Nat->Nat} {I:List Nat} {e:TypeId} {v:Value} {ys:List α} {j:Nat}
theorem oB.t (h:oB w C j e v ys) (hs:ax I w C w' aQ) (h0:0∉I:=by first|decide|(simp<;>omega)) (hj:j∉I:=by first|decide|(simp<;>omega)):oB w' aQ j e v ys:=h.st hs h0 hj
end
section
variable {α:Type} [aZ α] {w:World} {C:Nat->Nat} {P:Program} {f:FuncId} {N:Nat} {k:List Item} {R:Value->World->Prop} {Q:Exit->Act->World->Prop} {env:Env} {ops:Array Oper} {S:World->Prop} {i t:Nat} {L:List (Nat×Bool)} {v:Value} {y z q:Operand} {gq:Option (Nat×Bool)} {ty e e':TypeId} {xs:List α} {kd EF:IntKind} {m:Nat}
theorem Zl {M:Nat->Prop} (hop:cv ops i=some (some t,.slice ty y none (some z) (some q),gq)) (hw:ec ops env gq=some true) (ht:Nat.blt t N=true) (hl:av w M xs v) (hy:ev env y=some v)
  (hf:jS P ty=some (e',sz α)) (hz:ev env z=some (.int kd m)) (hq:ev env q=some (.int EF m)) (hk:m<=xs.length)
  (h:∀a,av w M (xs.take m) (.slice a m m)->bO P N Q ops S L ((t,.slice a m m)::env) w):bO P N Q ops S ((i,true)::L) env w:=by
 obtain⟨a,h2,h3⟩:=hl.Zk (P:=P) (N:=N) hy hf hz hq hk;exact kI hop hw ht (λw' _=>h3 w') (h a h2)
end
structure nT (l:List aD) (s ys:List ak):Prop where
 nd:ys.Nodup
 sub:∀r∈ys,r∈s
 first:s.headD ⟨0,0⟩∈ys
 same:∀r∈ys,b8 (jh l s) r=b8 (jh l s) (s.headD ⟨0,0⟩)
section
variable {l:List aD} {s ys:List ak}
theorem nT.start (h:1<=s.length):nT l s (s.take 1):=by
 cases s with
 |nil=>simp at h
 |cons a t=>exact⟨by simp,by simp,by simp,by simp⟩
theorem nT.len (h:nT l s ys):ys.length<=s.length:=h.nd.length_le_of_subset h.sub
theorem nT.add (h:nT l s ys) {x:aD} (hx:x∈l) (hA:x.A∈s) (hB:x.B∈s) {r:ak} (hr: (r=x.A/\x.B∈ys)\/(r=x.B/\x.A∈ys)) (hn:r∉ys):nT l s (ys++[r]):=by
 have he:b8 (jh l s) x.A=b8 (jh l s) x.B:=xw (List.mem_filter.2 ⟨hx,by rw[decide_eq_true_eq];exact⟨hA,hB⟩⟩);have cW:r∈s:=by rcases hr with⟨rfl,_⟩|⟨rfl,_⟩<;>assumption
 have hsame:b8 (jh l s) r=b8 (jh l s) (s.headD ⟨0,0⟩):=by
  rcases hr with⟨rfl,h1⟩|⟨rfl,h1⟩
  ·rw[he];exact h.same _ h1
  ·rw[<-he];exact h.same _ h1
 refine⟨List.nodup_append.2 ⟨h.nd,by simp,λa ha b hb e=>?_⟩,λq hq=>?_,List.mem_append.2 (.inl h.first),λq hq=>?_⟩
 ·rw[List.mem_singleton] at hb;subst hb;subst e;exact hn ha
 ·rcases List.mem_append.1 hq with h1|h1
  ·exact h.sub q h1
  ·rw[List.mem_singleton.1 h1];exact cW
 ·rcases List.mem_append.1 hq with h1|h1
  ·exact h.same q h1
  ·rw[List.mem_singleton.1 h1];exact hsame
theorem nT.fin (h:nT l s ys) (hn:s.Nodup) (hc:∀x∈l,x.A∈s->x.B∈s->(x.A∈ys↔x.B∈ys)): (ys.length:Int)=s.length↔k4 l s=true:=by
 have hall:∀r,b8 (jh l s) r=b8 (jh l s) (s.headD ⟨0,0⟩)->r∈ys:=λr e=>by
  have hinv:∀x∈jh l s,decide (x.A∈ys)=decide (x.B∈ys):=λx hx=>by
   obtain⟨h1,h2⟩:=List.mem_filter.1 hx;rw[decide_eq_true_eq] at h2;exact decide_eq_decide.2 (hc x h1 h2.1 h2.2)
  have e1:=sZ (p:=λr=>decide (r∈ys)) hinv r;have e2:=sZ (p:=λr=>decide (r∈ys)) hinv (s.headD ⟨0,0⟩);have fA:decide (r∈ys)=decide (s.headD ⟨0,0⟩∈ys):=by rw[<-e1,<-e2,e]
  rw[decide_eq_true h.first] at fA;exact of_decide_eq_true fA
 unfold k4;rw[List.all_eq_true];constructor
 ·intro e r hr;rw[decide_eq_true_eq];refine h.same r ?_;apply Classical.byContradiction;intro hno;have h1: (r::ys).Nodup:=List.nodup_cons.2 ⟨hno,h.nd⟩;have h2:=h1.length_le_of_subset (l₂:=s) (λq hq=>by
   rcases List.mem_cons.1 hq with rfl|hq
   ·exact hr
   ·exact h.sub q hq)
  simp only[List.length_cons] at h2;omega
 ·intro Zm;have h2:=hn.length_le_of_subset (l₂:=ys) (λq hq=>hall q (of_decide_eq_true (Zm q hq)));have:=h.len;omega
end
def j0 (w:World) (C:Nat->Nat) (b:Nat) (o:Obj):Prop:=C b<2/\w.heap[b]?=some o
section
variable {w w':World} {I:List Nat} {C aQ:Nat->Nat} {b:Nat} {o:Obj}
theorem j0.at_ (h:j0 w C b o):w.heap[b]?=some o:=h.2
theorem j0.st (h:j0 w C b o) (hs:ax I w C w' aQ) (hI:∀c∈I,2<=c):j0 w' aQ b o:=
 ⟨by rw[hs.col b (rX h.2)];exact h.1,by rw[hs.ext.vj h.2 (λhm=>by have:=hI _ hm;have:=h.1;omega)]⟩
theorem j0.t (h:j0 w C b o) (hs:ax I w C w' aQ) (hI:∀c∈I,2<=c:=by decide):j0 w' aQ b o:=h.st hs hI
theorem j0.stay (h:j0 w C b o) (hS:Ext (λb=>C b∈I) w w') (hI:∀c∈I,2<=c):w'.heap[b]?=some o:=hS.vj h.2 (λhm=>by have:=hI _ hm;have:=h.1;omega)
theorem j0.yU (h:j0 w C b o) (hS:Ext (λb=>C b∈I) w w') (hI:∀c∈I,2<=c:=by decide):w'.heap[b]?=some o:=h.stay hS hI
theorem j0.sz (h:j0 w C b o) (hI:∀c∈I,2<=c:=by decide):∀w',Ext (λb=>C b∈I) w w'->w'.heap[b]?=some o:=λ_ hS=>h.stay hS hI
theorem j0.of (h:w.heap[b]?=some o) (C:Nat->Nat):j0 w (bk C) b o:=⟨by unfold bk;split<;>omega,h⟩
theorem ax.same {D D':Nat->Nat} (hs:ax [] w D w' D') (h:w.heap[b]?=some o):w'.heap[b]?=some o:=hs.ext.vj h (λhm=>by cases hm)
end
def AZ (ds:List bC) (s:List ak):Bool:=(List.range s.length).all λi=>!((s.take i).any λb=>eU ds b (s.getD i ⟨0,0⟩))
def nU (l:List aD) (ds:List bC) (s:List ak):Bool:=decide (2<=s.length)&&AZ ds s&&k4 l s
theorem HX {ds:List bC} {s:List ak}:AZ ds s=true↔s.Pairwise λa b=>eU ds a b=false:=by
 unfold AZ;rw[List.all_eq_true,List.pairwise_iff_getElem];constructor
 ·intro h i j hi hj hij;have h1:=h j (List.mem_range.2 hj);rw[Bool.not_eq_true',List.any_eq_false] at h1;have h2:=h1 s[i] (by rw[List.mem_take_iff_getElem];exact⟨i,by omega,rfl⟩);rw[s4 hj] at h2;simpa using h2
 ·intro h j hj;have hj:=List.mem_range.1 hj;rw[Bool.not_eq_true',List.any_eq_false];intro b hb;obtain⟨i,hi,rfl⟩:=List.mem_take_iff_getElem.1 hb;rw[s4 hj,h i j ah hj ah];decide
theorem RO {ds:List bC} {s:List ak} (h:s.Pairwise λa b=>eU ds a b=false):s.Nodup:=List.nodup_iff_pairwise_ne.2 (h.imp λ{a b} h e=>by subst e;rw[Y4] at h;cases h)
theorem RP {ds:List bC} {s:List ak} (h:∀i (hi:i<s.length),(s.take i).any (λb=>eU ds b s[i])=false):AZ ds s=true:=by
 unfold AZ;rw[List.all_eq_true];intro i hi;have hi:=List.mem_range.1 hi;rw[s4 hi,h i hi];rfl
theorem RQ {ds:List bC} {s:List ak} {i:Nat} (hi:i<s.length) (h: (s.take i).any (λb=>eU ds b s[i])=true):AZ ds s=false:=by
 unfold AZ;rw[List.all_eq_false];exact⟨i,List.mem_range.2 hi,by rw[s4 hi,h];decide⟩
theorem eG.RR {l:List aD} {ds:List bC} {ps:List (List ak)} (h:eG l ds ps) {p:List ak} (hp:p∈ps):nU l ds p=true:=by
 unfold nU;rw[decide_eq_true (h.len p hp),HX.2 (h.bar p hp),LB.2 (h.join p hp)];rfl
section
variable {l:List aD} {ds:List bC} {ps:List (List ak)}
theorem LI {k:Nat} (h:k<l.length) (ps:List (List ak)):e9 (l.take (k+1)) ps=if ps.any (s9 l[k])=true then e9 (l.take k) ps+l[k].w else e9 (l.take k) ps:=by
 unfold e9;rw[List.take_succ_eq_append_getElem h,List.filter_append,List.map_append,List.sum_append];by_cases e:ps.any (s9 l[k])=true
 ·rw[if_pos e,List.filter_cons_of_pos (p:=λx=>ps.any (s9 x)) e];simp
 ·rw[if_neg e,List.filter_cons_of_neg (p:=λx=>ps.any (s9 x)) e];simp
theorem EP (hw:∀x∈l,1<=x.w/\x.w<=1048576) (ps:List (List ak)):∀k,k<=l.length->0<=e9 (l.take k) ps/\e9 (l.take k) ps<=1048576*(k:Int)
 |0,_=>by simp[e9]
 |k+1,hk=>by
  have h1:=EP hw ps k ah;have h2:=hw _ (List.getElem_mem (show k<l.length by omega));rw[LI ah];split<;>omega
theorem CY (ps:List (List ak)):e9 (l.take l.length) ps=e9 l ps:=by rw[List.take_length]
theorem LJ (x:aD) (p:List ak):s9 x p=(decide (x.A∈p)&&decide (x.B∈p)):=by unfold s9;rw[Bool.decide_and]
def Seen (m:List (ak×Bool)) (rs:List ak):Prop:=∀r,(fe m r).getD false=true↔r∈rs
theorem Seen.nil:Seen [] []:=λr=>by simp[fe]
theorem Seen.put {m:List (ak×Bool)} {rs:List ak} (h:Seen m rs) (r:ak):Seen (iu m r true) (rs++[r]):=λq=>by
 rw[nN,List.mem_append,List.mem_singleton];by_cases e:r=q
 ·rw[if_pos e];simp[e]
 ·rw[if_neg e,h q];exact⟨.inl,λh=>h.resolve_right (λe2=>e e2.symm)⟩
theorem Seen.not {m:List (ak×Bool)} {rs:List ak} (h:Seen m rs) {r:ak} (hr:r∉rs): (fe m r).getD false=false:=Bool.eq_false_iff.2 λe=>hr ((h r).1 e)
theorem eG.fresh (h:eG l ds ps) {i j:Nat} (hi:i<ps.length) (hj:j<ps[i].length):ps[i][j]∉(ps.take i).flatten++ps[i].take j:=λhm=>by
 have hn:=h.vP;have e:ps=ps.take i++ps[i]::ps.drop (i+1):=by rw[<-List.drop_eq_getElem_cons hi,List.take_append_drop]
 rw[e,List.flatten_append,List.flatten_cons,<-List.append_assoc] at hn;have hn2:=(List.nodup_append.1 hn).1;have e2:ps[i]=ps[i].take j++ps[i][j]::ps[i].drop (j+1):=by rw[<-List.drop_eq_getElem_cons hj,List.take_append_drop]
 rcases List.mem_append.1 hm with h1|h1
 ·exact(List.nodup_append.1 hn2).2.2 _ h1 _ (List.getElem_mem hj) rfl
 ·have RS:=(List.nodup_append.1 hn2).2.1;rw[e2] at RS;exact(List.nodup_append.1 RS).2.2 _ h1 _ List.mem_cons_self rfl
theorem Zn {i:Nat} (hi:i<ps.length): (ps.take (i+1)).flatten=(ps.take i).flatten++ps[i].take ps[i].length:=by
 rw[List.take_succ_eq_append_getElem hi,List.flatten_append,List.take_length];simp
theorem RT (rows:List (List ak)): (gQ rows).length<=rows.length:=List.length_filter_le _ _
theorem RU {rows:List (List ak)} {i:Nat} (h:i<rows.length):gQ (rows.take (i+1))=if 2<=rows[i].length then gQ (rows.take i)++[rows[i]] else gQ (rows.take i):=by
 unfold gQ;rw[List.take_succ_eq_append_getElem h,List.filter_append];by_cases e:2<=rows[i].length
 ·rw[if_pos e,List.filter_cons_of_pos (by rw[decide_eq_true_eq];exact e)];rfl
 ·rw[if_neg e,List.filter_cons_of_neg (by rw[decide_eq_true_eq];exact e)];simp
theorem Zp {rows:List (List ak)} (h:∀q (hq:q<rows.length),2<=rows[q].length->k4 l rows[q]=true):oA l rows=true:=by
 unfold oA;rw[List.all_eq_true];intro s hs;obtain⟨h1,h2⟩:=List.mem_filter.1 hs;obtain⟨q,hq,rfl⟩:=List.getElem_of_mem h1;exact h q hq (of_decide_eq_true h2)
theorem Zu {rows:List (List ak)} {q:Nat} (hq:q<rows.length) (h2:2<=rows[q].length) (h:k4 l rows[q]=false):oA l rows=false:=by
 unfold oA;rw[List.all_eq_false];exact⟨_,List.mem_filter.2 ⟨List.getElem_mem hq,by rw[decide_eq_true_eq];exact h2⟩,by rw[h];decide⟩
theorem Zv {rows:List (List ak)} {st:iW} (h:oA l rows=false):nj l st rows=st:=by unfold nj;rw[if_neg (by rw[h];rintro⟨h,_⟩;cases h)]
theorem Zw {rows:List (List ak)} {st:iW} (h:st.found=true) (h2:e9 l (gQ rows)<=st.val):nj l st rows=st:=by
 unfold nj;rw[if_neg];rintro⟨_,h3|h3⟩
 ·rw[h] at h3;cases h3
 ·omega
theorem RW {rows:List (List ak)} {st:iW} (h:oA l rows=true) (h2:st.found=false\/st.val<e9 l (gQ rows)):nj l st rows=⟨true,gQ rows,e9 l (gQ rows)⟩:=by unfold nj;rw[if_pos ⟨h,h2⟩]
end
structure fI {α:Type} [aZ α] (w:World) (C:Nat->Nat) (j:Nat) (e:TypeId) (us:List Value) (rows:List (List α)):Prop where
 len:us.length=rows.length
 own:∀k (h:k<us.length) (h':k<rows.length),bg w C j e us[k] rows[k]
 uq:∀k l (h:k<us.length) (h':l<us.length),k≠l->∀b,c9 us[k] b->¬c9 us[l] b
section
variable {α:Type} [aZ α] {P:Program} {N:Nat} {env:Env} {w w':World} {C aQ D:Nat->Nat} {I:List Nat} {t e:TypeId} {v s:Value} {x y z:Operand} {xs ys zs:List α} {us:List Value} {rows:List (List α)} {j k n:Nat}
theorem fI.nil:fI w C j e [] ([]:List (List α)):=⟨rfl,λk h=>by simp at h,λk l h=>by simp at h⟩
theorem fI.st (h:fI w C j e us rows) (hs:ax I w C w' aQ) (h0:0∉I) (hj:j∉I):fI w' aQ j e us rows:=⟨h.len,λk h1 h2=>(h.own k h1 h2).st hs h0 hj,h.uq⟩
theorem fI.u (h:fI w C j e us rows) (hs:ax I w C w' aQ) (h0:0∉I:=by first|decide|(simp<;>omega)) (hj:j∉I:=by first|decide|(simp<;>omega)):fI w' aQ j e us rows:=h.st hs h0 hj
theorem fI.mD (h:fI w C j e us rows) (hk:k<us.length) (hk':k<rows.length) (hl:rows[k].length<=9223372036854775807):av w (au ji) rows[k] us[k]:=(h.own k hk hk').mD hl
theorem fI.append {bytes:Nat} (h:fI w C j e us rows) (hF:aL w C) (hj:j≠0) (hk:k<us.length) (hk':k<rows.length) (hx:ev env y=some us[k]) (hy:ev env z=some s) (hrow:qu P t e (sz α) bytes=true) (hsz:0<sz α)
  (hsrc:av w (au C) zs s) (hlen: (rows[k].length+zs.length)*bytes<=140737488355328) (h63:rows[k].length+zs.length<=140737488355328):
  ig P N env (.call {callee:=.builtin .append,args:=#[y,z],argTypes:=#[t,t]}) w (λv' w'=>∃aQ,ax [j] w C w' aQ/\aL w' aQ/\fI w' aQ j e (us.set k v') (rows.set k (rows[k]++zs))):=λa ha fN ij=>by
 have hown:=h.own k hk hk';obtain⟨v',w',h1,h2,h3,h4⟩:=Ko (P:=P) (N:=N) hx hy hrow hsz hown.own hsrc hlen h63 a ha fN ij;have kr:∀b,b<w.heap.size->gN C v' j b=C b:=λb hb=>by
  unfold gN;split
  ·rename_i e;rcases h4 b e with h|h
   ·exact(hown.col b h).symm
   ·omega
  ·rfl
 have hS:ax [j] w C w' (gN C v' j):=⟨h3.mono (λb _ hb=>by rw[hown.col b hb];simp),kr⟩
 have hL:aL w' (gN C v' j):=λb hb=>by
  by_cases ho:c9 v' b
  ·exact(h2.fh b ho).2
  ·unfold gN at hb;rw[if_neg (show¬v'.ownBlock=some b from ho)] at hb;exact Nat.lt_of_lt_of_le (hF b hb) h3.size
 have hn:bg w' (gN C v' j) j e v' (rows[k]++zs):=⟨h2.sub (λb hb hc=>by
  by_cases ho:c9 v' b
  ·exact .inl ho
  ·right;unfold au gN at hc;rw[if_neg (show¬v'.ownBlock=some b from ho)] at hc;exact hc) (λb hb=>by unfold au gN;rw[if_pos (show v'.ownBlock=some b from hb)];exact hj),λb hb=>by unfold gN;rw[if_pos (show v'.ownBlock=some b from hb)]⟩
 have LK:∀l (hl:l<us.length) (hl':l<rows.length),l≠k->bg w' (gN C v' j) j e us[l] rows[l]/\∀b,c9 us[l] b->¬c9 v' b:=λl hl hl' hlk=>by
  have ho:=h.own l hl hl';have hne:∀b,c9 us[l] b->¬c9 us[k] b:=h.uq l k hl hk hlk;have hv:∀b,c9 us[l] b->¬c9 v' b:=λb hb hv=>by
   rcases h4 b hv with h5|h5
   ·exact hne b hb h5
   ·have:=(ho.own.fh b hb).2;omega
  have hold:∀b,b<w.heap.size->c9 v' b->au C b:=λb hb zi=>by
   rcases h4 b zi with h6|h6
   ·unfold au;rw[hown.col b h6];exact hj
   ·omega
  have h50:kH w (λb=>c9 v' b\/au C b) e us[l] rows[l]:=ho.own.sub (λb hb iD=>iD.elim (hold b hb) id) (λb hb=> .inr (by unfold au;rw[ho.col b hb];exact hj));have h5:kH w' (λb=>c9 v' b\/au C b) e us[l] rows[l]:=h50.ext h3 (λb hb hA=> .inr (by unfold au;rw[hown.col b hA];exact hj)) hne;refine⟨⟨h5.sub (λb hb hc=>?_) (λb hb=>?_),λb hb=>?_⟩,hv⟩
  ·by_cases zi:c9 v' b
   ·exact .inl zi
   ·right;unfold au gN at hc;rw[if_neg (show¬v'.ownBlock=some b from zi)] at hc;exact hc
  ·unfold au gN;rw[if_neg (show¬v'.ownBlock=some b from hv b hb),ho.col b hb];exact hj
  ·unfold gN;rw[if_neg (show¬v'.ownBlock=some b from hv b hb)];exact ho.col b hb
 refine⟨v',w',h1,gN C v' j,hS,hL,⟨by simp[h.len],λl h5 h6=>?_,λl m h5 h6 A0 b hb fc=>?_⟩⟩
 ·simp only[List.length_set] at h5 h6;rw[List.getElem_set,List.getElem_set];by_cases e:k=l
  ·subst e;rw[if_pos rfl,if_pos rfl];exact hn
  ·rw[if_neg e,if_neg e];exact(LK l h5 h6 (Ne.symm e)).1
 ·simp only[List.length_set] at h5 h6;rw[List.getElem_set] at hb fc;by_cases e1:k=l
  ·by_cases e2:k=m
   ·omega
   ·rw[if_pos e1] at hb;rw[if_neg e2] at fc;exact(LK m h6 (by rw[<-h.len];exact h6) (Ne.symm e2)).2 b fc hb
  ·by_cases e2:k=m
   ·rw[if_neg e1] at hb;rw[if_pos e2] at fc;exact(LK l h5 (by rw[<-h.len];exact h5) (Ne.symm e1)).2 b hb fc
   ·rw[if_neg e1] at hb;rw[if_neg e2] at fc;exact h.uq l m h5 h6 A0 b hb fc
theorem Zx {n bytes:Nat} {parts:Array (Nat×Operand)} {ys:List α} (hF:aL w C) (hj:j≠0) (hrow:qu P t e (sz α) bytes=true) (hn:n=ys.length) (pY:n*sz α<=16777216) (hsz:0<sz α)
  (hp:Av env w (au C) 0 parts.toList ys):
  ig P N env (.buildSlice t n parts) w (λv w'=>∃aQ,ax [] w C w' aQ/\bg w' aQ j e v ys/\aL w' aQ/\∀b,c9 v b->w.heap.size<=b):=rq λρ hρ fN ij=>by
 subst hn;obtain⟨i,z,hu,hi,hsi,hby,hz,hzs⟩:=yO hrow
 let zs:List Value:=((Array.range (ys.length*sz α)).map λj=>(if ys.length*sz α=0 then(#[]:Array Value) else z.cells)[j%(if ys.length*sz α=0 then(#[]:Array Value) else z.cells).size]!).toList
 obtain⟨eo,news,h1,h2,h3,h4⟩:=KB (k:=0) [] zs hp aF (by simp[zs]);simp only[List.nil_append] at h2;have hmap:=tU.map hρ h1;have nL:=fill_eq _ (parts.toList.map λp=>(p.1,ρ p.2)) eo zs news (by rw[<-hmap]) h2;have hnew:=xd w (.cells news.toArray e);have hrun: (Instr.buildSlice t ys.length (parts.map λx=>(x.1,ρ x.2))).run P w=.ok (.slice (some ⟨w.heap.size,0,none⟩) ys.length ys.length) (w.alloc (.cells news.toArray e)):=by
  have hle:¬(ys.length*sz α>2^24):=by omega
  have mw: (parts.map λx=>(x.1,ρ x.2)).toList=parts.toList.map λp=>(p.1,ρ p.2):=by simp
  have Ek: (sizeOf e).run P w=.ok (sz α) w:=by simp[sizeOf,typeInfo,hi,hsi]
  unfold Instr.buildSlice;simp only[Sem.run_bind,run_underlying hu,Result.andThen_ok,Ek,if_neg hle,Sem.run_pure,mw];by_cases h0:ys.length*sz α=0
  ·have tR:zs=((Array.range (ys.length*sz α)).map λj=>(#[]:Array Value)[j%(#[]:Array Value).size]!).toList:=by simp only[zs,h0,if_true]
   rw[tR] at nL;simp only[h0,if_true,Sem.run_bind,Sem.run_pure,Result.andThen_ok] at nL⊢;simp only[Array.toArray_toList] at nL;rw[nL];simp[newRow]
  ·have tR:zs=((Array.range (ys.length*sz α)).map λj=>z.cells[j%z.cells.size]!).toList:=by simp only[zs,h0,if_false]
   rw[tR] at nL;have KC: (zeroValue e).run P w=.ok z w:=by simp[zeroValue,typeInfo,hi,hz]
   simp only[h0,if_false,Sem.run_bind,KC,Sem.run_pure,Result.andThen_ok];simp only[Array.toArray_toList] at nL;rw[nL];simp[newRow]
 obtain⟨aQ,a1,a2,a3⟩:=hnew.own hF j;refine⟨.slice (some ⟨w.heap.size,0,none⟩) ys.length ys.length,w.alloc (.cells news.toArray e),.inl ?_,aQ,a1,⟨.inr ⟨w.heap.size,ys.length,news.toArray,rfl,?_,a2.at_,Nat.le_refl _,?_,λi hi=>?_⟩,λb hb=>?_⟩,a3,λb hb=>?_⟩
 ·unfold execOp;rw[ij];simp only[Sem.run_bind];rw[show(parts.map λx=>match x with|(i,x)=>(i,ρ x))=(parts.map λx=>(x.1,ρ x.2)) from rfl,hrun];rfl
 ·unfold au;rw[a2.col];exact hj
 ·simp only[List.size_toArray,h3]
 ·have h5:=h4 i hi;refine aZ.keep (aZ.sub h5 (λb hb hm=>?_)) (λb hb hm=>hnew.ext.block b hb (λh=>h));unfold au at hm⊢;rw[a1.col b hb] at hm;exact hm
 ·simp only[c9,Value.ownBlock,Option.some.injEq] at hb;subst hb;exact a2.col
 ·simp only[c9,Value.ownBlock,Option.some.injEq] at hb;omega
theorem fI.snoc (h:fI w C j e us rows) (hj:j≠0) {ys:List α} (ho:bg w C j e v ys) (hd:∀k (hk:k<us.length),∀b,c9 us[k] b->¬c9 v b):fI w C j e (us++[v]) (rows++[ys]):=by
 have hl:=h.len;have hi:∀k (hk:k<(us++[v]).length),k<us.length\/k=us.length:=λk hk=>by simp at hk;omega
 refine⟨by simp[h.len],λk h1 h2=>?_,λk l h1 h2 aA b hb fc=>?_⟩
 ·rcases hi k h1 with h3|h3
  ·rw[List.getElem_append_left h3,List.getElem_append_left ah];exact h.own k h3 ah
  ·subst h3;rw[List.getElem_append_right ah,List.getElem_append_right ah];simp only[Nat.sub_self,hl];simpa using ho
 ·rcases hi k h1 with h3|h3
  ·rw[List.getElem_append_left h3] at hb;rcases hi l h2 with h4|h4
   ·rw[List.getElem_append_left h4] at fc;exact h.uq k l h3 h4 aA b hb fc
   ·subst h4;rw[List.getElem_append_right ah] at fc;exact hd k h3 b hb (by simpa using fc)
  ·subst h3;rw[List.getElem_append_right ah] at hb;rcases hi l h2 with h4|h4
   ·rw[List.getElem_append_left h4] at fc;exact hd l h4 b fc (by simpa using hb)
   ·omega
theorem fI.fresh (h:fI w C j e us rows) {w0:World} (hb:∀b,c9 v b->w0.heap.size<=b) (hs:∀k (hk:k<us.length),∀b,c9 us[k] b->b<w0.heap.size):∀k (hk:k<us.length),∀b,c9 us[k] b->¬c9 v b:=λk hk b h1 h2=>by
 have:=hb b h2;have:=hs k hk b h1;omega
theorem fI.lt (h:fI w C j e us rows):∀k (hk:k<us.length),∀b,c9 us[k] b->b<w.heap.size:=λk hk b hb=>((h.own k hk (by rw[<-h.len];exact hk)).own.fh b hb).2
theorem fI.pop (h:fI w C j e (us++[v]) (rows++[xs])) (hl:us.length=rows.length):fI w C j e us rows:=
 ⟨hl,λk h1 h2=>by
  have:=h.own k sV sV;rwa [List.getElem_append_left h1,List.getElem_append_left h2] at this,λk l h1 h2 aA b hb=>by
  have:=h.uq k l sV sV aA b;rw[List.getElem_append_left h1,List.getElem_append_left h2] at this;exact this hb⟩
theorem bg.Zy {e':TypeId} (h:bg w C j e v xs) (hy:ev env y=some v) {kd:IntKind} {i:Int} (hf:jS P t=some (e',sz α)) (hz:ev env z=some (.int kd i)) (h0:0<=i) (h1:i<=xs.length) (hne:0<xs.length):
  ∃v2,(∀b,c9 v2 b->c9 v b)/\bg w C j e v2 (xs.take i.toNat)/\∀w',cZ P N env (.slice t y none (some z) none) w' v2:=by
 obtain⟨g,cap,cs,rfl,kr,iD,hc,hle,hsz,hr⟩:=h.vD hne;have hl: (xs.take i.toNat).length=i.toNat:=by rw[List.length_take];omega
 refine⟨.slice (some ⟨g,0,none⟩) (xs.take i.toNat).length cap,λb hb=>hb,⟨.inr ⟨g,cap,cs,rfl,iD,hc,by omega,hsz,λk hk=>?_⟩,h.col⟩,λw'=>mk' λρ hρ fN ho=>?_⟩
 ·rw[List.getElem_take];exact hr k ah
 ·unfold jS at hf;split at hf
  ·rename_i e1 hu;split at hf
   ·rename_i n' hn;simp only[Option.some.injEq,Prod.mk.injEq] at hf;obtain⟨rfl,rfl⟩:=hf;have hb:=AA (P:=P) (kd:=kd) (y:=cap) (code:=.sliceAcap) (w:=w') h0 ah;unfold execOp;rw[ho];rw[hl];simp[hρ _ _ hy,hρ _ _ hz,Instr.sliceAt,Instr.slice,Instr.sliceBounds,run_underlying hu,nc hn,hb,qt]
   ·cases hf
  ·cases hf
theorem fI.cut {e':TypeId} (h:fI w C j e us rows) (hk:k<us.length) (hk':k<rows.length) (hy:ev env y=some us[k]) {kd:IntKind} {i:Int} (hf:jS P t=some (e',sz α)) (hz:ev env z=some (.int kd i)) (h0:0<=i) (h1:i<=rows[k].length) (hne:0<rows[k].length):
  ∃v2,fI w C j e (us.set k v2) (rows.set k (rows[k].take i.toNat))/\∀w',cZ P N env (.slice t y none (some z) none) w' v2:=by
 obtain⟨v2,h2,h3,h4⟩:=(h.own k hk hk').Zy (P:=P) (N:=N) hy hf hz h0 h1 hne;refine⟨v2,⟨by simp[h.len],λl h5 h6=>?_,λl m h5 h6 A0 b hb fc=>?_⟩,h4⟩
 ·simp only[List.length_set] at h5 h6;rw[List.getElem_set,List.getElem_set];by_cases e:k=l
  ·subst e;rw[if_pos rfl,if_pos rfl];exact h3
  ·rw[if_neg e,if_neg e];exact h.own l h5 h6
 ·simp only[List.length_set] at h5 h6;rw[List.getElem_set] at hb fc;by_cases e1:k=l
  ·by_cases e2:k=m
   ·omega
   ·rw[if_pos e1] at hb;rw[if_neg e2] at fc;exact h.uq k m hk h6 e2 b (h2 b hb) fc
  ·by_cases e2:k=m
   ·rw[if_neg e1] at hb;rw[if_pos e2] at fc;exact h.uq l k h5 hk (Ne.symm e1) b hb (h2 b fc)
   ·rw[if_neg e1] at hb;rw[if_neg e2] at fc;exact h.uq l m h5 h6 A0 b hb fc
end
def fm (C:Nat->Nat):Nat->Nat:=λb=>if C b=3\/C b=4\/C b=5 then C b else if C b=0 then 0 else 1
def eR (n:Nat) (C aQ:Nat->Nat):Nat->Nat:=λb=>if b<n then C b else if aQ b=3\/aQ b=4\/aQ b=5 then aQ b else 0
section
variable {α:Type} [aZ α] {w w' w0:World} {C aQ D:Nat->Nat} {I:List Nat} {e:TypeId} {v:Value} {ys:List α} {x:α} {us:List Value} {rows:List (List α)} {j b n:Nat} {o:Obj}
theorem LL (C:Nat->Nat) (b:Nat):fm C b≠0↔C b≠0:=by unfold fm;split<;>(try split)<;>omega
theorem LM (C:Nat->Nat):au (fm C)=au C:=by funext b;exact propext (LL C b)
theorem aL.fm (h:aL w C):aL w (K.fm C):=λb hb=>h b ((LL C b).1 hb)
theorem xE (C:Nat->Nat) (b:Nat):fm C b<6:=by unfold fm;split<;>(try split)<;>omega
theorem RX {j:Nat} (h:C b=j) (hj:j=3\/j=4\/j=5):fm C b=j:=by unfold fm;rw[h,if_pos hj]
theorem cE.fm (h:cE w C j b o) (hj:j=3\/j=4\/j=5):cE w (K.fm C) j b o:=⟨RX h.col hj,h.at_⟩
theorem bg.fm (h:bg w C j e v ys) (hj:j=3\/j=4\/j=5):bg w (K.fm C) j e v ys:=⟨by rw[LM];exact h.own,λb hb=>RX (h.col b hb) hj⟩
theorem fI.fm (h:fI w C j e us rows) (hj:j=3\/j=4\/j=5):fI w (K.fm C) j e us rows:=⟨h.len,λk h1 h2=>(h.own k h1 h2).fm hj,h.uq⟩
theorem ax.eR (h:ax [3,4,5,6,7] w (fm C) w' aQ):ax [3,4,5] w C w' (K.eR w.heap.size C aQ):=
 ⟨h.ext.mono (λb _ hc=>by
  simp only[List.mem_cons,List.not_mem_nil,or_false] at hc⊢;unfold K.fm at hc;split at hc<;>(try split at hc)<;>omega),λb hb=>by unfold K.eR;rw[if_pos hb]⟩
theorem HY (h:ax I w (fm C) w' aQ) (hF:aL w C):∀b,au (eR w.heap.size C aQ) b->au aQ b:=λb hb=>by
 unfold au eR at*;by_cases hlt:b<w.heap.size
 ·rw[if_pos hlt] at hb;rw[h.col b hlt];exact(LL C b).2 hb
 ·rw[if_neg hlt] at hb;split at hb<;>omega
theorem sx (h:ax I w (fm C) w' aQ) (hF:aL w C) (LN:aL w' aQ):aL w' (eR w.heap.size C aQ):=λb hb=>LN b (HY h hF b hb)
theorem LO (h:ax I w (fm C) w' aQ) {j:Nat} (hj:j=3\/j=4\/j=5) (hb:aQ b=j):eR w.heap.size C aQ b=j:=by
 unfold eR;by_cases hlt:b<w.heap.size
 ·rw[if_pos hlt];have h1:=h.col b hlt;rw[hb] at h1;unfold fm at h1;split at h1
  ·exact h1.symm
  ·split at h1<;>omega
 ·rw[if_neg hlt,hb,if_pos hj]
theorem cE.eR (ho:cE w' aQ j b o) (h:ax I w (K.fm C) w' aQ) (hj:j=3\/j=4\/j=5):cE w' (K.eR w.heap.size C aQ) j b o:=⟨LO h hj ho.col,ho.at_⟩
theorem bg.eR (ho:bg w' aQ j e v ys) (h:ax I w (K.fm C) w' aQ) (hF:aL w C) (hj:j=3\/j=4\/j=5):bg w' (K.eR w.heap.size C aQ) j e v ys:=
 ⟨ho.own.sub (λb _ hb=>HY h hF b hb) (λb hb=>by unfold au;rw[LO h hj (ho.col b hb)];omega),λb hb=>LO h hj (ho.col b hb)⟩
theorem fI.eR (hr:fI w' aQ j e us rows) (h:ax I w (K.fm C) w' aQ) (hF:aL w C) (hj:j=3\/j=4\/j=5):fI w' (K.eR w.heap.size C aQ) j e us rows:=⟨hr.len,λk h1 h2=>(hr.own k h1 h2).eR h hF hj,hr.uq⟩
theorem av.eR (hr:av w' (au aQ) x v) (h:ax I w (K.fm C) w' aQ) (hF:aL w C):av w' (au (K.eR w.heap.size C aQ)) x v:=hr.mM (HY h hF)
theorem av.fm (hr:av w (au C) x v):av w (au (K.fm C)) x v:=by rw[LM];exact hr
theorem gp.fm {ds:List bC} (h:gp w (au C) ds v):gp w (au (K.fm C)) ds v:=by rw[LM];exact h
theorem bg.HZ {xs:List ak} (h:bg w' aQ j e v xs) (hs:ax [] w ji w' aQ) (hj:j≠0) (hF:aL w D) (hl:xs.length<=9223372036854775807):av w' (au D) xs v:=by
 rcases h.own with⟨rfl,rfl⟩|⟨g,cap,cs,hv,hg,hc,h1,h2,h3⟩
 ·exact gu
 ·subst hv;have kr:=h.col g rfl;have hn:¬au D g:=λhD=>by
   have:=hs.col g (hF g hD);rw[kr] at this;exact hj this
  exact ko.2 ⟨_,cap,rfl,h1,hl,.inr ⟨g,0,rfl,hn,cs,e,_,hc,by rw[Nat.zero_add,h2];exact Nat.mul_le_mul_right _ h1,λi hi=>by rw[Nat.zero_add];exact qb.2 (qb.1 (h3 i hi))⟩⟩
theorem bg.RY (ho:bg w' aQ j e v ys) (h:ax I w (K.fm C) w' aQ) (hF:aL w C) (hj:6<=j) (hl:ys.length<=9223372036854775807):av w' (au (K.eR w.heap.size C aQ)) ys v:=
 ho.own.read (λb _ hb=>⟨HY h hF b hb,λHO=>by
  have hc:=ho.col b HO;unfold au K.eR at hb;by_cases hlt:b<w.heap.size
  ·have:=h.col b hlt;have h2:=xE C b;omega
  ·rw[if_neg hlt] at hb;split at hb<;>omega⟩) hl
end
def H6 (Zz qE pq:Nat) (w:World) (C:Nat->Nat) (b:Nat) (bz c4 e7:Value) (rows:List (List ak)) (st:iW):Prop:=
 ∃vs us iX,cE w C 3 b (.cells [bz,c4,e7,vs,.bool st.found,iX,.int .i64 st.val].toArray Zz)/\bg w C 4 qE vs (us.map gC.mk)/\fI w C 5 pq us rows/\av w (au C) st.best iX
section
variable {w w':World} {C aQ:Nat->Nat} {us:List Value} {rows:List (List ak)} {pq:Nat}
theorem fI.one (h:fI w C 5 pq us rows):∀k (hk:k<us.length),us[k].oneCell'=true:=λk hk=>((h.own k hk (by rw[<-h.len];exact hk)).one).2
end
theorem gp.c0 {w:World} {M:Nat->Prop} {ds:List bC} {v:Value} (h:gp w M ds v):gp w (au ji) ds v:=h.sub (λb hb=>absurd rfl hb)
section
variable {l:List aD} {ds:List bC} {rows:List (List ak)} {refs:List ak} {r:ak} {i k:Nat} {st:iW} {C:Nat->Nat} {w:World} {us:List Value} {pq j:Nat} {xs:List ak}
theorem RZ {s:List ak} {r:ak}:oy ds s r=!(s.any λx=>eU ds x r):=rfl
theorem ZA (hk:k<rows.length) (hk2:k<(rows.set k (rows[k]++[r])).length) {i:Int} (hi:i=(((rows.set k (rows[k]++[r]))[k]'hk2).length:Int)-1): (rows.set k (rows[k]++[r])).set k (((rows.set k (rows[k]++[r]))[k]'hk2).take i.toNat)=rows:=by
 have e: (rows.set k (rows[k]++[r]))[k]'hk2=rows[k]++[r]:=by rw[List.getElem_set];simp
 rw[e] at hi⊢;have:i.toNat=rows[k].length:=by simp at hi;omega
 rw[this,List.set_set,List.take_left']
 ·simp
 ·rfl
theorem kN.R1 (h:kN ds xs rows):rows.length<=xs.length:=by
 have:=h.heads.length_le;rwa [List.length_map] at this
theorem LP (hi:i<refs.length):refs.take (i+1)=refs.take i++[refs[i]]:=List.take_succ_eq_append_getElem hi
theorem ZB (hk:k<rows.length) (h:oy ds rows[k] r=true) (rs:List ak):rF l ds r rs rows st (k+1)=sw l ds rs (rows.set k (rows[k]++[r])) (rF l ds r rs rows st k):=by
 rw[rF,qe hk,if_pos h]
theorem ZC (hk:k<rows.length) (h:oy ds rows[k] r=false) (rs:List ak):rF l ds r rs rows st (k+1)=rF l ds r rs rows st k:=by
 rw[rF,qe hk,if_neg (by rw[h];decide)]
theorem kN.R2 (h:kN ds (refs.take i) rows) (hi:i<refs.length) (hk:k<rows.length) (hok:oy ds rows[k] refs[i]=true):kN ds (refs.take (i+1)) (rows.set k (rows[k]++[refs[i]])):=by
 rw[LP hi];have:=h.put hk (r:=refs[i]) (by rw[qe hk];exact hok);rwa [qe hk] at this
theorem kN.new' (h:kN ds (refs.take i) rows) (hi:i<refs.length):kN ds (refs.take (i+1)) (rows++[[refs[i]]]):=by
 rw[LP hi];exact h.new _
theorem fI.ZD {rows:List (List ak)} (h:fI w C j pq us (rows++[xs])) {n:Nat} (hn:n=rows.length):fI w C j pq (us.take n) rows:=by
 have hl:=h.len;simp only[List.length_append,List.length_cons,List.length_nil] at hl;have e:us=us.take n++[us[n]'ah]:=by
  rw[<-List.take_succ_eq_append_getElem];exact(List.take_of_length_le ah).symm
 rw[e] at h;exact h.pop rT
end
section
variable {α:Type} [aZ α] {w:World} {C:Nat->Nat} {P:Program} {f:FuncId} {N:Nat} {Q:Exit->Act->World->Prop} {env:Env} {ops:Array Oper} {S:World->Prop} {i t:Nat} {L:List (Nat×Bool)} {y z:Operand} {gq:Option (Nat×Bool)} {ty e e':TypeId} {us:List Value} {rows:List (List α)} {j k:Nat} {kd:IntKind} {n:Int}
theorem fI.ZE (h:fI w C j e us rows) (hop:cv ops i=some (some t,.slice ty y none (some z) none,gq)) (hw:ec ops env gq=some true) (ht:Nat.blt t N=true) (hk:k<us.length) (hk':k<rows.length) (hy:ev env y=some us[k])
  (hf:jS P ty=some (e',sz α)) (hz:ev env z=some (.int kd n)) (h0:0<=n) (h1:n<=rows[k].length) (hne:0<rows[k].length)
  (hn:∀v2,fI w C j e (us.set k v2) (rows.set k (rows[k].take n.toNat))->bO P N Q ops S L ((t,v2)::env) w):bO P N Q ops S ((i,true)::L) env w:=by
 obtain⟨v2,h2,h3⟩:=h.cut (P:=P) (N:=N) hk hk' hy hf hz h0 h1 hne;exact kI hop hw ht (λw' _=>h3 w') (hn v2 h2)
end
def mO (w:World) (C:Nat->Nat) (m:List (ak×gC)) (rs:List ak) (g:ak->List ak):Prop:=∀r∈rs,∃s:gC,fe m r=some s/\av w (au C) (g r) s.v
section
variable {w w':World} {C aQ:Nat->Nat} {I:List Nat} {m:List (ak×gC)} {rs:List ak} {g g':ak->List ak} {l:List aD} {ds:List bC} {v:Value} {both:List ak} {b:aD}
theorem mO.st (h:mO w C m rs g) (hs:ax I w C w' aQ) (h0:0∉I):mO w' aQ m rs g:=λr hr=>let⟨s,h1,h2⟩:=h r hr;⟨s,h1,h2.st hs h0⟩
theorem mO.t (h:mO w C m rs g) (hs:ax I w C w' aQ) (h0:0∉I:=by first|decide|(simp<;>omega)):mO w' aQ m rs g:=h.st hs h0
theorem mO.nil:mO w C m [] g:=λr hr=>by cases hr
theorem mO.look (h:mO w C m rs g) {r:ak} (hr:r∈rs):∃v,((fe m r).getD ⟨.slice none 0 0⟩).v=v/\av w (au C) (g r) v:=by
 obtain⟨s,h1,h2⟩:=h r hr;exact⟨s.v,by rw[h1];rfl,h2⟩
theorem mO.put (h:mO w C m rs g) {q:ak} (hv:av w (au C) both v) (hg:∀r∈rs,g' r=if q=r then both else g r):mO w C (iu m q ⟨v⟩) rs g':=λr hr=>by
 rw[nN,hg r hr];by_cases e:q=r
 ·rw[if_pos e,if_pos e];exact⟨⟨v⟩,rfl,hv⟩
 ·rw[if_neg e,if_neg e];exact h r hr
theorem mO.add (h:mO w C m rs λr=>[r]) {q:ak} (hv:av w (au C) [q] v):mO w C (iu m q ⟨v⟩) (rs++[q]) λr=>[r]:=λr hr=>by
 rw[nN];by_cases e:q=r
 ·subst e;rw[if_pos rfl];exact⟨⟨v⟩,rfl,hv⟩
 ·rw[if_neg e];rcases List.mem_append.1 hr with h1|h1
  ·exact h r h1
  ·exact absurd (List.mem_singleton.1 h1).symm e
theorem jN.sub (h:jN l ds g) {r:ak} (hr:r∈aO l):∀q∈g r,q∈aO l:=λq hq=>by
 by_cases h2:2<=(g r).length
 ·exact RE (h.join r) h2 (h.nd r) hq
 ·have hs:=h.self r
  match hg:g r,h2,hs,hq with
  |[x],_,hs,hq=>rw[List.mem_singleton] at hs hq;rw[hq,<-hs];exact hr
  |[],_,hs,_=>cases hs
  |x::y::t,h2,_,_=>simp at h2
theorem jN.len (h:jN l ds g) {r:ak} (hr:r∈aO l): (g r).length<=2*l.length:=by
 have h1:=(h.nd r).length_le_of_subset (h.sub hr);have:=lJ l;omega
def zj (g:ak->List ak) (both:List ak) (j:Nat):ak->List ak:=λr=>if r∈both.take j then both else g r
theorem ZF:zj g both 0=g:=by funext r;unfold zj;rw[if_neg aF]
theorem ZH {j:Nat} (hj:j<both.length) (r:ak):zj g both (j+1) r=if both[j]=r then both else zj g both j r:=by
 unfold zj;rw[List.take_succ_eq_append_getElem hj];by_cases e:both[j]=r
 ·rw[if_pos e,if_pos (by rw[List.mem_append,List.mem_singleton];exact .inr e.symm)]
 ·rw[if_neg e];by_cases h:r∈both.take j
  ·rw[if_pos h,if_pos (List.mem_append.2 (.inl h))]
  ·rw[if_neg h,if_neg (λh2=>(List.mem_append.1 h2).elim h (λh3=>e (List.mem_singleton.1 h3).symm))]
theorem H7 (h:b.B∈g b.A\/vQ ds (g b.A) (g b.B)=true):pn ds g b=g:=by unfold pn;rw[if_pos h]
theorem ZI (h1:b.B∉g b.A) (h2:vQ ds (g b.A) (g b.B)=false):pn ds g b=zj g (g b.A++g b.B) (g b.A++g b.B).length:=by
 unfold pn zj;rw[if_neg (λh=>h.elim h1 (λe=>by rw[h2] at e;cases e)),List.take_length]
theorem ZJ {ord:List aD} {k:Nat} (h:k<ord.length):dW ds (ord.take (k+1))=pn ds (dW ds (ord.take k)) ord[k]:=by
 unfold dW;rw[List.take_succ_eq_append_getElem h,List.foldl_append];rfl
theorem ZK {refs:List ak} {i:Nat} (h:i<refs.length):nq (refs.take (i+1)) g=if vS g refs[i]=true then nq (refs.take i) g++[jJ (g refs[i])] else nq (refs.take i) g:=by
 unfold nq;rw[List.take_succ_eq_append_getElem h,List.filter_append];by_cases e:vS g refs[i]=true
 ·rw[if_pos e,List.filter_cons_of_pos e];simp
 ·rw[if_neg e,List.filter_cons_of_neg e];simp
theorem R3 (refs:List ak): (nq refs g).length<=refs.length:=by
 unfold nq;rw[List.length_map];exact List.length_filter_le _ _
end
def fQ (x y:List ak):Int:=jq (x.headD ⟨0,0⟩) (y.headD ⟨0,0⟩)
theorem H8 {x y:List ak} (hx:0<x.length) (hy:0<y.length):fQ x y=jq x[0] y[0]:=by
 unfold fQ;rw[List.headD_eq_head?_getD,List.headD_eq_head?_getD,List.head?_eq_getElem?,List.head?_eq_getElem?,List.getElem?_eq_getElem hx,List.getElem?_eq_getElem hy];rfl
theorem R4:mA jq (λ_=>True):=⟨λx y _ _=>by
 rw[(zg (x:=x) (y:=y)).1,(zg (x:=y) (y:=x)).2.2],λx y z _ _ _ h1 h2=>by
 have a:=(zg (x:=x) (y:=y)).2.2;have b:=(zg (x:=y) (y:=z)).2.2;have c:=(zg (x:=x) (y:=z)).2.2;have yW:¬AX y x:=λh=>by have:=a.2 h;omega
 have Aw:¬AX z y:=λh=>by have:=b.2 h;omega
 refine Int.not_lt.1 λh=>?_;have h3:=c.1 h;unfold AX at yW Aw h3;omega⟩
theorem A4:mA fQ (λ_=>True):=⟨λx y _ _=>by unfold fQ;exact R4.1 _ _ trivial trivial,λx y z _ _ _=>by unfold fQ;exact R4.2 _ _ _ trivial trivial trivial⟩
section
variable {α:Type} {ys zs:List α} {σ:Nat->Nat}
theorem fT.sub (h:fT ys σ zs):∀x∈zs,x∈ys:=λx hx=>by
 obtain⟨i,hi,rfl⟩:=List.getElem_of_mem hx;have hi':i<ys.length:=by rw[<-h.len];exact hi
 rw[h.get hi'];exact List.getElem_mem _
end
noncomputable def ER (ds:List bC) (l:List aD):List (List ak)×Int:=(rG l ds,0)
noncomputable def dJ (ds:List bC) (l:List aD):List (List ak)×Int:=if((aO l).length:Int)<=8 then(qg l ds,0) else(rG l ds,0)
def R5 (P:Program) (g:Nat) (l:List aD) (ds:List bC) (wf:List aD->List (List ak)×Int):Prop:=
 ∀(w1:World) (a_:Nat->Nat) (i:Nat) (hi:i<(aP l).length) (LQ bz c4:Value),aL w1 a_->av w1 (au a_) (aP l)[i] LQ->gp w1 (au a_) ds c4->
  Calls P g #[.agg #[bz,c4],LQ] w1 (bH λv w'=>∃bX,v=.tuple #[bX,.int .i64 (wf (aP l)[i]).2]/\ax [] w1 a_ w' a_/\av w' (au a_) (wf (aP l)[i]).1 bX)
def eu (wf:List aD->List (List ak)×Int) (ps:List (List aD)):List (List ak):=ps.flatMap λp=>(wf p).1
theorem ur {wf:List aD->List (List ak)×Int} {ps:List (List aD)} {k:Nat} (h:k<ps.length):eu wf (ps.take (k+1))=eu wf (ps.take k)++(wf ps[k]).1:=by
 unfold eu;rw[List.take_succ_eq_append_getElem h,List.flatMap_append];simp
theorem xF {wf:List aD->List (List ak)×Int} {ps:List (List aD)} (k:Nat): (eu wf (ps.take k)).length<=(eu wf ps).length:=by
 have:eu wf ps=eu wf (ps.take k)++eu wf (ps.drop k):=by unfold eu;rw[<-List.flatMap_append,List.take_append_drop]
 rw[this,List.length_append];omega
section
variable {pr:Int} {eD df:List Int} {lo hi hi':Int} {p:Nat} {fl Rl:List Int} {ok:Bool}
end
def qF (eD df:List Int) (p i:Nat):Int:=eD.getD i 0-HL eD df p i
section
variable {eD df:List Int} {p n k st:Nat} {s t hi:Int} {gs l m:List ak}
end
section
variable {pr:Int} {eD df:List Int} {lo hi:Int} {p n:Nat} {fl:List Int} {ok:Bool} {s:Int}
end
section
variable {pr:Int} {eD df:List Int} {lo hi:Int} {p n:Nat} {fl:List Int} {s:Int}
end
section
variable {α:Type} {c:α->α->Int}
theorem fH.LR {ys:List α} {L:List (Fin ys.length)} (ud:L.Perm (List.finRange ys.length)) (qG:L.Pairwise λi j=>fB c ys i.val j.val):fH c ys (L.map λi=>ys[i.val]):=by
 have hlen:L.length=ys.length:=by rw[ud.length_eq,List.length_finRange]
 have jv:L.Nodup:=ud.nodup_iff.2 (List.nodup_finRange _);refine⟨λi=>if h:i<L.length then L[i].val else i,⟨by rw[List.length_map,hlen],λi hi=>?_⟩,⟨λi hi=>?_,λi h1 h2=>?_,λi j e=>?_⟩,λi j h1 h2 h3=>?_⟩
 ·have hi2:i<L.length:=by omega
  rw[dif_pos hi2];refine⟨L[i].isLt,?_⟩;rw[List.getElem?_map,List.getElem?_eq_getElem hi2,List.getElem?_eq_getElem L[i].isLt];rfl
 ·rw[dif_neg ah]
 ·rw[dif_pos (show i<L.length by omega)];exact⟨Nat.zero_le _,L[i].isLt⟩
 ·by_cases hi:i<L.length
  ·by_cases hj:j<L.length
   ·simp only[dif_pos hi,dif_pos hj] at e;rcases Nat.lt_trichotomy i j with h|h|h
    ·exact absurd (Fin.ext e) (List.pairwise_iff_getElem.1 (List.nodup_iff_pairwise_ne.1 jv) i j hi hj h)
    ·exact h
    ·exact absurd (Fin.ext e.symm) (List.pairwise_iff_getElem.1 (List.nodup_iff_pairwise_ne.1 jv) j i hj hi h)
   ·simp only[dif_pos hi,dif_neg hj] at e;have:=L[i].isLt;omega
  ·by_cases hj:j<L.length
   ·simp only[dif_neg hi,dif_pos hj] at e;have:=L[j].isLt;omega
   ·simp only[dif_neg hi,dif_neg hj] at e;exact e
 ·simp only[dif_pos (show i<L.length by omega),dif_pos (show j<L.length by omega)];exact List.pairwise_iff_getElem.1 qG i j ah ah h2
theorem fH.ex (hc:mA c (λ_=>True)) (ys:List α):∃zs,fH c ys zs:=by
 classical
 have hP:∀x∈ys,(λ_:α=>True) x:=λ_ _=>trivial;obtain⟨L,hL⟩:∃L,L=(List.finRange ys.length).mergeSort (λi j=>decide (¬fB c ys j.val i.val)):=⟨_,rfl⟩
 have ud:L.Perm (List.finRange ys.length):=by rw[hL];exact List.mergeSort_perm _ _
 have jv:L.Nodup:=ud.nodup_iff.2 (List.nodup_finRange _);have qG:L.Pairwise λi j=>fB c ys i.val j.val:=by
  have h1:L.Pairwise λi j=>(decide (¬fB c ys j.val i.val))=true:=by
   rw[hL];refine List.pairwise_mergeSort (λi j k h1 h2=>?_) (λi j=>?_) _
   ·simp only[decide_eq_true_eq] at*;intro h3;by_cases e1:i=j
    ·subst e1;exact h2 h3
    ·have h4:=(Ld hc hP i.isLt j.isLt (λe=>e1 (Fin.ext e))).resolve_right h1;exact h2 (Lc hc hP h3 h4)
   ·simp only[Bool.or_eq_true,decide_eq_true_eq];by_cases h:fB c ys j.val i.val
    ·exact .inr (λh'=>Q7 hc hP h h')
    ·exact .inl h
  refine(h1.and (List.nodup_iff_pairwise_ne.1 jv)).imp λ{i j} ⟨h2,h3⟩=>?_;simp only[decide_eq_true_eq] at h2;exact(Ld hc hP i.isLt j.isLt (λe=>h3 (Fin.ext e))).resolve_right h2
 exact⟨_,fH.LR ud qG⟩
end
section
variable {eD df:List Int} {p n:Nat} {gs:List ak}
def ES (gs:List ak) (k i:Nat):Bool:=decide ((i:Int)∈(gs.take k).map (·.a))
structure CZ (eD df:List Int) (p:Nat) (gs:List ak) (k i:Nat) (b:Int):Prop where
 none_:b<0->b= -1/\∀q,q<i->ES gs k q=true\/qF eD df p q<=0
 some_:0<=b->b.toNat<i/\ES gs k b.toNat=false/\0<qF eD df p b.toNat/\∀q,q<i->ES gs k q=true\/qF eD df p q<=0\/qF eD df p q<qF eD df p b.toNat\/(qF eD df p q=qF eD df p b.toNat/\b.toNat<=q)
theorem CZ.take {k i:Nat} {b:Int} (h:CZ eD df p gs k i b) (h1:ES gs k i=false) (h2:0<qF eD df p i) (h3:b<0\/qF eD df p b.toNat<qF eD df p i):CZ eD df p gs k (i+1) i:=by
 refine⟨λe=>by omega,λ_=>?_⟩;rw[Int.toNat_natCast];refine⟨by omega,h1,h2,λq hq=>?_⟩;by_cases e:q=i
 ·subst e;exact .inr (.inr (.inr ⟨rfl,Nat.le_refl _⟩))
 ·by_cases hb:b<0
  ·rcases(h.none_ hb).2 q ah with h4|h4
   ·exact .inl h4
   ·exact .inr (.inl h4)
  ·have h3:=h3.resolve_left hb;rcases(h.some_ ah).2.2.2 q ah with h4|h4|h4|⟨h4,_⟩
   ·exact .inl h4
   ·exact .inr (.inl h4)
   ·exact .inr (.inr (.inl ah))
   ·exact .inr (.inr (.inl ah))
theorem CZ.skip {k i:Nat} {b:Int} (h:CZ eD df p gs k i b) (h1:ES gs k i=true\/qF eD df p i<=0\/(0<=b/\qF eD df p i<=qF eD df p b.toNat)):CZ eD df p gs k (i+1) b:=by
 refine⟨λe=>⟨(h.none_ e).1,λq hq=>?_⟩,λe=>?_⟩
 ·by_cases eq:q=i
  ·subst eq;rcases h1 with h1|h1|h1
   ·exact .inl h1
   ·exact .inr h1
   ·omega
  ·exact(h.none_ e).2 q ah
 ·obtain⟨a1,a2,a3,a4⟩:=h.some_ e;refine⟨by omega,a2,a3,λq hq=>?_⟩;by_cases eq:q=i
  ·subst eq;rcases h1 with h1|h1|⟨_,h1⟩
   ·exact .inl h1
   ·exact .inr (.inl h1)
   ·by_cases fA:qF eD df p q<qF eD df p b.toNat
    ·exact .inr (.inr (.inl fA))
    ·exact .inr (.inr (.inr ⟨by omega,by omega⟩))
  ·exact a4 q ah
end
def oC (x y:ak):Bool:=decide (x.a<y.a)||(decide (x.a=y.a)&&decide (x.b<y.b))
theorem ET {x y:ak}:oC x y=true↔x.a<y.a\/(x.a=y.a/\x.b<y.b):=by unfold oC;simp
def fM:List ak->ak->List ak
 |[],c=>[c]
 |x::l,c=>if oC x c=true then x::fM l c else if x=c then x::l else c::x::l
theorem R6 {c:ak}:∀{l:List ak} {k:Nat},k<=l.length->(∀i (hi:i<k) (h:i<l.length),oC l[i] c=true)->(∀h:k<l.length,oC l[k] c=false)->
  fM l c=if h:k<l.length then(if l[k]=c then l else l.take k++c::l.drop k) else l++[c]
 |[],k,hk,_,_=>by simp at hk;subst hk;simp[fM]
 |x::l,0,_,_,h2=>by
  have:=h2 aF;simp only[List.getElem_cons_zero] at this;simp only[fM,this,Bool.false_eq_true,if_false];simp
 |x::l,k+1,hk,h1,h2=>by
  have h0:=h1 0 ah aF;simp only[List.getElem_cons_zero] at h0;have ih:=R6 (c:=c) (l:=l) (k:=k) (by simpa using hk) (λi hi h=>by have:=h1 (i+1) ah (by simpa using h);simpa using this) (λh=>by have:=h2 (by simpa using h);simpa using this);simp only[fM,h0,if_true,ih,List.length_cons,Nat.add_lt_add_iff_right,List.getElem_cons_succ,List.take_succ_cons,List.drop_succ_cons];split
  ·split<;>simp
  ·simp
theorem A5 {c x:ak}:∀{l:List ak},x∈fM l c↔x=c\/x∈l
 |[]=>by simp[fM]
 |y::l=>by
  have ih:=A5 (c:=c) (x:=x) (l:=l);unfold fM;split
  ·simp only[List.mem_cons,ih];constructor
   ·rintro(h|h|h)<;>simp[h]
   ·rintro(h|h|h)<;>simp[h]
  ·split
   ·rename_i e;subst e;simp
   ·simp
theorem H9 {c:ak}:∀{l:List ak},l.Pairwise (λx y=>oC x y=true)->(fM l c).Pairwise (λx y=>oC x y=true)
 |[],_=>by simp[fM]
 |y::l,h=>by
  obtain⟨h1,h2⟩:=List.pairwise_cons.1 h;unfold fM;split
  ·rename_i hy;refine List.pairwise_cons.2 ⟨λz hz=>?_,H9 h2⟩;rcases A5.1 hz with e|hz
   ·rw[e];exact hy
   ·exact h1 z hz
  ·split
   ·exact h
   ·rename_i hn he;have H_:oC c y=true:=by
     rw[ET] at hn⊢;by_cases ea:y.a=c.a
     ·by_cases eb:y.b=c.b
      ·exact absurd (by cases y;cases c;simp only at ea eb;rw[ea,eb]) he
      ·omega
     ·omega
    refine List.pairwise_cons.2 ⟨λz hz=>?_,h⟩;rcases List.mem_cons.1 hz with e|hz
    ·rw[e];exact H_
    ·have:=h1 z hz;rw[ET] at this H_⊢;omega
def uu (l:List ak):List ak:=l.foldl fM []
theorem R7 (l:List ak) (c:ak):uu (l++[c])=fM (uu l) c:=by unfold uu;rw[List.foldl_append];rfl
theorem LS:∀(l:List ak) (a:List ak),a.Pairwise (λx y=>oC x y=true)->(l.foldl fM a).Pairwise (λx y=>oC x y=true)/\∀x,x∈l.foldl fM a↔x∈a\/x∈l
 |[],a,h=>⟨h,λx=>by simp⟩
 |c::l,a,h=>by
  obtain⟨h1,h2⟩:=LS l (fM a c) (H9 h);refine⟨h1,λx=>?_⟩;rw[List.foldl_cons,h2,A5,List.mem_cons];constructor
  ·rintro((h|h)|h)<;>simp[h]
  ·rintro(h|h|h)<;>simp[h]
theorem zk (c:ak):∀a:List ak,(fM a c).length<=a.length+1
 |[]=>by simp[fM]
 |y::a=>by
  have:=zk c a;unfold fM;split
  ·simp only[List.length_cons];omega
  ·split<;>simp
theorem ZL (l:List ak): (uu l).length<=l.length:=by
 have:∀(l a:List ak),(l.foldl fM a).length<=a.length+l.length:=by
  intro l;induction l with
  |nil=>intro a;simp
  |cons c l ih=>
   intro a;have h1:=ih (fM a c);have h2:=zk c a;rw[List.foldl_cons,List.length_cons];omega
 have:=this l [];simpa[uu] using this
end Go.K
