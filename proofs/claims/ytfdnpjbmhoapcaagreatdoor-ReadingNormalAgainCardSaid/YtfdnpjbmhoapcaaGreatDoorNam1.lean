/-
  Contracts of functions of this seat, for every input that each theorem names.
-/
import Derived.Test.YtfdnpjbmhoapcaaGreatDoorNas1
import Derived.Lib.ItoaLen
import Derived.Test.YtfdnpjbmhoapcaaGreatDoorNax1
set_option linter.all false
set_option maxHeartbeats 32000000
set_option maxRecDepth 10000
namespace Go.AX
noncomputable section
def Ap (c:Nat):Bool:=decide (97<=c/\c<=122\/48<=c/\c<=57\/c=32\/c=45)
structure dH where
 fr:Int
 to:Int
 l:Nat
 c:Int
structure jU where
 st:Int
 c:Int
structure aY where
 n:Int
 aW:List dH
 ends:List jU
def kX (a b:dH):Bool:=decide (a.fr<b.fr\/a.fr=b.fr/\(a.to<b.to\/a.to=b.to/\a.l<b.l))
def kY (n:Int)(x:dH):Prop:=0<=x.fr/\x.fr<x.to/\x.to<n/\Ap x.l=true/\0<=x.c/\x.c<=1000000
def Gk (n:Int)(x:jU):Prop:=0<=x.st/\x.st<n/\0<=x.c/\x.c<=1000000
def QQ (n:Int)(l:List dH)(j:Nat):Prop:=∀x,l[j]?=some x->kY n x/\∀y,0<j->l[j-1]?=some y->kX y x=true
def Sp (n:Int)(l:List jU)(j:Nat):Prop:=∀x,l[j]?=some x->Gk n x/\∀y,0<j->l[j-1]?=some y->y.st<x.st
def fH (n:Int)(l:List dH):Prop:=∀j,QQ n l j
def gK (n:Int)(l:List jU):Prop:=∀j,Sp n l j
open Classical in
def bH (A:aY):Int:=if 400<A.n\/4000<A.aW.length\/400<A.ends.length then 2 else if A.n<1 then 1 else if fH A.n A.aW/\gK A.n A.ends then 0 else 1
structure cI where
 letter:Nat
 to:Nat
 cost:Int
structure aw where
 ak:List cI
 fin:Int
structure eG (C:Type) where
 start:C
 step:C->Nat->List (C×Int)
 fin:C->Option Int
 live:C->Bool
abbrev ff:=List Nat->Option Int
namespace ff
def BC (L:ff)(a:Nat):ff:=λs=>L (a :: s)
def Gi (L:ff)(u:List Nat):ff:=λs=>L (u++s)
end ff
def ft (L:ff)(m:Int):Prop:=(∃s,L s=some m)/\∀s k,L s=some k->m<=k
def iI (L:ff)(d:Nat):Prop:=(∃s k,L s=some k/\s.length=d)/\∀s k,L s=some k->s.length<=d
def na (L:ff)(m:Int):ff:=λs=>(L s).map (·-m)
def ft.uniq {L:ff}{m k:Int}(h:ft L m)(g:ft L k):m=k:=by
 obtain⟨s,hs⟩:=h.1;obtain⟨t,ht⟩:=g.1;have:=h.2 t k ht;have:=g.2 s m hs;omega
def iI.uniq {L:ff}{m k:Nat}(h:iI L m)(g:iI L k):m=k:=by
 obtain⟨s,_,hs,rfl⟩:=h.1;obtain⟨t,_,ht,rfl⟩:=g.1;have:=h.2 t _ ht;have:=g.2 s _ hs;omega
def ly {L:ff}{m k:Int}{s:List Nat}:na L m s=some k↔L s=some (k+m):=by
 unfold na;rw[qQC];constructor
 .rintro⟨x,hx,rfl⟩;rw[hx];congr 1;omega
 .intro h;exact⟨_,h,by omega⟩
def kn (L:ff):na L 0=L:=by
 funext s;unfold na;cases L s<;>simp
def mc (L:ff)(m k:Int):na (na L m) k=na L (m+k):=by
 funext s;unfold na;cases L s with
 |none=>rfl
 |some x=>simp;omega
def Yp {L M:ff}{m:Int}(h:na L m=na M m):L=M:=by
 have:=congrArg (λX=>na X (-m)) h;simp only[mc]at this;rw[show m+-m=0 by omega,kn,kn]at this;exact this
def ft.na {L:ff}{m k:Int}(h:ft L m):ft (na L k) (m-k):=by
 refine⟨?_,λs x hs=>?_⟩
 .obtain⟨s,hs⟩:=h.1;exact⟨s,ly.2 (by rw[hs];congr 1;omega)⟩
 .have:=h.2 s _ (ly.1 hs);omega
def ft.acS {L:ff}{m k:Int}(h:ft (Go.AX.na L k) m):ft L (m+k):=by
 have:=ft.na (k:=-k) h;rw[mc,show k+-k=0 by omega,kn]at this
 rwa [show m - -k=m+k by omega]at this
def iI.na {L:ff}{d:Nat}{k:Int}(h:iI L d):iI (Go.AX.na L k) d:=by
 refine⟨?_,λs x hs=>?_⟩
 .obtain⟨s,x,hs,hl⟩:=h.1;exact⟨s,x-k,ly.2 (by rw[hs];congr 1;omega),hl⟩
 .exact h.2 s _ (ly.1 hs)
def At (L:ff)(u:List Nat)(R:ff):Prop:=(u=[]/\R=L)\/(u≠[]/\∃m,ft (L.Gi u) m/\R=na (L.Gi u) m)
def Dh (L R:ff):Prop:=∃u,At L u R
def lexB:List Nat->List Nat->Bool
 |_,[]=>false
 |[],_ :: _=>true
 |a :: u,b :: v=>decide (a<b) || (decide (a=b) && lexB u v)
def nU:∀u,lexB u u=false
 |[]=>rfl
 |a :: u=>by simp[lexB,nU u]
def si:∀u v,lexB u v=false->lexB v u=false->u=v
 |[],[],_,_=>rfl
 |[],b :: v,h,_=>by cases h
 |a :: u,[],_,h=>by cases h
 |a :: u,b :: v,h,g=>by
  simp only[lexB,Bool.or_eq_false_iff,decide_eq_false_iff_not,Bool.and_eq_false_iff]at h g;have Ix:a=b:=by omega
  subst Ix;rw[si u v (by simpa using h.2) (by simpa using g.2)]
def qB:∀u v w,lexB u v=true->lexB v w=true->lexB u w=true
 |_,_,[],_,h=>by cases ‹List Nat›<;>simp[lexB]at h
 |[],_,_ :: _,_,_=>rfl
 |a :: u,[],_ :: _,h,_=>by simp[lexB]at h
 |a :: u,b :: v,c :: w,h,g=>by
  simp only[lexB,qKC,decide_eq_true_eq,qZQ]at h g ⊢;rcases h with h|⟨rfl,h⟩
  .rcases g with g|⟨rfl,g⟩
   .exact .inl (by omega)
   .exact .inl h
  .rcases g with g|⟨rfl,g⟩
   .exact .inl g
   .exact .inr ⟨rfl,qB u v w h g⟩
def Ax {u v:List Nat}(h:lexB u v=true):lexB v u=false:=by
 cases hv:lexB v u with
 |false=>rfl
 |true =>
  have:=qB u v u h hv;rw[nU]at this;cases this
def LP (L R:ff)(u:List Nat):Prop:=At L u R/\∀v,At L v R->lexB v u=false
def LP.uniq {L R:ff}{u v:List Nat}(h:LP L R u)(g:LP L R v):u=v:=si u v (g.2 u h.1) (h.2 v g.1)
def oU (L R R':ff):Prop:=∃d d',iI R d/\iI R' d'/\(d'<d\/d=d'/\∃u u',LP L R u/\LP L R' u'/\lexB u u'=true)
def oU.asymm {L R R':ff}(h:oU L R R')(g:oU L R' R):False:=by
 obtain⟨d,d',h1,h2,h3⟩:=h;obtain⟨e,e',g1,g2,g3⟩:=g;obtain rfl:=h1.uniq g2;obtain rfl:=h2.uniq g1;rcases h3 with h3|⟨h3,u,u',a1,a2,a3⟩
 .rcases g3 with g3|⟨g3,_⟩<;>omega
 .rcases g3 with g3|⟨g3,v,v',b1,b2,b3⟩
  .omega
  .obtain rfl:=a1.uniq b2;obtain rfl:=a2.uniq b1;rw[Ax a3]at b3;cases b3
structure jZ (L:ff)(A:aY):Prop where
 ex:∃Rs:List ff,(∀R,R∈Rs↔Dh L R)/\Rs.Pairwise (oU L)/\A.n=(Rs.length:Int) /\
  (∀x,x∈A.aW↔∃(i j:Nat)(R:ff)(c:Int),Rs[i]?=some R/\ft (R.BC x.l) c/\Rs[j]?=some (na (R.BC x.l) c)/\x=⟨i,j,x.l,c⟩) /\
  (∀x,x∈A.ends↔∃(i:Nat)(R:ff)(f:Int),Rs[i]?=some R/\R []=some f/\x=⟨i,f⟩)
 aW:A.aW.Pairwise (λx y=>kX x y=true)
 ends:A.ends.Pairwise (λx y=>x.st<y.st)
def pU {α:Type}{r:α->α->Prop}(hr:∀x y,r x y->r y x->False):∀{l m:List α},l.Pairwise r->m.Pairwise r->(∀x,x∈l↔x∈m)->l=m
 |[],[],_,_,_=>rfl
 |[],y :: m,_,_,h=>by have:=(h y).2 (by simp);cases this
 |x :: l,[],_,_,h=>by have:=(h x).1 (by simp);cases this
 |x :: l,y :: m,hl,hm,h=>by
  rw[qVX]at hl hm
  have lH:x=y:=by
   rcases qQF.1 ((h x).1 (by simp)) with e|hx
   .exact e
   .rcases qQF.1 ((h y).2 (by simp)) with e|hy
    .exact e.symm
    .exact(hr _ _ (hm.1 x hx) (hl.1 y hy)).elim
  subst lH;congr 1;have nO:∀{k:List α},(∀z,z∈k->r x z)->x∉k:=λhk hx=>hr _ _ (hk x hx) (hk x hx);refine pU hr hl.2 hm.2 λz=>⟨λhz=>?_,λhz=>?_⟩
  .rcases qQF.1 ((h z).1 (by simp[hz])) with e|h2
   .subst e;exact(nO hl.1 hz).elim
   .exact h2
  .rcases qQF.1 ((h z).2 (by simp[hz])) with e|h2
   .subst e;exact(nO hm.1 hz).elim
   .exact h2
def Fs {x y:dH}(h:kX x y=true)(g:kX y x=true):False:=by
 unfold kX at h g;simp only[decide_eq_true_eq]at h g;omega
def jZ.uniq {L:ff}{A B:aY}(H:jZ L A)(G:jZ L B):A=B:=by
 obtain⟨Rs,h1,h2,h3,h4,h5⟩:=H.ex;obtain⟨Ss,g1,g2,g3,g4,g5⟩:=G.ex;obtain rfl:Rs=Ss:=pU (λx y=>oU.asymm) h2 g2 λR=>(h1 R).trans (g1 R).symm;have ha:A.aW=B.aW:=pU (r:=λx y=>kX x y=true) (λx y=>Fs) H.aW G.aW λx=>(h4 x).trans (g4 x).symm;have he:A.ends=B.ends:=pU (r:=λ(x y:jU)=>x.st<y.st) (λx y h g=>by omega) H.ends G.ends λx=>(h5 x).trans (g5 x).symm;cases A;cases B;simp only at h3 g3 ha he;rw[h3,g3,ha,he]
def dC (M:List aw)(c a:Nat):Option cI:=(M[c]?).bind λx=>x.ak.find? λe=>decide (e.letter=a)
def cF (M:List aw):List Nat->Nat->Option Int
 |[],c=>(M[c]?).bind λx=>if 0<=x.fin then some x.fin else none
 |a :: s,c=>(dC M c a).bind λe=>(cF M s e.to).map (·+e.cost)
def aF (M:List aw)(c:Nat):ff:=λs=>cF M s c
def eK (M:List aw):List Nat->Nat->Option (Nat×Int)
 |[],c=>some (c,0)
 |a :: s,c=>(dC M c a).bind λe=>(eK M s e.to).map λp=>(p.1,p.2+e.cost)
def sZ (M:List aw):∀(u s:List Nat)(c:Nat),cF M (u++s) c=(eK M u c).bind λp=>(cF M s p.1).map (·+p.2)
 |[],s,c=>by
  show cF M s c=(cF M s c).map (·+0);cases cF M s c<;>simp
 |a :: u,s,c=>by
  show(dC M c a).bind _=((dC M c a).bind _).bind _;cases dC M c a with
  |none=>rfl
  |some e =>
   show(cF M (u++s) e.to).map _=((eK M u e.to).map _).bind _;rw[sZ M u s e.to];cases eK M u e.to with
   |none=>rfl
   |some p =>
    show((cF M s p.1).map _).map _=(cF M s p.1).map _;cases cF M s p.1 with
    |none=>rfl
    |some k=>simp;omega
def Fk (M:List aw):Prop:=∀(c:Nat)(x:aw)(e:cI),M[c]?=some x->e∈x.ak->e.to<c
def eo {M:List aw}{c a:Nat}{e:cI}(h:dC M c a=some e):∃x,M[c]?=some x/\e∈x.ak/\e.letter=a:=by
 unfold dC at h;rw[qQQ]at h;obtain⟨x,hx,h⟩:=h;exact⟨x,hx,qWG h,by simpa using List.find?_some h⟩
def Sz {l:List cI}(h:l.Pairwise (λx y=>x.letter<y.letter)){e:cI}(he:e∈l):(l.find? λx=>decide (x.letter=e.letter))=some e:=by
 induction l with
 |nil=>cases he
 |cons x l ih =>
  rw[qVX]at h;rcases qQF.1 he with rfl|he
  .simp
  .have:=h.1 e he;rw[List.find?_cons_of_neg (by simp;omega)];exact ih h.2 he
def iF {M:List aw}{c:Nat}{x:aw}{e:cI}(hx:M[c]?=some x)(ha:x.ak.Pairwise (λx y=>x.letter<y.letter))(he:e∈x.ak):dC M c e.letter=some e:=by
 unfold dC;rw[hx];exact Sz ha he
def wm {M N:List aw}{c a:Nat}(hc:c<M.length):dC (M++N) c a=dC M c a:=by
 unfold dC;rw[qQN hc]
def vQ {M N:List aw}(hl:Fk M):∀(s:List Nat)(c:Nat),c<M.length->cF (M++N) s c=cF M s c
 |[],c,hc=>by unfold cF;rw[qQN hc]
 |a :: s,c,hc=>by
  unfold cF;rw[wm hc];cases he:dC M c a with
  |none=>rfl
  |some e =>
   obtain⟨x,hx,hm,_⟩:=eo he;have:=hl c x e hx hm;show(cF (M++N) s e.to).map _=(cF M s e.to).map _;rw[vQ hl s e.to (by omega)]
def kU {M N:List aw}(hl:Fk M){c:Nat}(hc:c<M.length):aF (M++N) c=aF M c:=funext λs=>vQ hl s c hc
def Bw (M:List aw)(a:Nat):∀(u:List Nat)(c:Nat),eK M (u++[a]) c=(eK M u c).bind λp=>(dC M p.1 a).map λe=>(e.to,p.2+e.cost)
 |[],c=>by
  show(dC M c a).bind _=(dC M c a).map _;cases dC M c a with
  |none=>rfl
  |some e=>simp[eK]
 |b :: u,c=>by
  show(dC M c b).bind _=((dC M c b).bind _).bind _;cases dC M c b with
  |none=>rfl
  |some e =>
   show(eK M (u++[a]) e.to).map _=((eK M u e.to).map _).bind _;rw[Bw M a u e.to];cases eK M u e.to with
   |none=>rfl
   |some p =>
    show((dC M p.1 a).map _).map _=(dC M p.1 a).map _;cases dC M p.1 a with
    |none=>rfl
    |some f=>simp;omega
structure MV (M:List aw)(st:Nat)(L:ff):Prop where
 top:st+1=M.length
 start:aF M st=L
 low:Fk M
 nq:∀x,x∈M->x.ak.Pairwise (λx y=>x.letter<y.letter)
 norm:∀c,c<st->ft (aF M c) 0
 inj:∀c d,c<M.length->d<M.length->aF M c=aF M d->c=d
 reach:∀c,c<M.length->∃u k,eK M u st=some (c,k)
def pV {M:List aw}(hl:Fk M):∀(u:List Nat)(c d:Nat)(k:Int),eK M u c=some (d,k)->d<=c/\(u≠[]->d<c)
 |[],c,d,k,h=>by cases h;exact⟨qQY _,λh=>absurd rfl h⟩
 |a :: u,c,d,k,h=>by
  unfold eK at h;rw[qQQ]at h;obtain⟨e,he,h⟩:=h;rw[qQC]at h;obtain⟨p,hp,h⟩:=h;cases h;obtain⟨x,hx,hm,_⟩:=eo he;have:=hl c x e hx hm;have:=(pV hl u e.to p.1 p.2 hp).1;exact⟨by omega,λ_=>by omega⟩
def wS {M:List aw}{st:Nat}{u:List Nat}{p:Nat×Int}(h:eK M u st=some p):(aF M st).Gi u=na (aF M p.1) (-p.2):=by
 funext s;show cF M (u++s) st=_;rw[sZ,h];show(cF M s p.1).map _=(cF M s p.1).map _;cases cF M s p.1 with
 |none=>rfl
 |some k=>simp
def ND {M:List aw}{st:Nat}{u:List Nat}(h:eK M u st=none)(s:List Nat):(aF M st).Gi u s=none:=by
 show cF M (u++s) st=_;rw[sZ,h];rfl
def MV.at {M:List aw}{st:Nat}{L:ff}(N:MV M st L)(u:List Nat)(R:ff):At L u R↔∃d k,eK M u st=some (d,k)/\R=aF M d:=by
 constructor
 .rintro(⟨rfl,rfl⟩|⟨hu,m,hm,rfl⟩)
  .exact⟨st,0,rfl,N.start.symm⟩
  .rw[<-N.start]at hm ⊢;cases hw:eK M u st with
   |none =>
    obtain⟨s,hs⟩:=hm.1;rw[ND hw]at hs;cases hs
   |some p =>
    refine⟨p.1,p.2,rfl,?_⟩;have hd:=(pV N.low u st p.1 p.2 hw).2 hu;rw[wS hw]at hm ⊢;have h1:=(N.norm p.1 hd).na (k:=-p.2);obtain rfl:=hm.uniq h1;rw[mc,show -p.2+(0 - -p.2)=0 by omega,kn]
 .rintro⟨d,k,hw,rfl⟩;cases u with
  |nil =>
   cases hw;exact .inl ⟨rfl,N.start⟩
  |cons a u =>
   have hd:=(pV N.low _ st d k hw).2 (by simp);refine .inr ⟨by simp,k,?_,?_⟩
   .rw[<-N.start,wS hw];have h1:=(N.norm d hd).na (k:=-k)
    rwa [show 0 - -k=k by omega]at h1
   .rw[<-N.start,wS hw,mc,show -k+k=0 by omega,kn]
def MV.node {M:List aw}{st:Nat}{L:ff}(N:MV M st L)(R:ff):Dh L R↔∃d,d<M.length/\R=aF M d:=by
 constructor
 .rintro⟨u,hu⟩;obtain⟨d,k,hw,rfl⟩:=(N.at u R).1 hu;have:=(pV N.low u st d k hw).1;have:=N.top;exact⟨d,by omega,rfl⟩
 .rintro⟨d,hd,rfl⟩;obtain⟨u,k,hw⟩:=N.reach d hd;exact⟨u,(N.at u _).2 ⟨d,k,hw,rfl⟩⟩
def ID (M:List aw)(st c:Nat)(u:List Nat):Prop:=(∃k,eK M u st=some (c,k))/\∀v k,eK M v st=some (c,k)->lexB v u=false
def MV.lp {M:List aw}{st:Nat}{L:ff}(N:MV M st L){c:Nat}{u:List Nat}(hc:c<M.length)(h:ID M st c u):LP L (aF M c) u:=by
 obtain⟨⟨k,hk⟩,h2⟩:=h;refine⟨(N.at u _).2 ⟨c,k,hk,rfl⟩,λv hv=>?_⟩;obtain⟨d,k',hw,he⟩:=(N.at v _).1 hv;have:=(pV N.low v st d k' hw).1;have:=N.top;obtain rfl:=N.inj c d hc (by omega) he;exact h2 v k' hw
def mH {M:List aw}{c a:Nat}{e:cI}(h:dC M c a=some e):(aF M c).BC a=na (aF M e.to) (-e.cost):=by
 funext s;show cF M (a :: s) c=_;unfold cF;rw[h];show(cF M s e.to).map _=(cF M s e.to).map _;cases cF M s e.to with
 |none=>rfl
 |some k=>simp
def zU {M:List aw}{c a:Nat}(h:dC M c a=none)(s:List Nat):(aF M c).BC a s=none:=by
 show cF M (a :: s) c=_;unfold cF;rw[h];rfl
def kLt (dep:Nat->Nat)(path:Nat->List Nat)(c d:Nat):Prop:=dep d<dep c\/dep c=dep d/\lexB (path c) (path d)=true
def MV.form {M:List aw}{st:Nat}{L:ff}(N:MV M st L){dep:Nat->Nat}{path:Nat->List Nat}(Xn:∀c,c<M.length->iI (aF M c) (dep c))(x9:∀c,c<M.length->ID M st c (path c))
 {order:List Nat} (eE:∀c,c∈order↔c<M.length) (dL:order.Pairwise (kLt dep path)) {A:aY} (hn:A.n=(order.length:Int))
 (afz:∀x,x∈A.aW↔∃(i j c:Nat)(y:aw)(e:cI),order[i]?=some c/\M[c]?=some y/\e∈y.ak/\order[j]?=some e.to/\x=⟨i,j,e.letter,e.cost⟩)
 (mL:A.aW.Pairwise (λx y=>kX x y=true))
 (afS:∀x,x∈A.ends↔∃(i c:Nat)(y:aw),order[i]?=some c/\M[c]?=some y/\0<=y.fin/\x=⟨i,y.fin⟩)
 (afQ:A.ends.Pairwise (λx y=>x.st<y.st)):jZ L A:=by
 refine⟨⟨order.map (aF M),λR=>?_,?_,by rw[qQD];exact hn,λx=>(afz x).trans ⟨?_,?_⟩,λx=>(afS x).trans ⟨?_,?_⟩⟩,mL,afQ⟩
 .rw[N.node,qQB];constructor
  .rintro⟨c,hc,rfl⟩;exact⟨c,(eE c).1 hc,rfl⟩
  .rintro⟨c,hc,rfl⟩;exact⟨c,(eE c).2 hc,rfl⟩
 .rw[qKB];refine dL.imp_of_mem λ{c d} hc hd h=>?_;have hc:=(eE c).1 hc;have hd:=(eE d).1 hd;exact⟨_,_,Xn c hc,Xn d hd,h.imp id λ⟨h1,h2⟩=>⟨h1,_,_,N.lp hc (x9 c hc),N.lp hd (x9 d hd),h2⟩⟩
 .rintro⟨i,j,c,y,e,h1,h2,h3,h4,rfl⟩;have hs:=iF h2 (N.nq y (qQK h2)) h3;have dL:=N.low c y e h2 h3;have kM:=(qQZ.1 h2).1;have aci:=N.top;have hm:=(N.norm e.to (by omega)).na (k:=-e.cost);rw[show 0 - -e.cost=e.cost by omega]at hm;refine⟨i,j,aF M c,e.cost,by rw[qQX,h1];rfl,?_,?_,rfl⟩
  .show ft ((aF M c).BC e.letter) e.cost;rw[mH hs];exact hm
  .show(order.map (aF M))[j]?=some (na ((aF M c).BC e.letter) e.cost);rw[mH hs,mc,show -e.cost+e.cost=0 by omega,kn,qQX,h4];rfl
 .rintro⟨i,j,R,k,h1,h2,h3,h4⟩;rw[qQX,qQC]at h1 h3;obtain⟨c,hc,rfl⟩:=h1;obtain⟨d,hd,h3⟩:=h3;cases hs:dC M c x.l with
  |none =>
   obtain⟨s,hx⟩:=h2.1;rw[zU hs]at hx;cases hx
  |some e =>
   obtain⟨y,hy,hey,hl⟩:=eo hs;have dL:=N.low c y e hy hey;have kM:=(qQZ.1 hy).1;have aci:=N.top;have hm:=(N.norm e.to (by omega)).na (k:=-e.cost);rw[show 0 - -e.cost=e.cost by omega]at hm;rw[mH hs]at h2 h3;obtain rfl:=h2.uniq hm;rw[mc,show -e.cost+e.cost=0 by omega,kn]at h3;have hdl:=(eE d).1 (qQK hd);obtain rfl:=N.inj d e.to hdl (by omega) h3;refine⟨i,j,c,y,e,hc,hy,hey,hd,?_⟩;rw[h4,hl]
 .rintro⟨i,c,y,h1,h2,h3,rfl⟩;refine⟨i,aF M c,y.fin,by rw[qQX,h1];rfl,?_,rfl⟩;show(M[c]?).bind _=_;rw[h2];show(if 0<=y.fin then some y.fin else none)=_;rw[if_pos h3]
 .rintro⟨i,R,f,h1,h2,h3⟩;rw[qQX,qQC]at h1;obtain⟨c,hc,rfl⟩:=h1;have tH:(M[c]?).bind (λx=>if 0<=x.fin then some x.fin else none)=some f:=h2;rw[qQQ]at tH;obtain⟨y,hy,tH⟩:=tH;split at tH
  .rename_i h0;cases tH;exact⟨i,c,y,hc,hy,h0,h3⟩
  .cases tH
structure tm where
 t:List Nat
 c:Int
structure dE where
 t:List Nat
 c:Int
 uM:Int
 ng:Int
def dE.Bd (x:dE):tm:=⟨x.t,x.c⟩
def Mm (a b:tm):Bool:=decide (a.c<b.c) || (decide (a.c=b.c) && lexB a.t b.t)
def sJ {α:Type}(l:List α)(i j:Nat):List α:=match l[i]?,l[j]? with
 |some x,some y=>(l.set i y).set j x
 |_,_=>l
def jq {α:Type}(l:List α)(i j:Nat):(sJ l i j).length=l.length:=by
 unfold sJ;split<;>simp
def UX {α:Type}{l:List α}{i j:Nat}{x y:α}(hi:l[i]?=some x)(hj:l[j]?=some y):sJ l i j=(l.set i y).set j x:=by
 unfold sJ;rw[hi,hj]
def xN {α:Type}{l:List α}{i j:Nat}{z:α}(h:z∈sJ l i j):z∈l:=by
 unfold sJ at h;split at h
 .rename_i x y hx hy;rcases List.mem_or_eq_of_mem_set h with h|rfl
  .rcases List.mem_or_eq_of_mem_set h with h|rfl
   .exact h
   .exact qQK hy
  .exact qQK hx
 .exact h
def mT (l:List dE)(i j:Nat):Bool:=match l[i]?,l[j]? with
 |some x,some y=>Mm x.Bd y.Bd
 |_,_=>false
def OM {l:List dE}{i j:Nat}{x y:dE}(hi:l[i]?=some x)(hj:l[j]?=some y):mT l i j=Mm x.Bd y.Bd:=by
 unfold mT;rw[hi,hj]
def Ij (l:List dE)(j:Nat):List dE :=
 if _h:j=0 then l else if mT l j ((j-1) / 2) then Ij (sJ l ((j-1) / 2) j) ((j-1) / 2) else l
termination_by j
decreasing_by omega
def qX (l:List dE)(i n:Nat):Nat:=if 2*i+2<n/\mT l (2*i+2) (2*i+1)=true then 2*i+2 else 2*i+1
def Sl (l:List dE)(i n:Nat):qX l i n=2*i+1\/(qX l i n=2*i+2/\2*i+2<n):=by
 unfold qX;split
 .rename_i h;exact .inr ⟨rfl,h.1⟩
 .exact .inl rfl
def kD (l:List dE)(i n:Nat):List dE :=
 if _h:2*i+1<n then(if mT l (qX l i n) i then kD (sJ l i (qX l i n)) (qX l i n) n else l) else l
termination_by n-i
decreasing_by have:=Sl l i n;omega
def YJ (l:List dE)(j:Nat):(Ij l j).length=l.length:=by
 induction l,j using Ij.induct with
 |case1 l=>rw[Ij];simp
 |case2 l j h hl ih=>rw[Ij,dif_neg h,if_pos hl,ih,jq]
 |case3 l j h hl=>rw[Ij,dif_neg h,if_neg hl]
def YK {l:List dE}{j:Nat}{z:dE}:z∈Ij l j->z∈l:=by
 induction l,j using Ij.induct with
 |case1 l=>rw[Ij];simp
 |case2 l j h hl ih=>rw[Ij,dif_neg h,if_pos hl];exact λhz=>xN (ih hz)
 |case3 l j h hl=>rw[Ij,dif_neg h,if_neg hl];exact id
def NG (l:List dE)(i n:Nat):(kD l i n).length=l.length:=by
 induction l,i using kD.induct (n:=n) with
 |case1 l i h hl ih=>rw[kD,dif_pos h,if_pos hl,ih,jq]
 |case2 l i h hl=>rw[kD,dif_pos h,if_neg hl]
 |case3 l i h=>rw[kD,dif_neg h]
def NH {l:List dE}{i n:Nat}{z:dE}:z∈kD l i n->z∈l:=by
 induction l,i using kD.induct (n:=n) with
 |case1 l i h hl ih=>rw[kD,dif_pos h,if_pos hl];exact λhz=>xN (ih hz)
 |case2 l i h hl=>rw[kD,dif_pos h,if_neg hl];exact id
 |case3 l i h=>rw[kD,dif_neg h];exact id
def tQ (l:List dE)(x:dE):List dE:=Ij (l++[x]) l.length
def Bb (l:List dE):List dE:=kD (sJ l 0 (l.length-1)) 0 (l.length-1)
def xJ (l:List dE)(x:dE):(tQ l x).length=l.length+1:=by unfold tQ;rw[YJ];simp
def v8 (l:List dE):(Bb l).length=l.length:=by unfold Bb;rw[NG,jq]
def xK {l:List dE}{x z:dE}(h:z∈tQ l x):z∈l\/z=x:=by
 have:=YK h;simpa using this
def HL {l:List dE}{z:dE}(h:z∈Bb l):z∈l:=xN (NH h)
open Go Go.Proofs
def wN:ax :=
 (.seq
  (.region [oB 29 .lss 28 27])
  (.seq
   (.cond (.t 29)
    .skip
    (.exit 0))
   (.seq
    (.block 1
     (.seq
      (.region [oM 30 28,oX 31 4 26 28,oQ 32 4 31,oK 4 (.box 52 (.c (.agg [(.int .i64 0),(.int .i64 0),(.int .u8 0),(.int .i64 0)]))),oM 3 30,oS 4 4 32])
      (.seq
       (.seq
        (.region [oF 33 0 4,oL 34 33,oK 35 (.bin .lss .none (.t 34) (.c (.int .i64 0))),oM 36 35,oG 37 36 false (.dh 0 (.t 4)),oG 38 36 false (.ct (.t 37)),oG 39 36 false (.dh 1 (.t 4)),oG 40 36 false (.ct (.t 39)),oG 41 36 false (.bin .geq .none (.t 38) (.t 40)),oK 42 (.pick (.t 36) (.c (.bool true)) (.t 41)),oM 43 42,oG 44 43 false (.dh 1 (.t 4)),oG 45 43 false (.ct (.t 44)),oG 46 43 false (.dh 0 (.t 1)),oG 47 43 false (.ct (.t 46)),oG 48 43 false (.bin .geq .none (.t 45) (.t 47)),oK 49 (.pick (.t 43) (.c (.bool true)) (.t 48)),oM 50 49,oG 51 50 false (.dh 2 (.t 4)),oG 52 50 false (.ct (.t 51)),oG 53 50 false (.call (.c (.func 17 [] [])) [(.t 52)]),oG 54 50 false (.not (.t 53)),oK 55 (.pick (.t 50) (.c (.bool true)) (.t 54)),oM 56 55,oG 57 56 false (.dh 3 (.t 4)),oG 58 56 false (.ct (.t 57)),oG 59 56 false (.bin .lss .none (.t 58) (.c (.int .i64 0))),oK 60 (.pick (.t 56) (.c (.bool true)) (.t 59)),oM 61 60,oG 62 61 false (.dh 3 (.t 4)),oG 63 61 false (.ct (.t 62)),oG 64 61 false (.bin .gtr .none (.t 63) (.c (.int .i64 1000000))),oK 65 (.pick (.t 61) (.c (.bool true)) (.t 64))])
        (.cond (.t 65)
         (.seq
          (.region [oK 2 (.mv (.c (.int .i64 1)))])
          .ret)
         .skip))
       (.seq
        (.drawn 13 [oP 0 (oM 66 3),oP 1 (oK 67 (.bin .gtr .none (.t 66) (.c (.int .i64 0)))),oP 2 (oM 68 67),oP 3 (oG 69 68 true (.dh 1 (.t 1))),oR 4 (oG 70 68 true (.ct (.t 69))),oP 5 (oG 71 68 true (.mv (.t 3))),oP 6 (oG 72 68 true (.bin .sub .none (.t 71) (.c (.int .i64 1)))),oP 7 (oG 73 68 true (.kz 4 (.t 70) (.t 72))),oR 8 (oG 74 68 true (.fJ 4 (.t 73))),oR 9 (oG 75 68 true (.fJ 4 (.t 4))),oW 10 (oG 76 68 true (.call (.c (.func 18 [] [])) [(.t 74),(.t 75)])),oP 11 (oG 77 68 true (.bin .geq .none (.t 76) (.c (.int .i64 0)))),oP 12 (oK 78 (.pick (.t 68) (.t 77) (.c (.bool false))))])
        (.cond (.t 78)
         (.seq
          (.region [oK 2 (.mv (.c (.int .i64 1)))])
          .ret)
         .skip)))))
    (.region [oK 79 (.bin .add .none (.t 28) (.c (.int .i64 1))),oM 28 79]))))
def wO:ax :=
 (.seq
  (.region [oB 84 .lss 83 82])
  (.seq
   (.cond (.t 84)
    .skip
    (.exit 2))
   (.seq
    (.block 3
     (.seq
      (.region [oM 85 83,oX 86 2 81 83,oQ 87 2 86,oK 6 (.box 56 (.c (.agg [(.int .i64 0),(.int .i64 0)]))),oM 5 85,oS 2 6 87])
      (.seq
       (.drawn 36 [oP 0 (oF 88 0 6),oR 1 (oL 89 88),oP 2 (oK 90 (.bin .lss .none (.t 89) (.c (.int .i64 0)))),oP 3 (oM 91 90),oP 4 (oG 92 91 false (.dh 0 (.t 6))),oR 5 (oG 93 91 false (.ct (.t 92))),oP 6 (oG 94 91 false (.dh 0 (.t 1))),oR 7 (oG 95 91 false (.ct (.t 94))),oP 8 (oG 96 91 false (.bin .geq .none (.t 93) (.t 95))),oP 9 (oK 97 (.pick (.t 91) (.c (.bool true)) (.t 96))),oP 10 (oM 98 97),oP 11 (oG 99 98 false (.dh 1 (.t 6))),oR 12 (oG 100 98 false (.ct (.t 99))),oP 13 (oG 101 98 false (.bin .lss .none (.t 100) (.c (.int .i64 0)))),oP 14 (oK 102 (.pick (.t 98) (.c (.bool true)) (.t 101))),oP 15 (oM 103 102),oP 16 (oG 104 103 false (.dh 1 (.t 6))),oR 17 (oG 105 103 false (.ct (.t 104))),oP 18 (oG 106 103 false (.bin .gtr .none (.t 105) (.c (.int .i64 1000000)))),oP 19 (oK 107 (.pick (.t 103) (.c (.bool true)) (.t 106))),oP 20 (oM 108 107),oP 21 (oG 109 108 false (.mv (.t 5))),oP 22 (oG 110 108 false (.bin .gtr .none (.t 109) (.c (.int .i64 0)))),oP 23 (oG 111 108 false (.mv (.t 110))),oP 24 (oG 112 111 true (.dh 2 (.t 1))),oR 25 (oG 113 111 true (.ct (.t 112))),oP 26 (oG 114 111 true (.mv (.t 5))),oP 27 (oG 115 111 true (.bin .sub .none (.t 114) (.c (.int .i64 1)))),oP 28 (oG 116 111 true (.kz 2 (.t 113) (.t 115))),oP 29 (oG 117 111 true (.dh 0 (.t 116))),oR 30 (oG 118 111 true (.ct (.t 117))),oP 31 (oG 119 111 true (.dh 0 (.t 6))),oR 32 (oG 120 111 true (.ct (.t 119))),oP 33 (oG 121 111 true (.bin .geq .none (.t 118) (.t 120))),oP 34 (oG 122 108 false (.pick (.t 111) (.t 121) (.c (.bool false)))),oP 35 (oK 123 (.pick (.t 108) (.c (.bool true)) (.t 122)))])
       (.cond (.t 123)
        (.seq
         (.region [oK 2 (.mv (.c (.int .i64 1)))])
         .ret)
        .skip))))
    (.region [oK 124 (.bin .add .none (.t 83) (.c (.int .i64 1))),oM 83 124]))))
def Rg:ax :=
 (.seq
  (.region [oK 1 (.box 25 (.t 0)),oK 2 (.mv (.c (.int .i64 0)))])
  (.seq
   (.seq
    (.region [oF 7 0 1,oL 8 7,oK 9 (.bin .gtr .none (.t 8) (.c (.int .i64 400))),oM 10 9,oG 11 10 false (.dh 1 (.t 1)),oG 12 10 false (.ct (.t 11)),oG 13 10 false (.len .slice (.t 12)),oG 14 10 false (.bin .gtr .none (.t 13) (.c (.int .i64 4000))),oK 15 (.pick (.t 10) (.c (.bool true)) (.t 14)),oM 16 15,oG 17 16 false (.dh 2 (.t 1)),oG 18 16 false (.ct (.t 17)),oG 19 16 false (.len .slice (.t 18)),oG 20 16 false (.bin .gtr .none (.t 19) (.c (.int .i64 400))),oK 21 (.pick (.t 16) (.c (.bool true)) (.t 20))])
    (.cond (.t 21)
     (.seq
      (.region [oK 2 (.mv (.c (.int .i64 2)))])
      .ret)
     .skip))
   (.seq
    (.seq
     (.region [oF 22 0 1,oL 23 22,oK 24 (.bin .lss .none (.t 23) (.c (.int .i64 1)))])
     (.cond (.t 24)
      (.seq
       (.region [oK 2 (.mv (.c (.int .i64 1)))])
       .ret)
      .skip))
    (.seq
     (.seq
      (.region [oF 25 1 1,oL 26 25,oJ 27 26,oK 28 (.mv (.c (.int .i64 0)))])
      (.block 0
       (.loop wN)))
     (.seq
      (.seq
       (.region [oF 80 2 1,oL 81 80,oJ 82 81,oK 83 (.mv (.c (.int .i64 0)))])
       (.block 2
        (.loop wO)))
      (.seq
       (.region [oK 2 (.mv (.c (.int .i64 0)))])
       .ret))))))
def Na:E2.code 6=some (Rg,[.tmp 2]):=by kernel_rfl
def zr:ax :=
 (.seq
  (.region [oB 48 .lss 47 46])
  (.seq
   (.cond (.t 48)
    .skip
    (.exit 4))
   (.seq
    (.block 5
     (.seq
      (.region [oX 49 4 45 47,oQ 50 4 49,oK 13 (.box 52 (.c (.agg [(.int .i64 0),(.int .i64 0),(.int .u8 0),(.int .i64 0)]))),oS 4 13 50])
      (.seq
       (.seq
        (.drawn 6 [oP 0 (oF 51 2 13),oR 1 (oL 52 51),oP 2 (oM 53 1),oP 3 (oM 54 8),oP 4 (oK 55 (.kh (.t 53) (.t 54))),oP 5 (oB 56 .neq 52 55)])
        (.cond (.t 56)
         (.exit 5)
         .skip))
       (.seq
        (.region [oM 58 9,oF 59 1 13,oL 60 59,oK 61 (.lookup (.one .i) (.int .i64 0) (.t 58) (.t 60) true),oM 57 61,oK 62 (.extract 0 (.t 57)),oK 63 (.extract 1 (.t 57)),oM 14 62,oM 15 63])
        (.seq
         (.region [oM 64 15,oK 65 (.not (.t 64)),oM 66 65,oG 67 66 false (.mv (.t 11)),oG 68 66 false (.dh 3 (.t 13)),oG 69 66 false (.ct (.t 68)),oG 70 66 false (.bin .add .none (.t 67) (.t 69)),oG 71 66 false (.mv (.t 14)),oG 72 66 false (.bin .lss .none (.t 70) (.t 71)),oK 73 (.pick (.t 66) (.c (.bool true)) (.t 72))])
         (.cond (.t 73)
          (.region [oM 74 9,oF 75 1 13,oL 76 75,oM 77 11,oF 78 3 13,oL 79 78,oB 80 .add 77 79,oZ (.fj (.one .i) (.t 74) (.t 76) (.t 80))])
          .skip))))))
    (.region [oK 81 (.bin .add .none (.t 47) (.c (.int .i64 1))),oM 47 81]))))
def zt:ax :=
 (.seq
  (.region [oK 36 (.next (.t 35)),oK 37 (.extract 0 (.t 36))])
  (.seq
   (.cond (.t 37)
    .skip
    (.exit 2))
   (.block 3
    (.seq
     (.region [oK 38 (.entry (.t 35)),oK 39 (.extract 0 (.t 38)),oK 40 (.extract 1 (.t 38)),oM 10 39,oM 11 40])
     (.seq
      (.region [oF 41 0 6,oL 42 41,oM 43 10,oX 44 1 42 43,oL 45 44,oJ 46 45,oK 47 (.mv (.c (.int .i64 0)))])
      (.block 4
       (.loop zr)))))))
def zu:ax :=
 (.seq
  (.region [oB 31 .lss 30 29])
  (.seq
   (.cond (.t 31)
    .skip
    (.exit 0))
   (.seq
    (.block 1
     (.seq
      (.region [oM 32 30,oM 8 32])
      (.seq
       (.region [oK 33 (.mkMap),oM 9 33])
       (.seq
        (.seq
         (.region [oM 34 7,oK 35 (.range (.t 34))])
         (.block 2
          (.loop zt)))
        (.region [oM 82 9,oM 7 82])))))
    (.region [oK 83 (.bin .add .none (.t 30) (.c (.int .i64 1))),oM 30 83]))))
def zw:ax :=
 (.seq
  (.region [oK 86 (.next (.t 85)),oK 87 (.extract 0 (.t 86))])
  (.seq
   (.cond (.t 87)
    .skip
    (.exit 6))
   (.block 7
    (.seq
     (.region [oK 88 (.entry (.t 85)),oK 89 (.extract 0 (.t 88)),oK 90 (.extract 1 (.t 88)),oM 18 89,oM 19 90])
     (.seq
      (.region [oF 91 1 6,oL 92 91,oM 93 18,oX 94 1 92 93,oL 95 94,oM 20 95])
      (.seq
       (.region [oM 96 20,oK 97 (.bin .geq .none (.t 96) (.c (.int .i64 0))),oM 98 97,oG 99 98 true (.mv (.t 17)),oG 100 98 true (.not (.t 99)),oG 101 98 true (.mv (.t 100)),oG 102 101 false (.mv (.t 19)),oG 103 101 false (.mv (.t 20)),oG 104 101 false (.bin .add .none (.t 102) (.t 103)),oG 105 101 false (.mv (.t 16)),oG 106 101 false (.bin .lss .none (.t 104) (.t 105)),oG 107 98 true (.pick (.t 101) (.c (.bool true)) (.t 106)),oK 108 (.pick (.t 98) (.t 107) (.c (.bool false)))])
       (.cond (.t 108)
        (.region [oM 109 19,oM 110 20,oB 111 .add 109 110,oM 16 111,oK 17 (.mv (.c (.bool true)))])
        .skip)))))))
def Zb:ax :=
 (.seq
  (.region [oK 2 (.box 25 (.t 0)),oK 4 (.mv (.c (.int .i64 0))),oK 5 (.mv (.c (.bool false)))])
  (.seq
   (.seq
    (.region [oQ 21 3 2,oK 22 (.call (.c (.func 6 [] [])) [(.t 21)]),oK 23 (.bin .neq .none (.t 22) (.c (.int .i64 0)))])
    (.cond (.t 23)
     (.seq
      (.region [oK 4 (.mv (.c (.int .i64 0))),oK 5 (.mv (.c (.bool false)))])
      .ret)
     .skip))
   (.seq
    (.region [oQ 24 3 2,oK 25 (.call (.c (.func 21 [] [])) [(.t 24)]),oK 6 (.box 68 (.c (.agg [.af,.af]))),oS 2 6 25])
    (.seq
     (.region [oK 26 (.mkMap),oZ (.fj (.one .i) (.t 26) (.c (.int .i64 0)) (.c (.int .i64 0))),oM 27 26,oM 7 27])
     (.seq
      (.seq
       (.region [oM 28 1,oK 29 (.len .str (.t 28)),oK 30 (.mv (.c (.int .i64 0)))])
       (.block 0
        (.loop zu)))
      (.seq
       (.region [oK 16 (.mv (.c (.int .i64 0))),oK 17 (.mv (.c (.bool false)))])
       (.seq
        (.seq
         (.region [oM 84 7,oK 85 (.range (.t 84))])
         (.block 6
          (.loop zw)))
        (.seq
         (.region [oM 112 16,oM 113 17,oM 4 112,oM 5 113])
         .ret))))))))
def Ry:E2.code 15=some (Zb,[.tmp 4,.tmp 5]):=by kernel_rfl
def vj:ax :=
 (.seq
  (.region [oK 2 (.box 52 (.t 0)),oK 3 (.box 52 (.t 1)),oK 4 (.mv (.c (.int .i64 0)))])
  (.seq
   (.drawn 18 [oP 0 (oF 5 0 2),oR 1 (oL 6 5),oP 2 (oF 7 0 3),oR 3 (oL 8 7),oP 5 (oF 10 1 2),oR 6 (oL 11 10),oP 7 (oF 12 1 3),oR 8 (oL 13 12),oP 10 (oF 15 2 2),oR 11 (oL 16 15),oP 12 (oF 17 2 3),oR 13 (oL 18 17),⟨oK 9 (.call (.c (.func 29 [] [])) [(.t 6),(.t 8)]),4,.wr,[oL 18 17,oL 16 15,oL 13 12,oL 11 10]⟩,⟨oK 14 (.call (.c (.func 29 [] [])) [(.t 11),(.t 13)]),9,.wr,[oL 18 17,oL 16 15]⟩,oW 14 (oK 19 (.call (.c (.func 30 [] [])) [(.t 16),(.t 18)])),oT 15 (oK 20 (.buildSlice 3 3 [(.int .i64 0)] [(0,1,(.t 9)),(1,1,(.t 14)),(2,1,(.t 19))])),oW 16 (oK 21 (.call (.c (.func 28 [] [])) [(.t 20)])),oP 17 (oM 4 21)])
   .ret))
def FM:E2.code 18=some (vj,[.tmp 4]):=by kernel_rfl
def zL:ax :=
 (.seq
  (.region [oB 20 .lss 19 18])
  (.seq
   (.cond (.t 20)
    .skip
    (.exit 0))
   (.seq
    (.block 1
     (.seq
      (.region [oM 21 19,oM 4 21])
      (.region [oF 22 1 3,oL 23 22,oM 24 4,oX 25 1 23 24,oZ (.store 1 (.t 25) (.c (.int .i64 (-1))))])))
    (.region [oK 26 (.bin .add .none (.t 19) (.c (.int .i64 1))),oM 19 26]))))
def zM:ax :=
 (.seq
  (.region [oB 31 .lss 30 29])
  (.seq
   (.cond (.t 31)
    .skip
    (.exit 2))
   (.seq
    (.block 3
     (.seq
      (.region [oX 32 4 28 30,oQ 33 4 32,oK 6 (.box 52 (.c (.agg [(.int .i64 0),(.int .i64 0),(.int .u8 0),(.int .i64 0)]))),oS 4 6 33])
      (.drawn 15 [oP 0 (oF 34 0 3),oR 1 (oL 35 34),oP 2 (oF 36 0 6),oR 3 (oL 37 36),oP 4 (oF 38 0 3),oR 5 (oL 39 38),oP 6 (oF 40 0 6),oR 7 (oL 41 40),oP 8 (oX 42 1 39 41),oR 9 (oL 43 42),oR 10 (oQ 44 4 6),oT 11 (oK 45 (.buildSlice 52 1 [(.int .i64 0),(.int .i64 0),(.int .u8 0),(.int .i64 0)] [(0,4,(.t 44))])),⟨oK 46 (.append 52 4 (.t 43) (.t 45)),12,.wr,[oL 37 36,oL 35 34]⟩,oP 13 (oX 47 1 35 37),oW 14 (oS 1 47 46)])))
    (.region [oK 48 (.bin .add .none (.t 30) (.c (.int .i64 1))),oM 30 48]))))
def zO:ax :=
 (.seq
  (.region [oB 53 .lss 52 51])
  (.seq
   (.cond (.t 53)
    .skip
    (.exit 4))
   (.seq
    (.block 5
     (.seq
      (.region [oX 54 2 50 52,oQ 55 2 54,oK 8 (.box 56 (.c (.agg [(.int .i64 0),(.int .i64 0)]))),oS 2 8 55])
      (.region [oF 56 1 3,oL 57 56,oF 58 0 8,oL 59 58,oF 60 1 8,oL 61 60,oX 62 1 57 59,oS 1 62 61])))
    (.region [oK 63 (.bin .add .none (.t 52) (.c (.int .i64 1))),oM 52 63]))))
def RS:ax :=
 (.seq
  (.region [oK 1 (.box 25 (.t 0)),oK 2 (.box 68 (.c (.agg [.af,.af])))])
  (.seq
   (.drawn 9 [oP 0 (oF 9 0 1),oR 1 (oL 10 9),oP 3 (oF 12 0 1),oR 4 (oL 13 12),oT 2 (oK 11 (.mkSlice 22 [.af] 24 (.t 10) (.t 10))),oT 5 (oK 14 (.mkSlice 3 [(.int .i64 0)] 8 (.t 13) (.t 13))),oP 6 (oK 15 (.build [.af,.af] [(0,1,(.t 11)),(1,1,(.t 14))])),oT 7 (oK 3 (.box 68 (.c (.agg [.af,.af])))),oW 8 (oS 2 3 15)])
   (.seq
    (.seq
     (.region [oF 16 1 3,oL 17 16,oJ 18 17,oK 19 (.mv (.c (.int .i64 0)))])
     (.block 0
      (.loop zL)))
    (.seq
     (.seq
      (.region [oF 27 1 1,oL 28 27,oJ 29 28,oK 30 (.mv (.c (.int .i64 0)))])
      (.block 2
       (.loop zM)))
     (.seq
      (.seq
       (.region [oF 49 2 1,oL 50 49,oJ 51 50,oK 52 (.mv (.c (.int .i64 0)))])
       (.block 4
        (.loop zO)))
      (.seq
       (.region [oQ 64 2 3,oS 2 2 64])
       .ret))))))
def FV:E2.code 21=some (RS,[.cell 2 68]):=by kernel_rfl
def wP:ax :=
 (.seq
  (.region [oB 9 .lss 8 7])
  (.seq
   (.cond (.t 9)
    .skip
    (.exit 0))
   (.seq
    (.block 1
     (.seq
      (.region [oX 10 1 6 8,oL 11 10,oM 5 11])
      (.seq
       (.region [oM 12 5,oM 13 3,oB 14 .neq 12 13])
       (.cond (.t 14)
        (.seq
         (.region [oM 15 5,oM 2 15])
         .ret)
        .skip))))
    (.region [oK 16 (.bin .add .none (.t 8) (.c (.int .i64 1))),oM 8 16]))))
def Dw:ax :=
 (.seq
  (.region [oK 2 (.mv (.c (.int .i64 0)))])
  (.seq
   (.region [oK 3 (.mv (.c (.int .i64 0)))])
   (.seq
    (.seq
     (.region [oM 6 0,oJ 7 6,oK 8 (.mv (.c (.int .i64 0)))])
     (.block 0
      (.loop wP)))
    (.seq
     (.region [oM 17 3,oM 2 17])
     .ret))))
def Ng:E2.code 28=some (Dw,[.tmp 2]):=by kernel_rfl
def Ly:ax :=
 (.seq
  (.region [oK 4 (.mv (.c (.int .i64 0)))])
  (.seq
   (.region [oM 7 0,oK 8 (.call (.c (.func 51 [] [])) [(.t 7)]),oM 5 8])
   (.seq
    (.region [oM 9 1,oK 10 (.call (.c (.func 51 [] [])) [(.t 9)]),oM 6 10])
    (.seq
     (.seq
      (.region [oM 11 5])
      (.cond (.t 11)
       (.seq
        (.seq
         (.region [oM 12 6])
         (.cond (.t 12)
          (.seq
           (.region [oK 4 (.mv (.c (.int .i64 0)))])
           .ret)
          .skip))
        (.seq
         (.region [oK 4 (.mv (.c (.int .i64 (-1))))])
         .ret))
       .skip))
     (.seq
      (.seq
       (.region [oM 13 6])
       (.cond (.t 13)
        (.seq
         (.region [oK 4 (.mv (.c (.int .i64 1)))])
         .ret)
        .skip))
      (.seq
       (.seq
        (.region [oM 14 0,oM 15 1,oB 16 .lss 14 15])
        (.cond (.t 16)
         (.seq
          (.region [oK 4 (.mv (.c (.int .i64 (-1))))])
          .ret)
         .skip))
       (.seq
        (.seq
         (.region [oM 17 0,oM 18 1,oB 19 .gtr 17 18])
         (.cond (.t 19)
          (.seq
           (.region [oK 4 (.mv (.c (.int .i64 1)))])
           .ret)
          .skip))
        (.seq
         (.region [oK 4 (.mv (.c (.int .i64 0)))])
         .ret))))))))
def RD:E2.code 29=some (Ly,[.tmp 4]):=by kernel_rfl
def Lx:ax :=
 (.seq
  (.region [oK 4 (.mv (.c (.int .i64 0)))])
  (.seq
   (.region [oM 7 0,oK 8 (.call (.c (.func 52 [] [])) [(.t 7)]),oM 5 8])
   (.seq
    (.region [oM 9 1,oK 10 (.call (.c (.func 52 [] [])) [(.t 9)]),oM 6 10])
    (.seq
     (.seq
      (.region [oM 11 5])
      (.cond (.t 11)
       (.seq
        (.seq
         (.region [oM 12 6])
         (.cond (.t 12)
          (.seq
           (.region [oK 4 (.mv (.c (.int .i64 0)))])
           .ret)
          .skip))
        (.seq
         (.region [oK 4 (.mv (.c (.int .i64 (-1))))])
         .ret))
       .skip))
     (.seq
      (.seq
       (.region [oM 13 6])
       (.cond (.t 13)
        (.seq
         (.region [oK 4 (.mv (.c (.int .i64 1)))])
         .ret)
        .skip))
      (.seq
       (.seq
        (.region [oM 14 0,oM 15 1,oB 16 .lss 14 15])
        (.cond (.t 16)
         (.seq
          (.region [oK 4 (.mv (.c (.int .i64 (-1))))])
          .ret)
         .skip))
       (.seq
        (.seq
         (.region [oM 17 0,oM 18 1,oB 19 .gtr 17 18])
         (.cond (.t 19)
          (.seq
           (.region [oK 4 (.mv (.c (.int .i64 1)))])
           .ret)
          .skip))
        (.seq
         (.region [oK 4 (.mv (.c (.int .i64 0)))])
         .ret))))))))
def RC:E2.code 30=some (Lx,[.tmp 4]):=by kernel_rfl
def y4:ax :=
 (.seq
  (.region [oK 2 (.mv (.c (.bool false)))])
  (.seq
   (.region [oM 3 0,oM 4 0,oB 5 .neq 3 4,oM 2 5])
   .ret))
def Jh:E2.code 51=some (y4,[.tmp 2]):=by kernel_rfl
def yZ:ax :=
 (.seq
  (.region [oK 2 (.mv (.c (.bool false)))])
  (.seq
   (.region [oM 3 0,oM 4 0,oB 5 .neq 3 4,oM 2 5])
   .ret))
def Jg:E2.code 52=some (yZ,[.tmp 2]):=by kernel_rfl
def c23:ax :=
 (.seq
  (.region [oK 2 (.mv (.c (.bool false)))])
  (.seq
   (.region [oM 3 0,oK 4 (.bin .geq .none (.t 3) (.c (.int .u8 97))),oM 5 4,oG 6 5 true (.mv (.t 0)),oG 7 5 true (.bin .leq .none (.t 6) (.c (.int .u8 122))),oK 8 (.pick (.t 5) (.t 7) (.c (.bool false))),oM 9 8,oG 10 9 false (.mv (.t 0)),oG 11 9 false (.bin .geq .none (.t 10) (.c (.int .u8 48))),oG 12 9 false (.mv (.t 11)),oG 13 12 true (.mv (.t 0)),oG 14 12 true (.bin .leq .none (.t 13) (.c (.int .u8 57))),oG 15 9 false (.pick (.t 12) (.t 14) (.c (.bool false))),oK 16 (.pick (.t 9) (.c (.bool true)) (.t 15)),oM 17 16,oG 18 17 false (.mv (.t 0)),oG 19 17 false (.bin .eql .none (.t 18) (.c (.int .u8 32))),oK 20 (.pick (.t 17) (.c (.bool true)) (.t 19)),oM 21 20,oG 22 21 false (.mv (.t 0)),oG 23 21 false (.bin .eql .none (.t 22) (.c (.int .u8 45))),oK 24 (.pick (.t 21) (.c (.bool true)) (.t 23)),oM 2 24])
   .ret))
def aa1:E2.code 17=some (c23,[.tmp 2]):=by kernel_rfl
def c32:ax :=
 (.seq
  (.region [oK 4 (.mv (.c (.int .i64 0))),oK 5 (.mv (.c .dq))])
  (.seq
   (.region [oM 6 0,oK 7 (.call (.c (.func 66 [] [])) [(.t 6)])])
   (.seq
    (.region [oM 8 0,oM 9 0,oK 10 (.nilCheck (.t 9)),oF 11 1 10,oL 12 11,oM 13 1,oK 14 (.append 5 1 (.t 12) (.t 13)),oK 15 (.nilCheck (.t 8)),oF 16 1 15,oS 1 16 14])
    (.seq
     (.region [oM 17 1,oK 18 (.len .str (.t 17)),oM 4 18,oK 5 (.mv (.c .dq))])
     .ret))))
def aa2:E2.code 43=some (c32,[.tmp 4,.tmp 5]):=by kernel_rfl
def c35:ax :=
 (.seq
  (.region [oK 2 (.mv (.c (.str [])))])
  (.seq
   (.drawn 12 [oP 0 (oM 3 0),oP 1 (oK 4 (.nilCheck (.t 3))),oP 2 (oF 5 1 4),oR 3 (oL 6 5),oP 5 (oM 8 0),oP 6 (oK 9 (.nilCheck (.t 8))),oP 7 (oF 10 1 9),oR 8 (oL 11 10),oP 9 (oJ 12 11),oP 4 (oK 7 (.dR (.t 6))),oW 10 (oK 13 (.eF 5 (.t 7) (.t 12))),oP 11 (oM 2 13)])
   .ret))
def aa3:E2.code 46=some (c35,[.tmp 2]):=by kernel_rfl
def Kc (c:Nat)(h:aa):Ec E2 17 [.int .u8 (c:Int)] h λv h'=>v=.bool (Ap c)/\h'=h:=by
 refine Ec.bu (aI (by decide)) aa1 ?_;unfold c23
 rcases(show(c<32/\Ap c=false)\/(c=32/\Ap c=true)\/((32<c/\c<45)/\Ap c=false)\/(c=45/\Ap c=true)\/((45<c/\c<48)/\Ap c=false)\/((48<=c/\c<=57)/\Ap c=true)\/((57<c/\c<97)/\Ap c=false)\/((97<=c/\c<=122)/\Ap c=true)\/(122<c/\Ap c=false) by unfold Ap;simp;omega) with⟨g,e⟩|⟨g,e⟩|⟨g,e⟩|⟨g,e⟩|⟨g,e⟩|⟨g,e⟩|⟨g,e⟩|⟨g,e⟩|⟨g,e⟩<;>rw[e] <;>
  by_cases h1:(c:Int)<97<;>(try (exfalso;omega))<;>by_cases h2:(122:Int)<c<;>(try (exfalso;omega))<;>by_cases h3:(c:Int)<48<;>(try (exfalso;omega))<;>by_cases h4:(57:Int)<c<;>(try (exfalso;omega))<;>by_cases h5:(c:Int)=32<;>(try (exfalso;omega))<;>by_cases h6:(c:Int)=45<;>(try (exfalso;omega)) <;>
  simp only[go_sem,Nat.reduceEqDiff,Int.reduceLT,Int.reduceEq,reduceCtorEq,h1,h2,h3,h4,h5,h6]
def TZ (s:List Nat):Bool:=s.all Ap
abbrev Alt:=List Nat×Int
def xl {h:aa}{r:Nat}{es:List (ae×ae×Nat)}{c:Nat}(hg:h.get r=some (.map es c)):T2 h (.map r)=some es:=by
 show jb (h.get r) (λes _=>some es)=_;rw[hg];rfl
def aep (a:Alt):Prop:=a.1.length<=3/\TZ a.1=true/\0<=a.2/\a.2<=1000
def afd (alts:List Alt):Prop:=(∀a,a∈alts->aep a)/\(alts.map Prod.fst).Nodup
def U0 (alts:List Alt):Prop:=1<=alts.length/\alts.length<=8/\afd alts
instance (alts:List Alt):Decidable (U0 alts):=Classical.propDecidable _
def aX (x:dH):List ae:=[.int .i64 x.fr,.int .i64 x.to,.int .u8 (x.l:Int),.int .i64 x.c]
def gF (x:jU):List ae:=[.int .i64 x.st,.int .i64 x.c]
def eS (h:aa)(v:ae)(l:List dH):Prop:=cg h 4 v (l.map aX)
def iO (h:aa)(v:ae)(l:List jU):Prop:=cg h 2 v (l.map gF)
def fY (h:aa)(v:ae)(A:aY):Prop:=∃va ve,v=.agg [.int .i64 A.n,va,ve]/\eS h va A.aW/\iO h ve A.ends/\A.aW.length<=9223372036854775807/\A.ends.length<=9223372036854775807
def eS.mono {h h':aa}(hle:aU h h'){v:ae}{l:List dH}(H:eS h v l):eS h' v l:=cg.mono hle H
def iO.mono {h h':aa}(hle:aU h h'){v:ae}{l:List jU}(H:iO h v l):iO h' v l:=cg.mono hle H
def fY.mono {h h':aa}(hle:aU h h'){v:ae}{A:aY}(H:fY h v A):fY h' v A:=by
 obtain⟨va,ve,e,h1,h2,h3⟩:=H;exact⟨va,ve,e,h1.mono hle,h2.mono hle,h3⟩
def eS.len {h:aa}{v:ae}{l:List dH}(H:eS h v l)(h':aa)(K:ae->aa->Prop):cH v h' K=K (.int .i64 (l.length:Int)) h':=by
 have:=cg.len H h' K
 rwa [qQD]at this
def iO.len {h:aa}{v:ae}{l:List jU}(H:iO h v l)(h':aa)(K:ae->aa->Prop):cH v h' K=K (.int .i64 (l.length:Int)) h':=by
 have:=cg.len H h' K
 rwa [qQD]at this
def cg.flat {h:aa}{size:Nat}{v:ae}{xs:List (List ae)}(H:cg h size v xs):v.flat=true:=by
 rcases H.2 with⟨_,rfl⟩|⟨b,o,c,ex,rfl,_⟩<;>rfl
def eS.ix {h:aa}{v:ae}{l:List dH}(H:eS h v l){j:Nat}{x:dH}(hx:l[j]?=some x) :
 ∃b o,fP h b o (aX x)/\∀(k:IntKind)(i:Int)(h':aa)(K:ae->aa->Prop),i=(j:Int)->fI 4 v (.int k i) h' K=K (.ptr b o) h' :=
 cg.ix H (by rw[qQX,hx];rfl)
def iO.ix {h:aa}{v:ae}{l:List jU}(H:iO h v l){j:Nat}{x:jU}(hx:l[j]?=some x) :
 ∃b o,fP h b o (gF x)/\∀(k:IntKind)(i:Int)(h':aa)(K:ae->aa->Prop),i=(j:Int)->fI 2 v (.int k i) h' K=K (.ptr b o) h' :=
 cg.ix H (by rw[qQX,hx];rfl)
def lI (a b:Int):Int:=if a<b then -1 else if b<a then 1 else 0
def GY (a:Int)(h:aa):Ec E2 51 [.int .i64 a] h λr h'=>r=.bool false/\h'=h:=by
 refine Ec.bu (aI (by decide)) Jh ?_;unfold y4;simp only[go_sem,Nat.reduceEqDiff,reduceCtorEq]
def GW (a:Int)(h:aa):Ec E2 52 [.int .u8 a] h λr h'=>r=.bool false/\h'=h:=by
 refine Ec.bu (aI (by decide)) Jg ?_;unfold yZ;simp only[go_sem,Nat.reduceEqDiff,reduceCtorEq]
def Ja (a b:Int)(h:aa):Ec E2 29 [.int .i64 a,.int .i64 b] h λr h'=>r=.int .i64 (lI a b)/\h'=h:=by
 refine Ec.bu (aI (by decide)) RD ?_;unfold Ly;simp only[go_sem,Nat.reduceEqDiff,Nat.reduceAdd,reduceCtorEq];refine⟨by decide,?_⟩;refine(GY a h).mono ?_;rintro r h1 ⟨rfl,rfl⟩;simp only[go_sem,Nat.reduceEqDiff,reduceCtorEq];refine⟨by decide,?_⟩;refine(GY b h1).mono ?_;rintro r h2 ⟨rfl,rfl⟩;unfold lI;by_cases h1:a<b
 .simp only[go_sem,Nat.reduceEqDiff,reduceCtorEq,h1]
 .by_cases h2:b<a
  .simp only[go_sem,Nat.reduceEqDiff,reduceCtorEq,h1,h2]
  .simp only[go_sem,Nat.reduceEqDiff,reduceCtorEq,h1,h2]
def aaX (a b:Int)(h:aa):Ec E2 30 [.int .u8 a,.int .u8 b] h λr h'=>r=.int .i64 (lI a b)/\h'=h:=by
 refine Ec.bu (aI (by decide)) RC ?_;unfold Lx;simp only[go_sem,Nat.reduceEqDiff,Nat.reduceAdd,reduceCtorEq];refine⟨by decide,?_⟩;refine(GW a h).mono ?_;rintro r h1 ⟨rfl,rfl⟩;simp only[go_sem,Nat.reduceEqDiff,reduceCtorEq];refine⟨by decide,?_⟩;refine(GW b h1).mono ?_;rintro r h2 ⟨rfl,rfl⟩;unfold lI;by_cases h1:a<b
 .simp only[go_sem,Nat.reduceEqDiff,reduceCtorEq,h1]
 .by_cases h2:b<a
  .simp only[go_sem,Nat.reduceEqDiff,reduceCtorEq,h1,h2]
  .simp only[go_sem,Nat.reduceEqDiff,reduceCtorEq,h1,h2]
def eO:List Int->Int
 |[]=>0
 |x :: l=>if x=0 then eO l else x
def vu {l:List Int}{i:Nat}{x:Int}(hx:l[i]?=some x):eO (l.drop i)=if x=0 then eO (l.drop (i+1)) else x:=by
 have hi:=(qQZ.1 hx).1;rw[List.drop_eq_getElem_cons hi];have:l[i]=x:=(qQZ.1 hx).2;rw[this];rfl
def LB (l:List Int)(v:ae)(h:aa)(H:cg h 1 v (l.map λn=>[.int .i64 n]))(hl:l.length<=9223372036854775807):Ec E2 28 [v] h λr h'=>r=.int .i64 (eO l)/\h'=h:=by
 refine Ec.bu (aI (by decide)) Ng ?_;have hlen:=cg.len H;rw[qQD]at hlen;unfold Dw;simp only[go_sem,Nat.reduceEqDiff,reduceCtorEq,hlen];refine fg (λd fr h'=>h'=h/\fr.get 3=some (.int .i64 0)/\fr.get 6=some v/\fr.get 7=some (.int .i64 (l.length:Int))/\∃i:Nat,fr.get 8=some (.int .i64 (i:Int))/\d+i=l.length/\eO l=eO (l.drop i)) l.length ?_ ?_
 .exact⟨rfl,by simp[T.ag],by simp[T.ag],by simp[T.ag],0,by simp[T.ag],by omega,by simp⟩
 rintro d fr h' ⟨rfl,t3,t6,t7,i,t8,hd,hf⟩;unfold wP;by_cases hc:(i:Int)<(l.length:Int)
 .obtain⟨x,hx⟩:∃x,l[i]?=some x:=⟨_,qQW (by omega)⟩;obtain⟨b,o,hr,fU⟩:=cg.ix H (j:=i) (x:=[.int .i64 x]) (by rw[qQX,hx];rfl);have fU:=fU .i64 (i:Int) h';have rA:aN h' b o=some (.int .i64 x):=hr.aN (i:=0) rfl;have hw:IntKind.i64.wrap ((i:Int)+1)=((i+1:Nat):Int):=by rw[wrap_i64 (by omega) (by omega)];push_cast;rfl
  rw[vu hx]at hf;by_cases hz:x=0
  .subst hz;rw[if_pos rfl]at hf;simp only[go_sem,Nat.reduceEqDiff,reduceCtorEq,t3,t6,t7,t8,hc,fU _ rfl,rA,hw];exact⟨d-1,by omega,i+1,rfl,by omega,hf⟩
  .rw[if_neg hz]at hf;simp only[go_sem,Nat.reduceEqDiff,t3,t6,t7,t8,hc,fU _ rfl,rA,hz,hf]
 .rw[List.drop_eq_nil_of_le (by omega)]at hf;simp only[go_sem,Nat.reduceEqDiff,reduceCtorEq,t3,t7,t8,hc,hf];rfl
def qe (a b:dH):Int:=eO [lI a.fr b.fr,lI a.to b.to,lI (a.l:Int) (b.l:Int)]
def M9 (a b:dH)(h:aa):Ec E2 18 [.agg (aX a),.agg (aX b)] h λr h'=>r=.int .i64 (qe a b)/\aU h h':=by
 refine Ec.bu (aI (by decide)) FM ?_;unfold vj;unfold aX;simp only[go_sem,Nat.reduceEqDiff,Nat.reduceAdd,reduceCtorEq];have e1:∀i,aN ((h.push (.cells [.int .i64 a.fr,.int .i64 a.to,.int .u8 (a.l:Int),.int .i64 a.c] 52)).push (.cells [.int .i64 b.fr,.int .i64 b.to,.int .u8 (b.l:Int),.int .i64 b.c] 52)) h.next i=(aX a)[i]?:=λi=>by rw[bt (by simp[aa.bI]),aH];rfl
 have e2:∀i,aN ((h.push (.cells [.int .i64 a.fr,.int .i64 a.to,.int .u8 (a.l:Int),.int .i64 a.c] 52)).push (.cells [.int .i64 b.fr,.int .i64 b.to,.int .u8 (b.l:Int),.int .i64 b.c] 52)) (h.next+1) i=(aX b)[i]?:=λi=>by
  rw[show h.next+1=(h.push (.cells [.int .i64 a.fr,.int .i64 a.to,.int .u8 (a.l:Int),.int .i64 a.c] 52)).next from rfl,aH];rfl
 have hle:aU h ((h.push (.cells [.int .i64 a.fr,.int .i64 a.to,.int .u8 (a.l:Int),.int .i64 a.c] 52)).push (.cells [.int .i64 b.fr,.int .i64 b.to,.int .u8 (b.l:Int),.int .i64 b.c] 52)):=((aU.refl h).push _).push _;have hn:((h.push (.cells [.int .i64 a.fr,.int .i64 a.to,.int .u8 (a.l:Int),.int .i64 a.c] 52)).push (.cells [.int .i64 b.fr,.int .i64 b.to,.int .u8 (b.l:Int),.int .i64 b.c] 52)).next=h.next+2:=rfl;generalize (h.push (.cells [.int .i64 a.fr,.int .i64 a.to,.int .u8 (a.l:Int),.int .i64 a.c] 52)).push (.cells [.int .i64 b.fr,.int .i64 b.to,.int .u8 (b.l:Int),.int .i64 b.c] 52)=h1 at e1 e2 hle hn ⊢;have a0:=e1 0;have a1:=e1 1;have a2:=e1 2;have b0:=e2 0;have b1:=e2 1;have b2:=e2 2;simp only[aX,qWM,qJC]at a0 a1 a2 b0 b1 b2;clear e1 e2;simp only[go_sem,Nat.reduceEqDiff,reduceCtorEq,a0,a1,a2,b0,b1,b2];refine⟨by decide,?_⟩;refine(Ja _ _ _).mono ?_;rintro r h2 ⟨rfl,rfl⟩;simp only[go_sem,Nat.reduceEqDiff,reduceCtorEq,a1,a2,b1,b2];refine⟨⟨dJ _ _ _,dJ _ _ _,dJ _ _ _,dJ _ _ _⟩,by decide,?_⟩;refine(Ja _ _ _).mono ?_;rintro r h2 ⟨rfl,rfl⟩;simp only[go_sem,Nat.reduceEqDiff,reduceCtorEq,a2,b2];refine⟨⟨dJ _ _ _,dJ _ _ _⟩,by decide,?_⟩;refine(aaX _ _ _).mono ?_;rintro r h2 ⟨rfl,rfl⟩;simp only[go_sem,Nat.reduceEqDiff,Nat.reduceAdd,Nat.reduceLeDiff,reduceCtorEq];refine⟨by decide,?_⟩;refine(LB [lI a.fr b.fr,lI a.to b.to,lI (a.l:Int) (b.l:Int)] _ _ ⟨by simp,.inr ⟨_,_,_,_,rfl,.inr (fP.ed (e:=3) (by simp[aa.eT];omega) (aa.aj _ _ _) (by simp[ae.flat]))⟩⟩ (by simp)).mono ?_;rintro r h2 ⟨rfl,rfl⟩;simp only[go_sem,Nat.reduceEqDiff,reduceCtorEq];exact⟨rfl,(hle.skip 18).put (by omega) _⟩
def mF (a b:Int):(a<b/\lI a b=-1)\/(b<a/\lI a b=1)\/(a=b/\lI a b=0):=by
 unfold lI;by_cases h1:a<b
 .exact .inl ⟨h1,if_pos h1⟩
 .by_cases h2:b<a
  .exact .inr (.inl ⟨h2,by rw[if_neg h1,if_pos h2]⟩)
  .exact .inr (.inr ⟨by omega,by rw[if_neg h1,if_neg h2]⟩)
def Cp (a b:dH):kX a b=decide (qe a b<0):=by
 unfold kX qe eO eO eO eO;rw[decide_eq_decide];rcases mF a.fr b.fr with⟨h1,e1⟩|⟨h1,e1⟩|⟨h1,e1⟩<;>rw[e1]
 .simp;omega
 .simp;omega
 .rcases mF a.to b.to with⟨h2,e2⟩|⟨h2,e2⟩|⟨h2,e2⟩<;>rw[e2]
  .simp;omega
  .simp;omega
  .rcases mF (a.l:Int) (b.l:Int) with⟨h3,e3⟩|⟨h3,e3⟩|⟨h3,e3⟩<;>rw[e3]<;>simp<;>omega
def xk:∀u v:List Nat,ltStr u v=lexB u v
 |[],[]=>rfl
 |[],_ :: _=>rfl
 |_ :: _,[]=>rfl
 |a :: u,b :: v=>by
  show aO (Nat.blt a b) true (aO (Nat.beq a b) (ltStr u v) false)=_;rw[xk u v,bq,bq];show _=(decide (a<b) || (decide (a=b) && lexB u v));by_cases h1:a<b
  .rw[if_pos (by rw[qJE];exact h1)];simp[h1]
  .rw[if_neg (by rw[qJE];exact h1)];by_cases h2:a=b
   .subst h2;rw[if_pos (by simp)];simp
   .rw[if_neg (by rw[qZX];exact h2)];simp[h1,h2]
def BP (u v:List Nat):Int:=if lexB u v then -1 else if lexB v u then 1 else 0
def zp (q:yv)(a b:List Nat):kZ .lss q (.str a) (.str b)=some (.bool (lexB a b)):=by
 rw[<-xk];rfl
def zo (q:yv)(a b:List Nat):kZ .gtr q (.str a) (.str b)=some (.bool (lexB b a)):=by
 have:kZ .gtr q (.str a) (.str b)=some (.bool (not (or (ltStr a b) (eqStr a b)))):=rfl;rw[this,xk];congr 2;cases h1:lexB a b with
 |true=>rw[Ax h1];rfl
 |false =>
  show(!(false || eqStr a b))=_;rw[Bool.false_or];by_cases h2:a=b
  .subst h2;rw[nU,jC,decide_eq_true rfl];rfl
  .rw[jC,decide_eq_false h2];cases h3:lexB b a with
   |true=>rfl
   |false=>exact absurd (si a b h1 h3) h2
def zE:ax :=
 (.seq
  (.region [oB 60 .lss 59 58])
  (.seq
   (.cond (.t 60)
    .skip
    (.exit 0))
   (.seq
    (.block 1
     (.seq
      (.region [oM 61 59,oM 8 61])
      (.seq
       (.region [oM 62 6,oM 63 8,oM 64 8,oX 65 1 62 63,oS 1 65 64])
       (.drawn 11 [oR 0 (oL 66 7),oP 1 (oM 67 8),oR 2 (oL 68 4),oP 3 (oK 69 (.nilCheck (.t 68))),oP 4 (oF 70 3 69),oR 5 (oL 71 70),oP 6 (oM 72 5),oP 7 (oM 73 8),⟨oK 74 (.call (.c (.func 36 [] [])) [(.t 71),(.t 72),(.t 73)]),8,.wr,[oL 66 7]⟩,oP 9 (oX 75 1 66 67),oW 10 (oS 1 75 74)]))))
    (.region [oK 76 (.bin .add .none (.t 59) (.c (.int .i64 1))),oM 59 76]))))
def zF:ax :=
 (.seq
  (.region [oB 86 .lss 85 84])
  (.seq
   (.cond (.t 86)
    .skip
    (.exit 2))
   (.seq
    (.block 3
     (.seq
      (.region [oM 87 85,oX 88 1 83 85,oL 89 88,oM 10 87,oM 11 89])
      (.region [oM 90 9,oM 91 11,oM 92 10,oX 93 1 90 91,oS 1 93 92])))
    (.region [oK 94 (.bin .add .none (.t 85) (.c (.int .i64 1))),oM 85 94]))))
def zG:ax :=
 (.seq
  (.region [oB 115 .lss 114 113])
  (.seq
   (.cond (.t 115)
    .skip
    (.exit 6))
   (.seq
    (.block 7
     (.seq
      (.region [oX 116 3 112 114,oQ 117 3 116,oK 16 (.box 124 (.c (.agg [(.int .u8 0),(.int .i64 0),(.int .i64 0)]))),oS 3 16 117])
      (.drawn 17 [oP 0 (oF 118 1 12),oR 1 (oL 119 118),oP 2 (oM 120 13),oP 3 (oM 121 9),oP 4 (oF 122 1 16),oR 5 (oL 123 122),oP 6 (oX 124 1 121 123),oR 7 (oL 125 124),oP 8 (oF 126 0 16),oR 9 (oL 127 126),oP 10 (oF 128 2 16),oR 11 (oL 129 128),oP 12 (oK 130 (.build [(.int .i64 0),(.int .i64 0),(.int .u8 0),(.int .i64 0)] [(0,1,(.t 120)),(1,1,(.t 125)),(2,1,(.t 127)),(3,1,(.t 129))])),oT 13 (oK 131 (.buildSlice 52 1 [(.int .i64 0),(.int .i64 0),(.int .u8 0),(.int .i64 0)] [(0,4,(.t 130))])),oW 14 (oK 132 (.append 52 4 (.t 119) (.t 131))),oP 15 (oF 133 1 12),oW 16 (oS 1 133 132)])))
    (.region [oK 134 (.bin .add .none (.t 114) (.c (.int .i64 1))),oM 114 134]))))
def zH:ax :=
 (.seq
  (.region [oB 101 .lss 100 99])
  (.seq
   (.cond (.t 101)
    .skip
    (.exit 4))
   (.seq
    (.block 5
     (.seq
      (.region [oM 102 100,oX 103 1 98 100,oL 104 103,oM 13 102,oM 14 104])
      (.seq
       (.seq
        (.region [oL 105 4,oK 106 (.nilCheck (.t 105)),oF 107 3 106,oL 108 107,oM 109 14,oX 110 2 108 109,oF 111 0 110,oL 112 111,oJ 113 112,oK 114 (.mv (.c (.int .i64 0)))])
        (.block 6
         (.loop zG)))
       (.seq
        (.region [oL 135 4,oK 136 (.nilCheck (.t 135)),oF 137 3 136,oL 138 137,oM 139 14,oX 140 2 138 139,oF 141 1 140,oL 142 141,oM 17 142])
        (.seq
         (.region [oM 143 17,oK 144 (.bin .geq .none (.t 143) (.c (.int .i64 0)))])
         (.cond (.t 144)
          (.region [oF 145 2 12,oL 146 145,oM 147 13,oM 148 17,oK 149 (.build [(.int .i64 0),(.int .i64 0)] [(0,1,(.t 147)),(1,1,(.t 148))]),oK 150 (.buildSlice 56 1 [(.int .i64 0),(.int .i64 0)] [(0,2,(.t 149))]),oK 151 (.append 56 2 (.t 146) (.t 150)),oF 152 2 12,oS 1 152 151])
          .skip))))))
    (.region [oK 153 (.bin .add .none (.t 100) (.c (.int .i64 1))),oM 100 153]))))
def tB:ax :=
 (.seq
  (.region [oK 2 (.box 25 (.c (.agg [(.int .i64 0),.af,.af]))),oK 3 (.mv (.c (.bool false)))])
  (.seq
   (.seq
    (.region [oM 18 0,oJ 19 18,oK 20 (.bin .eql .none (.t 19) (.c (.int .i64 1))),oM 21 20,oG 22 21 true (.mv (.t 0)),oG 23 21 true (.kz 2 (.t 22) (.c (.int .i64 0))),oG 24 21 true (.dh 1 (.t 23)),oG 25 21 true (.ct (.t 24)),oG 26 21 true (.bin .lss .none (.t 25) (.c (.int .i64 0))),oK 27 (.pick (.t 21) (.t 26) (.c (.bool false))),oM 28 27,oG 29 28 true (.mv (.t 0)),oG 30 28 true (.kz 2 (.t 29) (.c (.int .i64 0))),oG 31 28 true (.dh 0 (.t 30)),oG 32 28 true (.ct (.t 31)),oG 33 28 true (.len .slice (.t 32)),oG 34 28 true (.bin .eql .none (.t 33) (.c (.int .i64 0))),oK 35 (.pick (.t 28) (.t 34) (.c (.bool false)))])
    (.cond (.t 35)
     (.seq
      (.region [oK 36 (.build [(.int .i64 0),.af,.af] [(0,1,(.c (.int .i64 1)))]),oS 3 2 36,oK 3 (.mv (.c (.bool true)))])
      .ret)
     .skip))
   (.seq
    (.region [oM 37 0,oK 38 (.mkMap),oK 39 (.mkMap),oK 40 (.build [.af,.b8,.b8,.af,.af] [(0,1,(.t 37)),(1,1,(.t 38)),(2,1,(.t 39))]),oK 41 (.box 116 (.t 40)),oK 4 (.box 113 (.c .dt)),oS 1 4 41])
    (.seq
     (.region [oL 42 4,oK 43 (.call (.c (.func 35 [] [])) [(.t 42),(.c (.int .i64 0))]),oK 44 (.lV 2 (.t 43)),oM 5 44])
     (.seq
      (.region [oL 45 4,oK 46 (.nilCheck (.t 45)),oF 47 3 46,oL 48 47,oJ 49 48,oK 50 (.mkSlice 3 [(.int .i64 0)] 8 (.t 49) (.t 49)),oM 6 50])
      (.seq
       (.region [oL 51 4,oK 52 (.nilCheck (.t 51)),oF 53 3 52,oL 54 53,oJ 55 54,oK 56 (.mkSlice 9 [(.str [])] 16 (.t 55) (.t 55)),oK 7 (.box 32 (.c .af)),oS 1 7 56])
       (.seq
        (.seq
         (.region [oM 57 6,oJ 58 57,oK 59 (.mv (.c (.int .i64 0)))])
         (.block 0
          (.loop zE)))
        (.seq
         (.region [oM 77 6,oK 78 (.iu 38 [] [(.t 4),(.t 7)]),oK 79 (.call (.c (.func 37 [] [])) [(.t 77),(.t 78)])])
         (.seq
          (.region [oM 80 6,oJ 81 80,oK 82 (.mkSlice 3 [(.int .i64 0)] 8 (.t 81) (.t 81)),oM 9 82])
          (.seq
           (.seq
            (.region [oM 83 6,oJ 84 83,oK 85 (.mv (.c (.int .i64 0)))])
            (.block 2
             (.loop zF)))
           (.seq
            (.region [oM 95 6,oJ 96 95,oK 97 (.build [(.int .i64 0),.af,.af] [(0,1,(.t 96))]),oK 12 (.box 25 (.c (.agg [(.int .i64 0),.af,.af]))),oS 3 12 97])
            (.seq
             (.seq
              (.region [oM 98 6,oJ 99 98,oK 100 (.mv (.c (.int .i64 0)))])
              (.block 4
               (.loop zH)))
             (.seq
              (.region [oF 154 1 12,oL 155 154,oK 156 (.call (.c (.func 40 [] [])) [(.t 155),(.c (.func 18 [] []))])])
              (.seq
               (.drawn 6 [oR 0 (oQ 157 3 12),oR 1 (oQ 158 3 12),⟨oK 159 (.call (.c (.func 6 [] [])) [(.t 158)]),2,.wr,[oQ 157 3 12]⟩,oP 3 (oK 160 (.bin .eql .none (.t 159) (.c (.int .i64 0)))),oW 4 (oS 3 2 157),oP 5 (oM 3 160)])
               .ret))))))))))))))
def RG:E2.code 20=some (tB,[.cell 2 25,.tmp 3]):=by kernel_rfl
def wR:ax :=
 (.seq
  (.region [oB 53 .lss 52 51])
  (.seq
   (.cond (.t 53)
    .skip
    (.exit 0))
   (.seq
    (.block 1
     (.seq
      (.region [oX 54 3 50 52,oQ 55 3 54,oK 10 (.box 124 (.c (.agg [(.int .u8 0),(.int .i64 0),(.int .i64 0)]))),oS 3 10 55])
      (.seq
       (.region [oM 56 0,oF 57 1 10,oL 58 57,oK 59 (.call (.c (.func 35 [] [])) [(.t 56),(.t 58)]),oK 11 (.box 118 (.c (.agg [(.int .i64 0),(.int .i64 0),(.int .i64 0)]))),oS 3 11 59])
       (.seq
        (.region [oF 60 1 7,oL 61 60,oF 62 1 11,oL 63 62,oK 64 (.bin .add .none (.t 63) (.c (.int .i64 1))),oK 65 (.fk true [(.t 61),(.t 64)]),oF 66 1 7,oS 1 66 65])
        (.seq
         (.region [oF 67 2 10,oL 68 67,oF 69 0 11,oL 70 69,oB 71 .add 68 70,oM 12 71])
         (.seq
          (.region [oF 72 0 7,oL 73 72,oK 74 (.bin .lss .none (.t 73) (.c (.int .i64 0))),oM 75 74,oG 76 75 false (.mv (.t 12)),oG 77 75 false (.dh 0 (.t 7)),oG 78 75 false (.ct (.t 77)),oG 79 75 false (.bin .lss .none (.t 76) (.t 78)),oK 80 (.pick (.t 75) (.c (.bool true)) (.t 79))])
          (.cond (.t 80)
           (.region [oM 81 12,oF 82 0 7,oS 1 82 81])
           .skip)))))))
    (.region [oK 83 (.bin .add .none (.t 52) (.c (.int .i64 1))),oM 52 83]))))
def pz:ax :=
 (.seq
  (.region [oB 113 .lss 112 111])
  (.seq
   (.cond (.t 113)
    .skip
    (.exit 2))
   (.seq
    (.block 3
     (.seq
      (.region [oX 114 3 110 112,oQ 115 3 114,oK 17 (.box 124 (.c (.agg [(.int .u8 0),(.int .i64 0),(.int .i64 0)]))),oS 3 17 115])
      (.seq
       (.drawn 9 [oP 0 (oM 116 0),oP 1 (oK 117 (.nilCheck (.t 116))),oP 2 (oF 118 1 117),oR 3 (oL 119 118),oP 4 (oF 120 1 17),oR 5 (oL 121 120),oR 6 (oK 122 (.lookup (.one .i) (.agg [(.int .i64 0),(.int .i64 0),(.int .i64 0)]) (.t 119) (.t 121) false)),oT 7 (oK 18 (.box 118 (.c (.agg [(.int .i64 0),(.int .i64 0),(.int .i64 0)])))),oW 8 (oS 3 18 122)])
       (.region [oF 123 0 14,oL 124 123,oF 125 0 17,oL 126 125,oF 127 2 18,oL 128 127,oF 129 2 17,oL 130 129,oF 131 0 18,oL 132 131,oB 133 .add 130 132,oM 134 13,oB 135 .sub 133 134,oK 136 (.build [(.int .u8 0),(.int .i64 0),(.int .i64 0)] [(0,1,(.t 126)),(1,1,(.t 128)),(2,1,(.t 135))]),oK 137 (.buildSlice 124 1 [(.int .u8 0),(.int .i64 0),(.int .i64 0)] [(0,3,(.t 136))]),oK 138 (.append 124 3 (.t 124) (.t 137)),oF 139 0 14,oS 1 139 138]))))
    (.region [oK 140 (.bin .add .none (.t 112) (.c (.int .i64 1))),oM 112 140]))))
def zS:ax :=
 (.seq
  (.region [oK 4 (.box 118 (.c (.agg [(.int .i64 0),(.int .i64 0),(.int .i64 0)])))])
  (.seq
   (.seq
    (.region [oM 20 0,oK 21 (.nilCheck (.t 20)),oF 22 1 21,oL 23 22,oM 24 1,oK 25 (.lookup (.one .i) (.agg [(.int .i64 0),(.int .i64 0),(.int .i64 0)]) (.t 23) (.t 24) true),oM 19 25,oK 26 (.extract 0 (.t 19)),oK 27 (.extract 1 (.t 19)),oK 5 (.box 118 (.c (.agg [(.int .i64 0),(.int .i64 0),(.int .i64 0)]))),oS 3 5 26,oM 6 27])
    (.seq
     (.region [oM 28 6])
     (.cond (.t 28)
      (.seq
       (.region [oQ 29 3 5,oS 3 4 29])
       .ret)
      .skip)))
   (.seq
    (.region [oK 30 (.build [(.int .i64 0),(.int .i64 0),(.int .i64 0)] [(0,1,(.c (.int .i64 (-1))))]),oK 7 (.box 118 (.c (.agg [(.int .i64 0),(.int .i64 0),(.int .i64 0)]))),oS 3 7 30])
    (.seq
     (.seq
      (.region [oM 31 0,oK 32 (.nilCheck (.t 31)),oF 33 0 32,oL 34 33,oM 35 1,oX 36 2 34 35,oF 37 1 36,oL 38 37,oM 8 38])
      (.seq
       (.region [oM 39 8,oK 40 (.bin .geq .none (.t 39) (.c (.int .i64 0)))])
       (.cond (.t 40)
        (.region [oM 41 8,oF 42 0 7,oS 1 42 41])
        .skip)))
     (.seq
      (.seq
       (.region [oM 43 0,oK 44 (.nilCheck (.t 43)),oF 45 0 44,oL 46 45,oM 47 1,oX 48 2 46 47,oF 49 0 48,oL 50 49,oJ 51 50,oK 52 (.mv (.c (.int .i64 0)))])
       (.block 0
        (.loop wR)))
      (.seq
       (.region [oF 84 0 7,oL 85 84,oM 13 85])
       (.seq
        (.seq
         (.region [oM 86 1,oK 87 (.bin .eql .none (.t 86) (.c (.int .i64 0)))])
         (.cond (.t 87)
          (.region [oK 13 (.mv (.c (.int .i64 0)))])
          .skip))
        (.seq
         (.region [oK 14 (.box 110 (.c (.agg [.af,(.int .i64 0)])))])
         (.seq
          (.region [oF 88 1 14,oZ (.store 1 (.t 88) (.c (.int .i64 (-1))))])
          (.seq
           (.seq
            (.region [oM 89 0,oK 90 (.nilCheck (.t 89)),oF 91 0 90,oL 92 91,oM 93 1,oX 94 2 92 93,oF 95 1 94,oL 96 95,oM 15 96])
            (.seq
             (.region [oM 97 15,oK 98 (.bin .geq .none (.t 97) (.c (.int .i64 0)))])
             (.cond (.t 98)
              (.region [oM 99 15,oM 100 13,oB 101 .sub 99 100,oF 102 1 14,oS 1 102 101])
              .skip)))
           (.seq
            (.seq
             (.region [oM 103 0,oK 104 (.nilCheck (.t 103)),oF 105 0 104,oL 106 105,oM 107 1,oX 108 2 106 107,oF 109 0 108,oL 110 109,oJ 111 110,oK 112 (.mv (.c (.int .i64 0)))])
             (.block 2
              (.loop pz)))
            (.seq
             (.region [oM 141 0,oQ 142 2 14,oF 143 1 7,oL 144 143,oM 145 1,oK 146 (.bin .eql .none (.t 145) (.c (.int .i64 0))),oK 147 (.call (.c (.func 57 [] [])) [(.t 141),(.t 142),(.t 144),(.t 146)]),oF 148 2 7,oS 1 148 147])
             (.seq
              (.drawn 7 [oP 0 (oM 149 0),oP 1 (oK 150 (.nilCheck (.t 149))),oP 2 (oF 151 1 150),oR 3 (oL 152 151),oP 4 (oM 153 1),oR 5 (oQ 154 3 7),oW 6 (oZ (.fj (.one .i) (.t 152) (.t 153) (.t 154)))])
              (.seq
               (.region [oQ 155 3 7,oS 3 4 155])
               .ret))))))))))))))
def Cv:E2.code 35=some (zS,[.cell 4 118]):=by kernel_rfl
def wQ:ax :=
 (.seq
  (.region [oB 26 .lss 25 24])
  (.seq
   (.cond (.t 26)
    .skip
    (.exit 2))
   (.seq
    (.block 3
     (.seq
      (.region [oX 27 3 23 25,oQ 28 3 27,oK 11 (.box 124 (.c (.agg [(.int .u8 0),(.int .i64 0),(.int .i64 0)]))),oS 3 11 28])
      (.seq
       (.region [oM 29 7,oF 30 1 11,oL 31 30,oX 32 1 29 31,oL 33 32])
       (.cond (.t 33)
        (.seq
         (.region [oM 34 8,oF 35 0 11,oL 36 35,oK 37 (.buildSlice 5 1 [(.int .u8 0)] [(0,1,(.t 36))]),oK 38 (.append 5 1 (.t 34) (.t 37)),oM 8 38])
         (.seq
          (.region [oF 39 1 11,oL 40 39,oM 9 40])
          (.exit 1)))
        .skip))))
    (.region [oK 41 (.bin .add .none (.t 25) (.c (.int .i64 1))),oM 25 41]))))
def Ct:ax :=
 (.seq
  (.seq
   (.region [oM 16 9,oM 17 2,oB 18 .neq 16 17])
   (.cond (.t 18)
    .skip
    (.exit 0)))
  (.block 1
   (.seq
    (.seq
     (.region [oM 19 0,oM 20 9,oX 21 2 19 20,oF 22 0 21,oL 23 22,oJ 24 23,oK 25 (.mv (.c (.int .i64 0)))])
     (.block 2
      (.loop wQ)))
    (.exit 0))))
def Rn:ax :=
 (.seq
  (.region [oK 6 (.mv (.c (.str [])))])
  (.seq
   (.region [oM 12 0,oM 13 2,oK 14 (.call (.c (.func 58 [] [])) [(.t 12),(.t 13)]),oM 7 14])
   (.seq
    (.region [oK 8 (.mv (.c .af))])
    (.seq
     (.region [oM 15 1,oM 9 15])
     (.seq
      .skip
      (.seq
       (.block 0
        (.loop Ct))
       (.seq
        (.region [oM 42 8,oK 43 (.dw (.t 42)),oM 6 43])
        .ret)))))))
def Nj:E2.code 36=some (Rn,[.tmp 6]):=by kernel_rfl
def Ro:ax :=
 (.seq
  (.region [oK 6 (.mv (.c (.int .i64 0)))])
  (.seq
   (.drawn 27 [oR 0 (oL 7 2),oP 1 (oK 8 (.nilCheck (.t 7))),oP 2 (oF 9 4 8),oR 3 (oL 10 9),oP 4 (oM 11 1),oP 5 (oX 12 1 10 11),oR 6 (oL 13 12),oR 7 (oL 14 2),oP 8 (oK 15 (.nilCheck (.t 14))),oP 9 (oF 16 4 15),oR 10 (oL 17 16),oP 11 (oM 18 0),oP 12 (oX 19 1 17 18),oR 13 (oL 20 19),oR 15 (oL 22 3),oP 16 (oM 23 0),oP 17 (oX 24 1 22 23),oR 18 (oL 25 24),oR 19 (oL 26 3),oP 20 (oM 27 1),oP 21 (oX 28 1 26 27),oR 22 (oL 29 28),⟨oK 21 (.call (.c (.func 29 [] [])) [(.t 13),(.t 20)]),14,.wr,[oL 29 28,oL 26 3,oL 25 24,oL 22 3]⟩,oW 23 (oK 30 (.call (.c (.func 39 [] [])) [(.t 25),(.t 29)])),oT 24 (oK 31 (.buildSlice 3 2 [(.int .i64 0)] [(0,1,(.t 21)),(1,1,(.t 30))])),oW 25 (oK 32 (.call (.c (.func 28 [] [])) [(.t 31)])),oP 26 (oM 6 32)])
   .ret))
def Lz:ax :=
 (.seq
  (.region [oK 4 (.mv (.c (.int .i64 0)))])
  (.seq
   (.region [oM 7 0,oK 8 (.call (.c (.func 61 [] [])) [(.t 7)]),oM 5 8])
   (.seq
    (.region [oM 9 1,oK 10 (.call (.c (.func 61 [] [])) [(.t 9)]),oM 6 10])
    (.seq
     (.seq
      (.region [oM 11 5])
      (.cond (.t 11)
       (.seq
        (.seq
         (.region [oM 12 6])
         (.cond (.t 12)
          (.seq
           (.region [oK 4 (.mv (.c (.int .i64 0)))])
           .ret)
          .skip))
        (.seq
         (.region [oK 4 (.mv (.c (.int .i64 (-1))))])
         .ret))
       .skip))
     (.seq
      (.seq
       (.region [oM 13 6])
       (.cond (.t 13)
        (.seq
         (.region [oK 4 (.mv (.c (.int .i64 1)))])
         .ret)
        .skip))
      (.seq
       (.seq
        (.region [oM 14 0,oM 15 1,oB 16 .lss 14 15])
        (.cond (.t 16)
         (.seq
          (.region [oK 4 (.mv (.c (.int .i64 (-1))))])
          .ret)
         .skip))
       (.seq
        (.seq
         (.region [oM 17 0,oM 18 1,oB 19 .gtr 17 18])
         (.cond (.t 19)
          (.seq
           (.region [oK 4 (.mv (.c (.int .i64 1)))])
           .ret)
          .skip))
        (.seq
         (.region [oK 4 (.mv (.c (.int .i64 0)))])
         .ret))))))))
def RE:E2.code 39=some (Lz,[.tmp 4]):=by kernel_rfl
def Lw:ax :=
 (.seq
  (.region [oB 24 .lss 23 22])
  (.seq
   (.cond (.t 24)
    .skip
    (.exit 0))
   (.seq
    (.block 1
     (.seq
      (.region [oX 25 3 21 23,oQ 26 3 25,oK 11 (.box 124 (.c (.agg [(.int .u8 0),(.int .i64 0),(.int .i64 0)]))),oS 3 11 26])
      (.drawn 18 [oP 0 (oM 27 9),oP 1 (oF 28 0 11),oR 2 (oL 29 28),oP 3 (oK 30 (.px .i64 (.t 29))),oP 7 (oF 34 1 11),oR 8 (oL 35 34),oP 12 (oF 39 2 11),oR 13 (oL 40 39),⟨oK 31 (.call (.c (.func 45 [] [])) [(.t 30)]),4,.wr,[oL 40 39,oL 35 34]⟩,oP 5 (oK 32 (.bin .add .none (.c (.str [32])) (.t 31))),oP 6 (oK 33 (.bin .add .none (.t 32) (.c (.str [44])))),⟨oK 36 (.call (.c (.func 45 [] [])) [(.t 35)]),9,.wr,[oL 40 39]⟩,oP 10 (oB 37 .add 33 36),oP 11 (oK 38 (.bin .add .none (.t 37) (.c (.str [44])))),oW 14 (oK 41 (.call (.c (.func 45 [] [])) [(.t 40)])),oP 15 (oB 42 .add 38 41),oP 16 (oB 43 .add 27 42),oP 17 (oM 9 43)])))
    (.region [oK 44 (.bin .add .none (.t 23) (.c (.int .i64 1))),oM 23 44]))))
def aeJ:ax :=
 (.seq
  (.region [oK 5 (.box 110 (.t 1)),oK 8 (.mv (.c (.int .i64 0)))])
  (.seq
   (.region [oF 14 1 5,oL 15 14,oK 16 (.call (.c (.func 45 [] [])) [(.t 15)]),oM 17 3,oK 18 (.call (.c (.func 78 [] [])) [(.t 17)]),oB 19 .add 16 18,oM 9 19])
   (.seq
    (.seq
     (.region [oF 20 0 5,oL 21 20,oJ 22 21,oK 23 (.mv (.c (.int .i64 0)))])
     (.block 0
      (.loop Lw)))
    (.seq
     (.region [oM 46 0,oK 47 (.nilCheck (.t 46)),oF 48 2 47,oL 49 48,oM 50 9,oK 51 (.lookup (.one .s) (.int .i64 0) (.t 49) (.t 50) true),oM 45 51,oK 52 (.extract 0 (.t 45)),oK 53 (.extract 1 (.t 45)),oM 12 52,oM 13 53])
     (.seq
      (.seq
       (.region [oM 54 13,oK 55 (.not (.t 54))])
       (.cond (.t 55)
        (.seq
         (.region [oM 56 0,oK 57 (.nilCheck (.t 56)),oF 58 3 57,oL 59 58,oJ 60 59,oM 12 60])
         (.seq
          (.region [oM 61 0,oK 62 (.nilCheck (.t 61)),oF 63 2 62,oL 64 63,oM 65 9,oM 66 12,oZ (.fj (.one .s) (.t 64) (.t 65) (.t 66))])
          (.seq
           (.drawn 11 [oP 0 (oM 67 0),oP 1 (oM 68 0),oP 2 (oK 69 (.nilCheck (.t 68))),oP 3 (oF 70 3 69),oR 4 (oL 71 70),oR 5 (oQ 72 2 5),oT 6 (oK 73 (.buildSlice 110 1 [.af,(.int .i64 0)] [(0,2,(.t 72))])),oW 7 (oK 74 (.append 110 2 (.t 71) (.t 73))),oP 8 (oK 75 (.nilCheck (.t 67))),oP 9 (oF 76 3 75),oW 10 (oS 1 76 74)])
           (.region [oM 77 0,oM 78 0,oK 79 (.nilCheck (.t 78)),oF 80 4 79,oL 81 80,oM 82 2,oK 83 (.buildSlice 3 1 [(.int .i64 0)] [(0,1,(.t 82))]),oK 84 (.append 3 1 (.t 81) (.t 83)),oK 85 (.nilCheck (.t 77)),oF 86 4 85,oS 1 86 84]))))
        .skip))
      (.seq
       (.region [oM 87 12,oM 8 87])
       .ret))))))
def WE:E2.code 57=some (aeJ,[.tmp 8]):=by kernel_rfl
def Cz:ax :=
 (.seq
  (.region [oB 19 .lss 18 17])
  (.seq
   (.cond (.t 19)
    .skip
    (.exit 0))
   (.seq
    (.block 1
     (.seq
      (.region [oM 20 18,oM 8 20])
      (.region [oM 21 7,oM 22 8,oL 23 6,oM 24 8,oK 25 (.call (.t 23) [(.t 24)]),oX 26 1 21 22,oS 1 26 25])))
    (.region [oK 27 (.bin .add .none (.t 18) (.c (.int .i64 1))),oM 18 27]))))
def RZ:ax :=
 (.seq
  (.region [oK 2 (.box 60 (.t 0)),oK 3 (.box 3 (.t 1)),oK 4 (.mv (.c .af))])
  (.seq
   (.region [oL 9 2,oJ 10 9,oK 11 (.mkSlice 3 [(.int .i64 0)] 8 (.t 10) (.t 10)),oK 5 (.box 66 (.c .af)),oS 1 5 11])
   (.seq
    (.region [oK 6 (.box 152 (.c .fb))])
    (.seq
     (.region [oK 12 (.iu 79 [] [(.t 5),(.t 3),(.t 2),(.t 6)]),oS 1 6 12])
     (.seq
      (.region [oL 13 2,oJ 14 13,oK 15 (.mkSlice 4 [(.bool false)] 1 (.t 14) (.t 14)),oM 7 15])
      (.seq
       (.seq
        (.region [oL 16 2,oJ 17 16,oK 18 (.mv (.c (.int .i64 0)))])
        (.block 0
         (.loop Cz)))
       (.seq
        (.region [oM 28 7,oM 4 28])
        .ret)))))))
def Nu:E2.code 58=some (RZ,[.tmp 4]):=by kernel_rfl
def y5:ax :=
 (.seq
  (.region [oK 2 (.mv (.c (.bool false)))])
  (.seq
   (.region [oM 3 0,oM 4 0,oB 5 .neq 3 4,oM 2 5])
   .ret))
def Ji:E2.code 61=some (y5,[.tmp 2]):=by kernel_rfl
def Rm:ax :=
 (.seq
  (.region [oK 2 (.mv (.c (.str [])))])
  (.seq
   (.region [oM 3 0,oK 4 (.call (.c (.func 114 [] [])) [(.t 3)]),oM 2 4])
   .ret))
def Ni:E2.code 78=some (Rm,[.tmp 2]):=by kernel_rfl
def qk:ax :=
 (.seq
  (.region [oB 30 .lss 29 28])
  (.seq
   (.cond (.t 30)
    .skip
    (.exit 0))
   (.seq
    (.block 1
     (.seq
      (.region [oX 31 3 27 29,oQ 32 3 31,oK 8 (.box 124 (.c (.agg [(.int .u8 0),(.int .i64 0),(.int .i64 0)]))),oS 3 8 32])
      (.seq
       (.region [oL 33 4,oF 34 1 8,oL 35 34,oK 36 (.call (.t 33) [(.t 35)])])
       (.cond (.t 36)
        (.region [oL 37 1,oM 38 0,oX 39 1 37 38,oZ (.store 1 (.t 39) (.c (.int .i64 2)))])
        .skip))))
    (.region [oK 40 (.bin .add .none (.t 29) (.c (.int .i64 1))),oM 29 40]))))
def LI:ax :=
 (.seq
  (.region [oK 6 (.mv (.c (.bool false)))])
  (.seq
   (.seq
    (.region [oL 9 1,oM 10 0,oX 11 1 9 10,oL 12 11,oK 13 (.bin .eql .none (.t 12) (.c (.int .i64 0)))])
    (.cond (.t 13)
     (.seq
      (.region [oL 14 1,oM 15 0,oX 16 1 14 15,oZ (.store 1 (.t 16) (.c (.int .i64 1)))])
      (.seq
       (.seq
        (.region [oM 17 0,oL 18 2,oB 19 .eql 17 18])
        (.cond (.t 19)
         (.region [oL 20 1,oM 21 0,oX 22 1 20 21,oZ (.store 1 (.t 22) (.c (.int .i64 2)))])
         .skip))
       (.seq
        (.region [oL 23 3,oM 24 0,oX 25 2 23 24,oF 26 0 25,oL 27 26,oJ 28 27,oK 29 (.mv (.c (.int .i64 0)))])
        (.block 0
         (.loop qk)))))
     .skip))
   (.seq
    (.region [oL 41 1,oM 42 0,oX 43 1 41 42,oL 44 43,oK 45 (.bin .eql .none (.t 44) (.c (.int .i64 2))),oM 6 45])
    .ret)))
def Jl:E2.code 79=some (LI,[.tmp 6]):=by kernel_rfl
def Ru:ax :=
 (.seq
  (.region [oK 2 (.mv (.c (.str [])))])
  (.seq
   (.seq
    (.region [oM 3 0])
    (.cond (.t 3)
     (.seq
      (.region [oK 2 (.mv (.c (.str [116,114,117,101])))])
      .ret)
     .skip))
   (.seq
    (.region [oK 2 (.mv (.c (.str [102,97,108,115,101])))])
    .ret)))
def Nn:E2.code 114=some (Ru,[.tmp 2]):=by kernel_rfl
def E6 (A:Nat->Prop)(h:aa)(b:Nat)(bs:List Nat):Prop:=b<h.next/\¬A b/\∃x buf,h.get b=some (.cells [x,buf] 133)/\(x=.dt\/x=.ptr b 0)/\dO h 1 5 buf (ofBytes bs)/\(∀c,aM buf c->c≠b/\¬A c)/\(bs=[]->buf=.af)
def E6.push {A:Nat->Prop}{h:aa}{b:Nat}{bs:List Nat}(H:E6 A h b bs)(o:aE):E6 (λc=>A c\/c=h.next) (h.push o) b bs:=by
 obtain⟨h1,h2,x,buf,h3,h4,h5,h6,h7⟩:=H;refine⟨by simp[aa.bI];omega,λe=>e.elim h2 (λe=>by omega),x,buf,by rw[aa.aA _ _ (by omega)];exact h3,h4,h5.frame (by simp[aa.bI]) (λc hc=>aa.aA _ _ (by have:=h5.rm hc;omega)),λc hc=>⟨(h6 c hc).1,λe=>e.elim (h6 c hc).2 (λe=>by have:=h5.rm hc;omega)⟩,h7⟩
def E6.sub {A A':Nat->Prop}{h:aa}{b:Nat}{bs:List Nat}(H:E6 A h b bs)(hA:∀c,A' c->A c):E6 A' h b bs:=by
 obtain⟨h1,h2,x,buf,h3,h4,h5,h6,h7⟩:=H;exact⟨h1,λe=>h2 (hA _ e),x,buf,h3,h4,h5,λc hc=>⟨(h6 c hc).1,λe=>(h6 c hc).2 (hA _ e)⟩,h7⟩
def E6.new {A:Nat->Prop}{h:aa}(hA:¬A h.next):E6 A (h.push (.cells [.dt,.af] 133)) h.next [] :=
 ⟨by simp[aa.bI],hA,_,_,aa.ai _ _,.inl rfl,.inl ⟨rfl,rfl⟩,(λc ⟨_,_,_,_,hc⟩=>by cases hc),λ_=>rfl⟩
def aa4 {h:aa}{b:Nat}{x buf:ae}(hg:h.get b=some (.cells [x,buf] 133))(hx:x=.dt\/x=.ptr b 0):Ec E2 66 [.ptr b 0] h λv h'=>v=.eC []/\h'.get b=some (.cells [.ptr b 0,buf] 133)/\h'.next=h.next/\∀c,c≠b->h'.get c=h.get c:=by
 have hp:∀v h',tP (.gg 133) [.ptr b 0] h=some (v,h')->Ec E2 66 [.ptr b 0] h λu h2=>u=v/\h2=h':=λv h' e=>Ec.EC UC e ⟨rfl,rfl⟩;rcases hx with rfl|rfl
 .refine(hp (.eC []) (h.put b (.cells [.ptr b 0,buf] 133)) ?_).mono ?_
  .show onCells (h.get b) _=_;rw[hg];rfl
  .rintro v h' ⟨rfl,rfl⟩;exact⟨rfl,aa.aj _ _ _,rfl,λc hc=>aa.ah _ _ (Ne.symm hc)⟩
 .refine(hp (.eC []) h ?_).mono ?_
  .show onCells (h.get b) _=_;rw[hg];show aO (and (Nat.beq b b) (Nat.beq 0 0)) (some (ae.eC [],h)) none=_;simp[aO]
  .rintro v h' ⟨rfl,rfl⟩;exact⟨rfl,hg,rfl,λc hc=>rfl⟩
def aiO (A:Nat->Prop)(h h':aa)(b:Nat)(bs:List Nat):Prop:=E6 A h' b bs/\h.next<=h'.next/\∀c,A c->h'.get c=h.get c
def Ck (A:Nat->Prop)(h:aa)(b:Nat)(bs s:List Nat)(H:E6 A h b bs)(hA:∀c,A c->c<h.next)(hm:bs.length+s.length<=1073741824):Ec E2 43 [.ptr b 0,.str s] h λ_ h'=>aiO A h h' b (bs++s):=by
 refine Ec.bu (aI (by decide)) aa2 ?_;unfold c32;obtain⟨h1,h2,x,buf,h3,h4,h5,h6,h7⟩:=H;simp only[go_sem,Nat.reduceEqDiff,Nat.reduceAdd,reduceCtorEq];refine⟨by decide,?_⟩;refine(aa4 h3 h4).mono ?_;rintro v h' ⟨rfl,g1,g2,g3⟩;have hl:aN h' b (0+1)=some buf:=by rw[aq g1];rfl
 have Ad:aN h' b 1=some buf:=hl;have own:dO h' 1 5 buf (ofBytes bs):=h5.frame (by omega) λc hc=>g3 c (h6 c hc).1;simp only[go_sem,Nat.reduceEqDiff,reduceCtorEq,hl];by_cases hs:s=[]
 .subst hs;refine M7 (wk _ _) own.form ?_;have hp:putAt h' b 1 1 [buf]=some (h'.put b (.cells [.ptr b 0,buf] 133)):=aD (o:=1) (n:=1) (vs:=[buf]) g1 rfl (by simp);simp only[go_sem,Nat.reduceEqDiff,reduceCtorEq,bM (v:=buf) (by rcases own.form with rfl|⟨_,_,_,_,_,rfl⟩<;>rfl),hp];refine⟨⟨by simp[aa.eT];omega,h2,_,buf,aa.aj _ _ _,.inr rfl,?_,h6,by simpa using h7⟩,by simp[aa.eT];omega,λc hc=>?_⟩
  .rw[qWA];exact own.frame (by simp[aa.eT]) λc hc=>aa.ah _ _ (λe=>(h6 c hc).1 e.symm)
  .have:c≠b:=λe=>h2 (e▸hc);rw[aa.ah _ _ (Ne.symm this),g3 c this]
 .refine kd own (wk _ _) (λe=>hs (qZG e)) (by rw[jT];omega) (by omega) (by rw[jT];omega) ?_;intro v' h'' ho hn hf hb;have Qf:h''.get b=some (.cells [.ptr b 0,buf] 133):=by rw[hf b (by omega) (λhc=>(h6 b hc).1 rfl)];exact g1
  have hp:putAt h'' b 1 1 [v']=some (h''.put b (.cells [.ptr b 0,v'] 133)):=aD (o:=1) (n:=1) (vs:=[v']) Qf rfl (by simp);have ic:v'.flat=true:=by rcases ho.form with rfl|⟨_,_,_,_,_,rfl⟩<;>rfl
  have hblk:∀c,aM v' c->c=h'.next:=by
   rintro c ⟨o,n,c2,e,rfl⟩;obtain⟨_,_,_,_,he⟩:=hb;cases he;rfl
  simp only[go_sem,Nat.reduceEqDiff,reduceCtorEq,bM ic,hp];refine⟨⟨by simp[aa.eT];omega,h2,_,v',aa.aj _ _ _,.inr rfl,?_,λc hc=>?_,λe=>absurd (List.append_eq_nil_iff.1 e).2 hs⟩,by simp[aa.eT];omega,λc hc=>?_⟩
  .rw[Hy];exact ho.frame (by simp[aa.eT]) λc hc=>aa.ah _ _ (λe=>by have:=hblk c hc;omega)
  .have:=hblk c hc;exact⟨by omega,λe=>by have:=hA c e;omega⟩
  .have BX:c≠b:=λe=>h2 (e▸hc);have kM:=hA c hc;rw[aa.ah _ _ (Ne.symm BX),hf c (by omega) (λhk=>(h6 c hk).2 hc),g3 c BX]
def UW (A:Nat->Prop)(h:aa)(b:Nat)(bs:List Nat)(H:E6 A h b bs)(hb:∀x,x∈bs->x<256)(hm:bs.length<1073741824):Ec E2 46 [.ptr b 0] h λv h'=>v=.str bs/\h.next<=h'.next/\∀c,A c->h'.get c=h.get c:=by
 refine Ec.bu (aI (by decide)) aa3 ?_;unfold c35;obtain⟨h1,h2,y,buf,h3,h4,h5,h6,h7⟩:=H;have Ad:aN h b 1=some buf:=by rw[aq h3];rfl
 rcases h5 with⟨rfl,e⟩|⟨c,n,rfl,hc,hg,hlen⟩
 .have e0:bs=[]:=by
   have:=congrArg List.length e;rw[jT]at this;exact qZG (by simpa using this)
  subst e0;simp only[go_sem,Nat.reduceEqDiff,reduceCtorEq,Ad];refine⟨by simp[],λc _=>rfl⟩
 .rw[jT]at hlen;by_cases wD:bs.length=0
  .have:=h7 (qZG wD);cases this
  .simp only[go_sem,Nat.reduceEqDiff,reduceCtorEq,Ad,YM (h:=h.skip 12) (k:=.i64) (n:=(n:Int)) (by omega) hg hb (by omega) hm];refine⟨by omega,?_⟩;refine⟨by simp[aa.skip],λd hd=>?_⟩;have:d≠c:=λe=>(h6 c ⟨_,_,_,_,rfl⟩).2 (e▸hd);rw[aa.ah _ _ (Ne.symm this)];rfl
def ai3 (cells:List (List Alt)):Prop:=∀c,c∈cells->U0 c
instance (cells:List (List Alt)):Decidable (ai3 cells):=Classical.propDecidable _
def gZ {n:Int}(h0:-9223372036854775808<=n)(h1:n<=9223372036854775807):(cE n).length<=21:=by
 unfold cE;rw[qQD];exact Lib.itoa_length_le n h0 h1
def Aq (n:Int):∀b,b∈cE n->b<256:=by
 intro b hb;obtain⟨x,_,rfl⟩:=qQB.1 hb;exact UInt8.toNat_lt x
def fP.eN {h h':aa}{b o:Nat}{l:List ae}(H:fP h b o l)(hn:h.next<=h'.next)(hg:h'.get b=h.get b):fP h' b o l:=H.get (qQG H.1 hn) hg
def cg.eN {h h':aa}{size:Nat}{v:ae}{xs:List (List ae)}(H:cg h size v xs)(hn:h.next<=h'.next)(hg:∀c,aM v c->c<h.next->h'.get c=h.get c):cg h' size v xs:=by
 obtain⟨h1,h2⟩:=H;refine⟨h1,h2.imp id λ⟨b,o,c,ex,e,hr⟩=>⟨b,o,c,ex,e,hr.imp id λhr=>hr.eN hn (hg b ⟨_,_,_,_,e⟩ hr.1)⟩⟩
def dO.lT {h:aa}{size:Nat}{elem:TypeId}{v:ae}{l:List ae}(H:dO h size elem v l):v.flat=true:=by
 rcases H.form with rfl|⟨_,_,_,_,_,rfl⟩<;>rfl
def jS (vs:List ae):(vs.map λx=>[x]).flatten=vs:=by
 induction vs with
 |nil=>rfl
 |cons a l ih=>simp[ih]
end
end Go.AX
