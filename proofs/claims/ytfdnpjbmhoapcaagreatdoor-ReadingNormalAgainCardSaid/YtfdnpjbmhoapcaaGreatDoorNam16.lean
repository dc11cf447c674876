/-
  Contracts of functions of this seat, for every input that each theorem names.
-/
import Derived.Test.YtfdnpjbmhoapcaaGreatDoorNam2
import Derived.Test.YtfdnpjbmhoapcaaGreatDoorNam9
import Derived.Test.YtfdnpjbmhoapcaaGreatDoorNam15
import Derived.Test.YtfdnpjbmhoapcaaGreatDoorNam12
import Derived.Test.YtfdnpjbmhoapcaaGreatDoorNam13
import Derived.Test.YtfdnpjbmhoapcaaGreatDoorNas1
import Derived.Test.YtfdnpjbmhoapcaaGreatDoorNam8
import Derived.Test.YtfdnpjbmhoapcaaGreatDoorNax1
import Derived.Test.YtfdnpjbmhoapcaaGreatDoorNax2
set_option linter.all false
set_option maxHeartbeats 32000000
set_option maxRecDepth 10000
namespace Go.AX
noncomputable section
def sQ (ns:List aw)(n:Nat)(e:cI):(gM ns n e).length=ns.length:=by unfold gM;simp
def C6 (ns:List aw)(n:Nat)(f:Int):(eB ns n f).length=ns.length:=by unfold eB;simp
def ux {α:Type}(l:List α)(f:α->α){n m:Nat}(h:m≠n):(l.modify n f)[m]?=l[m]?:=by
 have h':¬n=m:=λe=>h e.symm;rw[qJJ];cases l[m]?<;>simp[h']
def qE {α:Type}(l:List α)(f:α->α){n:Nat}{x:α}(h:l[n]?=some x):(l.modify n f)[n]?=some (f x):=by
 rw[qJJ,h];simp
section
variable{C:Type}{M:eG C}
structure aaC (D D':DS C)(n:Nat):Prop where
 len:D'.nodes.length=D'.aR.length
 pre:D.aR <+: D'.aR
 uS:∀m,m≠n->m<D'.nodes.length->(m<D.nodes.length/\D'.nodes[m]?=D.nodes[m]?)\/(D.nodes.length<=m/\D'.nodes[m]?=some ⟨[],-1⟩)
 nd:∀(i j:Nat)(ψ:p9 C),D'.aR[i]?=some ψ->D'.aR[j]?=some ψ->i=j
def s8 {α:Type}{l m:List α}(h:l <+: m){i:Nat}{x:α}(hx:l[i]?=some x):m[i]?=some x:=by
 obtain⟨r,rfl⟩:=h;rw[qQN (qQZ.1 hx).1];exact hx
def BI.step {n l:Nat}{D D':DS C}(h:BI M n l D D')(hl:D.nodes.length=D.aR.length)(kv:∀(i j:Nat)(ψ:p9 C),D.aR[i]?=some ψ->D.aR[j]?=some ψ->i=j)
 {φ:p9 C} (Ql:D.aR[n]?=some φ) {x:aw} (hx:D.nodes[n]?=some x):aaC D D' n /\
 ((Fi M (yQ M φ l)/\D'.nodes[n]?=some x/\D'.aR=D.aR)\/∃(e:cI)(ψ:p9 C),e.letter=l/\D'.nodes[n]?=some ⟨x.ak++[e],x.fin⟩/\D'.aR[e.to]?=some ψ/\rE M (yQ M φ l) ψ e.cost/\(D'.aR=D.aR\/(D'.aR=D.aR++[ψ]/\e.to=D.aR.length))):=by
 cases h with
 |dead φ' h1 h2 =>
  rw[Ql]at h1;cases h1;exact⟨⟨hl,qVE _,λm _ hm=>.inl ⟨hm,rfl⟩,kv⟩,.inl ⟨h2,hx,rfl⟩⟩
 |fL φ' ψ least i h1 h2 h3 =>
  rw[Ql]at h1;cases h1;refine⟨⟨by show(gM _ _ _).length=_;rw[sQ];exact hl,qVE _,λm GI hm=>.inl ⟨?_,ux _ _ GI⟩,kv⟩,.inr ⟨⟨l,i,least⟩,ψ,rfl,qE _ _ hx,h3,h2,.inl rfl⟩⟩;have hm:m<(gM D.nodes n ⟨l,i,least⟩).length:=hm
  rwa [sQ]at hm
 |new φ' ψ least h1 h2 h3 =>
  rw[Ql]at h1;cases h1;have pZ:=(qQZ.1 hx).1;have qz:(D.nodes++[⟨[],-1⟩])[n]?=some x:=by rw[qQN pZ];exact hx
  refine⟨⟨by show(gM _ _ _).length=(D.aR++[ψ]).length;rw[sQ];simp[hl],List.prefix_append _ _,λm GI hm=>?_,λi j χ hi hj=>?_⟩,.inr ⟨⟨l,D.aR.length,least⟩,ψ,rfl,qE _ _ qz,by show(D.aR++[ψ])[D.aR.length]?=_;simp,h2,.inr ⟨rfl,rfl⟩⟩⟩
  .have hm:m<(gM (D.nodes++[⟨[],-1⟩]) n ⟨l,D.aR.length,least⟩).length:=hm;rw[sQ,qQM]at hm;have e:(gM (D.nodes++[⟨[],-1⟩]) n ⟨l,D.aR.length,least⟩)[m]?=(D.nodes++[⟨[],-1⟩])[m]?:=ux _ _ GI;show _\/_/\(gM (D.nodes++[⟨[],-1⟩]) n ⟨l,D.aR.length,least⟩)[m]?=_;by_cases h:m<D.nodes.length
   .exact .inl ⟨h,e.trans (qQN h)⟩
   .right;rw[e];refine⟨by omega,?_⟩;rw[qVC (by omega)];have:m-D.nodes.length=0:=by simp at hm;omega
    rw[this];rfl
  .have hi:(D.aR++[ψ])[i]?=some χ:=hi;have hj:(D.aR++[ψ])[j]?=some χ:=hj;have DT:=(qQZ.1 hi).1;have L5:=(qQZ.1 hj).1;simp only[qQM,qZK,qZE] at DT L5;by_cases c1:i<D.aR.length
   .rw[qQN c1]at hi;by_cases c2:j<D.aR.length
    .rw[qQN c2]at hj;exact kv i j χ hi hj
    .have:j=D.aR.length:=by omega
     subst this;simp at hj;subst hj;exact absurd (qQK hi) h3
   .have:i=D.aR.length:=by omega
    subst this;simp at hi;subst hi;by_cases c2:j<D.aR.length
    .rw[qQN c2]at hj;exact absurd (qQK hj) h3
    .omega
structure Ln (M:eG C)(ls:List Nat)(aR:List (p9 C))(φ:p9 C)(es:List cI):Prop where
 nq:es.Pairwise (λx y=>x.letter<y.letter)
 DJ:∀e,e∈es->e.letter∈ls/\∃ψ,aR[e.to]?=some ψ/\rE M (yQ M φ e.letter) ψ e.cost
 all:∀l,l∈ls->Fi M (yQ M φ l)\/∃e,e∈es/\e.letter=l
def ph.run {n:Nat}{ls:List Nat}{D D':DS C}(h:ph M n ls D D'):ls.Pairwise (·<·)->D.nodes.length=D.aR.length->(∀(i j:Nat)(ψ:p9 C),D.aR[i]?=some ψ->D.aR[j]?=some ψ->i=j) ->
 ∀{φ:p9 C},D.aR[n]?=some φ->∀{f:Int},D.nodes[n]?=some ⟨[],f⟩->aaC D D' n/\∃es,D'.nodes[n]?=some ⟨es,f⟩/\Ln M ls D'.aR φ es/\∀j,D.aR.length<=j->j<D'.aR.length->∃e,e∈es/\e.to=j:=by
 induction h with
 |nil D=>exact λ_ hl kv φ _ f hx=>⟨⟨hl,qVE _,λm _ hm=>.inl ⟨hm,rfl⟩,kv⟩,[],hx,⟨.nil,λe he=>(by cases he),λl hl=>(by cases hl)⟩,λj h1 h2=>(by omega)⟩
 |snoc h1 h2 ih =>
  rename_i ls l D D1 D2;intro hp hl kv φ Ql f hx;obtain⟨p1,_,p2⟩:=List.pairwise_append.1 hp;obtain⟨I1,es,yK,Q,fR⟩:=ih p1 hl kv Ql hx;obtain⟨I2,hc⟩:=h2.step I1.len I1.nd (s8 I1.pre Ql) yK;have agp:D.aR.length<=D1.aR.length:=I1.pre.length_le
  have hI:aaC D D2 n:=by
   refine⟨I2.len,I1.pre.trans I2.pre,λm hm DW=>?_,I2.nd⟩;rcases I2.uS m hm DW with⟨c1,c2⟩|⟨c1,c2⟩
   .rcases I1.uS m hm c1 with⟨d1,d2⟩|⟨d1,d2⟩
    .exact .inl ⟨d1,c2.trans d2⟩
    .exact .inr ⟨d1,c2.trans d2⟩
   .have:=I1.len;exact .inr ⟨by omega,c2⟩
  refine⟨hI,?_⟩
  have hold:∀e,e∈es->e.letter∈ls++[l]/\∃ψ,D2.aR[e.to]?=some ψ/\rE M (yQ M φ e.letter) ψ e.cost:=λe he=>by
   obtain⟨a1,ψ,a2,a3⟩:=Q.DJ e he;exact⟨qVY _ a1,ψ,s8 I2.pre a2,a3⟩
  rcases hc with⟨c1,c2,c3⟩|⟨e,ψ,rfl,c2,c3,c4,c5⟩
  .refine⟨es,c2,⟨Q.nq,hold,λk hk=>?_⟩,λj g1 g2=>fR j g1 (by rw[c3]at g2;exact g2)⟩;rcases qQE.1 hk with hk|hk
   .exact Q.all k hk
   .simp at hk;subst hk;exact .inl c1
  .refine⟨es++[e],c2,⟨?_,λe' mQ=>?_,λk hk=>?_⟩,λj g1 g2=>?_⟩
   .rw[List.pairwise_append];refine⟨Q.nq,List.pairwise_singleton _ _,λx hx y hy=>?_⟩;simp at hy;subst hy;exact p2 _ (Q.DJ x hx).1 _ (by simp)
   .rcases qQE.1 mQ with mQ|mQ
    .exact hold e' mQ
    .simp at mQ;subst mQ;exact⟨by simp,ψ,c3,c4⟩
   .rcases qQE.1 hk with hk|hk
    .rcases Q.all k hk with h|⟨e',h1,h2⟩
     .exact .inl h
     .exact .inr ⟨e',qVY _ h1,h2⟩
    .simp at hk;subst hk;exact .inr ⟨e,by simp,rfl⟩
   .by_cases hj:j<D1.aR.length
    .obtain⟨e',h1,h2⟩:=fR j g1 hj;exact⟨e',qVY _ h1,h2⟩
    .rcases c5 with c5|⟨c5,c6⟩
     .rw[c5]at g2;omega
     .rw[c5]at g2;simp only[qQM,qZK,qZE]at g2;exact⟨e,by simp,by omega⟩
def IM:bO.Pairwise (·<·):=by decide
def IN {l:Nat}(h:l∈bO):Ap l=true:=by
 have:∀l∈bO,Ap l=true:=by decide
 exact this l h
structure BK (M:eG C)(Ll:p9 C)(n:Nat)(D:DS C):Prop where
 len:D.nodes.length=D.aR.length
 nd:∀(i j:Nat)(ψ:p9 C),D.aR[i]?=some ψ->D.aR[j]?=some ψ->i=j
 first:D.aR[0]?=some Ll
 le:n<=D.aR.length
 done:∀m,m<n->∃φ x,D.aR[m]?=some φ/\D.nodes[m]?=some x/\Qz M φ x.fin/\Ln M bO D.aR φ x.ak
 fresh:∀m,n<=m->m<D.nodes.length->D.nodes[m]?=some ⟨[],-1⟩
 LQ:∀j,0<j->j<D.aR.length->∃m x e,m<n/\m<j/\D.nodes[m]?=some x/\e∈x.ak/\e.to=j
def zi.inv {Ll:p9 C}{n:Nat}{D:DS C}(h:zi M ⟨[Ll],[⟨[],-1⟩]⟩ n D):BK M Ll n D:=by
 induction h with
 |zero =>
  refine⟨rfl,λi j ψ hi hj=>?_,rfl,qZH _,λm hm=>(by omega),λm _ hm=>?_,λj h1 h2=>?_⟩
  .have h1:=(qQZ.1 hi).1;have h2:=(qQZ.1 hj).1;simp at h1 h2;omega
  .have:m=0:=by simp at hm;exact hm
   subst this;rfl
  .simp at h2;omega
 |succ h1 h2 h3 ih =>
  rename_i n D D';obtain⟨φ,f,Ql,hf,hls⟩:=h3;have hn:D.nodes[n]?=some ⟨[],-1⟩:=ih.fresh n (qQY _) (by rw[ih.len];exact h2);have Fa:(eB D.nodes n f)[n]?=some ⟨[],f⟩:=qE _ _ hn;obtain⟨I,es,he,Q,fR⟩:=hls.run IM (by show(eB D.nodes n f).length=_;rw[C6];exact ih.len) ih.nd Ql Fa;have hlen:(eB D.nodes n f).length=D.nodes.length:=C6 _ _ _;have B5:=I.pre.length_le
  have Tl:∀m,m≠n->m<D'.nodes.length->(m<D.nodes.length/\D'.nodes[m]?=D.nodes[m]?)\/(D.nodes.length<=m/\D'.nodes[m]?=some ⟨[],-1⟩):=by
   intro m hm DW;rcases I.uS m hm DW with⟨c1,c2⟩|⟨c1,c2⟩
   .have c1:m<(eB D.nodes n f).length:=c1;rw[hlen]at c1;exact .inl ⟨c1,c2.trans (ux _ _ hm)⟩
   .have c1:(eB D.nodes n f).length<=m:=c1;rw[hlen]at c1;exact .inr ⟨c1,c2⟩
  have ajO:=I.len;refine⟨I.len,I.nd,s8 I.pre ih.first,by have:D.aR.length<=D'.aR.length:=B5;omega,λm hm=>?_,λm hm DW=>?_,λj hj L5=>?_⟩
  .by_cases GI:m=n
   .subst GI;exact⟨φ,⟨es,f⟩,s8 I.pre Ql,he,hf,Q⟩
   .obtain⟨χ,x,a1,a2,a3,a4⟩:=ih.done m (by omega);refine⟨χ,x,s8 I.pre a1,?_,a3,⟨a4.nq,λe he=>?_,a4.all⟩⟩
    .have DW:=(qQZ.1 a2).1;have:=ih.len;have:D.aR.length<=D'.aR.length:=B5;rcases Tl m GI (by omega) with⟨_,c2⟩|⟨c1,_⟩
     .rw[c2];exact a2
     .omega
    .obtain⟨b1,ψ,b2,b3⟩:=a4.DJ e he;exact⟨b1,ψ,s8 I.pre b2,b3⟩
  .rcases Tl m (by omega) DW with⟨c1,c2⟩|⟨_,c2⟩
   .rw[c2];exact ih.fresh m (by omega) c1
   .exact c2
  .by_cases hjo:j<D.aR.length
   .obtain⟨m,x,e,a1,a2,a3,a4,a5⟩:=ih.LQ j hj hjo;refine⟨m,x,e,by omega,a2,?_,a4,a5⟩;have DW:=(qQZ.1 a3).1;have:=ih.len;have:D.aR.length<=D'.aR.length:=B5;rcases Tl m (by omega) (by omega) with⟨_,c2⟩|⟨c1,_⟩
    .rw[c2];exact a3
    .omega
   .obtain⟨e,a1,a2⟩:=fR j (by show D.aR.length<=j;omega) L5;exact⟨n,⟨es,f⟩,e,qJA _,by omega,he,a1,a2⟩
structure Y2 (M:eG C)(Good:C->Prop)(rk:C->Nat)(bd:C->Int):Prop where
 r7:∀c l d k,Good c->(d,k)∈M.step c l->Good d
 dec:∀c l d k,Good c->(d,k)∈M.step c l->rk d<rk c
 Y':∀c,Good c->rk c<=1000000
 nn:∀c,Good c->0<=bd c/\bd c<=549755813888
 cost:∀c l d k,Good c->(d,k)∈M.step c l->0<=k/\bd c+k<=bd d
 fin:∀c k,Good c->M.fin c=some k->0<=k/\k<=549755813888
 live:∀c,Good c->M.live c=true->(∃k,M.fin c=some k)\/∃l d k,l∈bO/\(d,k)∈M.step c l/\M.live d=true
structure PO (M:eG C)(Good:C->Prop)(bd:C->Int)(φ:p9 C):Prop where
 ne:∃c v,φ c v
 ok:∀c v,φ c v->Good c/\M.live c=true/\0<=v/\v<=bd c
def rE.po {Good:C->Prop}{rk:C->Nat}{bd:C->Int}(R:Y2 M Good rk bd){φ ψ:p9 C}{l:Nat}{m:Int}(Ql:PO M Good bd φ)(h:rE M (yQ M φ l) ψ m):PO M Good bd ψ/\0<=m/\m<=549755813888:=by
 have hm:0<=m/\m<=549755813888:=by
  obtain⟨c,_,c0,r,k,h1,h2,rfl⟩:=h.B3;have a1:=Ql.ok c0 r h1;have a2:=R.cost c0 l c k a1.1 h2;have a3:=R.nn c (R.r7 c0 l c k a1.1 h2);omega
 refine⟨⟨?_,λc v hv=>?_⟩,hm⟩
 .obtain⟨c,h1,h2⟩:=h.B3;exact⟨c,0,(h.eq c 0).2 ⟨h1,by rw[Int.zero_add];exact h2,λu hu=>by rw[Int.zero_add];exact h.low c u h1 hu⟩⟩
 .obtain⟨h1,h2⟩:=(h.eq c v).1 hv;have ie:=h.low c _ h1 h2.1;obtain⟨c0,r,k,g1,g2,g3⟩:=h2.1;have a1:=Ql.ok c0 r g1;have a2:=R.cost c0 l c k a1.1 g2;exact⟨R.r7 c0 l c k a1.1 g2,h1,by omega,by omega⟩
def BK.po {Good:C->Prop}{rk:C->Nat}{bd:C->Int}(R:Y2 M Good rk bd){Ll:p9 C}{n:Nat}{D:DS C}(H:BK M Ll n D)(h0:PO M Good bd Ll):∀(j:Nat)(ψ:p9 C),D.aR[j]?=some ψ->PO M Good bd ψ:=by
 have key:∀(k j:Nat),j<k->∀(ψ:p9 C),D.aR[j]?=some ψ->PO M Good bd ψ:=by
  intro k
  induction k with
  |zero=>intro j hj;omega
  |succ k ih =>
   intro j hj ψ Ow;by_cases hz:j=0
   .subst hz;rw[H.first] at Ow;cases Ow;exact h0
   .obtain⟨m,x,e,a1,a2,a3,a4,a5⟩:=H.LQ j (by omega) (qQZ.1 Ow).1;obtain⟨φ,x',b1,b2,_,b4⟩:=H.done m a1;rw[a3]at b2;cases b2;obtain⟨_,ψ',c1,c2⟩:=b4.DJ e a4;rw[a5,Ow]at c1;cases c1;exact(c2.po R (ih m (by omega) φ b1)).1
 exact λj ψ h=>key (j+1) j (qJA _) ψ h
def xj (P:Nat->Prop):∀n,P n->∃m,P m/\∀k,P k->m<=k:=by
 intro n
 induction n with
 |zero=>exact λh=>⟨0,h,λk _=>qZH _⟩
 |succ n ih =>
  intro h;by_cases hx:∃k,k<n+1/\P k
  .have key:∀b,(∃k,k<b/\P k)->∃m,P m/\∀k,P k->m<=k:=by
    intro b
    induction b with
    |zero=>rintro⟨k,hk,_⟩;omega
    |succ b ih2 =>
     rintro⟨k,hk,hp⟩;by_cases h2:∃k,k<b/\P k
     .exact ih2 h2
     .refine⟨k,hp,λj hj=>?_⟩;by_cases hjb:j<b
      .exact absurd ⟨j,hjb,hj⟩ h2
      .omega
   exact key _ hx
  .exact⟨n+1,h,λk hk=>Nat.le_of_not_lt λdL=>hx ⟨k,dL,hk⟩⟩
def BK.ajq {Good:C->Prop}{rk:C->Nat}{bd:C->Int}(R:Y2 M Good rk bd){Ll:p9 C}{D:DS C}(H:BK M Ll D.aR.length D)(h0:PO M Good bd Ll):ze D.nodes:=by
 have hpo:=H.po R h0;have hlen:=H.len
 have Tk:∀(i:Nat)(x:aw),D.nodes[i]?=some x->∃φ,D.aR[i]?=some φ/\Qz M φ x.fin/\Ln M bO D.aR φ x.ak:=by
  intro i x hx;obtain⟨φ,x',a1,a2,a3,a4⟩:=H.done i (by rw[<-hlen];exact(qQZ.1 hx).1);rw[hx]at a2;cases a2;exact⟨φ,a1,a3,a4⟩
 have Am:∀x,x∈D.nodes->∃φ,Qz M φ x.fin/\Ln M bO D.aR φ x.ak/\PO M Good bd φ:=by
  intro x hx;obtain⟨i,hi⟩:=qQL.1 hx;obtain⟨φ,a1,a2,a3⟩:=Tk i x hi;exact⟨φ,a2,a3,hpo i φ a1⟩
 refine⟨?_,?_,λx hx=>?_,λx e hx he=>?_,λx hx=>?_,λx e hx he=>?_,λx hx=>?_,λi hi=>?_⟩
 .have:=(qQZ.1 H.first).1;omega
 .have hB:=R.Y'
  have hc:∀(i:Nat),∃(n:Nat),n<=1000000/\∀(φ:p9 C),D.aR[i]?=some φ->(∀c v,φ c v->rk c<=n)/\∀k,(∀c v,φ c v->rk c<=k)->n<=k:=by
   intro i;cases hi:D.aR[i]? with
   |none=>exact⟨0,by omega,λφ h=>by cases h⟩
   |some φ =>
    obtain⟨m,h1,h2⟩:=xj (λn=>∀c v,φ c v->rk c<=n) 1000000 λc v h=>hB c ((hpo i φ hi).ok c v h).1;exact⟨m,h2 1000000 λc v h=>hB c ((hpo i φ hi).ok c v h).1,λφ' h=>by cases h;exact⟨h1,h2⟩⟩
  obtain⟨g,hg⟩:=Classical.axiomOfChoice hc;refine⟨g,λi=>(hg i).1,λi x e hx he=>?_⟩;obtain⟨φ,a1,_,a3⟩:=Tk i x hx;obtain⟨_,ψ,b1,b2⟩:=a3.DJ e he;refine⟨by rw[hlen];exact(qQZ.1 b1).1,?_⟩
  have dL:∀c v,ψ c v->rk c<g i:=by
   intro c v hv;obtain⟨h1,⟨c0,r,k,g1,g2,_⟩,_⟩:=(b2.eq c v).1 hv;have:=R.dec c0 e.letter c k ((hpo i φ a1).ok c0 r g1).1 g2;have:=((hg i).2 φ a1).1 c0 r g1;omega
  obtain⟨c,v,hv⟩:=(hpo _ ψ b1).ne;have h1:=dL c v hv;have:=((hg e.to).2 ψ b1).2 (g i-1) λc v hv=>by have:=dL c v hv;omega
  omega
 .obtain⟨φ,_,a3,_⟩:=Am x hx;exact a3.nq
 .obtain⟨φ,_,a3,_⟩:=Am x hx;exact IN (a3.DJ e he).1
 .obtain⟨φ,a2,_,a4⟩:=Am x hx;rcases a2 with⟨h,_⟩|⟨h,h2⟩
  .omega
  .obtain⟨c,r,k,g1,g2,g3⟩:=h2.1;have a1:=a4.ok c r g1;have a2:=R.fin c k a1.1 g2;have a3:=R.nn c a1.1;omega
 .obtain⟨φ,_,a3,a4⟩:=Am x hx;obtain⟨_,ψ,_,b2⟩:=a3.DJ e he;have:=(b2.po R a4).2;omega
 .obtain⟨φ,a2,a3,a4⟩:=Am x hx;obtain⟨c,v,hv⟩:=a4.ne;have kN:=a4.ok c v hv;rcases R.live c kN.1 kN.2.1 with⟨k,hk⟩|⟨l,d,k,hl,hk,hd⟩
  .left;rcases a2 with⟨_,h⟩|⟨h,_⟩
   .exact(h c v k hv hk).elim
   .exact h
  .right;intro he;rcases a3.all l hl with h|⟨e,h,_⟩
   .rw[h d (v+k) ⟨c,v,k,hv,hk,rfl⟩]at hd;cases hd
   .rw[he]at h;cases h
 .have key:∀(k j:Nat),j<k->j<D.nodes.length->∃u n,eK D.nodes u 0=some (j,n):=by
   intro k
   induction k with
   |zero=>intro j hj;omega
   |succ k ih =>
    intro j hj L5;by_cases hz:j=0
    .subst hz;exact⟨[],0,rfl⟩
    .obtain⟨m,x,e,a1,a2,a3,a4,a5⟩:=H.LQ j (by omega) (by omega);obtain⟨u,n,hu⟩:=ih m (by omega) (by omega);obtain⟨φ,_,_,a6⟩:=Tk m x a3;refine⟨u++[e.letter],n+e.cost,?_⟩;rw[Bw,hu];show(dC D.nodes m e.letter).map _=_;rw[iF a3 a6.nq a4,<-a5];rfl
  exact key (i+1) i (qJA _) hi
end
open Go Go.Proofs
attribute [local go_sem] cN cL
attribute [local go_sem] dK bQ
def VT (ns:List aw):Prop:=ze ns\/ns=[⟨[],-1⟩]
def G':aF [⟨[],-1⟩] 0=λ_=>none:=by
 funext s;cases s with
 |nil=>rfl
 |cons a s=>rfl
def jZ.dead:jZ (λ_=>none) ⟨1,[],[]⟩:=by
 have nN:∀R:ff,Dh (λ_=>none) R->R=λ_=>none:=by
  rintro R ⟨u,⟨_,h⟩|⟨_,m,h,_⟩⟩
  .exact h
  .obtain⟨⟨s,hs⟩,_⟩:=h;cases hs
 refine⟨⟨[λ_=>none],λR=>⟨λh=>?_,λh=>by simp[nN R h]⟩,List.pairwise_singleton _ _,rfl,λx=>⟨λh=>(by cases h),?_⟩,λx=>⟨λh=>(by cases h),?_⟩⟩,List.Pairwise.nil,List.Pairwise.nil⟩
 .rw[qZN]at h;exact⟨[],.inl ⟨rfl,h⟩⟩
 .rintro⟨i,j,R,c,h1,h2,_⟩;have:=qQK h1;rw[qZN]at this;subst this;obtain⟨⟨s,hs⟩,_⟩:=h2;cases hs
 .rintro⟨i,R,f,h1,h2,_⟩;have:=qQK h1;rw[qZN]at this;subst this;cases h2
def FI:bH ⟨1,[],[]⟩=0:=by
 unfold bH;rw[if_neg (by simp),if_neg (by simp),if_pos ⟨λj x hx=>by simp at hx,λj x hx=>by simp at hx⟩]
def nh {k:ae->Prop}{h':aa}{fr:Fr}{b:Nat}{x y z w:ae}{e:TypeId}(t2:fr.get 2=some (.ptr b 0))(t3:fr.get 3=some w)(g:h'.get b=some (.cells [x,y,z] e)):cR (bw E2 h' fr [.cell 2 25,.tmp 3]) k=k (.eC [.agg [x,y,z],w]):=by
 have ha:iV E2 25=some true:=by kernel_rfl
 have hs:E2.size 25=some 3:=by kernel_rfl
 have e2:aJ (.t 2) fr=.ptr b 0:=by simp only[go_sem,t2]
 have e3:aJ (.t 3) fr=w:=by simp only[go_sem,t3]
 have h1:gS E2 h' fr (.cell 2 25)=some (.agg [x,y,z]):=by
  unfold gS;simp only[ha,hs,e2];have:(ob (some true) λg=>ob (some 3) λn=>gu (ae.ptr b 0) λb o=>eJ (h'.get b) λc x own=>aO g (aO ((o.add n).ble (cJ c) && yk own (bD n (bG o c))) (some (ae.agg (bD n (bG o c)))) none) (ob (fW c o) λv=>aO (HG own v) (some v) none))=eJ (h'.get b) λc x own=>aO true (aO ((Nat.add 0 3).ble (cJ c) && yk own (bD 3 (bG 0 c))) (some (ae.agg (bD 3 (bG 0 c)))) none) (ob (fW c 0) λv=>aO (HG own v) (some v) none):=rfl;rw[this,g];rfl
 have h2:gS E2 h' fr (.tmp 3)=some w:=by show some (aJ (.t 3) fr)=_;rw[e3]
 have h3:bw E2 h' fr [.cell 2 25,.tmp 3]=some (.eC [.agg [x,y,z],w]):=by
  show ob (ob (gS E2 h' fr (.cell 2 25)) λv=>ob (ob (gS E2 h' fr (.tmp 3)) λv=>ob (some []) λvs=>some (v :: vs)) λvs=>some (v :: vs)) _=_;rw[h1,h2]
 rw[h3];exact aL
def YB:ax->ax
 |.seq a _=>a
 |c=>c
def Y0 (L:ff)(h:aa)(v:ae)(h':aa):Prop:=∃(A:aY)(va ve:ae),v=.eC [.agg [.int .i64 A.n,va,ve],.bool (decide (bH A=0))]/\eS h' va A.aW/\iO h' ve A.ends/\A.aW.length<=1000000/\A.ends.length<=1000/\jZ L A/\aU h h'/\∀b,aM va b\/aM ve b->h.next<=b
def abt {ns:List aw}{nv:ae}{h:aa}(G:VT ns)(hlen:ns.length<=1000)(hN:fO h nv ns):Nc Tryz.prog 20 [nv] h λv h'=>Y0 (aF ns 0) h v h':=by
 refine Nc.qJ kr call2 (λm n=>iS kr (call2 m n)) (fn:=Tryz.f20) (by kernel_rfl) (by kernel_rfl) RG ?_;have e:tB=.seq (YB tB) (.seq (YB (lP tB)) vw):=rfl;rw[e];have VC:nv.flat=true:=by obtain⟨jv,_,h2,_⟩:=hN;exact h2
 have bh:aU h (h.push (.cells [.int .i64 0,.af,.af] 25)):=(aU.refl h).push _;have JO:=hN.mono bh;have n1:(h.push (.cells [.int .i64 0,.af,.af] 25)).next=h.next+1:=rfl;have g1:(h.push (.cells [.int .i64 0,.af,.af] 25)).get h.next=some (.cells [.int .i64 0,.af,.af] 25):=aa.ai _ _;have hl:=hN.len
 have hx:∀x,ns[0]?=some x->∃(b o:Nat)(e:ae),aN (h.push (.cells [.int .i64 0,.af,.af] 25)) b (o+1)=some (.int .i64 x.fin)/\aN (h.push (.cells [.int .i64 0,.af,.af] 25)) b o=some e/\(∀h' Q,cH e h' Q=Q (.int .i64 (x.ak.length:Int)) h')/\∀h' Q,fI 2 nv (.int .i64 0) h' Q=Q (.ptr b o) h':=λx hx=>by
  obtain⟨b,o,e,r1,r2,r3⟩:=JO.at hx;exact⟨b,o,e,r1.aN (i:=1) rfl,r1.aN (i:=0) rfl,λh' Q=>by rw[r2.len,qQD],λh' Q=>r3 _ _ _ _ rfl⟩
 have cS:=aD (o:=0) (n:=3) (vs:=[.int .i64 1,.af,.af]) g1 rfl (by simp);have ib:over [ae.int .i64 0,.af,.af] 0 [.int .i64 1,.af,.af]=[.int .i64 1,.af,.af]:=rfl;rw[ib]at cS;rcases G with W|rfl
 .obtain⟨lo,dp,B⟩:=W.nsB
  have tL:∀(fr:Fr),fr.get 0=some nv->fr.get 2=some (.ptr h.next 0)->∀Qn Qx,kI Tryz.prog E2 vw fr (h.push (.cells [.int .i64 0,.af,.af] 25)) Qn Qx (bx (λfr h_1=>cR (bw E2 h_1 fr [ResultVar.cell 2 25,ResultVar.tmp 3]) λv=>Y0 (aF ns 0) h v h_1) Tok.mk):=λfr t0 t2 Qn Qx=>by
   refine NZ (p2:=h.next) B hlen hN fr _ bh ⟨qQY _,by omega⟩ g1 t0 t2 ?_;intro fr h' A va ve q1 q2 q3 q4 q5 q6 q7 q8 qb q9 _ _;show cR (bw E2 h' fr [ResultVar.cell 2 25,ResultVar.tmp 3]) _;rw[nh q1 q2 q3];exact⟨A,va,ve,rfl,q4,q5,q6,q7,q8,q9,λb hb=>by have:=qb b hb;omega⟩
  generalize vw=TT at tL ⊢;simp only[tB,YB,lP];by_cases h1:(ns.length:Int)=1
  .obtain⟨x,rfl⟩:∃x,ns=[x]:=List.length_eq_one_iff.1 (by omega);have pf:∀h' Q,cH nv h' Q=Q (.int .i64 1) h':=λh' Q=>hl h' Q;obtain⟨b,o,e,x1,x2,x3,x4⟩:=hx x rfl;by_cases hf:x.fin<0
   .have dV:x.ak≠[]:=by
     rcases W.live x (by simp) with h|h
     .omega
     .exact h
    have tu:¬(x.ak.length:Int)=0:=λe0=>dV (qZG (by omega));simp only[go_sem,Nat.reduceEqDiff,reduceCtorEq,pf,x1,x2,x3,x4,hf,tu];exact tL _ (by simp[T.ag]) (by simp[T.ag]) _ _
   .simp only[go_sem,Nat.reduceEqDiff,reduceCtorEq,pf,x1,x4,hf];exact tL _ (by simp[T.ag]) (by simp[T.ag]) _ _
  .simp only[go_sem,Nat.reduceEqDiff,reduceCtorEq,hl,h1];exact tL _ (by simp[T.ag]) (by simp[T.ag]) _ _
 .generalize vw=TT;simp only[tB,YB,lP];have pf:∀h' Q,cH nv h' Q=Q (.int .i64 1) h':=λh' Q=>hl h' Q;obtain⟨b,o,e,x1,x2,x3,x4⟩:=hx ⟨[],-1⟩ rfl;have x1':aN (h.push (.cells [.int .i64 0,.af,.af] 25)) b (o+1)=some (.int .i64 (-1)):=x1;have x3':∀h' Q,cH e h' Q=Q (.int .i64 0) h':=x3;simp only[go_sem,Nat.reduceEqDiff,Int.reduceLT,Nat.reduceAdd,Nat.reduceLeDiff,reduceCtorEq,pf,x1',x2,x3',x4,cS];rw[nh (b:=h.next) (w:=.bool true) (by simp[T.ag]) (by simp[T.ag]) (aa.aj _ _ _)];refine⟨⟨1,[],[]⟩,.af,.af,?_,⟨λx hx=>(by cases hx),.inl ⟨rfl,rfl⟩⟩,⟨λx hx=>(by cases hx),.inl ⟨rfl,rfl⟩⟩,qZH _,qZH _,?_,⟨by show h.next<=h.next+1;omega,λb hb=>(aa.ah _ _ (by omega)).trans (bh.get b hb)⟩,λb hb=>hb.elim (λh=>(dx h).elim) λh=>(dx h).elim⟩
  .rw[FI];try rfl
  .rw[G'];exact jZ.dead
def tU.al9 {M:eG Int}{Good:Int->Prop}{rk:Int->Nat}{bd:Int->Int}(R:Y2 M Good rk bd)(h0:∀φ m,rE M (qS M) φ m->PO M Good bd φ){ns:List aw}(h:tU M (some ns)):VT ns/\ns.length<=400:=by
 cases h with
 |dead _=>exact⟨.inr rfl,by simp⟩
 |all φ m D hs hr hl=>exact⟨.inl (hr.inv.ajq R (h0 φ m hs)),by rw[hr.inv.len];exact hl⟩
inductive qV {C:Type}(M:eG C):aY->Int->Prop
 |ok (ns:List aw) (A:aY):tU M (some ns)->VT ns->jZ (aF ns 0) A->bH A=0->qV M A 0
 |big (ns:List aw) (A:aY):tU M (some ns)->VT ns->jZ (aF ns 0) A->bH A≠0->qV M ⟨0,[],[]⟩ 2
 |many:tU M none->qV M ⟨0,[],[]⟩ 2
def BH (n0:Nat)(h:aa)(v:ae)(A:aY)(k:Int):Prop:=∃va ve:ae,v=.eC [.agg [.int .i64 A.n,va,ve],.int .i64 k]/\eS h va A.aW/\iO h ve A.ends/\A.aW.length<=1000000/\A.ends.length<=1000/\∀b,aM va b\/aM ve b->n0<=b
def BH.nil (n0:Nat)(h:aa)(k:Int):BH n0 h (.eC [.agg [.int .i64 0,.af,.af],.int .i64 k]) ⟨0,[],[]⟩ k :=
 ⟨.af,.af,rfl,⟨λx hx=>(by cases hx),.inl ⟨rfl,rfl⟩⟩,⟨λx hx=>(by cases hx),.inl ⟨rfl,rfl⟩⟩,qZH _,qZH _,λb hb=>hb.elim (λh=>(dx h).elim) λh=>(dx h).elim⟩
def X6 {M:eG Int}{mv:ae}{Good:Int->Prop}{rk:Int->Nat}{bd bd':Int->Int}{h:aa}(O:∀h1,aU h h1->Vh M (.int .i64) mv h1.next (aU h1) Good)(B:QE M Good bd)(R:Y2 M Good rk bd')(h0:∀φ m,rE M (qS M) φ m->PO M Good bd' φ) :
 Nc Tryz.prog 10 [mv] h λv h'=>aU h h'/\∃A k,qV M A k/\BH h.next h' v A k:=by
 refine Nc.qJ kr call2 (λm n=>iS kr (call2 m n)) (fn:=Tryz.f10) (by kernel_rfl) (by kernel_rfl) No ?_;unfold Rx;obtain⟨mt,mx,hmv⟩:=(O h (aU.refl h)).iface;have hmf:mv.flat=true:=by rw[hmv];rfl
 simp only[go_sem,Nat.reduceEqDiff,reduceCtorEq];have bh:aU h (h.push (.cells [.int .i64 0,.af,.af] 25)):=(aU.refl h).push _;have n1:(h.push (.cells [.int .i64 0,.af,.af] 25)).next=h.next+1:=rfl;have g1:(h.push (.cells [.int .i64 0,.af,.af] 25)).get h.next=some (.cells [.int .i64 0,.af,.af] 25):=aa.ai _ _;generalize h.push (.cells [.int .i64 0,.af,.af] 25)=h1 at bh n1 g1 ⊢;refine⟨by decide,?_⟩;refine(Gj (O h1 bh) B h1 (qQY _) (aU.refl h1)).mono ?_;rintro r h2 ⟨aS,_,o,hD,hV⟩;have GK:=aS.next;have g2:h2.get h.next=some (.cells [.int .i64 0,.af,.af] 25):=(aS.get _ (by omega)).trans g1;have yb:=aD (o:=0) (n:=3) (vs:=[.int .i64 0,.af,.af]) g2 rfl (by simp);have ib:over [ae.int .i64 0,.af,.af] 0 [.int .i64 0,.af,.af]=[.int .i64 0,.af,.af]:=rfl;rw[ib]at yb;cases o with
 |none =>
  have hV:r=.eC [.af,.bool false]:=hV;subst hV;simp only[go_sem,Nat.reduceEqDiff,reduceCtorEq,yb];rw[nh (b:=h.next) (w:=.int .i64 2) (by simp[T.ag]) (by simp[T.ag]) (aa.aj _ _ _)];exact⟨⟨by show h.next<=h2.next;omega,λb hb=>(aa.ah _ _ (by omega)).trans ((aS.get b (by omega)).trans (bh.get b hb))⟩,_,_,.many hD,BH.nil _ _ _⟩
 |some ns =>
  obtain⟨dv,rfl,hN⟩:=hV;obtain⟨hG,hlen⟩:=tU.al9 R h0 hD;simp only[go_sem,Nat.reduceEqDiff,reduceCtorEq];refine⟨by decide,?_⟩;refine(abt hG (by omega) hN).mono ?_;rintro r h3 ⟨A,va,ve,rfl,hA,hE,JQ,tu,hF,cQ,B0⟩;have uQ:=cQ.next;have vaf:va.flat=true:=by rcases hA.2 with⟨_,rfl⟩|⟨_,_,_,_,rfl,_⟩<;>rfl
  have vef:ve.flat=true:=by rcases hE.2 with⟨_,rfl⟩|⟨_,_,_,_,rfl,_⟩<;>rfl
  have XE:=je (h:=h3) (o:=0) (n:=3) (vs:=[.int .i64 A.n,va,ve]) (c:=[.int .i64 0,.af,.af]) (e:=25) rfl (by simp);have XC:over [ae.int .i64 0,.af,.af] 0 [.int .i64 A.n,va,ve]=[.int .i64 A.n,va,ve]:=rfl;rw[XC] at XE;by_cases hz:bH A=0
  .have hdz:decide (bH A=0)=true:=by simp[hz]
   simp only[go_sem,Nat.reduceEqDiff,Nat.reduceAdd,reduceCtorEq,XE,hdz];have g4:(h3.push (.cells [.int .i64 A.n,va,ve] 25)).get h.next=some (.cells [.int .i64 0,.af,.af] 25):=(aa.aA _ _ (by omega)).trans ((cQ.get _ (by omega)).trans g2);have ld4:eI (h3.push (.cells [.int .i64 A.n,va,ve] 25)) h3.next 0 3=some [.int .i64 A.n,va,ve]:=by rw[ir _ _ _ (by simp)];rfl
   have gY:=aD (o:=0) (n:=3) (vs:=[.int .i64 A.n,va,ve]) g4 rfl (by simp);rw[XC]at gY;simp only[go_sem,gY];rw[nh (b:=h.next) (w:=.int .i64 0) (by simp[T.ag]) (by simp[T.ag]) (aa.aj _ _ _)];have dP:aU h3 (h3.push (.cells [.int .i64 A.n,va,ve] 25)):=(aU.refl h3).push _;have ho:∀b,b≠h.next->((h3.push (.cells [.int .i64 A.n,va,ve] 25)).put h.next (.cells [.int .i64 A.n,va,ve] 25)).get b=(h3.push (.cells [.int .i64 A.n,va,ve] 25)).get b:=λb hb=>aa.ah _ _ (Ne.symm hb);refine⟨⟨by show h.next<=h3.next+1;omega,λb hb=>(aa.ah _ _ (by omega)).trans ((dP.get b (by omega)).trans ((cQ.get b (by omega)).trans ((aS.get b (by omega)).trans (bh.get b hb))))⟩,_,_,.ok ns A hD hG hF hz,va,ve,rfl,?_,?_,JQ,tu,λb hb=>by have:=B0 b hb;omega⟩
   .exact cg.frame (hA.mono dP) (qQY _) λb hb=>ho b (by have:=B0 b (.inl hb);omega)
   .exact cg.frame (hE.mono dP) (qQY _) λb hb=>ho b (by have:=B0 b (.inr hb);omega)
  .have hdz:decide (bH A=0)=false:=by simp[hz]
   simp only[go_sem,Nat.reduceEqDiff,reduceCtorEq,XE,hdz];have g4:(h3.push (.cells [.int .i64 A.n,va,ve] 25)).get h.next=some (.cells [.int .i64 0,.af,.af] 25):=(aa.aA _ _ (by omega)).trans ((cQ.get _ (by omega)).trans g2);have gY:=aD (o:=0) (n:=3) (vs:=[.int .i64 0,.af,.af]) g4 rfl (by simp);rw[ib]at gY;simp only[go_sem,gY];rw[nh (b:=h.next) (w:=.int .i64 2) (by simp[T.ag]) (by simp[T.ag]) (aa.aj _ _ _)];exact⟨⟨by show h.next<=h3.next+1;omega,λb hb=>(aa.ah _ _ (by omega)).trans ((aa.aA _ _ (by omega)).trans ((cQ.get b (by omega)).trans ((aS.get b (by omega)).trans (bh.get b hb))))⟩,_,_,.big ns A hD hG hF hz,BH.nil _ _ _⟩
attribute [local go_sem] iz aa.AA aa.xn aa.xm aa.uv aa.uw s9
def Fj {A:aY}(i:Nat):Live A i↔0<=bm A.ends i\/∃x j,x∈cp A i/\x.to=((j:Nat):Int)/\Live A j:=by
 constructor
 .intro h;cases h with
  |fin _ h=>exact .inl h
  |uM _ j x h1 h2 h3=>exact .inr ⟨x,j,h1,h2,h3⟩
 .rintro(h|⟨x,j,h1,h2,h3⟩)
  .exact .fin i h
  .exact .uM i j x h1 h2 h3
structure MT (A:aY)(n:Nat)(free:Bool)(h:aa)(mb b2:Nat)(vo vf:ae)(rows:List ae)(al:List Bool):Prop where
 IA:cg h 1 vo (rows.map λx=>[x])
 row:∀(j:Nat)(x:ae),rows[j]?=some x->eS h x (cp A j)
 CN:cg h 1 vf ((List.range n).map λi=>[.int .i64 (bm A.ends i)])
 lt:mb<h.next/\b2<h.next/\mb≠b2
 obj:h.get mb=some (.cells [vo,vf,.slice b2 0 n n true,.bool free] 72)
 cel:h.get b2=some (.cells (al.map .bool) 4)
 len:al.length=n
 nvo:∀b,aM vo b->b≠b2
 nvf:∀b,aM vf b->b≠b2
 pN:∀x,x∈rows->∀b,aM x b->b≠b2
def MT.frame {A:aY}{n:Nat}{free:Bool}{h h':aa}{mb b2:Nat}{vo vf:ae}{rows:List ae}{al:List Bool}(M:MT A n free h mb b2 vo vf rows al)(H:aU h h'):MT A n free h' mb b2 vo vf rows al:=by
 obtain⟨l1,l2,l3⟩:=M.lt;have:=H.next;exact⟨M.IA.mono H,λj x hx=>(M.row j x hx).mono H,M.CN.mono H,⟨by omega,by omega,l3⟩,(H.get _ l1).trans M.obj,(H.get _ l2).trans M.cel,M.len,M.nvo,M.nvf,M.pN⟩
def MT.set {A:aY}{n:Nat}{free:Bool}{h:aa}{mb b2:Nat}{vo vf:ae}{rows:List ae}{al:List Bool}(M:MT A n free h mb b2 vo vf rows al)(c:Nat)(t:Bool):MT A n free (h.put b2 (.cells ((al.set c t).map .bool) 4)) mb b2 vo vf rows (al.set c t):=by
 have hg:∀b,b≠b2->(h.put b2 (.cells ((al.set c t).map .bool) 4)).get b=h.get b:=λb hb=>aa.ah _ _ (Ne.symm hb);exact⟨M.IA.frame (qQY _) λb hb=>hg b (M.nvo b hb),λj x hx=>cg.frame (M.row j x hx) (qQY _) λb hb=>hg b (M.pN x (qQK hx) b hb),M.CN.frame (qQY _) λb hb=>hg b (M.nvf b hb),M.lt,(hg _ M.lt.2.2).trans M.obj,aa.aj _ _ _,by rw[qKZ];exact M.len,M.nvo,M.nvf,M.pN⟩
open Classical in
structure MkP (A:aY)(n c k:Nat)(al:List Bool):Prop where
 up:∀i,c<i->i<n->al[i]?=some (decide (Live A i))
 own:al[c]?=some (decide (0<=bm A.ends c\/∃x j,x∈(cp A c).take k/\x.to=((j:Nat):Int)/\Live A j))
open Classical in
def X0 {Qn Qr:Fr->aa->Prop}{Qx:Nat->Fr->aa->Prop}{A:aY}{n:Nat}{free:Bool}(hP:fH A.n A.aW)(hn:A.n=(n:Int))(Xx:A.aW.length<=4000)(JY:n<=400){mb b2:Nat}{vo vf:ae}{rows:List ae}(fr:Fr)(h0 h:aa)(c:Nat)(hc:c<n)(row:ae)(di:rows[c]?=some row){mz:List Bool}
 (M0:MT A n free h mb b2 vo vf rows mz) (P0:MkP A n c 0 mz) (h0n:h0.next<=b2) (Xt:aU h0 h)
 (t5:fr.get 5=some (.ptr mb 0)) (t6:fr.get 6=some (.int .i64 (c:Int))) (t46:fr.get 46=some row) (t47:fr.get 47=some (.int .i64 ((cp A c).length:Int))) (t48:fr.get 48=some (.int .i64 0))
 (hq:∀fr h' al,fr.get 5=some (.ptr mb 0)->fr.get 6=some (.int .i64 (c:Int))->MT A n free h' mb b2 vo vf rows al->MkP A n c (cp A c).length al->aU h0 h'->Qx 2 fr h'):wp E2 (.loop zJ) fr h Qn Qx Qr:=by
 refine fg (λdd fr h'=>fr.get 5=some (.ptr mb 0)/\fr.get 6=some (.int .i64 (c:Int))/\fr.get 46=some row/\fr.get 47=some (.int .i64 ((cp A c).length:Int))/\aU h0 h'/\∃(k:Nat)(al:List Bool),fr.get 48=some (.int .i64 (k:Int))/\dd+k=(cp A c).length/\MT A n free h' mb b2 vo vf rows al/\MkP A n c k al) (cp A c).length ?_ ?_
 .exact⟨t5,t6,t46,t47,Xt,0,mz,t48,by omega,M0,P0⟩
 clear t5 t6 t46 t47 t48 M0 P0 Xt;rintro dd fr h' ⟨t5,t6,t46,t47,hle,k,al,t48,hd,M,Pk⟩;unfold zJ;have JQ:(cp A c).length<=4000:=by have:=qVV (λx:dH=>decide (x.fr=(c:Int))) A.aW;unfold cp;omega
 by_cases ku:(k:Int)<((cp A c).length:Int)
 .obtain⟨x,hx⟩:∃x,(cp A c)[k]?=some x:=⟨_,qQW (by omega)⟩;have hw:IntKind.i64.wrap ((k:Int)+1)=((k+1:Nat):Int):=by rw[wrap_i64 (by omega) (by omega)];push_cast;rfl
  obtain⟨bb,oo,hra,tv⟩:=eS.ix (M.row c row di) hx;have tv:=tv .i64 (k:Int) h'
  have rA:eI h' bb oo 4=some (aX x):=by
   have:=hra.eI (i:=0) (n:=4) (by simp[aX]);simpa[aX] using this
  have ib:over [ae.int .i64 0,.int .i64 0,.int .u8 0,.int .i64 0] 0 (aX x)=aX x:=rfl;have jX:(aX x).length=4:=rfl;have Fb:(aX x)[1]?=some (.int .i64 x.to):=rfl;obtain⟨kN,B0⟩:=iw hP (qQK hx);obtain⟨a1,a2,a3,_⟩:=kN;obtain⟨j,hj⟩:∃j:Nat,x.to=(j:Int):=⟨x.to.toNat,by omega⟩;have M1:=M.frame ((aU.refl h').push (.cells (aX x) 52));obtain⟨m1,m2,m3⟩:=M.lt;have l2:aN (h'.push (.cells (aX x) 52)) mb 2=some (.slice b2 0 n n true):=by rw[aq M1.obj];rfl
  have lc:aN (h'.push (.cells (aX x) 52)) b2 c=some (.bool (decide (0<=bm A.ends c\/∃x j,x∈(cp A c).take k/\x.to=((j:Nat):Int)/\Live A j))):=by rw[aq M1.cel,qQX,Pk.own];rfl
  have lj:aN (h'.push (.cells (aX x) 52)) b2 j=some (.bool (decide (Live A j))):=by rw[aq M1.cel,qQX,Pk.up j (by omega) (by omega)];rfl
  have cS:∀m t,putAt ((h'.push (.cells (aX x) 52)).skip m) b2 c 1 [.bool t]=some (((h'.push (.cells (aX x) 52)).skip m).put b2 (.cells ((al.set c t).map .bool) 4)):=by
   intro m t;have:=aD (h:=(h'.push (.cells (aX x) 52)).skip m) (o:=c) (n:=1) (vs:=[.bool t]) M1.cel rfl (by rw[qQD,M.len];omega);rw[bW]at this;rw[this,List.map_set]
  have GD:∀h' K,fI 1 (.slice b2 0 n n true) (.int .i64 (c:Int)) h' K=K (.ptr b2 c) h':=λh' K=>by
   have:=dj (size:=1) (b:=b2) (o:=0) (n:=n) (c:=n) (e:=true) (k:=.i64) (i:=(c:Int)) (j:=c) rfl hc (h:=h') (K:=K);simpa using this
  have akN:∀h' K,fI 1 (.slice b2 0 n n true) (.int .i64 (j:Int)) h' K=K (.ptr b2 j) h':=λh' K=>by
   have:=dj (size:=1) (b:=b2) (o:=0) (n:=n) (c:=n) (e:=true) (k:=.i64) (i:=(j:Int)) (j:=j) rfl (by omega) (h:=h') (K:=K);simpa using this
  have rp:∀t:Bool,(t=true↔(0<=bm A.ends c\/∃x j,x∈(cp A c).take (k+1)/\x.to=((j:Nat):Int)/\Live A j))->MkP A n c (k+1) (al.set c t):=by
   intro t ht;refine⟨λi h1 h2=>?_,?_⟩
   .rw[qJB,if_neg (by omega)];exact Pk.up i h1 h2
   .rw[qJB,if_pos rfl,if_pos (by rw[M.len];exact hc)];congr 1;rw[qZL,decide_eq_true_iff];exact ht
  have J7:(cp A c).take (k+1)=(cp A c).take k++[x]:=by rw[qJM,hx];rfl
  by_cases GQ:0<=bm A.ends c\/∃x j,x∈(cp A c).take k/\x.to=((j:Nat):Int)/\Live A j
  .have SY:decide (0<=bm A.ends c\/∃x j,x∈(cp A c).take k/\x.to=((j:Nat):Int)/\Live A j)=true:=by simpa using GQ
   rw[SY]at lc;simp only[go_sem,Nat.reduceEqDiff,Nat.reduceAdd,reduceCtorEq,t5,t6,t46,t47,t48,ku,tv _ rfl,rA,ib,jX,l2,lc,GD,cS,hw];refine⟨dd-1,by omega,((hle.push _).skip 24).put h0n _,k+1,al.set c true,rfl,by omega,(M.frame (((aU.refl h').push _).skip 24)).set c true,rp true ?_⟩;rw[J7];refine⟨λ_=>?_,λ_=>rfl⟩;rcases GQ with h1|⟨y,j',h1,h2⟩
   .exact .inl h1
   .exact .inr ⟨y,j',qVY _ h1,h2⟩
  .have SY:decide (0<=bm A.ends c\/∃x j,x∈(cp A c).take k/\x.to=((j:Nat):Int)/\Live A j)=false:=by simpa using GQ
   rw[SY]at lc;simp only[go_sem,Nat.reduceEqDiff,Nat.reduceAdd,t5,t6,t46,t47,t48,ku,tv _ rfl,rA,ib,jX,Fb,hj,l2,lc,lj,GD,akN,cS,hw];refine⟨dd-1,by omega,((hle.push _).skip 24).put h0n _,k+1,al.set c (decide (Live A j)),rfl,by omega,(M.frame (((aU.refl h').push _).skip 24)).set c _,rp _ ?_⟩;rw[J7,decide_eq_true_iff];constructor
   .exact λhL=>.inr ⟨x,j,by simp,hj,hL⟩
   .rintro(h1|⟨y,j',h1,h2,h3⟩)
    .exact absurd (.inl h1) GQ
    .rcases qQE.1 h1 with h1|h1
     .exact absurd (.inr ⟨y,j',h1,h2,h3⟩) GQ
     .simp at h1;subst h1;rw[hj]at h2;obtain rfl:j=j':=by omega
      exact h3
 .obtain rfl:k=(cp A c).length:=by omega
  simp only[go_sem,reduceCtorEq,t47,t48,ku];exact hq _ _ al (by simp[T.ag,t5]) (by simp[T.ag,t6]) M Pk hle
open Classical in
def X1 {Qn Qr:Fr->aa->Prop}{Qx:Nat->Fr->aa->Prop}{A:aY}{n:Nat}{free:Bool}(hP:fH A.n A.aW)(hn:A.n=(n:Int))(Xx:A.aW.length<=4000)(JY:n<=400){mb b2:Nat}{vo vf:ae}{rows:List ae}(Tq:rows.length=n)(fr:Fr)(h0 h:aa){mz:List Bool}
 (M0:MT A n free h mb b2 vo vf rows mz) (h0n:h0.next<=b2) (Xt:aU h0 h)
 (t5:fr.get 5=some (.ptr mb 0)) (t6:fr.get 6=some (.int .i64 ((n:Int)-1)))
 (hq:∀fr h' al,fr.get 5=some (.ptr mb 0)->MT A n free h' mb b2 vo vf rows al->(∀i,i<n->al[i]?=some (decide (Live A i)))->aU h0 h'->Qx 0 fr h'):wp E2 (.loop zK) fr h Qn Qx Qr:=by
 refine fg (λm fr h'=>fr.get 5=some (.ptr mb 0)/\fr.get 6=some (.int .i64 ((m:Int)-1))/\aU h0 h'/\m<=n/\∃(al:List Bool),MT A n free h' mb b2 vo vf rows al/\∀i,m<=i->i<n->al[i]?=some (decide (Live A i))) n ?_ ?_
 .exact⟨t5,t6,Xt,qQY _,mz,M0,λi h1 h2=>by omega⟩
 clear t5 t6 M0 Xt;rintro m fr h' ⟨t5,t6,hle,hm,al,M,VE⟩;unfold zK;cases m with
 |zero =>
  have Ak:(((0:Nat):Int)-1)<0:=by omega
  simp only[go_sem,Nat.reduceEqDiff,reduceCtorEq,t6,Ak];exact hq _ _ al (by simp[T.ag,t5]) M (λi hi=>VE i (qZH _) hi) hle
 |succ c =>
  have Vu:(((c+1:Nat):Int)-1)=(c:Int):=by omega
  rw[Vu]at t6;have hge:¬(c:Int)<0:=by omega
  have hc:c<n:=by omega
  have hw:IntKind.i64.wrap ((c:Int)-1)=(c:Int)-1:=wrap_i64 (by omega) (by omega);have l2:aN h' mb 2=some (.slice b2 0 n n true):=by rw[aq M.obj];rfl
  have l1:aN h' mb 1=some vf:=by rw[aq M.obj];rfl
  obtain⟨bf,of,hrf,abW⟩:=M.CN.ix (j:=c) (x:=[.int .i64 (bm A.ends c)]) (by rw[qQX,qJY hc];rfl);have abW:=abW .i64 (c:Int);have lf:aN h' bf of=some (.int .i64 (bm A.ends c)):=hrf.aN (i:=0) rfl
  have GD:∀h' K,fI 1 (.slice b2 0 n n true) (.int .i64 (c:Int)) h' K=K (.ptr b2 c) h':=λh' K=>by
   have:=dj (size:=1) (b:=b2) (o:=0) (n:=n) (c:=n) (e:=true) (k:=.i64) (i:=(c:Int)) (j:=c) rfl hc (h:=h') (K:=K);simpa using this
  have cS:∀m t,putAt (h'.skip m) b2 c 1 [.bool t]=some ((h'.skip m).put b2 (.cells ((al.set c t).map .bool) 4)):=by
   intro m t;have:=aD (h:=h'.skip m) (o:=c) (n:=1) (vs:=[.bool t]) M.cel rfl (by rw[qQD,M.len];omega);rw[bW]at this;rw[this,List.map_set]
  obtain⟨row,di⟩:∃v,rows[c]?=some v:=⟨_,qQW (by omega)⟩;have M2:=(M.frame ((aU.refl h').skip 16)).set c (decide (0<=bm A.ends c));have l0:aN ((h'.skip 16).put b2 (.cells ((al.set c (decide (0<=bm A.ends c))).map .bool) 4)) mb 0=some vo:=by rw[aq M2.obj];rfl
  obtain⟨bo,oo,hro,abX⟩:=M2.IA.ix (j:=c) (x:=[row]) (by rw[qQX,di];rfl);have abX:=abX .i64 (c:Int);have lo:aN ((h'.skip 16).put b2 (.cells ((al.set c (decide (0<=bm A.ends c))).map .bool) 4)) bo oo=some row:=hro.aN (i:=0) rfl;have hlen:∀h' K,cH row h' K=K (.int .i64 ((cp A c).length:Int)) h':=eS.len (M.row c row di)
  have SY:(!decide (bm A.ends c<0))=decide (0<=bm A.ends c):=by
   rw[qZL];simp
  simp only[go_sem,Nat.reduceEqDiff,t5,t6,hge,l2,l1,abW _ _ rfl,lf,GD,SY,cS,l0,abX _ _ rfl,lo,hlen];refine X0 hP hn Xx JY _ h0 _ c hc row di M2 ⟨λi h1 h2=>?_,?_⟩ h0n ((hle.skip 16).put h0n _) (by simp[T.ag,t5]) (by simp[T.ag,t6]) (by simp[T.ag]) (by simp[T.ag]) (by simp[T.ag]) ?_
  .rw[qJB,if_neg (by omega)];exact VE i h1 h2
  .rw[qJB,if_pos rfl,if_pos (by rw[M.len];exact hc)];congr 1;rw[qZL,decide_eq_true_iff,decide_eq_true_iff];simp
  intro iA h2 al2 u5 u6 M3 P3 cQ;simp only[go_sem,Nat.reduceEqDiff,u5,u6,hw];refine⟨c,by omega,rfl,cQ,by omega,al2,M3,λi h1 h2=>?_⟩;by_cases hic:c=i
  .subst hic;rw[P3.own];congr 1;rw[qZL,decide_eq_true_iff,decide_eq_true_iff,qZY];exact(Fj c).symm
  .exact P3.up i (by omega) h2
open Classical in
def Hk (A:aY)(v:ae)(free:Bool)(h:aa)(H:fY h v A)(hA:bH A=0):Ec E2 11 [v,.bool free] h λr h'=>∃n mb vo vf va rows,r=.ptr mb 0/\QF A n free h' mb vo vf va rows/\aU h h'/\h.next<=mb:=by
 obtain⟨va,ve,rfl,ha,he,Oj,GH⟩:=id H;refine Ec.bu (aI (by decide)) RJ ?_;unfold Zj;have ln:eI (h.push (.cells [.int .i64 A.n,va,ve] 25)) h.next 0 3=some [.int .i64 A.n,va,ve]:=by rw[ir _ _ _ (by simp)];rfl
 have l0:aN (h.push (.cells [.int .i64 A.n,va,ve] 25)) h.next 0=some (.int .i64 A.n):=by rw[aH];rfl
 simp only[go_sem,Nat.reduceEqDiff,Nat.reduceAdd,reduceCtorEq,ln,l0];refine⟨by decide,?_⟩;have bh:aU h (h.push (.cells [.int .i64 A.n,va,ve] 25)):=(aU.refl h).push _;have aS:aU h ((h.push (.cells [.int .i64 A.n,va,ve] 25)).skip 9):=bh.skip _;have GK:((h.push (.cells [.int .i64 A.n,va,ve] 25)).skip 9).next=h.next+10:=rfl;have l02:aN ((h.push (.cells [.int .i64 A.n,va,ve] 25)).skip 9) h.next 0=some (.int .i64 A.n):=l0;generalize (h.push (.cells [.int .i64 A.n,va,ve] 25)).skip 9=h2 at aS GK l02 ⊢;refine(Mv A _ h2 (H.mono aS) hA).mono ?_;rintro r h3 ⟨⟨vo,vf,rows,rfl,g1,g2,g3,g4,b1,b2,b3⟩,cQ⟩;have uQ:=cQ.next;obtain⟨n,hn,n1,n4,lA,lE,hP,hE⟩:=gf hA;have l03:aN h3 h.next 0=some (.int .i64 A.n):=(cQ.aN (x:=h.next) (by omega) 0).trans l02
 have l04:aN (({next:=h3.next,t:=(h3.put (h.next+1+4) (aE.cells (List.replicate n [ae.bool false]).flatten 4)).t}:aa).put (h.next+1+7) (aE.cells [vo,vf,ae.slice (h.next+1+4) 0 n n true,ae.bool free] 72)) h.next 0=some (.int .i64 A.n):=by
  rw[cG (aa.ah _ _ (by omega))];exact(cG (show _=h3.get h.next from aa.ah h3 _ (show h.next+1+4≠h.next by omega)) 0).trans l03
 have hw:IntKind.i64.wrap (A.n-1)=(n:Int)-1:=by rw[wrap_i64 (by omega) (by omega),hn]
 have DV:∀h' K,X2 4 [.bool false] 1 (.int .i64 A.n) (.int .i64 A.n) h' K=K (.slice h'.next 0 n n true) (h'.push (.cells (List.replicate n [.bool false]).flatten 4)):=λh' K=>oO hn (by omega) (by omega);simp only[go_sem,Nat.reduceEqDiff,Nat.reduceAdd,Nat.reduceLeDiff,reduceCtorEq,l03,dJ,DV,l04,hw]
 have Vp:(({next:=h3.next,t:=(h3.put (h.next+1+4) (aE.cells (List.replicate n [ae.bool false]).flatten 4)).t}:aa).put (h.next+1+7) (aE.cells [vo,vf,ae.slice (h.next+1+4) 0 n n true,ae.bool free] 72)).get (h.next+1+4)=some (.cells ((List.replicate n false).map .bool) 4):=by
  rw[aa.ah _ _ (by omega)];have:=aa.aj h3 (h.next+1+4) (aE.cells (List.replicate n [ae.bool false]).flatten 4);rw[jl]at this;rw[List.map_replicate];rw[jl];exact this
 have gm4:(({next:=h3.next,t:=(h3.put (h.next+1+4) (aE.cells (List.replicate n [ae.bool false]).flatten 4)).t}:aa).put (h.next+1+7) (aE.cells [vo,vf,ae.slice (h.next+1+4) 0 n n true,ae.bool free] 72)).get (h.next+1+7)=some (.cells [vo,vf,.slice (h.next+1+4) 0 n n true,.bool free] 72):=aa.aj _ _ _;have JM:∀c,c≠h.next+1+4->c≠h.next+1+7->(({next:=h3.next,t:=(h3.put (h.next+1+4) (aE.cells (List.replicate n [ae.bool false]).flatten 4)).t}:aa).put (h.next+1+7) (aE.cells [vo,vf,ae.slice (h.next+1+4) 0 n n true,ae.bool free] 72)).get c=h3.get c:=λc x1 x2=>(aa.ah _ _ (Ne.symm x2)).trans (aa.ah h3 _ (Ne.symm x1));have Zv:(({next:=h3.next,t:=(h3.put (h.next+1+4) (aE.cells (List.replicate n [ae.bool false]).flatten 4)).t}:aa).put (h.next+1+7) (aE.cells [vo,vf,ae.slice (h.next+1+4) 0 n n true,ae.bool free] 72)).next=h3.next:=rfl;generalize (({next:=h3.next,t:=(h3.put (h.next+1+4) (aE.cells (List.replicate n [ae.bool false]).flatten 4)).t}:aa).put (h.next+1+7) (aE.cells [vo,vf,ae.slice (h.next+1+4) 0 n n true,ae.bool free] 72))=h4 at Vp gm4 JM Zv ⊢;have Md:A.n.toNat=n:=by omega
 rw[Md]at g4
 have M4:MT A n free h4 (h.next+1+7) (h.next+1+4) vo vf rows (List.replicate n false) :=
  ⟨g1.frame (by omega) λb hb=>JM b (by have:=b1 b hb;omega) (by have:=b1 b hb;omega),λj x hx=>cg.frame (g3 j x hx) (by omega) λb hb=>JM b (by have:=b3 x (qQK hx) b hb;omega) (by have:=b3 x (qQK hx) b hb;omega),g4.frame (by omega) λb hb=>JM b (by have:=b2 b hb;omega) (by have:=b2 b hb;omega),⟨by omega,by omega,by omega⟩,gm4,Vp,by simp,λb hb=>by have:=b1 b hb;omega,λb hb=>by have:=b2 b hb;omega,λx hx b hb=>by have:=b3 x hx b hb;omega⟩
 have dP:aU h h4:=⟨by have:=aS.next;omega,λb hb=>(JM b (by omega) (by omega)).trans ((cQ.get b (by omega)).trans (aS.get b hb))⟩;have Tq:rows.length=n:=g2.trans Md;have hA4:A.aW.length<=4000:=by omega
 refine X1 hP hn hA4 n4 Tq _ h h4 M4 (by omega) dP (by simp[T.ag]) (by simp[T.ag]) ?_;intro fr h5 al u5 M5 jm jy;simp only[go_sem,Nat.reduceEqDiff,u5];refine⟨n,h.next+1+7,vo,vf,.slice (h.next+1+4) 0 n n true,rows,rfl,⟨hn,n1,n4,hP,hE,hA4,M5.IA,Tq,M5.row,M5.CN,?_,M5.lt.1,M5.obj⟩,jy,by omega⟩;have y7:=cg.of1 (c:=n) (ex:=true) M5.lt.2.1 M5.cel (by intro y hy;obtain⟨_,_,rfl⟩:=qQB.1 hy;rfl);rw[qQD,M5.len]at y7
 have e:(al.map ae.bool).map (λx=>[x])=(List.range n).map λi=>[ae.bool (decide (Live A i))]:=by
  apply qJF;intro i;rw[qQX,qQX,qQX];by_cases hi:i<n
  .rw[jm i hi,qJY hi];rfl
  .rw[qJL (by rw[M5.len];omega),qJL (by simp;omega)];rfl
 rw[<-e];exact y7
def Zc:ax :=
 (.seq
  (.region [oK 1 (.box 25 (.t 0)),oK 2 (.box 25 (.c (.agg [(.int .i64 0),.af,.af]))),oK 3 (.mv (.c (.int .i64 0)))])
  (.seq
   (.seq
    (.region [oQ 5 3 1,oK 6 (.call (.c (.func 6 [] [])) [(.t 5)]),oM 4 6])
    (.seq
     (.region [oM 7 4,oK 8 (.bin .neq .none (.t 7) (.c (.int .i64 0)))])
     (.cond (.t 8)
      (.seq
       (.region [oK 9 (.build [(.int .i64 0),.af,.af] []),oM 10 4,oS 3 2 9,oM 3 10])
       .ret)
      .skip)))
   (.seq
    (.region [oQ 11 3 1,oK 12 (.call (.c (.func 11 [] [])) [(.t 11),(.c (.bool false))]),oK 13 (.eP 37 (.t 12)),oK 14 (.call (.c (.func 10 [] [])) [(.t 13)]),oK 15 (.extract 0 (.t 14)),oK 16 (.extract 1 (.t 14)),oS 3 2 15,oM 3 16])
    .ret)))
def Rz:E2.code 4=some (Zc,[.cell 2 25,.tmp 3]):=by kernel_rfl
def Cx:ax :=
 (.seq
  (.seq
   (.region [oM 30 5,oF 31 1 2,oL 32 31,oJ 33 32,oB 34 .lss 30 33])
   (.cond (.t 34)
    .skip
    (.exit 0)))
  (.seq
   (.block 1
    (.seq
     (.drawn 11 [oP 0 (oF 37 1 2),oR 1 (oL 38 37),oP 2 (oM 39 5),oP 3 (oX 40 4 38 39),oR 4 (oQ 41 4 40),oP 5 (oF 42 1 3),oR 6 (oL 43 42),oP 7 (oM 44 5),oP 8 (oX 45 4 43 44),oR 9 (oQ 46 4 45),oP 10 (oK 47 (.bin .neq (.agg [(0,.i),(1,.i),(2,.i),(3,.i)]) (.t 41) (.t 46)))])
     (.cond (.t 47)
      (.seq
       (.region [oK 4 (.mv (.c (.bool false)))])
       .ret)
      .skip)))
   (.region [oM 35 5,oK 36 (.bin .add .none (.t 35) (.c (.int .i64 1))),oM 5 36])))
def Cy:ax :=
 (.seq
  (.seq
   (.region [oM 48 6,oF 49 2 2,oL 50 49,oJ 51 50,oB 52 .lss 48 51])
   (.cond (.t 52)
    .skip
    (.exit 2)))
  (.seq
   (.block 3
    (.seq
     (.drawn 11 [oP 0 (oF 55 2 2),oR 1 (oL 56 55),oP 2 (oM 57 6),oP 3 (oX 58 2 56 57),oR 4 (oQ 59 2 58),oP 5 (oF 60 2 3),oR 6 (oL 61 60),oP 7 (oM 62 6),oP 8 (oX 63 2 61 62),oR 9 (oQ 64 2 63),oP 10 (oK 65 (.bin .neq (.agg [(0,.i),(1,.i)]) (.t 59) (.t 64)))])
     (.cond (.t 65)
      (.seq
       (.region [oK 4 (.mv (.c (.bool false)))])
       .ret)
      .skip)))
   (.region [oM 53 6,oK 54 (.bin .add .none (.t 53) (.c (.int .i64 1))),oM 6 54])))
def RY:ax :=
 (.seq
  (.region [oK 2 (.box 25 (.t 0)),oK 3 (.box 25 (.t 1)),oK 4 (.mv (.c (.bool false)))])
  (.seq
   (.seq
    (.region [oF 7 0 2,oL 8 7,oF 9 0 3,oL 10 9,oB 11 .neq 8 10,oM 12 11,oG 13 12 false (.dh 1 (.t 2)),oG 14 12 false (.ct (.t 13)),oG 15 12 false (.len .slice (.t 14)),oG 16 12 false (.dh 1 (.t 3)),oG 17 12 false (.ct (.t 16)),oG 18 12 false (.len .slice (.t 17)),oG 19 12 false (.bin .neq .none (.t 15) (.t 18)),oK 20 (.pick (.t 12) (.c (.bool true)) (.t 19)),oM 21 20,oG 22 21 false (.dh 2 (.t 2)),oG 23 21 false (.ct (.t 22)),oG 24 21 false (.len .slice (.t 23)),oG 25 21 false (.dh 2 (.t 3)),oG 26 21 false (.ct (.t 25)),oG 27 21 false (.len .slice (.t 26)),oG 28 21 false (.bin .neq .none (.t 24) (.t 27)),oK 29 (.pick (.t 21) (.c (.bool true)) (.t 28))])
    (.cond (.t 29)
     (.seq
      (.region [oK 4 (.mv (.c (.bool false)))])
      .ret)
     .skip))
   (.seq
    (.seq
     (.region [oK 5 (.mv (.c (.int .i64 0)))])
     (.block 0
      (.loop Cx)))
    (.seq
     (.seq
      (.region [oK 6 (.mv (.c (.int .i64 0)))])
      (.block 2
       (.loop Cy)))
     (.seq
      (.region [oK 4 (.mv (.c (.bool true)))])
      .ret)))))
def Nt:E2.code 7=some (RY,[.tmp 4]):=by kernel_rfl
def Mi {l:Nat}(h:Ap l=true):l∈bO:=by
 have key:∀l,l<123->Ap l=true->l∈bO:=by decide
 refine key l ?_ h;unfold Ap at h;simp at h;omega
def EN {A:aY}{n:Nat}{free:Bool}(an:A.n=(n:Int))(n4:n<=400)(hA:fH A.n A.aW)(hE:gK A.n A.ends):Y2 (xH A free) (λc=>0<=c/\c<(n:Int)) (λc=>n-c.toNat) (λc=>c*1000000) where
 r7 c l d k hc hm:=by
  obtain⟨x,hx,e⟩:=qQB.1 (show(d,k)∈((cp A c.toNat).filter λx=>decide (x.l=l)).map λx=>(x.to,if free then(0:Int) else x.c) from hm);cases e;obtain⟨h1,h2⟩:=iw hA (qZM.1 hx).1;obtain⟨a1,a2,a3,_⟩:=h1;exact⟨by omega,by omega⟩
 dec c l d k hc hm:=by
  obtain⟨x,hx,e⟩:=qQB.1 (show(d,k)∈((cp A c.toNat).filter λx=>decide (x.l=l)).map λx=>(x.to,if free then(0:Int) else x.c) from hm);cases e;obtain⟨h1,h2⟩:=iw hA (qZM.1 hx).1;obtain⟨a1,a2,a3,_⟩:=h1;show n-x.to.toNat<n-c.toNat;omega
 Y' c hc:=by show n-c.toNat<=_;omega
 nn c hc:=by constructor<;>omega
 cost c l d k hc hm:=by
  obtain⟨x,hx,e⟩:=qQB.1 (show(d,k)∈((cp A c.toNat).filter λx=>decide (x.l=l)).map λx=>(x.to,if free then(0:Int) else x.c) from hm);obtain⟨h1,h2⟩:=iw hA (qZM.1 hx).1;obtain⟨a1,a2,a3,_,a5,a6⟩:=h1;cases free<;>(cases e;constructor<;>simp<;>omega)
 fin c f hc hf:=by
  have:=zW hE c.toNat;have hf:(if bm A.ends c.toNat<0 then none else some (if free then(0:Int) else bm A.ends c.toNat))=some f:=hf;split at hf
  .cases hf
  .cases hf;cases free<;>(constructor<;>simp<;>omega)
 live c hc hl:=by
  classical
  have hl:Live A c.toNat:=by simpa[xH] using hl
  rcases(Fj _).1 hl with h|⟨x,j,hx,hj,hL⟩
  .left;refine⟨if free then 0 else bm A.ends c.toNat,?_⟩;show(if bm A.ends c.toNat<0 then none else some (if free then(0:Int) else bm A.ends c.toNat))=_;rw[if_neg (by omega)]
  .right;obtain⟨h1,h2⟩:=iw hA hx;refine⟨x.l,x.to,if free then 0 else x.c,Mi h1.2.2.2.1,?_,?_⟩
   .show(x.to,_)∈((cp A c.toNat).filter λx=>decide (x.l=_)).map λx=>(x.to,if free then(0:Int) else x.c);exact qQB.2 ⟨x,qZM.2 ⟨hx,by simp⟩,rfl⟩
   .show decide (Live A x.to.toNat)=true;rw[hj];simpa using hL
def ada {A:aY}{n:Nat}{free:Bool}{h0:aa}{mb:Nat}{vo vf va:ae}{rows:List ae}(P:QF A n free h0 mb vo vf va rows):Y2 (xH A free) (λc=>0<=c/\c<(n:Int)) (λc=>n-c.toNat) (λc=>c*1000000):=EN P.an P.n4 P.aW P.ends
def US {C:Type}{M:eG C}{Good:C->Prop}{bd:C->Int}(g:Good M.start)(hb:0<=bd M.start){φ:p9 C}{m:Int}(h:rE M (qS M) φ m):PO M Good bd φ:=by
 obtain⟨c0,h0,h1⟩:=h.B3;obtain⟨rfl,rfl⟩:=h1;refine⟨⟨M.start,0,(h.eq _ 0).2 ⟨h0,⟨rfl,rfl⟩,λu hu=>by have:=hu.2;omega⟩⟩,λc v hv=>?_⟩;obtain⟨h1,⟨rfl,h2⟩,_⟩:=(h.eq c v).1 hv;exact⟨g,h1,by omega,by omega⟩
def MU (free:Bool)(A B:aY)(k:Int):Prop:=(bH A≠0/\B=⟨0,[],[]⟩/\k=bH A)\/(bH A=0/\qV (xH A free) B k)
def Uf {A:aY}{n:Nat}{free:Bool}{h:aa}{mb:Nat}{vo vf va:ae}{rows:List ae}(P:QF A n free h mb vo vf va rows)(h1:aa)(hle:aU h h1) :
 Nc Tryz.prog 10 [.iface 37 (.ptr mb 0)] h1 λv h'=>aU h1 h'/\∃B k,qV (xH A free) B k/\BH h1.next h' v B k :=
 X6 (Good:=λc=>0<=c/\c<(n:Int)) (λh2 aS=>UA (P.mono (hle.trans aS))) (ac9 P) (ada P) λφ m hs=>US ((UA P).SN) (by simp only[xH];omega) hs
def AK (A:aY)(v:ae)(h:aa)(H:fY h v A):Nc Tryz.prog 4 [v] h λr h'=>aU h h'/\∃B k,MU false A B k/\BH h.next h' r B k:=by
 refine Nc.qJ kr call2 (λm n=>iS kr (call2 m n)) (fn:=Tryz.f4) (by kernel_rfl) (by kernel_rfl) Rz ?_;unfold Zc;obtain⟨va,ve,rfl,ha,he,Oj,GH⟩:=id H;have g1:(((h.push (.cells [.int .i64 A.n,va,ve] 25)).push (.cells [.int .i64 0,.af,.af] 25))).get h.next=some (.cells [.int .i64 A.n,va,ve] 25):=(aa.aA _ _ (by show h.next+1≠_;omega)).trans (aa.ai _ _);have g2:(((h.push (.cells [.int .i64 A.n,va,ve] 25)).push (.cells [.int .i64 0,.af,.af] 25))).get (h.next+1)=some (.cells [.int .i64 0,.af,.af] 25):=aa.ai _ _;have aS:aU h (((h.push (.cells [.int .i64 A.n,va,ve] 25)).push (.cells [.int .i64 0,.af,.af] 25))):=((aU.refl h).push _).push _;have n2:(((h.push (.cells [.int .i64 A.n,va,ve] 25)).push (.cells [.int .i64 0,.af,.af] 25))).next=h.next+2:=rfl;have ld2:eI (((h.push (.cells [.int .i64 A.n,va,ve] 25)).push (.cells [.int .i64 0,.af,.af] 25))) h.next 0 3=some [.int .i64 A.n,va,ve]:=by rw[bX g1 (by simp)];rfl
 simp only[go_sem,Nat.reduceEqDiff,reduceCtorEq,ld2];generalize ((h.push (.cells [.int .i64 A.n,va,ve] 25)).push (.cells [.int .i64 0,.af,.af] 25))=h2 at g1 g2 aS n2 ld2 ⊢;refine⟨by decide,?_⟩;refine Nc.nW ((vl A _ h2 (H.mono aS)).mono ?_);rintro r h3 ⟨rfl,cQ⟩;have uQ:=cQ.next;have g23:h3.get (h.next+1)=some (.cells [.int .i64 0,.af,.af] 25):=(cQ.get _ (by omega)).trans g2;have g13:h3.get h.next=some (.cells [.int .i64 A.n,va,ve] 25):=(cQ.get _ (by omega)).trans g1;have GP:over [ae.int .i64 0,.af,.af] 0 [.int .i64 0,.af,.af]=[.int .i64 0,.af,.af]:=rfl;by_cases hz:bH A=0
 .have ld3:eI h3 h.next 0 3=some [.int .i64 A.n,va,ve]:=by rw[bX g13 (by simp)];rfl
  simp only[go_sem,Nat.reduceEqDiff,reduceCtorEq,hz,ld3];refine⟨by decide,?_⟩;refine Nc.nW ((Hk A _ false h3 (H.mono (aS.trans cQ)) hz).mono ?_);rintro r h4 ⟨n,mb,vo,vf,va2,rows,rfl,P,dP,hmb⟩;have JY:=dP.next;simp only[go_sem,Nat.reduceEqDiff,reduceCtorEq];refine⟨by decide,?_⟩;refine(Uf P h4 (aU.refl h4)).mono ?_;rintro r h5 ⟨jy,B,k,hN,⟨wa,we,rfl,hwa,hwe,hwl,hwm,B0⟩⟩;have Qg:=jy.next;have g5:h5.get (h.next+1)=some (.cells [.int .i64 0,.af,.af] 25):=(jy.get _ (by omega)).trans ((dP.get _ (by omega)).trans g23);have yd:=aD (o:=0) (n:=3) (vs:=[.int .i64 B.n,wa,we]) g5 rfl (by simp);have alc:over [ae.int .i64 0,.af,.af] 0 [.int .i64 B.n,wa,we]=[.int .i64 B.n,wa,we]:=rfl;rw[alc]at yd;simp only[go_sem,Nat.reduceEqDiff,reduceCtorEq,yd];rw[nh (b:=h.next+1) (w:=.int .i64 k) (by simp[T.ag]) (by simp[T.ag]) (aa.aj _ _ _)];have ho:∀b,b≠h.next+1->(h5.put (h.next+1) (.cells [.int .i64 B.n,wa,we] 25)).get b=h5.get b:=λb hb=>aa.ah _ _ (Ne.symm hb);refine⟨⟨by show h.next<=h5.next;omega,λb hb=>(ho b (by omega)).trans ((jy.get b (by omega)).trans ((dP.get b (by omega)).trans ((cQ.get b (by omega)).trans (aS.get b hb))))⟩,B,k,.inr ⟨hz,hN⟩,wa,we,rfl,?_,?_,hwl,hwm,λb hb=>by have:=B0 b hb;omega⟩
  .exact cg.frame hwa (qQY _) λb hb=>ho b (by have:=B0 b (.inl hb);omega)
  .exact cg.frame hwe (qQY _) λb hb=>ho b (by have:=B0 b (.inr hb);omega)
 .have yc:=aD (o:=0) (n:=3) (vs:=[.int .i64 0,.af,.af]) g23 rfl (by simp);rw[GP]at yc;simp only[go_sem,Nat.reduceEqDiff,reduceCtorEq,hz,yc];rw[nh (b:=h.next+1) (w:=.int .i64 (bH A)) (by simp[T.ag]) (by simp[T.ag]) (aa.aj _ _ _)];exact⟨⟨by show h.next<=h3.next;omega,λb hb=>(aa.ah _ _ (by omega)).trans ((cQ.get b (by omega)).trans (aS.get b hb))⟩,_,_,.inl ⟨hz,rfl,rfl⟩,BH.nil _ _ _⟩
section
variable{A:aY}{n K:Nat}(L:VU A n K)
variable{N ob nb nY:Nat}{hS:aa}{fo:Fr}
def sl0 (n:Nat):List Slot:=(List.replicate n [Slot.done [],.wait [],.flag false]).flatten
def vt (n:Nat):List ae:=(List.replicate n [ae.af,.af,.bool false]).flatten
def pS {α:Type}(a b c:α):∀(n k:Nat),k<3*n->((List.replicate n [a,b,c]).flatten)[k]?=some (if k % 3=0 then a else if k % 3=1 then b else c)
 |0,k,h=>by omega
 |n+1,0,_=>rfl
 |n+1,1,_=>rfl
 |n+1,2,_=>rfl
 |n+1,k+3,h=>by
  have:=pS a b c n k (by omega);rw[qVB,qZA];show((List.replicate n [a,b,c]).flatten)[k]?=_;rw[this,show(k+3) % 3=k % 3 by omega]
def sx {α:Type}(a b c:α)(n:Nat):((List.replicate n [a,b,c]).flatten).length=3*n:=by
 induction n with
 |zero=>rfl
 |succ n ih=>rw[qVB,qZA,qQM,ih];simp;omega
def Jq (n:Nat){k:Nat}{v:ae}(h:(vt n)[k]?=some v)(b:Nat):¬aM v b:=by
 have hk:k<3*n:=by have:=(qQZ.1 h).1;unfold vt at this;rwa [sx]at this
 unfold vt at h;rw[pS _ _ _ n k hk]at h;cases h;rintro⟨o,m,c,e,he⟩;split at he
 .cases he
 .split at he<;>cases he
def rk0 {h:aa}{sb:Nat}(hl:sb<h.next)(hg:h.get sb=some (.cells (vt n) 182)):sP 0 sb h (vt n) (sl0 n):=by
 refine⟨⟨qZH _,hl⟩,hg,by unfold vt sl0;rw[sx,sx],λk v s hv hs=>?_,λk k' v v' b hv _ hb _=>(Jq n hv b hb).elim,λk v b hv hb=>(Jq n hv b hb).elim⟩;have hk:k<3*n:=by have:=(qQZ.1 hv).1;unfold vt at this;rwa [sx]at this
 unfold vt at hv;unfold sl0 at hs;rw[pS _ _ _ n k hk]at hv hs;cases hv;cases hs;by_cases h0:k % 3=0
 .rw[if_pos h0,if_pos h0];exact .inl ⟨rfl,rfl⟩
 .rw[if_neg h0,if_neg h0];by_cases h1:k % 3=1
  .rw[if_pos h1,if_pos h1];exact .inl ⟨rfl,rfl⟩
  .rw[if_neg h1,if_neg h1];rfl
def TM {ab:Nat}{va ve:ae}{h:aa}(hz:bH A=0)(Zy:A.n=(n:Int))(hA:fY h (.agg [.int .i64 A.n,va,ve]) A)(ga:h.get ab=some (.cells [.int .i64 A.n,va,ve] 25))(Ix:ab<h.next)(hN:0<N)(hNK:N<=1000)
 (LR:h.get ob=some (.cells [.af] 43)) (gnb:h.get nb=some (.cells [.int .i64 (N:Int)] 3)) (Hx:ob<h.next/\nb<h.next/\nb≠ob) (low:hS.next<=ob) (hle:aU hS h) (af4:∀i,i<n->L.Inv i [] [] false) :
 wp E2 (.seq k0 k1) (dN [.func (1000000000+nY) [] [],.ptr ab 0] 0 .nil) h (λfr h=>∃d,d<1100/\MQ L hS N nY ob nb d fr h) (λ_ _ _=>False) (λ_ _=>False):=by
 obtain⟨n',Fa,n1,n4,l4,e4,hP,hE⟩:=gf hz;obtain rfl:n=n':=by omega
 show wp E2 (.seq k0 k1) _ h (bx (λfr h=>∃d,d<1100/\MQ L hS N nY ob nb d fr h) .mk) _ _;unfold k0 k1 Jp;simp only[Fz,vg];have l0:eI h ab 0 3=some [.int .i64 A.n,va,ve]:=by rw[bX ga (by simp)];rfl
 have l1:aN h ab 0=some (.int .i64 A.n):=by rw[aq ga];rfl
 simp only[go_sem,Nat.reduceEqDiff,Nat.reduceAdd,reduceCtorEq,l0,l1];have DV:∀h' K,X2 182 [.af,.af,.bool false] 56 (.int .i64 A.n) (.int .i64 A.n) h' K=K (.slice h'.next 0 n n true) (h'.push (.cells (vt n) 182)):=λh' K=>oO Zy (by omega) (by omega);refine⟨by decide,?_⟩;refine(Mv A _ (h.skip 8) (hA.mono ((aU.refl h).skip 8)) hz).mono ?_;rintro r h2 ⟨⟨vo,vf,rows,rfl,g1,g2,g3,g4,g5,g6,g7⟩,aS⟩;have GK:h.next+8<=h2.next:=aS.next;have vH:∀b,b<h.next+8->h2.get b=h.get b:=λb hb=>aS.get b hb;have l2:aN h2 ab 0=some (.int .i64 A.n):=by rw[cG (vH ab (by omega))];exact l1
 have ars:vo.flat=true:=cg.flat g1;have arq:vf.flat=true:=cg.flat g4;simp only[go_sem,Nat.reduceEqDiff,Nat.reduceAdd,Nat.reduceLeDiff,reduceCtorEq,l2,dJ,DV];obtain⟨h3,e3⟩:∃h3,h3=aa.put ⟨h2.next,(h2.put (h.next+4) (.cells (vt n) 182)).t⟩ (h.next+6) (.cells [vo,vf,.slice (h.next+4) 0 n n true] 149):=⟨_,rfl⟩;rw[<-e3];have n3:h3.next=h2.next:=by rw[e3];rfl
 have gr:h3.get (h.next+6)=some (.cells [vo,vf,.slice (h.next+4) 0 n n true] 149):=by rw[e3];exact aa.aj _ _ _
 have gs:h3.get (h.next+4)=some (.cells (vt n) 182):=by rw[e3,aa.ah _ _ (by omega)];show(h2.put (h.next+4) _).get _=_;exact aa.aj _ _ _
 have go:∀b,b≠h.next+4->b≠h.next+6->h3.get b=h2.get b:=λb h4 h6=>by rw[e3,aa.ah _ _ (Ne.symm h6)];exact aa.ah _ _ (Ne.symm h4)
 clear e3
 have rp:∀b,p8 (h.next+4) (vt n) b->b=h.next+4:=λb ho=>by
  rcases ho with e|⟨k,v,hv,hb⟩
  .exact e
  .exact(Jq n hv b hb).elim
 have Qf:∀v b,GV A vo vf rows v->aM v b->h.next+8<=b:=λv b hv hb=>by
  rcases hv with rfl|rfl|⟨j,hv,_⟩
  .exact g5 b hb
  .exact g6 b hb
  .exact g7 v (qQK hv) b hb
 have yH:∀b,FP A (h.next+6) vo vf rows (h.next+4) (vt n) b->h.next<=b:=λb hb=>by
  rcases hb with ho|e|⟨v,hv,hb⟩
  .have:=rp b ho;omega
  .omega
  .have:=Qf v b hv hb;omega
 have hAt:A.n.toNat=n:=by omega
 have dL:=hle.next
 have B0:∀v b,GV A vo vf rows v->aM v b->h3.get b=h2.get b:=λv b hv hb=>by
  have:=Qf v b hv hb;exact go b (by omega) (by omega)
 refine⟨N,by omega,vo,vf,rows,h.next+6,h.next+4,⟨Zy,n1,n4,hP,hE,l4,by omega⟩,vt n,sl0 n,.af,[],by simp,hN,by simp[T.ag],by simp[T.ag],by simp[T.ag],?_⟩;refine⟨⟨rk0 (by omega) gs,g1.frame (by omega) λb hb=>B0 _ b (.inl rfl) hb,λj x hx=>Bh hx (g3 j x hx) (by omega) B0,?_,gr,by omega,λho=>by have:=rp _ ho;omega,λv b hv hb=>⟨?_,λho=>?_⟩⟩,by unfold sl0;exact sx _ _ _ _,λj _ hj=>⟨[],[],false,?_,?_,?_,af4 j hj⟩,?_,.inl ⟨rfl,rfl⟩,?_,⟨by omega,by omega,Hx.2.2⟩,⟨λhf=>by have:=yH _ hf;omega,λhf=>by have:=yH _ hf;omega⟩,λb hb=>(dx hb).elim,⟨low,λb hb=>by have:=yH b hb;omega⟩,⟨by omega,λb hb=>?_⟩,λi y hy=>by simp at hy⟩
 .have:=g4.frame (h':=h3) (by omega) λb hb=>B0 _ b (.inr (.inl rfl)) hb
  rwa [hAt]at this
 .rw[n3];rcases hv with rfl|rfl|⟨j,hj,dV⟩
  .exact g1.blt (λe=>by have:=congrArg List.length e;rw[qQD]at this;simp at this;subst this;simp at g2;omega) hb
  .exact g4.blt (λe=>by have:=congrArg List.length e;simp at this;omega) hb
  .exact cg.blt (g3 j v hj) (λe=>dV (List.map_eq_nil_iff.1 e)) hb
 .have:=Qf v b hv hb;have:=rp b ho;omega
 .unfold sl0;rw[pS _ _ _ n _ (by omega),if_pos (by omega)]
 .unfold sl0;rw[pS _ _ _ n _ (by omega),if_neg (by omega),if_pos (by omega)]
 .unfold sl0;rw[pS _ _ _ n _ (by omega),if_neg (by omega),if_neg (by omega)]
 .exact(go ob (by omega) (by omega)).trans ((vH ob (by omega)).trans LR)
 .exact(go nb (by omega) (by omega)).trans ((vH nb (by omega)).trans gnb)
 .exact(go b (by omega) (by omega)).trans ((vH b (by omega)).trans (hle.get b hb))
end
def MU.ok0 {A B:aY}(h:MU false A B 0):bH A=0/\qV (xH A false) B 0/\bH B=0:=by
 rcases h with⟨h1,_,h3⟩|⟨h1,h2⟩
 .exact absurd h3.symm h1
 .refine⟨h1,h2,?_⟩;cases h2 with
  |ok _ _ _ _ _ hz=>exact hz
def BH.auto {n0:Nat}{h:aa}{r:ae}{A:aY}{k:Int}(H:BH n0 h r A k):∃va ve,r=.eC [.agg [.int .i64 A.n,va,ve],.int .i64 k]/\va.flat=true/\ve.flat=true/\fY h (.agg [.int .i64 A.n,va,ve]) A:=by
 obtain⟨va,ve,rfl,ha,he,h1,h2,_⟩:=H;exact⟨va,ve,rfl,cg.flat ha,cg.flat he,va,ve,rfl,ha,he,by omega,by omega⟩
def adm {va ve:ae}{x:ae}{h:aa}(hx:x.flat=true)(f1:va.flat=true)(f2:ve.flat=true):Ec E2 27 [.agg [x,va,ve]] h λr h'=>r=.func 49 [] [.ptr h.next 0]/\h'=h.push (.cells [x,va,ve] 25):=by
 refine Ec.bu (aI (by decide)) RP ?_;unfold Zq;simp only[go_sem,Nat.reduceEqDiff,reduceCtorEq]
def aaL (mk:∀(B:aY)(n:Nat),bH B=0->B.n=(n:Int)->VU B n 2000)(mk0:∀B n hz hn i,i<n->(mk B n hz hn).Inv i [] [] false)(A:aY)(v:ae)(h:aa)(H:fY h v A)(N:Nat)(JO:1<=N)(Iw:N<=1000) :
 Nc Tryz.prog 14 [v,.int .i64 (N:Int)] h λr h'=>aU h h'/\∃B k,MU false A B k/\((k≠0/\r=.eC [.af,.int .i64 k])\/(k=0/\∃(ov:ae)(l:List tm)(n:Nat)(hz:bH B=0)(hn:B.n=(n:Int)),r=.eC [ov,.int .i64 0]/\cg h' 2 ov (l.map fN)/\(∀b,aM ov b->h.next<=b)/\l.length<=N /\
   (∀(i:Nat)(y:tm),l[i]?=some y->(mk B n hz hn).BG 0 i (some y))/\(l.length<N->(mk B n hz hn).BG 0 l.length none))):=by
 refine V8 ?_;refine(show kI Tryz.prog E2 aaQ (dN [v,.int .i64 (N:Int)] 0 .nil) h (bx _ .mk) (λ_ _ _=>False) (bx _ .mk) from ?_);unfold aaQ c0 c1 c2 c3 c4 c5 c6 cT u4;simp only[Fz,vg];obtain⟨va,ve,rfl,ha,he,Oj,GH⟩:=id H;have vaf:=cg.flat ha;have vef:=cg.flat he;have aS:aU h ((h.push (.cells [.int .i64 A.n,va,ve] 25)).push (.cells [.int .i64 (N:Int)] 3)):=((aU.refl h).push _).push _;have n2:((h.push (.cells [.int .i64 A.n,va,ve] 25)).push (.cells [.int .i64 (N:Int)] 3)).next=h.next+2:=rfl;have gA:((h.push (.cells [.int .i64 A.n,va,ve] 25)).push (.cells [.int .i64 (N:Int)] 3)).get h.next=some (.cells [.int .i64 A.n,va,ve] 25):=(aa.aA _ _ (by show h.next+1≠_;omega)).trans (aa.ai _ _);have gN:((h.push (.cells [.int .i64 A.n,va,ve] 25)).push (.cells [.int .i64 (N:Int)] 3)).get (h.next+1)=some (.cells [.int .i64 (N:Int)] 3):=aa.ai _ _;have ln:∀h',h'.get (h.next+1)=some (.cells [.int .i64 (N:Int)] 3)->aN h' (h.next+1) 0=some (.int .i64 (N:Int)):=λh' e=>by rw[aq e];rfl
 have la:eI ((h.push (.cells [.int .i64 A.n,va,ve] 25)).push (.cells [.int .i64 (N:Int)] 3)) h.next 0 3=some [.int .i64 A.n,va,ve]:=by rw[bX gA (by simp)];rfl
 have ln2:=ln _ gN;have x1:¬(N:Int)<0:=by omega
 have x2:¬(1000:Int)<(N:Int):=by omega
 simp only[go_sem,Nat.reduceEqDiff,Nat.reduceAdd,reduceCtorEq,ln2,la,x1,x2];generalize ((h.push (.cells [.int .i64 A.n,va,ve] 25)).push (.cells [.int .i64 (N:Int)] 3))=h2 at aS n2 gA gN la ln2 ⊢;refine⟨by decide,?_⟩;refine(AK A _ h2 (H.mono aS)).mono ?_;rintro r h3 ⟨cQ,B,k,hB,hE⟩;have hE':=hE;obtain⟨xa,xe,rfl,ha2,wE,afy,afR,aqy⟩:=hE';have xaf:=cg.flat ha2;have xef:=cg.flat wE;have n3:=cQ.next;have GP:∀x y z:ae,over [ae.int .i64 0,.af,.af] 0 [x,y,z]=[x,y,z]:=λ_ _ _=>rfl;have ib:=GP (.int .i64 B.n) xa xe;have dP:aU h3 (h3.push (.cells [.int .i64 B.n,xa,xe] 25)):=(aU.refl h3).push _;have n4:(h3.push (.cells [.int .i64 B.n,xa,xe] 25)).next=h3.next+1:=rfl;have gB:(h3.push (.cells [.int .i64 B.n,xa,xe] 25)).get h3.next=some (.cells [.int .i64 B.n,xa,xe] 25):=aa.ai _ _;by_cases hk:k=0
 .subst hk;obtain⟨hzA,hNR,hz⟩:=hB.ok0;obtain⟨n,hn,b1,b4,bl4,be4,hP,hEd⟩:=gf hz;have gN4:(h3.push (.cells [.int .i64 B.n,xa,xe] 25)).get (h.next+1)=some (.cells [.int .i64 (N:Int)] 3):=(dP.get _ (by omega)).trans ((cQ.get _ (by omega)).trans gN);have ln5:aN ((h3.push (.cells [.int .i64 B.n,xa,xe] 25)).push (.cells [.af] 43)) (h.next+1) 0=some (.int .i64 (N:Int)):=ln _ ((aa.aA _ _ (by omega)).trans gN4);have lb5:eI ((h3.push (.cells [.int .i64 B.n,xa,xe] 25)).push (.cells [.af] 43)) h3.next 0 3=some [.int .i64 B.n,xa,xe]:=by rw[bX ((aa.aA _ _ (by omega)).trans gB) (by simp)];rfl
  have x3:¬(N:Int)=0:=by omega
  simp only[go_sem,Nat.reduceEqDiff,Nat.reduceAdd,reduceCtorEq,ib,ln5,lb5,x3];have jy:aU h3 ((h3.push (.cells [.int .i64 B.n,xa,xe] 25)).push (.cells [.af] 43)):=dP.push _;have n5:((h3.push (.cells [.int .i64 B.n,xa,xe] 25)).push (.cells [.af] 43)).next=h3.next+2:=rfl;have Vq:((h3.push (.cells [.int .i64 B.n,xa,xe] 25)).push (.cells [.af] 43)).get (h3.next+1)=some (.cells [.af] 43):=aa.ai _ _;generalize ((h3.push (.cells [.int .i64 B.n,xa,xe] 25)).push (.cells [.af] 43))=h5 at jy n5 Vq ⊢;refine⟨by decide,?_⟩;refine Nc.nW ((adm rfl xaf xef).mono ?_);rintro r h6 ⟨rfl,e6⟩;have qt:aU h5 h6:=by rw[e6];exact(aU.refl h5).push _
  have n6:h6.next=h5.next+1:=by rw[e6];rfl
  have ga6:h6.get h5.next=some (.cells [.int .i64 B.n,xa,xe] 25):=by rw[e6];exact aa.ai _ _
  clear e6;have ZK:=aS.trans (cQ.trans (jy.trans qt));have n06:=ZK.next;simp only[go_sem,Nat.reduceEqDiff,reduceCtorEq];have hX:fY h3 (.agg [.int .i64 B.n,xa,xe]) B:=⟨xa,xe,rfl,ha2,wE,by omega,by omega⟩
  have wZ:∀fr:Fr,fr.get 8=some (.ptr (h3.next+1) 0)->fr.get 3=some (.ptr (h.next+1) 0)->∃h' g,MP (mk B n hz hn) N h (h3.next+1) h'/\∃M,∀a b,M<=a->M<=b->tO E2 (ba E2 a b) a fr h6.next (.ptr h5.next 0) ⟨Nat.succ h6.next,h6.t⟩=some (h',g):=λfr f8 f3=>by
   refine TN (Qend:=MP (mk B n hz hn) N h (h3.next+1)) (Inv:=MQ (mk B n hz hn) h N h6.next (h3.next+1) (h.next+1)) (λd bP h' hI=>XT (mk B n hz hn) Iw (by omega) f8 f3 d bP h' hI) ?_
   exact TM (mk B n hz hn) (h:=⟨Nat.succ h6.next,h6.t⟩) hz hn ((hX.mono (jy.trans qt)).mono ((aU.refl h6).skip 1)) ga6 (by show h5.next<h6.next+1;omega) JO Iw ((qt.get _ (by omega)).trans Vq) ((qt.get _ (by omega)).trans ((jy.get _ (by omega)).trans ((cQ.get _ (by omega)).trans gN)))
    ⟨by show h3.next+1<h6.next+1;omega,by show h.next+1<h6.next+1;omega,by omega⟩ (by omega) (ZK.skip 1) (mk0 B n hz hn)
  have hs:∀fr:Fr,fr.get 8=some (.ptr (h3.next+1) 0)->fr.get 3=some (.ptr (h.next+1) 0)->∃cap h2 g,ae.func 49 [] [.ptr h5.next 0]=ae.func 49 [] [cap]/\(∃M,∀a b,M<=a->M<=b->tO E2 (ba E2 a b) a fr h6.next cap ⟨Nat.succ h6.next,h6.t⟩=some (h2,g)) /\
      kI Tryz.prog E2 c7 fr h2 (IE λr h'=>aU h h'/\∃B k,MU false A B k/\((k≠0/\r=.eC [.af,.int .i64 k])\/(k=0/\∃(ov:ae)(l:List tm)(n:Nat)(hz:bH B=0)(hn:B.n=(n:Int)),r=.eC [ov,.int .i64 0]/\cg h' 2 ov (l.map fN)/\(∀b,aM ov b->h.next<=b)/\l.length<=N /\
   (∀(i:Nat)(y:tm),l[i]?=some y->(mk B n hz hn).BG 0 i (some y))/\(l.length<N->(mk B n hz hn).BG 0 l.length none)))) (λ_ _ _=>False) (IE λr h'=>aU h h'/\∃B k,MU false A B k/\((k≠0/\r=.eC [.af,.int .i64 k])\/(k=0/\∃(ov:ae)(l:List tm)(n:Nat)(hz:bH B=0)(hn:B.n=(n:Int)),r=.eC [ov,.int .i64 0]/\cg h' 2 ov (l.map fN)/\(∀b,aM ov b->h.next<=b)/\l.length<=N /\
   (∀(i:Nat)(y:tm),l[i]?=some y->(mk B n hz hn).BG 0 i (some y))/\(l.length<N->(mk B n hz hn).BG 0 l.length none)))):=λfr f8 f3=>by
   obtain⟨h',g,⟨ov,l,g1,g2,g3,g4,g5,g6,g7,g8⟩,hM⟩:=wZ fr f8 f3;refine⟨_,h',g,rfl,hM,?_⟩;refine(show kI Tryz.prog E2 c7 fr h' (bx _ .mk) (λ_ _ _=>False) (bx _ .mk) from ?_);unfold c7 cT u4;simp only[vg];have q:aN h' (h3.next+1) 0=some ov:=by rw[aq g1];rfl
   simp only[go_sem,Nat.reduceEqDiff,f8,q];exact⟨g5,B,0,hB,.inr ⟨rfl,ov,l,n,hz,hn,rfl,EJ g2,g4,g7,g6,g8⟩⟩
  exact hs _ (by simp[T.ag]) (by simp[T.ag])
 .simp only[go_sem,Nat.reduceEqDiff,Nat.reduceAdd,reduceCtorEq,ib,hk];exact⟨aS.trans (cQ.trans dP),B,k,hB,.inl ⟨hk,rfl⟩⟩
section
variable{C:Type}{M:eG C}
def IC (M:eG C):C->List Nat->Int->Prop
 |c,[],k=>M.fin c=some k
 |c,l :: s,k=>∃d e k',(d,e)∈M.step c l/\IC M d s k'/\k=e+k'
def VM (M:eG C)(φ:p9 C)(s:List Nat)(k:Int):Prop:=∃c v k',φ c v/\IC M c s k'/\k=v+k'
structure MLv (M:eG C)(Good:C->Prop):Prop where
 r7:∀c l d k,Good c->(d,k)∈M.step c l->Good d
 letter:∀c l d k,Good c->(d,k)∈M.step c l->l∈bO
 live:∀c s k,Good c->IC M c s k->M.live c=true
def rE.least {R:C->Int->Prop}{ψ:p9 C}{m:Int}(h:rE M R ψ m){c:C}{t:Int}(hl:M.live c=true)(hr:R c t):∃v,ψ c v/\v+m<=t:=by
 have ht:=h.low c t hl hr;obtain⟨n,h1,h2⟩:=xj (λn=>R c (m+n)) (t-m).toNat (by rw[show m+((t-m).toNat:Int)=t by omega];exact hr);have hn:=h2 (t-m).toNat (by rw[show m+((t-m).toNat:Int)=t by omega];exact hr);refine⟨n,(h.eq c n).2 ⟨hl,by rw[show(n:Int)+m=m+n by omega];exact h1,λu hu=>?_⟩,by omega⟩;have:=h.low c u hl hu;have:=h2 (u-m).toNat (by rw[show m+((u-m).toNat:Int)=u by omega];exact hu);omega
def BK.XV {Good:C->Prop}{Ll:p9 C}{D:DS C}(H:BK M Ll D.aR.length D)(L:MLv M Good)(hg:∀(j:Nat)(ψ:p9 C),D.aR[j]?=some ψ->∀c v,ψ c v->Good c) :
 ∀(s:List Nat)(j:Nat)(ψ:p9 C),D.aR[j]?=some ψ->c9 (VM M ψ s) (cF D.nodes s j)
 |[],j,ψ,hj=>by
  obtain⟨φ,x,a1,a2,a3,a4⟩:=H.done j (qQZ.1 hj).1;rw[hj]at a1;cases a1;unfold cF;rw[a2];show c9 _ (if 0<=x.fin then some x.fin else none);rcases a3 with⟨e,h⟩|⟨h0,⟨c,r,k,h1,h2,h3⟩,h4⟩
  .rw[if_neg (by omega)];rintro k ⟨c,v,k',b1,b2,_⟩;exact h c v k' b1 b2
  .rw[if_pos h0];refine⟨⟨c,r,k,h1,h2,by omega⟩,?_⟩;rintro u ⟨c,v,k',b1,b2,rfl⟩;exact h4 _ ⟨c,v,k',b1,b2,by omega⟩
 |a :: s,j,ψ,hj=>by
  obtain⟨φ,x,a1,a2,a3,a4⟩:=H.done j (qQZ.1 hj).1;rw[hj]at a1;cases a1;unfold cF;cases hs:dC D.nodes j a with
  |none =>
   rintro k ⟨c,v,k',b1,⟨d,e,k2,b2,b3,_⟩,_⟩;have hc:=hg j ψ hj c v b1;rcases a4.all a (L.letter c a d e hc b2) with hd|⟨e',h1,h2⟩
   .have:=hd d (v+e) ⟨c,v,e,b1,b2,rfl⟩;rw[L.live d s k2 (L.r7 c a d e hc b2) b3]at this;cases this
   .have:=iF a2 a4.nq h1;rw[h2,hs]at this;cases this
  |some e =>
   obtain⟨y,hy,hey,hl⟩:=eo hs;rw[a2]at hy;cases hy;obtain⟨_,ψ',c1,c2⟩:=a4.DJ e hey;rw[hl]at c2;have ih:=BK.XV H L hg s e.to ψ' c1
   have low:∀k,VM M ψ (a :: s) k->∃k',VM M ψ' s k'/\k'+e.cost<=k:=by
    rintro k ⟨c,v,k',b1,⟨d,f,k2,b2,b3,rfl⟩,rfl⟩;have hc:=hg j ψ hj c v b1;have hd:=L.r7 c a d f hc b2;obtain⟨v',d1,d2⟩:=c2.least (L.live d s k2 hd b3) ⟨c,v,f,b1,b2,rfl⟩;exact⟨v'+k2,⟨d,v',k2,d1,b3,rfl⟩,by omega⟩
   show c9 _ ((cF D.nodes s e.to).map (·+e.cost));cases hm:cF D.nodes s e.to with
   |none =>
    rw[hm]at ih;intro k hk;obtain⟨k',h1,_⟩:=low k hk;exact ih k' h1
   |some m =>
    rw[hm]at ih;obtain⟨⟨d,v,k',b1,b2,rfl⟩,ih2⟩:=ih;refine⟨(?_:VM M ψ (a :: s) (v+k'+e.cost)),λk hk=>(?_:v+k'+e.cost<=k)⟩
    .obtain⟨_,⟨c0,r,f,g1,g2,g3⟩,_⟩:=(c2.eq d v).1 b1;exact⟨c0,r,f+k',g1,⟨d,f,k',g2,b2,rfl⟩,by omega⟩
    .obtain⟨u,h1,h2⟩:=low k hk;have:=ih2 u h1;omega
def tU.XV {Good:C->Prop}{rk:C->Nat}{bd:C->Int}(R:Y2 M Good rk bd)(L:MLv M Good)(hs:Good M.start)(hb:0<=bd M.start){ns:List aw}(h:tU M (some ns))(s:List Nat):c9 (IC M M.start s) (aF ns 0 s):=by
 cases h with
 |dead hd =>
  have e:aF [⟨[],-1⟩] 0 s=none:=by
   cases s<;>rfl
  rw[e];intro k hk;have:=hd M.start 0 ⟨rfl,rfl⟩;rw[L.live _ s k hs hk]at this;cases this
 |all φ m D hS hr hl =>
  have H:=hr.inv
  have hp:PO M Good bd φ:=by
   obtain⟨c0,h0,h1⟩:=hS.B3;obtain⟨rfl,rfl⟩:=h1;refine⟨⟨M.start,0,(hS.eq _ 0).2 ⟨h0,⟨rfl,rfl⟩,λu hu=>by have:=hu.2;omega⟩⟩,λc v hv=>?_⟩;obtain⟨h1,⟨rfl,h2⟩,_⟩:=(hS.eq c v).1 hv;exact⟨hs,h1,by omega,by omega⟩
  refine(H.XV L (λj ψ hj c v hv=>((H.po R hp j ψ hj).ok c v hv).1) s 0 φ H.first).congr λk=>?_;obtain⟨c0,h0,rfl,rfl⟩:=hS.B3;constructor
  .rintro⟨c,v,k',b1,b2,rfl⟩;obtain⟨_,⟨rfl,h2⟩,_⟩:=(hS.eq c v).1 b1;rw[show v+k'=k' by omega];exact b2
  .intro hk;exact⟨M.start,0,k,(hS.eq _ 0).2 ⟨h0,⟨rfl,rfl⟩,λu hu=>by have:=hu.2;omega⟩,hk,by omega⟩
def MJ {α:Type}[DecidableEq α]:∀(l m:List α),l.Nodup->(∀x,x∈l->x∈m)->l.length<=m.length
 |[],_,_,_=>qZH _
 |x :: l,m,hn,hm=>by
  rw[List.nodup_cons]at hn;have:=MJ l (m.erase x) hn.2 λy hy=>(List.mem_erase_of_ne (λe=>hn.1 (by rw[<-e];exact hy))).2 (hm y (by simp[hy]));have h2:=qWH (hm x (by simp));have h3:=List.length_pos_of_mem (hm x (by simp));simp only[qZK];omega
def XN {α:Type}{P:α->Nat->Prop}{l:List α}{n:Nat}(kv:∀(i j:Nat)(x:α),l[i]?=some x->l[j]?=some x->i=j)(h:∀x,x∈l->∃c,c<n/\P x c)(hi:∀x y c,P x c->P y c->x=y):l.length<=n:=by
 classical
 have h':∀x:α,∃c,x∈l->c<n/\P x c:=λx=>by
  by_cases hx:x∈l
  .obtain⟨c,hc⟩:=h x hx;exact⟨c,λ_=>hc⟩
  .exact⟨0,λqz=>absurd qz hx⟩
 let f:α->Nat:=λx=>(h' x).choose
 have hf:∀x,x∈l->f x<n/\P x (f x):=λx hx=>(h' x).choose_spec hx
 have:=MJ (l.map f) (List.range n) (by
  rw[qVZ,qKB,qVL];intro i j tJ hj dL e;have h1:=hf _ (List.getElem_mem tJ);have h2:=hf _ (List.getElem_mem hj);rw[e]at h1;have:=hi _ _ _ h1.2 h2.2;have:=kv i j l[i] (qQW tJ) (by rw[this];exact qQW hj);omega) λx hx=>by
  obtain⟨y,hy,rfl⟩:=qQB.1 hx;exact qJX.2 (hf y hy).1
 simpa using this
def BK.single {Good:C->Prop}(pL:∀c l d k d' k',Good c->(d,k)∈M.step c l->(d',k')∈M.step c l->d=d'/\k=k')(hgn:∀c l d k,Good c->(d,k)∈M.step c l->Good d)(hs:Good M.start)
 {Ll:p9 C} {m:Int} (hS:rE M (qS M) Ll m) {n:Nat} {D:DS C} (H:BK M Ll n D):∀(j:Nat)(ψ:p9 C),D.aR[j]?=some ψ->∃c,Good c/\ψ=λd v=>d=c/\v=0:=by
 have one:∀{R:C->Int->Prop}{ψ:p9 C}{m:Int},rE M R ψ m->(∀c t d u,R c t->R d u->c=d/\t=u)->∃c,(∃t,R c t)/\ψ=λd v=>d=c/\v=0:=by
  intro R ψ m h hR;obtain⟨c,h1,h2⟩:=h.B3;refine⟨c,⟨m,h2⟩,?_⟩;funext d v;refine propext ((h.eq d v).trans ⟨?_,?_⟩)
  .rintro⟨g1,g2,_⟩;obtain⟨e1,e2⟩:=hR _ _ _ _ g2 h2;exact⟨e1,by omega⟩
  .rintro⟨rfl,rfl⟩;rw[Int.zero_add];exact⟨h1,h2,λu hu=>by have:=(hR _ _ _ _ hu h2).2;omega⟩
 have key:∀(k j:Nat),j<k->∀(ψ:p9 C),D.aR[j]?=some ψ->∃c,Good c/\ψ=λd v=>d=c/\v=0:=by
  intro k
  induction k with
  |zero=>intro j hj;omega
  |succ k ih =>
   intro j hj ψ Ow;by_cases hz:j=0
   .subst hz;rw[H.first] at Ow;cases Ow;obtain⟨c,⟨t,rfl,rfl⟩,e⟩:=one hS (by rintro c t d u ⟨rfl,rfl⟩ ⟨rfl,rfl⟩;exact⟨rfl,rfl⟩);exact⟨_,hs,e⟩
   .obtain⟨p,x,e,a1,a2,a3,a4,a5⟩:=H.LQ j (by omega) (qQZ.1 Ow).1;obtain⟨φ,x',b1,b2,_,b4⟩:=H.done p a1;rw[a3]at b2;cases b2;obtain⟨_,ψ',c1,c2⟩:=b4.DJ e a4;rw[a5,Ow]at c1;cases c1;obtain⟨c,hc,rfl⟩:=ih p (by omega) φ b1
    obtain⟨d,⟨t,c0,r,w,⟨rfl,rfl⟩,g2,g3⟩,he⟩:=one c2 (by
     rintro d t d' u ⟨c0,r,w,⟨rfl,rfl⟩,g2,g3⟩ ⟨c0',r',w',⟨rfl,rfl⟩,g2',g3'⟩;obtain⟨e1,e2⟩:=pL _ _ _ _ _ _ hc g2 g2';exact⟨e1,by omega⟩)
    exact⟨d,hgn _ _ _ _ hc g2,he⟩
 exact λj ψ h=>key (j+1) j (qJA _) ψ h
end
def ft.ex {L:ff}(h0:∀s k,L s=some k->0<=k){s:List Nat}{k:Int}(h:L s=some k):∃m,ft L m/\0<=m:=by
 obtain⟨n,⟨t,ht⟩,h2⟩:=xj (λn=>∃t,L t=some (n:Int)) k.toNat ⟨s,by rw[h];have:=h0 s k h;congr 1;omega⟩;refine⟨n,⟨⟨t,ht⟩,λu j hu=>?_⟩,by omega⟩;have h3:=h0 u j hu;have:=h2 j.toNat ⟨u,by rw[hu];congr 1;omega⟩;omega
def At.BC {L R:ff}{u:List Nat}(h:At L u R){a:Nat}{c:Int}(hm:ft (R.BC a) c):At L (u++[a]) (na (R.BC a) c):=by
 refine .inr ⟨by simp,?_⟩
 have hd:L.Gi (u++[a])=(L.Gi u).BC a:=by
  funext s;show L (u++[a]++s)=L (u++a :: s);rw[qKY];rfl
 rcases h with⟨rfl,rfl⟩|⟨hu,m,E',rfl⟩
 .exact⟨c,hm,rfl⟩
 .have e:(na (L.Gi u) m).BC a=na ((L.Gi u).BC a) m:=rfl;rw[e]at hm ⊢;refine⟨c+m,by rw[hd];exact ft.acS hm,?_⟩;rw[mc,hd,show m+c=c+m by omega]
def At.nn {L R:ff}{u:List Nat}(h0:∀s k,L s=some k->0<=k)(h:At L u R):∀s k,R s=some k->0<=k:=by
 rcases h with⟨_,rfl⟩|⟨_,m,hm,rfl⟩
 .exact h0
 .intro s k hk;have:=hm.2 s _ (ly.1 hk);omega
section
variable{L:ff}{B:aY}
def jZ.top (H:jZ L B):∃Rs:List ff,Rs[0]?=some L/\(∀R,R∈Rs↔Dh L R)/\Rs.Pairwise (oU L)/\B.n=(Rs.length:Int) /\
 (∀x,x∈B.aW↔∃(i j:Nat)(R:ff)(c:Int),Rs[i]?=some R/\ft (R.BC x.l) c/\Rs[j]?=some (na (R.BC x.l) c)/\x=⟨i,j,x.l,c⟩) /\
 (∀x,x∈B.ends↔∃(i:Nat)(R:ff)(f:Int),Rs[i]?=some R/\R []=some f/\x=⟨i,f⟩):=by
 obtain⟨Rs,h1,h2,h3,h4,h5⟩:=H.ex;refine⟨Rs,?_,h1,h2,h3,h4,h5⟩;have hL:L∈Rs:=(h1 L).2 ⟨[],.inl ⟨rfl,rfl⟩⟩;cases Rs with
 |nil=>cases hL
 |cons R0 Rs =>
  rcases qQF.1 hL with e|hL
  .rw[e];rfl
  .exfalso;obtain⟨d,d',g1,g2,g3⟩:=(qVX.1 h2).1 L hL;obtain⟨u,hu⟩:=(h1 R0).1 (by simp);rcases hu with⟨_,rfl⟩|⟨dV,m,hm,rfl⟩
   .have:=(qVX.1 h2).1 _ hL;exact oU.asymm this this
   .obtain⟨s,k,a1,a2⟩:=g1.1;have:=g2.2 (u++s) _ (ly.1 a1);rw[qQM]at this;have:0<u.length:=qVA.2 dV;omega
def O1 {Rs:List ff}(h:Rs.Pairwise (oU L)){i j:Nat}{R:ff}(hi:Rs[i]?=some R)(hj:Rs[j]?=some R):i=j:=by
 obtain⟨h1,h2⟩:=qQZ.1 hi;obtain⟨g1,g2⟩:=qQZ.1 hj;rw[qVL]at h;rcases Nat.lt_trichotomy i j with hl|hl|hl
 .have:=h i j h1 g1 hl;rw[h2,g2]at this;exact(oU.asymm this this).elim
 .exact hl
 .have:=h j i g1 h1 hl;rw[h2,g2]at this;exact(oU.asymm this this).elim
def jZ.acc (H:jZ L B)(h0:∀s k,L s=some k->0<=k)(s:List Nat)(k:Int):Fg B s k↔L s=some k:=by
 obtain⟨Rs,hL,h1,h2,h3,h4,h5⟩:=H.top
 have key:∀(s:List Nat)(i:Nat)(R:ff)(k:Int),Rs[i]?=some R->((∃e,e∈B.ends/\∃k',E9 B.aW i s e.st k'/\k=k'+e.c)↔R s=some k):=by
  intro s
  induction s with
  |nil =>
   intro i R k hi;constructor
   .rintro⟨e,he,k',⟨e1,rfl⟩,rfl⟩;obtain⟨j,R',f,g1,g2,g3⟩:=(h5 e).1 he;subst g3;have:i=j:=Int.ofNat.inj e1;subst this;rw[hi]at g1;cases g1;rw[g2];congr 1;simp
   .intro hk;exact⟨⟨i,k⟩,(h5 _).2 ⟨i,R,k,hi,hk,rfl⟩,0,⟨rfl,rfl⟩,by simp⟩
  |cons a s ih =>
   intro i R k hi;constructor
   .rintro⟨e,he,k',⟨x,hx,e1,rfl,k2,hr,rfl⟩,rfl⟩;obtain⟨i',j,R',c,g1,g2,g3,g4⟩:=(h4 x).1 hx;have ei:i'=i:=by rw[g4]at e1;exact Int.ofNat.inj e1
    subst ei;rw[hi]at g1;cases g1;have et:x.to=(j:Int):=by rw[g4]
    have ec:x.c=c:=by rw[g4]
    rw[et]at hr;have:=(ih j _ (k2+e.c) g3).1 ⟨e,he,k2,hr,rfl⟩;have:=ly.1 this;show R (x.l :: s)=_;rw[show R (x.l :: s)=R.BC x.l s from rfl,this,ec];congr 1;omega
   .intro hk;obtain⟨u,hu⟩:=(h1 R).1 (qQK hi);obtain⟨c,hc,_⟩:=ft.ex (L:=R.BC a) (λt j ht=>hu.nn h0 (a :: t) j ht) (s:=s) (k:=k) hk;obtain⟨j,hj⟩:=qQL.1 ((h1 _).2 ⟨u++[a],hu.BC hc⟩);obtain⟨e,he,k',hr,e2⟩:=(ih j _ (k-c) hj).2 (ly.2 (by rw[show k-c+c=k by omega];exact hk));exact⟨e,he,c+k',⟨⟨i,j,a,c⟩,(h4 _).2 ⟨i,j,R,c,hi,hc,hj,rfl⟩,rfl,rfl,k',hr,rfl⟩,by omega⟩
 have:=key s 0 L k hL;unfold Fg;exact this
def jZ.det (H:jZ L B){x y:dH}(hx:x∈B.aW)(hy:y∈B.aW)(e1:x.fr=y.fr)(e2:x.l=y.l):x=y:=by
 obtain⟨Rs,hL,h1,h2,h3,h4,h5⟩:=H.top;obtain⟨i,j,R,c,a1,a2,a3,a4⟩:=(h4 x).1 hx;obtain⟨i',j',R',c',b1,b2,b3,b4⟩:=(h4 y).1 hy;have hi:i=i':=by rw[a4,b4]at e1;exact Int.ofNat.inj e1
 subst hi;rw[a1]at b1;cases b1;rw[<-e2]at b2 b3 b4;obtain rfl:=a2.uniq b2;obtain rfl:=O1 h2 a3 b3;rw[a4,b4]
end
def II {A:aY}(hA:fH A.n A.aW)(hE:gK A.n A.ends):∀(s:List Nat)(q k:Int),0<=q->(IC (xH A false) q s k↔∃e,e∈A.ends/\∃k',E9 A.aW q s e.st k'/\k=k'+e.c)
 |[],q,k,hq=>by
  have e:IC (xH A false) q [] k=((if bm A.ends q.toNat<0 then none else some (bm A.ends q.toNat))=some k):=rfl;rw[e];rcases sY hE q.toNat with⟨h1,h2⟩|⟨h1,_,x,g1,g2,g3,g4⟩
  .rw[if_pos (by omega)];refine⟨(λh=>by cases h),?_⟩;rintro⟨x,hx,k',⟨e1,_⟩,_⟩;exact absurd (by omega) (h2 x hx)
  .rw[if_neg (by omega)];constructor
   .intro h;cases h;exact⟨x,g1,0,⟨by omega,rfl⟩,by omega⟩
   .rintro⟨y,hy,k',⟨e1,rfl⟩,rfl⟩;obtain rfl:=g4 y hy (by omega);rw[<-g3];congr 1;omega
 |a :: s,q,k,hq=>by
  have e:∀d w,(d,w)∈(xH A false).step q a↔∃x,x∈A.aW/\x.fr=q/\x.l=a/\d=x.to/\w=x.c:=by
   intro d w;show(d,w)∈((cp A q.toNat).filter λx=>decide (x.l=a)).map (λx=>(x.to,if false=true then(0:Int) else x.c))↔_;rw[qQB];constructor
   .rintro⟨x,hx,e⟩;cases e;obtain⟨h1,h2⟩:=qZM.1 hx;obtain⟨h3,h4⟩:=pP.1 h1;exact⟨x,h3,by omega,by simpa using h2,rfl,rfl⟩
   .rintro⟨x,h1,h2,h3,rfl,rfl⟩;exact⟨x,qZM.2 ⟨pP.2 ⟨h1,by omega⟩,by simpa using h3⟩,rfl⟩
  constructor
  .rintro⟨d,w,k',h1,h2,rfl⟩;obtain⟨x,g1,g2,g3,rfl,rfl⟩:=(e d w).1 h1;have hk:=pn hA g1;obtain⟨f,hf,k2,hr,rfl⟩:=(II hA hE s x.to k' (by unfold kY at hk;omega)).1 h2;exact⟨f,hf,x.c+k2,⟨x,g1,g2,g3,k2,hr,rfl⟩,by omega⟩
  .rintro⟨f,hf,k',⟨x,g1,g2,g3,k2,hr,rfl⟩,rfl⟩;have hk:=pn hA g1;exact⟨x.to,x.c,k2+f.c,(e _ _).2 ⟨x,g1,g2,g3,rfl,rfl⟩,(II hA hE s x.to _ (by unfold kY at hk;omega)).2 ⟨f,hf,k2,hr,rfl⟩,by omega⟩
section
variable{A:aY}{n:Nat}
def Yk (an:A.n=(n:Int))(hA:fH A.n A.aW)(hE:gK A.n A.ends):MLv (xH A false) (λc=>0<=c/\c<(n:Int)) where
 r7 c l d k hc hm:=by
  obtain⟨x,hx,e⟩:=qQB.1 (show(d,k)∈((cp A c.toNat).filter λx=>decide (x.l=l)).map λx=>(x.to,if false=true then(0:Int) else x.c) from hm);cases e;obtain⟨h1,h2⟩:=iw hA (qZM.1 hx).1;unfold kY at h1;exact⟨by omega,by omega⟩
 letter c l d k hc hm:=by
  obtain⟨x,hx,e⟩:=qQB.1 (show(d,k)∈((cp A c.toNat).filter λx=>decide (x.l=l)).map λx=>(x.to,if false=true then(0:Int) else x.c) from hm);obtain⟨h3,h4⟩:=qZM.1 hx;obtain⟨h1,h2⟩:=iw hA h3;have:x.l=l:=by simpa using h4
  rw[<-this];exact Mi h1.2.2.2.1
 live:=by
  classical
  have key:∀(s:List Nat)(q k:Int),0<=q->IC (xH A false) q s k->Live A q.toNat:=by
   intro s
   induction s with
   |nil =>
    intro q k hq h;have h:(if bm A.ends q.toNat<0 then none else some (if false=true then(0:Int) else bm A.ends q.toNat))=some k:=h;split at h
    .cases h
    .exact .fin _ (by omega)
   |cons a s ih =>
    rintro q k hq ⟨d,e,k',hm,hr,_⟩;obtain⟨x,hx,e⟩:=qQB.1 (show(d,e)∈((cp A q.toNat).filter λx=>decide (x.l=a)).map λx=>(x.to,if false=true then(0:Int) else x.c) from hm);cases e;obtain⟨h3,h4⟩:=qZM.1 hx;obtain⟨h1,h2⟩:=iw hA h3;unfold kY at h1;exact .uM _ x.to.toNat x h3 (by omega) (ih x.to k' (by omega) hr)
  intro c s k hc h;show decide (Live A c.toNat)=true;simpa using key s c k hc.1 h
def DI (hz:bH A=0){ns:List aw}(h:tU (xH A false) (some ns))(s:List Nat):c9 (Fg A s) (aF ns 0 s):=by
 obtain⟨n,hn,n1,n4,l4,e4,hP,hE⟩:=gf hz;refine(h.XV (EN hn n4 hP hE) (Yk hn hP hE) ⟨qKV 0,by show(0:Int)<_;omega⟩ (by show(0:Int)<=0*1000000;omega) s).congr λk=>?_;exact II hP hE s 0 k (qKV 0)
def Sh (hz:bH A=0){ns:List aw}(h:tU (xH A false) (some ns))(s:List Nat)(k:Int)(hk:aF ns 0 s=some k):0<=k:=by
 obtain⟨n,hn,n1,n4,l4,e4,hP,hE⟩:=gf hz;have:=DI hz h s;rw[hk]at this;obtain⟨e,he,k',hr,rfl⟩:=this.1;have h1:=E9.bound hP hr;have h2:=wT hE he;unfold Gk at h2;omega
def qV.RU {B:aY}(hz:bH A=0)(h:qV (xH A false) B 0)(s:List Nat):tC A s=tC B s:=by
 cases h with
 |ok ns _ hD hG hF Z' =>
  have h1:=DI hz hD s;rw[zQ h1];refine(zQ ?_).symm;have h2:=hF.acc (Sh hz hD) s;cases hl:aF ns 0 s with
  |none=>exact λk hk=>by rw[(h2 k).1 hk]at hl;cases hl
  |some m=>exact⟨(h2 m).2 hl,λk hk=>by rw[(h2 k).1 hk]at hl;cases hl;exact qKV _⟩
def qV.again {B C:aY}{k:Int}(hz:bH A=0)(h:qV (xH A false) B 0)(g:qV (xH B false) C k):C=B/\k=0:=by
 cases h with
 |ok ns _ hD hG hF Z' =>
  have same:∀ms,tU (xH B false) (some ms)->aF ms 0=aF ns 0:=λms hm=>by
   funext s;refine(DI Z' hm s).uniq ?_;have h2:=hF.acc (Sh hz hD) s;cases hl:aF ns 0 s with
   |none=>exact λk hk=>by rw[(h2 k).1 hk]at hl;cases hl
   |some m=>exact⟨(h2 m).2 hl,λk hk=>by rw[(h2 k).1 hk]at hl;cases hl;exact qKV _⟩
  cases g with
  |ok ms _ hDm hGm hFm hzC =>
   rw[same ms hDm]at hFm;exact⟨hFm.uniq hF,rfl⟩
  |big ms C' hDm hGm hFm hzC =>
   rw[same ms hDm]at hFm;exact absurd Z' (by rw[<-hFm.uniq hF];exact hzC)
  |many hDm =>
   exfalso;obtain⟨n,hn,n1,n4,l4,e4,hP,hE⟩:=gf Z';cases hDm with
   |full φ m j D hS hr hj hl =>
    have H:=hr.inv;have M:=EN (free:=false) hn n4 hP hE
    have wG:∀(c:Int)(l:Nat)(d k d' k':Int),(0<=c/\c<(n:Int))->(d,k)∈(xH B false).step c l->(d',k')∈(xH B false).step c l->d=d'/\k=k':=by
     intro c l d k d' k' hc h1 h2;obtain⟨x,hx,e⟩:=qQB.1 (show(d,k)∈((cp B c.toNat).filter λx=>decide (x.l=l)).map λx=>(x.to,if false=true then(0:Int) else x.c) from h1);obtain⟨y,hy,e'⟩:=qQB.1 (show(d',k')∈((cp B c.toNat).filter λx=>decide (x.l=l)).map λx=>(x.to,if false=true then(0:Int) else x.c) from h2);obtain⟨h3,h4⟩:=qZM.1 hx;obtain⟨h5,h6⟩:=qZM.1 hy;obtain⟨a1,a2⟩:=pP.1 h3;obtain⟨b1,b2⟩:=pP.1 h5;have:x=y:=hF.det a1 b1 (by rw[a2,b2]) (by simp at h4 h6;rw[h4,h6]);subst this;cases e;cases e';exact⟨rfl,rfl⟩
    have hs:=H.single wG M.r7 (show 0<=(0:Int)/\(0:Int)<(n:Int) from⟨qKV 0,by omega⟩) hS
    have:=XN (P:=λ(ψ:p9 Int) c=>ψ=λd v=>d=(c:Int)/\v=0) H.nd (n:=n) (λψ Ow=>by
     obtain⟨i,hi⟩:=qQL.1 Ow;obtain⟨c,hc,e⟩:=hs i ψ hi;exact⟨c.toNat,by omega,by rw[e,show((c.toNat:Nat):Int)=c by omega]⟩) λx y c h1 h2=>h1.trans h2.symm
    omega
end
def LF (A:aY)(v:ae)(s:List Nat)(h:aa)(H:fY h v A)(hs:s.length<=9223372036854775807):Nc Tryz.prog 15 [v,.str s] h λu h'=>u=nK A s/\h'=h:=by
 obtain⟨h1,h2⟩:=WN _ _ _ _ (RT H hs);exact⟨h1,λK W0 ρ w args' ha hw=>(h2 K W0 ρ w args' ha hw).mono λe w' he=>⟨_,_,⟨rfl,rfl⟩,he⟩⟩
def adt (A B:aY)(v w:ae)(s:List Nat)(h:aa)(HA:fY h v A)(HB:fY h w B)(hs:s.length<=9223372036854775807):Nc Tryz.prog 9 [v,w,.str s] h λr h'=>aU h h'/\(bH A=0->bH B=0->tC A s=tC B s->r=.bool true):=by
 refine Nc.qJ kr call2 (λm n=>iS kr (call2 m n)) (fn:=Tryz.f9) (by kernel_rfl) (by kernel_rfl) RQ ?_;unfold Zr;obtain⟨va,ve,rfl,ha,he,Oj,GH⟩:=id HA;obtain⟨wa,we,rfl,hb,hf,GF,Mb⟩:=id HB;have vaf:=cg.flat ha;have vef:=cg.flat he;have waf:=cg.flat hb;have wef:=cg.flat hf;have gA:((h.push (.cells [.int .i64 A.n,va,ve] 25)).push (.cells [.int .i64 B.n,wa,we] 25)).get h.next=some (.cells [.int .i64 A.n,va,ve] 25):=(aa.aA _ _ (by show h.next+1≠_;omega)).trans (aa.ai _ _);have gB:((h.push (.cells [.int .i64 A.n,va,ve] 25)).push (.cells [.int .i64 B.n,wa,we] 25)).get (h.next+1)=some (.cells [.int .i64 B.n,wa,we] 25):=aa.ai _ _;have aS:aU h ((h.push (.cells [.int .i64 A.n,va,ve] 25)).push (.cells [.int .i64 B.n,wa,we] 25)):=((aU.refl h).push _).push _;have lA:eI ((h.push (.cells [.int .i64 A.n,va,ve] 25)).push (.cells [.int .i64 B.n,wa,we] 25)) h.next 0 3=some [.int .i64 A.n,va,ve]:=by rw[bX gA (by simp)];rfl
 have lB:eI ((h.push (.cells [.int .i64 A.n,va,ve] 25)).push (.cells [.int .i64 B.n,wa,we] 25)) (h.next+1) 0 3=some [.int .i64 B.n,wa,we]:=by rw[bX gB (by simp)];rfl
 simp only[go_sem,Nat.reduceEqDiff,Nat.reduceAdd,reduceCtorEq,lA];generalize ((h.push (.cells [.int .i64 A.n,va,ve] 25)).push (.cells [.int .i64 B.n,wa,we] 25))=h2 at gA gB aS lA lB ⊢;refine⟨by decide,?_⟩;refine(LF A _ s h2 (HA.mono aS) hs).mono ?_;rintro r h3 ⟨rfl,rfl⟩;obtain⟨a1,a2,ea⟩:∃a1 a2,nK A s=.eC [.int .i64 a1,.bool a2]:=by unfold nK;split<;>exact⟨_,_,rfl⟩
 obtain⟨b1,b2,eb⟩:∃b1 b2,nK B s=.eC [.int .i64 b1,.bool b2]:=by unfold nK;split<;>exact⟨_,_,rfl⟩
 have heq:bH A=0->bH B=0->tC A s=tC B s->a1=b1/\a2=b2:=λh1 h2 h3=>by
  unfold nK at ea eb;rw[if_pos h1]at ea;rw[if_pos h2,<-h3]at eb;rw[ea]at eb;simp only[ae.eC.injEq,qJV,ae.int.injEq,ae.bool.injEq,true_and,and_true]at eb;exact eb
 rw[ea];simp only[go_sem,Nat.reduceEqDiff,reduceCtorEq,lB];refine⟨by decide,?_⟩;refine(LF B _ s h3 (HB.mono aS) hs).mono ?_;rintro r h4 ⟨rfl,rfl⟩;rw[eb];have hbe:kZ .eql .bool (.bool a2) (.bool b2)=some (.bool (a2 == b2)):=by cases a2<;>cases b2<;>rfl
 by_cases h1:a1=b1
 .simp only[go_sem,Nat.reduceEqDiff,reduceCtorEq,h1,hbe];exact⟨aS,λz1 z2 z3=>by obtain⟨_,rfl⟩:=heq z1 z2 z3;simp⟩
 .simp only[go_sem,Nat.reduceEqDiff,reduceCtorEq,h1];exact⟨aS,λz1 z2 z3=>absurd (heq z1 z2 z3).1 h1⟩
def M6 {elem e:TypeId}{size n b m:Nat}{x:ae}{l new:List ae}{h:aa}{K:ae->aa->Prop}(hg:h.get b=some (.cells l e))(hl:l.length=m*size)(hs:fS h size x=some (n,new))(hn:n≠0)(uo:m+n<=1073741824)
 (hK:K (.slice h.next 0 (m+n) (m+n) false) (h.push (.cells (l++new) elem))):uX elem size (.slice b 0 m m true) x h K:=by
 unfold uX I.append;have e1:aJ (.c x) .nil=x:=rfl;have e2:aJ (.c (.slice b 0 m m true)) .nil=.slice b 0 m m true:=rfl;rw[e1,e2,hs];show cR (aO (Nat.beq n 0) _ _) _;rw[bq,if_neg (by simpa using hn)]
 show cR (eJ (h.get b) λfL e own=>aO (and (Nat.ble (Nat.add m n) 1073741824) (and (Nat.ble (Nat.add 0 (Nat.mul m size)) (cJ fL)) (yk own (bD (Nat.mul m size) (bG 0 fL)))))
     (aO (Nat.ble (Nat.add m n) m)
        (aO (and own (Nat.ble (Nat.add 0 (Nat.mul (Nat.add m n) size)) (cJ fL))) (some (ae.slice b 0 (Nat.add m n) m true,h.put b (.cells (over fL (Nat.add 0 (Nat.mul m size)) new) e))) none)
        (some (ae.slice h.next 0 (Nat.add m n) (Nat.add m n) false,h.push (.cells (gd (bD (Nat.mul m size) (bG 0 fL)) new) elem)))) none) _
 rw[hg]
 show cR (aO (and (Nat.ble (Nat.add m n) 1073741824) (and (Nat.ble (Nat.add 0 (Nat.mul m size)) (cJ l)) true))
     (aO (Nat.ble (Nat.add m n) m)
        (aO (and true (Nat.ble (Nat.add 0 (Nat.mul (Nat.add m n) size)) (cJ l))) (some (ae.slice b 0 (Nat.add m n) m true,h.put b (.cells (over l (Nat.add 0 (Nat.mul m size)) new) e))) none)
        (some (ae.slice h.next 0 (Nat.add m n) (Nat.add m n) false,h.push (.cells (gd (bD (Nat.mul m size) (bG 0 l)) new) elem)))) none) _
 have hmul:m*size=l.length:=hl.symm
 rw[bq,if_pos (by
  simp only[qZQ,qZB,bV,and_true];exact⟨by show m+n<=_;omega,by show 0+m*size<=_;omega⟩),bq,if_neg (by
  simp only[qZB];show ¬m+n<=m;omega)]
 have e3:gd (bD (Nat.mul m size) (bG 0 l)) new=l++new:=by
  rw[gQ,cW,df];have:Nat.mul m size=l.length:=hmul;rw[this];simp
 rw[e3];exact hK
def yw (h:aa)(v:ae)(ts:List (List Nat)):Prop:=(∃b s,v=.slice b 0 1 1 true/\ts=[s]/\b<h.next/\h.get b=some (.cells [.str s] 9))\/dO h 1 9 v (ts.map ae.str)
def yw.rm {h:aa}{v:ae}{ts:List (List Nat)}(H:yw h v ts){b:Nat}(hb:aM v b):b<h.next:=by
 rcases H with⟨b',s,rfl,_,h1,_⟩|H
 .obtain⟨_,_,_,_,e⟩:=hb;cases e;exact h1
 .exact H.rm hb
def yw.frame {h h':aa}{v:ae}{ts:List (List Nat)}(H:yw h v ts)(hn:h.next<=h'.next)(hg:∀b,aM v b->h'.get b=h.get b):yw h' v ts:=by
 rcases H with⟨b',s,rfl,h0,h1,h2⟩|H
 .exact .inl ⟨b',s,rfl,h0,by omega,(hg b' ⟨_,_,_,_,rfl⟩).trans h2⟩
 .exact .inr (H.frame hn hg)
def yw.sl {h:aa}{v:ae}{ts:List (List Nat)}(H:yw h v ts):cg h 1 v (ts.map λt=>[.str t]):=by
 rcases H with⟨b',s,rfl,rfl,h1,h2⟩|H
 .exact⟨by simp,.inr ⟨b',0,1,true,rfl,.inr (by simpa using fP.ed h1 h2 (by simp[ae.flat]))⟩⟩
 .have e:ts.map ae.str=(ts.map λt=>[ae.str t]).flatten:=by
   induction ts with
   |nil=>rfl
   |cons t ts ih =>
    have:=ih;rw[qZW,qZW,qZA];clear ih this H
    induction ts with
    |nil=>rfl
    |cons u us ih=>simp at ih ⊢;exact ih
  rw[e] at H;exact H.cg (λx hx=>by obtain⟨a,_,rfl⟩:=qQB.1 hx;rfl) (by decide) (by rw[<-e];intro x hx;obtain⟨a,_,rfl⟩:=qQB.1 hx;rfl)
def yw.app {h:aa}{v x:ae}{ts:List (List Nat)}{t:List Nat}{K:ae->aa->Prop}(H:yw h v ts)(hs:fS h 1 x=some (1,[.str t]))(hm:ts.length<=100000000)
 (hK:∀v' h',yw h' v' (ts++[t])->h'.next=h.next+1->(∀b,b<h.next->¬aM v b->h'.get b=h.get b)->(∀b,aM v' b->b=h.next)->K v' h'):uX 9 1 v x h K:=by
 rcases H with⟨b,s,rfl,rfl,h1,h2⟩|H
 .refine M6 h2 rfl hs (by decide) (by decide) ?_;exact hK _ _ (.inr (.inr ⟨h.next,2,rfl,by simp[aa.bI],aa.ai _ _,rfl⟩)) rfl (λb hb _=>aa.aA _ _ (by omega)) λb hb=>by obtain⟨_,_,_,_,e⟩:=hb;cases e;rfl
 .refine kd H hs (by decide) rfl (by decide) (by rw[qQD];omega) λv' h' ho hn hg hb=>?_;exact hK v' h' (.inr (by rw[qJW];exact ho)) hn hg λb vC=>fu hb vC
end
end Go.AX
