/-
  The executor over abstract heaps and its soundness, for the lemmas that the card needs; no conditions but those that each lemma names.
-/
import Derived.Test.YtfdnpjbmhoapcaaGreatDoorNaa2
import Derived.OwnWalkIn
import Derived.RangeFuncIn
import Derived.RangeFuncRecord
import Derived.RangeFuncLeaves
import Derived.LoopNIn
set_option linter.all false
set_option maxHeartbeats 32000000
namespace Go.AX
open Go.RowKit
section
variable{E:Env}{P:Program}[Lay P]{K:cu}{W0:World}{ρ:Ren}{w:World}{ao:b9}{base n:Nat}{pre:Array Nat}{cops:List aQ}{l:List aP}{ez:Fr}{h0:aa}
def rD (E:Env)(ao:b9)(base:Nat)(l:List aP)(ez:Fr)(h0:aa)(t:aP)(ob:aE):Prop :=
 ∃L R dM h1 v,l=L++t :: R/\bC E ao base L ez h0=some (dM,h1)/\eA E ao t.o dM ⟨base+t.i,h1.t⟩=some (v,aa.push ⟨base+t.i,h1.t⟩ ob)/\ob.own
structure HR (E:Env)(P:Program)[Lay P](ao:b9)(base n:Nat)(l:List aP)(ez:Fr)(h0:aa)(K:cu)(W0:World)(R:List aP)(D:Nat->Prop)(ρ:Ren)(hB:aa)(w:World):Prop where
 wr:WR P K W0 ρ hB w
 nx:base+n<=hB.next
 g1:∀t,t∈R->t.cls=.new->D t.i->∀r,ρ (base+t.i)=some r->r.b<w.heap.size/\¬K r.b/\(∀m p s,hB.get m=some p->p.live->ρ m=some s->s.b≠r.b) /\
  ∀u,u∈R->u.cls=.new->D u.i->u.i≠t.i->∀s,ρ (base+u.i)=some s->s.b≠r.b
 g2:∀t,t∈R->t.cls=.new->D t.i->∀ob,rD E ao base l ez h0 t ob->∃r,ρ (base+t.i)=some r/\pj P ρ r ob (w.heap[r.b]?)
 g3:∀t,t∈R->t.cls=.new->¬D t.i->ρ (base+t.i)=none
 g4:∀t,t∈R->t.cls=.new->D t.i->(∀ob,¬rD E ao base l ez h0 t ob)->ρ (base+t.i)=none
def zl (hP:gE pre cops n l){L R:List aP}{t:aP}{D:Nat->Prop}(e:l=L++t :: R){dM:Fr}{h1:aa}(hL:bC E ao base L ez h0=some (dM,h1))(H:HR E P ao base n l ez h0 K W0 (t :: R) D ρ h1 w)
 {iA:Fr} {h2:aa} (hs:oq E ao base t dM h1=some (iA,h2)) (hw:t.cls≠.wr) (hD:t.cls=.new->D t.i):HR E P ao base n l ez h0 K W0 R D ρ h2 w:=by
 have nQ:t∈l:=by rw[e];simp
 have lM:=(hP.at nQ).2
 have same:h2=h1->HR E P ao base n l ez h0 K W0 R D ρ h2 w:=by
  rintro rfl
  exact⟨H.wr,H.nx,λu hu hc hd r hr=>let⟨a,b,c,d⟩:=H.g1 u (qZZ _ hu) hc hd r hr;⟨a,b,c,λx hx=>d x (qZZ _ hx)⟩,
   λu hu=>H.g2 u (qZZ _ hu),λu hu=>H.g3 u (qZZ _ hu),λu hu=>H.g4 u (qZZ _ hu)⟩
 obtain⟨v,hO,ef,iK⟩:=ij hs;rcases iK with⟨hc,hr,rfl⟩|⟨hc,hr,rfl⟩|⟨hc,_⟩
 .rcases hc with hc|hc
  .exact same (uK (by rw[<-lM];exact hc) hr).1
  .exact same (uL (by rw[<-lM];exact hc) hr)
 .rcases xM (by rw[<-lM];exact hc) hr with⟨_,_,rfl⟩|⟨_,_,ob,rfl,rp⟩
  .exact same rfl
  .have hd:=hD hc;have DV:rD E ao base l ez h0 t ob:=⟨L,R,dM,h1,v,e,hL,hr,rp⟩;obtain⟨r,rf,se⟩:=H.g2 t (by simp) hc hd ob DV;obtain⟨a1,a2,a3,a4⟩:=H.g1 t (by simp) hc hd r rf;have jx:∀m,m≠base+t.i->(⟨h1.next,(aa.push ⟨base+t.i,h1.t⟩ ob).t⟩:aa).get m=h1.get m:=λm hm=>T.cY _ _ (Ne.symm hm);have lU:(⟨h1.next,(aa.push ⟨base+t.i,h1.t⟩ ob).t⟩:aa).get (base+t.i)=some ob:=T.get_set_same _ _ _;refine⟨H.wr.aaE rf lU jx rfl a2 a3 se,H.nx,λu hu pd CI s ar=>?_,λu hu=>H.g2 u (qZZ _ hu),λu hu=>H.g3 u (qZZ _ hu),λu hu=>H.g4 u (qZZ _ hu)⟩;obtain⟨b1,b2,b3,b4⟩:=H.g1 u (qZZ _ hu) pd CI s ar;refine⟨b1,b2,λm p q hm hl hq=>?_,λx hx=>b4 x (qZZ _ hx)⟩;by_cases em:m=base+t.i
   .subst em;exact b4 t (by simp) hc hd (Ne.symm (hP.behind e hu)) q hq
   .rw[jx m em]at hm;exact b3 m p q hm hl hq
 .exact absurd hc hw
def xT (hP:gE pre cops n l){R:List aP}{D:Nat->Prop}:∀(M L:List aP),l=L++(M++R)->∀{dM:Fr}{h1:aa},bC E ao base L ez h0=some (dM,h1)->HR E P ao base n l ez h0 K W0 (M++R) D ρ h1 w ->
 ∀{iA:Fr}{h2:aa},bC E ao base M dM h1=some (iA,h2)->(∀t,t∈M->t.cls≠.wr)->(∀t,t∈M->t.cls=.new->D t.i)->HR E P ao base n l ez h0 K W0 R D ρ h2 w:=by
 intro M
 induction M with
 |nil=>intro L e dM h1 hL H iA h2 hs _ _;cases hs;exact H
 |cons t M ih =>
  intro L e dM h1 hL H iA h2 hs hw hD;rw[dU,av]at hs;obtain⟨⟨f,hh⟩,tw,hs⟩:=hs;have H1:=zl hP (by simpa using e) hL H tw (hw t (by simp)) (hD t (by simp));have hL':bC E ao base (L++[t]) ez h0=some (f,hh):=by rw[gJ hL,dU,tw];rfl
  exact ih (L++[t]) (by rw[e];simp) hL' H1 hs (λu hu=>hw u (qZZ _ hu)) (λu hu=>hD u (qZZ _ hu))
end
def CD (acc:Array Nat)(j:Nat):∀(es:List Edge)(s:Nat),s.testBit j=true\/(∃e,e∈es/\Region.binds .any e=true/\e.on=j) ->
 (es.foldl (λs e=>if Region.binds .any e then s ||| 2 ^ e.on ||| acc.getD e.on 0 else s) s).testBit j=true
 |[],s,h=>by
  rcases h with h|⟨e,he,_⟩
  .exact h
  .cases he
 |e :: es,s,h=>by
  rw[List.foldl_cons];refine CD acc j es _ ?_;rcases h with h|⟨e',he,hb,hj⟩
  .left;split
   .rw[Nat.testBit_or,fm,h];rfl
   .exact h
  .rcases qQF.1 he with rfl|he
   .left;rw[if_pos hb,Nat.testBit_or,fm,hj];simp
   .exact .inr ⟨e',he,hb,hj⟩
def Fv {ops:Array Oper}{i:Nat}{o:Oper}(ho:ops[i]?=some o){e:Edge}(he:e∈o.after)(hb:Region.binds .any e=true):((Region.before ops).getD i 0).testBit e.on=true:=by
 have hl:ops.toList[i]?=some o:=by simpa using ho
 obtain⟨hi,hio⟩:=qQZ.1 hl
 have oI:ops.toList=ops.toList.take i++o :: ops.toList.drop (i+1):=by
  rw[<-hio,List.getElem_cons_drop,List.take_append_drop]
 have hlen:(ops.toList.take i).length=i:=by rw[qWL];omega
 have jG:(Region.before ops).getD i 0=Dr (mB #[] (ops.toList.take i)) o:=by
  rw[wM,oI,rI];show(mB ((mB #[] (ops.toList.take i)).push (Dr (mB #[] (ops.toList.take i)) o)) (ops.toList.drop (i+1))).getD i 0=_;have hs:(mB #[] (ops.toList.take i)).size=i:=by rw[sV,hlen];simp
  rw[sU _ _ _ (by simp[hs])];rw[<-oI,qZV,qKW,if_pos hs.symm];rfl
 rw[jG];unfold Dr;rw[<-Array.foldl_toList];exact CD _ _ _ _ (.inr ⟨e,by simpa using he,hb,rfl⟩)
section
variable{E:Env}{P:Program}[Lay P]{K:cu}{W0:World}{ρ:Ren}{w:World}{ao:b9}{base n nt:Nat}{ops:Array Oper}{pre:Array Nat}{cops:List aQ}{l:List aP}{ez bP:Fr}{h0 h':aa}
def Pt (yL:pre=Region.before ops)(hn:n=ops.size)(hP:gE pre cops n l)(dL:∀t,t∈l->t.i<n){listed:Array Bool}(kF:listed.size=n)(hr:Region.ready .any ops listed=[]):∀j,j<n->listed.getD j false=true:=by
 have key:∀(R L:List aP),l=L++R->(∀t,t∈L->listed.getD t.i false=true)->∀t,t∈l->listed.getD t.i false=true:=by
  intro R
  induction R with
  |nil=>intro L e h t ht;exact h t (by rw[e]at ht;simpa using ht)
  |cons s R ih =>
   intro L e h;refine ih (L++[s]) (by rw[e];simp) λt ht=>?_;rcases qQE.1 ht with ht|ht
   .exact h t ht
   .simp at ht;subst ht;have kN:=hP.ok L t R e;have hti:=dL t (by rw[e];simp);cases hb:listed.getD t.i false with
    |true=>rfl
    |false =>
     exfalso;have ho:∃o,ops[t.i]?=some o:=⟨ops[t.i]'(by omega),qJG (by omega)⟩;obtain⟨o,ho⟩:=ho
     have eE:t.i∈Region.ready .any ops listed:=by
      refine mem_ready.2 ⟨?_,o,ho,λe' mQ vC=>?_⟩
      .have ab2:t.i<listed.size:=by omega
       rw[qZV,qJG ab2]at hb ⊢;exact hb
      .obtain⟨u,hu,hui⟩:=kN.prd e'.on (by rw[yL];exact Fv ho mQ vC);rw[<-hui];exact h u hu
     rw[hr]at eE;cases eE
 intro j hj;obtain⟨t,ht,rfl⟩:=hP.all j hj;exact key l [] (by simp) (λt ht=>by cases ht) t ht
def Hm {α β:Type}{f:α->Option β}:∀{xs:List α}{ys:List β},xs.mapM f=some ys->∀{i:Nat}{x:α},xs[i]?=some x->∃y,ys[i]?=some y/\f x=some y
 |[],ys,h,i,x,hx=>by simp at hx
 |a :: xs,ys,h,i,x,hx=>by
  simp only[qZF,qQV,qQQ]at h;obtain⟨y,h1,ys',h2,h3⟩:=h;cases h3;cases i with
  |zero=>simp at hx;subst hx;exact⟨y,rfl,h1⟩
  |succ i=>simp at hx ⊢;exact Hm h2 hx
def mapM_length {α β:Type}{f:α->Option β}:∀{xs:List α}{ys:List β},xs.mapM f=some ys->ys.length=xs.length
 |[],ys,h=>by simp at h;subst h;rfl
 |a :: xs,ys,h=>by
  simp only[qZF,qQV,qQQ]at h;obtain⟨y,h1,ys',h2,h3⟩:=h;cases h3;simp[mapM_length h2]
def FrD (l:List aP)(ez bP:Fr)(D:Nat->Prop)(fr:Fr):Prop :=
 ∀d,((∃t,t∈l/\D t.i/\t.o.dst=some d)->fr.get d=bP.get d)/\((¬∃t,t∈l/\D t.i/\t.o.dst=some d)->fr.get d=ez.get d)
def Yz (hP:gE pre cops n l){L R:List aP}{t:aP}(e:l=L++t :: R){dM:Fr}{h1:aa}(hL:bC E ao base L ez h0=some (dM,h1))(hR:bC E ao base (t :: R) dM h1=some (bP,h'))
 {D:Nat->Prop} (hD:∀j,(pre.getD t.i 0).testBit j=true->D j) (Md:¬D t.i) (kM:∀k,D k->∀j,(pre.getD k 0).testBit j=true->D j) {lk:Fr} (hf:FrD l ez bP D lk):Dj t.o dM lk:=by
 have nQ:t∈l:=by rw[e];simp
 intro d hd;obtain⟨p1,p2⟩:=su hP e hL hR d;obtain⟨q1,q2⟩:=hf d;by_cases hw:∃u,u∈L/\u.o.dst=some d
 .obtain⟨u,hu,BD⟩:=hw;have J':u∈l:=by rw[e];simp[hu]
  rw[p1 ⟨u,hu,BD⟩]
  symm
  refine q1 ⟨u,J',?_,BD⟩;rcases hP.look t u nQ J' d hd BD with h|⟨h,_⟩
  .exact hD _ h
  .exfalso;obtain⟨L1,L2,eL⟩:=jn hu;have kN:=hP.ok L1 u (L2++t :: R) (by rw[e,eL];simp);obtain⟨x,hx,hxi⟩:=kN.prd _ h;exact hP.before e (by rw[eL];simp[hx]) hxi
 .rw[p2 hw]
  symm
  refine q2 ?_;rintro⟨u,J',hDu,BD⟩;rcases hP.look t u nQ J' d hd BD with h|⟨h,_⟩
  .obtain⟨x,hx,hxi⟩:=(hP.ok L t R e).prd _ h;have:x=u:=hP.inj (by rw[e];simp[hx]) J' hxi;exact hw ⟨u,this▸hx,BD⟩
  .exact Md (kM _ hDu _ h)
def FrD.put (hP:gE pre cops n l){L R:List aP}{t:aP}(e:l=L++t :: R){dM:Fr}{v:ae}{h2:aa}(hR:bC E ao base R (dB t.o.dst dM v) h2=some (bP,h'))
 {D:Nat->Prop} {lk:Fr} (hf:FrD l ez bP D lk):FrD l ez bP (λk=>D k\/k=t.i) (dB t.o.dst lk v):=by
 have nQ:t∈l:=by rw[e];simp
 intro d;by_cases hd:t.o.dst=some d
 .refine⟨λ_=>?_,λnN=>absurd ⟨t,nQ,.inr rfl,hd⟩ nN⟩;have h1:bP.get d=(dB t.o.dst dM v).get d:=jh hR λu hu=>hP.dst t u nQ (by rw[e];simp[hu]) (Ne.symm (hP.behind e hu)) d hd;rw[h1,hd,xL,xL]
 .obtain⟨q1,q2⟩:=hf d;rw[Mz hd];refine⟨?_,λnN=>q2 λ⟨u,a,b,c⟩=>nN ⟨u,a,.inl b,c⟩⟩;rintro⟨u,J',hu|hu,BD⟩
  .exact q1 ⟨u,J',hu,BD⟩
  .have:u=t:=hP.inj J' nQ hu;subst this;exact absurd BD hd
end
def iy {o:Option Bool}(h:tb o=true):o=some true:=by
 cases o with
 |none=>cases h
 |some b=>cases b<;>first|rfl|cases h
def gD {f:ae->ae->Bool}(hf:∀x y,f x y=true->x=y):∀{a b:List ae},il f a b=true->a=b
 |[],[],_=>rfl
 |[],_ :: _,h=>by cases h
 |_ :: _,[],h=>by cases h
 |x :: a,y :: b,h=>by
  have h':aO (f x y) (il f a b) false=true:=h;rw[bq]at h';split at h'
  .rename_i lH;rw[hf x y lH,gD hf h']
  .cases h'
def ji:∀(n:Nat)(x y:ae),dz n x y=true->x=y:=by
 intro n
 induction n with
 |zero=>intro x y h;cases h
 |succ n ih =>
  intro x y h;cases x with
  |bool a =>
   have h':=iy (show tb (bK y λb=>some (aO a b (not b)))=true from h);rw[eh]at h';obtain⟨b,rfl,hb⟩:=h';rw[qQJ,vL,beq_iff_eq]at hb;rw[hb]
  |int k a =>
   have h':=iy (show tb (jr y λk' b=>some (and (NJ k k') (NI a b)))=true from h);rw[fA]at h';obtain⟨k',b,rfl,hb⟩:=h';rw[qQJ,qZQ,uf,decide_eq_true_iff,lK,beq_iff_eq]at hb;rw[hb.1,hb.2]
  |str a =>
   have h':=iy (show tb (kH y λb=>some (eqStr a b))=true from h);rw[fB]at h';obtain⟨b,rfl,hb⟩:=h';rw[qQJ,jC,decide_eq_true_iff]at hb;rw[hb]
  |dt=>cases y<;>first|rfl|cases h
  |af=>cases y<;>first|rfl|cases h
  |b8=>cases y<;>first|rfl|cases h
  |fb=>cases y<;>first|rfl|cases h
  |dq=>cases y<;>first|rfl|cases h
  |ptr b o =>
   have h':=iy (show tb (gu y λb' o'=>some (and (Nat.beq b b') (Nat.beq o o')))=true from h);rw[cZ]at h';obtain⟨b',o',rfl,hb⟩:=h';simp only[qQJ,qZQ,qZX]at hb;rw[hb.1,hb.2]
  |slice b o m c e =>
   have h':=iy (show tb (gR y none λb' o' n' c' e'=>some (and (Nat.beq b b') (and (Nat.beq o o') (and (Nat.beq m n') (and (Nat.beq c c') (aO e e' (not e')))))))=true from h);rw[dI]at h';rcases h' with⟨_,h'⟩|⟨b',o',n',c',e',rfl,hb⟩
   .cases h'
   .simp only[qQJ,qZQ,qZX]at hb;obtain⟨rfl,rfl,rfl,rfl,hb⟩:=hb;rw[vL,beq_iff_eq]at hb;rw[hb]
  |map r =>
   have h':=iy (show tb (ss y none λr'=>some (Nat.beq r r'))=true from h);rw[jc]at h';rcases h' with⟨_,h'⟩|⟨r',rfl,hb⟩
   .cases h'
   .rw[qQJ,qZX]at hb;rw[hb]
  |func f a c =>
   have h':=iy (show tb (A5 y λf' a' c'=>some (and (Nat.beq f f') (and (il (dz n) a a') (il (dz n) c c'))))=true from h);rw[oa]at h';obtain⟨f',a',c',rfl,hb⟩:=h';simp only[qQJ,qZQ]at hb;obtain⟨h1,h2,h3⟩:=hb;have e1:f=f':=qVH h1;rw[e1,gD ih h2,gD ih h3]
  |iface t v =>
   have h':=iy (show tb (s6 y none λt' v'=>some (and (Nat.beq t t') (dz n v v')))=true from h);rw[qL]at h';rcases h' with⟨_,h'⟩|⟨t',v',rfl,hb⟩
   .cases h'
   .simp only[qQJ,qZQ]at hb;have e1:t=t':=qVH hb.1;rw[e1,ih _ _ hb.2]
  |agg a =>
   have h':=iy (show tb (jH y λb=>some (il (dz n) a b))=true from h);rw[iv]at h';obtain⟨b,rfl,hb⟩:=h';rw[qQJ]at hb;rw[gD ih hb]
  |eC a =>
   have h':=iy (show tb (A6 y λb=>some (il (dz n) a b))=true from h);rw[A7]at h';obtain⟨b,rfl,hb⟩:=h';rw[qQJ]at hb;rw[gD ih hb]
section
variable{E:Env}{P:Program}[Lay P]{K:cu}{W0:World}{ρ:Ren}{w:World}{ao:b9}{base n nt:Nat}{ops:Array Oper}{pre:Array Nat}{cops:List aQ}{l:List aP}{ez bP:Fr}{h0 h':aa}
def VO (base:Nat)(R:List aP)(D:Nat->Prop)(ρ:Ren)(b:Nat):Prop:=∃u,u∈R/\u.cls=.new/\D u.i/\∃r,ρ (base+u.i)=some r/\r.b=b
def HR.start {R:List aP}{D:Nat->Prop}{hX:aa}(H:HR E P ao base n l ez h0 K W0 R D ρ hX w) :
 WR P ⟨λb=>K b\/VO base R D ρ b,base+n,ρ,λb=>K.g b\/VO base R D ρ b⟩ w ρ hX w :=
 H.wr.MB H.nx (λb ⟨u,h1,h2,h3,r,h4,h5⟩=>h5▸(H.g1 u h1 h2 h3 r h4).1) λm p s hm hl hs ⟨u,h1,h2,h3,r,h4,h5⟩=>(H.g1 u h1 h2 h3 r h4).2.2.1 m p s hm hl hs h5.symm
def HR.after {R:List aP}{D D':Nat->Prop}{hX hY:aa}{bn:Ren}{w':World}(dL:∀t,t∈R->t.i<n)(hK:K.n0<=base+n)(H:HR E P ao base n l ez h0 K W0 R D ρ hX w)
 (H':WR P ⟨λb=>K b\/VO base R D ρ b,base+n,ρ,λb=>K.g b\/VO base R D ρ b⟩ w bn hY w') (hle:ρ.le bn) (hD:∀t,t∈R->t.cls=.new->(D' t.i↔D t.i)) :
 HR E P ao base n l ez h0 K W0 R D' bn hY w':=by
 have hold:∀t,t∈R->bn (base+t.i)=ρ (base+t.i):=λt ht=>H'.fL _ (by have:=dL t ht;show base+t.i<base+n;omega);refine⟨H.wr.UG H' (λb hb=>.inl hb) (λb hb=>.inl hb) hK (λ_ _=>rfl),H'.nx,λt ht hc hd r hr=>?_,λt ht hc hd ob hm=>?_,λt ht hc hd=>?_,λt ht hc hd nN=>by rw[hold t ht];exact H.g4 t ht hc ((hD t ht hc).1 hd) nN⟩
 .rw[hold t ht]at hr;have Vw:=(hD t ht hc).1 hd;obtain⟨a1,a2,a3,a4⟩:=H.g1 t ht hc Vw r hr;refine⟨qQG a1 H'.size,a2,λm p s hm hl hs e=>H'.hid m p s hm hl hs (.inr ⟨t,ht,hc,Vw,r,hr,e.symm⟩),λu hu pd CI dV s hs=>?_⟩;rw[hold u hu]at hs;exact a4 u hu pd ((hD u hu pd).1 CI) dV s hs
 .have Vw:=(hD t ht hc).1 hd;obtain⟨r,hr,ho⟩:=H.g2 t ht hc Vw ob hm;refine⟨r,hle _ _ hr,?_⟩;have hk:w'.heap[r.b]?=w.heap[r.b]?:=H'.eN r.b (.inr ⟨t,ht,hc,Vw,r,hr,rfl⟩);rw[hk];exact ho.mono hle
 .rw[hold t ht];exact H.g3 t ht hc λh=>hd ((hD t ht hc).2 h)
def WR.rB (H:WR P K W0 ρ h' w){m:Nat}{r:RB}(hm:ρ m=none)(dL:m<h'.next)(hn:K.n0<=m):WR P K W0 (ρ.rB m r) h' w:=by
 have hle:=Ren.iZ r hm
 have back:∀k o,h'.get k=some o->o.live->∀s,(ρ.rB m r) k=some s->ρ k=some s:=by
  intro k o hk hl s hs;obtain⟨s',ar,_⟩:=H.obj k o hk hl;have:=hle _ _ ar;rw[this]at hs;cases hs;exact ar
 exact⟨H.os,H.tape,H.output,H.size,H.yP,H.eN,λk hk=>⟨by rw[Ren.np _ _ (by omega)];exact(H.fresh k hk).1,(H.fresh k hk).2⟩,
  λk o hk hl=>let⟨s,h1,h2,h3⟩:=H.obj k o hk hl;⟨s,hle _ _ h1,h2,h3.mono hle⟩,
  λk k' p p' s s' hk hl VA pf hs ar e=>H.inj _ _ _ _ _ _ hk hl VA pf (back k p hk hl.live s hs) (back k' p' VA pf s' ar) e,H.nx,
  λk hk=>by rw[Ren.np _ _ (by omega)];exact H.fL k hk,H.gk,λk o s hk hl hs=>H.hid k o s hk hl (back k o hk hl s hs),H.lay⟩
structure Ctx (E:Env)(P:Program)[Lay P](K:cu)(ao:b9)(base n nt:Nat)(ops:Array Oper)(pre:Array Nat)(cops:List aQ)(l:List aP)(ez bP:Fr)(h0 h':aa):Prop where
 hE:bl E P
 bJ:fC P ao
 yL:pre=Region.before ops
 hn:n=ops.size
 Ab:ops.toList.mapM (gi E nt ops)=some cops
 hP:gE pre cops n l
 dL:∀t,t∈l->t.i<n
 eX:bC E ao base l ez h0=some (bP,h')
 hK:K.n0<=base
def Dn (listed:Array Bool)(k:Nat):Prop:=listed.getD k false=true
structure Inv (E:Env)(P:Program)[Lay P](K:cu)(W0:World)(ao:b9)(base n nt:Nat)(pre:Array Nat)(l:List aP)(ez bP:Fr)(h0:aa)(pY:Ren)(a0:Act)
 (L R:List aP) (ρ:Ren) (lk nu:Fr) (hB:aa) (listed:Array Bool) (a:Act) (w:World):Prop where
 e:l=L++R
 hL:bC E ao base L ez h0=some (nu,hB)
 size:listed.size=n
 cl:∀k,Dn listed k->∀j,(pre.getD k 0).testBit j=true->Dn listed j
 i3:∀t,t∈L->t.cls=.new\/t.cls=.wr->Dn listed t.i
 i4:∀t,t∈R->t.cls=.wr->¬Dn listed t.i
 i5:∀t,t∈L->t.cls=.read->¬Dn listed t.i->uJ t.o nu hB=true
 frd:FrD l ez bP (Dn listed) lk
 hf:FR ρ lk a.tmps
 hd:a.defers=a0.defers
 hs:nt<=a.tmps.size
 H:HR E P ao base n l ez h0 K W0 R (Dn listed) ρ hB w
 le:pY.le ρ
def tV {listed:Array Bool}{i k:Nat}(hi:i<listed.size):Dn (listed.setIfInBounds i true) k↔Dn listed k\/k=i:=by
 unfold Dn;rw[qZV,Array.getElem?_setIfInBounds,qZV];by_cases h:i=k
 .subst h;simp[hi]
 .rw[if_neg h];exact⟨.inl,λh'=>h'.resolve_right (Ne.symm h)⟩
def Mh (C:Ctx E P K ao base n nt ops pre cops l ez bP h0 h'){pY:Ren}{a0:Act}{L R:List aP}{lk nu:Fr}{hB:aa}{listed:Array Bool}{a:Act}
 (I:Inv E P K W0 ao base n nt pre l ez bP h0 pY a0 L R ρ lk nu hB listed a w) (jm:∀j,j<n->Dn listed j):XQ P K W0 nt pY a0 ⟨.normal,bP,h'⟩ .normal a w:=by
 have eE:∀t,t∈R->t∈l:=λt ht=>by rw[I.e];simp[ht]
 have hR:bC E ao base R nu hB=some (bP,h'):=by
  have:=C.eX;rw[I.e,gJ I.hL]at this;exact this
 have H1:=xT (R:=[]) C.hP R L (by rw[I.e];simp) I.hL (by simpa using I.H) hR (λt ht hc=>I.i4 t ht hc (jm _ (C.dL t (eE t ht)))) (λt ht _=>jm _ (C.dL t (eE t ht)));refine⟨rfl,I.hd,I.hs,ρ,I.le,?_,H1.wr⟩;intro d
 have:lk.get d=bP.get d:=by
  obtain⟨q1,q2⟩:=I.frd d;by_cases hw:∃t,t∈l/\Dn listed t.i/\t.o.dst=some d
  .exact q1 hw
  .rw[q2 hw]
   symm
   exact jh C.eX λt ht hd=>hw ⟨t,ht,jm _ (C.dL t ht),hd⟩
 show V ρ ((bP.get d).getD aT) _;rw[<-this];exact I.hf d
end
section
variable{E:Env}{P:Program}[Lay P]{K:cu}{W0:World}{ρ:Ren}{w:World}{ao:b9}{base n nt:Nat}{ops:Array Oper}{pre:Array Nat}{cops:List aQ}{l:List aP}{ez bP:Fr}{h0 h':aa}
variable{pY:Ren}{a0:Act}{L R:List aP}{lk nu:Fr}{hB:aa}{listed:Array Bool}{a:Act}
structure Vj (E:Env)(ao:b9)(base nt:Nat)(ops:Array Oper)(pre:Array Nat)(l:List aP)(ez bP:Fr)(h0 h':aa)(lk:Fr)(listed:Array Bool)(t:aP)(L1 R1:List aP)(o:Oper)(dM:Fr)(h1:aa)(iA:Fr)(h2:aa):Prop where
 e:l=L1++t :: R1
 ho:ops[t.i]?=some o
 hc:gi E nt ops o=some t.o
 r1:bC E ao base L1 ez h0=some (dM,h1)
 r2:oq E ao base t dM h1=some (iA,h2)
 r3:bC E ao base R1 iA h2=some (bP,h')
 nd:¬Dn listed t.i
 pr:∀j,(pre.getD t.i 0).testBit j=true->Dn listed j
 lt:t.i<listed.size
 same:Dj t.o dM lk
def yp (C:Ctx E P K ao base n nt ops pre cops l ez bP h0 h')(I:Inv E P K W0 ao base n nt pre l ez bP h0 pY a0 L R ρ lk nu hB listed a w){i:Nat}(hr:i∈Region.ready .any ops listed) :
 ∃t L1 R1 o dM h1 iA h2,t.i=i/\Vj E ao base nt ops pre l ez bP h0 h' lk listed t L1 R1 o dM h1 iA h2:=by
 obtain⟨h1,⟨o,ho⟩,h2⟩:=Pu hr (by have:=I.cl;rw[C.yL]at this;exact this);have hi:i<ops.size:=(qJZ.1 ho).1;have hin:i<n:=by rw[C.hn];exact hi
 obtain⟨t,ht,rfl⟩:=C.hP.all i hin;obtain⟨L1,R1,e⟩:=jn ht;have eX:=C.eX;rw[e]at eX;obtain⟨dM,ZG,k1,k2⟩:=yT L1 (t :: R1) _ _ eX;have k2':=k2;rw[dU,av]at k2';obtain⟨⟨iA,hh2⟩,k3,k4⟩:=k2';have dL:t.i<listed.size:=by rw[I.size];exact hin
 have kv:¬Dn listed t.i:=by
  unfold Dn;rw[qZV,qJG dL]at h1 ⊢;simp only[qWW]at h1 ⊢;rw[h1];simp
 have hpr:∀j,(pre.getD t.i 0).testBit j=true->Dn listed j:=by rw[C.yL];exact h2
 have akh:gi E nt ops o=some t.o:=by
  obtain⟨y,hy1,Ov⟩:=Hm C.Ab (i:=t.i) (x:=o) (by simpa using ho);rw[(C.hP.at ht).1]at hy1;cases hy1;exact Ov
 exact⟨t,L1,R1,o,dM,ZG,iA,hh2,rfl,e,ho,akh,k1,k3,k4,kv,hpr,dL,Yz C.hP e k1 k2 hpr kv I.cl I.frd⟩
def Inv.still (C:Ctx E P K ao base n nt ops pre cops l ez bP h0 h')(I:Inv E P K W0 ao base n nt pre l ez bP h0 pY a0 L R ρ lk nu hB listed a w)
 {t:aP} {L1 R1:List aP} {o:Oper} {dM:Fr} {h1:aa} {iA:Fr} {h2:aa} (D:Vj E ao base nt ops pre l ez bP h0 h' lk listed t L1 R1 o dM h1 iA h2)
 {v:ae} (hv:iA=dB t.o.dst dM v) {v':Value} {w':World} {bn:Ren} (hle:ρ.le bn) (hvv:V bn v v') (hw:t.cls≠.wr) (H:HR E P ao base n l ez h0 K W0 R (Dn (listed.setIfInBounds t.i true)) bn hB w') :
 Inv E P K W0 ao base n nt pre l ez bP h0 pY a0 L R bn (dB t.o.dst lk v) nu hB (listed.setIfInBounds t.i true) (a.put o.dst v') w':=by
 obtain⟨nH,Xo,_⟩:=gU D.hc;have jF:=λk=>tV (listed:=listed) (i:=t.i) (k:=k) D.lt;have nQ:t∈l:=by rw[D.e];simp
 refine⟨I.e,I.hL,by simp[I.size],λk hk j hj=>?_,λu hu hc=>(jF _).2 (.inl (I.i3 u hu hc)),λu hu hc hd=>?_,λu hu hc hd=>I.i5 u hu hc (λh=>hd ((jF _).2 (.inl h))),?_,?_,by rw[lD];exact I.hd,by rw[nf];exact I.hs,H,Ren.le_trans I.le hle⟩
 .rcases(jF k).1 hk with h|h
  .exact(jF j).2 (.inl (I.cl k h j hj))
  .subst h;exact(jF j).2 (.inl (D.pr j hj))
 .rcases(jF _).1 hd with h|h
  .exact I.i4 u hu hc h
  .have:u=t:=C.hP.inj (by rw[I.e];simp[hu]) nQ h;subst this;exact hw hc
 .have cS:=FrD.put C.hP D.e (by rw[<-hv];exact D.r3) I.frd (v:=v);intro d;obtain⟨q1,q2⟩:=cS d;exact⟨λ⟨u,x,y,z⟩=>q1 ⟨u,x,(jF _).1 y,z⟩,λnN=>q2 λ⟨u,x,y,z⟩=>nN ⟨u,x,(jF _).2 y,z⟩⟩
 .rw[nH];exact FR.put (I.hf.mono hle) Xo I.hs hvv
end
section
variable{E:Env}{P:Program}[Lay P]{K:cu}{W0:World}{ρ:Ren}{w:World}{ao:b9}{base n nt:Nat}{ops:Array Oper}{pre:Array Nat}{cops:List aQ}{l:List aP}{ez bP:Fr}{h0 h':aa}
variable{pY:Ren}{a0:Act}{L R:List aP}{lk nu:Fr}{hB:aa}{listed:Array Bool}{a:Act}
variable{t:aP}{L1 R1:List aP}{o:Oper}{dM:Fr}{h1:aa}{iA:Fr}{h2:aa}{Q:Exit->Act->World->Prop}
def MR (E:Env)(P:Program)[Lay P](K:cu)(W0:World)(ao:b9)(base n nt:Nat)(pre:Array Nat)(l:List aP)(ez bP:Fr)(h0:aa)(pY:Ren)(a0:Act)(listed:Array Bool)(a:Act)(w:World):Prop :=
 ∃L R ρ lk nu hB,Inv E P K W0 ao base n nt pre l ez bP h0 pY a0 L R ρ lk nu hB listed a w
def Inv.OP (I:Inv E P K W0 ao base n nt pre l ez bP h0 pY a0 L R ρ lk nu hB listed a w){u:aP}(h:u∈R):u∈l:=by rw[I.e];simp[h]
def Inv.al4 (I:Inv E P K W0 ao base n nt pre l ez bP h0 pY a0 L R ρ lk nu hB listed a w){u:aP}(h:u∈L):u∈l:=by rw[I.e];simp[h]
def tg (C:Ctx E P K ao base n nt ops pre cops l ez bP h0 h')(D:Vj E ao base nt ops pre l ez bP h0 h' lk listed t L1 R1 o dM h1 iA h2)(hc:t.cls≠.new){u:aP}(hu:u∈l)(pd:u.cls=.new) :
 Dn (listed.setIfInBounds t.i true) u.i↔Dn listed u.i:=by
 rw[tV D.lt];refine⟨λh=>h.resolve_right λe=>?_,.inl⟩;have:u=t:=C.hP.inj hu (by rw[D.e];simp) e;subst this;exact hc pd
def TG (C:Ctx E P K ao base n nt ops pre cops l ez bP h0 h')(I:Inv E P K W0 ao base n nt pre l ez bP h0 pY a0 L R ρ lk nu hB listed a w)
 (D:Vj E ao base nt ops pre l ez bP h0 h' lk listed t L1 R1 o dM h1 iA h2) (hc:t.cls=.pure) :
 wpOp P ops Q t.i (MR E P K W0 ao base n nt pre l ez bP h0 pY a0 (listed.setIfInBounds t.i true)) a w:=by
 have nQ:t∈l:=by rw[D.e];simp
 have lM:=(C.hP.at nQ).2;obtain⟨v,hO,ef,iK⟩:=ij D.r2;rcases iK with⟨_,hr,_⟩|⟨ku,_⟩|⟨ku,_⟩
 case inr.inl=>rw[hc]at ku;cases ku
 case inr.inr=>rw[hc]at ku;cases ku
 have hB':=(uK (by rw[<-lM];exact hc) hr).2 hB;rw[oi D.same]at hB';refine jg C.hE C.bJ D.ho D.hc I.hf I.H.start hB' λv' w' bn k1 k2 k3=>⟨L,R,bn,_,nu,hB,I.still C D ef k1 k2 (by rw[hc];decide) ?_⟩;exact I.H.after (λu hu=>C.dL u (I.OP hu)) (by have:=C.hK;omega) k3 k1 λu hu pd=>tg C D (by rw[hc];decide) (I.OP hu) pd
end
section
variable{E:Env}{P:Program}[Lay P]{K:cu}{W0:World}{ρ:Ren}{w:World}{ao:b9}{base n nt:Nat}{ops:Array Oper}{pre:Array Nat}{cops:List aQ}{l:List aP}{ez bP:Fr}{h0 h':aa}
variable{pY:Ren}{a0:Act}{L R:List aP}{lk nu:Fr}{hB:aa}{listed:Array Bool}{a:Act}
variable{t:aP}{L1 R1:List aP}{o:Oper}{dM:Fr}{h1:aa}{iA:Fr}{h2:aa}{Q:Exit->Act->World->Prop}
def me (H:gE pre cops n l){L2 R2:List aP}(e1:l=L1++t :: R1)(e2:l=L2++t :: R2):L1=L2/\R1=R2:=by
 have e:L1++t :: R1=L2++t :: R2:=e1▸e2;rcases List.append_eq_append_iff.1 e with⟨x,Ff,kx⟩|⟨x,Ff,kx⟩
 .cases x with
  |nil=>simp at Ff kx;exact⟨Ff.symm,kx⟩
  |cons y x =>
   simp only[qVD,qJV]at kx;obtain⟨rfl,_⟩:=kx;exact absurd rfl (H.before e2 (u:=t) (by rw[Ff];simp))
 .cases x with
  |nil=>simp at Ff kx;exact⟨Ff,kx.symm⟩
  |cons y x =>
   simp only[qVD,qJV]at kx;obtain⟨rfl,_⟩:=kx;exact absurd rfl (H.before e1 (u:=t) (by rw[Ff];simp))
def CP (C:Ctx E P K ao base n nt ops pre cops l ez bP h0 h')(I:Inv E P K W0 ao base n nt pre l ez bP h0 pY a0 L R ρ lk nu hB listed a w)
 (D:Vj E ao base nt ops pre l ez bP h0 h' lk listed t L1 R1 o dM h1 iA h2) (hc:t.cls=.read\/t.cls=.wr) (ht:t∈R) :
 ∃M,R=M++t :: R1/\L1=L++M/\bC E ao base M nu hB=some (dM,h1)/\(∀u,u∈M->u.cls≠.wr)/\(∀u,u∈M->u.cls=.new->Dn listed u.i) /\
  HR E P ao base n l ez h0 K W0 (t :: R1) (Dn listed) ρ h1 w:=by
 obtain⟨M,R',eR⟩:=jn ht;obtain⟨eL,rfl⟩:=me C.hP D.e (show l=(L++M)++t :: R' by rw[I.e,eR];simp)
 have hM:bC E ao base M nu hB=some (dM,h1):=by
  have:=D.r1;rw[eL,gJ I.hL]at this;exact this
 have agD:=λu (hu:u∈M) (h:u.cls=.new\/u.cls=.wr)=>D.pr _ ((C.hP.ok L1 t R1 D.e).ord hc u (by rw[eL];simp[hu]) h);have hw:∀u,u∈M->u.cls≠.wr:=λu hu h=>I.i4 u (by rw[eR];simp[hu]) h (agD u hu (.inr h));have hn:∀u,u∈M->u.cls=.new->Dn listed u.i:=λu hu h=>agD u hu (.inl h);refine⟨M,eR,eL,hM,hw,hn,xT C.hP M L (by rw[I.e,eR]) I.hL (by rw[<-eR];exact I.H) hM hw hn⟩
def HP {re:List aQ}{fr:Fr}{h:aa}(hs:ko re fr h=true):∀x,x∈re->uJ x fr h=true:=by
 induction re with
 |nil=>intro x hx;cases hx
 |cons y re ih =>
  intro x hx;have ar:aO (uJ y fr h) (ko re fr h) false=true:=hs;rw[bq]at ar;split at ar
  .rename_i hy;rcases qQF.1 hx with rfl|hx
   .exact hy
   .exact ih ar x hx
  .cases ar
def acz (C:Ctx E P K ao base n nt ops pre cops l ez bP h0 h')(I:Inv E P K W0 ao base n nt pre l ez bP h0 pY a0 L R ρ lk nu hB listed a w)
 (D:Vj E ao base nt ops pre l ez bP h0 h' lk listed t L1 R1 o dM h1 iA h2) (hc:t.cls=.wr) :
 wpOp P ops Q t.i (MR E P K W0 ao base n nt pre l ez bP h0 pY a0 (listed.setIfInBounds t.i true)) a w:=by
 have nQ:t∈l:=by rw[D.e];simp
 have htR:t∈R:=by
  have:=nQ;rw[I.e]at this;rcases qQE.1 this with h|h
  .exact absurd (I.i3 t h (.inr hc)) D.nd
  .exact h
 obtain⟨M,eR,eL,hM,hw,hn,H1⟩:=CP C I D (.inr hc) htR;obtain⟨v,hO,ef,iK⟩:=ij D.r2;rcases iK with⟨ku,_⟩|⟨ku,_⟩|⟨_,hr,rfl,hre⟩
 case inl=>rcases ku with h|h<;>(rw[hc]at h;cases h)
 case inr.inl=>rw[hc]at ku;cases ku
 rw[oi D.same]at hr
 have H2:HR E P ao base n l ez h0 K W0 R1 (Dn listed) ρ h1 w:=⟨H1.wr,H1.nx,λu hu pd CI r hr=>let⟨x,y,z,q⟩:=H1.g1 u (qZZ _ hu) pd CI r hr;⟨x,y,z,λp hp=>q p (qZZ _ hp)⟩,
  λu hu=>H1.g2 u (qZZ _ hu),λu hu=>H1.g3 u (qZZ _ hu),λu hu=>H1.g4 u (qZZ _ hu)⟩
 have ZU:∀u,u∈R1->u∈l:=λu hu=>by rw[D.e];simp[hu]
 have jF:=λk=>tV (listed:=listed) (i:=t.i) (k:=k) D.lt;refine jg C.hE C.bJ D.ho D.hc I.hf H2.start hr λv' w' bn k1 k2 k3=>⟨L++M++[t],R1,bn,dB t.o.dst lk v,iA,h2,?_⟩;have H3:=H2.after (D':=Dn (listed.setIfInBounds t.i true)) (λu hu=>C.dL u (ZU u hu)) (by have:=C.hK;omega) k3 k1 λu hu pd=>tg C D (by rw[hc];decide) (ZU u hu) pd;obtain⟨nH,Xo,_⟩:=gU D.hc;refine⟨by rw[D.e,eL];simp,?_,by simp[I.size],λk hk j hj=>?_,λu hu pd=>?_,λu hu pd hd=>?_,λu hu pd hd=>?_,?_,?_,by rw[lD];exact I.hd,by rw[nf];exact I.hs,H3,Ren.le_trans I.le k1⟩
 .rw[<-eL,gJ D.r1,dU,D.r2];rfl
 .rcases(jF k).1 hk with h|h
  .exact(jF j).2 (.inl (I.cl k h j hj))
  .subst h;exact(jF j).2 (.inl (D.pr j hj))
 .rcases qQE.1 hu with hu|hu
  .rcases qQE.1 hu with hu|hu
   .exact(jF _).2 (.inl (I.i3 u hu pd))
   .rcases pd with h|h
    .exact(jF _).2 (.inl (hn u hu h))
    .exact absurd h (hw u hu)
  .simp at hu;subst hu;exact(jF _).2 (.inr rfl)
 .rcases(jF _).1 hd with h|h
  .exact I.i4 u (by rw[eR];simp[hu]) pd h
  .exact absurd h (C.hP.behind D.e hu)
 .rcases qQE.1 hu with hu|hu
  .have huL:u∈L1:=by rw[eL];exact hu
   rcases(C.hP.ok L1 t R1 D.e).re hc u huL pd with h|h
   .exact absurd ((jF _).2 (.inl (D.pr _ h))) hd
   .exact HP hre _ h
  .simp at hu;subst hu;rw[hc]at pd;cases pd
 .have cS:=FrD.put C.hP D.e (by rw[<-ef];exact D.r3) I.frd (v:=v);intro d;obtain⟨q1,q2⟩:=cS d;exact⟨λ⟨u,x,y,z⟩=>q1 ⟨u,x,(jF _).1 y,z⟩,λnN=>q2 λ⟨u,x,y,z⟩=>nN ⟨u,x,(jF _).2 y,z⟩⟩
 .rw[nH];exact FR.put (I.hf.mono k1) Xo I.hs k2
end
section
variable{E:Env}{P:Program}[Lay P]{K:cu}{W0:World}{ρ:Ren}{w:World}{ao:b9}{base n nt:Nat}{ops:Array Oper}{pre:Array Nat}{cops:List aQ}{l:List aP}{ez bP:Fr}{h0 h':aa}
variable{pY:Ren}{a0:Act}{L R:List aP}{lk nu:Fr}{hB:aa}{listed:Array Bool}{a:Act}
variable{t:aP}{L1 R1:List aP}{o:Oper}{dM:Fr}{h1:aa}{iA:Fr}{h2:aa}{Q:Exit->Act->World->Prop}
def PC (C:Ctx E P K ao base n nt ops pre cops l ez bP h0 h')(I:Inv E P K W0 ao base n nt pre l ez bP h0 pY a0 L R ρ lk nu hB listed a w)
 (D:Vj E ao base nt ops pre l ez bP h0 h' lk listed t L1 R1 o dM h1 iA h2) (hc:t.cls=.read) (ht:t∈L):Dj t.o nu lk:=by
 have nQ:t∈l:=by rw[D.e];simp
 have eX:bC E ao base R nu hB=some (bP,h'):=by
  have:=C.eX;rw[I.e,gJ I.hL]at this;exact this
 obtain⟨L2,L3,eL⟩:=jn ht;obtain⟨e1,_⟩:=me C.hP D.e (show l=L2++t :: (L3++R) by rw[I.e,eL];simp);intro d hd;obtain⟨p1,p2⟩:=su C.hP I.e I.hL eX d;obtain⟨q1,q2⟩:=I.frd d
 have hwr:∀u,u∈l->u.o.dst=some d->Dn listed u.i/\u∈L:=by
  intro u hu BD;rcases C.hP.look t u nQ hu d hd BD with h|⟨_,h⟩
  .refine⟨D.pr _ h,?_⟩;obtain⟨x,hx,hxi⟩:=(C.hP.ok L1 t R1 D.e).prd _ h;have hxl:x∈l:=by rw[D.e];simp[hx]
   have:x=u:=C.hP.inj hxl hu hxi;rw[eL,<-this,<-e1];simp[hx]
  .exact absurd hc h
 by_cases hw:∃u,u∈l/\u.o.dst=some d
 .obtain⟨u,hu,BD⟩:=hw;obtain⟨g1,g2⟩:=hwr u hu BD;rw[p1 ⟨u,g2,BD⟩,q1 ⟨u,hu,g1,BD⟩]
 .rw[p2 λ⟨u,x,y⟩=>hw ⟨u,I.al4 x,y⟩,q2 λ⟨u,x,_,y⟩=>hw ⟨u,x,y⟩]
end
section
variable{E:Env}{P:Program}[Lay P]{K:cu}{W0:World}{ρ:Ren}{w:World}{ao:b9}{base n nt:Nat}{ops:Array Oper}{pre:Array Nat}{cops:List aQ}{l:List aP}{ez bP:Fr}{h0 h':aa}
variable{pY:Ren}{a0:Act}{L R:List aP}{lk nu:Fr}{hB:aa}{listed:Array Bool}{a:Act}
variable{t:aP}{L1 R1:List aP}{o:Oper}{dM:Fr}{h1:aa}{iA:Fr}{h2:aa}{Q:Exit->Act->World->Prop}
def Oz (C:Ctx E P K ao base n nt ops pre cops l ez bP h0 h')(I:Inv E P K W0 ao base n nt pre l ez bP h0 pY a0 L R ρ lk nu hB listed a w)
 (D:Vj E ao base nt ops pre l ez bP h0 h' lk listed t L1 R1 o dM h1 iA h2) (hc:t.cls=.read) (ht:t∈L) :
 wpOp P ops Q t.i (MR E P K W0 ao base n nt pre l ez bP h0 pY a0 (listed.setIfInBounds t.i true)) a w:=by
 have nQ:t∈l:=by rw[D.e];simp
 have lM:=(C.hP.at nQ).2;have hcr:lR t.o.op=.read:=by rw[<-lM];exact hc
 obtain⟨v,hO,ef,iK⟩:=ij D.r2;rcases iK with⟨_,hr,_⟩|⟨ku,_⟩|⟨ku,_⟩
 case inr.inl=>rw[hc]at ku;cases ku
 case inr.inr=>rw[hc]at ku;cases ku
 have lU:=PC C I D hc ht;have hre:=I.i5 t ht hc D.nd
 have eX:bC E ao base R nu hB=some (bP,h'):=by
  have:=C.eX;rw[I.e,gJ I.hL]at this;exact this
 have hB':eA E ao t.o lk hB=some (v,hB):=by
  rw[<-oi lU];unfold eA at hr ⊢;rw[vY (by rw[hcr];decide)]at hr ⊢;have hg:bj t.o.guard nu=bj t.o.guard dM:=by rw[lU.guard,D.same.guard]
  rw[hg];unfold uJ at hre;rw[hg]at hre;cases Qf:bj t.o.guard dM with
  |false=>rw[Qf]at hr;cases hr;rfl
  |true =>
   rw[Qf]at hre;have agR:=iy (show tb (ob (aC t.o.op nu hB) λr=>@Option.rec Nat (λ_=>Option Bool) none (λd=>some (dz 20 r.1 (aJ (.t d) nu))) t.o.dst)=true from hre);rw[av]at agR;obtain⟨⟨v2,hx⟩,wG,hd⟩:=agR;have hxe:=CZ hcr wG;subst hxe;cases nH:t.o.dst with
   |none=>rw[nH]at hd;cases hd
   |some d =>
    rw[nH]at hd;have nG:some (dz 20 v2 (aJ (.t d) nu))=some true:=hd;rw[qQJ]at nG;have e2:=ji _ _ _ nG;obtain⟨p1,_⟩:=su C.hP I.e I.hL eX d;have e3:nu.get d=bP.get d:=p1 ⟨t,ht,nH⟩;have e4:bP.get d=iA.get d:=jh D.r3 λu hu=>C.hP.dst t u nQ (by rw[D.e];simp[hu]) (Ne.symm (C.hP.behind D.e hu)) d nH;rw[mI,e3,e4,ef,nH,xL]at e2;have e5:v2=v:=e2;show aC t.o.op nu _=_;rw[wG,e5]
 refine jg C.hE C.bJ D.ho D.hc I.hf I.H.start hB' λv' w' bn k1 k2 k3=>⟨L,R,bn,_,nu,hB,I.still C D ef k1 k2 (by rw[hc];decide) ?_⟩;exact I.H.after (λu hu=>C.dL u (I.OP hu)) (by have:=C.hK;omega) k3 k1 λu hu pd=>tg C D (by rw[hc];decide) (I.OP hu) pd
end
section
variable{E:Env}{P:Program}[Lay P]{K:cu}{W0:World}{ρ bn:Ren}{w w':World}{ao:b9}{base n:Nat}{pre:Array Nat}{cops:List aQ}{l:List aP}{ez:Fr}{h0:aa}
def push_inj {h:aa}{a b:aE}(e:h.push a=h.push b):a=b:=by
 have:=congrArg (λx=>aa.get x h.next) e;simp only[aa.ai,qQJ]at this;exact this
def EX (hP:gE pre cops n l){L R:List aP}{t:aP}{D D':Nat->Prop}(e:l=L++t :: R){dM:Fr}{h1:aa}(hL:bC E ao base L ez h0=some (dM,h1))(H:HR E P ao base n l ez h0 K W0 (t :: R) D ρ h1 w)
 {iA:Fr} {h2:aa} (hs:oq E ao base t dM h1=some (iA,h2)) (hw:t.cls≠.wr) (hD:t.cls=.new->D t.i) (hD':t.cls=.new->D' t.i) (hle:ρ.le bn) (hold:bn (base+t.i)=ρ (base+t.i)) (H':HR E P ao base n l ez h0 K W0 R D' bn h2 w') :
 HR E P ao base n l ez h0 K W0 (t :: R) D' bn h1 w':=by
 have nQ:t∈l:=by rw[e];simp
 have lM:=(hP.at nQ).2;obtain⟨v,hO,ef,iK⟩:=ij hs
 have same:h2=h1->(t.cls=.new->∀ob,¬rD E ao base l ez h0 t ob)->HR E P ao base n l ez h0 K W0 (t :: R) D' bn h1 w':=by
  intro e2 nN;have ab6:t.cls=.new->bn (base+t.i)=none:=λhc=>by rw[hold];exact H.g4 t (by simp) hc (hD hc) (nN hc)
  rw[e2] at H';refine⟨H'.wr,H'.nx,λu hu hc hd r hr=>?_,λu hu hc hd ob hm=>?_,λu hu hc hd=>?_,λu hu hc hd hn=>?_⟩
  .rcases qQF.1 hu with rfl|hu
   .rw[ab6 hc]at hr;cases hr
   .obtain⟨a1,a2,a3,a4⟩:=H'.g1 u hu hc hd r hr;refine⟨a1,a2,a3,λx hx fX SZ dV s ar=>?_⟩;rcases qQF.1 hx with rfl|hx
    .rw[ab6 fX]at ar;cases ar
    .exact a4 x hx fX SZ dV s ar
  .rcases qQF.1 hu with rfl|hu
   .exact(nN hc ob hm).elim
   .exact H'.g2 u hu hc hd ob hm
  .rcases qQF.1 hu with rfl|hu
   .exact absurd (hD' hc) hd
   .exact H'.g3 u hu hc hd
  .rcases qQF.1 hu with rfl|hu
   .exact ab6 hc
   .exact H'.g4 u hu hc hd hn
 have uniq:∀ob,rD E ao base l ez h0 t ob->∃v,eA E ao t.o dM ⟨base+t.i,h1.t⟩=some (v,aa.push ⟨base+t.i,h1.t⟩ ob):=by
  rintro ob ⟨L2,R2,f2,hh2,v2,e2,r2,r3,_⟩;obtain⟨rfl,_⟩:=me hP e e2;rw[hL]at r2;cases r2;exact⟨v2,r3⟩
 rcases iK with⟨hc,hr,rfl⟩|⟨hc,hr,rfl⟩|⟨hc,_⟩
 .rcases hc with hc|hc
  .exact same (uK (by rw[<-lM];exact hc) hr).1 (λh=>by rw[hc]at h;cases h)
  .exact same (uL (by rw[<-lM];exact hc) hr) (λh=>by rw[hc]at h;cases h)
 .rcases xM (by rw[<-lM];exact hc) hr with⟨_,_,rfl⟩|⟨_,_,ob,rfl,rp⟩
  .refine same rfl λ_ ob hm=>?_;obtain⟨v2,se⟩:=uniq ob hm;rw[hr]at se;simp only[qQJ,qQA]at se;have:=congrArg aa.next se.2;simp[aa.bI]at this
  .have hd:=hD hc;have DV:rD E ao base l ez h0 t ob:=⟨L,R,dM,h1,v,e,hL,hr,rp⟩;obtain⟨r,rf,_⟩:=H.g2 t (by simp) hc hd ob DV;obtain⟨_,_,a3,_⟩:=H.g1 t (by simp) hc hd r rf;have CH:∀p,h1.get (base+t.i)=some p->p.live->False:=λp hp hl=>a3 _ p r hp hl rf rfl;have jx:∀m,m≠base+t.i->(⟨h1.next,(aa.push ⟨base+t.i,h1.t⟩ ob).t⟩:aa).get m=h1.get m:=λm hm=>T.cY _ _ (Ne.symm hm);have lU:(⟨h1.next,(aa.push ⟨base+t.i,h1.t⟩ ob).t⟩:aa).get (base+t.i)=some ob:=T.get_set_same _ _ _
   have qy:∀m p,h1.get m=some p->p.live->(⟨h1.next,(aa.push ⟨base+t.i,h1.t⟩ ob).t⟩:aa).get m=some p:=by
    intro m p hp hl;rw[jx m (λem=>CH p (em▸hp) hl)];exact hp
   have oH:bn (base+t.i)=some r:=by rw[hold];exact rf
   obtain⟨r2,b1,b2,b3⟩:=H'.wr.obj _ _ lU rp.live;rw[oH]at b1;cases b1;refine⟨H'.wr.forget (h':=h1) rfl qy (λm hm=>(H.wr.fresh m hm).2),H'.nx,λu hu pd CI s ar=>?_,λu hu pd CI VJ hm=>?_,λu hu pd CI=>?_,λu hu pd CI hn=>?_⟩
   .rcases qQF.1 hu with rfl|hu
    .rw[oH]at ar;cases ar;refine⟨H'.wr.lt lU rp.live oH,b2 rp,λm p q hm hl hq eq=>?_,λx hx fX SZ dV q hq=>?_⟩
     .have em:=H'.wr.inj _ _ _ _ _ _ lU rp (qy m p hm hl) hl oH hq eq.symm;exact CH p (em▸hm) hl
     .rcases qQF.1 hx with rfl|hx
      .exact absurd rfl dV
      .exact λeq=>(H'.g1 x hx fX SZ q hq).2.2.1 _ _ _ lU rp.live oH eq.symm
    .obtain⟨c1,c2,c3,c4⟩:=H'.g1 u hu pd CI s ar;refine⟨c1,c2,λm p q hm hl hq=>c3 m p q (qy m p hm hl) hl hq,λx hx fX SZ dV q hq=>?_⟩;rcases qQF.1 hx with rfl|hx
     .exact c3 _ _ _ lU rp.live hq
     .exact c4 x hx fX SZ dV q hq
   .rcases qQF.1 hu with rfl|hu
    .obtain⟨v2,se⟩:=uniq VJ hm;rw[hr]at se;simp only[qQJ,qQA]at se;have:=push_inj se.2;subst this;exact⟨r,oH,b3⟩
    .exact H'.g2 u hu pd CI VJ hm
   .rcases qQF.1 hu with rfl|hu
    .exact absurd (hD' pd) CI
    .exact H'.g3 u hu pd CI
   .rcases qQF.1 hu with rfl|hu
    .exact absurd DV (hn ob)
    .exact H'.g4 u hu pd CI hn
 .exact absurd hc hw
def Cj (hP:gE pre cops n l){R:List aP}{D D':Nat->Prop}:∀(M L:List aP),l=L++(M++R)->∀{dM:Fr}{h1:aa},bC E ao base L ez h0=some (dM,h1)->HR E P ao base n l ez h0 K W0 (M++R) D ρ h1 w ->
 ∀{iA:Fr}{h2:aa},bC E ao base M dM h1=some (iA,h2)->(∀t,t∈M->t.cls≠.wr)->(∀t,t∈M->t.cls=.new->D t.i)->(∀t,t∈M->t.cls=.new->D' t.i)->ρ.le bn->(∀t,t∈M->bn (base+t.i)=ρ (base+t.i)) ->
 HR E P ao base n l ez h0 K W0 R D' bn h2 w'->HR E P ao base n l ez h0 K W0 (M++R) D' bn h1 w':=by
 intro M
 induction M with
 |nil=>intro L e dM h1 hL H iA h2 hs _ _ _ _ _ H';cases hs;exact H'
 |cons t M ih =>
  intro L e dM h1 hL H iA h2 hs hw hD hD' hle hold H';rw[dU,av]at hs;obtain⟨⟨f,hh⟩,tw,hs⟩:=hs;have H1:=zl hP (by simpa using e) hL H tw (hw t (by simp)) (hD t (by simp));have hL':bC E ao base (L++[t]) ez h0=some (f,hh):=by rw[gJ hL,dU,tw];rfl
  have H2:=ih (L++[t]) (by rw[e];simp) hL' H1 hs (λu hu=>hw u (qZZ _ hu)) (λu hu=>hD u (qZZ _ hu)) (λu hu=>hD' u (qZZ _ hu)) hle (λu hu=>hold u (qZZ _ hu)) H';exact EX hP (by simpa using e) hL H tw (hw t (by simp)) (hD t (by simp)) (hD' t (by simp)) hle (hold t (by simp)) H2
end
section
variable{E:Env}{P:Program}[Lay P]{K:cu}{W0:World}{ρ:Ren}{w:World}{ao:b9}{base n nt:Nat}{ops:Array Oper}{pre:Array Nat}{cops:List aQ}{l:List aP}{ez bP:Fr}{h0 h':aa}
variable{pY:Ren}{a0:Act}{L R:List aP}{lk nu:Fr}{hB:aa}{listed:Array Bool}{a:Act}
variable{t:aP}{L1 R1:List aP}{o:Oper}{dM:Fr}{h1:aa}{iA:Fr}{h2:aa}{Q:Exit->Act->World->Prop}
def OA (C:Ctx E P K ao base n nt ops pre cops l ez bP h0 h')(I:Inv E P K W0 ao base n nt pre l ez bP h0 pY a0 L R ρ lk nu hB listed a w)
 (D:Vj E ao base nt ops pre l ez bP h0 h' lk listed t L1 R1 o dM h1 iA h2) (hc:t.cls=.read) (ht:t∈R) :
 wpOp P ops Q t.i (MR E P K W0 ao base n nt pre l ez bP h0 pY a0 (listed.setIfInBounds t.i true)) a w:=by
 have nQ:t∈l:=by rw[D.e];simp
 have lM:=(C.hP.at nQ).2;obtain⟨M,eR,eL,hM,hw,hn,H1⟩:=CP C I D (.inl hc) ht;obtain⟨v,hO,ef,iK⟩:=ij D.r2;rcases iK with⟨_,hr,_⟩|⟨ku,_⟩|⟨ku,_⟩
 case inr.inl=>rw[hc]at ku;cases ku
 case inr.inr=>rw[hc]at ku;cases ku
 have hOe:=uL (by rw[<-lM];exact hc) hr;subst hOe;rw[oi D.same]at hr;have eE:∀u,u∈M++t :: R1->u∈l:=λu hu=>I.OP (by rw[eR];exact hu);have jF:=λk=>tV (listed:=listed) (i:=t.i) (k:=k) D.lt;refine jg C.hE C.bJ D.ho D.hc I.hf H1.start hr λv' w' bn k1 k2 k3=>⟨L,R,bn,_,nu,hB,I.still C D ef k1 k2 (by rw[hc];decide) ?_⟩;have H2:=H1.after (D':=Dn (listed.setIfInBounds t.i true)) (λu hu=>C.dL u (eE u (by simp at hu ⊢;exact .inr hu))) (by have:=C.hK;omega) k3 k1 λu hu pd=>tg C D (by rw[hc];decide) (eE u (by simp at hu ⊢;exact .inr hu)) pd;rw[eR]
 exact Cj C.hP M L (by rw[I.e,eR]) I.hL (by rw[<-eR];exact I.H) hM hw hn (λu hu h=>(jF _).2 (.inl (hn u hu h))) k1
  (λu hu=>k3.fL _ (by have:=C.dL u (eE u (by simp[hu]));show base+u.i<base+n;omega)) H2
end
section
variable{E:Env}{P:Program}[Lay P]{K:cu}{W0:World}{ρ:Ren}{w:World}{ao:b9}{base n nt:Nat}{ops:Array Oper}{pre:Array Nat}{cops:List aQ}{l:List aP}{ez bP:Fr}{h0 h':aa}
variable{pY:Ren}{a0:Act}{L R:List aP}{lk nu:Fr}{hB:aa}{listed:Array Bool}{a:Act}
variable{t:aP}{L1 R1:List aP}{o:Oper}{dM:Fr}{h1:aa}{iA:Fr}{h2:aa}{Q:Exit->Act->World->Prop}
def HR.QJ {D D':Nat->Prop}(H:HR E P ao base n l ez h0 K W0 R D ρ hB w)(hP:gE pre cops n l)(hR:∀u,u∈R->u∈l)(ht:t∈R)(hDD:∀k,D' k↔D k\/k=t.i)(nN:∀ob,¬rD E ao base l ez h0 t ob)(hn:ρ (base+t.i)=none) :
 HR E P ao base n l ez h0 K W0 R D' ρ hB w:=by
 have iK:∀u,u∈R->D' u.i->D u.i\/u=t:=λu hu h=>((hDD _).1 h).imp id λe=>hP.inj (hR u hu) (hR t ht) e;refine⟨H.wr,H.nx,λu hu hc hd r hr=>?_,λu hu hc hd ob hm=>?_,λu hu hc hd=>H.g3 u hu hc λh=>hd ((hDD _).2 (.inl h)),λu hu hc hd B4=>?_⟩
 .rcases iK u hu hd with h|rfl
  .obtain⟨a1,a2,a3,a4⟩:=H.g1 u hu hc h r hr;refine⟨a1,a2,a3,λx hx fX SZ dV s hs=>?_⟩;rcases iK x hx SZ with h|rfl
   .exact a4 x hx fX h dV s hs
   .rw[hn]at hs;cases hs
  .rw[hn]at hr;cases hr
 .rcases iK u hu hd with h|rfl
  .exact H.g2 u hu hc h ob hm
  .exact(nN ob hm).elim
 .rcases iK u hu hd with h|rfl
  .exact H.g4 u hu hc h B4
  .exact hn
end
section
variable{E:Env}{P:Program}[Lay P]{K:cu}{W0:World}{ρ:Ren}{w:World}{ao:b9}{base n nt:Nat}{ops:Array Oper}{pre:Array Nat}{cops:List aQ}{l:List aP}{ez bP:Fr}{h0 h':aa}
variable{pY:Ren}{a0:Act}{L R:List aP}{lk nu:Fr}{hB:aa}{listed:Array Bool}{a:Act}
variable{t:aP}{L1 R1:List aP}{o:Oper}{dM:Fr}{h1:aa}{iA:Fr}{h2:aa}{Q:Exit->Act->World->Prop}
def HR.QK {D D':Nat->Prop}(H:HR E P ao base n l ez h0 K W0 R D ρ hB w)(hP:gE pre cops n l)(hR:∀u,u∈R->u∈l)(dL:∀u,u∈R->u.i<n)(hK:K.n0<=base)(ht:t∈R)(hDD:∀k,D' k↔D k\/k=t.i){ob:aE}
 (hu:∀VJ,rD E ao base l ez h0 t VJ->VJ=ob) (DV:rD E ao base l ez h0 t ob) (hn:ρ (base+t.i)=none) {d:Nat} (hdr:w.drawn<=d) {Ob:Obj} {k:Option (Nat×Nat)}
 (ho:pj P (ρ.rB (base+t.i) ⟨w.heap.size,0,k,mz⟩) ⟨w.heap.size,0,k,mz⟩ ob (some Ob)) :
 HR E P ao base n l ez h0 K W0 R D' (ρ.rB (base+t.i) ⟨w.heap.size,0,k,mz⟩) hB {w with drawn:=d,heap:=w.heap.push Ob}:=by
 have iK:∀u,u∈R->D' u.i->D u.i\/u=t:=λu hu h=>((hDD _).1 h).imp id λe=>hP.inj (hR u hu) (hR t ht) e;have hle:=Ren.iZ (⟨w.heap.size,0,k,mz⟩:RB) hn;have nO:=H.nx;have htn:=dL t ht
 have dV:∀u,u∈R->u≠t->(ρ.rB (base+t.i) ⟨w.heap.size,0,k,mz⟩) (base+u.i)=ρ (base+u.i):=λu hu Fc =>
  Ren.np _ _ λe=>Fc (hP.inj (hR u hu) (hR t ht) (by omega))
 have LV:∀m p s,hB.get m=some p->p.live->(ρ.rB (base+t.i) ⟨w.heap.size,0,k,mz⟩) m=some s->ρ m=some s:=by
  intro m p s hm hl hs;obtain⟨s',ar,_⟩:=H.wr.obj m p hm hl;have:=hle _ _ ar;rw[this]at hs;cases hs;exact ar
 have agN:∀b,b<w.heap.size->(w.heap.push Ob)[b]?=w.heap[b]?:=λb hb=>by rw[qKW,if_neg (by omega)]
 refine⟨((H.wr.alloc Ob).drawn d hdr).rB hn (by omega) (by omega),H.nx,λu Mg hc hd r hr=>?_,λu Mg hc hd VJ hm=>?_,λu Mg hc hd=>?_,λu Mg hc hd B4=>?_⟩
 .by_cases Fc:u=t
  .subst Fc;rw[Ren.fq]at hr;cases hr;refine⟨by simp,λhk=>by have:=H.wr.yP _ hk;have:=H.wr.size;simp at *;omega,λm p s hm hl hs e=>?_,λx hx fX SZ Z9 s hs e=>?_⟩
   .have:=H.wr.lt hm hl (LV m p s hm hl hs);simp at e;omega
   .have hxu:x≠u:=λe=>Z9 (by rw[e]);rw[dV x hx hxu]at hs;have:=(H.g1 x hx fX ((iK x hx SZ).resolve_right hxu) s hs).1;simp at e;omega
  .have h:=(iK u Mg hd).resolve_right Fc;rw[dV u Mg Fc]at hr;obtain⟨a1,a2,a3,a4⟩:=H.g1 u Mg hc h r hr;refine⟨by simp;omega,a2,λm p s hm hl hs=>a3 m p s hm hl (LV m p s hm hl hs),λx hx fX SZ Z9 s hs=>?_⟩;by_cases hxt:x=t
   .subst hxt;rw[Ren.fq]at hs;cases hs;simp;omega
   .rw[dV x hx hxt]at hs;exact a4 x hx fX ((iK x hx SZ).resolve_right hxt) Z9 s hs
 .by_cases Fc:u=t
  .subst Fc;have:=hu VJ hm;subst this;refine⟨_,Ren.fq _ _ _,?_⟩;show pj P _ _ _ ((w.heap.push Ob)[w.heap.size]?);rw[qKW,if_pos rfl];exact ho
  .have h:=(iK u Mg hd).resolve_right Fc;obtain⟨r,hr,GN⟩:=H.g2 u Mg hc h VJ hm;refine⟨r,hle _ _ hr,?_⟩;show pj P _ _ _ ((w.heap.push Ob)[r.b]?);rw[agN _ (H.g1 u Mg hc h r hr).1];exact GN.mono hle
 .have Fc:u≠t:=λe=>hd ((hDD _).2 (.inr (by rw[e])));rw[dV u Mg Fc];exact H.g3 u Mg hc λh=>hd ((hDD _).2 (.inl h))
 .have Fc:u≠t:=λe=>B4 ob (e▸DV);rw[dV u Mg Fc];exact H.g4 u Mg hc ((iK u Mg hd).resolve_right Fc) B4
end
section
variable{E:Env}{P:Program}[Lay P]{K:cu}{W0:World}{ρ:Ren}{w:World}{ao:b9}{base n nt:Nat}{ops:Array Oper}{pre:Array Nat}{cops:List aQ}{l:List aP}{ez bP:Fr}{h0 h':aa}
variable{pY:Ren}{a0:Act}{L R:List aP}{lk nu:Fr}{hB:aa}{listed:Array Bool}{a:Act}
variable{t:aP}{L1 R1:List aP}{o:Oper}{dM:Fr}{h1:aa}{iA:Fr}{h2:aa}{Q:Exit->Act->World->Prop}
def XS (C:Ctx E P K ao base n nt ops pre cops l ez bP h0 h')(I:Inv E P K W0 ao base n nt pre l ez bP h0 pY a0 L R ρ lk nu hB listed a w)
 (D:Vj E ao base nt ops pre l ez bP h0 h' lk listed t L1 R1 o dM h1 iA h2) (hc:t.cls=.new) :
 wpOp P ops Q t.i (MR E P K W0 ao base n nt pre l ez bP h0 pY a0 (listed.setIfInBounds t.i true)) a w:=by
 have nQ:t∈l:=by rw[D.e];simp
 have lM:=(C.hP.at nQ).2;have Oe:lR t.o.op=.new:=by rw[<-lM];exact hc
 have htR:t∈R:=by
  have:=nQ;rw[I.e]at this;rcases qQE.1 this with h|h
  .exact absurd (I.i3 t h (.inl hc)) D.nd
  .exact h
 have x8:=I.H.g3 t htR hc D.nd;have jF:=λk=>tV (listed:=listed) (i:=t.i) (k:=k) D.lt;have hRl:∀u,u∈R->u∈l:=λu hu=>I.OP hu;have afu:∀u,u∈R->u.i<n:=λu hu=>C.dL u (hRl u hu);obtain⟨v,hO,ef,iK⟩:=ij D.r2;rcases iK with⟨ku,_⟩|⟨_,hr,_⟩|⟨ku,_⟩
 case inl=>rcases ku with h|h<;>(rw[hc]at h;cases h)
 case inr.inr=>rw[hc]at ku;cases ku
 have uniq:∀ob,rD E ao base l ez h0 t ob->hO=aa.push ⟨base+t.i,h1.t⟩ ob:=by
  rintro ob ⟨L2,R2,f2,hh2,v2,e2,r2,r3,_⟩;obtain⟨rfl,_⟩:=me C.hP D.e e2;rw[D.r1]at r2;cases r2;rw[hr]at r3;simp only[qQJ,qQA]at r3;exact r3.2
 rcases xM Oe hr with⟨hg,rfl,rfl⟩|⟨hg,wG,ob,rfl,rp⟩
 .
  have hB':eA E ao t.o lk hB=some (aT,hB):=by
   unfold eA;rw[<-D.same.guard,hg]
  refine jg C.hE C.bJ D.ho D.hc I.hf I.H.start hB' λv' w' bn k1 k2 k3=>⟨L,R,bn,_,nu,hB,I.still C D ef k1 k2 (by rw[hc];decide) ?_⟩;have H2:=I.H.after (D':=Dn listed) afu (by have:=C.hK;omega) k3 k1 λ_ _ _=>Iff.rfl;refine H2.QJ C.hP hRl htR jF (λob hm=>?_) ?_
  .have:=congrArg aa.next (uniq ob hm);simp[aa.bI]at this
  .rw[k3.fL _ (by have:=C.dL t nQ;show base+t.i<base+n;omega)];exact x8
 .
  obtain⟨nH,Xo,nP⟩:=gU D.hc;have ag2:Region.wanted o (yielded ops a.tmps)=true:=by rw[<-pH D.hc I.hf,<-D.same.guard,hg]
  cases CE:iJ E o.op with
  |none=>rw[CE]at nP;rw[nP] at Oe;cases Oe
  |some c =>
   rw[CE]at nP;have agC:t.o.op=c:=nP;rw[agC] at Oe wG
   have alA:aC c lk ⟨base+t.i,h1.t⟩=some (v,aa.push ⟨base+t.i,h1.t⟩ ob):=by
    rw[<-wG];have:=D.same.cU;rw[agC]at this;exact(wu this _).symm
   obtain⟨VH,e1,_,fR⟩:=OX (P:=P) C.hE CE Oe I.hf alA;have e2:=push_inj e1;subst e2;obtain⟨v',d,Ob,k,⟨hdr,eX⟩,gW⟩:=fR w;have DV:rD E ao base l ez h0 t ob:=⟨L1,R1,dM,h1,v,D.e,D.r1,hr,rp⟩;have hle:=Ren.iZ (⟨w.heap.size,0,k,mz⟩:RB) x8;obtain⟨g1,g2⟩:=gW _ hle (Ren.fq _ _ _);unfold wpOp;simp only[D.ho];rw[if_pos ag2];left;unfold Oper.wp;rw[eX,Oper.upon_value];refine⟨L,R,_,_,nu,hB,I.still C D ef hle g1 (by rw[hc];decide) ?_⟩;exact I.H.QK C.hP hRl afu C.hK htR jF (λVJ hm=>(push_inj (uniq VJ hm)).symm) DV x8 hdr g2
end
def Cw {α:Type}{p q:α->Bool}{i:α}:∀{l:List α},(∀x,x∈l->q x=true->p x=true)->i∈l->p i=true->q i=false->l.countP q<l.countP p
 |[],_,h,_,_=>by cases h
 |x :: l,hpq,h,hp,hq=>by
  have hle:l.countP q<=l.countP p:=List.countP_mono_left λy hy=>hpq y (qZZ _ hy);rw[List.countP_cons,List.countP_cons];rcases qQF.1 h with rfl|h
  .rw[hp,hq];simp;omega
  .have:=Cw (λy hy=>hpq y (qZZ _ hy)) h hp hq;have hx:=hpq x qKD;cases hqx:q x with
   |true=>rw[hx hqx];simp;omega
   |false=>simp;omega
section
variable{E:Env}{P:Program}[Lay P]{K:cu}{W0:World}{ρ:Ren}{w:World}{ao:b9}{base n nt:Nat}{ops:Array Oper}{pre:Array Nat}{cops:List aQ}{l:List aP}{ez bP:Fr}{h0 h':aa}
variable{pY:Ren}{a0:Act}{listed:Array Bool}{a:Act}
def left (listed:Array Bool)(n:Nat):Nat:=(List.range n).countP λj=>!listed.getD j false
def XP (C:Ctx E P K ao base n nt ops pre cops l ez bP h0 h'):∀(fuel:Nat)(listed:Array Bool)(a:Act)(w:World),MR E P K W0 ao base n nt pre l ez bP h0 pY a0 listed a w->left listed n<=fuel ->
 wpAny P .any ops (XQ P K W0 nt pY a0 ⟨.normal,bP,h'⟩) fuel listed a w:=by
 intro fuel
 induction fuel with
 |zero =>
  rintro listed a w ⟨L,R,ρ,lk,nu,hB,I⟩ hle
  have jm:∀j,j<n->Dn listed j:=by
   intro j hj;have h0:left listed n=0:=by omega
   have:=List.countP_eq_zero.1 h0 j (qJX.2 hj);unfold Dn;simpa using this
  refine⟨?_,Mh C I jm⟩;refine List.eq_nil_iff_forall_not_mem.2 λi hi=>?_;obtain⟨t,L1,R1,o,dM,h1,iA,h2,rfl,D⟩:=yp C I hi;exact D.nd (jm _ (by have:=D.lt;rw[I.size]at this;exact this))
 |succ fuel ih =>
  rintro listed a w ⟨L,R,ρ,lk,nu,hB,I⟩ hle;refine⟨λhr=>Mh C I λj hj=>Pt C.yL C.hn C.hP C.dL I.size hr j hj,λi hi=>?_⟩;obtain⟨t,L1,R1,o,dM,h1,iA,h2,rfl,D⟩:=yp C I hi;have htn:t.i<n:=by have:=D.lt;rw[I.size]at this;exact this
  have kv:listed.getD t.i false=false:=by
   have:=D.nd;unfold Dn at this;simpa using this
  have dL:left (listed.setIfInBounds t.i true) n<left listed n:=by
   unfold left;refine Cw (i:=t.i) (λx _ hx=>?_) (qJX.2 htn) (by rw[kv];rfl) ?_
   .cases hb:listed.getD x false with
    |false=>rfl
    |true =>
     have:=(tV (k:=x) D.lt).2 (.inl hb);unfold Dn at this;rw[this]at hx;cases hx
   .have:=(tV (k:=t.i) D.lt).2 (.inr rfl);unfold Dn at this;rw[this];rfl
  refine wpOp_mono (λa' w' hx=>ih _ a' w' hx (by omega)) ?_;have nQ:t∈l:=by rw[D.e];simp
  cases hc:t.cls with
  |pure=>exact TG C I D hc
  |read =>
   have:=nQ;rw[I.e]at this;rcases qQE.1 this with h|h
   .exact Oz C I D hc h
   .exact OA C I D hc h
  |new=>exact XS C I D hc
  |wr=>exact acz C I D hc
def iS (hE:bl E P)(bJ:fC P ao):tW E P ao:=by
 intro K W0 nt ops ma n l ρ fr h w a bP h' hd eX hn hf H;simp only[qi,qQV,qQQ]at hd;obtain⟨cops,Ab,hd⟩:=hd;split at hd
 case isFalse=>cases hd
 rename_i ht;simp only[qQQ]at hd;obtain⟨l',hl,hd⟩:=hd;cases hd;have hP:=Po ht hl
 have dL:∀t,t∈l->t.i<ops.size:=by
  intro t nQ;have h1:=(qQZ.1 (hP.at nQ).1).1;rw[mapM_length Ab]at h1;simpa using h1
 have C:Ctx E P K ao h.next ops.size nt ops (Region.before ops) cops l fr bP ⟨h.next+ops.size,h.t⟩ h':=⟨hE,bJ,rfl,rfl,Ab,hP,dL,eX,H.nx⟩
 have hD:∀k,¬Dn (Array.replicate ops.size false) k:=by
  intro k hk;unfold Dn at hk;rw[qZV,Array.getElem?_replicate]at hk;split at hk<;>simp at hk
 have hW:WR P K W0 ρ ⟨h.next+ops.size,h.t⟩ w:=by
  refine⟨H.os,H.tape,H.output,H.size,H.yP,H.eN,λm hm=>?_,H.obj,H.inj,?_,H.fL,H.gk,H.hid,H.lay⟩
  .have E':h.next+ops.size<=m:=hm;exact H.fresh m (by omega)
  .have:=H.nx;show K.n0<=h.next+ops.size;omega
 have I:Inv E P K W0 ao h.next ops.size nt (Region.before ops) l fr bP ⟨h.next+ops.size,h.t⟩ ρ a [] l ρ fr fr ⟨h.next+ops.size,h.t⟩ (Array.replicate ops.size false) a w:=by
  refine⟨rfl,rfl,by simp,λk hk=>absurd hk (hD k),λt ht=>(by cases ht),λt _ _=>hD _,λt ht=>(by cases ht),λd=>⟨λ⟨t,_,hk,_⟩=>absurd hk (hD _),λ_=>rfl⟩,hf,rfl,hn,
   ⟨hW,qQY _,λt _ _ hk=>absurd hk (hD _),λt _ _ hk=>absurd hk (hD _),λt _ _ _=>(H.fresh _ (by omega)).1,λt _ _ hk=>absurd hk (hD _)⟩,Ren.le_refl _⟩
 refine XP C ops.size _ a w ⟨_,_,_,_,_,_,I⟩ ?_;unfold left;exact qZC (List.countP_le_length) (by simp)
def lY (hE:bl E P)(Aj:∀f x,E.fn.get f=some x->(x.name == "runtime.NumGoroutine")=false) (To:zh E P) (lf n:Nat):fC P (ba E lf n) :=
 FC hE Aj To (λ_ bJ=>iS hE bJ) lf n
end
noncomputable def T.Uj {α:Type}(l:List α):Nat->T α->T α:=@List.rec α (λ_=>Nat->T α->T α) (λ_ t=>t) (λx _ ih i t=>ih (Nat.succ i) (t.set i x)) l
noncomputable def T.ofL {α:Type}(l:List α):T α:=T.Uj l 0 .nil
def T.Uk {α:Type}:∀(l:List α)(i:Nat)(t:T α)(k:Nat),(T.Uj l i t).get k=if i<=k/\k<i+l.length then l[k-i]? else t.get k:=by
 intro l
 induction l with
 |nil=>intro i t k;simp[T.Uj];intro h1 h2;omega
 |cons x l ih =>
  intro i t k;have e:T.Uj (x :: l) i t=T.Uj l (i+1) (t.set i x):=rfl;rw[e,ih];by_cases h1:i+1<=k/\k<i+1+l.length
  .rw[if_pos h1,if_pos (by simp;omega)];have:k-i=(k-(i+1))+1:=by omega
   rw[this];rfl
  .rw[if_neg h1];by_cases h2:k=i
   .subst h2;rw[T.get_set_same,if_pos (by simp)];simp
   .rw[T.cY _ _ (Ne.symm h2),if_neg (by simp;omega)]
def T.X9 {α:Type}(l:List α)(k:Nat):(T.ofL l).get k=l[k]?:=by
 unfold T.ofL;rw[T.Uk];by_cases h:k<l.length
 .rw[if_pos (by omega)];rfl
 .rw[if_neg (by omega),T.get_nil,qJL (by omega)]
def T.EB {α:Type}{t:T α}{l:List α}(h:t=T.ofL l){k:Nat}{x:α}(hx:t.get k=some x):l[k]?=some x:=by
 rw[h,T.X9]at hx;exact hx
noncomputable def pC (E:Env)(f:Field):Option (Nat×FK) :=
 if f.name = "_" then none else
 match E.mr f.type with
 |some .bool=>some (f.offset,.b)
 |some (.int _)=>some (f.offset,.i)
 |some .string=>some (f.offset,.s)
 |_=>none
noncomputable def CC (E:Env)(t:TypeId):Option (List (Nat×FK)) :=
 match E.mr t with
 |some (.struct fs)=>fs.toList.mapM (pC E)
 |_=>none
section
variable{E:Env}{P:Program}[Lay P](hE:∀t i,E.info t=some i->P.info? t=some i)
include hE
def xO {t:TypeId}{d:TypeDesc}(h:E.mr t=some d):P.underlying t=some d:=by
 unfold Env.mr at h;unfold Program.underlying;cases hi:E.info t with
 |none=>rw[hi]at h;cases h
 |some i =>
  rw[hi]at h;rw[hE _ _ hi];obtain⟨desc,str,size,bytes,hp,al,fa,z,cmp,ms⟩:=i;cases desc with
  |named n u =>
   simp only[qQC]at h;obtain⟨j,hj,rfl⟩:=h;simp[hE _ _ hj]
  |_=>simpa using h
omit hE in
def ui {f:Field}{o:Nat×FK}(h:pC E f=some o):f.name ≠ "_":=by
 unfold pC at h;split at h
 .cases h
 .assumption
omit hE in
def NX {f:Field}{o:Nat×FK}(h:pC E f=some o):o.1=f.offset:=by
 unfold pC at h;split at h
 .cases h
 .split at h<;>cases h<;>rfl
def mK {f:Field}{o:Nat×FK}(h:pC E f=some o)(w:World)(xs:Array Value){x:Value}(hx:xs[o.1]?=some x):(part f.type xs f.offset).run P w=.ok x w:=by
 rw[NX h]at hx
 have ha:(isAgg f.type).run P w=.ok false w:=by
  unfold pC at h;split at h
  .cases h
  unfold isAgg;split at h<;>first|(cases h;done)|(rename_i hu;simp only[Sem.run_bind,run_underlying (xO hE hu),Result.andThen_ok];rfl)
 unfold part;simp only[Sem.run_bind,ha,Result.andThen_ok,qZJ,if_false,hx,Sem.run_pure]
def Gt {f:Field}{o:Nat×FK}(h:pC E f=some o)(w:World)(d:Nat){x y:Value}{b:Bool}(hb:EqF o.2 x y b):(Op.equalIn (d+1) f.type x y).run P w=.ok b w:=by
 unfold pC at h;split at h
 .cases h
 split at h
 .rename_i hu;cases h;obtain⟨p,q,rfl,rfl,rfl⟩:=hb;exact run_equalIn_bool' w d _ _ _ (xO hE hu)
 .rename_i hu;cases h;obtain⟨k,p,q,rfl,rfl,rfl⟩:=hb;exact run_equalIn_int w d _ _ _ _ _ (xO hE hu)
 .rename_i hu;cases h;obtain⟨p,q,rfl,rfl,rfl⟩:=hb;exact run_equalIn_string w d _ _ _ (xO hE hu)
 .cases h
def BV (w:World)(d:Nat)(xs ys:Array Value):∀{fs:List Field}{eU:List (Nat×FK)}{b:Bool},fs.mapM (pC E)=some eU->tX xs ys eU b->(Op.eqFields (d+1) xs ys fs).run P w=.ok b w:=by
 intro fs
 induction fs with
 |nil =>
  intro eU b hm he;simp at hm;subst hm;cases he;rfl
 |cons f fs ih =>
  intro eU b hm he;simp only[qZF,qQV,qQQ]at hm;obtain⟨o,ho,l,hl,hm⟩:=hm;cases hm;cases he with
  |no hx hy hq =>
   simp only[Op.eqFields,ui ho,ne_eq,not_false_eq_true,if_true,Sem.run_bind,mK hE ho w xs hx,Result.andThen_ok,mK hE ho w ys hy,Gt hE ho w d hq,Bool.not_false,Sem.run_pure]
  |yes hx hy hq hr =>
   simp only[Op.eqFields,ui ho,ne_eq,not_false_eq_true,if_true,Sem.run_bind,mK hE ho w xs hx,Result.andThen_ok,mK hE ho w ys hy,Gt hE ho w d hq,Bool.not_true,qZJ,if_false];exact ih hl hr
def NW {f:Field}{o:Nat×FK}(h:pC E f=some o)(w:World)(d:Nat)(e:Bool)(x:Value):(Instr.checkKey e (d+1) f.type x).run P w=.ok () w:=by
 unfold pC at h;split at h
 .cases h
 unfold Instr.checkKey;split at h
 all_goals first|(cases h;done)|skip
 all_goals (rename_i hu;simp only[Sem.run_bind,run_underlying (xO hE hu),Result.andThen_ok,Sem.run_pure])
def kW {t:TypeId}{eU:List (Nat×FK)}(h:CC E t=some eU)(hg:P.eqGuardType P.depth t=false)(hp:P.stoodInHeld t=false):StructEq P t eU:=by
 unfold CC at h;split at h
 case h_2=>cases h
 rename_i fs hu;have hu:=xO hE hu;have hf:P.fieldsOf t=fs:=by unfold Program.fieldsOf;rw[hu]
 refine⟨hg,λw xs ys b hb=>?_,λw xs e hs=>?_⟩
 .rw[show(10000:Nat)=9999+1 from rfl,run_equalIn_struct w 9999 t xs ys (by rw[hf];exact hu) hp,hf];exact BV hE w 9998 xs ys h hb
 .rw[show(10000:Nat)=9999+1 from rfl];unfold Instr.checkKey;simp only[Sem.run_bind,run_underlying hu,Result.andThen_ok];rw[<-Array.forIn_toList];replace h:fs.toList.mapM (pC E)=some eU:=h;revert h hs;generalize fs.toList=l;clear hf hu;intro hs h
  induction l generalizing eU with
  |nil=>rfl
  |cons f l ih =>
   simp only[qZF,qQV,qQQ]at h;obtain⟨o,ho,l',hl,hm⟩:=h;cases hm;obtain⟨x,hx⟩:=qWZ.1 (hs o (by simp));simp only[List.forIn_cons,ui ho,ne_eq,not_false_eq_true,if_true,Sem.run_bind,mK hE ho w xs hx,Result.andThen_ok,show(9999:Nat)=9998+1 from rfl,NW hE ho w 9998 e x,Sem.run_pure];exact ih (λo ho=>hs o (by simp[ho])) hl
end
section
variable{E:Env}{P:Program}[Lay P]{K:cu}{W0:World}{ρ:Ren}{fr:Fr}{h:aa}{w:World}{a:Act}
def QA (P:Program)[Lay P](f:FuncId)(x:Fix):Prop :=
 Enters P f/\∀(w:World)(ρ:Ren)(args':Array Value),VL ρ x.args args'.toList->(∀b,Lay.dom P b->b<w.heap.size/\Lay.lay P b (w.heap[b]?))->(∀n,x.next<=n->ρ n=none)->(∀p,p∈x.rows->p.1<x.next/\∃r,ρ p.1=some r/\BJ P ρ r p.2.1 p.2.2 (w.heap[r.b]?)) ->
  Calls P f args' w λe w'=>∃v' bn,e=.returned v'/\ρ.le bn/\V bn x.v v'/\w'.os=w.os/\IG (Lay.dm P) w'.tape w.tape w'.drawn w.drawn/\w'.output=w.output/\w.heap.size<=w'.heap.size/\(∀b,b<w.heap.size->w'.heap[b]?=w.heap[b]?) /\
   (∀n,n<x.next->bn n=ρ n)/\(∀n,x.next'<=n->bn n=none)/\x.next<=x.next' /\
   (∀p,p∈x.new->x.next<=p.1/\p.1<x.next'/\∃r,bn p.1=some r/\w.heap.size<=r.b/\pj P bn r (.cells p.2.1 p.2.2) (w'.heap[r.b]?)) /\
   (∀p q r s,p∈x.new->q∈x.new->bn p.1=some r->bn q.1=some s->r.b=s.b->p.1=q.1)
def Ch:∀{l:List (Nat×List ae×TypeId)}{h:aa},sC l h=true->∀p,p∈l->∃own,uU (h.get p.1) p.2.1 p.2.2 own:=by
 intro l
 induction l with
 |nil=>intro h _ p hp;cases hp
 |cons q l ih =>
  intro h hs p hp;have ar:aO (tb (eJ (h.get q.1) λc e _=>some (and (Nat.beq e q.2.2) (il (dz 20) c q.2.1)))) (sC l h) false=true:=hs;cases ht:tb (eJ (h.get q.1) λc e _=>some (and (Nat.beq e q.2.2) (il (dz 20) c q.2.1))) with
  |false=>rw[ht]at ar;cases ar
  |true =>
   rw[ht]at ar;have ar:sC l h=true:=ar;rcases qQF.1 hp with rfl|hp
   .obtain⟨c,e,own,di,hk⟩:=fw (iy ht);simp only[qQJ,qZQ,qZX]at hk;obtain⟨rfl,hc⟩:=hk;have:=gD (λx y=>ji 20 x y) hc;exact⟨own,by rw[<-this];exact di⟩
   .exact ih ar p hp
def yr:∀(l:List (Nat×List ae×TypeId))(t:T aE)(n:Nat),(∃p,p∈l/\p.1=n/\(ou l t).get n=some (.cells p.2.1 p.2.2))\/((∀p,p∈l->p.1≠n)/\(ou l t).get n=t.get n):=by
 intro l
 induction l with
 |nil=>intro t n;exact .inr ⟨(λp hp=>nomatch hp),rfl⟩
 |cons q l ih =>
  intro t n;have e:ou (q :: l) t=ou l (t.set q.1 (.cells q.2.1 q.2.2)):=rfl;rw[e];rcases ih (t.set q.1 (.cells q.2.1 q.2.2)) n with⟨p,hp,hn,hg⟩|⟨dV,hg⟩
  .exact .inl ⟨p,qZZ _ hp,hn,hg⟩
  .by_cases hq:q.1=n
   .refine .inl ⟨q,by simp,hq,?_⟩;rw[hg,<-hq,T.get_set_same]
   .refine .inr ⟨λp hp=>?_,?_⟩
    .rcases qQF.1 hp with rfl|hp
     .exact hq
     .exact dV p hp
    .rw[hg,T.cY _ _ hq]
def adp (H:WR P K W0 ρ h w){n:Nat}{l:List ae}{e:TypeId}{own:Bool}(hr:uU (h.get n) l e own):∃r,ρ n=some r/\BJ P ρ r l e (w.heap[r.b]?):=by
 rcases hr with⟨rfl,hb⟩|⟨rfl,hb⟩
 .obtain⟨r,h1,_,h2,_⟩:=H.obj n _ hb trivial;exact⟨r,h1,h2.hold⟩
 .obtain⟨r,h1,_,h2⟩:=H.obj n _ hb trivial;exact⟨r,h1,h2⟩
def z8 {f:FuncId}{x:Fix}(hf:QA P f x){args:List ae}{v:ae}{h':aa}(hp:tP (.fix x) args h=some (v,h')) :
 Enters P f/\∀(K:cu)(W0:World)(ρ:Ren)(w:World)(args':Array Value),VL ρ args args'.toList->WR P K W0 ρ h w->Calls P f args' w (jY P K W0 ρ v h'):=by
 refine⟨hf.1,λK W0 ρ w args' dG H=>?_⟩;have jz:aO (and (il (dz 20) args x.args) (and (Nat.beq h.next x.next) (sC x.rows h))) (some (x.v,(⟨x.next',ou x.new h.t⟩:aa))) none=some (v,h'):=hp;rw[aG]at jz;obtain⟨hc,jz⟩:=jz;simp only[qZQ,qZX]at hc;obtain⟨ha,ra,yf⟩:=hc;cases jz;have ha:=gD (λx y=>ji 20 x y) ha;subst ha;have yf:=Ch yf;refine(hf.2 w ρ args' dG (λb hl=>⟨qQG (H.yP b (H.lay b hl).1) H.size,by rw[H.eN b (H.lay b hl).1];exact(H.lay b hl).2⟩) (λn hn=>(H.fresh n (by omega)).1) (λp hp=>?_)).mono ?_
 .obtain⟨own,di⟩:=yf p hp;obtain⟨r,h1,h2⟩:=adp H di;refine⟨?_,r,h1,h2⟩;by_cases dL:p.1<x.next
  .exact dL
  .have:=(H.fresh p.1 (by omega)).1;rw[h1]at this;cases this
 .rintro e w' ⟨v',bn,rfl,hle,hv,Z0,Ty,J1,kF,Ac,hold,abR,CK,fR,abU⟩;refine⟨v',bn,rfl,hle,hv,?_⟩
  have jx:∀n o,(ou x.new h.t).get n=some o->(∃p,p∈x.new/\p.1=n/\o=.cells p.2.1 p.2.2)\/((∀p,p∈x.new->p.1≠n)/\h.get n=some o):=by
   intro n o hn;rcases yr x.new h.t n with⟨p,hp,Mf,hg⟩|⟨dV,hg⟩
   .rw[hg]at hn;cases hn;exact .inl ⟨p,hp,Mf,rfl⟩
   .rw[hg]at hn;exact .inr ⟨dV,hn⟩
  have Mc:∀n o,h.get n=some o->o.live->∃r,ρ n=some r/\bn n=some r/\r.b<w.heap.size:=by
   intro n o hn hl;obtain⟨r,hr,_,_⟩:=H.obj n o hn hl;exact⟨r,hr,hle _ _ hr,H.lt hn hl hr⟩
  refine⟨Z0.trans H.os,Ty.trans H.tape,J1.trans H.output,qZC H.size kF,H.yP,λb hb=>?_,λn hn=>?_,λn o hn hl=>?_,λn m o p r s hn ho hm hl hr hs e=>?_,?_,λn hn=>?_,H.gk,λn o r hn hl hr hg=>?_,H.lay⟩
  .rw[Ac b (qQG (H.yP b hb) H.size)];exact H.eN b hb
  .refine⟨abR n hn,?_⟩;show(ou x.new h.t).get n=none;rcases yr x.new h.t n with⟨p,hp,Mf,_⟩|⟨_,hg⟩
   .have Fa:x.next'<=n:=hn;have:=(fR p hp).2.1;omega
   .rw[hg];have Fa:x.next'<=n:=hn;exact(H.fresh n (by omega)).2
  .rcases jx n o hn with⟨p,hp,rfl,rfl⟩|⟨_,hn⟩
   .obtain⟨_,_,r,hr,hb,GN⟩:=fR p hp;exact⟨r,hr,λ_ hk=>by have:=H.yP _ hk;have:=H.size;omega,GN⟩
   .obtain⟨r,hr,hk,GN⟩:=H.obj n o hn hl;refine⟨r,hle _ _ hr,hk,?_⟩;rw[Ac _ (H.lt hn hl hr)];exact GN.mono hle
  .rcases jx n o hn with⟨p1,Fb,rfl,rfl⟩|⟨_,hn⟩
   .obtain⟨_,_,r1,rf,DQ,_⟩:=fR p1 Fb;rw[rf]at hr;cases hr;rcases jx m p hm with⟨p2,pK,rfl,rfl⟩|⟨_,hm⟩
    .exact abU p1 p2 r s Fb pK rf hs e
    .obtain⟨s1,_,tw,dL⟩:=Mc m p hm hl;rw[tw]at hs;cases hs;omega
   .obtain⟨r1,rf,acd,agp⟩:=Mc n o hn ho.live;rw[acd]at hr;cases hr;rcases jx m p hm with⟨p2,pK,rfl,rfl⟩|⟨_,hm⟩
    .obtain⟨_,_,s1,tw,DQ,_⟩:=fR p2 pK;rw[tw]at hs;cases hs;omega
    .obtain⟨s1,tw,alv,dL⟩:=Mc m p hm hl;rw[alv]at hs;cases hs;exact H.inj _ _ _ _ _ _ hn ho hm hl rf tw e
  .have:=H.nx;show K.n0<=x.next';omega
  .rw[hold n (by have:=H.nx;omega)];exact H.fL n hn
  .rcases jx n o hn with⟨p1,Fb,rfl,rfl⟩|⟨_,hn⟩
   .obtain⟨_,_,r1,rf,DQ,_⟩:=fR p1 Fb;rw[rf]at hr;cases hr;have:=H.yP _ (H.gk _ hg);have:=H.size;omega
   .obtain⟨r1,rf,acd,agp⟩:=Mc n o hn hl;rw[acd]at hr;cases hr;exact H.hid _ _ _ hn hl rf hg
end
noncomputable def sB (l:List (Nat×List ae×TypeId)):T aE->T aE :=
 @List.rec (Nat×List ae×TypeId) (λ_=>T aE->T aE) (λt=>t) (λp _ ih t=>ih (t.set p.1 (.ro p.2.1 p.2.2))) l
noncomputable def Fix.h0 (x:Fix):aa:=⟨x.next,sB x.rows .nil⟩
noncomputable def y9 (lo hi:Nat)(l:List (Nat×List ae×TypeId))(h:aa):Bool :=
 @List.rec (Nat×List ae×TypeId) (λ_=>Bool) true (λp _ ih=>aO (and (Nat.ble lo p.1) (and (Nat.blt p.1 hi) (tb (onCells (h.get p.1) λc e=>some (and (Nat.beq e p.2.2) (il (dz 20) c p.2.1)))))) ih false) l
noncomputable def Fix.done (x:Fix)(r:R):Bool :=
 tb (ob r λr=>some (and (dz 20 r.1 x.v) (and (Nat.ble r.2.next x.next') (and (Nat.ble x.next x.next') (y9 x.next x.next' x.new r.2)))))
def El:∀{l:List (Nat×List ae×TypeId)}{lo hi:Nat}{h:aa},y9 lo hi l h=true->∀p,p∈l->lo<=p.1/\p.1<hi/\h.get p.1=some (.cells p.2.1 p.2.2):=by
 intro l
 induction l with
 |nil=>intro lo hi h _ p hp;cases hp
 |cons q l ih =>
  intro lo hi h hs p hp;have ar:aO (and (Nat.ble lo q.1) (and (Nat.blt q.1 hi) (tb (onCells (h.get q.1) λc e=>some (and (Nat.beq e q.2.2) (il (dz 20) c q.2.1)))))) (y9 lo hi l h) false=true:=hs;cases ht:and (Nat.ble lo q.1) (and (Nat.blt q.1 hi) (tb (onCells (h.get q.1) λc e=>some (and (Nat.beq e q.2.2) (il (dz 20) c q.2.1))))) with
  |false=>rw[ht]at ar;cases ar
  |true =>
   rw[ht]at ar;have ar:y9 lo hi l h=true:=ar;rcases qQF.1 hp with rfl|hp
   .simp only[qZQ,qZB,qJE]at ht;obtain⟨h1,h2,h3⟩:=ht;obtain⟨c,e,hc,hk⟩:=ki.1 (iy h3);simp only[qQJ,qZQ,qZX]at hk;obtain⟨rfl,hk⟩:=hk;have:=gD (λx y=>ji 20 x y) hk;exact⟨h1,h2,by rw[<-this];exact hc⟩
   .exact ih ar p hp
def KY:∀(l:List (Nat×List ae×TypeId))(t:T aE)(n:Nat)(o:aE),(sB l t).get n=some o->(∃p,p∈l/\p.1=n/\o=.ro p.2.1 p.2.2)\/t.get n=some o:=by
 intro l
 induction l with
 |nil=>intro t n o h;exact .inr h
 |cons q l ih =>
  intro t n o h;have e:sB (q :: l) t=sB l (t.set q.1 (.ro q.2.1 q.2.2)):=rfl;rw[e]at h;rcases ih _ n o h with⟨p,hp,hn,ho⟩|hg
  .exact .inl ⟨p,qZZ _ hp,hn,ho⟩
  .by_cases hq:q.1=n
   .rw[<-hq,T.get_set_same]at hg;cases hg;exact .inl ⟨q,by simp,hq,rfl⟩
   .rw[T.cY _ _ hq]at hg;exact .inr hg
def WR.start {P:Program}[Lay P]{w:World}{ρ:Ren}{next:Nat}{rows:List (Nat×List ae×TypeId)}(JW:∀b,Lay.dom P b->b<w.heap.size/\Lay.lay P b (w.heap[b]?))(ru:∀n,next<=n->ρ n=none)
 (yf:∀p,p∈rows->p.1<next/\∃r,ρ p.1=some r/\BJ P ρ r p.2.1 p.2.2 (w.heap[r.b]?)) :
 WR P ⟨λb=>b<w.heap.size,next,ρ,λ_=>False⟩ w ρ ⟨next,sB rows .nil⟩ w:=by
 have jx:∀n o,(sB rows .nil).get n=some o->∃p,p∈rows/\p.1=n/\o=.ro p.2.1 p.2.2:=by
  intro n o hn;rcases KY _ _ _ _ hn with h|h
  .exact h
  .rw[T.get_nil]at h;cases h
 refine⟨rfl,IG.refl _ _ _,rfl,qQY _,λ_ h=>h,λ_ _=>rfl,λn hn=>⟨ru n hn,?_⟩,λn o hn hl=>?_,λn m o p r s hn ho=>?_,qQY _,λ_ _=>rfl,λ_ h=>h.elim,λ_ _ _ _ _ _ h=>h,JW⟩
 .show(sB rows .nil).get n=none;cases hg:(sB rows .nil).get n with
  |none=>rfl
  |some o =>
   obtain⟨p,hp,rfl,_⟩:=jx n o hg;have:=(yf p hp).1;have Fa:next<=p.1:=hn
   omega
 .obtain⟨p,hp,rfl,rfl⟩:=jx n o hn;obtain⟨_,r,hr,hR⟩:=yf p hp;exact⟨r,hr,λh=>h.elim,hR⟩
 .obtain⟨q,_,_,rfl⟩:=jx n o hn;exact ho.elim
def uh {P:Program}[Lay P]{ao:b9}(bJ:fC P ao){f:FuncId}{x:Fix}(h:x.done (ao f x.args x.h0)=true):QA P f x:=by
 unfold Fix.done at h;have h:=iy h;rw[av]at h;obtain⟨⟨v,h'⟩,eX,hk⟩:=h;simp only[qQJ,qZQ,qZB]at hk;obtain⟨hv,hn,CK,fR⟩:=hk;have hv:v=x.v:=ji 20 _ _ hv;subst hv;have fR:=El fR;have hc:=bJ f x.args x.h0 _ h' eX;refine⟨hc.1,λw ρ args' dG JW ru yf=>?_⟩;refine(hc.2 _ w ρ w args' dG (WR.start JW ru yf)).mono ?_;rintro e w' ⟨v',bn,rfl,hle,tM,H⟩;refine⟨v',bn,rfl,hle,tM,H.os,H.tape,H.output,H.size,λb hb=>H.eN b hb,λn hn=>H.fL n hn,λn Fa=>(H.fresh n (by omega)).1,CK,λp hp=>?_,λp q r s hp hq hr hs e=>?_⟩
 .obtain⟨h1,h2,h3⟩:=fR p hp;obtain⟨r,hr,hk,ho⟩:=H.obj _ _ h3 trivial;refine⟨h1,h2,r,hr,?_,ho⟩;exact Nat.le_of_not_lt (hk trivial)
 .exact H.inj _ _ _ _ _ _ (fR p hp).2.2 trivial (fR q hq).2.2 trivial hr hs e
noncomputable def cj:b9:=λ_ _ _=>none
section
variable{E:Env}{P:Program}[Lay P]{K:cu}{W0:World}{ρ:Ren}{fr:Fr}{h:aa}{w:World}{a:Act}{F:Fence}{n:Nat}
def KK {c:dS}{r:ae×aa}(hs:Pg E cj c fr h=some r):aC c fr h=some r:=by
 cases c with
 |call f as =>
  exfalso;have ar:rW cj f as fr h=some r:=hs;unfold rW at ar;rw[oa]at ar;obtain⟨g,x,y,_,ar⟩:=ar;rw[aG]at ar;cases ar.2
 |invoke x nm as =>
  exfalso;have ar:lg E cj x nm as fr h=some r:=hs;unfold lg at ar;generalize aJ x fr=q at ar;cases q<;>first|(cases ar;done)|skip
  rename_i t v;have qx:(ob (E.qD t nm) λm=>ob (sw E t m.2 v h) λv=>cj m.1 (v :: jw as fr) h)=some r:=ar;rw[av]at qx;obtain⟨m,_,qx⟩:=qx;rw[av]at qx;obtain⟨_,_,qx⟩:=qx;cases qx
 |_=>exact hs
def UL (hF:∀f,F.fn f)(hE:bl E P){nt:Nat}{ops:Array Oper}{o:Oper}{co:aQ}(hc:gi E nt ops o=some co)
 (hf:FR ρ fr a.tmps) (H:WR P K W0 ρ h w) {v:ae} {h':aa} (hs:eA E cj co fr h=some (v,h')) {next:Act->World->Prop} {Q:Exit->Act->World->Prop}
 (hn:∀v' w' bn,ρ.le bn->V bn v v'->WR P K W0 bn h' w'->next (a.put o.dst v') w') :
 if Region.wanted o (yielded ops a.tmps) then o.wpIn F n P a w next Q else(∀f,o.about P w a.eval=some f->F.fn f)/\next (a.put o.dst undef) w:=by
 obtain⟨nH,hd,nP⟩:=gU hc;unfold eA at hs;rw[pH hc hf,bq]at hs;split at hs
 .rename_i hw;rw[if_pos hw];cases CE:iJ E o.op with
  |none =>
   rw[CE]at nP;rw[nP]at hs;cases hs
  |some c =>
   rw[CE]at nP;rw[nP]at hs;have ar:=KK hs;obtain⟨nx,v',w',bn,h1,h2,h3,h4,h5⟩:=Mt hE o.op rfl CE hf H ar;refine⟨λf _=>hF f,?_⟩
   have kv:∀c,o.op≠.defer c:=by
    intro c e;rw[e] at CE;cases CE
   rw[Oper.semAt_plain F a.eval o kv,h1];rcases h2 with rfl|⟨rfl,rfl⟩
   .exact hn _ _ _ h3 h4 h5
   .exact hn _ _ _ h3 h4 h5
 .rename_i hw;rw[if_neg hw];cases hs;exact⟨λf _=>hF f,hn undef w ρ (Ren.le_refl _) (wx _) H⟩
def NQ (P:Program)[Lay P](K:cu)(W0:World)(nt:Nat)(ρ:Ren)(a0:Act)(bP:Fr)(h':aa)(a:Act)(w:World):Prop :=
 a.defers=a0.defers/\nt<=a.tmps.size/\∃bn,ρ.le bn/\FR bn bP a.tmps/\WR P K W0 bn h' w
def td (hF:∀f,F.fn f)(hE:bl E P){nt:Nat}{ops:Array Oper}{Q:Exit->Act->World->Prop}{rest:List Nat}:∀(l:List aQ)(is:List Nat),is.mapM (λi=>(ops[i]?).bind (gi E nt ops))=some l ->
 ∀{ρ:Ren}{fr:Fr}{h:aa}{w:World}{a:Act}{bP:Fr}{h':aa},nt<=a.tmps.size->FR ρ fr a.tmps->WR P K W0 ρ h w->cP E cj l fr h=some (bP,h') ->
  (∀a1 w1,NQ P K W0 nt ρ a bP h' a1 w1->wpOpsIn F n P ops Q rest a1 w1)->wpOpsIn F n P ops Q (is++rest) a w:=by
 intro l
 induction l with
 |nil =>
  intro is w9 ρ fr h w a bP h' hn hf H hs hQ;cases is with
  |nil =>
   simp only[cP,qQJ,qQA]at hs;obtain⟨rfl,rfl⟩:=hs;exact hQ a w ⟨rfl,hn,ρ,Ren.le_refl _,hf,H⟩
  |cons i is =>
   simp only[qZF,qQV,qQQ]at w9;obtain⟨_,_,_,_,h3⟩:=w9;cases h3
 |cons c l ih =>
  intro is w9 ρ fr h w a bP h' hn hf H hs hQ;cases is with
  |nil=>simp at w9
  |cons i is =>
   simp only[qZF,qQV,qQQ]at w9;obtain⟨co,⟨o,ho,hc⟩,l',h2,h3⟩:=w9;cases h3;have ar:(ob (eA E cj c fr h) λr=>cP E cj l (dB c.dst fr r.1) r.2)=some (bP,h'):=hs;rw[av]at ar;obtain⟨⟨v,h1⟩,hr,ar⟩:=ar;obtain⟨nH,hd,_⟩:=gU hc;show wpOpsIn F n P ops Q (i :: (is++rest)) a w;unfold wpOpsIn;rw[ho];refine UL hF hE hc hf H hr λv' w' bn k1 k2 k3=>?_;have Xp:FR bn (dB c.dst fr v) (a.put o.dst v').tmps:=by rw[nH];exact FR.put (hf.mono k1) hd hn k2
   refine ih is h2 (a:=a.put o.dst v') (by rw[nf];exact hn) Xp k3 ar λa1 w1 hq=>hQ a1 w1 ?_;obtain⟨e2,e3,yW,e4,e5,e6⟩:=hq;exact⟨by rw[e2,lD],e3,yW,Ren.le_trans k1 e4,e5,e6⟩
def lO:Code->Bool
 |.skip|.ret|.exit _|.label _=>true
 |.region _ _ d=>!d
 |.seq x y=>lO x && lO y
 |.cond _ x y=>lO x && lO y
 |.block _ x=>lO x
 |_=>false
def LN (hF:∀f,F.fn f)(hE:bl E P)(lf:Nat){nt:Nat}{dy:List (Nat×List Nat)} :
 ∀(c:Code),lO c=true->∀{cc:ax},bR E nt dy c=some cc->∀{ρ:Ren}{fr:Fr}{h:aa}{w:World}{a:Act}{o:Out},nt<=a.tmps.size->FR ρ fr a.tmps->WR P K W0 ρ h w->exec E cj lf cc fr h=some o ->
  c.wpIn F n P (XQ P K W0 nt ρ a o) a w:=by
 intro c
 induction c with
 |skip =>
  intro _ cc hc ρ fr h w a o hn hf H hs;cases hc;cases hs;exact wpIn_skip ⟨rfl,rfl,hn,ρ,Ren.le_refl _,hf,H⟩
 |label l =>
  intro _ cc hc ρ fr h w a o hn hf H hs;cases hc;cases hs;exact wpIn_label ⟨rfl,rfl,hn,ρ,Ren.le_refl _,hf,H⟩
 |ret =>
  intro _ cc hc ρ fr h w a o hn hf H hs;cases hc;cases hs;exact wpIn_ret ⟨rfl,rfl,hn,ρ,Ren.le_refl _,hf,H⟩
 |exit id =>
  intro _ cc hc ρ fr h w a o hn hf H hs;cases hc;cases hs;exact wpIn_exit ⟨rfl,rfl,hn,ρ,Ren.le_refl _,hf,H⟩
 |region id ops draw =>
  intro hp cc hc ρ fr h w a o hn hf H hs;unfold bR at hc;cases draw with
  |true=>cases hp
  |false =>
   simp only[qZJ,if_false,qQV,qQQ]at hc;obtain⟨l,hl,hc⟩:=hc;cases hc;have ar:(ob (cP E cj l fr h) λp=>some (⟨.normal,p.1,p.2⟩:Out))=some o:=hs;rw[av]at ar;obtain⟨⟨bP,h'⟩,hr,ho⟩:=ar;cases ho;refine wpIn_region ?_;have:=td (n:=n) (Q:=XQ P K W0 nt ρ a ⟨.normal,bP,h'⟩) (rest:=[]) hF hE l _ (qP _ ops hl) hn hf H hr (λa1 w1 hq=>⟨rfl,hq.1,hq.2.1,hq.2.2⟩);simpa using this
 |seq x y ihx Kb =>
  intro hp cc hc ρ fr h w a o hn hf H hs;have hp:(lO x && lO y)=true:=hp;rw[qZQ]at hp;simp only[bR,qQV,qQQ]at hc;obtain⟨cx,hx,cy,hy,hc⟩:=hc;cases hc;have ar:andThen (exec E cj lf cx fr h) (exec E cj lf cy)=some o:=hs;obtain⟨o1,h1,h2⟩:=qc ar;refine wpIn_seq (wpIn_mono (ihx hp.1 hx hn hf H h1) λe a1 w1 hq=>?_);rcases h2 with⟨he,h2⟩|⟨he,rfl⟩
  .have e1:e=.normal:=by rw[hq.e,he];rfl
   subst e1;obtain⟨ju,k1,k2,k3⟩:=hq.rest;exact wpIn_mono (Kb hp.2 hy hq.size k2 k3 h2) λe a2 w2 wF=>wF.trans k1 hq.defers
  .have e1:e≠.normal:=by rw[hq.e];exact λh=>he (fe.uE.1 h)
   cases e<;>first|exact absurd rfl e1|exact hq
 |cond x y z Kb ihz =>
  intro hp cc hc ρ fr h w a o hn hf H hs;have hp:(lO y && lO z)=true:=hp;rw[qZQ]at hp;simp only[bR,qQV,qQQ]at hc;obtain⟨cx,hx,cy,hy,cz,hz,hc⟩:=hc;cases hc;have ar:(bK (aJ cx fr) λb=>aO b (exec E cj lf cy fr h) (exec E cj lf cz fr h))=some o:=hs;rw[eh]at ar;obtain⟨b,hb,ar⟩:=ar;have vx:=aB hf hx;rw[hb]at vx;refine wpIn_cond vx.iD ?_;cases b with
  |true=>exact Kb hp.1 hy hn hf H ar
  |false=>exact ihz hp.2 hz hn hf H ar
 |block id body ih =>
  intro hp cc hc ρ fr h w a o hn hf H hs;simp only[bR,qQV,qQQ]at hc;obtain⟨cx,hx,hc⟩:=hc;cases hc;have ar:mf id (exec E cj lf cx fr h)=some o:=hs;unfold mf at ar;rw[av]at ar;obtain⟨o1,h1,h2⟩:=ar;refine wpIn_block (wpIn_mono (ih hp hx hn hf H h1) λe a1 w1 hq=>?_);have he:=hq.e;obtain⟨e1,f1,ZG⟩:=o1;cases e1 with
  |normal=>cases h2;rw[he];exact hq.re rfl rfl rfl
  |ret=>cases h2;rw[he];exact hq.re rfl rfl rfl
  |exit j =>
   have tH:aO (Nat.beq j id) (some (⟨.normal,f1,ZG⟩:Out)) (some ⟨.exit j,f1,ZG⟩)=some o:=h2;rw[bq]at tH;rw[he];show(if j=id then XQ P K W0 nt ρ a o .normal a1 w1 else XQ P K W0 nt ρ a o (.exit j) a1 w1);split at tH
   .rename_i hj;rw[qZX]at hj;rw[if_pos hj];cases tH;exact hq.re rfl rfl rfl
   .rename_i hj;rw[qZX]at hj;rw[if_neg hj];cases tH;exact hq.re rfl rfl rfl
 |_ =>
  intro hp;cases hp
end
section
variable{E:Env}{P:Program}[Lay P]{K:cu}{W0:World}{ρ:Ren}{fr:Fr}{h:aa}{w:World}{a:Act}
def WR.other (H:WR P K W0 ρ h w){b:Nat}{o:Obj}(hk:¬K b)(tI:∀m p s,h.get m=some p->p.live->ρ m=some s->s.b≠b):WR P K W0 ρ h (w.putObj b o):=by
 have dV:∀c,c≠b->(w.putObj b o).heap[c]?=w.heap[c]?:=λc hc=>by
  show(w.heap.setIfInBounds b o)[c]?=_;rw[qVM (Ne.symm hc)]
 refine⟨H.os,H.tape,H.output,by show _<=(w.heap.setIfInBounds b o).size;simp;exact H.size,H.yP,λc hc=>?_,H.fresh,λn x hn hl=>?_,H.inj,H.nx,H.fL,H.gk,H.hid,H.lay⟩
 .rw[dV c (λe=>hk (e▸hc))];exact H.eN c hc
 .obtain⟨r,hr,hkr,ho⟩:=H.obj n x hn hl;exact⟨r,hr,hkr,by rw[dV _ (tI n x r hn hl hr)];exact ho⟩
def WR.bump (H:WR P K W0 ρ h w){m:Nat}(hm:h.next<=m):WR P K W0 ρ ⟨m,h.t⟩ w :=
 ⟨H.os,H.tape,H.output,H.size,H.yP,H.eN,λn hn=>H.fresh n (qZC hm hn),H.obj,H.inj,qZC H.nx hm,H.fL,H.gk,H.hid,H.lay⟩
structure LW (P:Program)[Lay P](K:cu)(W0:World)(ρ:Ren)(h:aa)(w:World)(l D:Nat)(rec:Loop):Prop where
 wr:WR P K W0 ρ h w
 ho:∀b,(b=l\/b=D)->b<w.heap.size/\¬K b
 hid:∀m p s,h.get m=some p->p.live->ρ m=some s->¬(s.b=l\/s.b=D)
 hl:w.heap[l]?=some (.loop rec)
 hD:w.heap[D]?=some (.deferred (some []))
noncomputable def LK (K:cu)(ρ:Ren)(h:aa)(l D:Nat):cu:=⟨λb=>K b\/(b=l\/b=D),h.next,ρ,λb=>K.g b\/(b=l\/b=D)⟩
def LW.go {l D:Nat}{rec:Loop}(H:LW P K W0 ρ h w l D rec):WR P (LK K ρ h l D) w ρ h w :=
 H.wr.MB (qQY _) (G:=λb=>b=l\/b=D) (λb hb=>(H.ho b hb).1) H.hid
def LW.back {l D:Nat}{rec:Loop}(H:LW P K W0 ρ h w l D rec){bn:Ren}{h':aa}{w':World}(H':WR P (LK K ρ h l D) w bn h' w'):LW P K W0 bn h' w' l D rec:=by
 refine⟨H.wr.UG H' (λb hb=>.inl hb) (λb hb=>.inl hb) H.wr.nx (λ_ _=>rfl),λb hb=>⟨qQG (H.ho b hb).1 H'.size,(H.ho b hb).2⟩,λm p s hm hl hs hb=>H'.hid m p s hm hl hs (.inr hb),?_,?_⟩
 .rw[H'.eN l (.inr (.inl rfl))];exact H.hl
 .rw[H'.eN D (.inr (.inr rfl))];exact H.hD
def LW.put {l D:Nat}{rec rec':Loop}(H:LW P K W0 ρ h w l D rec)(dV:l≠D):LW P K W0 ρ h (w.putObj l (.loop rec')) l D rec':=by
 have hs:(w.putObj l (.loop rec')).heap.size=w.heap.size:=by show(w.heap.setIfInBounds l _).size=_;simp
 refine⟨H.wr.other (H.ho l (.inl rfl)).2 λm p s hm Ti hs e=>H.hid m p s hm Ti hs (.inl e),λb hb=>⟨by rw[hs];exact(H.ho b hb).1,(H.ho b hb).2⟩,H.hid,World.putObj_heap_same (H.ho l (.inl rfl)).1,?_⟩;rw[World.putObj_heap_other (Ne.symm dV)];exact H.hD
def LW.start (H:WR P K W0 ρ h w)(rec:Loop):LW P K W0 ρ h ((w.alloc (.deferred (some []))).alloc (.loop rec)) (w.heap.size+1) w.heap.size rec:=by
 have h1:=(H.alloc (.deferred (some []))).alloc (.loop rec);have iq:((w.alloc (.deferred (some []))).alloc (.loop rec)).heap.size=w.heap.size+2:=by simp
 refine⟨h1,λb hb=>⟨by rw[iq];omega,λhk=>?_⟩,λm p s hm hl hs hb=>?_,?_,?_⟩
 .have:=H.yP b hk;have:=H.size;omega
 .have:=H.lt hm hl hs;omega
 .have:=World.alloc_heap_new (w.alloc (.deferred (some []))) (.loop rec);rwa [World.size_alloc]at this
 .exact(Below.heap_alloc _ _ _ (by simp)).trans (World.alloc_heap_new w _)
def LW.bump {l D:Nat}{rec:Loop}(H:LW P K W0 ρ h w l D rec){m:Nat}(hm:h.next<=m):LW P K W0 ρ ⟨m,h.t⟩ w l D rec :=
 ⟨H.wr.bump hm,H.ho,H.hid,H.hl,H.hD⟩
def LW.rB {l D:Nat}{rec:Loop}(H:LW P K W0 ρ h w l D rec){m:Nat}{r:RB}(hm:ρ m=none)(dL:m<h.next)(hn:K.n0<=m):LW P K W0 (ρ.rB m r) h w l D rec:=by
 refine⟨H.wr.rB hm dL hn,H.ho,λk p s hk hl hs=>?_,H.hl,H.hD⟩;obtain⟨s',ar,_,_⟩:=H.wr.obj k p hk hl;have:k≠m:=λe=>by rw[e,hm]at ar;cases ar
 rw[Ren.np _ _ this]at hs;exact H.hid k p s hk hl hs
end
end Go.AX
