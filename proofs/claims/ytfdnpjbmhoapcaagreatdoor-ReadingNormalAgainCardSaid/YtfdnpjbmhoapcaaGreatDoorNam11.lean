/-
  Contracts of functions of this seat, for every input that each theorem names.
-/
import Derived.Test.YtfdnpjbmhoapcaaGreatDoorNam10
import Derived.Test.YtfdnpjbmhoapcaaGreatDoorNax1
set_option linter.all false
set_option maxHeartbeats 32000000
set_option maxRecDepth 10000
namespace Go.AX
open Go Go.Proofs
noncomputable section
section
variable{ns:List aw}{lo:Nat->Int}{dp:Nat->Nat}
def VQ (ns:List aw)(lo:Nat->Int)(dp:Nat->Nat)(hin:aa)(nv:ae)(sb:Nat)(n:Nat)(aZ:Nat->Nat)(d:wC)(h:aa)(r:ae)(h':aa):Prop :=
 ∃(col':Nat->Nat)(d':wC)(S':yX)(zI:Nat->Nat),r=H9 (lo n,(dp n:Int),(zI n:Int))/\aU hin h'/\tq hin.next col' h' sb nv d' S'/\VI ns lo dp d' S' zI/\(cX d'.jI (n:Int)).isSome=true /\
  (∀j:Nat,(cX d.jI (j:Int)).isSome=true->(cX d'.jI (j:Int)).isSome=true)/\(∀j:Nat,(cX d'.jI (j:Int)).isSome=true->(cX d.jI (j:Int)).isSome=true\/dp j<=dp n)/\(∀b,b<h.next->col' b=aZ b)/\Fl 8 hin.next aZ h h'
structure L0 (ns:List aw)(lo:Nat->Int)(dp:Nat->Nat)(hin:aa)(nv:ae)(sb n x7 r4:Nat)(gV:Nat->Nat)(d0:wC)(h0:aa)(x:aw)(i:Nat)(aZ:Nat->Nat)(d:wC)(S:yX)(cls:Nat->Nat)(h:aa):Prop where
 hle:aU hin h
 sm:tq hin.next aZ h sb nv d S
 vi:VI ns lo dp d S cls
 done:∀e,e∈x.ak.take i->(cX d.jI (e.to:Int)).isSome=true
 mono:∀j:Nat,(cX d0.jI (j:Int)).isSome=true->(cX d.jI (j:Int)).isSome=true
 new:∀j:Nat,(cX d.jI (j:Int)).isSome=true->(cX d0.jI (j:Int)).isSome=true\/dp j<dp n
 iE:∀b,b<h0.next->aZ b=gV b
 next:h0.next<=h.next
 uS:∀b,b<h0.next->b≠x7->(b<hin.next\/gV b=0\/8<gV b)->h.get b=h0.get b
 x7:h.get x7=some (.cells [.int .i64 (qA lo x.fin (x.ak.take i)),.int .i64 (vS dp (x.ak.take i)),.int .i64 0] 118)
def Ik {Qn Qr:Fr->aa->Prop}{Qx:Nat->Fr->aa->Prop}(B:P7 ns lo dp){hin:aa}{nv:ae}(hN:fO hin nv ns){sb n x7 r4:Nat}{gV:Nat->Nat}{d0:wC}{h0 h:aa}{x:aw}(hx:ns[n]?=some x)(ev:ae)(uO:cg hin 3 ev (x.ak.map aK))
 (vK:∀e,e∈x.ak->∀(aZ:Nat->Nat)(d:wC)(S:yX)(cls:Nat->Nat)(h:aa),aU hin h->tq hin.next aZ h sb nv d S->VI ns lo dp d S cls->Ec E2 35 [.ptr sb 0,.int .i64 (e.to:Int)] h (VQ ns lo dp hin nv sb e.to aZ d h))
 (XL:hin.next<=x7/\x7<h0.next/\gV x7=9) {aZ:Nat->Nat} {d:wC} {S:yX} {cls:Nat->Nat} (L:L0 ns lo dp hin nv sb n x7 r4 gV d0 h0 x 0 aZ d S cls h) (fr:Fr)
 (t0:fr.get 0=some (.ptr sb 0)) (t1:fr.get 1=some (.int .i64 (n:Int))) (t4:fr.get 4=some (.ptr r4 0)) (t7:fr.get 7=some (.ptr x7 0)) (t50:fr.get 50=some ev) (t51:fr.get 51=some (.int .i64 (x.ak.length:Int))) (t52:fr.get 52=some (.int .i64 0))
 (hq:∀fr h' aZ d S cls,fr.get 0=some (.ptr sb 0)->fr.get 1=some (.int .i64 (n:Int))->fr.get 4=some (.ptr r4 0)->fr.get 7=some (.ptr x7 0)->L0 ns lo dp hin nv sb n x7 r4 gV d0 h0 x x.ak.length aZ d S cls h'->Qx 0 fr h'):wp E2 (.loop wR) fr h Qn Qx Qr:=by
 have hm:=qQK hx;have tu:x.ak.length<=256:=sS (B.W.nq x hm) λe he=>uu (B.W.lt x e hm he);refine fg (λdd fr h'=>∃(i:Nat)(aZ:Nat->Nat)(d:wC)(S:yX)(cls:Nat->Nat),dd+i=x.ak.length/\fr.get 52=some (.int .i64 (i:Int))/\fr.get 0=some (.ptr sb 0)/\fr.get 1=some (.int .i64 (n:Int))/\fr.get 4=some (.ptr r4 0)/\fr.get 7=some (.ptr x7 0)/\fr.get 50=some ev/\fr.get 51=some (.int .i64 (x.ak.length:Int))/\L0 ns lo dp hin nv sb n x7 r4 gV d0 h0 x i aZ d S cls h') x.ak.length ?_ ?_
 .exact⟨0,aZ,d,S,cls,by omega,t52,t0,t1,t4,t7,t50,t51,L⟩
 clear t0 t1 t4 t7 t50 t51 t52 L;rintro dd fr h ⟨i,aZ,d,S,cls,hd,t52,t0,t1,t4,t7,t50,t51,L⟩;unfold wR;by_cases hc:(i:Int)<(x.ak.length:Int)
 .obtain⟨e,he⟩:∃e,x.ak[i]?=some e:=⟨_,qQW (by omega)⟩;have JT:=qQK he;obtain⟨bb,o,di,fU⟩:=uO.ix (j:=i) (x:=aK e) (by rw[qQX,he];rfl)
  have Vs:eI h bb o 3=some (aK e):=by
   have:=(di.mono L.hle).eI (i:=0) (n:=3) (by simp[aK]);simpa[aK] using this
  have ib:over [ae.int .u8 0,.int .i64 0,.int .i64 0] 0 (aK e)=aK e:=rfl;have jX:(aK e).length=3:=rfl;have Tn:(aK e)[0]?=some (.int .u8 (e.letter:Int)):=rfl;have Fb:(aK e)[1]?=some (.int .i64 (e.to:Int)):=rfl;have pK:(aK e)[2]?=some (.int .i64 e.cost):=rfl;have bh:aU h (h.push (.cells (aK e) 124)):=(aU.refl h).push _;have yK:(h.push (.cells (aK e) 124)).next=h.next+1:=rfl;have g1:(h.push (.cells (aK e) 124)).get h.next=some (.cells (aK e) 124):=aa.ai _ _;have l1:aN (h.push (.cells (aK e) 124)) h.next 1=some (.int .i64 (e.to:Int)):=by rw[aH];rfl
  simp only[go_sem,Nat.reduceEqDiff,Nat.reduceAdd,reduceCtorEq,t0,t50,t51,t52,hc,fU .i64 (i:Int) h,Vs,ib,jX,l1];generalize h.push (.cells (aK e) 124)=h1 at bh yK g1 l1 ⊢;refine⟨by decide,?_⟩;have S1:tq hin.next (ep aZ h 9) h1 sb nv d S:=L.sm.frame (.of bh) λb hb=>br hb;refine(vK e JT (ep aZ h 9) d S cls h1 (L.hle.trans bh) S1 L.vi).mono ?_;rintro r h2 ⟨iM,d2,S2,mE,rfl,aS,S2A,V2,Fe,Tj,agx,vE,GM⟩;have nO:=L.next;have GK:=GM.next;have gx7:h2.get x7=some (.cells [.int .i64 (qA lo x.fin (x.ak.take i)),.int .i64 (vS dp (x.ak.take i)),.int .i64 0] 118):=(GM.get x7 (by omega) (.inr (.inr (by rw[br (by omega),L.iE _ XL.2.1,XL.2.2];omega)))).trans ((bh.get x7 (by omega)).trans L.x7);have ge:h2.get h.next=some (.cells (aK e) 124):=(GM.get h.next (by omega) (.inr (.inr (by rw[dY (qQY _)];omega)))).trans g1;simp only[go_sem,Nat.reduceEqDiff,Nat.reduceAdd,t7,H9];have uQ:(h2.push (.cells [.int .i64 (lo e.to),.int .i64 (dp e.to:Int),.int .i64 (mE e.to:Int)] 118)).next=h2.next+1:=rfl;have cQ:aU h2 (h2.push (.cells [.int .i64 (lo e.to),.int .i64 (dp e.to:Int),.int .i64 (mE e.to:Int)] 118)):=(aU.refl h2).push _;have y0:aN (h2.push (.cells [.int .i64 (lo e.to),.int .i64 (dp e.to:Int),.int .i64 (mE e.to:Int)] 118)) h2.next 0=some (.int .i64 (lo e.to)):=by rw[aH];rfl
  have y1:aN (h2.push (.cells [.int .i64 (lo e.to),.int .i64 (dp e.to:Int),.int .i64 (mE e.to:Int)] 118)) h2.next 1=some (.int .i64 (dp e.to:Int)):=by rw[aH];rfl
  generalize h2.push (.cells [.int .i64 (lo e.to),.int .i64 (dp e.to:Int),.int .i64 (mE e.to:Int)] 118)=h3 at uQ cQ y0 y1 ⊢;have gx3:h3.get x7=some (.cells [.int .i64 (qA lo x.fin (x.ak.take i)),.int .i64 (vS dp (x.ak.take i)),.int .i64 0] 118):=(cQ.get x7 (by omega)).trans gx7;have x1:aN h3 x7 1=some (.int .i64 (vS dp (x.ak.take i))):=by rw[aq gx3];rfl
  have ge3:h3.get h.next=some (.cells (aK e) 124):=(cQ.get _ (by omega)).trans ge;obtain⟨rk,_,DZ⟩:=B.W.to;have rq:=(DZ n x e hx JT).1;have akp:=B.dpB e.to rq;have agn:=B.loB e.to rq;have hcB:=B.W.cost x e hm JT;have hwd:IntKind.i64.wrap ((dp e.to:Int)+1)=((dp e.to+1:Nat):Int):=by rw[wrap_i64 (by omega) (by omega)];push_cast;rfl
  have hwc:IntKind.i64.wrap (e.cost+lo e.to)=e.cost+lo e.to:=wrap_i64 (by omega) (by omega);have yN:IntKind.i64.wrap ((i:Int)+1)=((i+1:Nat):Int):=by rw[wrap_i64 (by omega) (by omega)];push_cast;rfl
  have htk:x.ak.take (i+1)=x.ak.take i++[e]:=by rw[qZD (by omega),(qQZ.1 he).2]
  have hL1:vS dp (x.ak.take (i+1))=max (vS dp (x.ak.take i)) (dp e.to+1):=by rw[htk,Hg]
  have SP:=He lo x.fin (x.ak.take i) e;rw[<-htk] at SP;have Iz:max ((vS dp (x.ak.take i):Nat):Int) ((dp e.to+1:Nat):Int)=((vS dp (x.ak.take (i+1)):Nat):Int):=by rw[hL1];omega
  have yc:=aD (o:=1) (n:=1) (vs:=[.int .i64 ((vS dp (x.ak.take (i+1)):Nat):Int)]) gx3 rfl (by simp);rw[bW]at yc;have g4:(h3.put x7 (.cells ([.int .i64 (qA lo x.fin (x.ak.take i)),.int .i64 (vS dp (x.ak.take i):Nat),.int .i64 0].set 1 (.int .i64 ((vS dp (x.ak.take (i+1)):Nat):Int))) 118)).get x7=some (.cells [.int .i64 (qA lo x.fin (x.ak.take i)),.int .i64 (vS dp (x.ak.take (i+1)):Nat),.int .i64 0] 118):=aa.aj _ _ _;have JM:∀b,b≠x7->(h3.put x7 (.cells ([.int .i64 (qA lo x.fin (x.ak.take i)),.int .i64 (vS dp (x.ak.take i):Nat),.int .i64 0].set 1 (.int .i64 ((vS dp (x.ak.take (i+1)):Nat):Int))) 118)).get b=h3.get b:=λb hb=>aa.ah _ _ (Ne.symm hb);have Zv:(h3.put x7 (.cells ([.int .i64 (qA lo x.fin (x.ak.take i)),.int .i64 (vS dp (x.ak.take i):Nat),.int .i64 0].set 1 (.int .i64 ((vS dp (x.ak.take (i+1)):Nat):Int))) 118)).next=h3.next:=rfl;simp only[go_sem,Nat.reduceEqDiff,t7,x1,y1,hwd,Iz,yc,Hr];generalize h3.put x7 (.cells ([.int .i64 (qA lo x.fin (x.ak.take i)),.int .i64 (vS dp (x.ak.take i):Nat),.int .i64 0].set 1 (.int .i64 ((vS dp (x.ak.take (i+1)):Nat):Int))) 118)=h4 at g4 JM Zv ⊢;have z0:aN h4 x7 0=some (.int .i64 (qA lo x.fin (x.ak.take i))):=by rw[aq g4];rfl
  have z2:aN h4 h.next 2=some (.int .i64 e.cost):=by rw[aq ((JM _ (by omega)).trans ge3)];rfl
  have z3:aN h4 h2.next 0=some (.int .i64 (lo e.to)):=by rw[cG (JM _ (by omega))];exact y0
  have fin:∀(h5:aa),h5.next=h4.next->(∀b,b≠x7->h5.get b=h4.get b)->h5.get x7=some (.cells [.int .i64 (qA lo x.fin (x.ak.take (i+1))),.int .i64 (vS dp (x.ak.take (i+1)):Nat),.int .i64 0] 118)->L0 ns lo dp hin nv sb n x7 r4 gV d0 h0 x (i+1) (ep iM h2 9) d2 S2 mE h5:=by
   intro h5 e5 o5 g5;have kE:∀b,b<h2.next->ep iM h2 9 b=iM b:=λb hb=>br hb;have Qc:∀b,b<h2.next->b≠x7->h5.get b=h2.get b:=λb hb dV=>(o5 b dV).trans ((JM b dV).trans (cQ.get b hb));have GU:iM x7=9:=by rw[vE _ (by omega),br (by omega),L.iE _ XL.2.1];exact XL.2.2
   refine⟨⟨by have:=aS.next;omega,λb hb=>(Qc b (by have:=aS.next;omega) (by omega)).trans (aS.get b hb)⟩,?_,V2,λf hf=>?_,λj hj=>Tj j (L.mono j hj),λj hj=>?_,λb hb=>?_,by omega,λb hb dV ho=>?_,g5⟩
   .refine S2A.frame ⟨by omega,λb _ hb h1 h2=>Qc b hb λe=>?_⟩ kE;rw[e,GU]at h2;omega
   .rw[htk]at hf;rcases qQE.1 hf with hf|hf
    .exact Tj _ (L.done f hf)
    .simp at hf;subst hf;exact Fe
   .rcases agx j hj with h|h
    .exact L.new j h
    .have:=B.dec n x e hx JT;right;omega
   .rw[kE _ (by omega),vE _ (by omega),br (by omega)];exact L.iE b hb
   .rw[Qc b (by omega) dV,GM.get b (by omega) (by rw[br (by omega),L.iE b hb];exact ho),bh.get b (by omega)];exact L.uS b hb dV ho
  by_cases hA:qA lo x.fin (x.ak.take i)<0
  .rw[if_pos (.inl hA)] at SP;have gY:=aD (o:=0) (n:=1) (vs:=[.int .i64 (e.cost+lo e.to)]) g4 rfl (by simp);rw[bW]at gY;simp only[go_sem,Nat.reduceEqDiff,reduceCtorEq,t0,t1,t4,t7,t50,t51,t52,z0,z2,z3,hwc,hA,gY,yN];refine⟨dd-1,by omega,i+1,ep iM h2 9,d2,S2,mE,by omega,rfl,?_⟩;exact fin _ rfl (λb hb=>aa.ah _ _ (Ne.symm hb)) (by rw[SP];exact aa.aj _ _ _)
  .by_cases hB:e.cost+lo e.to<qA lo x.fin (x.ak.take i)
   .rw[if_pos (.inr hB)] at SP;have gY:=aD (o:=0) (n:=1) (vs:=[.int .i64 (e.cost+lo e.to)]) g4 rfl (by simp);rw[bW]at gY;simp only[go_sem,Nat.reduceEqDiff,reduceCtorEq,t0,t1,t4,t7,t50,t51,t52,z0,z2,z3,hwc,hA,hB,gY,yN];refine⟨dd-1,by omega,i+1,ep iM h2 9,d2,S2,mE,by omega,rfl,?_⟩;exact fin _ rfl (λb hb=>aa.ah _ _ (Ne.symm hb)) (by rw[SP];exact aa.aj _ _ _)
   .rw[if_neg (by rintro(h|h);exact hA h;exact hB h)] at SP;simp only[go_sem,Nat.reduceEqDiff,reduceCtorEq,t0,t1,t4,t7,t50,t51,t52,z0,z2,z3,hwc,hA,hB,yN];refine⟨dd-1,by omega,i+1,ep iM h2 9,d2,S2,mE,by omega,rfl,?_⟩;exact fin _ rfl (λb hb=>rfl) (by rw[SP];exact g4)
 .simp only[go_sem,reduceCtorEq,t51,t52,hc];have hi:i=x.ak.length:=by omega
  subst hi;exact hq _ _ aZ d S cls (by simp[T.ag,t0]) (by simp[T.ag,t1]) (by simp[T.ag,t4]) (by simp[T.ag,t7]) L
end
def Kk {κ υ:Type}[DecidableEq κ]{kk:iH}{ek:κ->ae}{ev:υ->ae}(hK:MS kk ek){z:ae}{r:Nat}{q:κ}{h:aa}{es:List (κ×υ×Nat)}{c:Nat}(hg:h.get r=some (.map (es.map (fV ek ev)) c)){K:ae->aa->Prop} :
 vT kk z (.map r) (ek q) false h K=match cX es q with
  |none=>K z h
  |some k=>K (ev k) h:=by
 unfold vT;rw[xl hg];simp only[jd,hK.ok,true_and];rcases qo hK q es 0 with⟨k',p,h1,h2,n,h3⟩|⟨h1,h2⟩
 .rw[h1,h2];rfl
 .rw[h1,h2];rfl
section
variable{ns:List aw}{lo:Nat->Int}{dp:Nat->Nat}
structure L1 (n0:Nat)(z:Nat)(JI:Int)(pe:List cI)(hB:aa)(i:Nat)(h:aa):Prop where
 next:hB.next<=h.next
 uS:∀b,b<hB.next->b≠z->h.get b=hB.get b
 box:∃mv,h.get z=some (.cells [mv,.int .i64 JI] 110)/\dO h 3 124 mv ((pe.take i).map aK).flatten/\∀b,aM mv b->hB.next<=b/\b<h.next
def NY (l:List cI):(l.map aK).flatten.length=l.length*3:=by
 induction l with
 |nil=>rfl
 |cons a l ih=>rw[qZW,qZA,qQM,ih];simp[aK];omega
def Il {Qn Qr:Fr->aa->Prop}{Qx:Nat->Fr->aa->Prop}(B:P7 ns lo dp){hin:aa}{nv:ae}{sb n x7 r4 z14:Nat}{hB:aa}{x:aw}(hx:ns[n]?=some x)(ev:ae)(uO:cg hin 3 ev (x.ak.map aK))(vI:aU hin hB)
 {aZ:Nat->Nat} {d:wC} {S:yX} {cls:Nat->Nat} (SB:tq hin.next aZ hB sb nv d S) (V:VI ns lo dp d S cls) (mP:∀e,e∈x.ak->(cX d.jI (e.to:Int)).isSome=true) (off:Int) (sd:0<=off/\off<=1152921504606846976) (JI:Int)
 (hz:hin.next<=z14/\z14<hB.next/\(aZ z14=0\/8<aZ z14)) (fr:Fr)
 (gz:hB.get z14=some (.cells [.af,.int .i64 JI] 110))
 (t0:fr.get 0=some (.ptr sb 0)) (t1:fr.get 1=some (.int .i64 (n:Int))) (t4:fr.get 4=some (.ptr r4 0)) (t7:fr.get 7=some (.ptr x7 0)) (t13:fr.get 13=some (.int .i64 off)) (t14:fr.get 14=some (.ptr z14 0)) (t110:fr.get 110=some ev) (t111:fr.get 111=some (.int .i64 (x.ak.length:Int))) (t112:fr.get 112=some (.int .i64 0))
 (hq:∀fr h',fr.get 0=some (.ptr sb 0)->fr.get 1=some (.int .i64 (n:Int))->fr.get 4=some (.ptr r4 0)->fr.get 7=some (.ptr x7 0)->fr.get 14=some (.ptr z14 0)->L1 hin.next z14 JI (cK cls lo off x).ak hB x.ak.length h'->Qx 2 fr h'):wp E2 (.loop pz) fr hB Qn Qx Qr:=by
 have hm:=qQK hx;have tu:x.ak.length<=256:=sS (B.W.nq x hm) λe he=>uu (B.W.lt x e hm he);have XG:(cK cls lo off x).ak.length=x.ak.length:=qQD ..
 refine fg (λdd fr h'=>∃(i:Nat),dd+i=x.ak.length/\fr.get 112=some (.int .i64 (i:Int))/\fr.get 0=some (.ptr sb 0)/\fr.get 1=some (.int .i64 (n:Int))/\fr.get 4=some (.ptr r4 0)/\fr.get 7=some (.ptr x7 0)/\fr.get 13=some (.int .i64 off)/\fr.get 14=some (.ptr z14 0)/\fr.get 110=some ev/\fr.get 111=some (.int .i64 (x.ak.length:Int))/\L1 hin.next z14 JI (cK cls lo off x).ak hB i h') x.ak.length ?_ ?_
 .exact⟨0,by omega,t112,t0,t1,t4,t7,t13,t14,t110,t111,qQY _,λ_ _ _=>rfl,.af,gz,.inl ⟨rfl,by simp⟩,λb hb=>(dx hb).elim⟩
 clear t0 t1 t4 t7 t13 t14 t110 t111 t112;rintro dd fr h ⟨i,hd,t112,t0,t1,t4,t7,t13,t14,t110,t111,L⟩;unfold pz;by_cases hc:(i:Int)<(x.ak.length:Int)
 .obtain⟨e,he⟩:∃e,x.ak[i]?=some e:=⟨_,qQW (by omega)⟩;have JT:=qQK he;have nO:=L.next;have hnB:=vI.next;have JX:aU hin h:=⟨by omega,λb hb=>(L.uS b (by omega) (by omega)).trans (vI.get b hb)⟩;have SH:tq hin.next aZ h sb nv d S:=SB.frame ⟨nO,λb _ h1 h2 h3=>L.uS b h1 λe=>by rw[e]at h2 h3;omega⟩ λ_ _=>rfl;obtain⟨s0,s1,s2,s3,s4⟩:=SH.BE;obtain⟨l1,l2⟩:=SH.lt;obtain⟨m1,m2⟩:=SH.mlt;obtain⟨bb,o,di,fU⟩:=uO.ix (j:=i) (x:=aK e) (by rw[qQX,he];rfl)
  have Vs:eI h bb o 3=some (aK e):=by
   have:=(di.mono JX).eI (i:=0) (n:=3) (by simp[aK]);simpa[aK] using this
  have ib:over [ae.int .u8 0,.int .i64 0,.int .i64 0] 0 (aK e)=aK e:=rfl;have jX:(aK e).length=3:=rfl;have Tn:(aK e)[0]?=some (.int .u8 (e.letter:Int)):=rfl;have Fb:(aK e)[1]?=some (.int .i64 (e.to:Int)):=rfl;have pK:(aK e)[2]?=some (.int .i64 e.cost):=rfl;have bh:aU h (h.push (.cells (aK e) 124)):=(aU.refl h).push _;have yK:(h.push (.cells (aK e) 124)).next=h.next+1:=rfl;have e0:aN (h.push (.cells (aK e) 124)) h.next 0=some (.int .u8 (e.letter:Int)):=by rw[aH];rfl
  have e1:aN (h.push (.cells (aK e) 124)) h.next 1=some (.int .i64 (e.to:Int)):=by rw[aH];rfl
  have e2:aN (h.push (.cells (aK e) 124)) h.next 2=some (.int .i64 e.cost):=by rw[aH];rfl
  have q1:aN (h.push (.cells (aK e) 124)) sb 1=some (.map d.mb):=by rw[bh.aN l2];exact s1
  have jG:cX d.jI (e.to:Int)=some (lo e.to,(dp e.to:Int),(cls e.to:Int)):=by
   rcases hv:cX d.jI (e.to:Int) with _|y
   .have:=mP e JT;rw[hv]at this;cases this
   .obtain⟨j,h1,h2,h3⟩:=V.shp _ y hv;have:j=e.to:=by omega
    subst this;rw[h3]
  have ZV:(h.push (.cells (aK e) 124)).get d.mb=some (.map (d.jI.map (fV (.int .i64) H9)) d.sc):=(bh.get _ m2).trans SH.OT;simp only[go_sem,Nat.reduceEqDiff,Nat.reduceAdd,reduceCtorEq,t0,t110,t111,t112,hc,fU .i64 (i:Int) h,Vs,ib,jX];generalize h.push (.cells (aK e) 124)=h1 at bh yK e0 e1 e2 q1 ZV ⊢;have ak1:(h1.skip 9).get d.mb=some (.map (d.jI.map (fV (.int .i64) H9)) d.sc):=ZV
  have hlk:∀K:ae->aa->Prop,vT (.one .i) (.agg [.int .i64 0,.int .i64 0,.int .i64 0]) (.map d.mb) (.int .i64 (e.to:Int)) false (h1.skip 9) K=K (H9 (lo e.to,(dp e.to:Int),(cls e.to:Int))) (h1.skip 9):=λK=>by
   rw[Kk mR ak1,jG]
  have gC:(aa.put ⟨h1.next+9,(h1.skip 9).t⟩ (h.next+1+7) (aE.cells [ae.int IntKind.i64 0,ae.int IntKind.i64 0,ae.int IntKind.i64 0] 118)).get (h.next+1+7)=some (.cells [ae.int IntKind.i64 0,ae.int IntKind.i64 0,ae.int IntKind.i64 0] 118):=aa.aj _ _ _;have hpC:=aD (o:=0) (n:=3) (vs:=[.int .i64 (lo e.to),.int .i64 (dp e.to:Int),.int .i64 (cls e.to:Int)]) gC rfl (by simp);obtain⟨hC,hCe⟩:∃y,y=(aa.put (aa.put ⟨h1.next+9,(h1.skip 9).t⟩ (h.next+1+7) (aE.cells [ae.int IntKind.i64 0,ae.int IntKind.i64 0,ae.int IntKind.i64 0] 118)) (h.next+1+7) (.cells (over [ae.int IntKind.i64 0,ae.int IntKind.i64 0,ae.int IntKind.i64 0] 0 [.int .i64 (lo e.to),.int .i64 (dp e.to:Int),.int .i64 (cls e.to:Int)]) 118)):=⟨_,rfl⟩;rw[<-hCe]at hpC;have nC:hC.next=h1.next+9:=by rw[hCe];rfl
  have yC:hC.get (h.next+8)=some (.cells [.int .i64 (lo e.to),.int .i64 (dp e.to:Int),.int .i64 (cls e.to:Int)] 118):=by rw[hCe];exact aa.aj _ _ _
  have oC:∀b,b<h1.next->hC.get b=h1.get b:=λb hb=>by
   rw[hCe];exact(aa.ah _ _ (by omega)).trans (aa.ah _ _ (by omega))
  clear hCe gC;have age:aU h1 hC:=⟨by omega,oC⟩;have c0:aN hC h.next 0=some (.int .u8 (e.letter:Int)):=by rw[age.aN (by omega)];exact e0
  have c2:aN hC h.next 2=some (.int .i64 e.cost):=by rw[age.aN (by omega)];exact e2
  have y0:aN hC (h.next+8) 0=some (.int .i64 (lo e.to)):=by rw[aq yC];rfl
  have y2:aN hC (h.next+8) 2=some (.int .i64 (cls e.to:Int)):=by rw[aq yC];rfl
  obtain⟨mv,gm,ho,hb⟩:=L.box;have gmC:hC.get z14=some (.cells [mv,.int .i64 JI] 110):=(oC _ (by omega)).trans ((bh.get _ (by omega)).trans gm);have m0:aN hC z14 0=some mv:=by rw[aq gmC];rfl
  obtain⟨rk,_,DZ⟩:=B.W.to;have rq:=(DZ n x e hx JT).1;have agn:=B.loB e.to rq;have hcB:=B.W.cost x e hm JT;have hwc:IntKind.i64.wrap (e.cost+lo e.to)=e.cost+lo e.to:=wrap_i64 (by omega) (by omega);have GS:IntKind.i64.wrap (e.cost+lo e.to-off)=e.cost+lo e.to-off:=wrap_i64 (by omega) (by omega);have yN:IntKind.i64.wrap ((i:Int)+1)=((i+1:Nat):Int):=by rw[wrap_i64 (by omega) (by omega)];push_cast;rfl
  have e8:h.next+1+7=h.next+8:=rfl;simp only[go_sem,Nat.reduceEqDiff,Nat.reduceAdd,Nat.reduceLeDiff,t13,t14,e1,q1,hlk,H9,hpC,c0,c2,y0,y2,m0,hwc,GS,e8]
  have agI:(cK cls lo off x).ak[i]?=some ⟨e.letter,cls e.to,e.cost+lo e.to-off⟩:=by
   show(x.ak.map _)[i]?=_;rw[qQX,he];rfl
  have ic:(((cK cls lo off x).ak.take i).map aK).flatten.length<=1000:=by
   rw[NY];have:((cK cls lo off x).ak.take i).length<=x.ak.length:=by rw[qWL];omega
   omega
  refine qd (ho.frame (h':=hC) (by omega) λb iB=>(oC b (by have:=(hb b iB).2;omega)).trans (bh.get b (hb b iB).2)) [.int .u8 (e.letter:Int),.int .i64 (cls e.to:Int),.int .i64 (e.cost+lo e.to-off)] rfl (by decide) (by simp[ae.flat]) (by omega) ?_;intro v' h4 JZ JY rn SS;have gm4:h4.get z14=some (.cells [mv,.int .i64 JI] 110):=(rn _ (by omega) λiB=>by have:=(hb _ iB).1;omega).trans gmC;have gY:=aD (o:=0) (n:=1) (vs:=[v']) gm4 rfl (by simp);rw[bW]at gY;simp only[go_sem,Nat.reduceEqDiff,reduceCtorEq,t0,t1,t4,t7,t13,t14,t110,t111,t112,bM JZ.lT,gY,yN];have yF:∀b,aM v' b->b=hC.next+1:=λb iB=>by have:=fu SS iB;omega
  have GL:=nO;refine⟨dd-1,by omega,i+1,by omega,rfl,by show hB.next<=h4.next;omega,λb DQ wX=>?_,v',aa.aj _ _ _,?_,λb iB=>?_⟩
  .rw[aa.ah _ _ (Ne.symm wX),rn b (by omega) (λiB=>by have:=(hb b iB).1;omega),oC b (by omega),bh.get b (by omega)];exact L.uS b DQ wX
  .have:(cK cls lo off x).ak.take (i+1)=(cK cls lo off x).ak.take i++[⟨e.letter,cls e.to,e.cost+lo e.to-off⟩]:=by
    rw[qZD (qQZ.1 agI).1,(qQZ.1 agI).2]
   rw[this,qJW,List.flatten_append];exact JZ.frame (by show h4.next<=h4.next;omega) λb iB=>aa.ah _ _ (by have:=yF b iB;omega)
  .have:=yF b iB;show hB.next<=b/\b<h4.next;omega
 .simp only[go_sem,reduceCtorEq,t111,t112,hc];have hi:i=x.ak.length:=by omega
  subst hi;exact hq _ _ (by simp[T.ag,t0]) (by simp[T.ag,t1]) (by simp[T.ag,t4]) (by simp[T.ag,t7]) (by simp[T.ag,t14]) L
end
def lP:ax->ax
 |.seq _ b=>b
 |c=>c
def EZ:ax:=lP (lP (lP (lP (lP (lP (lP (lP (lP (lP (lP zS))))))))))
section
variable{ns:List aw}{lo:Nat->Int}{dp:Nat->Nat}
def VI.len {d:wC}{S:yX}{cls:Nat->Nat}(V:VI ns lo dp d S cls):S.M.length<=ns.length:=V.mi.len λi hi=>by
 rcases hv:cX d.jI (i:Int) with _|y
 .rw[hv]at hi;cases hi
 .obtain⟨j,h1,h2,_⟩:=V.shp _ y hv;omega
def Bv {Qn Qr:Fr->aa->Prop}{Qx:Nat->Fr->aa->Prop}(B:P7 ns lo dp)(hlen:ns.length<=1000){n0:Nat}{nv:ae}{sb n x7 r4 z14:Nat}{hC:aa}{x:aw}(hx:ns[n]?=some x)
 {aZ:Nat->Nat} {d:wC} {S:yX} {cls:Nat->Nat} (SC:tq n0 aZ hC sb nv d S) (V:VI ns lo dp d S cls) (mP:∀e,e∈x.ak->(cX d.jI (e.to:Int)).isSome=true) (off:Int) (sd:0<=off/\off<=1152921504606846976) (Me:0<=x.fin->off<=x.fin)
 (mv:ae) (gz:hC.get z14=some (.cells [mv,.int .i64 (cK cls lo off x).fin] 110)) (ho:dO hC 3 124 mv ((cK cls lo off x).ak.map aK).flatten) (hmv:qf aZ n0 hC 8 mv)
 (XL:hC.get x7=some (.cells [.int .i64 (lo n),.int .i64 (dp n:Int),.int .i64 0] 118)) (hr4:hC.get r4=some (.cells [.int .i64 0,.int .i64 0,.int .i64 0] 118))
 (l7:n0<=x7/\x7<hC.next/\aZ x7=9) (l4:n0<=r4/\r4<hC.next/\aZ r4=9) (h74:x7≠r4) (fr:Fr)
 (t0:fr.get 0=some (.ptr sb 0)) (t1:fr.get 1=some (.int .i64 (n:Int))) (t4:fr.get 4=some (.ptr r4 0)) (t7:fr.get 7=some (.ptr x7 0)) (t14:fr.get 14=some (.ptr z14 0))
 (hr:∀fr h' col' d' S' (c:Nat),fr.get 4=some (.ptr r4 0)->h'.get r4=some (.cells [.int .i64 (lo n),.int .i64 (dp n:Int),.int .i64 (c:Int)] 118)->tq n0 col' h' sb nv d' S'->(∃sc,d'.jI=jA d.jI sc (n:Int) (lo n,(dp n:Int),(c:Int))) ->
  S'.M[c]?=some (cK cls lo off x)->S'.fl[c]?=some (decide (n=0))->(S'=S\/(¬∃j:Nat,S.M[j]?=some (cK cls lo off x)/\S.fl[j]?=some (decide (n=0)))/\c=S.M.length/\S'=⟨S.M++[cK cls lo off x],S.fl++[decide (n=0)],S.ln++[(dp n:Int)]⟩) ->
  (∀b,b<hC.next->col' b=aZ b)->hC.next<=h'.next->(∀b,b<hC.next->b≠x7->b≠r4->(b<n0\/aZ b=0\/8<aZ b)->h'.get b=hC.get b)->Qr fr h'):wp E2 EZ fr hC Qn Qx Qr:=by
 have hm:=qQK hx;have DT:=(qQZ.1 hx).1;have tu:x.ak.length<=256:=sS (B.W.nq x hm) λe he=>uu (B.W.lt x e hm he);have hML:=V.len;obtain⟨rk,_,DZ⟩:=B.W.to
 have kN:Ud (cK cls lo off x):=by
  have gW:=B.W.fin x hm;refine⟨?_,?_,λe he=>?_,?_⟩
  .show _<(if 0<=x.fin then x.fin-off else -1);split<;>omega
  .show(if 0<=x.fin then x.fin-off else -1)<_;split<;>omega
  .obtain⟨e0,he0,rfl⟩:=qQB.1 he;have rq:=(DZ n x e0 hx he0).1;have h1:=B.loB e0.to rq;have h2:=B.W.cost x e0 hm he0;have h3:=(V.mi.cl e0.to (mP e0 he0)).1;have h4:=uu (B.W.lt x e0 hm he0);exact⟨h4,by show cls e0.to<_;omega,by show _<e0.cost+lo e0.to-off;omega,by show e0.cost+lo e0.to-off<_;omega⟩
  .show(x.ak.map _).length<=_;rw[qQD];omega
 have y7:cg hC 3 mv ((cK cls lo off x).ak.map aK):=ho.cg (λy hy=>by obtain⟨a,_,rfl⟩:=qQB.1 hy;rfl) (by decide) λy hy=>by
  obtain⟨w,hw,hyw⟩:=qJD.1 hy;obtain⟨a,_,rfl⟩:=qQB.1 hw;simp[aK]at hyw;rcases hyw with rfl|rfl|rfl<;>rfl
 have zN:eI hC z14 0 2=some [mv,.int .i64 (cK cls lo off x).fin]:=by rw[bX gz (by simp)];rfl
 have x1:aN hC x7 1=some (.int .i64 (dp n:Int)):=by rw[aq XL];rfl
 unfold EZ;simp only[zS,lP];have lM:=Wm SC (by omega) (cK cls lo off x) mv y7 ho.lT hmv kN (dp n:Int) (decide (n=0))
 have hdz:decide ((n:Int)=0)=decide (n=0):=by
  by_cases h:n=0
  .subst h;rfl
  .rw[decide_eq_false h,decide_eq_false (by omega)]
 simp only[go_sem,Nat.reduceEqDiff,t0,t1,t7,t14,zN,x1,hdz];refine⟨by decide,?_⟩;refine lM.mono ?_;rintro r h2 ⟨iM,d2,S2,c,rfl,SA,hM,hF,B6,hS,vE,GM⟩;have GK:=GM.next;have g7:h2.get x7=some (.cells [.int .i64 (lo n),.int .i64 (dp n:Int),.int .i64 0] 118):=(GM.get x7 l7.2.1 (.inr (.inr (by rw[l7.2.2];omega)))).trans XL;have g4:h2.get r4=some (.cells [.int .i64 0,.int .i64 0,.int .i64 0] 118):=(GM.get r4 l4.2.1 (.inr (.inr (by rw[l4.2.2];omega)))).trans hr4;have cS:=aD (o:=2) (n:=1) (vs:=[.int .i64 (c:Int)]) g7 rfl (by simp);rw[bW]at cS;simp only[go_sem,Nat.reduceEqDiff,reduceCtorEq,t0,t7,cS];have e3:([.int .i64 (lo n),.int .i64 (dp n:Int),.int .i64 0].set 2 (.int .i64 (c:Int)):List ae)=[.int .i64 (lo n),.int .i64 (dp n:Int),.int .i64 (c:Int)]:=rfl;rw[e3];have g73:(h2.put x7 (.cells [.int .i64 (lo n),.int .i64 (dp n:Int),.int .i64 (c:Int)] 118)).get x7=some (.cells [.int .i64 (lo n),.int .i64 (dp n:Int),.int .i64 (c:Int)] 118):=aa.aj _ _ _;have o3:∀b,b≠x7->(h2.put x7 (.cells [.int .i64 (lo n),.int .i64 (dp n:Int),.int .i64 (c:Int)] 118)).get b=h2.get b:=λb hb=>aa.ah _ _ (Ne.symm hb);have n3:(h2.put x7 (.cells [.int .i64 (lo n),.int .i64 (dp n:Int),.int .i64 (c:Int)] 118)).next=h2.next:=rfl;rw[<-n3];generalize h2.put x7 (.cells [.int .i64 (lo n),.int .i64 (dp n:Int),.int .i64 (c:Int)] 118)=h3 at g73 o3 n3 ⊢;have ag5:iM x7=9:=(vE x7 l7.2.1).trans l7.2.2;have agQ:iM r4=9:=(vE r4 l4.2.1).trans l4.2.2;have S3:tq n0 iM h3 sb nv d2 S2:=SA.frame ⟨by omega,λb _ _ a1 a2=>o3 b λe=>by rw[e,ag5]at a2;omega⟩ λ_ _=>rfl;obtain⟨s0,s1,s2,s3,s4⟩:=S3.BE;have c1:=S3.iE;have c2:=S3.T5;obtain⟨l5,l6⟩:=S3.mlt;obtain⟨l8,l9⟩:=S3.lt;have n7m:x7≠d2.mb:=λe=>by rw[<-e,ag5]at c2;cases c2
 have n4m:r4≠d2.mb:=λe=>by rw[<-e,agQ]at c2;cases c2
 have x7N:eI h3 x7 0 3=some [.int .i64 (lo n),.int .i64 (dp n:Int),.int .i64 (c:Int)]:=by rw[bX g73 (by simp)];rfl
 have ak0:(h3.skip 7).get d2.mb=some (.map (d2.jI.map (fV (.int .i64) H9)) d2.sc):=S3.OT;have hpV:∀K:ae->aa->Prop,Yr (.one .i) (.map d2.mb) (.int .i64 (n:Int)) (.agg [.int .i64 (lo n),.int .i64 (dp n:Int),.int .i64 (c:Int)]) (h3.skip 7) K=K (.eC []) ((h3.skip 7).put d2.mb (.map ((jA d2.jI d2.sc (n:Int) (lo n,(dp n:Int),(c:Int))).map (fV (.int .i64) H9)) (hU d2.jI d2.sc (n:Int)))):=λK=>ta mR S3.mM ak0 (k:=(lo n,(dp n:Int),(c:Int)));simp only[go_sem,Nat.reduceEqDiff,t1,t7,s1,x7N,hpV];obtain⟨h4,h4e⟩:∃y,y=(h3.skip 7).put d2.mb (.map ((jA d2.jI d2.sc (n:Int) (lo n,(dp n:Int),(c:Int))).map (fV (.int .i64) H9)) (hU d2.jI d2.sc (n:Int))):=⟨_,rfl⟩;rw[<-h4e];have n4:h4.next=h3.next+7:=by rw[h4e];rfl
 have g4m:h4.get d2.mb=some (.map ((jA d2.jI d2.sc (n:Int) (lo n,(dp n:Int),(c:Int))).map (fV (.int .i64) H9)) (hU d2.jI d2.sc (n:Int))):=by rw[h4e];exact aa.aj _ _ _
 have o4:∀b,b≠d2.mb->h4.get b=h3.get b:=λb hb=>by rw[h4e];exact aa.ah _ _ (Ne.symm hb)
 clear h4e hpV;have amE:eI h4 x7 0 3=some [.int .i64 (lo n),.int .i64 (dp n:Int),.int .i64 (c:Int)]:=by rw[Ee (o4 x7 n7m)];exact x7N
 have g44:h4.get r4=some (.cells [.int .i64 0,.int .i64 0,.int .i64 0] 118):=(o4 r4 n4m).trans ((o3 r4 (Ne.symm h74)).trans g4);have gY:=aD (o:=0) (n:=3) (vs:=[.int .i64 (lo n),.int .i64 (dp n:Int),.int .i64 (c:Int)]) g44 rfl (by simp);have ib:over [ae.int .i64 0,.int .i64 0,.int .i64 0] 0 [.int .i64 (lo n),.int .i64 (dp n:Int),.int .i64 (c:Int)]=[.int .i64 (lo n),.int .i64 (dp n:Int),.int .i64 (c:Int)]:=rfl;rw[ib]at gY;simp only[go_sem,Nat.reduceEqDiff,t4,amE,gY];have g54:(h4.put r4 (.cells [.int .i64 (lo n),.int .i64 (dp n:Int),.int .i64 (c:Int)] 118)).get r4=some (.cells [.int .i64 (lo n),.int .i64 (dp n:Int),.int .i64 (c:Int)] 118):=aa.aj _ _ _;have o5:∀b,b≠r4->(h4.put r4 (.cells [.int .i64 (lo n),.int .i64 (dp n:Int),.int .i64 (c:Int)] 118)).get b=h4.get b:=λb hb=>aa.ah _ _ (Ne.symm hb);have n5:(h4.put r4 (.cells [.int .i64 (lo n),.int .i64 (dp n:Int),.int .i64 (c:Int)] 118)).next=h4.next:=rfl;generalize h4.put r4 (.cells [.int .i64 (lo n),.int .i64 (dp n:Int),.int .i64 (c:Int)] 118)=h5 at g54 o5 n5 ⊢;have F:∀b,b≠d2.mb->b≠r4->h5.get b=h3.get b:=λb x1 x2=>(o5 b x2).trans (o4 b x1);have BX:∀b k,iM b=k->k≠2->k≠9->h5.get b=h3.get b:=λb k e x1 x2=>F b (λe2=>by rw[e2,c2]at e;omega) (λe2=>by rw[e2,agQ]at e;omega);refine hr _ h5 iM {d2 with jI:=jA d2.jI d2.sc (n:Int) (lo n,(dp n:Int),(c:Int)),sc:=hU d2.jI d2.sc (n:Int)} S2 c (by simp[T.ag,t4]) g54 ?_ ?_ hM hF hS vE (by omega) ?_
 .have cd:∀(k:Nat)(v:ae),qf iM n0 h3 k v->k≠2->k≠9->∀b,aM v b->h5.get b=h3.get b:=λk v hb x1 x2 b iB=>BX b k (hb b iB).2.2 x1 x2
  refine⟨⟨l8,by omega⟩,c1,(BX sb 1 c1 (by omega) (by omega)).trans S3.obj,⟨l5,by show d2.mb<h5.next;omega⟩,c2,(o5 _ (Ne.symm n4m)).trans g4m,S3.mM.put _ _,⟨S3.clt.1,by have:=S3.clt.2;show d2.cb<h5.next;omega⟩,S3.qj,(BX _ 4 S3.qj (by omega) (by omega)).trans S3.I',S3.cM,S3.cV,
   S3.nodes.frame (by omega) (cd 7 _ S3.nI (by omega) (by omega)),S3.nI.mono (by omega) λ_ _=>rfl,S3.lJ,λi v m hv hm=>(S3.W3 i v m hv hm).frame (by omega) (cd 8 _ (S3.oD v (qQK hv)).2 (by omega) (by omega)),
   λv hv=>⟨(S3.oD v hv).1,(S3.oD v hv).2.mono (by omega) λ_ _=>rfl⟩,S3.lens.frame (by omega) (cd 3 _ S3.B9 (by omega) (by omega)),S3.B9.mono (by omega) λ_ _=>rfl,S3.W9,S3.ON⟩
 .exact⟨d2.sc,by show jA d2.jI _ _ _=_;rw[B6]⟩
 .intro b hb x1 x2 hc
  rw[F b (λe=>by
   have e2:=vE b hb;rw[e,c2]at e2;rcases hc with hc|hc|hc
   .omega
   .rw[e,<-e2]at hc;omega
   .rw[e,<-e2]at hc;omega) x2,o3 b x1]
  exact GM.get b hb hc
end
def HZ:iV E2 118=some true:=by kernel_rfl
def Bn:E2.size 118=some 3:=by kernel_rfl
section
variable{ns:List aw}{lo:Nat->Int}{dp:Nat->Nat}
def VB (ns:List aw)(lo:Nat->Int)(dp:Nat->Nat)(hin:aa)(nv:ae)(sb n:Nat)(x:aw)(off:Int)(aZ:Nat->Nat)(d:wC)(h:aa)(r:ae)(h':aa):Prop :=
 ∃(dm:wC)(Sm:yX)(cls:Nat->Nat)(col':Nat->Nat)(d':wC)(S':yX)(c:Nat),r=H9 (lo n,(dp n:Int),(c:Int))/\aU hin h'/\tq hin.next col' h' sb nv d' S'/\VI ns lo dp dm Sm cls/\(∀e,e∈x.ak->(cX dm.jI (e.to:Int)).isSome=true) /\
  (∀j:Nat,(cX d.jI (j:Int)).isSome=true->(cX dm.jI (j:Int)).isSome=true)/\(∀j:Nat,(cX dm.jI (j:Int)).isSome=true->(cX d.jI (j:Int)).isSome=true\/dp j<dp n) /\
  S'.M[c]?=some (cK cls lo off x)/\S'.fl[c]?=some (decide (n=0))/\(S'=Sm\/(¬∃j:Nat,Sm.M[j]?=some (cK cls lo off x)/\Sm.fl[j]?=some (decide (n=0)))/\c=Sm.M.length/\S'=⟨Sm.M++[cK cls lo off x],Sm.fl++[decide (n=0)],Sm.ln++[(dp n:Int)]⟩) /\
  (∃sc,d'.jI=jA dm.jI sc (n:Int) (lo n,(dp n:Int),(c:Int)))/\(∀b,b<h.next->col' b=aZ b)/\Fl 8 hin.next aZ h h'
def Bu (B:P7 ns lo dp)(hlen:ns.length<=1000){hin:aa}{nv:ae}(hN:fO hin nv ns){sb n:Nat}{x:aw}(hx:ns[n]?=some x)
 (vK:∀e,e∈x.ak->∀(aZ:Nat->Nat)(d:wC)(S:yX)(cls:Nat->Nat)(h:aa),aU hin h->tq hin.next aZ h sb nv d S->VI ns lo dp d S cls->Ec E2 35 [.ptr sb 0,.int .i64 (e.to:Int)] h (VQ ns lo dp hin nv sb e.to aZ d h))
 {aZ:Nat->Nat} {d:wC} {S:yX} {cls:Nat->Nat} {h:aa} (hle:aU hin h) (H:tq hin.next aZ h sb nv d S) (V:VI ns lo dp d S cls) (Qh:cX d.jI (n:Int)=none) :
 Ec E2 35 [.ptr sb 0,.int .i64 (n:Int)] h (VB ns lo dp hin nv sb n x (if n=0 then 0 else lo n) aZ d h):=by
 have hm:=qQK hx;have DT:=(qQZ.1 hx).1;have tu:x.ak.length<=256:=sS (B.W.nq x hm) λe he=>uu (B.W.lt x e hm he);obtain⟨nb,no,ev,pN,uO,Ky⟩:=hN.at hx;obtain⟨Mb,agk⟩:=B.qA hx;have gW:=B.W.fin x hm;have agn:=B.loB n DT;have akp:=B.dpB n DT;refine Ec.bu (aI (by decide)) Cv ?_;unfold zS;obtain⟨s0,s1,s2,s3,s4⟩:=H.BE;obtain⟨l1,l2⟩:=H.lt;obtain⟨m1,m2⟩:=H.mlt;have nO:=hle.next;have bh:aU h (h.push (.cells [.int .i64 0,.int .i64 0,.int .i64 0] 118)):=(aU.refl h).push _;have yK:(h.push (.cells [.int .i64 0,.int .i64 0,.int .i64 0] 118)).next=h.next+1:=rfl;have r1:(h.push (.cells [.int .i64 0,.int .i64 0,.int .i64 0] 118)).get h.next=some (.cells [.int .i64 0,.int .i64 0,.int .i64 0] 118):=aa.ai _ _;have q1:aN (h.push (.cells [.int .i64 0,.int .i64 0,.int .i64 0] 118)) sb 1=some (.map d.mb):=by rw[bh.aN l2];exact s1
 have ZV:(h.push (.cells [.int .i64 0,.int .i64 0,.int .i64 0] 118)).get d.mb=some (.map (d.jI.map (fV (.int .i64) H9)) d.sc):=(bh.get _ m2).trans H.OT;simp only[go_sem,Nat.reduceEqDiff,Nat.reduceAdd,reduceCtorEq];generalize h.push (.cells [.int .i64 0,.int .i64 0,.int .i64 0] 118)=h1 at bh yK r1 q1 ZV ⊢;simp only[go_sem,Nat.reduceEqDiff,Nat.reduceAdd,Nat.reduceLeDiff,reduceCtorEq,q1,jQ mR ZV,Qh];have aS:aU h1 ((h1.push (.cells [.int .i64 0,.int .i64 0,.int .i64 0] 118)).push (.cells [.int .i64 0,.int .i64 0,.int .i64 0] 118)):=((aU.refl h1).push _).push _;have g2:((h1.push (.cells [.int .i64 0,.int .i64 0,.int .i64 0] 118)).push (.cells [.int .i64 0,.int .i64 0,.int .i64 0] 118)).get (h1.next+1)=some (.cells [.int .i64 0,.int .i64 0,.int .i64 0] 118):=aa.ai _ _;have n2:((h1.push (.cells [.int .i64 0,.int .i64 0,.int .i64 0] 118)).push (.cells [.int .i64 0,.int .i64 0,.int .i64 0] 118)).next=h1.next+2:=rfl;have pK:=aD (o:=0) (n:=3) (vs:=[.int .i64 (-1),.int .i64 0,.int .i64 0]) g2 rfl (by simp);have ib:over [ae.int .i64 0,.int .i64 0,.int .i64 0] 0 [.int .i64 (-1),.int .i64 0,.int .i64 0]=[.int .i64 (-1),.int .i64 0,.int .i64 0]:=rfl;rw[ib]at pK;obtain⟨hX,hXe⟩:∃y,y=((h1.push (.cells [.int .i64 0,.int .i64 0,.int .i64 0] 118)).push (.cells [.int .i64 0,.int .i64 0,.int .i64 0] 118)).put (h1.next+1) (.cells [.int .i64 (-1),.int .i64 0,.int .i64 0] 118):=⟨_,rfl⟩;rw[<-hXe]at pK;have nX:hX.next=h1.next+2:=by rw[hXe];rfl
 have gX:hX.get (h1.next+1)=some (.cells [.int .i64 (-1),.int .i64 0,.int .i64 0] 118):=by rw[hXe];exact aa.aj _ _ _
 have oX:∀b,b<h1.next->hX.get b=h1.get b:=λb hb=>by rw[hXe,aa.ah _ _ (by omega)];exact aS.get b hb
 clear hXe g2 n2 aS;have akT:aU h1 hX:=⟨by omega,oX⟩;have Ma:aU h hX:=bh.trans akT;have x0:aN hX sb 0=some nv:=by rw[Ma.aN l2];exact s0
 have nrX:aN hX nb (no+1)=some (.int .i64 x.fin):=((pN.mono hle).mono Ma).aN (i:=1) rfl;have neX:aN hX nb no=some ev:=((pN.mono hle).mono Ma).aN (i:=0) rfl;have NP:∀h' K,cH ev h' K=K (.int .i64 (x.ak.length:Int)) h':=λh' K=>by rw[uO.len,qQD]
 have yd:=aD (o:=0) (n:=1) (vs:=[.int .i64 x.fin]) gX rfl (by simp);rw[bW]at yd
 have main:∀(hY:aa),hY.next=hX.next->(∀b,b≠h1.next+1->hY.get b=hX.get b)->hY.get (h1.next+1)=some (.cells [.int .i64 (qA lo x.fin (x.ak.take 0)),.int .i64 (vS dp (x.ak.take 0)),.int .i64 0] 118) ->
     aU hin hY/\L0 ns lo dp hin nv sb n (h1.next+1) h.next (ep aZ h 9) d hY x 0 (ep aZ h 9) d S cls hY/\aU h hY:=by
  intro hY e1 e2 e3;have vJ:aU h hY:=⟨by omega,λb hb=>(e2 b (by omega)).trans (Ma.get b hb)⟩;exact⟨hle.trans vJ,⟨hle.trans vJ,H.frame (.of vJ) λb hb=>br hb,V,λe he=>(by simp at he),λj hj=>hj,λj hj=>.inl hj,λ_ _=>rfl,qQY _,λ_ _ _ _=>rfl,e3⟩,vJ⟩
 have GU:hin.next<=h1.next+1/\ep aZ h 9 (h1.next+1)=9:=⟨by omega,dY (by omega)⟩;by_cases Vy:0<=x.fin
 .have lu:qA lo x.fin (x.ak.take 0)=x.fin:=by unfold qA;simp[Vy]
  obtain⟨hhY,LL,vJ⟩:=main (hX.put (h1.next+1) (.cells ([.int .i64 (-1),.int .i64 0,.int .i64 0].set 0 (.int .i64 x.fin)) 118)) rfl (λb hb=>aa.ah _ _ (Ne.symm hb)) (by rw[lu];exact aa.aj _ _ _);have SQ:(hX.put (h1.next+1) (.cells ([.int .i64 (-1),.int .i64 0,.int .i64 0].set 0 (.int .i64 x.fin)) 118)).get h.next=some (.cells [.int .i64 0,.int .i64 0,.int .i64 0] 118):=(aa.ah _ _ (by omega)).trans ((oX _ (by omega)).trans r1);have eY:aN (hX.put (h1.next+1) (.cells ([.int .i64 (-1),.int .i64 0,.int .i64 0].set 0 (.int .i64 x.fin)) 118)) sb 0=some nv:=by rw[vJ.aN l2];exact s0
  have eY2:aN (hX.put (h1.next+1) (.cells ([.int .i64 (-1),.int .i64 0,.int .i64 0].set 0 (.int .i64 x.fin)) 118)) nb no=some ev:=by exact((pN.mono hle).mono vJ).aN (i:=0) rfl
  have nY:(hX.put (h1.next+1) (.cells ([.int .i64 (-1),.int .i64 0,.int .i64 0].set 0 (.int .i64 x.fin)) 118)).next=h1.next+2:=nX;have JU:¬x.fin<0:=by omega
  simp only[go_sem,Nat.reduceEqDiff,reduceCtorEq,pK,x0,Ky,nrX,JU,yd,eY,eY2,NP];generalize hX.put (h1.next+1) (.cells ([.int .i64 (-1),.int .i64 0,.int .i64 0].set 0 (.int .i64 x.fin)) 118)=hY at hhY LL vJ eY eY2 nY SQ ⊢;refine Ik B hN hx ev uO vK (r4:=h.next) (h0:=hY) ⟨GU.1,by omega,GU.2⟩ LL _ (by simp[T.ag]) (by simp[T.ag]) (by simp[T.ag]) (by simp[T.ag]) (by simp[T.ag]) (by simp[T.ag]) (by simp[T.ag]) ?_;intro fr hZ iM d2 S2 mE t0 t1 t4 t7 L;have zx:aN hZ (h1.next+1) 0=some (.int .i64 (lo n)):=by rw[aq L.x7,qZY,Mb];rfl
  obtain⟨z0',_,_,_,_⟩:=L.sm.BE;have hnZ:=L.next;have Af:=L.hle;obtain⟨off,sd⟩:∃off:Int,off=if n=0 then 0 else lo n:=⟨_,rfl⟩
  have GO:0<=off/\off<=1152921504606846976:=by rw[sd];split<;>omega
  have Me:0<=x.fin->off<=x.fin:=λh=>by rw[sd];split;exact h;exact vU hx (B.mn n DT) h
  rw[<-sd];have mlt:=L.sm.lt;have eM:∀c,aN (hZ.push (.cells c 110)) sb 0=some nv:=λc=>by rw[((aU.refl hZ).push _).aN mlt.2];exact z0'
  have eM1:∀c,aN (hZ.push (.cells c 110)) nb (no+1)=some (.int .i64 x.fin):=λc=>((pN.mono Af).mono ((aU.refl hZ).push _)).aN (i:=1) rfl;have eM0:∀c,aN (hZ.push (.cells c 110)) nb no=some ev:=λc=>by exact((pN.mono Af).mono ((aU.refl hZ).push _)).aN (i:=0) rfl
  have hpM:∀u v,putAt (hZ.push (.cells [.af,u] 110)) hZ.next 1 1 [v]=some (hZ.push (.cells [.af,v] 110)):=λu v=>by
   rw[je (n:=1) rfl (by simp)];rfl
  have GS:IntKind.i64.wrap (x.fin-off)=x.fin-off:=wrap_i64 (by omega) (by omega);have agv:((n:Int)=0)↔n=0:=by omega
  have Vx:∀e,e∈x.ak->(cX d2.jI (e.to:Int)).isSome=true:=by have:=L.done;rwa [qZY]at this
  have ak3:=bh.next
  have fin:∀(hB:aa),aU hZ hB->hB.next=hZ.next+1->hB.get hZ.next=some (.cells [.af,.int .i64 (cK mE lo off x).fin] 110)->∀(fr:Fr)(Qn Qr:Fr->aa->Prop)(Qx:Nat->Fr->aa->Prop),
      fr.get 0=some (.ptr sb 0)->fr.get 1=some (.int .i64 (n:Int))->fr.get 4=some (.ptr h.next 0)->fr.get 7=some (.ptr (h1.next+1) 0)->fr.get 13=some (.int .i64 off)->fr.get 14=some (.ptr hZ.next 0)->fr.get 110=some ev->fr.get 111=some (.int .i64 (x.ak.length:Int))->fr.get 112=some (.int .i64 0) ->
      (∀fr h',(∀Y3 Y4 Vi,(∀fr h' (l:List ae),fr.get 4=some (.ptr h.next 0)->eI h' h.next 0 3=some l->VB ns lo dp hin nv sb n x off aZ d h (.agg l) h'->Vi fr h')->wp E2 EZ fr h' Y3 Y4 Vi)->Qx 2 fr h')->wp E2 (.loop pz) fr hB Qn Qx Qr:=by
   intro hB vI nB gB fr Qn Qr Qx t0 t1 t4 t7 t13 t14 t110 t111 t112 hq;have SB:tq hin.next (ep iM hZ 9) hB sb nv d2 S2:=L.sm.frame (.of vI) λb hb=>br hb;have hzc:ep iM hZ 9 hZ.next=9:=dY (qQY _);refine Il B hx ev uO (Af.trans vI) SB L.vi Vx off GO (cK mE lo off x).fin (r4:=h.next) (x7:=h1.next+1) (z14:=hZ.next) ⟨by have:=Af.next;omega,by omega,by rw[hzc];omega⟩ fr gB t0 t1 t4 t7 t13 t14 t110 t111 t112 ?_;intro fr hC t0 t1 t4 t7 t14 LC;refine hq fr hC λY3 Y4 Vi hqr=>?_;have hnC:=LC.next;obtain⟨mv,gm,hom,Xl⟩:=LC.box;have XG:(cK mE lo off x).ak.length=x.ak.length:=qQD ..
   rw[<-XG,qZY]at hom;have kE:∀b,b<hB.next->ep (ep iM hZ 9) hB 8 b=ep iM hZ 9 b:=λb hb=>br hb;have SC:tq hin.next (ep (ep iM hZ 9) hB 8) hC sb nv d2 S2:=SB.frame ⟨hnC,λb _ a1 a2 a3=>LC.uS b a1 λe=>by rw[e,hzc]at a3;omega⟩ kE;have k7:ep (ep iM hZ 9) hB 8 (h1.next+1)=9:=by rw[kE _ (by omega),br (by omega),L.iE _ (by omega)];exact GU.2
   have k4:ep (ep iM hZ 9) hB 8 h.next=9:=by rw[kE _ (by omega),br (by omega),L.iE _ (by omega)];exact dY (qQY _)
   have g7:hC.get (h1.next+1)=some (.cells [.int .i64 (lo n),.int .i64 (dp n:Int),.int .i64 0] 118):=by
    rw[LC.uS _ (by omega) (by omega),vI.get _ (by omega),L.x7,qZY,Mb,agk]
   have g4:hC.get h.next=some (.cells [.int .i64 0,.int .i64 0,.int .i64 0] 118):=by
    rw[LC.uS _ (by omega) (by omega),vI.get _ (by omega),L.uS _ (by omega) (by omega) (.inr (.inr (by rw[dY (qQY _)];omega))),SQ]
   refine Bv B hlen hx (r4:=h.next) (x7:=h1.next+1) (z14:=hZ.next) SC L.vi Vx off GO Me mv gm hom (λb hb=>⟨by have:=(Xl b hb).1;have:=Af.next;omega,(Xl b hb).2,dY (Xl b hb).1⟩) g7 g4 ⟨by omega,by omega,k7⟩ ⟨by omega,by omega,k4⟩ (by omega) fr t0 t1 t4 t7 t14 ?_;intro fr h' col' d' S' c t4 gr SA B6 hM hF hS r8 Fa uR
   have pI:∀b,b<h.next->(b<hin.next\/aZ b=0\/8<aZ b)->h'.get b=h.get b:=λb hb hc=>by
    have BX:ep (ep iM hZ 9) hB 8 b=aZ b:=by rw[kE _ (by omega),br (by omega),L.iE _ (by omega),br hb]
    rw[uR b (by omega) (by omega) (by omega) (by rw[BX];exact hc),LC.uS b (by omega) (by omega),vI.get b (by omega),L.uS b (by omega) (by omega) (by rw[br hb];exact hc)];exact vJ.get b hb
   refine hqr fr h' _ t4 (by rw[bX gr (by simp)];rfl) ⟨d2,S2,mE,col',d',S',c,rfl,⟨by omega,λb hb=>(pI b (by omega) (.inl hb)).trans (hle.get b hb)⟩,SA,L.vi,Vx,L.mono,L.new,hM,hF,hS,B6,λb hb=>?_,by omega,pI⟩;rw[r8 b (by omega),kE _ (by omega),br (by omega),L.iE _ (by omega),br hb]
  by_cases qZ:n=0
  .have On:off=0:=by rw[sd,if_pos qZ]
   have TA:IntKind.i64.wrap (x.fin-0)=x.fin-0:=by rw[<-On];exact GS
   have CK:(n:Int)=0:=by omega
   simp only[go_sem,Nat.reduceEqDiff,reduceCtorEq,t0,t1,t7,zx,CK,eM,eM1,eM0,Ky,hpM,JU,NP,TA];have yH:x.fin-0=(cK mE lo off x).fin:=by show _=(if 0<=x.fin then x.fin-off else -1);rw[if_pos Vy,On]
   rw[yH];refine fin _ ((aU.refl hZ).push _) rfl (aa.ai _ _) _ _ _ _ (by simp[T.ag,t0]) (by simp[T.ag,t1]) (by simp[T.ag,t4]) (by simp[T.ag,t7]) (by simp[T.ag,On]) (by simp[T.ag]) (by simp[T.ag]) (by simp[T.ag]) (by simp[T.ag]) ?_;intro fr hC hT;simp only[Re,Du,if_true]
   exact hT _ _ _ λfr h' l t4 hl hv=>by
    simp only[Du];exact qQ (jf HZ Bn (by rw[rX,t4];rfl) hl) hv
  .have On:off=lo n:=by rw[sd,if_neg qZ]
   have TA:IntKind.i64.wrap (x.fin-lo n)=x.fin-lo n:=by rw[<-On];exact GS
   have CK:¬(n:Int)=0:=by omega
   simp only[go_sem,Nat.reduceEqDiff,reduceCtorEq,t0,t1,t7,zx,CK,eM,eM1,eM0,Ky,hpM,JU,NP,TA];have yH:x.fin-lo n=(cK mE lo off x).fin:=by show _=(if 0<=x.fin then x.fin-off else -1);rw[if_pos Vy,On]
   rw[yH];refine fin _ ((aU.refl hZ).push _) rfl (aa.ai _ _) _ _ _ _ (by simp[T.ag,t0]) (by simp[T.ag,t1]) (by simp[T.ag,t4]) (by simp[T.ag,t7]) (by simp[T.ag,On]) (by simp[T.ag]) (by simp[T.ag]) (by simp[T.ag]) (by simp[T.ag]) ?_;intro fr hC hT;simp only[Re,Du,if_true]
   exact hT _ _ _ λfr h' l t4 hl hv=>by
    simp only[Du];exact qQ (jf HZ Bn (by rw[rX,t4];rfl) hl) hv
 .have lu:qA lo x.fin (x.ak.take 0)=-1:=by unfold qA;simp[Vy]
  obtain⟨hhY,LL,vJ⟩:=main hX rfl (λb hb=>rfl) (by rw[lu];exact gX);have SQ:hX.get h.next=some (.cells [.int .i64 0,.int .i64 0,.int .i64 0] 118):=(oX _ (by omega)).trans r1;have eY:aN hX sb 0=some nv:=by rw[vJ.aN l2];exact s0
  have eY2:aN hX nb no=some ev:=by exact((pN.mono hle).mono vJ).aN (i:=0) rfl
  have nY:hX.next=h1.next+2:=nX;have JU:x.fin<0:=by omega
  simp only[go_sem,Nat.reduceEqDiff,reduceCtorEq,pK,x0,Ky,nrX,JU,eY2,NP];obtain⟨hY,hYe⟩:∃y,y=hX:=⟨_,rfl⟩;rw[<-hYe]at hhY LL vJ eY eY2 nY SQ ⊢;refine Ik B hN hx ev uO vK (r4:=h.next) (h0:=hY) ⟨GU.1,by omega,GU.2⟩ LL _ (by simp[T.ag]) (by simp[T.ag]) (by simp[T.ag]) (by simp[T.ag]) (by simp[T.ag]) (by simp[T.ag]) (by simp[T.ag]) ?_;intro fr hZ iM d2 S2 mE t0 t1 t4 t7 L;have zx:aN hZ (h1.next+1) 0=some (.int .i64 (lo n)):=by rw[aq L.x7,qZY,Mb];rfl
  obtain⟨z0',_,_,_,_⟩:=L.sm.BE;have hnZ:=L.next;have Af:=L.hle;obtain⟨off,sd⟩:∃off:Int,off=if n=0 then 0 else lo n:=⟨_,rfl⟩
  have GO:0<=off/\off<=1152921504606846976:=by rw[sd];split<;>omega
  have Me:0<=x.fin->off<=x.fin:=λh=>by rw[sd];split;exact h;exact vU hx (B.mn n DT) h
  rw[<-sd];have mlt:=L.sm.lt;have eM:∀c,aN (hZ.push (.cells c 110)) sb 0=some nv:=λc=>by rw[((aU.refl hZ).push _).aN mlt.2];exact z0'
  have eM1:∀c,aN (hZ.push (.cells c 110)) nb (no+1)=some (.int .i64 x.fin):=λc=>((pN.mono Af).mono ((aU.refl hZ).push _)).aN (i:=1) rfl;have eM0:∀c,aN (hZ.push (.cells c 110)) nb no=some ev:=λc=>by exact((pN.mono Af).mono ((aU.refl hZ).push _)).aN (i:=0) rfl
  have hpM:∀u v,putAt (hZ.push (.cells [.af,u] 110)) hZ.next 1 1 [v]=some (hZ.push (.cells [.af,v] 110)):=λu v=>by
   rw[je (n:=1) rfl (by simp)];rfl
  have GS:IntKind.i64.wrap (x.fin-off)=x.fin-off:=wrap_i64 (by omega) (by omega);have agv:((n:Int)=0)↔n=0:=by omega
  have Vx:∀e,e∈x.ak->(cX d2.jI (e.to:Int)).isSome=true:=by have:=L.done;rwa [qZY]at this
  have ak3:=bh.next
  have fin:∀(hB:aa),aU hZ hB->hB.next=hZ.next+1->hB.get hZ.next=some (.cells [.af,.int .i64 (cK mE lo off x).fin] 110)->∀(fr:Fr)(Qn Qr:Fr->aa->Prop)(Qx:Nat->Fr->aa->Prop),
      fr.get 0=some (.ptr sb 0)->fr.get 1=some (.int .i64 (n:Int))->fr.get 4=some (.ptr h.next 0)->fr.get 7=some (.ptr (h1.next+1) 0)->fr.get 13=some (.int .i64 off)->fr.get 14=some (.ptr hZ.next 0)->fr.get 110=some ev->fr.get 111=some (.int .i64 (x.ak.length:Int))->fr.get 112=some (.int .i64 0) ->
      (∀fr h',(∀Y3 Y4 Vi,(∀fr h' (l:List ae),fr.get 4=some (.ptr h.next 0)->eI h' h.next 0 3=some l->VB ns lo dp hin nv sb n x off aZ d h (.agg l) h'->Vi fr h')->wp E2 EZ fr h' Y3 Y4 Vi)->Qx 2 fr h')->wp E2 (.loop pz) fr hB Qn Qx Qr:=by
   intro hB vI nB gB fr Qn Qr Qx t0 t1 t4 t7 t13 t14 t110 t111 t112 hq;have SB:tq hin.next (ep iM hZ 9) hB sb nv d2 S2:=L.sm.frame (.of vI) λb hb=>br hb;have hzc:ep iM hZ 9 hZ.next=9:=dY (qQY _);refine Il B hx ev uO (Af.trans vI) SB L.vi Vx off GO (cK mE lo off x).fin (r4:=h.next) (x7:=h1.next+1) (z14:=hZ.next) ⟨by have:=Af.next;omega,by omega,by rw[hzc];omega⟩ fr gB t0 t1 t4 t7 t13 t14 t110 t111 t112 ?_;intro fr hC t0 t1 t4 t7 t14 LC;refine hq fr hC λY3 Y4 Vi hqr=>?_;have hnC:=LC.next;obtain⟨mv,gm,hom,Xl⟩:=LC.box;have XG:(cK mE lo off x).ak.length=x.ak.length:=qQD ..
   rw[<-XG,qZY]at hom;have kE:∀b,b<hB.next->ep (ep iM hZ 9) hB 8 b=ep iM hZ 9 b:=λb hb=>br hb;have SC:tq hin.next (ep (ep iM hZ 9) hB 8) hC sb nv d2 S2:=SB.frame ⟨hnC,λb _ a1 a2 a3=>LC.uS b a1 λe=>by rw[e,hzc]at a3;omega⟩ kE;have k7:ep (ep iM hZ 9) hB 8 (h1.next+1)=9:=by rw[kE _ (by omega),br (by omega),L.iE _ (by omega)];exact GU.2
   have k4:ep (ep iM hZ 9) hB 8 h.next=9:=by rw[kE _ (by omega),br (by omega),L.iE _ (by omega)];exact dY (qQY _)
   have g7:hC.get (h1.next+1)=some (.cells [.int .i64 (lo n),.int .i64 (dp n:Int),.int .i64 0] 118):=by
    rw[LC.uS _ (by omega) (by omega),vI.get _ (by omega),L.x7,qZY,Mb,agk]
   have g4:hC.get h.next=some (.cells [.int .i64 0,.int .i64 0,.int .i64 0] 118):=by
    rw[LC.uS _ (by omega) (by omega),vI.get _ (by omega),L.uS _ (by omega) (by omega) (.inr (.inr (by rw[dY (qQY _)];omega))),SQ]
   refine Bv B hlen hx (r4:=h.next) (x7:=h1.next+1) (z14:=hZ.next) SC L.vi Vx off GO Me mv gm hom (λb hb=>⟨by have:=(Xl b hb).1;have:=Af.next;omega,(Xl b hb).2,dY (Xl b hb).1⟩) g7 g4 ⟨by omega,by omega,k7⟩ ⟨by omega,by omega,k4⟩ (by omega) fr t0 t1 t4 t7 t14 ?_;intro fr h' col' d' S' c t4 gr SA B6 hM hF hS r8 Fa uR
   have pI:∀b,b<h.next->(b<hin.next\/aZ b=0\/8<aZ b)->h'.get b=h.get b:=λb hb hc=>by
    have BX:ep (ep iM hZ 9) hB 8 b=aZ b:=by rw[kE _ (by omega),br (by omega),L.iE _ (by omega),br hb]
    rw[uR b (by omega) (by omega) (by omega) (by rw[BX];exact hc),LC.uS b (by omega) (by omega),vI.get b (by omega),L.uS b (by omega) (by omega) (by rw[br hb];exact hc)];exact vJ.get b hb
   refine hqr fr h' _ t4 (by rw[bX gr (by simp)];rfl) ⟨d2,S2,mE,col',d',S',c,rfl,⟨by omega,λb hb=>(pI b (by omega) (.inl hb)).trans (hle.get b hb)⟩,SA,L.vi,Vx,L.mono,L.new,hM,hF,hS,B6,λb hb=>?_,by omega,pI⟩;rw[r8 b (by omega),kE _ (by omega),br (by omega),L.iE _ (by omega),br hb]
  by_cases qZ:n=0
  .have On:off=0:=by rw[sd,if_pos qZ]
   have TA:IntKind.i64.wrap (x.fin-0)=x.fin-0:=by rw[<-On];exact GS
   have CK:(n:Int)=0:=by omega
   simp only[go_sem,Nat.reduceEqDiff,reduceCtorEq,t0,t1,t7,zx,CK,eM,eM1,eM0,Ky,hpM,JU,NP];have yH:(-1:Int)=(cK mE lo off x).fin:=by show _=(if 0<=x.fin then x.fin-off else -1);rw[if_neg Vy]
   rw[yH];refine fin _ ((aU.refl hZ).push _) rfl (aa.ai _ _) _ _ _ _ (by simp[T.ag,t0]) (by simp[T.ag,t1]) (by simp[T.ag,t4]) (by simp[T.ag,t7]) (by simp[T.ag,On]) (by simp[T.ag]) (by simp[T.ag]) (by simp[T.ag]) (by simp[T.ag]) ?_;intro fr hC hT;simp only[Re,Du,if_true]
   exact hT _ _ _ λfr h' l t4 hl hv=>by
    simp only[Du];exact qQ (jf HZ Bn (by rw[rX,t4];rfl) hl) hv
  .have On:off=lo n:=by rw[sd,if_neg qZ]
   have TA:IntKind.i64.wrap (x.fin-lo n)=x.fin-lo n:=by rw[<-On];exact GS
   have CK:¬(n:Int)=0:=by omega
   simp only[go_sem,Nat.reduceEqDiff,reduceCtorEq,t0,t1,t7,zx,CK,eM,eM1,eM0,Ky,hpM,JU,NP];have yH:(-1:Int)=(cK mE lo off x).fin:=by show _=(if 0<=x.fin then x.fin-off else -1);rw[if_neg Vy]
   rw[yH];refine fin _ ((aU.refl hZ).push _) rfl (aa.ai _ _) _ _ _ _ (by simp[T.ag,t0]) (by simp[T.ag,t1]) (by simp[T.ag,t4]) (by simp[T.ag,t7]) (by simp[T.ag,On]) (by simp[T.ag]) (by simp[T.ag]) (by simp[T.ag]) (by simp[T.ag]) ?_;intro fr hC hT;simp only[Re,Du,if_true]
   exact hT _ _ _ λfr h' l t4 hl hv=>by
    simp only[Du];exact qQ (jf HZ Bn (by rw[rX,t4];rfl) hl) hv
def ae9 {es:List (Int×Y5×Nat)}{sc:Nat}{n:Nat}{y:Y5}(j:Nat):cX (jA es sc (n:Int) y) (j:Int)=if j=n then some y else cX es (j:Int):=by
 rw[sL];by_cases h:j=n
 .subst h;rw[if_pos rfl,if_pos rfl]
 .rw[if_neg h,if_neg (by omega)]
def PS {hin:aa}{nv:ae}{sb n:Nat}{aZ:Nat->Nat}{d:wC}{S:yX}{cls:Nat->Nat}{h:aa}(hle:aU hin h)(H:tq hin.next aZ h sb nv d S)(V:VI ns lo dp d S cls)(y:Y5)(hv:cX d.jI (n:Int)=some y) :
 Ec E2 35 [.ptr sb 0,.int .i64 (n:Int)] h (VQ ns lo dp hin nv sb n aZ d h):=by
 refine Ec.bu (aI (by decide)) Cv ?_;unfold zS;obtain⟨s0,s1,s2,s3,s4⟩:=H.BE;obtain⟨l1,l2⟩:=H.lt;obtain⟨m1,m2⟩:=H.mlt;have nO:=hle.next;have bh:aU h (h.push (.cells [.int .i64 0,.int .i64 0,.int .i64 0] 118)):=(aU.refl h).push _;have yK:(h.push (.cells [.int .i64 0,.int .i64 0,.int .i64 0] 118)).next=h.next+1:=rfl;have r1:(h.push (.cells [.int .i64 0,.int .i64 0,.int .i64 0] 118)).get h.next=some (.cells [.int .i64 0,.int .i64 0,.int .i64 0] 118):=aa.ai _ _;have q1:aN (h.push (.cells [.int .i64 0,.int .i64 0,.int .i64 0] 118)) sb 1=some (.map d.mb):=by rw[bh.aN l2];exact s1
 have ZV:(h.push (.cells [.int .i64 0,.int .i64 0,.int .i64 0] 118)).get d.mb=some (.map (d.jI.map (fV (.int .i64) H9)) d.sc):=(bh.get _ m2).trans H.OT;simp only[go_sem,Nat.reduceEqDiff,Nat.reduceAdd,reduceCtorEq];generalize h.push (.cells [.int .i64 0,.int .i64 0,.int .i64 0] 118)=h1 at bh yK r1 q1 ZV ⊢;obtain⟨j,Iu,tH,rfl⟩:=V.shp _ y hv;have hj:j=n:=by omega
 subst hj;simp only[go_sem,Nat.reduceEqDiff,Nat.reduceAdd,reduceCtorEq,q1,jQ mR ZV,hv,H9];have aS:aU h1 (h1.push (.cells [.int .i64 (lo j),.int .i64 (dp j:Int),.int .i64 (cls j:Int)] 118)):=(aU.refl h1).push _;have g2:(h1.push (.cells [.int .i64 (lo j),.int .i64 (dp j:Int),.int .i64 (cls j:Int)] 118)).get h1.next=some (.cells [.int .i64 (lo j),.int .i64 (dp j:Int),.int .i64 (cls j:Int)] 118):=aa.ai _ _;have l2N:eI (h1.push (.cells [.int .i64 (lo j),.int .i64 (dp j:Int),.int .i64 (cls j:Int)] 118)) h1.next 0 3=some [.int .i64 (lo j),.int .i64 (dp j:Int),.int .i64 (cls j:Int)]:=by rw[bX g2 (by simp)];rfl
 have r2:(h1.push (.cells [.int .i64 (lo j),.int .i64 (dp j:Int),.int .i64 (cls j:Int)] 118)).get h.next=some (.cells [.int .i64 0,.int .i64 0,.int .i64 0] 118):=(aS.get _ (by omega)).trans r1;have cS:=aD (o:=0) (n:=3) (vs:=[.int .i64 (lo j),.int .i64 (dp j:Int),.int .i64 (cls j:Int)]) r2 rfl (by simp);have ib:over [ae.int .i64 0,.int .i64 0,.int .i64 0] 0 [.int .i64 (lo j),.int .i64 (dp j:Int),.int .i64 (cls j:Int)]=[.int .i64 (lo j),.int .i64 (dp j:Int),.int .i64 (cls j:Int)]:=rfl;rw[ib]at cS;simp only[go_sem,cS];have Mb:aU h ((h1.push (.cells [.int .i64 (lo j),.int .i64 (dp j:Int),.int .i64 (cls j:Int)] 118)).put h.next (.cells [.int .i64 (lo j),.int .i64 (dp j:Int),.int .i64 (cls j:Int)] 118)):=(bh.trans aS).put (qQY _) _;refine qQ (jf (b:=h.next) (o:=0) HZ Bn (by rw[rX];simp only[T.ag,Nat.reduceEqDiff,if_false,if_true];rfl) (by rw[bX (aa.aj _ _ _) (by simp)])) ?_;exact⟨aZ,d,S,cls,rfl,hle.trans Mb,H.frame (.of Mb) λ_ _=>rfl,V,by rw[hv];rfl,λ_ h=>h,λ_ h=>.inl h,λ_ _=>rfl,.of Mb⟩
def YN (B:P7 ns lo dp)(hlen:ns.length<=1000){hin:aa}{nv:ae}(hN:fO hin nv ns){sb:Nat}:∀(N n:Nat),dp n<N->n<ns.length->n≠0->∀(aZ:Nat->Nat)(d:wC)(S:yX)(cls:Nat->Nat)(h:aa),aU hin h->tq hin.next aZ h sb nv d S->VI ns lo dp d S cls ->
 Ec E2 35 [.ptr sb 0,.int .i64 (n:Int)] h (VQ ns lo dp hin nv sb n aZ d h):=by
 intro N
 induction N with
 |zero=>intro n h;omega
 |succ N ih =>
  intro n Vx pZ qZ aZ d S cls h hle H V;rcases hv:cX d.jI (n:Int) with _|y
  rotate_left
  .exact PS hle H V y hv
  obtain⟨x,hx⟩:∃x,ns[n]?=some x:=⟨_,qQW pZ⟩;obtain⟨rk,_,DZ⟩:=B.W.to
  have vK:∀e,e∈x.ak->∀(aZ:Nat->Nat)(d:wC)(S:yX)(cls:Nat->Nat)(h:aa),aU hin h->tq hin.next aZ h sb nv d S->VI ns lo dp d S cls->Ec E2 35 [.ptr sb 0,.int .i64 (e.to:Int)] h (VQ ns lo dp hin nv sb e.to aZ d h):=by
   intro e he aZ d S cls h hle H V;have h1:=B.dec n x e hx he;refine ih e.to (by omega) (DZ n x e hx he).1 (λe0=>?_) aZ d S cls h hle H V;have:=B.ahc pZ qZ;rw[e0]at h1;omega
  refine(Bu B hlen hN hx vK hle H V hv).mono ?_;rintro r h' ⟨dm,Sm,zI,col',d',S',c,rfl,iN,SA,Vm,mP,ZX,fR,hM,hF,hS,⟨sc,B6⟩,r8,uR⟩;rw[if_neg qZ]at hM hS;have hFd:decide (n=0)=false:=decide_eq_false qZ;rw[hFd]at hF hS
  have ZB:∀j:Nat,(cX d'.jI (j:Int)).isSome=true↔(cX dm.jI (j:Int)).isSome=true\/j=n:=λj=>by
   rw[B6,ae9];by_cases e:j=n
   .rw[if_pos e];simp[e]
   .rw[if_neg e];simp[e]
  have B1:(λj:Nat=>(cX d'.jI (j:Int)).isSome=true)=λj:Nat=>(cX dm.jI (j:Int)).isSome=true\/j=n:=funext λj=>propext (ZB j)
  have hnm:¬(cX dm.jI (n:Int)).isSome=true:=λhh=>by
   rcases fR n hh with h|h
   .rw[hv]at h;cases h
   .omega
  have nq:=B.W.nq x (qQK hx);have agZ:∀j:Nat,(cX dm.jI (j:Int)).isSome=true->j≠n:=λj hj e=>hnm (e▸hj)
  have mi:MI ns S'.M (EY zI n c) (λj:Nat=>(cX d'.jI (j:Int)).isSome=true) lo:=by
   rw[B1];rcases hS with rfl|⟨nN,rfl,rfl⟩
   .exact Vm.mi.fL hx mP (B.mn n pZ) hM
   .refine Vm.mi.new hx nq mP hnm (B.mn n pZ) λeE=>nN ?_;obtain⟨j,hj⟩:=qQL.1 eE;refine⟨j,hj,?_⟩;have ic:=SA.W9;have L5:=(qQZ.1 hj).1;simp only[qQM,qZK,qZE]at ic;have hjf:j<Sm.fl.length:=by omega
    rw[qQW hjf];exact congrArg some (Vm.fls _ (List.getElem_mem hjf))
  have V':VI ns lo dp d' S' (EY zI n c):=by
   refine⟨mi,λk y hk=>?_,λj z e hj hz he=>?_,?_,λj hj=>?_,λf hf=>?_⟩
   .rw[B6,sL]at hk;split at hk
    .rename_i hkn;cases hk;exact⟨n,hkn,pZ,by rw[kR]⟩
    .obtain⟨j,h1,h2,h3⟩:=Vm.shp k y hk;refine⟨j,h1,h2,?_⟩;rw[wy _ (agZ j (by rw[<-h1,hk];rfl))];exact h3
   .rcases(ZB j).1 hj with hj|rfl
    .exact(ZB _).2 (.inl (Vm.aeM j z e hj hz he))
    .rw[hx]at hz;cases hz;exact(ZB _).2 (.inl (mP e he))
   .rw[B6,ae9,if_neg (Ne.symm qZ)];exact Vm.no0
   .have hold:∀j:Nat,(cX dm.jI (j:Int)).isSome=true->S'.ln[zI j]?=some (dp j:Int):=λj hj=>by
     have:=Vm.lens j hj;rcases hS with rfl|⟨_,_,rfl⟩
     .exact this
     .show(Sm.ln++_)[_]?=_;rw[qQN (qQZ.1 this).1];exact this
    rcases(ZB j).1 hj with hj|rfl
    .rw[wy _ (agZ j hj)];exact hold j hj
    .rw[kR];rcases hS with rfl|⟨_,rfl,rfl⟩
     .
      obtain⟨i,hi,Vv⟩:=Vm.mi.all c (qQZ.1 hM).1;rw[<-Vv,Vm.lens i hi];have e1:=(mi.cl j hj).2;rw[kR,<-Vv,(Vm.mi.cl i hi).2]at e1
      have DT:i<ns.length:=by
       rcases hvi:cX dm.jI (i:Int) with _|y
       .rw[hvi]at hi;cases hi
       .obtain⟨i',q1,q2,_⟩:=Vm.shp _ y hvi;omega
      have d1:=(B.dep i DT).na (k:=lo i);rw[e1]at d1;rw[d1.uniq ((B.dep j pZ).na (k:=lo j))]
     .have ZP:=SA.ON;simp only[qQM,qZK,qZE] at ZP;show(Sm.ln++[_])[_]?=_;rw[show Sm.M.length=Sm.ln.length by omega];simp
   .rcases hS with rfl|⟨_,_,rfl⟩
    .exact Vm.fls f hf
    .rcases qQE.1 hf with hf|hf
     .exact Vm.fls f hf
     .simpa using hf
  refine⟨col',d',S',EY zI n c,by rw[kR],iN,SA,V',(ZB n).2 (.inr rfl),λj hj=>(ZB j).2 (.inl (ZX j hj)),λj hj=>?_,r8,uR⟩;rcases(ZB j).1 hj with hj|rfl
  .rcases fR j hj with h|h
   .exact .inl h
   .right;omega
  .right;omega
def PT (B:P7 ns lo dp)(hlen:ns.length<=1000){hin:aa}{nv:ae}(hN:fO hin nv ns){sb:Nat}{aZ:Nat->Nat}{d:wC}{S:yX}{cls:Nat->Nat}{h:aa}(hle:aU hin h)(H:tq hin.next aZ h sb nv d S)(V:VI ns lo dp d S cls) :
 Ec E2 35 [.ptr sb 0,.int .i64 0] h λr h'=>∃(col':Nat->Nat)(d':wC)(S':yX)(st:Nat)(z:Int),r=H9 (lo 0,z,(st:Int))/\aU hin h'/\tq hin.next col' h' sb nv d' S'/\MV S'.M st (aF ns 0) /\
   (∀x,x∈S'.M->-1<=x.fin)/\(∀(c:Nat)(k:Int),S'.ln[c]?=some k->∃m:Nat,k=(m:Int)/\iI (aF S'.M c) m/\m<=1000000)/\S'.M.length<=ns.length/\(∀b,b<h.next->col' b=aZ b)/\Fl 8 hin.next aZ h h':=by
 obtain⟨x,hx⟩:∃x,ns[0]?=some x:=⟨_,qQW B.W.pos⟩;have hxm:=qQK hx;obtain⟨rk,_,DZ⟩:=B.W.to
 have vK:∀e,e∈x.ak->∀(aZ:Nat->Nat)(d:wC)(S:yX)(cls:Nat->Nat)(h:aa),aU hin h->tq hin.next aZ h sb nv d S->VI ns lo dp d S cls->Ec E2 35 [.ptr sb 0,.int .i64 (e.to:Int)] h (VQ ns lo dp hin nv sb e.to aZ d h):=by
  intro e he aZ d S cls h hle H V;have h1:=B.dec 0 x e hx he;exact YN B hlen hN (dp e.to+1) e.to (qJA _) (DZ 0 x e hx he).1 (λe0=>by rw[e0]at h1;omega) aZ d S cls h hle H V
 have hb:=Bu B hlen hN hx vK hle H V V.no0;rw[if_pos rfl]at hb;refine Ec.mono (Q:=VB ns lo dp hin nv sb 0 x 0 aZ d h) hb ?_;rintro r h' ⟨dm,Sm,zI,col',d',S',c,rfl,iN,SA,Vm,mP,ZX,fR,hM,hF,hS,⟨sc,B6⟩,r8,uR⟩;have hFd:decide (0=0)=true:=rfl;rw[hFd]at hF hS
 have hSn:c=Sm.M.length/\S'=⟨Sm.M++[cK zI lo 0 x],Sm.fl++[true],Sm.ln++[(dp 0:Int)]⟩:=by
  rcases hS with rfl|⟨_,h1,h2⟩
  .have:=Vm.fls true (qQK hF);cases this
  .exact⟨h1,h2⟩
 obtain⟨rfl,rfl⟩:=hSn
 have D3:∀j:Nat,(cX dm.jI (j:Int)).isSome=true->j<ns.length/\j≠0:=λj hj=>by
  rcases Z8:cX dm.jI (j:Int) with _|y
  .rw[Z8]at hj;cases hj
  .obtain⟨j',q1,q2,_⟩:=Vm.shp _ y Z8;refine⟨by omega,λe=>?_⟩;subst e;rw[Vm.no0] at Z8;cases Z8
 have hN':=Vm.mi.top B.W hx mP Vm.aeM (λi hi=>(D3 i hi).1) (dp:=dp) (d0:=dp 0) (λi hi=>⟨B.dep i (D3 i hi).1,B.ahc (D3 i hi).1 (D3 i hi).2⟩) (B.dep 0 B.W.pos)
 have hMl:(Sm.M++[cK zI lo 0 x]).length<=ns.length:=by
  have:Sm.M.length<=ns.length-1:=by
   have key:=Vm.mi.len (ns:=ns) λi hi=>(D3 i hi).1;have qy:∀(l m:List Nat),l.Nodup->(∀x,x∈l->x∈m)->l.length<=m.length:=λl m h1 h2=>iG h1 h2
   have:=qy (List.range Sm.M.length) (((List.range ns.length).erase 0).map zI) List.nodup_range λc hc=>by
    obtain⟨i,hi,rfl⟩:=Vm.mi.all c (qJX.1 hc);exact qQB.2 ⟨i,(List.mem_erase_of_ne (D3 i hi).2).2 (qJX.2 (D3 i hi).1),rfl⟩
   rw[qQD,qKA,qWH (qJX.2 B.W.pos),qKA]at this;exact this
  have:=B.W.pos;simp only[qQM,qZK,qZE];omega
 refine⟨col',d',_,Sm.M.length,(dp 0:Int),rfl,iN,SA,hN',λy hy=>?_,λc k hk=>?_,hMl,r8,uR⟩
 .rcases qQE.1 hy with hy|hy
  .exact Vm.mi.fin y hy
  .simp only[qZN]at hy;subst hy;exact CY λh=>h
 .have hk:(Sm.ln++[(dp 0:Int)])[c]?=some k:=hk;have ZP:=SA.ON;simp only[qQM,qZK,qZE] at ZP;rcases lW _ _ _ _ hk with hk|⟨rfl,rfl⟩
  .have kM:c<Sm.M.length:=by have:=(qQZ.1 hk).1;omega
   obtain⟨i,hi,rfl⟩:=Vm.mi.all c kM;rw[Vm.lens i hi]at hk;cases hk;refine⟨dp i,rfl,?_,B.dpB i (D3 i hi).1⟩;show iI (aF (Sm.M++_) _) _;rw[kU Vm.mi.low kM,(Vm.mi.cl i hi).2];exact(B.dep i (D3 i hi).1).na
  .refine⟨dp 0,rfl,?_,B.dpB 0 B.W.pos⟩;rw[show Sm.ln.length=Sm.M.length by omega,hN'.start];exact B.dep 0 B.W.pos
end
def E8 (M:List aw)(to n:Nat):Prop:=∃u k,eK M u n=some (to,k)
def Lo {M:List aw}{to n:Nat}{x:aw}(hx:M[n]?=some x)(ha:x.ak.Pairwise (λx y=>x.letter<y.letter)):E8 M to n↔n=to\/∃e,e∈x.ak/\E8 M to e.to:=by
 constructor
 .rintro⟨u,k,hu⟩;cases u with
  |nil=>cases hu;exact .inl rfl
  |cons a u =>
   unfold eK at hu;rw[qQQ]at hu;obtain⟨e,he,hu⟩:=hu;rw[qQC]at hu;obtain⟨p,hp,hu⟩:=hu;cases hu;obtain⟨y,hy,hm,_⟩:=eo he;rw[hx]at hy;cases hy;exact .inr ⟨e,hm,u,p.2,hp⟩
 .rintro(rfl|⟨e,he,u,k,hu⟩)
  .exact⟨[],0,rfl⟩
  .refine⟨e.letter :: u,k+e.cost,?_⟩;unfold eK;rw[iF hx ha he];show(eK M u e.to).map _=_;rw[hu];rfl
open Classical in
def rV (M:List aw)(to n:Nat):Int:=if E8 M to n then 2 else 1
structure E7 (hin:aa)(nv:ae)(M:List aw)(p1 p2 p3 p4 kb to:Nat)(K:List Int)(h:aa):Prop where
 hle:aU hin h
 b1:h.get p1=some (.cells [.slice kb 0 M.length M.length true] 66)
 b2:h.get p2=some (.cells [.int .i64 (to:Int)] 3)
 b3:h.get p3=some (.cells [nv] 60)
 b4:h.get p4=some (.cells [.func 79 [] [.ptr p1 0,.ptr p2 0,.ptr p3 0,.ptr p4 0]] 152)
 bk:h.get kb=some (.cells (K.map (.int .i64)) 3)
 lt:hin.next<=kb/\kb<h.next/\p1<h.next/\p2<h.next/\p3<h.next/\p4<h.next
 ne:p1≠kb/\p2≠kb/\p3≠kb/\p4≠kb
 len:K.length=M.length
def VP (M:List aw)(to m:Nat)(K:List Int):Prop:=∀i,i<=m->∀k,K[i]?=some k->k=0\/k=rV M to i
section
variable{hin:aa}{nv:ae}{M:List aw}{p1 p2 p3 p4 kb to:Nat}
def E7.next {K:List Int}{h h':aa}(L:E7 hin nv M p1 p2 p3 p4 kb to K h){K':List Int}(hl:K'.length=K.length)(hn:h.next<=h'.next)(ho:∀b,b<h.next->b≠kb->h'.get b=h.get b)(hk:h'.get kb=some (.cells (K'.map (.int .i64)) 3)):E7 hin nv M p1 p2 p3 p4 kb to K' h':=by
 obtain⟨a1,a2,a3,a4,a5,a6⟩:=L.lt;obtain⟨c1,c2,c3,c4⟩:=L.ne;have hx:=L.hle.next;exact⟨⟨by omega,λb hb=>(ho b (by omega) (by omega)).trans (L.hle.get b hb)⟩,(ho _ a3 c1).trans L.b1,(ho _ a4 c2).trans L.b2,(ho _ a5 c3).trans L.b3,(ho _ a6 c4).trans L.b4,hk,⟨a1,by omega,by omega,by omega,by omega,by omega⟩,L.ne,hl.trans L.len⟩
def E7.ix {K:List Int}{h:aa}(L:E7 hin nv M p1 p2 p3 p4 kb to K h){n:Nat}(hn:n<M.length)(k:IntKind)(z:Int)(hz:z=(n:Int))(h':aa)(Q:ae->aa->Prop):fI 1 (.slice kb 0 M.length M.length true) (.int k z) h' Q=Q (.ptr kb n) h':=by
 rw[dj hz hn];simp
def VP.le {M:List aw}{to m m':Nat}{K:List Int}(H:VP M to m K)(h:m'<=m):VP M to m' K:=λi hi=>H i (by omega)
def LdQ (hin:aa)(nv:ae)(M:List aw)(p1 p2 p3 p4 kb to n:Nat)(K:List Int)(h:aa)(r:ae)(h':aa):Prop :=
 ∃(K':List Int),r=.bool (decide (rV M to n=2))/\E7 hin nv M p1 p2 p3 p4 kb to K' h'/\VP M to n K'/\K'[n]?=some (rV M to n)/\(∀i,n<i->K'[i]?=K[i]?)/\h.next<=h'.next/\(∀b,b<h.next->b≠kb->h'.get b=h.get b)
open Classical in
def IB (M:List aw)(to n:Nat)(l:List cI):Int:=if n=to\/∃e,e∈l/\E8 M to e.to then 2 else 1
def TW {Qn Qr:Fr->aa->Prop}{Qx:Nat->Fr->aa->Prop}{n:Nat}{x:aw}(hx:M[n]?=some x)(ie:Fk M)(tu:x.ak.length<=256)(ev:ae)(uO:cg hin 3 ev (x.ak.map aK))
 (vK:∀e,e∈x.ak->∀(K:List Int)(h:aa),E7 hin nv M p1 p2 p3 p4 kb to K h->VP M to e.to K->Ec E2 79 [.int .i64 (e.to:Int),.ptr p1 0,.ptr p2 0,.ptr p3 0,.ptr p4 0] h (LdQ hin nv M p1 p2 p3 p4 kb to e.to K h))
 {K0:List Int} {h0:aa} (L0:E7 hin nv M p1 p2 p3 p4 kb to K0 h0) (hK0:∀i,i<n->∀k,K0[i]?=some k->k=0\/k=rV M to i) (Iv:K0[n]?=some (IB M to n [])) (fr:Fr)
 (t0:fr.get 0=some (.int .i64 (n:Int))) (t1:fr.get 1=some (.ptr p1 0)) (t4:fr.get 4=some (.ptr p4 0)) (t27:fr.get 27=some ev) (t28:fr.get 28=some (.int .i64 (x.ak.length:Int))) (t29:fr.get 29=some (.int .i64 0))
 (hq:∀fr h' K,fr.get 0=some (.int .i64 (n:Int))->fr.get 1=some (.ptr p1 0)->E7 hin nv M p1 p2 p3 p4 kb to K h'->(∀i,i<n->∀k,K[i]?=some k->k=0\/k=rV M to i)->K[n]?=some (IB M to n x.ak)->(∀i,n<i->K[i]?=K0[i]?)->h0.next<=h'.next->(∀b,b<h0.next->b≠kb->h'.get b=h0.get b)->Qx 0 fr h'):wp E2 (.loop qk) fr h0 Qn Qx Qr:=by
 have pZ:=(qQZ.1 hx).1
 refine fg (λdd fr h'=>∃(i:Nat)(K:List Int),dd+i=x.ak.length/\fr.get 29=some (.int .i64 (i:Int))/\fr.get 0=some (.int .i64 (n:Int))/\fr.get 1=some (.ptr p1 0)/\fr.get 4=some (.ptr p4 0)/\fr.get 27=some ev/\fr.get 28=some (.int .i64 (x.ak.length:Int)) /\
  E7 hin nv M p1 p2 p3 p4 kb to K h'/\(∀i,i<n->∀k,K[i]?=some k->k=0\/k=rV M to i)/\K[n]?=some (IB M to n (x.ak.take i))/\(∀i,n<i->K[i]?=K0[i]?)/\h0.next<=h'.next/\(∀b,b<h0.next->b≠kb->h'.get b=h0.get b)) x.ak.length ?_ ?_
 .exact⟨0,K0,by omega,t29,t0,t1,t4,t27,t28,L0,hK0,Iv,λ_ _=>rfl,qQY _,λ_ _ _=>rfl⟩
 clear t0 t1 t4 t27 t28 t29 hK0 Iv;rintro dd fr h ⟨i,K,hd,t29,t0,t1,t4,t27,t28,L,hK,Iv,SO,nO,ho⟩;unfold qk;by_cases hc:(i:Int)<(x.ak.length:Int)
 .obtain⟨e,he⟩:∃e,x.ak[i]?=some e:=⟨_,qQW (by omega)⟩;have JT:=qQK he;have rq:=ie n x e hx JT;obtain⟨a1,a2,a3,a4,a5,a6⟩:=L.lt;obtain⟨c1,c2,c3,c4⟩:=L.ne;obtain⟨bb,o,di,fU⟩:=uO.ix (j:=i) (x:=aK e) (by rw[qQX,he];rfl)
  have Vs:eI h bb o 3=some (aK e):=by
   have:=(di.mono L.hle).eI (i:=0) (n:=3) (by simp[aK]);simpa[aK] using this
  have ib:over [ae.int .u8 0,.int .i64 0,.int .i64 0] 0 (aK e)=aK e:=rfl;have jX:(aK e).length=3:=rfl;have Tn:(aK e)[0]?=some (.int .u8 (e.letter:Int)):=rfl;have Fb:(aK e)[1]?=some (.int .i64 (e.to:Int)):=rfl;have pK:(aK e)[2]?=some (.int .i64 e.cost):=rfl;have bh:aU h (h.push (.cells (aK e) 124)):=(aU.refl h).push _;have l1:aN (h.push (.cells (aK e) 124)) h.next 1=some (.int .i64 (e.to:Int)):=by rw[aH];rfl
  have L1:E7 hin nv M p1 p2 p3 p4 kb to K (h.push (.cells (aK e) 124)):=L.next rfl bh.next (λb hb _=>bh.get b hb) ((bh.get _ a2).trans L.bk);have n1:(h.push (.cells (aK e) 124)).next=h.next+1:=rfl;have v4:aN (h.push (.cells (aK e) 124)) p4 0=some (.func 79 [] [.ptr p1 0,.ptr p2 0,.ptr p3 0,.ptr p4 0]):=by rw[aq L1.b4];rfl
  simp only[go_sem,Nat.reduceEqDiff,Nat.reduceAdd,t4,t27,t28,t29,hc,fU .i64 (i:Int) h,Vs,ib,jX,l1,v4];generalize h.push (.cells (aK e) 124)=h1 at bh l1 L1 n1 v4 ⊢;refine⟨by decide,?_⟩;refine(vK e JT K h1 L1 λj hj=>hK j (by omega)).mono ?_;rintro r h2 ⟨K2,rfl,L2,hK2,hKe,Xj,GK,GM⟩;have yN:IntKind.i64.wrap ((i:Int)+1)=((i+1:Nat):Int):=by rw[wrap_i64 (by omega) (by omega)];push_cast;rfl
  have htk:x.ak.take (i+1)=x.ak.take i++[e]:=by rw[qZD (by omega),(qQZ.1 he).2]
  have afq:∀j,j<n->∀k,K2[j]?=some k->k=0\/k=rV M to j:=λj hj k hk=>by
   by_cases hje:j<=e.to
   .exact hK2 j hje k hk
   .rw[Xj j (by omega)]at hk;exact hK j hj k hk
  have ajT:K2[n]?=some (IB M to n (x.ak.take i)):=by rw[Xj n rq];exact Iv
  have o02:∀b,b<h0.next->b≠kb->h2.get b=h0.get b:=λb hb dV=>by rw[GM b (by omega) dV,bh.get b (by omega)];exact ho b hb dV
  by_cases hr:rV M to e.to=2
  .have Qi:E8 M to e.to:=by unfold rV at hr;split at hr;assumption;omega
   have Qj:IB M to n (x.ak.take (i+1))=2:=by
    unfold IB;rw[if_pos (.inr ⟨e,by rw[htk];simp,Qi⟩)]
   have v1:aN h2 p1 0=some (.slice kb 0 M.length M.length true):=by rw[aq L2.b1];rfl
   have lix:=λh' Q=>L2.ix pZ .i64 (n:Int) rfl h' Q;have cS:=aD (o:=n) (n:=1) (vs:=[.int .i64 2]) L2.bk rfl (by simp;rw[L2.len];omega);rw[bW]at cS;simp only[go_sem,Nat.reduceEqDiff,reduceCtorEq,t0,t1,t4,t27,t28,t29,hr,v1,lix,cS,yN];have L3:=L2.next (K':=K2.set n 2) (h':=h2.put kb (.cells ((K2.map (.int .i64)).set n (.int .i64 2)) 3)) (by simp) (qQY _) (λb _ hb=>aa.ah _ _ (Ne.symm hb)) (by rw[aa.aj,List.map_set]);refine⟨dd-1,by omega,i+1,K2.set n 2,by omega,rfl,L3,λj hj k hk=>?_,?_,λj hj=>?_,by show h0.next<=h2.next;omega,λb hb dV=>?_⟩
   .rw[qQH (by omega)]at hk;exact afq j hj k hk
   .rw[Qj,qJQ (by rw[L2.len];exact pZ)]
   .rw[qQH (by omega),Xj j (by omega)];exact SO j hj
   .rw[aa.ah _ _ (Ne.symm dV)];exact o02 b hb dV
  .have Qi:¬E8 M to e.to:=λh=>hr (by unfold rV;rw[if_pos h])
   have Qj:IB M to n (x.ak.take (i+1))=IB M to n (x.ak.take i):=by
    unfold IB;congr 1;rw[htk];apply propext;constructor
    .rintro(h|⟨f,hf,h⟩)
     .exact .inl h
     .rcases qQE.1 hf with hf|hf
      .exact .inr ⟨f,hf,h⟩
      .simp at hf;subst hf;exact absurd h Qi
    .rintro(h|⟨f,hf,h⟩)
     .exact .inl h
     .exact .inr ⟨f,qVY _ hf,h⟩
   simp only[go_sem,Nat.reduceEqDiff,reduceCtorEq,t0,t1,t4,t27,t28,t29,hr,yN];exact⟨dd-1,by omega,i+1,K2,by omega,rfl,L2,afq,by rw[Qj];exact ajT,λj hj=>(Xj j (by omega)).trans (SO j hj),by omega,o02⟩
 .simp only[go_sem,reduceCtorEq,t28,t29,hc];have hi:i=x.ak.length:=by omega
  subst hi;rw[qZY] at Iv;exact hq _ _ K (by simp[T.ag,t0]) (by simp[T.ag,t1]) L hK Iv SO nO ho
def XX (hN:fO hin nv M)(ie:Fk M)(mL:∀x,x∈M->x.ak.Pairwise (λx y=>x.letter<y.letter))(Ah:∀x,x∈M->x.ak.length<=256)(hM:M.length<=1000)(rq:to<M.length):∀(N n:Nat),n<N->n<M.length->∀(K:List Int)(h:aa),E7 hin nv M p1 p2 p3 p4 kb to K h->VP M to n K ->
 Ec E2 79 [.int .i64 (n:Int),.ptr p1 0,.ptr p2 0,.ptr p3 0,.ptr p4 0] h (LdQ hin nv M p1 p2 p3 p4 kb to n K h):=by
 intro N
 induction N with
 |zero=>intro n h;omega
 |succ N ih =>
  intro n hnN pZ K h L hK;obtain⟨x,hx⟩:∃x,M[n]?=some x:=⟨_,qQW pZ⟩;have hxm:=qQK hx;have nq:=mL x hxm;have tu:=Ah x hxm;obtain⟨a1,a2,a3,a4,a5,a6⟩:=L.lt;obtain⟨c1,c2,c3,c4⟩:=L.ne;obtain⟨nb,no,ev,pN,uO,Ky⟩:=hN.at hx;obtain⟨k0,Xt⟩:∃k0,K[n]?=some k0:=⟨_,qQW (by rw[L.len];exact pZ)⟩;have v1:aN h p1 0=some (.slice kb 0 M.length M.length true):=by rw[aq L.b1];rfl
  have v2:aN h p2 0=some (.int .i64 (to:Int)):=by rw[aq L.b2];rfl
  have v3:aN h p3 0=some nv:=by rw[aq L.b3];rfl
  have vk:aN h kb n=some (.int .i64 k0):=by rw[aq L.bk,qQX,Xt];rfl
  have lix:=λh' Q=>L.ix pZ .i64 (n:Int) rfl h' Q;refine Ec.bu (aI (by decide)) Jl ?_;unfold LI;have Qj:rV M to n=2\/rV M to n=1:=by unfold rV;split<;>simp
  by_cases hz:k0=0
  .subst hz;have cS:=aD (o:=n) (n:=1) (vs:=[.int .i64 1]) L.bk rfl (by simp;rw[L.len];omega);rw[bW]at cS;have L1:=L.next (K':=K.set n 1) (h':=h.put kb (.cells ((K.map (.int .i64)).set n (.int .i64 1)) 3)) (by simp) (qQY _) (λb _ hb=>aa.ah _ _ (Ne.symm hb)) (by rw[aa.aj,List.map_set]);have w2:aN (h.put kb (.cells ((K.map (.int .i64)).set n (.int .i64 1)) 3)) p2 0=some (.int .i64 (to:Int)):=by rw[aq L1.b2];rfl
   have vK:∀e,e∈x.ak->∀(K:List Int)(h:aa),E7 hin nv M p1 p2 p3 p4 kb to K h->VP M to e.to K->Ec E2 79 [.int .i64 (e.to:Int),.ptr p1 0,.ptr p2 0,.ptr p3 0,.ptr p4 0] h (LdQ hin nv M p1 p2 p3 p4 kb to e.to K h):=λe he K h L hK=>by
    have:=ie n x e hx he;exact ih e.to (by omega) (by omega) K h L hK
   have NP:∀h' Q,cH ev h' Q=Q (.int .i64 (x.ak.length:Int)) h':=λh' Q=>by rw[uO.len,qQD]
   have hKs:∀(v:Int)(i:Nat),i<n->∀k,(K.set n v)[i]?=some k->k=0\/k=rV M to i:=λv i hi k hk=>by
    rw[qQH (by omega)]at hk;exact hK i (by omega) k hk
   have gW:IB M to n x.ak=rV M to n:=by
    unfold IB rV;congr 1;exact propext (Lo hx nq).symm
   have rest:∀(v:Int)(hS:aa),v=IB M to n []->E7 hin nv M p1 p2 p3 p4 kb to (K.set n v) hS->hS.next=h.next->(∀b,b≠kb->hS.get b=h.get b)->∀(fr:Fr)(Qn Qr:Fr->aa->Prop)(Qx:Nat->Fr->aa->Prop),
       fr.get 0=some (.int .i64 (n:Int))->fr.get 1=some (.ptr p1 0)->fr.get 4=some (.ptr p4 0)->fr.get 27=some ev->fr.get 28=some (.int .i64 (x.ak.length:Int))->fr.get 29=some (.int .i64 0) ->
       (∀fr h',fr.get 0=some (.int .i64 (n:Int))->fr.get 1=some (.ptr p1 0)->(∃K',E7 hin nv M p1 p2 p3 p4 kb to K' h'/\VP M to n K'/\K'[n]?=some (rV M to n)/\(∀i,n<i->K'[i]?=K[i]?)/\h.next<=h'.next/\(∀b,b<h.next->b≠kb->h'.get b=h.get b))->Qx 0 fr h')->wp E2 (.loop qk) fr hS Qn Qx Qr:=by
    intro v hS hv LS nS oS fr Qn Qr Qx t0 t1 t4 t27 t28 t29 hq;refine TW hx ie tu ev uO vK LS (hKs v) (by rw[qJQ (by rw[L.len];exact pZ),hv]) fr t0 t1 t4 t27 t28 t29 ?_;intro fr h' K' t0 t1 L' hK' Iv SO Fa uR;rw[gW] at Iv;refine hq fr h' t0 t1 ⟨K',L',λi hi k hk=>?_,Iv,λi hi=>?_,by omega,λb hb dV=>(uR b (by omega) dV).trans (oS b dV)⟩
    .by_cases e:i=n
     .subst e;rw[Iv]at hk;cases hk;exact .inr rfl
     .exact hK' i (by omega) k hk
    .rw[SO i hi,qQH (by omega)]
   have done:∀(h':aa)(K':List Int),E7 hin nv M p1 p2 p3 p4 kb to K' h'->K'[n]?=some (rV M to n)->aN h' p1 0=some (.slice kb 0 M.length M.length true)/\aN h' kb n=some (.int .i64 (rV M to n)):=λh' K' L' hk=>⟨by rw[aq L'.b1];rfl,by rw[aq L'.bk,qQX,hk];rfl⟩;by_cases Md:n=to
   .have Om:((n:Int)=(to:Int))=True:=eq_true (by omega);have hv:(2:Int)=IB M to n []:=by unfold IB;rw[if_pos (.inl Md)]
    have v11:aN (h.put kb (.cells ((K.map (.int .i64)).set n (.int .i64 1)) 3)) p1 0=some (.slice kb 0 M.length M.length true):=by rw[aq L1.b1];rfl
    have yb:=aD (o:=n) (n:=1) (vs:=[.int .i64 2]) L1.bk rfl (by simp;rw[L.len];omega);rw[bW]at yb;have LS:=L1.next (K':=K.set n 2) (h':=(h.put kb (.cells ((K.map (.int .i64)).set n (.int .i64 1)) 3)).put kb (.cells (((K.set n 1).map (.int .i64)).set n (.int .i64 2)) 3)) (by simp) (qQY _) (λb _ hb=>aa.ah _ _ (Ne.symm hb)) (by rw[aa.aj];simp[List.map_set]);have oS:∀b,b≠kb->((h.put kb (.cells ((K.map (.int .i64)).set n (.int .i64 1)) 3)).put kb (.cells (((K.set n 1).map (.int .i64)).set n (.int .i64 2)) 3)).get b=h.get b:=λb hb=>(aa.ah _ _ (Ne.symm hb)).trans (aa.ah _ _ (Ne.symm hb));have v3S:aN ((h.put kb (.cells ((K.map (.int .i64)).set n (.int .i64 1)) 3)).put kb (.cells (((K.set n 1).map (.int .i64)).set n (.int .i64 2)) 3)) p3 0=some nv:=by rw[aq LS.b3];rfl
    have veS:aN ((h.put kb (.cells ((K.map (.int .i64)).set n (.int .i64 1)) 3)).put kb (.cells (((K.set n 1).map (.int .i64)).set n (.int .i64 2)) 3)) nb no=some ev:=by exact(pN.mono LS.hle).aN (i:=0) rfl
    simp only[go_sem,Nat.reduceEqDiff,Nat.reduceAdd,reduceCtorEq,v1,lix,vk,cS,w2,Om,v11,yb,v3S,veS,Ky,NP];refine rest 2 _ hv LS rfl oS _ _ _ _ (by simp[T.ag]) (by simp[T.ag]) (by simp[T.ag]) (by simp[T.ag]) (by simp[T.ag]) (by simp[T.ag]) ?_;intro fr h' t0 t1 ⟨K',L',hK',Iv,SO,Fa,uR⟩;obtain⟨d1,d2⟩:=done h' K' L' Iv;simp only[go_sem,Nat.reduceEqDiff,reduceCtorEq,t0,t1,d1,lix,d2];exact⟨K',rfl,L',hK',Iv,SO,Fa,uR⟩
   .have Om:((n:Int)=(to:Int))=False:=eq_false (by omega);have hv:(1:Int)=IB M to n []:=by unfold IB;rw[if_neg (by rintro(h|⟨e,he,_⟩);exact Md h;cases he)]
    have oS:∀b,b≠kb->(h.put kb (.cells ((K.map (.int .i64)).set n (.int .i64 1)) 3)).get b=h.get b:=λb hb=>aa.ah _ _ (Ne.symm hb);have v3S:aN (h.put kb (.cells ((K.map (.int .i64)).set n (.int .i64 1)) 3)) p3 0=some nv:=by rw[aq L1.b3];rfl
    have veS:aN (h.put kb (.cells ((K.map (.int .i64)).set n (.int .i64 1)) 3)) nb no=some ev:=by exact(pN.mono L1.hle).aN (i:=0) rfl
    simp only[go_sem,Nat.reduceEqDiff,Nat.reduceAdd,reduceCtorEq,v1,lix,vk,cS,w2,Om,v3S,veS,Ky,NP];refine rest 1 _ hv L1 rfl oS _ _ _ _ (by simp[T.ag]) (by simp[T.ag]) (by simp[T.ag]) (by simp[T.ag]) (by simp[T.ag]) (by simp[T.ag]) ?_;intro fr h' t0 t1 ⟨K',L',hK',Iv,SO,Fa,uR⟩;obtain⟨d1,d2⟩:=done h' K' L' Iv;simp only[go_sem,Nat.reduceEqDiff,reduceCtorEq,t0,t1,d1,lix,d2];exact⟨K',rfl,L',hK',Iv,SO,Fa,uR⟩
  .have hkr:k0=rV M to n:=(hK n (qQY _) k0 Xt).resolve_left hz;subst hkr;simp only[go_sem,Nat.reduceEqDiff,Nat.reduceAdd,reduceCtorEq,v1,lix,vk,hz];exact⟨K,rfl,L,hK,Xt,λ_ _=>rfl,qQY _,λ_ _ _=>rfl⟩
end
section
variable{hin:aa}{nv:ae}{M:List aw}
def Yv (hN:fO hin nv M)(ie:Fk M)(mL:∀x,x∈M->x.ak.Pairwise (λx y=>x.letter<y.letter))(Ah:∀x,x∈M->x.ak.length<=256)(hM:M.length<=1000){to:Nat}(rq:to<M.length){h:aa}(hle:aU hin h) :
 Ec E2 58 [nv,.int .i64 (to:Int)] h λr h'=>cg h' 1 r ((List.range M.length).map λi=>[.bool (decide (rV M to i=2))])/\r.flat=true/\aU h h':=by
 obtain⟨jv,n1,n2,n3,n4⟩:=hN;have pZ:∀h' Q,cH nv h' Q=Q (.int .i64 (M.length:Int)) h':=λh' Q=>by rw[n3.len];simp[n1]
 refine Ec.bu (aI (by decide)) Nu ?_;unfold RZ;have hNA:fO hin nv M:=⟨jv,n1,n2,n3,n4⟩
 have DV:∀(e:TypeId)(z:List ae)(b:Nat),b<=100->∀h' K,X2 e z b (.int .i64 (M.length:Int)) (.int .i64 (M.length:Int)) h' K=K (.slice h'.next 0 M.length M.length true) (h'.push (.cells (List.replicate M.length z).flatten e)):=λe z b hb h' K=>by
  have:M.length*b<=1000*100:=Nat.mul_le_mul hM hb;exact oO rfl (by omega) (by omega)
 have aS:aU h ((h.push (.cells [nv] 60)).push (.cells [.int .i64 (to:Int)] 3)):=((aU.refl h).push _).push _;have m2:((h.push (.cells [nv] 60)).push (.cells [.int .i64 (to:Int)] 3)).next=h.next+2:=rfl;have g23:((h.push (.cells [nv] 60)).push (.cells [.int .i64 (to:Int)] 3)).get h.next=some (.cells [nv] 60):=(aa.aA _ _ (by show h.next+1≠h.next;omega)).trans (aa.ai _ _);have g22:((h.push (.cells [nv] 60)).push (.cells [.int .i64 (to:Int)] 3)).get (h.next+1)=some (.cells [.int .i64 (to:Int)] 3):=aa.ai _ _;have v2:aN ((h.push (.cells [nv] 60)).push (.cells [.int .i64 (to:Int)] 3)) h.next 0=some nv:=by rw[aq g23];rfl
 simp only[go_sem,Nat.reduceEqDiff,Nat.reduceAdd,reduceCtorEq,bM n2,pZ,iz,v2,DV _ _ 8 (by omega),jl];generalize (h.push (.cells [nv] 60)).push (.cells [.int .i64 (to:Int)] 3)=h2 at aS m2 g23 g22 v2 ⊢
 have p35:∀v,putAt ((h2.push (.cells (List.replicate M.length (.int .i64 0)) 3)).push (.cells [.af] 66)) (h.next+1+1+1) 0 1 [v]=some ((h2.push (.cells (List.replicate M.length (.int .i64 0)) 3)).push (.cells [v] 66)):=λv=>by
  have:=je (h:=h2.push (.cells (List.replicate M.length (.int .i64 0)) 3)) (o:=0) (n:=1) (vs:=[v]) (c:=[.af]) (e:=66) rfl (by simp);rw[show(h2.push (.cells (List.replicate M.length (.int .i64 0)) 3)).next=h.next+1+1+1 by show h2.next+1=_;omega]at this;exact this
 simp only[go_sem,Nat.reduceEqDiff,reduceCtorEq,p35];have dP:aU h2 ((h2.push (.cells (List.replicate M.length (.int .i64 0)) 3)).push (.cells [.slice (h.next+1+1) 0 M.length M.length true] 66)):=((aU.refl h2).push _).push _;have m4:((h2.push (.cells (List.replicate M.length (.int .i64 0)) 3)).push (.cells [.slice (h.next+1+1) 0 M.length M.length true] 66)).next=h.next+4:=by show h2.next+1+1=_;omega
 have gk:((h2.push (.cells (List.replicate M.length (.int .i64 0)) 3)).push (.cells [.slice (h.next+1+1) 0 M.length M.length true] 66)).get (h.next+2)=some (.cells (List.replicate M.length (.int .i64 0)) 3):=by
  rw[aa.aA _ _ (by show h2.next+1≠_;omega),<-m2];exact aa.ai _ _
 have gp:((h2.push (.cells (List.replicate M.length (.int .i64 0)) 3)).push (.cells [.slice (h.next+1+1) 0 M.length M.length true] 66)).get (h.next+3)=some (.cells [.slice (h.next+2) 0 M.length M.length true] 66):=by
  have:h.next+3=(h2.push (.cells (List.replicate M.length (.int .i64 0)) 3)).next:=by show _=h2.next+1;omega
  rw[this];exact aa.ai _ _
 generalize (h2.push (.cells (List.replicate M.length (.int .i64 0)) 3)).push (.cells [.slice (h.next+1+1) 0 M.length M.length true] 66)=h4 at dP m4 gk gp ⊢
 have amk:∀v,putAt (h4.push (.cells [.fb] 152)) (h2.next+1+1) 0 1 [v]=some (h4.push (.cells [v] 152)):=λv=>by
  have:=je (h:=h4) (o:=0) (n:=1) (vs:=[v]) (c:=[.fb]) (e:=152) rfl (by simp);rw[show h4.next=h2.next+1+1 by omega]at this;exact this
 have jy:aU h2 (h4.push (.cells [.func 79 [] [.ptr (h.next+1+1+1) 0,.ptr (h.next+1) 0,.ptr h.next 0,.ptr (h2.next+1+1) 0]] 152)):=dP.push _;have v5:aN (h4.push (.cells [.func 79 [] [.ptr (h.next+1+1+1) 0,.ptr (h.next+1) 0,.ptr h.next 0,.ptr (h2.next+1+1) 0]] 152)) h.next 0=some nv:=by rw[jy.aN (by omega)];exact v2
 have v6:aN ((h4.push (.cells [.func 79 [] [.ptr (h.next+1+1+1) 0,.ptr (h.next+1) 0,.ptr h.next 0,.ptr (h2.next+1+1) 0]] 152)).push (.cells (List.replicate M.length (.bool false)) 4)) h.next 0=some nv:=by rw[(jy.push _).aN (by omega)];exact v2
 simp only[go_sem,Nat.reduceEqDiff,reduceCtorEq,amk,v5,pZ,iz,DV _ _ 1 (by omega),jl,v6]
 have g54:(h4.push (.cells [.func 79 [] [.ptr (h.next+1+1+1) 0,.ptr (h.next+1) 0,.ptr h.next 0,.ptr (h2.next+1+1) 0]] 152)).get (h.next+4)=some (.cells [.func 79 [] [.ptr (h.next+3) 0,.ptr (h.next+1) 0,.ptr h.next 0,.ptr (h.next+4) 0]] 152):=by
  rw[<-m4,aa.ai,show h2.next+1+1=h4.next by omega]
 have m5:(h4.push (.cells [.func 79 [] [.ptr (h.next+1+1+1) 0,.ptr (h.next+1) 0,.ptr h.next 0,.ptr (h2.next+1+1) 0]] 152)).next=h.next+5:=by show h4.next+1=_;omega
 have o5:∀b,b<h.next+4->(h4.push (.cells [.func 79 [] [.ptr (h.next+1+1+1) 0,.ptr (h.next+1) 0,.ptr h.next 0,.ptr (h2.next+1+1) 0]] 152)).get b=h4.get b:=λb hb=>aa.aA _ _ (by omega);generalize h4.push (.cells [.func 79 [] [.ptr (h.next+1+1+1) 0,.ptr (h.next+1) 0,.ptr h.next 0,.ptr (h2.next+1+1) 0]] 152)=h5 at jy v5 v6 g54 m5 o5 ⊢;have e24:h2.next+1+1=h.next+4:=by omega
 have e5:h5.next=h.next+5:=m5;have ZJ:aU h5 (h5.push (.cells (List.replicate M.length (.bool false)) 4)):=(aU.refl h5).push _
 have L6:E7 hin nv M (h.next+3) (h.next+1) h.next (h.next+4) (h.next+2) to (List.replicate M.length 0) (h5.push (.cells (List.replicate M.length (.bool false)) 4)):=by
  have hx:=hle.next;refine⟨hle.trans ((aS.trans jy).trans ZJ),?_,?_,?_,?_,?_,⟨by omega,by show _<h5.next+1;omega,by show _<h5.next+1;omega,by show _<h5.next+1;omega,by show _<h5.next+1;omega,by show _<h5.next+1;omega⟩,⟨by omega,by omega,by omega,by omega⟩,by simp⟩
  .rw[ZJ.get _ (by omega),o5 _ (by omega)];exact gp
  .rw[ZJ.get _ (by omega),o5 _ (by omega),dP.get _ (by omega)];exact g22
  .rw[ZJ.get _ (by omega),o5 _ (by omega),dP.get _ (by omega)];exact g23
  .rw[ZJ.get _ (by omega)];exact g54
  .rw[ZJ.get _ (by omega),o5 _ (by omega),gk];simp
 have J1:∀i,i<=M.length->((List.range M.length).map λj=>ae.bool (if j<i then decide (rV M to j=2) else false)).length=M.length:=λi _=>by simp
 refine fg (λdd fr h'=>∃(i:Nat)(K:List Int),dd+i=M.length/\fr.get 18=some (.int .i64 (i:Int))/\fr.get 17=some (.int .i64 (M.length:Int))/\fr.get 7=some (.slice (h.next+5) 0 M.length M.length true)/\fr.get 6=some (.ptr (h.next+4) 0) /\
  E7 hin nv M (h.next+3) (h.next+1) h.next (h.next+4) (h.next+2) to K h'/\VP M to M.length K/\h'.get (h.next+5)=some (.cells ((List.range M.length).map λj=>.bool (if j<i then decide (rV M to j=2) else false)) 4)/\h.next+5<h'.next/\aU h h') M.length ?_ ?_
 .refine⟨0,_,by omega,by simp[T.ag],by simp[T.ag],by simp[T.ag,m4],by simp[T.ag,e24,m4],L6,λi _ k hk=>?_,?_,by show _<h5.next+1;omega,(aS.trans jy).trans ZJ⟩
  .rw[qWN]at hk;split at hk
   .cases hk;exact .inl rfl
   .cases hk
  .rw[<-e5,aa.ai];congr 2;apply qWV
   .simp
   .intro j h1 h2;simp
 clear L6 ZJ v6;rintro dd fr h6 ⟨i,K,hd,t18,t17,t7,t6,L,hK,gO,hO,qt⟩;unfold Cz;by_cases hc:(i:Int)<(M.length:Int)
 .have v4:aN h6 (h.next+4) 0=some (.func 79 [] [.ptr (h.next+3) 0,.ptr (h.next+1) 0,.ptr h.next 0,.ptr (h.next+4) 0]):=by rw[aq L.b4];rfl
  simp only[go_sem,Nat.reduceEqDiff,t18,t17,t7,t6,hc,v4];refine⟨by decide,?_⟩;refine(XX hNA ie mL Ah hM rq (i+1) i (qJA _) (by omega) K h6 L (hK.le (by omega))).mono ?_;rintro r h7 ⟨K7,rfl,L7,hK7,hKi,SO,hn7,ho7⟩;have g7:h7.get (h.next+5)=some (.cells ((List.range M.length).map λj=>.bool (if j<i then decide (rV M to j=2) else false)) 4):=(ho7 _ hO (by omega)).trans gO;have cS:=aD (o:=i) (n:=1) (vs:=[.bool (decide (rV M to i=2))]) g7 rfl (by simp;omega);rw[bW]at cS
  have fU:∀h' Q,fI 1 (.slice (h.next+5) 0 M.length M.length true) (.int .i64 (i:Int)) h' Q=Q (.ptr (h.next+5) i) h':=λh' Q=>by
   rw[dj rfl (by omega)];simp
  have yN:IntKind.i64.wrap ((i:Int)+1)=((i+1:Nat):Int):=by rw[wrap_i64 (by omega) (by omega)];push_cast;rfl
  simp only[go_sem,Nat.reduceEqDiff,t18,t17,t7,t6,fU,cS,yN];have o8:∀b,b≠h.next+5->(h7.put (h.next+5) (.cells ((((List.range M.length).map λj=>ae.bool (if j<i then decide (rV M to j=2) else false))).set i (.bool (decide (rV M to i=2)))) 4)).get b=h7.get b:=λb hb=>aa.ah _ _ (Ne.symm hb);refine⟨dd-1,by omega,i+1,K7,by omega,rfl,?_,λj hj k hk=>?_,?_,?_,?_⟩
  .have a:=L7.lt;exact⟨⟨L7.hle.next,λb hb=>(o8 b (by have:=hle.next;omega)).trans (L7.hle.get b hb)⟩,(o8 _ (by omega)).trans L7.b1,(o8 _ (by omega)).trans L7.b2,(o8 _ (by omega)).trans L7.b3,(o8 _ (by omega)).trans L7.b4,(o8 _ (by omega)).trans L7.bk,a,L7.ne,L7.len⟩
  .by_cases hji:j<=i
   .exact hK7 j hji k hk
   .rw[SO j (by omega)]at hk;exact hK j hj k hk
  .rw[aa.aj];congr 2;apply qWV
   .simp
   .intro j h1 h2;rw[List.getElem_set];simp only[List.getElem_map,qXJ];by_cases e:i=j
    .subst e;simp
    .rw[if_neg e];congr 1;by_cases e2:j<i
     .rw[if_pos e2,if_pos (by omega)]
     .rw[if_neg e2,if_neg (by omega)]
  .show _<h7.next;omega
  .refine⟨by have:=qt.next;show _<=h7.next;omega,λb hb=>?_⟩;rw[o8 b (by omega),ho7 b (by have:=qt.next;omega) (by omega)];exact qt.get b hb
 .simp only[go_sem,Nat.reduceEqDiff,reduceCtorEq,t18,t17,t7,hc];have hi:i=M.length:=by omega
  subst hi
  have hvs:((List.range M.length).map λj=>ae.bool (if j<M.length then decide (rV M to j=2) else false))=(List.range M.length).map λj=>.bool (decide (rV M to j=2)):=by
   apply qJH;intro j hj;rw[if_pos (qJX.1 hj)]
  rw[hvs]at gO;have:=cg.of1 (c:=M.length) (ex:=true) hO gO (λx hx=>by obtain⟨j,_,rfl⟩:=qQB.1 hx;rfl);rw[qQD,qKA,qKJ]at this;exact⟨this,rfl,qt⟩
end
def cbV (v:ae)(h:aa)(K:ae->aa->Prop):Prop:=cR (I.dw (.c v) .nil h) λr=>K r.1 r.2
def mg {E:Env}{fr:Fr}{h:aa}{K:ae->aa->Prop}{x:au}:wo E (.dw x) fr h K=cbV (aJ x fr) h K:=aL
def qg:∀l:List Nat,(∀x,x∈l->x<256)->eD (l.map λ(x:Nat)=>ae.int .u8 (x:Int))=some l
 |[],_=>rfl
 |x :: l,h=>by
  have ih:=qg l λy hy=>h y (by simp[hy]);show(aO (Nat.blt x 256) (ob (eD (l.map λ(x:Nat)=>ae.int .u8 (x:Int))) λl=>some (x :: l)) none)=_;rw[ih,bq,if_pos (by have:=h x (by simp);simpa[qJE] using this)]
def Wk {h:aa}{e:TypeId}{v:ae}{l:List Nat}(H:dO h 1 e v (l.map λ(x:Nat)=>ae.int .u8 (x:Int)))(hl:∀x,x∈l->x<256){K:ae->aa->Prop}:cbV v h K=K (.str l) h:=by
 rcases H with⟨rfl,h0⟩|⟨b,n,rfl,h1,h2,h3⟩
 .have:l=[]:=by simpa using h0
  subst this;exact aL
 .show cR (eJ (h.get b) λc _ _=>aO (Nat.ble (Nat.add 0 n) (cJ c)) (ob (eD (bD n (bG 0 c))) λl=>some (ae.str l,h)) none) (λr=>K r.1 r.2)=_;rw[h2];show cR (aO (Nat.ble (Nat.add 0 n) (cJ (l.map λ(x:Nat)=>ae.int .u8 (x:Int)))) (ob (eD (bD n (bG 0 (l.map λ(x:Nat)=>ae.int .u8 (x:Int))))) λl=>some (ae.str l,h)) none) (λr=>K r.1 r.2)=_;have hn:l.length=n:=by simpa using h3
  rw[cW,df,List.drop_zero,qVJ (by simp;omega),qg l hl,bq,if_pos (by rw[bV,qZB];simp;omega)];exact aL
attribute [local go_sem] mg
inductive Lm (M:List aw)(to:Nat):Nat->List Nat->Prop
 |nil:Lm M to to []
 |cons (n:Nat) (x:aw) (k:Nat) (e:cI) (u:List Nat):M[n]?=some x->n≠to->x.ak[k]?=some e->(∀j f,j<k->x.ak[j]?=some f->¬E8 M to f.to)->E8 M to e.to->Lm M to e.to u->Lm M to n (e.letter :: u)
def Lm.way {M:List aw}(ie:Fk M)(mL:∀x,x∈M->x.ak.Pairwise (λx y=>x.letter<y.letter)){to n:Nat}{u:List Nat}(H:Lm M to n u):ID M n to u:=by
 induction H with
 |nil =>
  refine⟨⟨0,rfl⟩,λv k hv=>?_⟩;cases v with
  |nil=>rfl
  |cons a v=>have:=(pV ie _ _ _ _ hv).2 (by simp);omega
 |cons n x k e u hx hn he hf hr _ ih =>
  obtain⟨⟨j,hj⟩,hl⟩:=ih;have nq:=mL x (qQK hx);refine⟨⟨j+e.cost,?_⟩,λv m hv=>?_⟩
  .unfold eK;rw[iF hx nq (qQK he)];show(eK M u e.to).map _=_;rw[hj];rfl
  .cases v with
   |nil=>cases hv;exact absurd rfl hn
   |cons a v =>
    unfold eK at hv;rw[qQQ]at hv;obtain⟨f,Xq,hv⟩:=hv;rw[qQC]at hv;obtain⟨p,hp,hv⟩:=hv;cases hv;obtain⟨y,hy,hm,Oj⟩:=eo Xq;rw[hx]at hy;cases hy;obtain⟨i,hi⟩:=qQL.1 hm;have hik:k<=i:=Nat.le_of_not_lt λh=>hf i f h hi ⟨v,p.2,hp⟩;subst Oj;unfold lexB;by_cases e2:i=k
    .subst e2;rw[he]at hi;cases hi;rw[hl v p.2 hp];simp
    .have:e.letter<f.letter:=by
      rw[qVL]at nq;have h1:=(qQZ.1 he);have h2:=(qQZ.1 hi);have:=nq k i h1.1 h2.1 (by omega);rw[h1.2,h2.2]at this;exact this
     rw[decide_eq_false (by omega),decide_eq_false (by omega)];rfl
def CB {M:List aw}{to:Nat}:∀l:List cI,(∃e,e∈l/\E8 M to e.to)->∃(k:Nat)(e:cI),l[k]?=some e/\(∀(j:Nat)(f:cI),j<k->l[j]?=some f->¬E8 M to f.to)/\E8 M to e.to
 |[],⟨e,he,_⟩=>by cases he
 |x :: l,⟨e,he,hr⟩=>by
  by_cases hx:E8 M to x.to
  .exact⟨0,x,rfl,λj f hj=>(by omega),hx⟩
  .have:∃e,e∈l/\E8 M to e.to:=by
    rcases qQF.1 he with rfl|he
    .exact absurd hr hx
    .exact⟨e,he,hr⟩
   obtain⟨k,f,h1,h2,h3⟩:=CB l this;refine⟨k+1,f,h1,λj g hj hg=>?_,h3⟩;cases j with
   |zero=>cases hg;exact hx
   |succ j=>exact h2 j g (by omega) hg
def Lm.ex {M:List aw}(ie:Fk M)(mL:∀x,x∈M->x.ak.Pairwise (λx y=>x.letter<y.letter)){to:Nat}:∀N n,n<N->n<M.length->E8 M to n->∃u,Lm M to n u
 |0,n,h,_,_=>by omega
 |N+1,n,h,hl,hr=>by
  by_cases hn:n=to
  .subst hn;exact⟨[],.nil⟩
  .obtain⟨x,hx⟩:∃x,M[n]?=some x:=⟨_,qQW hl⟩;have nq:=mL x (qQK hx);obtain⟨k,e,h1,h2,h3⟩:=CB x.ak (((Lo hx nq).1 hr).resolve_left hn);have:=ie n x e hx (qQK h1);obtain⟨u,hu⟩:=Lm.ex ie mL N e.to (by omega) (by omega) h3;exact⟨_,.cons n x k e u hx hn h1 h2 h3 hu⟩
def Lm.len {M:List aw}(ie:Fk M){to n:Nat}{u:List Nat}(H:Lm M to n u):u.length<=n:=by
 induction H with
 |nil=>exact qZH _
 |cons n x k e u hx hn he hf hr _ ih =>
  have:=ie n x e hx (qQK he);simp only[qZK];omega
def Lm.byte {M:List aw}(Ah:∀x e,x∈M->e∈x.ak->e.letter<256){to n:Nat}{u:List Nat}(H:Lm M to n u):∀b,b∈u->b<256:=by
 induction H with
 |nil=>intro b hb;cases hb
 |cons n x k e u hx hn he hf hr _ ih =>
  intro b hb;rcases qQF.1 hb with rfl|hb
  .exact Ah x e (qQK hx) (qQK he)
  .exact ih b hb
section
variable{hin:aa}{nv:ae}{M:List aw}
def SD {Qn Qr:Fr->aa->Prop}{Qx:Nat->Fr->aa->Prop}(ie:Fk M){to n:Nat}{x:aw}(hx:M[n]?=some x)(ev rv bv:ae)(acc:List Nat){h0 h:aa}(uO:cg h0 3 ev (x.ak.map aK))(Qj:cg h0 1 rv ((List.range M.length).map λi=>[.bool (decide (rV M to i=2))]))(lu:aU h0 h)
 (vD:dO h 1 5 bv (acc.map λ(x:Nat)=>ae.int .u8 (x:Int))) (iB:∀b,aM bv b->h0.next<=b) (Oc:acc.length<=1000)
 {k:Nat} {e:cI} (he:x.ak[k]?=some e) (nN:∀j f,j<k->x.ak[j]?=some f->¬E8 M to f.to) (acq:E8 M to e.to) (tu:x.ak.length<=256) (fr:Fr)
 (t0:fr.get 0=some nv) (t2:fr.get 2=some (.int .i64 (to:Int))) (t7:fr.get 7=some rv) (t8:fr.get 8=some bv) (t23:fr.get 23=some ev) (t24:fr.get 24=some (.int .i64 (x.ak.length:Int))) (t25:fr.get 25=some (.int .i64 0))
 (hq:∀fr h' bv',fr.get 0=some nv->fr.get 2=some (.int .i64 (to:Int))->fr.get 7=some rv->fr.get 8=some bv'->fr.get 9=some (.int .i64 (e.to:Int))->aU h0 h'->dO h' 1 5 bv' ((acc++[e.letter]).map λ(x:Nat)=>ae.int .u8 (x:Int))->(∀b,aM bv' b->h0.next<=b)->Qx 1 fr h'):wp E2 (.loop wQ) fr h Qn Qx Qr:=by
 have ZI:=(qQZ.1 he).1;have pZ:=(qQZ.1 hx).1;refine fg (λdd fr h'=>∃(i:Nat),dd+i=k/\fr.get 25=some (.int .i64 (i:Int))/\fr.get 0=some nv/\fr.get 2=some (.int .i64 (to:Int))/\fr.get 7=some rv/\fr.get 8=some bv/\fr.get 23=some ev/\fr.get 24=some (.int .i64 (x.ak.length:Int))/\aU h h') k ?_ ?_
 .exact⟨0,by omega,t25,t0,t2,t7,t8,t23,t24,aU.refl _⟩
 clear t0 t2 t7 t8 t23 t24 t25;rintro dd fr h1 ⟨i,hd,t25,t0,t2,t7,t8,t23,t24,hle⟩;unfold wQ;have hc:(i:Int)<(x.ak.length:Int):=by omega
 obtain⟨f,hf⟩:∃f,x.ak[i]?=some f:=⟨_,qQW (by omega)⟩;have hfm:=qQK hf;have dL:=ie n x f hx hfm;obtain⟨bb,o,di,fU⟩:=uO.ix (j:=i) (x:=aK f) (by rw[qQX,hf];rfl);obtain⟨rb,ro,ams,rix⟩:=Qj.ix (j:=f.to) (x:=[.bool (decide (rV M to f.to=2))]) (by rw[qQX,qJY (by omega)];rfl)
 have Vs:eI h1 bb o 3=some (aK f):=by
  have:=(di.mono (lu.trans hle)).eI (i:=0) (n:=3) (by simp[aK]);simpa[aK] using this
 have ib:over [ae.int .u8 0,.int .i64 0,.int .i64 0] 0 (aK f)=aK f:=rfl;have jX:(aK f).length=3:=rfl;have Tn:(aK f)[0]?=some (.int .u8 (f.letter:Int)):=rfl;have Fb:(aK f)[1]?=some (.int .i64 (f.to:Int)):=rfl;have pK:(aK f)[2]?=some (.int .i64 f.cost):=rfl;have bh:aU h1 (h1.push (.cells (aK f) 124)):=(aU.refl h1).push _;have n1:(h1.push (.cells (aK f) 124)).next=h1.next+1:=rfl;have g1:(h1.push (.cells (aK f) 124)).get h1.next=some (.cells (aK f) 124):=aa.ai _ _;have e0:aN (h1.push (.cells (aK f) 124)) h1.next 0=some (.int .u8 (f.letter:Int)):=by rw[aH];rfl
 have e1:aN (h1.push (.cells (aK f) 124)) h1.next 1=some (.int .i64 (f.to:Int)):=by rw[aH];rfl
 have er:aN (h1.push (.cells (aK f) 124)) rb ro=some (.bool (decide (rV M to f.to=2))):=(ams.mono ((lu.trans hle).trans bh)).aN (i:=0) rfl;have yN:IntKind.i64.wrap ((i:Int)+1)=((i+1:Nat):Int):=by rw[wrap_i64 (by omega) (by omega)];push_cast;rfl
 by_cases hik:i<k
 .have ach:decide (rV M to f.to=2)=false:=decide_eq_false λh=>nN i f hik hf (by unfold rV at h;split at h;assumption;omega);rw[ach]at er;simp only[go_sem,Nat.reduceEqDiff,Nat.reduceAdd,reduceCtorEq,t0,t2,t7,t8,t23,t24,t25,hc,fU .i64 (i:Int) h1,Vs,ib,jX,e1,rix,er,yN];exact⟨dd-1,by omega,i+1,by omega,rfl,hle.trans bh⟩
 .have hie:i=k:=by omega
  subst hie;rw[he]at hf;cases hf;have ach:decide (rV M to e.to=2)=true:=decide_eq_true (by unfold rV;rw[if_pos acq]);rw[ach]at er;simp only[go_sem,Nat.reduceEqDiff,Nat.reduceAdd,t7,t8,t23,t24,t25,hc,fU .i64 (i:Int) h1,Vs,ib,jX,e0,e1,rix,er];refine qd (vD.frame (h':=h1.push (.cells (aK e) 124)) (by have:=hle.next;omega) λb hb=>(hle.trans bh).get b (vD.rm hb)) [.int .u8 (e.letter:Int)] rfl (by decide) (by simp[ae.flat]) (by simp;omega) ?_;intro v' h3 VD uQ lZ yE
  have e13:aN h3 h1.next 1=some (.int .i64 (e.to:Int)):=by
   rw[cG (lZ h1.next (by omega) λhb=>by have:=vD.rm hb;have:=hle.next;omega)];exact e1
  simp only[go_sem,Nat.reduceEqDiff,e13];refine hq _ h3 v' (by simp[T.ag,t0]) (by simp[T.ag,t2]) (by simp[T.ag,t7]) (by simp[T.ag]) (by simp[T.ag]) ?_ (by rw[qJW];exact VD) ?_
  .have a1:=lu.next;have a2:=hle.next;exact⟨by omega,λb hb=>by rw[lZ b (by omega) (λaj7=>by have:=iB b aj7;omega),bh.get b (by omega),hle.get b (by omega)];exact lu.get b hb⟩
  .intro b hb;have:=fu yE hb;have a1:=lu.next;have a2:=hle.next;omega
def W6 (hN:fO hin nv M)(ie:Fk M)(mL:∀x,x∈M->x.ak.Pairwise (λx y=>x.letter<y.letter))(GF:∀x e,x∈M->e∈x.ak->e.letter<256)(hM:M.length<=1000){Qa to:Nat}(rq:to<M.length)(B0:Qa<M.length)(hr:E8 M to Qa){h:aa}(hle:aU hin h) :
 Ec E2 36 [nv,.int .i64 (Qa:Int),.int .i64 (to:Int)] h λr h'=>∃u,r=.str u/\ID M Qa to u/\(∀b,b∈u->b<256)/\u.length<=1000/\aU h h':=by
 have Ah:∀x,x∈M->x.ak.length<=256:=λx hx=>sS (mL x hx) λe he=>GF x e hx he;obtain⟨u0,XI⟩:=Lm.ex ie mL (Qa+1) Qa (qJA _) B0 hr;have ark:=XI.len ie;have agY:=XI.byte GF;refine Ec.bu (aI (by decide)) Nj ?_;unfold Rn;simp only[go_sem,Nat.reduceEqDiff,Nat.reduceAdd,reduceCtorEq];refine⟨by decide,?_⟩;refine(Yv hN ie mL Ah hM rq hle).mono ?_;rintro rv h1 ⟨Qj,hrf,bh⟩;simp only[go_sem,Nat.reduceEqDiff,reduceCtorEq]
 refine fg (λdd fr h'=>∃(n:Nat)(acc u:List Nat)(bv:ae),dd=n/\fr.get 9=some (.int .i64 (n:Int))/\fr.get 0=some nv/\fr.get 2=some (.int .i64 (to:Int))/\fr.get 7=some rv/\fr.get 8=some bv/\Lm M to n u/\n<M.length/\u0=acc++u/\aU h1 h' /\
  dO h' 1 5 bv (acc.map λ(x:Nat)=>ae.int .u8 (x:Int))/\∀b,aM bv b->h1.next<=b) Qa ?_ ?_
 .exact⟨Qa,[],u0,.af,rfl,by simp[T.ag],by simp[T.ag],by simp[T.ag],by simp[T.ag],by simp[T.ag],XI,B0,rfl,aU.refl _,.inl ⟨rfl,rfl⟩,λb hb=>(dx hb).elim⟩
 rintro dd fr h2 ⟨n,acc,u,bv,rfl,t9,t0,t2,t7,t8,hG,pZ,Oc,aS,vD,iB⟩
 have JQ:acc.length<=1000:=by
  have:=congrArg List.length Oc;rw[qQM]at this;omega
 unfold Ct;by_cases Md:dd=to
 .have Om:((dd:Int)=(to:Int))=True:=eq_true (by omega);subst Md
  have hu:u=[]:=by
   cases hG with
   |nil=>rfl
   |cons _ x k e u' _ dV _ _ _ _=>exact absurd rfl dV
  subst hu;rw[qWA] at Oc;subst Oc;simp only[go_sem,Nat.reduceEqDiff,reduceCtorEq,t9,t2,t8,Wk vD agY];exact⟨u0,rfl,XI.way ie mL,agY,by omega,bh.trans aS⟩
 .have Om:((dd:Int)=(to:Int))=False:=eq_false (by omega);cases hG with
  |nil=>exact absurd rfl Md
  |cons _ x k e u' hx dV he nN acq hG' =>
   obtain⟨nb,no,ev,pN,uO,Ky⟩:=hN.at hx;have neX:aN h2 nb no=some ev:=by exact(pN.mono (hle.trans (bh.trans aS))).aN (i:=0) rfl
   have NP:∀h' Q,cH ev h' Q=Q (.int .i64 (x.ak.length:Int)) h':=λh' Q=>by rw[uO.len,qQD]
   simp only[go_sem,Nat.reduceEqDiff,reduceCtorEq,t9,t0,t2,Om,Ky,neX,NP];refine SD (nv:=nv) ie hx ev rv bv acc (uO.mono (hle.trans bh)) Qj aS vD iB JQ he nN acq (Ah x (qQK hx)) _ (by simp[T.ag,t0]) (by simp[T.ag,t2]) (by simp[T.ag,t7]) (by simp[T.ag,t8]) (by simp[T.ag]) (by simp[T.ag]) (by simp[T.ag]) ?_;intro fr h3 bv' t0 t2 t7 t8 t9 cQ akd aj8;have dL:=ie dd x e hx (qQK he);simp only[go_sem,Nat.reduceEqDiff,reduceCtorEq,t9,t0,t2,t7,t8];exact⟨e.to,dL,e.to,acc++[e.letter],u',bv',rfl,rfl,rfl,hG',by omega,by rw[Oc];simp,cQ,akd,aj8⟩
end
end
end Go.AX
