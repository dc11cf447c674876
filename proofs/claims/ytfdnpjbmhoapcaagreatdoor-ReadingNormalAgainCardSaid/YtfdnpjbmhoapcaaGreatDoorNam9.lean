/-
  Contracts of functions of this seat, for every input that each theorem names.
-/
import Derived.Test.YtfdnpjbmhoapcaaGreatDoorNam8
import Derived.Test.YtfdnpjbmhoapcaaGreatDoorNam2
import Derived.Test.YtfdnpjbmhoapcaaGreatDoorNam1
import Derived.Test.YtfdnpjbmhoapcaaGreatDoorNam6
import Derived.Test.YtfdnpjbmhoapcaaGreatDoorNax1
import Derived.Test.YtfdnpjbmhoapcaaGreatDoorNax2
set_option linter.all false
set_option maxHeartbeats 32000000
set_option maxRecDepth 10000
namespace Go.AX
open Go Go.Proofs
noncomputable section
attribute [local go_sem] cN cL
structure Fm {C:Type}(M:eG C)(cfg:List C)(es:List dD)(p:List bL)(least:Int):Prop where
 ne:p≠[]
 nq:p.Pairwise λx y=>x.1<y.1
 mem:∀k v,(k,v)∈p↔∃e c,e∈es/\e.1=((k:Nat):Int)/\e.2.1-least=v/\cfg[k]?=some c/\M.live c=true
 low:∀e (k:Nat) c,e∈es->e.1=(k:Int)->cfg[k]?=some c->M.live c=true->least<=e.2.1
 B3:∃e k c,e∈es/\e.1=((k:Nat):Int)/\cfg[k]?=some c/\M.live c=true/\e.2.1=least
 len:p.length<=es.length
def VW {C:Type}(M:eG C)(cfg:List C)(es:List dD)(h h':aa)(v:ae):Prop :=
 (v=.eC [.af,.int .i64 0,.bool false]/\∀e (k:Nat) c,e∈es->e.1=(k:Int)->cfg[k]?=some c->M.live c=false) \/
 ∃pv p least,v=.eC [pv,.int .i64 least,.bool true]/\Fm M cfg es p least/\cg h' 2 pv (p.map aV)/\pv.flat=true/\∀b,aM pv b->h.next<=b/\b<h'.next
def iG {α:Type}[DecidableEq α]:∀{l m:List α},l.Nodup->(∀x,x∈l->x∈m)->l.length<=m.length
 |[],_,_,_=>qZH _
 |a :: l,m,hn,hs=>by
  rw[List.nodup_cons]at hn;have hm:=hs a (by simp);have:=iG (l:=l) (m:=m.erase a) hn.2 λx hx=>(List.mem_erase_of_ne (λe:x=a=>hn.1 (by rw[<-e];exact hx))).2 (hs x (by simp[hx]));rw[qWH hm]at this;have:=List.length_pos_of_mem hm;rw[qZK];omega
def wI.len {C:Type}{M:eG C}{cfg:List C}{es:List dD}{clock:Nat}{seen:List Nat}{L:List bL}(H:wI M cfg es seen L)(hM:gh es clock):L.length<=es.length:=by
 have qy:(L.map λx=>((x.1:Nat):Int))⊆es.map (·.1):=by
  intro a ha;obtain⟨⟨k,v⟩,hx,rfl⟩:=qQB.1 ha;obtain⟨e,c,h1,_,h3,_⟩:=(H.mem k v).1 hx;exact qQB.2 ⟨e,h1,h3⟩
 have kv:(L.map λx=>((x.1:Nat):Int)).Nodup:=by
  have:=H.nodup;rw[show(L.map λx=>((x.1:Nat):Int))=(L.map (·.1)).map (λn:Nat=>(n:Int)) by rw[qKJ];rfl];exact List.Pairwise.map _ (λa b Ix hc=>Ix (by omega)) this
 have:=iG kv qy;simpa using this
def HY {M:eG Int}{mv:ae}{n0:Nat}{I:aa->Prop}{Good:Int->Prop}(O:Vh M (.int .i64) mv n0 I Good){aZ:Nat->Nat}{sb:Nat}{d:nD Int}{S:jV Int}(h:aa)
 (H:iP cq mv 101 n0 aZ h sb d S) (hg:∀c,c∈S.cfg->Good c) (hI:I h) {kb:Nat} {es:List dD} {clock:Nat} (hM:gh es clock) (hkb:n0<=kb/\kb<h.next) (gk:h.get kb=some (.map (es.map dF) clock))
 (BZ:∀e,e∈es->∃k c,e.1=((k:Nat):Int)/\S.cfg[k]?=some c) (hbd:∀e,e∈es->-4611686018427387904<e.2.1/\e.2.1<4611686018427387904) (hlen:es.length<=1048576) :
 Nc Tryz.prog 31 [.ptr sb 0,.map kb] h λv h'=>I h'/\Kept n0 h h'/\VW M S.cfg es h h' v:=by
 refine Nc.qJ kr call2 (λm n=>iS kr (call2 m n)) (fn:=Tryz.f31) (by kernel_rfl) (by kernel_rfl) FZ ?_;unfold Ge;simp only[go_sem,Nat.reduceEqDiff,Nat.reduceAdd,reduceCtorEq,uI gk];have qZ:n0<=h.next:=by omega
 have Qb:(h.push (.mapIter (some kb) clock [] clock)).get kb=some (.map (es.map dF) clock):=(aa.aA _ _ (by omega)).trans gk;have Gw:(h.push (.mapIter (some kb) clock [] clock)).get h.next=some (.mapIter (some kb) clock [] clock):=aa.ai _ _;have bh:aU h (h.push (.mapIter (some kb) clock [] clock)):=(aU.refl h).push _;have ab7:(h.push (.mapIter (some kb) clock [] clock)).next=h.next+1:=rfl;generalize h.push (.mapIter (some kb) clock [] clock)=h1 at Qb Gw bh ab7 ⊢;have hI1:I h1:=O.frame h h1 hI (fD.of qZ bh);refine PH O (r:=h.next) _ h1 (H.frame (.of bh) λ_ _=>rfl) hg hI1 hM ⟨hkb.1,by omega⟩ ⟨qZ,by omega⟩ (by omega) (by have:=H.lt;omega) (λb hb=>by have:=(H.c.qj b hb).2.1;omega) Qb Gw BZ hlen (by simp[T.ag]) (by simp[T.ag]) (by simp[T.ag]) ?_;intro fr h2 pv L seen t7 own XF hL jm DO GK uP;have hold:∀b,n0<=b->b<h.next->h2.get b=h.get b:=λb x1 x2=>(uP b x1 (by omega) (by omega)).trans (bh.get b x2);have anB:=hL.len hM
 have ZN:∀h' K,cH pv h' K=K (.int .i64 (L.length:Int)) h':=by
  rcases own with⟨rfl,e⟩|⟨b,n,rfl,_,_,hl⟩
  .have:L.length=0:=by have:=congrArg List.length e;rw[kQ,qZE]at this;omega
   intro h' K;rw[this];rfl
  .rw[kQ]at hl;intro h' K;rw[show L.length=n by omega];rfl
 by_cases h0:L=[]
 .subst h0;have hz:((0:Nat):Int)=0:=rfl;simp only[go_sem,Nat.reduceEqDiff,t7,ZN,qZE,hz];refine⟨DO,⟨by omega,hold⟩,.inl ⟨rfl,λe k c he hk hc=>?_⟩⟩;cases Ti:M.live c with
  |false=>rfl
  |true =>
   have:=(hL.mem k e.2.1).2 ⟨e,c,he,jm e he,hk,rfl,hc,Ti⟩;cases this
 .have h0':¬(L.length:Int)=0:=λe=>h0 (qZG (by omega));simp only[go_sem,Nat.reduceEqDiff,reduceCtorEq,t7,ZN,h0'];refine⟨by decide,?_⟩
  obtain⟨b,rfl,JR,Qf⟩:∃b,pv=.slice b 0 L.length L.length false/\b<h2.next/\h2.get b=some (.cells (L.map aV).flatten 154):=by
   rcases own with⟨rfl,e⟩|⟨b,n,rfl,h1,h2,hl⟩
   .have:=congrArg List.length e;rw[kQ,qZE]at this;exact absurd (qZG (by omega)) h0
   .rw[kQ]at hl;obtain rfl:L.length=n:=by omega
    exact⟨b,rfl,h1,h2⟩
  have Xm:h1.next<=b:=XF b ⟨_,_,_,_,rfl⟩;refine(YD h2 b L.length false 154 L Qf h0 (by omega)).mono ?_;rintro _ h3 ⟨qs,tK,CM,rfl⟩;have Tp:=tK.length_eq;have g3:(h2.put b (.cells (qs.map aV).flatten 154)).get b=some (.cells (qs.map aV).flatten 154):=aa.aj _ _ _;have DP:I (h2.put b (.cells (qs.map aV).flatten 154)):=O.frame h2 _ DO (fD.put (fD.refl _ _) (by omega) _);have go3:∀x,x≠b->(h2.put b (.cells (qs.map aV).flatten 154)).get x=h2.get x:=λx hx=>aa.ah _ _ (Ne.symm hx);have uQ:(h2.put b (.cells (qs.map aV).flatten 154)).next=h2.next:=rfl;generalize h2.put b (.cells (qs.map aV).flatten 154)=h3 at g3 DP go3 uQ ⊢;obtain⟨q0,hq0⟩:∃q,qs[0]?=some q:=⟨_,qQW (by rw[Tp];exact qVA.2 h0)⟩;have SP:0<L.length:=qVA.2 h0
  have l0:aN h3 b 1=some (.int .i64 q0.2):=by
   rw[aq g3,pD (encA:=aV) (k:=2) (by omega) (λ_=>rfl) _ _ (by omega)]
   have:qs.toArray[1 / 2]! = q0:=by
    show qs.toArray[0]! = q0;simp[List.getElem!_toArray,qVN,hq0]
   rw[this];rfl
  have akM:∀h' K,fI 2 (.slice b 0 L.length L.length false) (.int .i64 0) h' K=K (.ptr b 0) h':=λh' K=>by
   have:=dj (size:=2) (b:=b) (o:=0) (n:=L.length) (c:=L.length) (e:=false) (k:=.i64) (i:=0) (j:=0) rfl SP (h:=h') (K:=K);simpa using this
  have agf:∀h' K,cH (.slice b 0 L.length L.length false) h' K=K (.int .i64 (L.length:Int)) h':=λ_ _=>rfl;simp only[go_sem,Nat.reduceEqDiff,t7,akM,l0,agf];rw[<-Tp];refine PI _ h3 qs b qs.length false (by omega) g3 q0.2 ⟨q0,qQK hq0,rfl⟩ (by omega) (by simp[T.ag,t7,Tp]) (by simp[T.ag]) (by simp[T.ag,Tp]) (by simp[T.ag,Tp]) (by simp[T.ag]) ?_;intro fr4 h4 m u7 u10 ZW ags dP;have agh:∀h' K,cH (.slice b 0 qs.length qs.length false) h' K=K (.int .i64 (qs.length:Int)) h':=λ_ _=>rfl;simp only[go_sem,u7,agh];have hqm:∀x,x∈qs↔x∈L:=λx=>tK.mem_iff
  have vF:∀x,x∈qs->∃e c,e∈es/\e.1=((x.1:Nat):Int)/\e.2.1=x.2/\S.cfg[x.1]?=some c/\M.live c=true:=λx hx=>by
   obtain⟨e,c,h1,_,h3⟩:=(hL.mem x.1 x.2).1 ((hqm x).1 hx);exact⟨e,c,h1,h3⟩
  have hbq:∀x,x∈qs->-4611686018427387904<x.2/\x.2<4611686018427387904:=λx hx=>by
   obtain⟨e,c,h1,h2,h3,_⟩:=vF x hx;rw[<-h3];exact hbd e h1
  have Xl:-4611686018427387904<m/\m<4611686018427387904:=by
   obtain⟨x,hx,rfl⟩:=ZW;exact hbq x hx
  have g4:h4.get b=some (.cells (qs.map aV).flatten 154):=(dP.get b (by omega)).trans g3;have Qe:I h4:=O.frame h3 h4 DP (fD.of (by omega) dP);have JY:=dP.next;refine PJ _ h4 qs b qs.length false (by omega) g4 m (by omega) hbq Xl (by simp[T.ag,u7]) (by simp[T.ag,u10]) (by simp[T.ag]) (by simp[T.ag]) ?_;intro fr5 h5 v7 v10 Qg Vq g5;simp only[go_sem,Nat.reduceEqDiff,v7,v10];have Zz:I h5:=O.frame h4 h5 Qe ⟨by omega,λx hx=>Vq x (by omega)⟩;refine⟨Zz,⟨by omega,λx x1 x2=>?_⟩,.inr ⟨_,qs.map λx=>(x.1,x.2-m),m,rfl,⟨?_,?_,?_,?_,?_,?_⟩,?_,rfl,?_⟩⟩
  .rw[Vq x (by omega),dP.get x (by omega),go3 x (by omega)];exact hold x x1 x2
  .intro e;have:=congrArg List.length e;simp at this;rw[this] at Tp;simp at Tp;omega
  .rw[qKB];have kv:(qs.map (·.1)).Nodup:=(tK.map (·.1)).nodup_iff.2 hL.nodup;have ak6:qs.Pairwise λx y=>x.1≠y.1:=by rw[qVZ,qKB]at kv;exact kv
   exact(CM.and ak6).imp λ{x y} lH=>by
    have:=lH.1;have:=lH.2;show x.1<y.1;omega
  .intro k v;rw[qQB];constructor
   .rintro⟨x,hx,e⟩;obtain⟨e',c,h1,h2,h3,h4,h5⟩:=vF x hx;simp only[qQA]at e;obtain⟨rfl,rfl⟩:=e;exact⟨e',c,h1,h2,by rw[h3],h4,h5⟩
   .rintro⟨e',c,h1,h2,rfl,h4,h5⟩;exact⟨(k,e'.2.1),(hqm _).2 ((hL.mem k e'.2.1).2 ⟨e',c,h1,jm e' h1,h2,rfl,h4,h5⟩),rfl⟩
  .intro e' k c h1 h2 h3 h4;exact ags (k,e'.2.1) ((hqm _).2 ((hL.mem k e'.2.1).2 ⟨e',c,h1,jm e' h1,h2,rfl,h3,h4⟩))
  .obtain⟨x,hx,rfl⟩:=ZW;obtain⟨e',c,h1,h2,h3,h4,h5⟩:=vF x hx;exact⟨e',x.1,c,h1,h2,h4,h5,h3⟩
  .rw[qQD];omega
  .refine⟨λy hy=>by obtain⟨a,_,rfl⟩:=qQB.1 hy;rfl,.inr ⟨b,0,qs.length,false,by rw[qQD,qQD],.inr (fP.ed (by omega) g5 λy hy=>?_)⟩⟩;obtain⟨z,hz,hyz⟩:=qJD.1 hy;obtain⟨a,_,rfl⟩:=qQB.1 hz;simp[aV]at hyz;rcases hyz with rfl|rfl<;>rfl
  .rintro x ⟨o,n,c2,e,hx⟩;cases hx;exact⟨by omega,by omega⟩
attribute [local go_sem] dK
def Fh.inj {C:Type}[DecidableEq C]{X:MN C}{n0:Nat}{aZ:Nat->Nat}{h:aa}{nb:Nat}{cv:ae}{wH:List (C×Int×Nat)}{nc:Nat}{cfg:List C}(H:Fh X n0 aZ h nb cv wH nc cfg){i j:Nat}{c:C}(hi:cfg[i]?=some c)(hj:cfg[j]?=some c):i=j:=by
 have h1:=(H.O4 c i).2 ⟨i,rfl,hi⟩;have h2:=(H.O4 c j).2 ⟨j,rfl,hj⟩;rw[h1]at h2;injection h2 with h2
 omega
def Fh.nodup {C:Type}[DecidableEq C]{X:MN C}{n0:Nat}{aZ:Nat->Nat}{h:aa}{nb:Nat}{cv:ae}{wH:List (C×Int×Nat)}{nc:Nat}{cfg:List C}(H:Fh X n0 aZ h nb cv wH nc cfg):cfg.Nodup:=by
 rw[qVZ,qVL];intro i j hi hj L4 e;have:=H.inj (i:=i) (j:=j) (c:=cfg[i]) (qQW hi) (by rw[qQW hj,e]);omega
structure jB {C:Type}(cfg:List C)(es:List dD)(T:List (C×Int)):Prop where
 key:∀e,e∈es->∃k c,e.1=((k:Nat):Int)/\cfg[k]?=some c
 mem:∀x,x∈T->x.1∈cfg
 least:∀(k:Nat) c,cfg[k]?=some c->c9 (λt=>(c,t)∈T) (dW es (k:Int))
def jB.nil {C:Type}(cfg:List C):jB cfg [] ([]:List (C×Int)):=⟨by simp,by simp,λk c _ t ht=>by cases ht⟩
def jB.add {C:Type}{cfg iL:List C}{es:List dD}{clock:Nat}{T:List (C×Int)}(H:jB cfg es T){c:C}{i:Nat}{t:Int}(hi:iL[i]?=some c)(hc:iL=cfg\/c∉cfg/\iL=cfg++[c])(kv:∀(i j:Nat) c,iL[i]?=some c->iL[j]?=some c->i=j)
 {dX:List dD} (BZ:dX=if(∃v,dW es (i:Int)=some v/\v<=t) then es else pQ es clock (i:Int) t):jB iL dX (T++[(c,t)]):=by
 have qy:∀(k:Nat) d,cfg[k]?=some d->iL[k]?=some d:=by
  intro k d hk;rcases hc with rfl|⟨_,rfl⟩
  .exact hk
  .rw[qQN (qQZ.1 hk).1];exact hk
 have XA:dW dX (i:Int)=some (match dW es (i:Int) with|none=>t|some v=>min v t):=by
  subst BZ;split
  .rename_i hx;obtain⟨v,hv,hle⟩:=hx;rw[hv];simp only;rw[Int.min_eq_left hle]
  .rename_i hx;rw[wA,if_pos rfl];cases hv:dW es (i:Int) with
   |none=>rfl
   |some v =>
    have:¬v<=t:=λhle=>hx ⟨v,hv,hle⟩;simp only;rw[Int.min_eq_right (by omega)]
 have Tl:∀q:Int,q≠(i:Int)->dW dX q=dW es q:=by
  intro q hq;subst BZ;split
  .rfl
  .rw[wA,if_neg hq]
 have hold:c9 (λu=>(c,u)∈T) (dW es (i:Int)):=by
  by_cases Vv:cfg[i]?=some c
  .exact H.least i c Vv
  .
   have Oe:c∉cfg:=by
    intro hm;obtain⟨j,hj⟩:=qQL.1 hm;have:=kv i j c hi (qy j c hj);subst this;exact Vv hj
   have hv:dW es (i:Int)=none:=by
    rw[Dg];intro e he hk;obtain⟨k,d,h1,h2⟩:=H.key e he;rw[hk]at h1;obtain rfl:i=k:=by omega
    have:=qy i d h2;rw[hi]at this;cases this;exact Oe (qQK h2)
   rw[hv];exact λu hu=>Oe (H.mem _ hu)
 refine⟨?_,?_,?_⟩
 .intro e he;by_cases hk:e.1=(i:Int)
  .exact⟨i,c,hk,hi⟩
  .have eE:e∈es:=by
    subst BZ;split at he
    .exact he
    .unfold pQ at he;split at he
     .obtain⟨e',mQ,h2⟩:=qQB.1 he;by_cases h3:e'.1=(i:Int)
      .rw[if_pos h3]at h2;subst h2;exact absurd rfl hk
      .rw[if_neg h3]at h2;subst h2;exact mQ
     .rcases qQE.1 he with he|he
      .exact he
      .simp at he;subst he;exact absurd rfl hk
   obtain⟨k,d,h1,h2⟩:=H.key e eE;exact⟨k,d,h1,qy k d h2⟩
 .intro x hx;rcases qQE.1 hx with hx|hx
  .obtain⟨j,hj⟩:=qQL.1 (H.mem x hx);exact qQK (qy j _ hj)
  .simp at hx;subst hx;exact qQK hi
 .intro k d hk;by_cases hki:k=i
  .subst hki;rw[hi]at hk;cases hk;rw[XA]
   have e:(match dW es (k:Int) with|none=>t|some v=>min v t)=(Ay (dW es (k:Int)) t).getD t/\(Ay (dW es (k:Int)) t).isSome=true:=by
    cases dW es (k:Int) with
    |none=>exact⟨rfl,rfl⟩
    |some v =>
     unfold Ay;simp only;split<;>simp<;>omega
   have hl:=hold.add t;cases hm:Ay (dW es (k:Int)) t with
   |none=>rw[hm]at e;cases e.2
   |some m =>
    rw[e.1,hm];rw[hm]at hl;refine c9.congr (λu=>?_) hl;simp only[qQE,qZN,qQA,true_and]
  .rw[Tl (k:Int) (by omega)];have hdc:d≠c:=λe=>hki (kv k i c (e▸hk) hi)
   have hd:cfg[k]?=some d\/d∉cfg:=by
    rcases hc with rfl|⟨_,rfl⟩
    .exact .inl hk
    .rw[qKQ]at hk;split at hk
     .exact .inl hk
     .have:=qQK hk;simp at this;exact absurd this hdc
   rcases hd with hd|hd
   .refine c9.congr (λu=>?_) (H.least k d hd);simp[hdc]
   .exfalso
    obtain⟨j,hj⟩:∃j,cfg[j]?=some d:=by
     rcases hc with rfl|⟨_,rfl⟩
     .exact⟨k,hk⟩
     .rw[qKQ]at hk;split at hk
      .exact⟨k,hk⟩
      .have:=qQK hk;simp at this;exact absurd this hdc
    exact hd (qQK hj)
def hJ {C:Type}(cfg:List C)(p:List bL):p9 C:=λc v=>∃k,cfg[k]?=some c/\(k,v)∈p
def Fm.ahF {C:Type}{M:eG C}{cfg:List C}{es:List dD}{clock:Nat}(hM:gh es clock){T:List (C×Int)}(H:jB cfg es T)(kv:∀(i j:Nat) c,cfg[i]?=some c->cfg[j]?=some c->i=j){p:List bL}{m:Int}(hp:Fm M cfg es p m) :
 rE M (λc t=>(c,t)∈T) (hJ cfg p) m:=by
 have jG:∀{e:dD}{k:Nat}{c:C},e∈es->e.1=(k:Int)->cfg[k]?=some c->IsL (λt=>(c,t)∈T) e.2.1:=by
  intro e k c he hk hc;have:=H.least k c hc;rw[<-hk,jk hM.keys he]at this;exact this
 have vF:∀{c t},(c,t)∈T->∃e k,e∈es/\e.1=((k:Nat):Int)/\cfg[k]?=some c:=by
  intro c t ht;obtain⟨k,hk⟩:=qQL.1 (H.mem _ ht);have:=H.least k c hk;cases hv:dW es (k:Int) with
  |none=>rw[hv]at this;exact(this t ht).elim
  |some v =>
   obtain⟨n,hn⟩:=wz hv;exact⟨_,k,hn,rfl,hk⟩
 refine⟨?_,?_,?_⟩
 .obtain⟨e,k,c,h1,h2,h3,h4,h5⟩:=hp.B3;exact⟨c,h4,h5▸(jG h1 h2 h3).1⟩
 .intro c t hl ht;obtain⟨e,k,h1,h2,h3⟩:=vF ht;have:=(jG h1 h2 h3).2 t ht;have:=hp.low e k c h1 h2 h3 hl;omega
 .intro c v;constructor
  .rintro⟨k,hk,hm⟩;obtain⟨e,c',h1,h2,h3,h4,h5⟩:=(hp.mem k v).1 hm;rw[hk]at h4;cases h4;refine⟨h5,?_⟩;rw[<-h3,show e.2.1-m+m=e.2.1 by omega];exact jG h1 h2 hk
  .rintro⟨hl,hi⟩;obtain⟨e,k,h1,h2,h3⟩:=vF hi.1;have:=(jG h1 h2 h3).uniq hi;exact⟨k,h3,(hp.mem k v).2 ⟨e,c,h1,h2,by omega,h3,hl⟩⟩
def LM {C:Type}{M:eG C}{cfg:List C}{es:List dD}{T:List (C×Int)}(H:jB cfg es T)(hd:∀e (k:Nat) c,e∈es->e.1=(k:Int)->cfg[k]?=some c->M.live c=false):Fi M (λc t=>(c,t)∈T):=by
 intro c t ht;obtain⟨k,hk⟩:=qQL.1 (H.mem _ ht);have:=H.least k c hk;cases hv:dW es (k:Int) with
 |none=>rw[hv]at this;exact(this t ht).elim
 |some v =>
  obtain⟨n,hn⟩:=wz hv;exact hd _ k c hn rfl hk
theorem bQ {E:Env}{h:aa}{fr:Fr}:bw E h fr []=some (.eC []):=rfl
attribute [local go_sem] bQ
def NR {mv:ae}{n0:Nat}{aZ:Nat->Nat}{h:aa}{sb:Nat}{d:nD Int}{S:jV Int}(H:iP cq mv 101 n0 aZ h sb d S)(hb:S.cfg.length+1<=1073741824)(c k xc xv:Int){zs zc zx kb:Nat}{ts tc tx:TypeId}
 (hz:zs<h.next/\zc<h.next/\zx<h.next/\kb<h.next) (BY:9<=aZ zs/\9<=aZ zc/\9<=aZ zx/\9<=aZ kb) (gs:h.get zs=some (.cells [.ptr sb 0] ts)) (gc:h.get zc=some (.cells [.map kb] tc)) (gx:h.get zx=some (.cells [.int .i64 xc,.int .i64 xv] tx))
 {es:List dD} {clock:Nat} (hM:gh es clock) (gk:h.get kb=some (.map (es.map dF) clock)) {T:List (Int×Int)} (HT:jB S.cfg es T) (hw:-9223372036854775808<=xv+k/\xv+k<=9223372036854775807) :
 Ec E2 56 [.int .i64 c,.int .i64 k,.ptr zs 0,.ptr zc 0,.ptr zx 0] h λ_ h'=>∃(col':Nat->Nat)(d':nD Int)(iL:List Int)(dX:List dD)(ud:Nat),
   iP cq mv 101 n0 col' h' sb d' {S with cfg:=iL}/\(iL=S.cfg\/c∉S.cfg/\iL=S.cfg++[c])/\gh dX ud/\h'.get kb=some (.map (dX.map dF) ud)/\jB iL dX (T++[(c,xv+k)])/\(∀b,b<h.next->col' b=aZ b)/\h.next<=h'.next /\
   (∀e,e∈dX->e∈es\/e.2.1=xv+k)/\∀b,b<h.next->b≠kb->(b<n0\/aZ b=0\/4<=aZ b)->h'.get b=h.get b:=by
 refine Ec.bu (aI (by decide)) DC ?_;unfold Cs;obtain⟨z1,z2,z3,z4⟩:=hz;obtain⟨w1,w2,w3,w4⟩:=BY;have ls:aN h zs 0=some (.ptr sb 0):=by rw[aq gs];rfl
 simp only[go_sem,Nat.reduceEqDiff,Nat.reduceAdd,reduceCtorEq,ls];refine⟨by decide,?_⟩;refine(Hw H hb c).mono ?_;rintro r h1 ⟨col',d',iL,i,rfl,H1,hi,Gy,r8,ho⟩;have yK:=ho.next;have gc1:h1.get zc=some (.cells [.map kb] tc):=(ho.get zc z2 (.inr (.inr (by omega)))).trans gc;have gx1:h1.get zx=some (.cells [.int .i64 xc,.int .i64 xv] tx):=(ho.get zx z3 (.inr (.inr (by omega)))).trans gx;have Qb:h1.get kb=some (.map (es.map dF) clock):=(ho.get kb z4 (.inr (.inr (by omega)))).trans gk;have lc:aN h1 zc 0=some (.map kb):=by rw[aq gc1];rfl
 have lx:aN h1 zx 1=some (.int .i64 xv):=by rw[aq gx1];rfl
 have hwr:IntKind.i64.wrap (xv+k)=xv+k:=wrap_i64 (by omega) (by omega);have kv:∀(i j:Nat) c,iL[i]?=some c->iL[j]?=some c->i=j:=λi j c a b=>H1.c.inj a b;have hkn:n0<=kb\/kb<n0:=by omega
 have ae3:∀dX,dX=(if(∃v,dW es (i:Int)=some v/\v<=xv+k) then es else pQ es clock (i:Int) (xv+k))->jB iL dX (T++[(c,xv+k)]):=λdX he=>HT.add hi Gy kv he
 have Zs:(¬∃v,dW es (i:Int)=some v/\v<=xv+k)->∃(col':Nat->Nat)(d':nD Int)(iL:List Int)(dX:List dD)(ud:Nat),
     iP cq mv 101 n0 col' (h1.put kb (.map ((pQ es clock (i:Int) (xv+k)).map dF) (wb es clock (i:Int)))) sb d' {S with cfg:=iL}/\(iL=S.cfg\/c∉S.cfg/\iL=S.cfg++[c])/\gh dX ud/\(h1.put kb (.map ((pQ es clock (i:Int) (xv+k)).map dF) (wb es clock (i:Int)))).get kb=some (.map (dX.map dF) ud)/\jB iL dX (T++[(c,xv+k)])/\(∀b,b<h.next->col' b=aZ b)/\h.next<=(h1.put kb (.map ((pQ es clock (i:Int) (xv+k)).map dF) (wb es clock (i:Int)))).next /\
     (∀e,e∈dX->e∈es\/e.2.1=xv+k)/\∀b,b<h.next->b≠kb->(b<n0\/aZ b=0\/4<=aZ b)->(h1.put kb (.map ((pQ es clock (i:Int) (xv+k)).map dF) (wb es clock (i:Int)))).get b=h.get b:=by
  intro hx;refine⟨col',d',iL,pQ es clock (i:Int) (xv+k),wb es clock (i:Int),?_,Gy,hM.put _ _,aa.aj _ _ _,ae3 _ (by rw[if_neg hx]),r8,yK,λe he=>?_,λb hb dV uR=>(aa.ah _ _ (Ne.symm dV)).trans (ho.get b hb (by omega))⟩
  .refine H1.frame ⟨qQY _,λb x1 x2 x3 x4=>aa.ah _ _ λe=>?_⟩ λ_ _=>rfl;rw[<-e,r8 kb z4]at x4;omega
  .unfold pQ at he;split at he
   .obtain⟨e',mQ,h2⟩:=qQB.1 he;by_cases h3:e'.1=(i:Int)
    .rw[if_pos h3]at h2;subst h2;exact .inr rfl
    .rw[if_neg h3]at h2;subst h2;exact .inl mQ
   .rcases qQE.1 he with he|he
    .exact .inl he
    .simp at he;subst he;exact .inr rfl
 rcases hv:dW es (i:Int) with _|v
 .simp only[go_sem,Nat.reduceEqDiff,reduceCtorEq,lc,lx,mq Qb,hv,hwr,pR hM Qb];exact Zs (by rw[hv];rintro⟨v,h1,_⟩;cases h1)
 .by_cases dL:xv+k<v
  .simp only[go_sem,Nat.reduceEqDiff,reduceCtorEq,lc,lx,mq Qb,hv,hwr,dL,pR hM Qb];exact Zs (by rw[hv];rintro⟨v',h1,h2⟩;cases h1;omega)
  .simp only[go_sem,Nat.reduceEqDiff,reduceCtorEq,lc,lx,mq Qb,hv,hwr,dL];refine⟨col',d',iL,es,clock,H1,Gy,hM,Qb,ae3 _ (by rw[if_pos ⟨v,hv,by omega⟩]),r8,yK,λe he=>.inl he,λb hb _ uR=>ho.get b hb (by omega)⟩
def Q7 {q:yv}{a b:Int}:kZ .mul q (.int .i64 a) (.int .i64 b)=some (.int .i64 (IntKind.i64.wrap (a*b))):=by
 show some (ae.int _ (jt _ (Int.mul a b)))=_;rw[ia];rfl
def Q9 {q:yv}{a:Int}:kZ .quo q (.int .i64 a) (.int .i64 2)=some (.int .i64 (IntKind.i64.wrap (a.tdiv 2))):=by
 show some (ae.int _ (jt _ (Int.tdiv a 2)))=_;rw[ia]
attribute [local go_sem] Q7 Q9
def mU:E2.qD 184 "Less" = some (177,false):=by kernel_rfl
def CT:E2.qD 184 "Len" = some (75,false):=by kernel_rfl
def mV:E2.qD 184 "Swap" = some (178,false):=by kernel_rfl
def Ko:E2.qD 184 "Push" = some (181,true):=by kernel_rfl
def OR:E2.qD 184 "Pop" = some (180,true):=by kernel_rfl
def adn (b o:Nat)(h:aa):sw E2 184 false (.ptr b o) h=aN h b o:=by kernel_rfl
def Yx (v:ae)(h:aa):sw E2 184 true v h=some v:=by kernel_rfl
def rh {name:String}{f:FuncId}{b o:Nat}{v:ae}{args:List ae}{h:aa}{K:ae->aa->Prop}(hm:E2.qD 184 name=some (f,false))(hl:aN h b o=some v)(hc:Ec E2 f (v :: args) h K):xg E2 (.iface 184 (.ptr b o)) name args h K :=
 eQ.2 ⟨_,hm,eQ.2 ⟨_,(adn _ _ _).trans hl,hc⟩⟩
def TH {name:String}{f:FuncId}{b o:Nat}{args:List ae}{h:aa}{K:ae->aa->Prop}(hm:E2.qD 184 name=some (f,true))(hc:Ec E2 f (.ptr b o :: args) h K):xg E2 (.iface 184 (.ptr b o)) name args h K :=
 eQ.2 ⟨_,hm,eQ.2 ⟨_,Yx _ _,hc⟩⟩
structure QG (h:aa)(b o:Nat)(v:ae)(l:List dE):Prop where
 ld:aN h b o=some v
 lt:b<h.next
 nb:¬aM v b
 q:pk h v l
def QG.mod {h h':aa}{b o:Nat}{v:ae}{l l':List dE}(H:QG h b o v l)(M:nz v h h')(Q:pk h' v l'):QG h' b o v l' :=
 ⟨(cG (M.get b H.lt H.nb) o).trans H.ld,qQG H.lt M.next,H.nb,Q⟩
def QG.hle {h h':aa}{b o:Nat}{v:ae}{l:List dE}(H:QG h b o v l)(M:aU h h'):QG h' b o v l:=H.mod (.of M) (H.q.frame M.next λb hb=>M.get b (H.q.rm hb))
def amz {h:aa}{b o:Nat}{v:ae}{l:List dE}(H:QG h b o v l){j:Nat}(hj:j<l.length)(hb:l.length<=1000000000) :
 Ec E2 104 [.iface 184 (.ptr b o),.int .i64 (j:Int)] h λ_ h'=>pk h' v (Ij l j)/\nz v h h':=by
 refine Ec.bu (aI (by decide)) WH ?_;unfold aeL;simp only[go_sem,Nat.reduceAdd];refine fg (λd fr h'=>∃l',fr.get 0=some (.iface 184 (.ptr b o))/\fr.get 1=some (.int .i64 (d:Int))/\QG h' b o v l'/\nz v h h'/\l'.length=l.length/\d<l.length/\Ij l' d=Ij l j) j ?_ ?_
 .exact⟨l,by simp[T.ag],by simp[T.ag],H,.refl _ _,rfl,hj,rfl⟩
 rintro d fr h1 ⟨l1,t0,t1,H1,M1,e1,hd,hu⟩;unfold LA;by_cases hz:d=0
 .subst hz;have t1:fr.get 1=some (.int .i64 0):=t1;have hw:IntKind.i64.wrap ((0:Int)-1)=-1:=by decide
  have CO:IntKind.i64.wrap (Int.tdiv (-1) 2)=0:=by decide
  simp only[go_sem,Nat.reduceEqDiff,reduceCtorEq,t0,t1,hw,CO];rw[Ij,dif_pos rfl]at hu;rw[<-hu];exact⟨H1.q,M1⟩
 .have hw:IntKind.i64.wrap ((d:Int)-1)=((d-1:Nat):Int):=by rw[wrap_i64 (by omega) (by omega)];omega
  have CO:IntKind.i64.wrap (Int.tdiv ((d-1:Nat):Int) 2)=(((d-1) / 2:Nat):Int):=by
   rw[Int.tdiv_eq_ediv_of_nonneg (by omega),wrap_i64 (by omega) (by omega)];omega
  have dV:¬(((d-1) / 2:Nat):Int)=(d:Int):=by omega
  simp only[go_sem,Nat.reduceEqDiff,reduceCtorEq,t0,t1,hw,CO,dV];refine rh mU H1.ld ((wg H1.q.sl (i:=d) (j:=(d-1) / 2) (by omega) (by omega)).mono ?_);rintro r h2 ⟨rfl,aS⟩;have H2:=H1.hle aS;rw[Ij,dif_neg hz]at hu;cases hL:mT l1 d ((d-1) / 2) with
  |false =>
   simp only[go_sem,Nat.reduceEqDiff,reduceCtorEq];rw[if_neg (by simp[hL])]at hu;rw[<-hu];exact⟨H2.q,M1.trans (.of aS)⟩
  |true =>
   rw[if_pos hL]at hu;simp only[go_sem,Nat.reduceEqDiff,reduceCtorEq,t0,t1];refine rh mV H2.ld ((wh H2.q (i:=(d-1) / 2) (j:=d) (by omega) (by omega)).mono ?_);rintro r h3 ⟨Q3,M3⟩;simp only[go_sem,Nat.reduceEqDiff,reduceCtorEq];exact⟨(d-1) / 2,by omega,_,by simp[t0],by simp[],H2.mod M3 Q3,M1.trans ((nz.of aS).trans M3),by rw[jq];exact e1,by omega,hu⟩
def abd {h:aa}{b o:Nat}{v:ae}{l:List dE}(H:QG h b o v l){n:Nat}(hn:n<=l.length)(hb:l.length<=1000000000) :
 Ec E2 105 [.iface 184 (.ptr b o),.int .i64 0,.int .i64 (n:Int)] h λ_ h'=>pk h' v (kD l 0 n)/\nz v h h':=by
 refine Ec.bu (aI (by decide)) Nk ?_;unfold Rp;simp only[go_sem,Nat.reduceEqDiff,Nat.reduceAdd,reduceCtorEq];refine fg (λd fr h'=>∃(l':List dE)(i:Nat),d+i=n/\fr.get 0=some (.iface 184 (.ptr b o))/\fr.get 1=some (.int .i64 0)/\fr.get 2=some (.int .i64 (n:Int))/\fr.get 7=some (.int .i64 (i:Int))/\QG h' b o v l'/\nz v h h'/\l'.length=l.length/\kD l' i n=kD l 0 n) n ?_ ?_
 .exact⟨l,0,by omega,by simp[T.ag],by simp[T.ag],by simp[T.ag],by simp[T.ag],H,.refl _ _,rfl,rfl⟩
 rintro d fr h1 ⟨l1,i,hd,t0,t1,t2,t7,H1,M1,e1,hu⟩;unfold Cu;have hw:IntKind.i64.wrap (2*(i:Int))=((2*i:Nat):Int):=by rw[wrap_i64 (by omega) (by omega)];omega
 have CO:IntKind.i64.wrap (((2*i:Nat):Int)+1)=((2*i+1:Nat):Int):=by rw[wrap_i64 (by omega) (by omega)];omega
 have hw3:IntKind.i64.wrap (((2*i+1:Nat):Int)+1)=((2*i+2:Nat):Int):=by rw[wrap_i64 (by omega) (by omega)];omega
 have Ak:¬((2*i+1:Nat):Int)<0:=by omega
 by_cases hc:2*i+1<n
 .have ku:((2*i+1:Nat):Int)<(n:Int):=by omega
  rw[kD,dif_pos hc]at hu;by_cases h2c:2*i+2<n
  .have abA:((2*i+2:Nat):Int)<(n:Int):=by omega
   simp only[go_sem,Nat.reduceEqDiff,reduceCtorEq,t0,t2,t7,hw,CO,hw3,Ak,ku,abA];refine rh mU H1.ld ((wg H1.q.sl (i:=2*i+2) (j:=2*i+1) (by omega) (by omega)).mono ?_);rintro r h2 ⟨rfl,aS⟩;have H2:=H1.hle aS;cases hL:mT l1 (2*i+2) (2*i+1) with
   |true =>
    have hj:qX l1 i n=2*i+2:=by unfold qX;rw[if_pos ⟨h2c,hL⟩]
    rw[hj]at hu;simp only[go_sem,Nat.reduceEqDiff,reduceCtorEq,t0,t7];refine rh mU H2.ld ((wg H2.q.sl (i:=2*i+2) (j:=i) (by omega) (by omega)).mono ?_);rintro r h3 ⟨rfl,cQ⟩;have H3:=H2.hle cQ;cases hM:mT l1 (2*i+2) i with
    |false =>
     rw[if_neg (by simp[hM])]at hu;simp only[go_sem,Nat.reduceEqDiff,reduceCtorEq,t1,t7];rw[<-hu];exact⟨H3.q,M1.trans (.of (aS.trans cQ))⟩
    |true =>
     rw[if_pos hM]at hu;simp only[go_sem,Nat.reduceEqDiff,reduceCtorEq,t0,t7];refine rh mV H3.ld ((wh H3.q (i:=i) (j:=2*i+2) (by omega) (by omega)).mono ?_);rintro r h4 ⟨Q4,M4⟩;simp only[go_sem,Nat.reduceEqDiff,reduceCtorEq];exact⟨n-(2*i+2),by omega,_,2*i+2,by omega,by simp[t0],by simp[t1],by simp[t2],by simp[],H3.mod M4 Q4,M1.trans ((nz.of (aS.trans cQ)).trans M4),by rw[jq];exact e1,hu⟩
   |false =>
    have hj:qX l1 i n=2*i+1:=by unfold qX;rw[if_neg (by simp[hL])]
    rw[hj]at hu;simp only[go_sem,Nat.reduceEqDiff,reduceCtorEq,t0,t7];refine rh mU H2.ld ((wg H2.q.sl (i:=2*i+1) (j:=i) (by omega) (by omega)).mono ?_);rintro r h3 ⟨rfl,cQ⟩;have H3:=H2.hle cQ;cases hM:mT l1 (2*i+1) i with
    |false =>
     rw[if_neg (by simp[hM])]at hu;simp only[go_sem,Nat.reduceEqDiff,reduceCtorEq,t1,t7];rw[<-hu];exact⟨H3.q,M1.trans (.of (aS.trans cQ))⟩
    |true =>
     rw[if_pos hM]at hu;simp only[go_sem,Nat.reduceEqDiff,reduceCtorEq,t0,t7];refine rh mV H3.ld ((wh H3.q (i:=i) (j:=2*i+1) (by omega) (by omega)).mono ?_);rintro r h4 ⟨Q4,M4⟩;simp only[go_sem,Nat.reduceEqDiff,reduceCtorEq];exact⟨n-(2*i+1),by omega,_,2*i+1,by omega,by simp[t0],by simp[t1],by simp[t2],by simp[],H3.mod M4 Q4,M1.trans ((nz.of (aS.trans cQ)).trans M4),by rw[jq];exact e1,hu⟩
  .have abA:¬((2*i+2:Nat):Int)<(n:Int):=by omega
   have hj:qX l1 i n=2*i+1:=by unfold qX;rw[if_neg (λh=>h2c h.1)]
   rw[hj]at hu;simp only[go_sem,Nat.reduceEqDiff,reduceCtorEq,t0,t2,t7,hw,CO,hw3,Ak,ku,abA];refine rh mU H1.ld ((wg H1.q.sl (i:=2*i+1) (j:=i) (by omega) (by omega)).mono ?_);rintro r h3 ⟨rfl,cQ⟩;have H3:=H1.hle cQ;cases hM:mT l1 (2*i+1) i with
   |false =>
    rw[if_neg (by simp[hM])]at hu;simp only[go_sem,Nat.reduceEqDiff,reduceCtorEq,t1,t7];rw[<-hu];exact⟨H3.q,M1.trans (.of cQ)⟩
   |true =>
    rw[if_pos hM]at hu;simp only[go_sem,Nat.reduceEqDiff,reduceCtorEq,t0,t7];refine rh mV H3.ld ((wh H3.q (i:=i) (j:=2*i+1) (by omega) (by omega)).mono ?_);rintro r h4 ⟨Q4,M4⟩;simp only[go_sem,Nat.reduceEqDiff,reduceCtorEq];exact⟨n-(2*i+1),by omega,_,2*i+1,by omega,by simp[t0],by simp[t1],by simp[t2],by simp[],H3.mod M4 Q4,M1.trans ((nz.of cQ).trans M4),by rw[jq];exact e1,hu⟩
 .have ku:¬((2*i+1:Nat):Int)<(n:Int):=by omega
  simp only[go_sem,Nat.reduceEqDiff,reduceCtorEq,t0,t1,t2,t7,hw,CO,ku];rw[kD,dif_neg hc]at hu;rw[<-hu];exact⟨H1.q,M1⟩
inductive Slot
 |done (l:List tm)
 |wait (l:List dE)
 |flag (b:Bool)
def qW (h:aa)(v:ae):Slot->Prop
 |.done l=>dO h 2 49 v (l.map fN).flatten
 |.wait l=>pk h v l
 |.flag b=>v=.bool b
def qW.frame {h h':aa}{v:ae}{s:Slot}(H:qW h v s)(hn:h.next<=h'.next)(hg:∀b,aM v b->h'.get b=h.get b):qW h' v s:=by
 cases s with
 |done l=>exact dO.frame H hn hg
 |wait l=>exact pk.frame H hn hg
 |flag b=>exact H
def qW.flat {h:aa}{v:ae}{s:Slot}(H:qW h v s):v.flat=true:=by
 cases s with
 |done l=>exact dO.lT H
 |wait l=>rcases H with⟨rfl,_⟩|⟨_,_,_,rfl,_⟩<;>rfl
 |flag b=>cases H;rfl
structure sP (n0 sb:Nat)(h:aa)(cs:List ae)(S:List Slot):Prop where
 lt:n0<=h.next/\sb<h.next
 get:h.get sb=some (.cells cs 182)
 len:cs.length=S.length
 slot:∀(k:Nat)(v:ae)(s:Slot),cs[k]?=some v->S[k]?=some s->qW h v s
 JA:∀(k k':Nat)(v v':ae)(b:Nat),cs[k]?=some v->cs[k']?=some v'->aM v b->aM v' b->k=k'
 low:∀(k:Nat)(v:ae)(b:Nat),cs[k]?=some v->aM v b->n0<=b/\b<h.next/\b≠sb
def p8 (sb:Nat)(cs:List ae)(b:Nat):Prop:=b=sb\/∃(k:Nat)(v:ae),cs[k]?=some v/\aM v b
structure yx (sb:Nat)(h:aa)(cs:List ae)(h':aa)(oz:List ae):Prop where
 next:h.next<=h'.next
 get:∀b,b<h.next->¬p8 sb cs b->h'.get b=h.get b
 own:∀b,b<h.next->p8 sb oz b->p8 sb cs b
def yx.refl (sb:Nat)(h:aa)(cs:List ae):yx sb h cs h cs:=⟨qQY _,λ_ _ _=>rfl,λ_ _ h=>h⟩
def yx.trans {sb:Nat}{h1 h2 h3:aa}{c1 c2 c3:List ae}(a:yx sb h1 c1 h2 c2)(b:yx sb h2 c2 h3 c3):yx sb h1 c1 h3 c3 :=
 ⟨qZC a.next b.next,λx hx ho=>(b.get x (qQG hx a.next) λh=>ho (a.own x hx h)).trans (a.get x hx ho),λx hx ho=>a.own x hx (b.own x (qQG hx a.next) ho)⟩
def yx.of {sb:Nat}{h h':aa}{cs:List ae}(H:aU h h'):yx sb h cs h' cs:=⟨H.next,λb hb _=>H.get b hb,λ_ _ h=>h⟩
section
variable{n0 sb:Nat}{h h':aa}{cs:List ae}{S:List Slot}
def sP.hle (H:sP n0 sb h cs S)(hl:aU h h'):sP n0 sb h' cs S :=
 ⟨⟨qZC H.lt.1 hl.next,qQG H.lt.2 hl.next⟩,(hl.get _ H.lt.2).trans H.get,H.len,λk v s hv hs=>(H.slot k v s hv hs).frame hl.next λb hb=>hl.get b (H.low k v b hv hb).2.1,H.JA,λk v b hv hb=>by
   have:=H.low k v b hv hb;exact⟨this.1,qQG this.2.1 hl.next,this.2.2⟩⟩
def sP.cell (H:sP n0 sb h cs S){k:Nat}{s:Slot}(hs:S[k]?=some s):∃v,cs[k]?=some v/\qW h v s/\aN h sb k=some v:=by
 obtain⟨v,hv⟩:∃v,cs[k]?=some v:=⟨_,qQW (by rw[H.len];exact(qQZ.1 hs).1)⟩;exact⟨v,hv,H.slot k v s hv hs,by rw[aq H.get];exact hv⟩
def sP.qat (H:sP n0 sb h cs S){k:Nat}{l:List dE}(hs:S[k]?=some (.wait l)):∃v,cs[k]?=some v/\QG h sb k v l:=by
 obtain⟨v,hv,hq,hl⟩:=H.cell hs;exact⟨v,hv,hl,H.lt.2,λhb=>(H.low k v sb hv hb).2.2 rfl,hq⟩
def ow {α:Type}{l:List α}{k j:Nat}{x y:α}(h:(l.set k x)[j]?=some y):(j=k/\y=x)\/(j≠k/\l[j]?=some y):=by
 by_cases e:j=k
 .subst e;left;have:=(qQZ.1 h).1;rw[qKZ]at this;rw[qJQ this]at h;exact⟨rfl,(qKK h).symm⟩
 .exact .inr ⟨e,by rwa [qQH (Ne.symm e)]at h⟩
def sP.mod (H:sP n0 sb h cs S){k:Nat}{v:ae}{s:Slot}(hv:cs[k]?=some v)(M:nz v h h')(Q:qW h' v s):sP n0 sb h' cs (S.set k s)/\yx sb h cs h' cs:=by
 refine⟨⟨⟨qZC H.lt.1 M.next,qQG H.lt.2 M.next⟩,(M.get _ H.lt.2 λhb=>(H.low k v sb hv hb).2.2 rfl).trans H.get,by rw[qKZ];exact H.len,λj w t hw ht=>?_,H.JA,λj w b hw hb=>?_⟩,M.next,λb hb ho=>M.get b hb λiB=>ho (.inr ⟨k,v,hv,iB⟩),λ_ _ ho=>ho⟩
 .rcases ow ht with⟨rfl,rfl⟩|⟨dV,ht⟩
  .rw[hv]at hw;cases hw;exact Q
  .exact(H.slot j w t hw ht).frame M.next λb hb=>M.get b (H.low j w b hw hb).2.1 λiB=>dV (H.JA j k w v b hw hv hb iB)
 .have:=H.low j w b hw hb;exact⟨this.1,qQG this.2.1 M.next,this.2.2⟩
def sP.store (H:sP n0 sb h cs S){k:Nat}{v v':ae}{s:Slot}{h1:aa}(hv:cs[k]?=some v)(M:nz v h h1)(Q:qW h1 v' s)(hb:∀b,aM v' b->(aM v b\/h.next<=b)/\b<h1.next) :
 putAt h1 sb k 1 [v']=some (h1.put sb (.cells (cs.set k v') 182))/\sP n0 sb (h1.put sb (.cells (cs.set k v') 182)) (cs.set k v') (S.set k s)/\yx sb h cs (h1.put sb (.cells (cs.set k v') 182)) (cs.set k v'):=by
 have ZI:=(qQZ.1 hv).1;have ZY:¬aM v sb:=λhb=>(H.low k v sb hv hb).2.2 rfl;have hg1:h1.get sb=some (.cells cs 182):=(M.get _ H.lt.2 ZY).trans H.get;have Qk:=H.lt.2;have hn:=H.lt.1;have hM:=M.next
 have vC:∀b,aM v' b->b≠sb/\n0<=b:=λb iB=>by
  rcases(hb b iB).1 with h2|h2
  .have:=H.low k v b hv h2;exact⟨this.2.2,this.1⟩
  .exact⟨by omega,by omega⟩
 have hold:∀(j:Nat)(w:ae)(b:Nat),j≠k->cs[j]?=some w->aM w b->¬aM v' b:=λj w b hj hw Vt vD=>by
  rcases(hb b vD).1 with h2|h2
  .exact hj (H.JA j k w v b hw hv Vt h2)
  .have:=H.low j w b hw Vt;omega
 refine⟨by rw[aD (n:=1) hg1 rfl (by omega),bW],⟨⟨by show n0<=h1.next;omega,by show sb<h1.next;omega⟩,aa.aj _ _ _,by rw[qKZ,qKZ];exact H.len,λj w t hw ht=>?_,λi j u w b hi hj hu hw=>?_,λj w b hw Vt=>?_⟩,⟨by show h.next<=h1.next;omega,λb JR ho=>?_,λb JR ho=>?_⟩⟩
 .rcases ow hw with⟨rfl,rfl⟩|⟨dV,hw⟩
  .rcases ow ht with⟨_,rfl⟩|⟨dV,_⟩
   .exact Q.frame (qQY _) λb iB=>aa.ah _ _ (Ne.symm (vC b iB).1)
   .exact absurd rfl dV
  .rcases ow ht with⟨e,_⟩|⟨_,ht⟩
   .exact absurd e dV
   .refine(H.slot j w t hw ht).frame hM λb iB=>(aa.ah _ _ (Ne.symm (H.low j w b hw iB).2.2)).trans (M.get b (H.low j w b hw iB).2.1 λvD=>dV (H.JA j k w v b hw hv iB vD))
 .rcases ow hi with⟨ei,eu⟩|⟨Ol,tJ⟩<;>rcases ow hj with⟨ej,ew⟩|⟨hnj,Te⟩
  .rw[ei,ej]
  .exact(hold j w b hnj Te hw (eu▸hu)).elim
  .exact(hold i u b Ol tJ hu (ew▸hw)).elim
  .exact H.JA i j u w b tJ Te hu hw
 .rcases ow hw with⟨rfl,rfl⟩|⟨dV,hw⟩
  .exact⟨(vC b Vt).2,(hb b Vt).2,(vC b Vt).1⟩
  .have:=H.low j w b hw Vt;exact⟨this.1,by show b<h1.next;omega,this.2.2⟩
 .exact(aa.ah _ _ λe=>ho (.inl e.symm)).trans (M.get b JR λvD=>ho (.inr ⟨k,v,hv,vD⟩))
 .rcases ho with rfl|⟨j,w,hw,Vt⟩
  .exact .inl rfl
  .rcases ow hw with⟨rfl,rfl⟩|⟨dV,hw⟩
   .rcases(hb b Vt).1 with h2|h2
    .exact .inr ⟨_,v,hv,h2⟩
    .omega
   .exact .inr ⟨j,w,hw,Vt⟩
end
def QO {s x:ae}{l:List dE}{y:dE}{h:aa}{K:ae->aa->Prop}(H:pk h s l)(hs:fS h 4 x=some (1,dc y))(uo:l.length+1<=100000000)
 (hK:∀v' h',pk h' v' (l++[y])->h'.next=h.next+1->(∀c,c<h.next->¬aM s c->h'.get c=h.get c)->(∀b,aM v' b->b=h.next)->K v' h'):uX 186 4 s x h K:=by
 unfold uX I.append;have e1:aJ (.c x) .nil=x:=rfl;have e2:aJ (.c s) .nil=s:=rfl;rw[e1,e2,hs]
 have DQ:∀(n c:Nat)(b:Nat),aM (.slice h.next 0 n c false) b->b=h.next:=λn c b hb=>by
  obtain⟨_,_,_,_,e⟩:=hb;cases e;rfl
 rcases H with⟨rfl,rfl⟩|⟨b,c,rest,rfl,hb,hg,hc⟩
 .show cR (aO (Nat.ble 1 1073741824) (some (ae.slice h.next 0 1 1 false,h.push (.cells (dc y) 186))) none) _;rw[bq,if_pos (by simp)];exact hK _ _ (.inr ⟨h.next,1,[],rfl,by simp[aa.bI],by simpa using aa.ai _ _,by simp⟩) rfl (λc hc _=>aa.aA _ _ (by omega)) (DQ _ _)
 .have ic:((l.map dc).flatten).length=l.length*4:=by rw[eH (py l),qQD]
  show cR (eJ (h.get b) λfL e own=>aO (and (Nat.ble (Nat.add l.length 1) 1073741824) (and (Nat.ble (Nat.add 0 (Nat.mul l.length 4)) (cJ fL)) (yk own (bD (Nat.mul l.length 4) (bG 0 fL)))))
   (aO (and own (and (Nat.beq e 186) (Nat.beq (Nat.mod 0 4) 0))) (some (ae.slice h.next 0 (Nat.add l.length 1) (Nat.add l.length 1) false,(h.put b .dead).push (.cells (gd (bD (Nat.mul l.length 4) (bG 0 fL)) (dc y)) 186))) none) none) _
  rw[hg]
  show cR (aO (and (Nat.ble (Nat.add l.length 1) 1073741824) (and (Nat.ble (Nat.add 0 (Nat.mul l.length 4)) (cJ ((l.map dc).flatten++rest))) true))
   (aO (and true (and (Nat.beq 186 186) (Nat.beq (Nat.mod 0 4) 0))) (some (ae.slice h.next 0 (Nat.add l.length 1) (Nat.add l.length 1) false,(h.put b .dead).push (.cells (gd (bD (Nat.mul l.length 4) (bG 0 ((l.map dc).flatten++rest))) (dc y)) 186))) none) none) _
  rw[bq,if_pos (by
   simp only[qZQ,qZB,bV,and_true];exact⟨by show l.length+1<=_;omega,by show 0+l.length*4<=_;rw[qQM];omega⟩),bq,if_pos (by decide)]
  have e3:gd (bD (Nat.mul l.length 4) (bG 0 ((l.map dc).flatten++rest))) (dc y)=(((l++[y]).map dc).flatten++[]):=by
   rw[gQ,cW,df];have:Nat.mul l.length 4=((l.map dc).flatten).length:=ic.symm;rw[this,List.drop_zero,List.take_left];simp
  rw[e3];refine hK _ _ (.inr ⟨h.next,l.length+1,[],by simp,by simp[aa.bI,aa.eT],aa.ai _ _,by simp⟩) rfl (λc hc ZY=>?_) (DQ _ _);rw[aa.aA _ _ (by simp[aa.eT];omega),aa.ah];rintro rfl;exact ZY ⟨0,_,_,false,rfl⟩
def asV (t:TypeId)(z:ae)(ok:Bool)(v:ae)(h:aa)(K:ae->aa->Prop):Prop:=cR (I.assert t z ok (.c v) .nil h) λr=>K r.1 r.2
def pW {E:Env}{fr:Fr}{h:aa}{K:ae->aa->Prop}{t:TypeId}{z:ae}{ok:Bool}{x:au}:wo E (.assert t z ok x) fr h K=asV t z ok (aJ x fr) h K:=aL
def rH {h:aa}{K:ae->aa->Prop}{z v:ae}(t:TypeId):asV t z false (.iface t v) h K=K v h:=by
 unfold asV I.assert;show cR (aO (Nat.beq t t) (some (aO false (.eC [v,.bool true]) v,h)) (aO false (some (.eC [z,.bool false],h)) none)) _=_;rw[show Nat.beq t t=true from Nat.beq_refl t];rfl
def MD (elem:TypeId)(size:Nat)(v u:ae)(h:aa)(K:ae->aa->Prop):Prop:=cR (I.qR elem size (.c v) none (some (.c u)) none .nil h) λr=>K r.1 r.2
def wB {E:Env}{fr:Fr}{h:aa}{K:ae->aa->Prop}{elem:TypeId}{size:Nat}{x u:au}:wo E (.qR elem size x none (some u) none) fr h K=MD elem size (aJ x fr) (aJ u fr) h K:=aL
def UO {elem:TypeId}{size b n c m:Nat}{h:aa}{K:ae->aa->Prop}(hm:m<=c):MD elem size (.slice b 0 n c false) (.int .i64 (m:Int)) h K=K (.slice b 0 m c false) h:=by
 have e:I.qR elem size (.c (.slice b 0 n c false)) none (some (.c (.int .i64 (m:Int)))) none .nil h=some (.slice b 0 m c false,h):=by
  show ob (dA none c c) (λmm=>ob (dA (some (.int .i64 (m:Int))) n mm) λu=>ob (dA none 0 u) λl =>
   ob (aO (or (or false false) (Nat.beq l 0)) (some true) (eJ (h.get b) λ_ e _=>aO (Nat.beq e elem) (some true) none)) λ_=>some (ae.slice b (Nat.add 0 (Nat.mul l size)) (Nat.sub u l) (Nat.sub mm l) (or false false),h))=_
  have e2:dA (some (.int .i64 (m:Int))) n c=some m:=by show aO (Nat.ble m c) (some m) none=_;rw[bq,if_pos (by simpa using hm)]
  show ob (dA (some (.int .i64 (m:Int))) n c) _=_;rw[e2];show some (ae.slice b (0+0*size) (m-0) (c-0) false,h)=_;simp
 unfold MD;rw[e];rfl
attribute [local go_sem] pW rH wB
section
variable{n0 sb:Nat}{h:aa}{cs:List ae}{S:List Slot}
def Yt (H:sP n0 sb h cs S){k:Nat}{l:List dE}(hk:S[k]?=some (.wait l))(hm:l.length+1<=100000000)(y:dE) :
 Ec E2 181 [.ptr sb k,.iface 186 (.agg (dc y))] h λ_ h'=>∃oz,sP n0 sb h' oz (S.set k (.wait (l++[y])))/\yx sb h cs h' oz:=by
 obtain⟨v,hv,hq⟩:=H.qat hk;have hl:=hq.ld;have hn:=H.lt;refine Ec.bu (aI (by decide)) Nr ?_;unfold RW dc;simp only[go_sem,Nat.reduceEqDiff,Nat.reduceAdd,reduceCtorEq,hl];have hle:aU h (aa.put ⟨h.next+10,(h.skip 10).t⟩ (h.next+6) (.cells [.str y.t,.int .i64 y.c,.int .i64 y.uM,.int .i64 y.ng] 186)):=((aU.refl h).skip 10).put (by omega) _;have g2:(aa.put ⟨h.next+10,(h.skip 10).t⟩ (h.next+6) (.cells [.str y.t,.int .i64 y.c,.int .i64 y.uM,.int .i64 y.ng] 186)).get (h.next+6)=some (.cells (dc y) 186):=aa.aj _ _ _;have n2:(aa.put ⟨h.next+10,(h.skip 10).t⟩ (h.next+6) (.cells [.str y.t,.int .i64 y.c,.int .i64 y.uM,.int .i64 y.ng] 186)).next=h.next+10:=rfl;generalize (aa.put ⟨h.next+10,(h.skip 10).t⟩ (h.next+6) (.cells [.str y.t,.int .i64 y.c,.int .i64 y.uM,.int .i64 y.ng] 186))=h2 at hle g2 n2 ⊢;have qu:cg h2 4 (.slice (h.next+6) 0 1 1 true) [dc y]:=⟨by simp[dc],.inr ⟨_,_,_,_,rfl,.inr (by simpa using fP.ed (by omega) g2 (by simp[dc,ae.flat]))⟩⟩;refine QO (hq.hle hle).q (by simpa using fG qu (by simp)) hm λv' h3 Q3 uQ lZ yE=>?_;have M:nz v h h3:=⟨by omega,λb hb vD=>(lZ b (by omega) vD).trans (hle.get b hb)⟩;obtain⟨p1,p2,p3⟩:=H.store (s:=.wait (l++[y])) hv M Q3 (λb hb=>by have:=yE b hb;exact⟨.inr (by omega),by omega⟩);have cf:v'.flat=true:=qW.flat (s:=.wait (l++[y])) Q3;simp only[go_sem,Nat.reduceEqDiff,reduceCtorEq,bM cf,p1];exact⟨_,p2,p3⟩
def HX {α:Type}(l:List α)(k:Nat)(x y:α):(l.set k x).set k y=l.set k y:=by
 apply qJF ;intro i;by_cases e:i=k
 .subst e;by_cases h:i<l.length
  .rw[qJQ (by simpa using h),qJQ h]
  .rw[qJL (by simp;omega),qJL (by simp;omega)]
 .rw[qQH (Ne.symm e),qQH (Ne.symm e),qQH (Ne.symm e)]
def LU (H:sP n0 sb h cs S){k:Nat}{l:List dE}(hk:S[k]?=some (.wait l))(hm:l.length+1<=100000000)(y:dE) :
 Ec E2 73 [.iface 184 (.ptr sb k),.iface 186 (.agg (dc y))] h λ_ h'=>∃oz,sP n0 sb h' oz (S.set k (.wait (tQ l y)))/\yx sb h cs h' oz:=by
 refine Ec.bu (aI (by decide)) Nl ?_;unfold Rq;simp only[go_sem,Nat.reduceEqDiff,Nat.reduceAdd,reduceCtorEq];refine TH Ko ((Yt H hk hm y).mono ?_);rintro r h2 ⟨cs2,H2,F2⟩;have hk2:(S.set k (.wait (l++[y])))[k]?=some (.wait (l++[y])):=qJQ (qQZ.1 hk).1;obtain⟨v,hv,hq⟩:=H2.qat hk2
 have hw:IntKind.i64.wrap (((l++[y]).length:Int)-1)=(l.length:Int):=by
  have:(((l++[y]).length:Nat):Int)=(l.length:Int)+1:=by simp
  rw[this,wrap_i64 (by omega) (by omega)];omega
 simp only[go_sem,Nat.reduceEqDiff,reduceCtorEq];refine rh CT hq.ld ((KW hq.q.len).mono ?_);rintro r h3 ⟨rfl,rfl⟩;simp only[go_sem,Nat.reduceEqDiff,reduceCtorEq,hw];refine⟨by decide,?_⟩;refine(amz hq (j:=l.length) (by simp) (by simp;omega)).mono ?_;rintro r h4 ⟨Q4,M4⟩;obtain⟨H4,F4⟩:=H2.mod (s:=.wait (tQ l y)) hv M4 Q4;rw[HX] at H4;simp only[go_sem];exact⟨cs2,H4,F2.trans F4⟩
def adk (H:sP n0 sb h cs S){k:Nat}{l:List dE}{y:dE}(hk:S[k]?=some (.wait (l++[y])))(hm:l.length<=100000000) :
 Ec E2 180 [.ptr sb k] h λr h'=>r=.iface 186 (.agg (dc y))/\∃oz,sP n0 sb h' oz (S.set k (.wait l))/\yx sb h cs h' oz:=by
 obtain⟨v,hv,hq⟩:=H.qat hk;have hl:=hq.ld;have hn:=H.lt;obtain⟨b,o,r1,i1⟩:=hq.q.sl.ix (j:=l.length) (x:=dc y) (by rw[qQX];simp);have l1:eI h b o 4=some [.str y.t,.int .i64 y.c,.int .i64 y.uM,.int .i64 y.ng]:=by simpa[dc] using r1.eI (i:=0) (n:=4) (by simp[dc])
 have hlen:=hq.q.len
 have hw:IntKind.i64.wrap (((l++[y]).length:Int)-1)=(l.length:Int):=by
  have:(((l++[y]).length:Nat):Int)=(l.length:Int)+1:=by simp
  rw[this,wrap_i64 (by omega) (by omega)];omega
 refine Ec.bu (aI (by decide)) RN ?_;unfold Zo;simp only[go_sem,Nat.reduceEqDiff,Nat.reduceAdd,reduceCtorEq,hl,hlen,hw,i1 _ _ _ _ rfl,l1];have hle:aU h (h.push (.cells [.str y.t,.int .i64 y.c,.int .i64 y.uM,.int .i64 y.ng] 186)):=(aU.refl h).push _;have g2:(h.push (.cells [.str y.t,.int .i64 y.c,.int .i64 y.uM,.int .i64 y.ng] 186)).get h.next=some (.cells [.str y.t,.int .i64 y.c,.int .i64 y.uM,.int .i64 y.ng] 186):=aa.ai _ _;have n2:(h.push (.cells [.str y.t,.int .i64 y.c,.int .i64 y.uM,.int .i64 y.ng] 186)).next=h.next+1:=rfl;generalize (h.push (.cells [.str y.t,.int .i64 y.c,.int .i64 y.uM,.int .i64 y.ng] 186))=h2 at hle g2 n2 ⊢;have Q2:=(hq.hle hle).q;rcases Q2 with⟨_,e⟩|⟨b',c,rest,rfl,hb,hg,hc⟩
 .simp at e
 have ku:l.length<=c:=by simp at hc;omega
 have y7:∀h' (K:ae->aa->Prop),MD 186 4 (.slice b' 0 (l++[y]).length c false) (.int .i64 (l.length:Int)) h' K=K (.slice b' 0 l.length c false) h':=λh' K=>UO ku;have Q3:pk h2 (.slice b' 0 l.length c false) l:=.inr ⟨b',c,dc y++rest,rfl,hb,by rw[hg];simp,ku⟩;obtain⟨p1,p2,p3⟩:=H.store (s:=.wait l) (h1:=h2) hv (.of hle) Q3 (λx hx=>by obtain⟨_,_,_,_,e⟩:=hx;cases e;exact⟨.inl ⟨_,_,_,_,rfl⟩,hb⟩);have cf:fh (.slice b' 0 l.length c false)=some [.slice b' 0 l.length c false]:=bM rfl
 have l4:eI (h2.put sb (.cells (cs.set k (.slice b' 0 l.length c false)) 182)) h.next 0 4=some [.str y.t,.int .i64 y.c,.int .i64 y.uM,.int .i64 y.ng]:=by
  rw[bX ((aa.ah _ _ (by omega)).trans g2) (by simp)];rfl
 simp only[go_sem,Nat.reduceEqDiff,reduceCtorEq,y7,cf,p1,l4];exact⟨rfl,_,p2,p3⟩
end
section
variable{n0 sb:Nat}{h:aa}{cs:List ae}{S:List Slot}
def abE (H:sP n0 sb h cs S){k:Nat}{l:List dE}(hk:S[k]?=some (.wait l))(dV:l≠[])(hm:l.length<=100000000) :
 Ec E2 76 [.iface 184 (.ptr sb k)] h λr h'=>∃l' y,Bb l=l'++[y]/\r=.iface 186 (.agg (dc y))/\∃oz,sP n0 sb h' oz (S.set k (.wait l'))/\yx sb h cs h' oz:=by
 obtain⟨v,hv,hq⟩:=H.qat hk;have hlen:=hq.q.len;have DY:=qVA.2 dV;have ZI:=(qQZ.1 hk).1;have hw:IntKind.i64.wrap ((l.length:Int)-1)=((l.length-1:Nat):Int):=by rw[wrap_i64 (by omega) (by omega)];omega
 obtain⟨l',y,hp⟩:∃l' y,Bb l=l'++[y]:=by
  have B5:=v8 l;have:Bb l≠[]:=λe=>by rw[e] at B5;simp at B5;omega
  exact⟨_,_,(List.dropLast_concat_getLast this).symm⟩
 refine Ec.bu (aI (by decide)) RH ?_;unfold Zg;simp only[go_sem,Nat.reduceEqDiff,reduceCtorEq];refine rh CT hq.ld ((KW hlen).mono ?_);rintro r h2 ⟨rfl,rfl⟩;simp only[go_sem,Nat.reduceEqDiff,reduceCtorEq,hw];refine rh mV hq.ld ((wh hq.q (i:=0) (j:=l.length-1) (by omega) (by omega)).mono ?_);rintro r h3 ⟨Q3,M3⟩;have q3:=hq.mod M3 Q3;simp only[go_sem,Nat.reduceEqDiff,reduceCtorEq];refine⟨by decide,?_⟩;refine(abd q3 (n:=l.length-1) (by rw[jq];omega) (by rw[jq];omega)).mono ?_;rintro r h4 ⟨Q4,M4⟩;have Xx:Bb l=kD (sJ l 0 (l.length-1)) 0 (l.length-1):=rfl;rw[<-Xx,hp] at Q4;obtain⟨H4,F4⟩:=H.mod (s:=.wait (l'++[y])) hv (M3.trans M4) Q4;have hk4:(S.set k (.wait (l'++[y])))[k]?=some (.wait (l'++[y])):=qJQ ZI;have pf:l'.length+1=l.length:=by have:=v8 l;rw[hp]at this;simpa using this
 simp only[go_sem,Nat.reduceEqDiff,reduceCtorEq];refine TH OR ((adk H4 hk4 (by omega)).mono ?_);rintro r h5 ⟨rfl,cs5,H5,F5⟩;rw[HX] at H5;simp only[go_sem,Nat.reduceEqDiff,reduceCtorEq];exact⟨l',y,hp,rfl,cs5,H5,F4.trans F5⟩
end
structure ze (ns:List aw):Prop where
 pos:0<ns.length
 to:∃rk:Nat->Nat,(∀i,rk i<=1000000)/\∀i x e,ns[i]?=some x->e∈x.ak->e.to<ns.length/\rk e.to<rk i
 nq:∀x,x∈ns->x.ak.Pairwise (λx y=>x.letter<y.letter)
 lt:∀x e,x∈ns->e∈x.ak->Ap e.letter=true
 fin:∀x,x∈ns->-1<=x.fin/\x.fin<=1099511627776
 cost:∀x e,x∈ns->e∈x.ak->0<=e.cost/\e.cost<=1099511627776
 live:∀x,x∈ns->0<=x.fin\/x.ak≠[]
 reach:∀i,i<ns.length->∃u k,eK ns u 0=some (i,k)
def vV {ns:List aw}{i:Nat}{x:aw}(hx:ns[i]?=some x)(ha:x.ak.Pairwise (λx y=>x.letter<y.letter)){lo:Nat->Int}(y6:∀e,e∈x.ak->ft (aF ns e.to) (lo e.to)){m:Int}
 (hf:0<=x.fin->m<=x.fin) (he:∀e,e∈x.ak->m<=e.cost+lo e.to) (B3:(0<=x.fin/\m=x.fin)\/∃e,e∈x.ak/\m=e.cost+lo e.to):ft (aF ns i) m:=by
 have h0:aF ns i []=if 0<=x.fin then some x.fin else none:=by
  show(ns[i]?).bind _=_;rw[hx];rfl
 refine⟨?_,λs k hs=>?_⟩
 .rcases B3 with⟨h1,rfl⟩|⟨e,h1,rfl⟩
  .exact⟨[],by rw[h0,if_pos h1]⟩
  .obtain⟨s,hs⟩:=(y6 e h1).1;refine⟨e.letter :: s,?_⟩;show(dC ns i e.letter).bind _=_;rw[iF hx ha h1];show(cF ns s e.to).map _=_;rw[show cF ns s e.to=some (lo e.to) from hs];simp;omega
 .cases s with
  |nil =>
   rw[h0]at hs;split at hs
   .cases hs;exact hf ‹_›
   .cases hs
  |cons a s =>
   have hs:(dC ns i a).bind (λe=>(cF ns s e.to).map (·+e.cost))=some k:=hs;rw[qQQ]at hs;obtain⟨e,h1,hs⟩:=hs;rw[qQC]at hs;obtain⟨j,hj,rfl⟩:=hs;obtain⟨y,hy,hm,_⟩:=eo h1;rw[hx]at hy;cases hy;have:=(y6 e hm).2 s j hj;have:=he e hm;omega
def zT {ns:List aw}{i:Nat}{x:aw}(hx:ns[i]?=some x)(ha:x.ak.Pairwise (λx y=>x.letter<y.letter)){dp:Nat->Nat}(GA:∀e,e∈x.ak->iI (aF ns e.to) (dp e.to)){d:Nat}
 (he:∀e,e∈x.ak->dp e.to+1<=d) (B3:(0<=x.fin/\d=0)\/∃e,e∈x.ak/\d=dp e.to+1):iI (aF ns i) d:=by
 have h0:aF ns i []=if 0<=x.fin then some x.fin else none:=by
  show(ns[i]?).bind _=_;rw[hx];rfl
 refine⟨?_,λs k hs=>?_⟩
 .rcases B3 with⟨h1,rfl⟩|⟨e,h1,rfl⟩
  .exact⟨[],x.fin,by rw[h0,if_pos h1],rfl⟩
  .obtain⟨s,k,hs,hl⟩:=(GA e h1).1;refine⟨e.letter :: s,k+e.cost,?_,by simp[hl]⟩;show(dC ns i e.letter).bind _=_;rw[iF hx ha h1];show(cF ns s e.to).map _=_;rw[show cF ns s e.to=some k from hs];rfl
 .cases s with
  |nil=>exact qZH _
  |cons a s =>
   have hs:(dC ns i a).bind (λe=>(cF ns s e.to).map (·+e.cost))=some k:=hs;rw[qQQ]at hs;obtain⟨e,h1,hs⟩:=hs;rw[qQC]at hs;obtain⟨j,hj,rfl⟩:=hs;obtain⟨y,hy,hm,_⟩:=eo h1;rw[hx]at hy;cases hy;have:=(GA e hm).2 s j hj;have:=he e hm;simp only[qZK];omega
def cK (cls:Nat->Nat)(lo:Nat->Int)(off:Int)(x:aw):aw:=⟨x.ak.map λe=>⟨e.letter,cls e.to,e.cost+lo e.to-off⟩,if 0<=x.fin then x.fin-off else -1⟩
def yD {l:List cI}{g:cI->cI}(hg:∀e,(g e).letter=e.letter)(a:Nat):((l.map g).find? λe=>decide (e.letter=a))=(l.find? λe=>decide (e.letter=a)).map g:=by
 induction l with
 |nil=>rfl
 |cons x l ih =>
  rw[qZW,List.find?_cons,List.find?_cons,hg];cases decide (x.letter=a) with
  |true=>rfl
  |false=>exact ih
def uF {ns M:List aw}{cls:Nat->Nat}{lo:Nat->Int}{off:Int}{i c:Nat}{x:aw}(hx:ns[i]?=some x)(hc:M[c]?=some (cK cls lo off x))(sd:0<=x.fin->off<=x.fin)
 (kM:∀e,e∈x.ak->aF M (cls e.to)=na (aF ns e.to) (lo e.to)):aF M c=na (aF ns i) off:=by
 funext s;cases s with
 |nil =>
  show(M[c]?).bind _=((ns[i]?).bind _).map _;rw[hc,hx];show(if 0<=(if 0<=x.fin then x.fin-off else -1) then some (if 0<=x.fin then x.fin-off else -1) else none)=(if 0<=x.fin then some x.fin else none).map (·-off);by_cases h:0<=x.fin
  .have:=sd h;rw[if_pos h,if_pos (by omega),if_pos h];rfl
  .rw[if_neg h,if_neg (by omega),if_neg h];rfl
 |cons a s =>
  show(dC M c a).bind _=((dC ns i a).bind _).map _
  have e1:dC M c a=(dC ns i a).map λe=>⟨e.letter,cls e.to,e.cost+lo e.to-off⟩:=by
   unfold dC;rw[hc,hx];exact yD (g:=λe=>⟨e.letter,cls e.to,e.cost+lo e.to-off⟩) (λe=>rfl) a
  rw[e1];cases hs:dC ns i a with
  |none=>rfl
  |some e =>
   obtain⟨y,hy,hm,_⟩:=eo hs;rw[hx]at hy;cases hy;have:=congrFun (kM e hm) s;have:cF M s (cls e.to)=(cF ns s e.to).map (·-lo e.to):=this;show(cF M s (cls e.to)).map _=((cF ns s e.to).map _).map _;rw[this];cases cF ns s e.to with
   |none=>rfl
   |some k=>simp;omega
structure MI (ns M:List aw)(cls:Nat->Nat)(S:Nat->Prop)(lo:Nat->Int):Prop where
 low:Fk M
 nq:∀x,x∈M->x.ak.Pairwise (λx y=>x.letter<y.letter)
 fin:∀x,x∈M->-1<=x.fin
 cl:∀i,S i->cls i<M.length/\aF M (cls i)=na (aF ns i) (lo i)
 all:∀c,c<M.length->∃i,S i/\cls i=c
 lo:∀i,S i->ft (aF ns i) (lo i)
 inj:∀c d,c<M.length->d<M.length->aF M c=aF M d->c=d
def MI.norm {ns M:List aw}{cls:Nat->Nat}{S:Nat->Prop}{lo:Nat->Int}(H:MI ns M cls S lo){c:Nat}(hc:c<M.length):ft (aF M c) 0:=by
 obtain⟨i,hi,rfl⟩:=H.all c hc;rw[(H.cl i hi).2];have:=(H.lo i hi).na (k:=lo i)
 rwa [show lo i-lo i=0 by omega]at this
def MI.nil (ns:List aw)(cls:Nat->Nat)(lo:Nat->Int):MI ns [] cls (λ_=>False) lo:=⟨λc x e h=>(by simp at h),λx h=>(by cases h),λx h=>(by cases h),λi h=>h.elim,λc h=>(by simp at h),λi h=>h.elim,λc d h=>(by simp at h)⟩
def Ue {M:List aw}{n c d:Nat}{y z:aw}(hy:M[c]?=some y)(hz:M[d]?=some z)(ay:y.ak.Pairwise (λx y=>x.letter<y.letter))(az:z.ak.Pairwise (λx y=>x.letter<y.letter))
 (fy:-1<=y.fin) (fz:-1<=z.fin) (ty:∀e,e∈y.ak->e.to<n) (tz:∀e,e∈z.ak->e.to<n) (ZZ:∀k,k<n->ft (aF M k) 0) (abU:∀k l,k<n->l<n->aF M k=aF M l->k=l)
 (h:aF M c=aF M d):y=z:=by
 have half:∀{c d:Nat}{y z:aw},M[c]?=some y->M[d]?=some z->y.ak.Pairwise (λx y=>x.letter<y.letter)->(∀e,e∈y.ak->e.to<n)->(∀e,e∈z.ak->e.to<n)->aF M c=aF M d->∀e,e∈y.ak->e∈z.ak:=by
  intro c d y z hy hz ay ty tz h e he;have hs:=iF hy ay he;have hd:(aF M c).BC e.letter=(aF M d).BC e.letter:=by rw[h]
  rw[mH hs]at hd;have hm:=(ZZ e.to (ty e he)).na (k:=-e.cost);cases qx:dC M d e.letter with
  |none =>
   obtain⟨s,hx⟩:=hm.1;rw[hd,zU qx]at hx;cases hx
  |some e2 =>
   obtain⟨z',hz',wE,Ad⟩:=eo qx;rw[hz]at hz';cases hz';rw[mH qx]at hd;have hm2:=(ZZ e2.to (tz e2 wE)).na (k:=-e2.cost);rw[hd]at hm;have kE:=hm.uniq hm2;have Vu:e.cost=e2.cost:=by omega
   rw[Vu]at hd;have:=abU _ _ (ty e he) (tz e2 wE) (Yp hd)
   have:e=e2:=by
    cases e;cases e2;simp only at Ad this Vu;rw[Ad,this,Vu]
   rw[this];exact wE
 have hE:y.ak=z.ak:=pU (r:=λ(x y:cI)=>x.letter<y.letter) (λx y h g=>by omega) ay az λe=>⟨half hy hz ay ty tz h e,half hz hy az tz ty h.symm e⟩
 have hF:y.fin=z.fin:=by
  have h0:=congrFun h []
  have h1:aF M c []=if 0<=y.fin then some y.fin else none:=by
   show(M[c]?).bind _=_;rw[hy];rfl
  have h2:aF M d []=if 0<=z.fin then some z.fin else none:=by
   show(M[d]?).bind _=_;rw[hz];rfl
  rw[h1,h2]at h0;by_cases g1:0<=y.fin<;>by_cases g2:0<=z.fin<;>simp[g1,g2]at h0<;>omega
 cases y;cases z;simp only at hE hF;rw[hE,hF]
def EY (f:Nat->Nat)(i c:Nat):Nat->Nat:=λj=>if j=i then c else f j
def kR (f:Nat->Nat)(i c:Nat):EY f i c i=c:=if_pos rfl
def wy (f:Nat->Nat){i c j:Nat}(h:j≠i):EY f i c j=f j:=if_neg h
section
variable{ns M:List aw}{cls:Nat->Nat}{S:Nat->Prop}{lo:Nat->Int}
def xI {off:Int}{x:aw}(h:x.ak.Pairwise (λx y=>x.letter<y.letter)):(cK cls lo off x).ak.Pairwise (λx y=>x.letter<y.letter):=by
 show(x.ak.map _).Pairwise _;rw[qKB];exact h
def CY {off:Int}{x:aw}(h:0<=x.fin->off<=x.fin):-1<=(cK cls lo off x).fin:=by
 show -1<=(if 0<=x.fin then x.fin-off else -1);by_cases h0:0<=x.fin
 .have:=h h0;rw[if_pos h0];omega
 .rw[if_neg h0];omega
def HK {off:Int}{x:aw}{n:Nat}(h:∀e,e∈x.ak->cls e.to<n):∀e,e∈(cK cls lo off x).ak->e.to<n:=by
 intro e he;obtain⟨e0,h0,rfl⟩:=qQB.1 he;exact h e0 h0
def vU {i:Nat}{x:aw}{m:Int}(hx:ns[i]?=some x)(hm:ft (aF ns i) m)(h:0<=x.fin):m<=x.fin:=by
 refine hm.2 [] x.fin ?_;show(ns[i]?).bind _=_;rw[hx];exact if_pos h
def MI.fL (H:MI ns M cls S lo){i c:Nat}{x:aw}(hx:ns[i]?=some x)(hS:∀e,e∈x.ak->S e.to)(hm:ft (aF ns i) (lo i))(hc:M[c]?=some (cK cls lo (lo i) x)):MI ns M (EY cls i c) (λj=>S j\/j=i) lo:=by
 have hl:=uF hx hc (vU hx hm) λe he=>(H.cl e.to (hS e he)).2
 have kM:∀j,S j\/j=i->EY cls i c j<M.length/\aF M (EY cls i c j)=na (aF ns j) (lo j):=by
  intro j hj;by_cases e:j=i
  .subst e;rw[kR];exact⟨(qQZ.1 hc).1,hl⟩
  .rw[wy _ e];rcases hj with hj|hj
   .exact H.cl j hj
   .exact absurd hj e
 refine⟨H.low,H.nq,H.fin,kM,λd hd=>?_,λj hj=>?_,H.inj⟩
 .obtain⟨j,hj,e⟩:=H.all d hd;refine⟨j,.inl hj,?_⟩;have h1:=kM j (.inl hj);have h2:=H.cl j hj;exact(H.inj _ _ h1.1 h2.1 (h1.2.trans h2.2.symm)).trans e
 .rcases hj with hj|rfl
  .exact H.lo j hj
  .exact hm
def MI.new (H:MI ns M cls S lo){i:Nat}{x:aw}(hx:ns[i]?=some x)(ha:x.ak.Pairwise (λx y=>x.letter<y.letter))(hS:∀e,e∈x.ak->S e.to)(hi:¬S i)(hm:ft (aF ns i) (lo i))(hc:cK cls lo (lo i) x∉M) :
 MI ns (M++[cK cls lo (lo i) x]) (EY cls i M.length) (λj=>S j\/j=i) lo:=by
 have rq:∀e,e∈(cK cls lo (lo i) x).ak->e.to<M.length:=HK λe he=>(H.cl e.to (hS e he)).1;have mL:(cK cls lo (lo i) x).ak.Pairwise (λx y=>x.letter<y.letter):=xI ha;have gW:-1<=(cK cls lo (lo i) x).fin:=CY (vU hx hm);have pI:(M++[cK cls lo (lo i) x])[M.length]?=some (cK cls lo (lo i) x):=by simp
 have hl:=uF hx pI (vU hx hm) λe he=>by
  rw[kU H.low (H.cl e.to (hS e he)).1];exact(H.cl e.to (hS e he)).2
 have hold:∀c,c<M.length->aF (M++[cK cls lo (lo i) x]) c=aF M c:=λc hc=>kU H.low hc
 have dV:∀c,c<M.length->aF (M++[cK cls lo (lo i) x]) c≠aF (M++[cK cls lo (lo i) x]) M.length:=by
  intro c kM h;obtain⟨y,hy⟩:∃y,M[c]?=some y:=⟨M[c],qQW kM⟩;have Ou:(M++[cK cls lo (lo i) x])[c]?=some y:=by rw[qQN kM];exact hy
  have:=Ue (n:=M.length) Ou pI (H.nq y (qQK hy)) mL (H.fin y (qQK hy)) gW (λe he=>by have:=H.low c y e hy he;omega) rq
   (λk hk=>by rw[hold k hk];exact H.norm hk) (λk l hk hl h=>H.inj k l hk hl (by rwa [hold k hk,hold l hl]at h)) h
  subst this;exact hc (qQK hy)
 refine⟨λc y e hy he=>?_,λy hy=>?_,λy hy=>?_,λj hj=>?_,λd hd=>?_,λj hj=>?_,λc d h1 h2 h=>?_⟩
 .by_cases kM:c<M.length
  .rw[qQN kM]at hy;exact H.low c y e hy he
  .have uk:=(qQZ.1 hy).1;simp only[qQM,qZK,qZE]at uk;have:c=M.length:=by omega
   subst this;rw[pI]at hy;cases hy;exact rq e he
 .rcases qQE.1 hy with hy|hy
  .exact H.nq y hy
  .simp at hy;subst hy;exact mL
 .rcases qQE.1 hy with hy|hy
  .exact H.fin y hy
  .simp at hy;subst hy;exact gW
 .by_cases e:j=i
  .subst e;rw[kR];exact⟨by simp,hl⟩
  .rw[wy _ e];rcases hj with hj|hj
   .have h2:=H.cl j hj;exact⟨by simp;omega,by rw[hold _ h2.1];exact h2.2⟩
   .exact absurd hj e
 .simp only[qQM,qZK,qZE]at hd;by_cases kM:d<M.length
  .obtain⟨j,hj,e⟩:=H.all d kM;refine⟨j,.inl hj,?_⟩;rw[wy _ (show j≠i from λe=>hi (by rw[<-e];exact hj))];exact e
  .exact⟨i,.inr rfl,by rw[kR];omega⟩
 .rcases hj with hj|rfl
  .exact H.lo j hj
  .exact hm
 .simp only[qQM,qZK,qZE]at h1 h2;by_cases g1:c<M.length
  .by_cases g2:d<M.length
   .exact H.inj c d g1 g2 (by rwa [hold c g1,hold d g2]at h)
   .have:d=M.length:=by omega
    subst this;exact absurd h (dV c g1)
  .have:c=M.length:=by omega
   subst this;by_cases g2:d<M.length
   .exact absurd h.symm (dV d g2)
   .omega
def MI.walk (H:MI ns M cls S lo){M2:List aw}(hM:∀i x,S i->ns[i]?=some x->∃y,M2[cls i]?=some y/\∀e,e∈x.ak->S e.to/\∃k,dC M2 (cls i) e.letter=some ⟨e.letter,cls e.to,k⟩) :
 ∀(u:List Nat)(i j:Nat)(k:Int),S i->eK ns u i=some (j,k)->∃k',eK M2 u (cls i)=some (cls j,k')
 |[],i,j,k,hi,h=>by cases h;exact⟨0,rfl⟩
 |a :: u,i,j,k,hi,h=>by
  unfold eK at h;rw[qQQ]at h;obtain⟨e,he,h⟩:=h;rw[qQC]at h;obtain⟨p,hp,h⟩:=h;cases h;obtain⟨x,hx,hm,rfl⟩:=eo he;obtain⟨y,hy,hg⟩:=hM i x hi hx;obtain⟨h1,k2,h2⟩:=hg e hm;obtain⟨k3,h3⟩:=MI.walk H hM u e.to p.1 p.2 h1 hp;refine⟨k3+k2,?_⟩;unfold eK;rw[h2];show(eK M2 u (cls e.to)).map _=_;rw[h3];rfl
def MI.step (H:MI ns M cls S lo){i:Nat}{x:aw}(hi:S i)(hx:ns[i]?=some x)(ha:x.ak.Pairwise (λx y=>x.letter<y.letter)){e:cI}(he:e∈x.ak)(hS:S e.to):∃k,dC M (cls i) e.letter=some ⟨e.letter,cls e.to,k⟩:=by
 have h1:=H.cl i hi
 have hd:(aF M (cls i)).BC e.letter=na (aF ns e.to) (lo i-e.cost):=by
  rw[h1.2];have:(na (aF ns i) (lo i)).BC e.letter=na ((aF ns i).BC e.letter) (lo i):=rfl;rw[this,mH (iF hx ha he),mc];congr 1;omega
 have XA:=(H.lo e.to hS).na (k:=lo i-e.cost);cases hs:dC M (cls i) e.letter with
 |none =>
  obtain⟨s,hx⟩:=XA.1;rw[<-hd,zU hs]at hx;cases hx
 |some f =>
  obtain⟨y,hy,hf,hl⟩:=eo hs;have dL:=H.low _ y f hy hf;rw[mH hs]at hd;have hm2:=(H.norm (c:=f.to) (by omega)).na (k:=-f.cost);rw[hd]at hm2;have hk:=hm2.uniq XA;have h2:=H.cl e.to hS
  have:aF M f.to=aF M (cls e.to):=by
   have h3:=congrArg (λX=>na X f.cost) hd;simp only[mc]at h3;rw[show -f.cost+f.cost=0 by omega,kn]at h3;rw[h3,h2.2];congr 1;omega
  have:=H.inj _ _ (by omega) h2.1 this;refine⟨f.cost,?_⟩;cases f;simp only at this hl;rw[this,hl]
def MI.top (H:MI ns M cls S lo)(W:ze ns){x:aw}(hx:ns[0]?=some x)(hS:∀e,e∈x.ak->S e.to)(hSc:∀i y e,S i->ns[i]?=some y->e∈y.ak->S e.to)(hSl:∀i,S i->i<ns.length)
 {dp:Nat->Nat} {d0:Nat} (GA:∀i,S i->iI (aF ns i) (dp i)/\dp i<d0) (Vw:iI (aF ns 0) d0):MV (M++[cK cls lo 0 x]) M.length (aF ns 0):=by
 have ha:=W.nq x (qQK hx);have rq:∀e,e∈(cK cls lo 0 x).ak->e.to<M.length:=HK λe he=>(H.cl e.to (hS e he)).1;have pI:(M++[cK cls lo 0 x])[M.length]?=some (cK cls lo 0 x):=by simp
 have hold:∀c,c<M.length->aF (M++[cK cls lo 0 x]) c=aF M c:=λc hc=>kU H.low hc
 have hl:aF (M++[cK cls lo 0 x]) M.length=aF ns 0:=by
  have:=uF (off:=0) hx pI (λh=>h) λe he=>by
   rw[hold _ (H.cl e.to (hS e he)).1];exact(H.cl e.to (hS e he)).2
  rwa [kn]at this
 have dV:∀c,c<M.length->aF M c≠aF ns 0:=by
  intro c hc h;obtain⟨i,hi,rfl⟩:=H.all c hc;have h1:=(GA i hi).1.na (k:=lo i);rw[<-(H.cl i hi).2,h]at h1;have:=h1.uniq Vw;have:=(GA i hi).2;omega
 have ie:Fk (M++[cK cls lo 0 x]):=by
  intro c y e hy he;by_cases kM:c<M.length
  .rw[qQN kM]at hy;exact H.low c y e hy he
  .have uk:=(qQZ.1 hy).1;simp only[qQM,qZK,qZE]at uk;have:c=M.length:=by omega
   subst this;rw[pI]at hy;cases hy;exact rq e he
 refine⟨by simp,hl,ie,λy hy=>?_,λc hc=>by rw[hold c hc];exact H.norm hc,λc d h1 h2 h=>?_,λc hc=>?_⟩
 .rcases qQE.1 hy with hy|hy
  .exact H.nq y hy
  .simp at hy;subst hy;exact xI ha
 .simp only[qQM,qZK,qZE]at h1 h2;by_cases g1:c<M.length
  .by_cases g2:d<M.length
   .exact H.inj c d g1 g2 (by rwa [hold c g1,hold d g2]at h)
   .have:d=M.length:=by omega
    subst this;rw[hold c g1,hl]at h;exact absurd h (dV c g1)
  .have:c=M.length:=by omega
   subst this;by_cases g2:d<M.length
   .rw[hold d g2,hl]at h;exact absurd h.symm (dV d g2)
   .omega
 .simp only[qQM,qZK,qZE]at hc;by_cases g1:c<M.length
  .obtain⟨i,hi,rfl⟩:=H.all c g1;obtain⟨u,k,hu⟩:=W.reach i (hSl i hi);cases u with
   |nil =>
    cases hu;have h1:=(GA 0 hi).1.uniq Vw;have h2:=(GA 0 hi).2;omega
   |cons a u =>
    unfold eK at hu;rw[qQQ]at hu;obtain⟨e,he,hu⟩:=hu;rw[qQC]at hu;obtain⟨p,hp,hu⟩:=hu;cases hu;obtain⟨y,hy,hm,rfl⟩:=eo he;rw[hx]at hy;cases hy
    obtain⟨k',VA⟩:=H.walk (M2:=M++[cK cls lo 0 x]) (λj z hj hz=>by
     have L5:=(H.cl j hj).1;refine⟨M[cls j],by rw[qQN L5];exact qQW L5,λe he=>⟨hSc j z e hj hz he,?_⟩⟩;obtain⟨k,hk⟩:=H.step hj hz (W.nq z (qQK hz)) he (hSc j z e hj hz he);exact⟨k,by rw[wm L5];exact hk⟩) u e.to p.1 p.2 (hS e hm) hp
    refine⟨e.letter :: u,k'+(e.cost+lo e.to-0),?_⟩
    have wG:dC (M++[cK cls lo 0 x]) M.length e.letter=some ⟨e.letter,cls e.to,e.cost+lo e.to-0⟩ :=
     iF (e:=⟨e.letter,cls e.to,e.cost+lo e.to-0⟩) pI (xI ha) (qQB.2 ⟨e,hm,rfl⟩)
    unfold eK;rw[wG];show(eK _ u (cls e.to)).map _=_;rw[VA];rfl
  .have:c=M.length:=by omega
   subst this;exact⟨[],0,rfl⟩
end
def ze.RU {ns:List aw}(W:ze ns):∃(lo:Nat->Int)(dp:Nat->Nat),(∀i,i<ns.length->ft (aF ns i) (lo i)/\iI (aF ns i) (dp i)/\0<=lo i)/\(∀i x e,ns[i]?=some x->e∈x.ak->dp e.to<dp i):=by
 obtain⟨rk,_,DZ⟩:=W.to
 have key:∀n i,rk i<n->i<ns.length->∃(m:Int)(d:Nat),ft (aF ns i) m/\iI (aF ns i) d/\0<=m:=by
  intro n
  induction n with
  |zero=>intro i h;omega
  |succ n ih =>
   intro i hi hl;obtain⟨x,hx⟩:∃x,ns[i]?=some x:=⟨ns[i],qQW hl⟩;have hm:=qQK hx
   have hc:∀j,∃md:Int×Nat,(∃e,e∈x.ak/\e.to=j)->ft (aF ns j) md.1/\iI (aF ns j) md.2/\0<=md.1:=by
    intro j;by_cases h:∃e,e∈x.ak/\e.to=j
    .obtain⟨e,he,rfl⟩:=h;have:=DZ i x e hx he;obtain⟨m,d,h1,h2,h3⟩:=ih e.to (by omega) this.1;exact⟨(m,d),λ_=>⟨h1,h2,h3⟩⟩
    .exact⟨(0,0),λh'=>absurd h' h⟩
   obtain⟨g,hg⟩:=Classical.axiomOfChoice hc;have y6:∀e,e∈x.ak->ft (aF ns e.to) (g e.to).1:=λe he=>(hg e.to ⟨e,he,rfl⟩).1;have GA:∀e,e∈x.ak->iI (aF ns e.to) (g e.to).2:=λe he=>(hg e.to ⟨e,he,rfl⟩).2.1;have CK:∀e,e∈x.ak->0<=(g e.to).1:=λe he=>(hg e.to ⟨e,he,rfl⟩).2.2
   have hex:∀l:List cI,l≠[]->(∃e,e∈l/\∀f,f∈l->e.cost+(g e.to).1<=f.cost+(g f.to).1)/\∃e,e∈l/\∀f,f∈l->(g f.to).2+1<=(g e.to).2+1:=by
    intro l
    induction l with
    |nil=>intro h;exact absurd rfl h
    |cons a l ih2 =>
     intro _;by_cases hl:l=[]
     .subst hl;exact⟨⟨a,by simp,λf hf=>by simp at hf;subst hf;exact qKV _⟩,⟨a,by simp,λf hf=>by simp at hf;subst hf;exact qQY _⟩⟩
     .obtain⟨⟨e,he,h1⟩,⟨e',mQ,Iu⟩⟩:=ih2 hl;refine⟨?_,?_⟩
      .by_cases hc:e.cost+(g e.to).1<=a.cost+(g a.to).1
       .exact⟨e,by simp[he],λf hf=>by rcases qQF.1 hf with rfl|hf;exact hc;exact h1 f hf⟩
       .exact⟨a,by simp,λf hf=>by rcases qQF.1 hf with rfl|hf;exact qKV _;have:=h1 f hf;omega⟩
      .by_cases hc:(g a.to).2+1<=(g e'.to).2+1
       .exact⟨e',by simp[mQ],λf hf=>by rcases qQF.1 hf with rfl|hf;exact hc;exact Iu f hf⟩
       .exact⟨a,by simp,λf hf=>by rcases qQF.1 hf with rfl|hf;exact qQY _;have:=Iu f hf;omega⟩
   by_cases he:x.ak=[]
   .have hf:0<=x.fin:=(W.live x hm).resolve_right λh=>h he;refine⟨x.fin,0,vV hx (W.nq x hm) (lo:=λj=>(g j).1) y6 (λ_=>qKV _) (λe h=>by rw[he]at h;cases h) (.inl ⟨hf,rfl⟩),zT hx (W.nq x hm) (dp:=λj=>(g j).2) GA (λe h=>by rw[he]at h;cases h) (.inl ⟨hf,rfl⟩),hf⟩
   .obtain⟨⟨e,h1,h2⟩,⟨e',Iu,tH⟩⟩:=hex x.ak he;have hD:=zT hx (W.nq x hm) (dp:=λj=>(g j).2) GA (d:=(g e'.to).2+1) tH (.inr ⟨e',Iu,rfl⟩);have Vu:=(W.cost x e hm h1).1;have:=CK e h1;by_cases hf:0<=x.fin/\x.fin<=e.cost+(g e.to).1
    .exact⟨x.fin,_,vV hx (W.nq x hm) (lo:=λj=>(g j).1) y6 (λ_=>qKV _) (λf h=>by have:=h2 f h;omega) (.inl ⟨hf.1,rfl⟩),hD,hf.1⟩
    .exact⟨e.cost+(g e.to).1,_,vV hx (W.nq x hm) (lo:=λj=>(g j).1) y6 (λh=>by omega) h2 (.inr ⟨e,h1,rfl⟩),hD,by omega⟩
 have hc:∀i,∃md:Int×Nat,i<ns.length->ft (aF ns i) md.1/\iI (aF ns i) md.2/\0<=md.1:=by
  intro i;by_cases h:i<ns.length
  .obtain⟨m,d,h1,h2,h3⟩:=key (rk i+1) i (qJA _) h;exact⟨(m,d),λ_=>⟨h1,h2,h3⟩⟩
  .exact⟨(0,0),λh'=>absurd h' h⟩
 obtain⟨g,hg⟩:=Classical.axiomOfChoice hc;refine⟨λi=>(g i).1,λi=>(g i).2,hg,λi x e hx he=>?_⟩;have hl:=(qQZ.1 hx).1;have rq:=(DZ i x e hx he).1;obtain⟨s,k,hs,hlen⟩:=(hg e.to rq).2.1.1
 have:=(hg i hl).2.1.2 (e.letter :: s) (k+e.cost) (by
  show(dC ns i e.letter).bind _=_;rw[iF hx (W.nq x (qQK hx)) he];show(cF ns s e.to).map _=_;rw[show cF ns s e.to=some k from hs];rfl)
 simp only[qZK]at this;show(g e.to).2<(g i).2;omega
def Im {ns:List aw}{dp:Nat->Nat}(hd:∀i x e,ns[i]?=some x->e∈x.ak->dp e.to<dp i):∀(u:List Nat)(i j:Nat)(k:Int),eK ns u i=some (j,k)->dp j+u.length<=dp i
 |[],i,j,k,h=>by cases h;simp
 |a :: u,i,j,k,h=>by
  unfold eK at h;rw[qQQ]at h;obtain⟨e,he,h⟩:=h;rw[qQC]at h;obtain⟨p,hp,h⟩:=h;cases h;obtain⟨x,hx,hm,_⟩:=eo he;have:=hd i x e hx hm;have:=Im hd u e.to p.1 p.2 hp;simp only[qZK];omega
def Aw {ns:List aw}(W:ze ns):∀(s:List Nat)(i:Nat)(k:Int),cF ns s i=some k->0<=k/\k<=((s.length:Int)+1)*1099511627776
 |[],i,k,h=>by
  have h:(ns[i]?).bind (λx=>if 0<=x.fin then some x.fin else none)=some k:=h;rw[qQQ]at h;obtain⟨x,hx,h⟩:=h;split at h
  .cases h;have:=(W.fin x (qQK hx)).2;rename_i h0;exact⟨h0,by simpa using this⟩
  .cases h
 |a :: s,i,k,h=>by
  have h:(dC ns i a).bind (λe=>(cF ns s e.to).map (·+e.cost))=some k:=h;rw[qQQ]at h;obtain⟨e,he,h⟩:=h;rw[qQC]at h;obtain⟨j,hj,rfl⟩:=h;obtain⟨x,hx,hm,_⟩:=eo he;have h1:=Aw W s e.to j hj;have h2:=W.cost x e (qQK hx) hm;simp only[qZK];push_cast;omega
def Ha {ns:List aw}{rk:Nat->Nat}(hr:∀(i:Nat)(x:aw)(e:cI),ns[i]?=some x->e∈x.ak->rk e.to<rk i):∀(s:List Nat)(i:Nat)(k:Int),cF ns s i=some k->s.length<=rk i
 |[],i,k,h=>qZH _
 |a :: s,i,k,h=>by
  have h:(dC ns i a).bind (λe=>(cF ns s e.to).map (·+e.cost))=some k:=h;rw[qQQ]at h;obtain⟨e,he,h⟩:=h;rw[qQC]at h;obtain⟨j,hj,rfl⟩:=h;obtain⟨x,hx,hm,_⟩:=eo he;have h1:=Ha hr s e.to j hj;have h2:=hr i x e hx hm;simp only[qZK];omega
structure P7 (ns:List aw)(lo:Nat->Int)(dp:Nat->Nat):Prop where
 W:ze ns
 mn:∀i,i<ns.length->ft (aF ns i) (lo i)
 dep:∀i,i<ns.length->iI (aF ns i) (dp i)
 dec:∀(i:Nat)(x:aw)(e:cI),ns[i]?=some x->e∈x.ak->dp e.to<dp i
 loB:∀i,i<ns.length->0<=lo i/\lo i<=1152921504606846976
 dpB:∀i,i<ns.length->dp i<=1000000
def ze.nsB {ns:List aw}(W:ze ns):∃(lo:Nat->Int)(dp:Nat->Nat),P7 ns lo dp:=by
 obtain⟨lo,dp,h1,h2⟩:=W.RU;obtain⟨rk,hb,DZ⟩:=W.to
 have GA:∀i,i<ns.length->dp i<=1000000:=by
  intro i hi;obtain⟨s,k,hs,hl⟩:=(h1 i hi).2.1.1;have:=Ha (λi x e hx he=>(DZ i x e hx he).2) s i k hs;have:=hb i;omega
 refine⟨lo,dp,W,λi hi=>(h1 i hi).1,λi hi=>(h1 i hi).2.1,h2,λi hi=>⟨(h1 i hi).2.2,?_⟩,GA⟩;obtain⟨s,hs⟩:=(h1 i hi).1.1;have a1:=(Aw W s i (lo i) hs).2;have a2:=(h1 i hi).2.1.2 s (lo i) hs;have a3:=GA i hi;have a4:(s.length:Int)<=1000000:=by omega
 omega
def P7.ahc {ns:List aw}{lo:Nat->Int}{dp:Nat->Nat}(B:P7 ns lo dp){i:Nat}(hi:i<ns.length)(h:i≠0):dp i<dp 0:=by
 obtain⟨u,k,hu⟩:=B.W.reach i hi;have:=Im B.dec u 0 i k hu;cases u with
 |nil=>cases hu;exact absurd rfl h
 |cons a u=>simp only[qZK]at this;omega
def sS:∀{l:List cI}{n:Nat},l.Pairwise (λx y=>x.letter<y.letter)->(∀e,e∈l->e.letter<n)->l.length<=n
 |[],_,_,_=>qZH _
 |e :: l,0,_,h=>absurd (h e (by simp)) (Nat.not_lt_zero _)
 |e :: l,n+1,hp,h=>by
  by_cases hl:l=[]
  .subst hl;simp
  .rw[qVX]at hp
   have key:∀(l:List cI)(m:Nat),l.Pairwise (λx y=>x.letter<y.letter)->(∀e,e∈l->m<=e.letter/\e.letter<n+1)->l.length<=n+1-m:=by
    intro l
    induction l with
    |nil=>intro m _ _;exact qZH _
    |cons f l ih =>
     intro m pK h2;rw[qVX]at pK;have h3:=h2 f (by simp);have:=ih (f.letter+1) pK.2 λe he=>⟨pK.1 e he,(h2 e (by simp[he])).2⟩;simp only[qZK];omega
   have:=key (e :: l) 0 (qVX.2 hp) λe he=>⟨qZH _,h e he⟩;omega
def uu {c:Nat}(h:Ap c=true):c<256:=by unfold Ap at h;simp at h;omega
def MI.len {ns M:List aw}{cls:Nat->Nat}{S:Nat->Prop}{lo:Nat->Int}(H:MI ns M cls S lo)(hS:∀i,S i->i<ns.length):M.length<=ns.length:=by
 have key:∀(n:Nat)(M:Nat) ,(∀c,c<M->∃i,i<n/\cls i=c)->M<=n:=by
  intro n
  have qy:∀(l:List Nat)(m:List Nat),l.Nodup->(∀x,x∈l->x∈m)->l.length<=m.length:=by
   intro l
   induction l with
   |nil=>intro m _ _;exact qZH _
   |cons x l ih =>
    intro m hn hm;rw[List.nodup_cons]at hn;have:=ih (m.erase x) hn.2 λy hy=>(List.mem_erase_of_ne (λe=>hn.1 (by rw[<-e];exact hy))).2 (hm y (by simp[hy]));have h2:=qWH (hm x (by simp));have h3:=List.length_pos_of_mem (hm x (by simp));simp only[qZK];omega
  intro M h
  have:=qy (List.range M) ((List.range n).map cls) List.nodup_range λc hc=>by
   obtain⟨i,hi,rfl⟩:=h c (qJX.1 hc);exact qQB.2 ⟨i,qJX.2 hi,rfl⟩
  simpa using this
 exact key _ _ λc hc=>by
  obtain⟨i,hi,e⟩:=H.all c hc;exact⟨i,hS i hi,e⟩
def zV (x:Nat):Prop:=x=45\/48<=x/\x<=57
def Sn:∀{a b r t:List Nat},(∀x,x∈a->zV x)->(∀x,x∈b->zV x)->(∀x r',r=x :: r'->¬zV x)->(∀x t',t=x :: t'->¬zV x)->a++r=b++t->a=b/\r=t
 |[],[],r,t,_,_,_,_,h=>⟨rfl,h⟩
 |[],y :: b,r,t,_,hb,hr,_,h=>by
  exact absurd (hb y (by simp)) (hr y (b++t) h)
 |x :: a,[],r,t,ha,_,_,ht,h=>by
  exact absurd (ha x (by simp)) (ht x (a++r) h.symm)
 |x :: a,y :: b,r,t,ha,hb,hr,ht,h=>by
  simp only[qVD,qJV]at h;obtain⟨e1,e2⟩:=Sn (λz hz=>ha z (by simp[hz])) (λz hz=>hb z (by simp[hz])) hr ht h.2;exact⟨by rw[h.1,e1],e2⟩
def rJ (f:Bool):List Nat:=if f then[116,114,117,101] else[102,97,108,115,101]
def OD (e:cI):List Nat:=[32]++cE (e.letter:Int)++[44]++cE (e.to:Int)++[44]++cE e.cost
def iY (l:List cI):List Nat:=(l.map OD).flatten
def vO (m:aw)(f:Bool):List Nat:=cE m.fin++rJ f++iY m.ak
def iW (n:Int):∀x,x∈cE n->zV x:=pM n
def Ar {l:List cI}:∀x r,iY l=x :: r->¬zV x:=by
 cases l with
 |nil=>intro x r h;cases h
 |cons e l =>
  intro x r h;have h:[32]++cE (e.letter:Int)++[44]++cE (e.to:Int)++[44]++cE e.cost++iY l=x :: r:=h;simp only[qKY,qVD,List.nil_append,qJV]at h;rw[<-h.1];unfold zV;omega
def CQ:∀{l m:List cI},iY l=iY m->l=m
 |[],[],_=>rfl
 |[],e :: m,h=>by
  have h:[]=[32]++cE (e.letter:Int)++[44]++cE (e.to:Int)++[44]++cE e.cost++iY m:=h;simp at h
 |e :: l,[],h=>by
  have h:[32]++cE (e.letter:Int)++[44]++cE (e.to:Int)++[44]++cE e.cost++iY l=[]:=h;simp at h
 |e :: l,f :: m,h=>by
  have h:[32]++cE (e.letter:Int)++[44]++cE (e.to:Int)++[44]++cE e.cost++iY l=[32]++cE (f.letter:Int)++[44]++cE (f.to:Int)++[44]++cE f.cost++iY m:=h;simp only[qKY,qVD,List.nil_append,qJV,true_and]at h;have n44:∀(r:List Nat)(x:Nat)(r':List Nat),44 :: r=x :: r'->¬zV x:=λr x r' e=>by cases e;unfold zV;omega
  obtain⟨e1,h⟩:=Sn (iW _) (iW _) (n44 _) (n44 _) h;simp only[qJV,true_and]at h;obtain⟨e2,h⟩:=Sn (iW _) (iW _) (n44 _) (n44 _) h;simp only[qJV,true_and]at h;obtain⟨e3,h⟩:=Sn (iW _) (iW _) Ar Ar h;have e1:=mo e1;have e2:=mo e2;have e3:=mo e3
  have:e=f:=by
   cases e;cases f;simp only at e1 e2 e3;congr 1
   .exact Int.ofNat.inj e1
   .exact Int.ofNat.inj e2
  rw[this,CQ h]
def G5 {m m':aw}{f f':Bool}(h:vO m f=vO m' f'):m=m'/\f=f':=by
 unfold vO at h;rw[qKY,qKY]at h
 have hb:∀(f:Bool)(r:List Nat)(x:Nat)(r':List Nat),rJ f++r=x :: r'->¬zV x:=by
  intro f r x r' e;cases f<;>· simp[rJ]at e;rw[<-e.1];unfold zV;omega
 obtain⟨e1,h⟩:=Sn (iW _) (iW _) (hb _ _) (hb _ _) h;have e1:=mo e1
 have:f=f'/\iY m.ak=iY m'.ak:=by
  cases f<;>cases f'<;>simp[rJ]at h<;>simp[h]
 obtain⟨rfl,h2⟩:=this;have:=CQ h2;cases m;cases m';simp only at e1 this;rw[e1,this];exact⟨rfl,rfl⟩
def JB (e:cI):Prop:=e.letter<256/\e.to<4611686018427387904/\-4611686018427387904<e.cost/\e.cost<4611686018427387904
def TP {e:cI}(h:JB e):(OD e).length<=66:=by
 obtain⟨h1,h2,h3,h4⟩:=h;have a1:=gZ (n:=(e.letter:Int)) (by omega) (by omega);have a2:=gZ (n:=(e.to:Int)) (by omega) (by omega);have a3:=gZ (n:=e.cost) (by omega) (by omega);unfold OD;simp only[qQM,qZK,qZE];omega
def CR:∀{l:List cI},(∀e,e∈l->JB e)->(iY l).length<=66*l.length
 |[],_=>by simp[iY]
 |e :: l,h=>by
  have h1:=TP (h e (by simp));have h2:=CR (l:=l) λx hx=>h x (by simp[hx]);have:(iY (e :: l)).length=(OD e).length+(iY l).length:=by simp[iY]
  simp only[qZK];omega
def Kg {l:List cI}{i:Nat}{e:cI}(he:l[i]?=some e):iY (l.take (i+1))=iY (l.take i)++OD e:=by
 unfold iY;rw[qZD (qQZ.1 he).1,(qQZ.1 he).2];simp
def W5 (f:Bool)(h:aa):Ec E2 78 [.bool f] h λr h'=>r=.str (rJ f)/\h'=h:=by
 refine Ec.bu (aI (by decide)) Ni ?_;unfold Rm;simp only[go_sem,Nat.reduceEqDiff,reduceCtorEq];refine⟨by decide,?_⟩;refine Ec.mono (Q:=λr h'=>r=.str (rJ f)/\h'=h) ?_ ?_
 .refine Ec.bu (aI (by decide)) Nn ?_;unfold Ru;cases f<;>simp only[go_sem,Nat.reduceEqDiff,reduceCtorEq]
  all_goals rfl
 .rintro r h1 ⟨rfl,rfl⟩;simp only[go_sem,Nat.reduceEqDiff,reduceCtorEq]
abbrev Y5:=Int×Int×Int
def H9 (x:Y5):ae:=.agg [.int .i64 x.1,.int .i64 x.2.1,.int .i64 x.2.2]
structure wC where
 mb:Nat
 cb:Nat
 dv:ae
 lv:ae
 jI:List (Int×Y5×Nat)
 sc:Nat
 Rl:List (List Nat×Int×Nat)
 cc:Nat
 jv:List ae
structure yX where
 M:List aw
 fl:List Bool
 ln:List Int
structure tq (n0:Nat)(aZ:Nat->Nat)(h:aa)(sb:Nat)(nv:ae)(d:wC)(S:yX):Prop where
 lt:n0<=sb/\sb<h.next
 iE:aZ sb=1
 obj:h.get sb=some (.cells [nv,.map d.mb,.map d.cb,d.dv,d.lv] 116)
 mlt:n0<=d.mb/\d.mb<h.next
 T5:aZ d.mb=2
 OT:h.get d.mb=some (.map (d.jI.map (fV (.int .i64) H9)) d.sc)
 mM:uV d.jI d.sc
 clt:n0<=d.cb/\d.cb<h.next
 qj:aZ d.cb=4
 I':h.get d.cb=some (.map (d.Rl.map (fV .str (.int .i64))) d.cc)
 cM:uV d.Rl d.cc
 cV:∀s k,cX d.Rl s=some k↔∃(i:Nat)(m:aw)(f:Bool),k=(i:Int)/\S.M[i]?=some m/\S.fl[i]?=some f/\vO m f=s
 nodes:dO h 2 110 d.dv (cr d.jv S.M)
 nI:qf aZ n0 h 7 d.dv
 lJ:d.jv.length=S.M.length
 W3:∀(i:Nat)(v:ae)(m:aw),d.jv[i]?=some v->S.M[i]?=some m->cg h 3 v (m.ak.map aK)
 oD:∀v,v∈d.jv->v.flat=true/\qf aZ n0 h 8 v
 lens:dO h 1 3 d.lv (S.ln.map (.int .i64))
 B9:qf aZ n0 h 3 d.lv
 W9:S.fl.length=S.M.length
 ON:S.ln.length=S.M.length
section
variable{n0:Nat}{aZ col':Nat->Nat}{h h':aa}{sb:Nat}{nv:ae}{d:wC}{S:yX}
def tq.frame (H:tq n0 aZ h sb nv d S)(F:uW 1 8 n0 aZ h h')(hc:∀b,b<h.next->col' b=aZ b):tq n0 col' h' sb nv d S:=by
 have hn:=F.next;obtain⟨l1,l2⟩:=H.lt;obtain⟨m1,m2⟩:=H.mlt;obtain⟨c1,c2⟩:=H.clt
 exact⟨⟨l1,by omega⟩,(hc _ l2).trans H.iE,(F.get _ l1 l2 (by rw[H.iE];omega) (by rw[H.iE];omega)).trans H.obj,⟨m1,by omega⟩,(hc _ m2).trans H.T5,(F.get _ m1 m2 (by rw[H.T5];omega) (by rw[H.T5];omega)).trans H.OT,H.mM,
  ⟨c1,by omega⟩,(hc _ c2).trans H.qj,(F.get _ c1 c2 (by rw[H.qj];omega) (by rw[H.qj];omega)).trans H.I',H.cM,H.cV,H.nodes.frame hn (F.rm H.nI (by omega) (by omega)),H.nI.mono hn hc,H.lJ,
  λi v m hv hm=>(H.W3 i v m hv hm).frame hn (F.rm (H.oD v (qQK hv)).2 (by omega) (by omega)),λv hv=>⟨(H.oD v hv).1,(H.oD v hv).2.mono hn hc⟩,
  H.lens.frame hn (F.rm H.B9 (by omega) (by omega)),H.B9.mono hn hc,H.W9,H.ON⟩
def tq.BE (H:tq n0 aZ h sb nv d S):aN h sb 0=some nv/\aN h sb 1=some (.map d.mb)/\aN h sb 2=some (.map d.cb)/\aN h sb 3=some d.dv/\aN h sb 4=some d.lv:=by
 refine⟨?_,?_,?_,?_,?_⟩<;>(rw[aq H.obj];rfl)
end
end
end Go.AX
