/-
  Contracts of functions of this seat, for every input that each theorem names.
-/
import Derived.Test.YtfdnpjbmhoapcaaGreatDoorNam10
import Derived.Test.YtfdnpjbmhoapcaaGreatDoorNam8
import Derived.Test.YtfdnpjbmhoapcaaGreatDoorNam9
import Derived.Test.YtfdnpjbmhoapcaaGreatDoorNam11
import Derived.Test.YtfdnpjbmhoapcaaGreatDoorNab1
import Derived.Test.YtfdnpjbmhoapcaaGreatDoorNax1
import Derived.Test.YtfdnpjbmhoapcaaGreatDoorNax2
set_option linter.all false
set_option maxHeartbeats 32000000
set_option maxRecDepth 10000
namespace Go.AX
open Go Go.Proofs
noncomputable section
attribute [local go_sem] cN cL
attribute [local go_sem] dK bQ
set_option maxRecDepth 20000 in
def Gj {M:eG Int}{mv:ae}{n0:Nat}{I:aa->Prop}{Good:Int->Prop}{bd:Int->Int}(O:Vh M (.int .i64) mv n0 I Good)(B:QE M Good bd)(h:aa)(qZ:n0<=h.next)(hI:I h) :
 Nc Tryz.prog 19 [mv] h λv h'=>I h'/\h.next<=h'.next/\∃o,tU M o/\aiQ h' o v:=by
 refine Nc.qJ kr call2 (λm n=>iS kr (call2 m n)) (fn:=Tryz.f19) (by kernel_rfl) (by kernel_rfl) RF ?_;unfold Zf;obtain⟨mt,mx,hmv⟩:=O.iface;have hmf:mv.flat=true:=by rw[hmv];rfl
 have afU:iT [(1,1,ae.map h.next),(3,1,ae.map (h.next+1))] (og [mv] [ae.dq,ae.b8,ae.af,ae.b8,ae.af,ae.af])=some [mv,.map h.next,.af,.map (h.next+1),.af,.af]:=rfl;have Xw:[mv].length=1:=rfl;simp only[go_sem,Nat.reduceEqDiff,Nat.reduceAdd,Nat.reduceLeDiff,reduceCtorEq,bM hmf,Xw];have gn1:((((h.push (aE.map [] 0)).push (aE.map [] 0)).push (aE.cells [mv,ae.map h.next,ae.af,ae.map (h.next+1),ae.af,ae.af] 101)).push (aE.map [] 0)).next=h.next+4:=rfl;have e1:(h.push (aE.map [] 0)).next=h.next+1:=rfl;have e2:((h.push (aE.map [] 0)).push (aE.map [] 0)).next=h.next+2:=rfl;have e3:(((h.push (aE.map [] 0)).push (aE.map [] 0)).push (aE.cells [mv,ae.map h.next,ae.af,ae.map (h.next+1),ae.af,ae.af] 101)).next=h.next+3:=rfl;have Qb:((((h.push (aE.map [] 0)).push (aE.map [] 0)).push (aE.cells [mv,ae.map h.next,ae.af,ae.map (h.next+1),ae.af,ae.af] 101)).push (aE.map [] 0)).get (h.next+3)=some (.map [] 0):=aa.ai _ _;have gs1:((((h.push (aE.map [] 0)).push (aE.map [] 0)).push (aE.cells [mv,ae.map h.next,ae.af,ae.map (h.next+1),ae.af,ae.af] 101)).push (aE.map [] 0)).get (h.next+2)=some (.cells [mv,.map h.next,.af,.map (h.next+1),.af,.af] 101):=(aa.aA _ _ (by rw[e3];omega)).trans (aa.ai _ _);have gt1:((((h.push (aE.map [] 0)).push (aE.map [] 0)).push (aE.cells [mv,ae.map h.next,ae.af,ae.map (h.next+1),ae.af,ae.af] 101)).push (aE.map [] 0)).get (h.next+1)=some (.map [] 0):=(aa.aA _ _ (by rw[e3];omega)).trans ((aa.aA _ _ (by rw[e2];omega)).trans (aa.ai _ _));have gb1:((((h.push (aE.map [] 0)).push (aE.map [] 0)).push (aE.cells [mv,ae.map h.next,ae.af,ae.map (h.next+1),ae.af,ae.af] 101)).push (aE.map [] 0)).get h.next=some (.map [] 0):=(aa.aA _ _ (by rw[e3];omega)).trans ((aa.aA _ _ (by rw[e2];omega)).trans ((aa.aA _ _ (by rw[e1];omega)).trans (aa.ai _ _)));have bh:aU h ((((h.push (aE.map [] 0)).push (aE.map [] 0)).push (aE.cells [mv,ae.map h.next,ae.af,ae.map (h.next+1),ae.af,ae.af] 101)).push (aE.map [] 0)):=((((aU.refl h).push _).push _).push _).push _;generalize (((h.push (aE.map [] 0)).push (aE.map [] 0)).push (aE.cells [mv,ae.map h.next,ae.af,ae.map (h.next+1),ae.af,ae.af] 101)).push (aE.map [] 0)=h1 at gn1 Qb gs1 gt1 gb1 bh ⊢;clear e1 e2 e3;have hI1:I h1:=O.frame h h1 hI (fD.of qZ bh)
 have H1:iP cq mv 101 n0 (λb=>if b=h.next+2 then 1 else if b=h.next then 2 else if b=h.next+1 then 4 else 9) h1 (h.next+2) ⟨h.next,h.next+1,.af,.af,.af,[],0,[],0,[],[]⟩ ⟨[],[],[]⟩:=by
  have nb:∀k,qf (λb=>if b=h.next+2 then 1 else if b=h.next then 2 else if b=h.next+1 then 4 else 9) n0 h1 k .af:=λk c hc=>(dx hc).elim;refine⟨⟨by omega,by omega⟩,by simp,gs1,⟨⟨qZ,by show h.next<h1.next;omega⟩,by simp,.inl ⟨rfl,rfl⟩,nb 3,gb1,uV.nil,λc k=>?_⟩,⟨⟨by show n0<=h.next+1;omega,by show h.next+1<h1.next;omega⟩,by simp,gt1,uV.nil,λs k=>?_,.inl ⟨rfl,rfl⟩,nb 5,rfl,λi v p hv=>by simp at hv,λv hv=>by cases hv⟩,⟨.inl ⟨rfl,rfl⟩,nb 7,iC.replicate 0,λv hv=>by cases hv⟩,rfl⟩
  .constructor
   .intro hx;cases hx
   .rintro⟨i,_,hx⟩;simp at hx
  .constructor
   .intro hx;cases hx
   .rintro⟨i,p,_,hx,_⟩;simp at hx
 refine XO (O.start h1 _ (by omega) hI1 λh2 DO K2=>?_);have GK:=K2.next;simp only[go_sem,Nat.reduceEqDiff,reduceCtorEq];refine⟨by decide,?_⟩;have H2:=H1.frame (h':=h2) ⟨K2.next,λb x1 x2 _ _=>K2.get b x1 x2⟩ λ_ _=>rfl;refine Nc.nW ((Hw H2 (by simp) M.start).mono ?_);rintro r h3 ⟨DD,d3,yA,i,rfl,H3,hi,Gy,CF,VD⟩
 have afJ:yA=[M.start]:=by
  rcases Gy with rfl|⟨_,rfl⟩
  .simp at hi
  .rfl
 subst afJ
 have hi0:i=0:=by
  have:=(qQZ.1 hi).1;simp at this;exact this
 subst hi0;have uQ:=VD.next;have gk2:h2.get (h.next+3)=some (.map [] 0):=(K2.get _ (by omega) (by omega)).trans Qb;have gk3:h3.get (h.next+3)=some (.map (([]:List dD).map dF) 0):=(VD.get _ (by omega) (.inr (.inr (by simp)))).trans gk2;have hp:pQ [] 0 ((0:Nat):Int) 0=[(0,0,0)]:=rfl;have hpc:wb [] 0 ((0:Nat):Int)=1:=rfl;have hM4:gh [(0,0,0)] 1:=gh.nil.put 0 0;simp only[go_sem,Nat.reduceEqDiff,reduceCtorEq,pR gh.nil gk3,hp,hpc];have hk3:DD (h.next+3)=9:=by rw[CF _ (by omega)];simp
 have DP:I h3:=O.frame h2 h3 DO ⟨uQ,λb hb=>VD.get b (by omega) (.inl hb)⟩;have Qe:I (h3.put (h.next+3) (.map ([(0,0,0)].map dF) 1)):=O.frame h3 _ DP (fD.put (fD.refl _ _) (by omega) _);have H4:iP cq mv 101 n0 DD (h3.put (h.next+3) (.map ([(0,0,0)].map dF) 1)) (h.next+2) d3 ⟨[M.start],[],[]⟩:=H3.frame ⟨qQY _,λb _ _ x3 x4=>aa.ah _ _ λe=>by rw[<-e,hk3]at x4;omega⟩ λ_ _=>rfl;have gk4:(h3.put (h.next+3) (.map ([(0,0,0)].map dF) 1)).get (h.next+3)=some (.map ([(0,0,0)].map dF) 1):=aa.aj _ _ _;have Zv:(h3.put (h.next+3) (.map ([(0,0,0)].map dF) 1)).next=h3.next:=rfl;generalize h3.put (h.next+3) (.map ([(0,0,0)].map dF) 1)=h4 at Qe H4 gk4 Zv ⊢;have iU:∀c,c∈[M.start]->Good c:=λc hc=>by simp at hc;subst hc;exact O.SN
 have kv:∀(i j:Nat) c,([M.start]:List Int)[i]?=some c->([M.start]:List Int)[j]?=some c->i=j:=λi j c a b=>H4.c.inj a b;have SX:jB [M.start] [(0,0,0)] ([]++[(M.start,0)]):=(jB.nil ([]:List Int)).add (clock:=0) hi (.inr ⟨by simp,rfl⟩) kv (by rw[if_neg (by rintro⟨v,h1,_⟩;cases h1)];rfl)
 have Tw:(λc t=>(c,t)∈([]++[(M.start,0)]:List (Int×Int)))=qS M:=by
  funext c t;apply propext;simp[qS]
 refine⟨by decide,?_⟩;refine(HY O (sb:=h.next+2) h4 H4 iU Qe hM4 ⟨by omega,by omega⟩ gk4 SX.key (λe he=>by simp at he;subst he;exact⟨by decide,by decide⟩) (by simp)).mono ?_;rintro r h5 ⟨Zz,K5,hS⟩;have Qg:=K5.next;rcases hS with⟨rfl,CH⟩|⟨pv,q,least,rfl,hP,hSl,ic,hbk⟩
 .simp only[go_sem,Nat.reduceEqDiff,Nat.reduceAdd,reduceCtorEq];refine⟨O.frame h5 _ Zz ((fD.refl _ _).push (by omega) _),by show h.next<=h5.next+1;omega,some [⟨[],-1⟩],.dead (Tw▸LM SX CH),_,rfl,[.af],rfl,rfl,⟨by simp,.inr ⟨h5.next,0,1,true,rfl,.inr (fP.ed (by simp[aa.bI]) (aa.ai _ _) (by simp[ae.flat]))⟩⟩,λi e x he hx=>?_⟩;have:i=0:=by have:=(qQZ.1 he).1;simp at this;exact this
  subst this;cases he;cases hx;exact⟨by simp,.inl ⟨rfl,rfl⟩⟩
 .have hm:least=0:=by
   obtain⟨e,k,c,h1,_,_,_,h5⟩:=hP.B3;simp at h1;subst h1;exact h5.symm
  have hR:=hP.ahF hM4 SX kv;rw[Tw]at hR
  have GR:mw bd [M.start] q:=by
   refine⟨hP.nq,λx hx=>?_⟩;obtain⟨e,c,h1,h2,h3,h4,_⟩:=(hP.mem x.1 x.2).1 hx;have Vu:=iU c (qQK h4);have:=(B.nn c Vu).1;simp at h1;subst h1;exact⟨c,h4,by simp only at h3;omega,by simp only at h3;omega⟩
  have H5:iP cq mv 101 n0 (ep DD h4 6) h5 (h.next+2) d3 ⟨[M.start],[],[]⟩:=H4.frame ⟨K5.next,λb x1 x2 _ _=>K5.get b x1 x2⟩ λb hb=>br hb;have Tp:=GR.len;simp only[qZK,qZE] at Tp
  have hpk:∀x,x∈q->xF x:=λx hx=>by
   obtain⟨c,x1,x2,x3⟩:=GR.2 x hx;have:=(B.nn c (iU c (qQK x1))).2;have:=(qQZ.1 x1).1;simp only[qZK,qZE]at this;exact⟨by omega,by omega,by omega⟩
  simp only[go_sem,Nat.reduceEqDiff,reduceCtorEq];refine⟨by decide,?_⟩;refine Nc.nW ((MG H5 (by simp) q pv hSl ic (λb hb=>by have:=hbk b hb;exact⟨by omega,this.2,dY this.1⟩) hpk (by omega)).mono ?_);rintro r h6 ⟨ajm,d6,S6,j,rfl,H6,hj,hS6,anM,ho6⟩
  have aj1:S6=⟨[M.start],[q],[⟨[],-1⟩]⟩:=by
   rcases hS6 with rfl|⟨_,rfl⟩
   .simp at hj
   .rfl
  subst aj1;have hn6:=ho6.next;have hI6:I h6:=O.frame h5 h6 Zz ⟨hn6,λb hb=>ho6.get b (by omega) (.inl hb)⟩;simp only[go_sem];have D6:MO cq mv 101 n0 Good bd (h.next+2) 0 h6 ajm d6 ⟨[M.start],[q],[⟨[],-1⟩]⟩:=⟨H6,iU,λp hp=>by simp at hp;subst hp;exact GR,λm _ hm=>by simp at hm;subst hm;rfl⟩;refine abc O B _ h6 D6 hI6 (by simp) (by simp[T.ag]) (by simp[T.ag]) ?_ ?_
  .intro fr h7 n D v2 v3 hI7 Qk abF hn hl;simp only[go_sem,v2,v3];exact⟨hI7,by omega,none,.full _ _ n D hR abF hn hl,rfl⟩
  .intro fr h7 n ajn d7 S7 v4 hI7 D7 abF pZ JY;have l5:aN h7 (h.next+2) 5=some d7.dv:=D7.sub.BE.2.2.2.2.2;have l4:aN h7 (h.next+2) 4=some d7.pv:=D7.sub.BE.2.2.2.2.1;have hlen:∀h' K,cH d7.pv h' K=K (.int .i64 (S7.aR.length:Int)) h':=λh' K=>by rw[D7.sub.s.aR.acD,D7.sub.s.Lb]
   have abB:(S7.aR.length:Int)<=400:=by omega
   have hd7:¬(400:Int)<(S7.aR.length:Int):=by omega
   simp only[go_sem,Nat.reduceEqDiff,v4,l5,l4,hlen,hd7];have jX:(jK S7).aR.length=S7.aR.length:=qQD ..
   have Qk:=D7.sub.lt.2;refine⟨O.frame h7 _ hI7 ((fD.refl _ _).skip 12),by show h.next<=h7.next+12;omega,some S7.nodes,.all _ _ (jK S7) hR ?_ (by rw[jX];omega),d7.dv,rfl,?_⟩
   .rw[jX,<-pZ];exact abF
   .have:=D7.sub.n.frame (h':=h7.skip 12) (col':=ajn) ⟨by show h7.next<=h7.next+12;omega,λ_ _ _ _ _=>rfl⟩ λ_ _=>rfl;exact this.read
def OQ:E2.qD 37 "restante/reading.live" = some (167,true):=by kernel_rfl
def Kq:E2.qD 37 "restante/reading.start" = some (168,true):=by kernel_rfl
def Kn:E2.qD 37 "restante/reading.final" = some (166,true):=by kernel_rfl
def OS:E2.qD 37 "restante/reading.step" = some (169,true):=by kernel_rfl
def Yw (v:ae)(h:aa):sw E2 37 true v h=some v:=by kernel_rfl
def Ea {name:String}{f:FuncId}{mb:Nat}{args:List ae}{h:aa}{K:ae->aa->Prop}(hm:E2.qD 37 name=some (f,true))(hc:Ec E2 f (.ptr mb 0 :: args) h K):xg E2 (.iface 37 (.ptr mb 0)) name args h K :=
 eQ.2 ⟨_,hm,eQ.2 ⟨_,Yw _ _,hc⟩⟩
inductive Live (A:aY):Nat->Prop
 |fin (i:Nat):0<=bm A.ends i->Live A i
 |uM (i j:Nat) (x:dH):x∈cp A i->x.to=(j:Int)->Live A j->Live A i
open Classical in
def xH (A:aY)(free:Bool):eG Int where
 start:=0
 step c l:=((cp A c.toNat).filter λx=>decide (x.l=l)).map λx=>(x.to,if free then 0 else x.c)
 fin c:=if bm A.ends c.toNat<0 then none else some (if free then 0 else bm A.ends c.toNat)
 live c:=decide (Live A c.toNat)
open Classical in
structure QF (A:aY)(n:Nat)(free:Bool)(h:aa)(mb:Nat)(vo vf va:ae)(rows:List ae):Prop where
 an:A.n=(n:Int)
 n1:1<=n
 n4:n<=400
 aW:fH A.n A.aW
 ends:gK A.n A.ends
 l4:A.aW.length<=4000
 IA:cg h 1 vo (rows.map λx=>[x])
 rl:rows.length=n
 row:∀(j:Nat)(x:ae),rows[j]?=some x->eS h x (cp A j)
 CN:cg h 1 vf ((List.range n).map λi=>[.int .i64 (bm A.ends i)])
 hva:cg h 1 va ((List.range n).map λi=>[.bool (decide (Live A i))])
 lt:mb<h.next
 obj:h.get mb=some (.cells [vo,vf,va,.bool free] 72)
section
variable{A:aY}{n:Nat}{free:Bool}{h h':aa}{mb:Nat}{vo vf va:ae}{rows:List ae}
def QF.mono (P:QF A n free h mb vo vf va rows)(hle:aU h h'):QF A n free h' mb vo vf va rows :=
 ⟨P.an,P.n1,P.n4,P.aW,P.ends,P.l4,P.IA.mono hle,P.rl,λj x hx=>(P.row j x hx).mono hle,P.CN.mono hle,P.hva.mono hle,by have:=P.lt;have:=hle.next;omega,(hle.get mb P.lt).trans P.obj⟩
open Classical in
def Yl (P:QF A n free h mb vo vf va rows){i:Nat}(hi:i<n):Ec E2 167 [.ptr mb 0,.int .i64 (i:Int)] h λv h'=>v=.bool (decide (Live A i))/\h'=h:=by
 refine Ec.bu (aI (by decide)) Jj ?_;unfold LG;have l2:aN h mb 2=some va:=by rw[aq P.obj];rfl
 obtain⟨b,o,hr,fU⟩:=P.hva.ix (j:=i) (x:=[.bool (decide (Live A i))]) (by rw[qQX,qJY hi];rfl);have lx:aN h b o=some (.bool (decide (Live A i))):=hr.aN (i:=0) rfl;simp only[go_sem,Nat.reduceEqDiff,Nat.reduceAdd,reduceCtorEq,l2,fU .i64 (i:Int) h _ rfl,lx]
def UB:Ec E2 168 [.ptr mb 0] h λv h'=>v=.int .i64 0/\h'=h:=by
 refine Ec.bu (aI (by decide)) FX ?_;unfold Gc;simp only[go_sem,reduceCtorEq]
def Uz (P:QF A n free h mb vo vf va rows){i:Nat}(hi:i<n):Ec E2 166 [.ptr mb 0,.int .i64 (i:Int)] h λv h'=>ae5 ((xH A free).fin (i:Int)) v/\h'=h:=by
 refine Ec.bu (aI (by decide)) FW ?_;unfold Gb;have l1:aN h mb 1=some vf:=by rw[aq P.obj];rfl
 have l3:aN h mb 3=some (.bool free):=by rw[aq P.obj];rfl
 obtain⟨b,o,hr,fU⟩:=P.CN.ix (j:=i) (x:=[.int .i64 (bm A.ends i)]) (by rw[qQX,qJY hi];rfl);have lx:aN h b o=some (.int .i64 (bm A.ends i)):=hr.aN (i:=0) rfl;have gW:(xH A free).fin (i:Int)=if bm A.ends i<0 then none else some (if free then 0 else bm A.ends i):=rfl
 by_cases hp:0<bm A.ends i
 .have h0:¬bm A.ends i<0:=by omega
  cases free with
  |true =>
   simp only[go_sem,Nat.reduceEqDiff,Int.reduceLT,Nat.reduceAdd,reduceCtorEq,l1,l3,fU .i64 (i:Int) h _ rfl,lx,hp];rw[gW,if_neg h0];exact⟨_,rfl,λk hk=>by cases hk;rfl⟩
  |false =>
   simp only[go_sem,Nat.reduceEqDiff,Nat.reduceAdd,reduceCtorEq,l1,l3,fU .i64 (i:Int) h _ rfl,lx,hp,h0];rw[gW,if_neg h0];exact⟨_,rfl,λk hk=>by cases hk;rfl⟩
 .by_cases h0:bm A.ends i<0
  .simp only[go_sem,Nat.reduceEqDiff,Nat.reduceAdd,reduceCtorEq,l1,fU .i64 (i:Int) h _ rfl,lx,hp,h0];rw[gW,if_pos h0];exact⟨_,rfl,λk hk=>by cases hk⟩
  .have hz:bm A.ends i=0:=by omega
   simp only[go_sem,Nat.reduceEqDiff,Nat.reduceAdd,reduceCtorEq,l1,fU .i64 (i:Int) h _ rfl,lx,hp,h0];rw[gW,if_neg h0,hz];exact⟨_,rfl,λk hk=>by cases hk;cases free<;>rfl⟩
end
def tS (l:Nat)(free:Bool)(xs:List dH):List (Int×Int):=(xs.filter λx=>decide (x.l=l)).map λx=>(x.to,if free then 0 else x.c)
def Ld {l:Nat}{free:Bool}{xs:List dH}{k:Nat}{x:dH}(hx:xs[k]?=some x):tS l free (xs.take (k+1))=tS l free (xs.take k)++(if x.l=l then[(x.to,if free then 0 else x.c)] else[]):=by
 unfold tS;rw[qJM,hx,List.filter_append,qJW];congr 1;by_cases h:x.l=l<;>simp[h]
def PQ {l:Nat}{free:Bool}{xs:List dH}(k:Nat):tS l free (xs.take k) <+: tS l free xs:=by
 unfold tS;exact List.IsPrefix.map _ (List.IsPrefix.filter _ (List.take_prefix k xs))
def Ym {A:aY}{n:Nat}{free:Bool}{h0 h:aa}{mb:Nat}{vo vf va:ae}{rows:List ae}(P:QF A n free h0 mb vo vf va rows)(hle:aU h0 h){i l f:Nat}(hi:i<n)(hl:l<256)(cap:List ae)(hf:Nat.blt f 1000000000=true)(R:List (Int×Int)->aa->Prop)(hR:R [] h)
 (YF:∀done a b,R done a->h0.next<=a.next->Kept h0.next a b->R done b)
 (call:∀done d k a,(done++[(d,k)]) <+: (xH A free).step (i:Int) l->R done a->aU h0 a->h0.next<=a.next->Ec E2 f (.int .i64 d :: .int .i64 k :: cap) a λ_ b=>R (done++[(d,k)]) b/\aU h0 b/\a.next<=b.next) :
 Ec E2 169 [.ptr mb 0,.int .i64 (i:Int),.int .u8 (l:Int),.func f [] cap] h λ_ h'=>aU h0 h'/\R ((xH A free).step (i:Int) l) h'/\h.next<=h'.next:=by
 refine Ec.bu (aI (by decide)) Jk ?_;unfold LH;have P1:=P.mono hle;have l0:aN h mb 0=some vo:=by rw[aq P1.obj];rfl
 obtain⟨rw_,hrw⟩:∃v,rows[i]?=some v:=⟨_,qQW (by rw[P.rl];exact hi)⟩;obtain⟨b,o,hr,fU⟩:=P1.IA.ix (j:=i) (x:=[rw_]) (by rw[qQX,hrw];rfl);have lx:aN h b o=some rw_:=hr.aN (i:=0) rfl;have di:=P.row i rw_ hrw;have hlen:∀h' K,cH rw_ h' K=K (.int .i64 ((cp A i).length:Int)) h':=λh' K=>by rw[cg.len di,qQD]
 have pL:(xH A free).step (i:Int) l=tS l free (cp A i):=rfl;have JQ:(cp A i).length<=4000:=by have:=qVV (λx:dH=>decide (x.fr=(i:Int))) A.aW;have:=P.l4;unfold cp;omega
 simp only[go_sem,Nat.reduceEqDiff,Nat.reduceAdd,reduceCtorEq,l0,fU .i64 (i:Int) h _ rfl,lx,hlen];refine fg (λdd fr h'=>fr.get 0=some (.ptr mb 0)/\fr.get 2=some (.int .u8 (l:Int))/\fr.get 3=some (.func f [] cap)/\fr.get 17=some rw_/\fr.get 18=some (.int .i64 ((cp A i).length:Int))/\aU h0 h'/\h.next<=h'.next/\∃k:Nat,fr.get 19=some (.int .i64 (k:Int))/\dd+k=(cp A i).length/\R (tS l free ((cp A i).take k)) h') (cp A i).length ?_ ?_
 .exact⟨by simp[T.ag],by simp[T.ag],by simp[T.ag],by simp[T.ag],by simp[T.ag],hle,qQY _,0,by simp[T.ag],by omega,by simpa[tS] using hR⟩
 rintro dd fr h' ⟨t0,t2,t3,t17,t18,iN,nO,k,t19,hd,hRk⟩;unfold zR;by_cases hc:(k:Int)<((cp A i).length:Int)
 .obtain⟨x,hx⟩:∃x,(cp A i)[k]?=some x:=⟨_,qQW (by omega)⟩;have hw:IntKind.i64.wrap ((k:Int)+1)=((k+1:Nat):Int):=by rw[wrap_i64 (by omega) (by omega)];push_cast;rfl
  obtain⟨bb,oo,hra,tv⟩:=di.ix hx;have tv:=tv .i64 (k:Int) h'
  have rA:eI h' bb oo 4=some (aX x):=by
   have:=(hra.mono iN).eI (i:=0) (n:=4) (by simp[aX]);simpa[aX] using this
  have ib:over [ae.int .i64 0,.int .i64 0,.int .u8 0,.int .i64 0] 0 (aX x)=aX x:=rfl;have jX:(aX x).length=4:=rfl;have pK:(aX x)[2]?=some (.int .u8 (x.l:Int)):=rfl;have Fb:(aX x)[1]?=some (.int .i64 x.to):=rfl;have XE:(aX x)[3]?=some (.int .i64 x.c):=rfl;have J7:=Ld (l:=l) (free:=free) hx;by_cases hxl:x.l=l
  .have XM:(x.l:Int)=(l:Int):=by omega
   have P2:=P.mono iN;have l3:aN (h'.push (.cells (aX x) 52)) mb 3=some (.bool free):=by rw[bt P2.lt,aq P2.obj];rfl
   have go:∀ha,aU h0 ha->Kept h0.next h' ha->Ec E2 f (.int .i64 x.to :: .int .i64 (if free then 0 else x.c) :: cap) ha λ_ b=>R (tS l free ((cp A i).take (k+1))) b/\aU h0 b/\ha.next<=b.next:=by
    intro ha q1 q2;rw[J7,if_pos hxl];refine call _ _ _ ha ?_ (YF _ h' ha hRk (by have:=iN.next;omega) q2) q1 q1.next;rw[pL];have:=PQ (l:=l) (free:=free) (xs:=cp A i) (k+1);rw[J7,if_pos hxl]at this;exact this
   have aS:aU h0 (h'.push (.cells (aX x) 52)):=iN.push _;have K2:Kept h0.next h' (h'.push (.cells (aX x) 52)):=Kept.of ((aU.refl h').push _);have GK:(h'.push (.cells (aX x) 52)).next=h'.next+1:=rfl;cases free with
   |false =>
    simp only[go_sem,Nat.reduceEqDiff,Nat.reduceAdd,reduceCtorEq,t0,t2,t3,t17,t18,t19,hc,tv _ rfl,rA,ib,jX,Fb,pK,XE,XM,l3];refine⟨hf,(go _ aS K2).mono ?_⟩;rintro r b ⟨r1,r2,r3⟩;simp only[go_sem,Nat.reduceEqDiff,reduceCtorEq,t0,t2,t3,t17,t18,t19,hw];exact⟨dd-1,by omega,r2,by omega,k+1,rfl,by omega,r1⟩
   |true =>
    have gz:(h'.push (.cells (aX x) 52)).get h'.next=some (.cells (aX x) 52):=aa.ai _ _;have cS:=aD (o:=3) (n:=1) (vs:=[.int .i64 0]) gz rfl (by show 3+1<=4;omega);rw[bW]at cS;simp only[go_sem,Nat.reduceEqDiff,Nat.reduceAdd,reduceCtorEq,t0,t2,t3,t17,t18,t19,hc,tv _ rfl,rA,ib,jX,pK,XM,l3,cS];have gz2:((h'.push (.cells (aX x) 52)).put h'.next (.cells ((aX x).set 3 (.int .i64 0)) 52)).get h'.next=some (.cells ((aX x).set 3 (.int .i64 0)) 52):=aa.aj _ _ _;have k1:aN ((h'.push (.cells (aX x) 52)).put h'.next (.cells ((aX x).set 3 (.int .i64 0)) 52)) h'.next 1=some (.int .i64 x.to):=by rw[aq gz2];rfl
    have k3:aN ((h'.push (.cells (aX x) 52)).put h'.next (.cells ((aX x).set 3 (.int .i64 0)) 52)) h'.next 3=some (.int .i64 0):=by rw[aq gz2];rfl
    have CK:=iN.next;simp only[go_sem,Nat.reduceEqDiff,k1,k3];refine⟨hf,(go _ (aS.put (by omega) _) ⟨by show h'.next<=h'.next+1;omega,λb x1 x2=>(aa.ah _ _ (by omega)).trans (K2.get b x1 x2)⟩).mono ?_⟩;rintro r b ⟨r1,r2,r3⟩;have r3:h'.next+1<=b.next:=r3;simp only[go_sem,Nat.reduceEqDiff,reduceCtorEq,t0,t2,t3,t17,t18,t19,hw];exact⟨dd-1,by omega,r2,by omega,k+1,rfl,by omega,r1⟩
  .have XM:¬(x.l:Int)=(l:Int):=by omega
   simp only[go_sem,Nat.reduceEqDiff,Nat.reduceAdd,reduceCtorEq,t0,t2,t3,t17,t18,t19,hc,tv _ rfl,rA,ib,jX,pK,XM,hw];refine⟨dd-1,by omega,iN.push _,by omega,k+1,rfl,by omega,?_⟩;rw[J7,if_neg hxl,qWA];exact YF _ h' _ hRk iN.next (Kept.of ((aU.refl h').push _))
 .obtain rfl:k=(cp A i).length:=by omega
  simp only[go_sem,reduceCtorEq,t18,t19,hc];rw[qZY]at hRk;exact⟨iN,hRk,nO⟩
def iw {A:aY}(hA:fH A.n A.aW){i:Nat}{x:dH}(hx:x∈cp A i):kY A.n x/\x.fr=(i:Int):=by
 unfold cp at hx;rw[qZM]at hx;obtain⟨j,hj⟩:=qQL.1 hx.1;exact⟨(hA j x hj).1,by simpa using hx.2⟩
def zW {A:aY}(hE:gK A.n A.ends)(i:Nat):bm A.ends i<=1000000:=by
 unfold bm;split
 .rename_i x hx;obtain⟨j,hj⟩:=qQL.1 (qWG hx);exact(hE j x hj).1.2.2.2
 .decide
def UA {A:aY}{n:Nat}{free:Bool}{h0:aa}{mb:Nat}{vo vf va:ae}{rows:List ae}(P:QF A n free h0 mb vo vf va rows) :
 Vh (xH A free) (.int .i64) (.iface 37 (.ptr mb 0)) h0.next (aU h0) (λc=>0<=c/\c<(n:Int)) where
 iface:=⟨_,_,rfl⟩
 frame h h' H U:=⟨by have:=H.next;have:=U.next;omega,λb hb=>(U.get b hb).trans (H.get b hb)⟩
 SN:=⟨qKV 0,by have:=P.n1;show(0:Int)<(n:Int);omega⟩
 r7 c l d k hc hm:=by
  obtain⟨x,hx,e⟩:=qQB.1 (show(d,k)∈((cp A c.toNat).filter λx=>decide (x.l=l)).map λx=>(x.to,if free then(0:Int) else x.c) from hm);cases e;obtain⟨h1,h2⟩:=iw P.aW (qZM.1 hx).1;obtain⟨a1,a2,a3,_⟩:=h1;have:=P.an;exact⟨by omega,by omega⟩
 start h K hn hI hK:=Ea Kq ((UB (mb:=mb) (h:=h)).mono λv h' ⟨e1,e2⟩=>by subst e1;subst e2;exact hK h' hI (Kept.refl _ _))
 live c h K hc hn hI hK:=by
  obtain⟨i,rfl⟩:∃i:Nat,c=(i:Int):=⟨c.toNat,by omega⟩;refine Ea OQ ((Yl (P.mono hI) (i:=i) (by omega)).mono λv h' ⟨e1,e2⟩=>?_);subst e1;subst e2;exact hK h' hI (Kept.refl _ _)
 final c h K hc hn hI hK:=by
  obtain⟨i,rfl⟩:∃i:Nat,c=(i:Int):=⟨c.toNat,by omega⟩;refine Ea Kn ((Uz (P.mono hI) (i:=i) (by omega)).mono λv h' ⟨e1,e2⟩=>?_);subst e2;exact hK v h' e1 hI (Kept.refl _ _)
 step c l h f cap K R hc hl hn hI hf hR YF call hK:=by
  obtain⟨i,rfl⟩:∃i:Nat,c=(i:Int):=⟨c.toNat,by omega⟩;refine Ea OS ((Ym P hI (i:=i) (l:=l) (by omega) hl cap hf R hR (λdone a b h1 h2 h3=>YF done a b h1 h2 h3) (λdone d k a h1 h2 h3 h4=>(call done d k a h1 h2 h3 h4).mono λ_ b hb=>hb)).mono λv h' ⟨e1,e2,e3⟩=>?_);exact hK v h' e1 e2 e3
def ac9 {A:aY}{n:Nat}{free:Bool}{h0:aa}{mb:Nat}{vo vf va:ae}{rows:List ae}(P:QF A n free h0 mb vo vf va rows):QE (xH A free) (λc=>0<=c/\c<(n:Int)) (λc=>c*1000000) where
 nn c hc:=by have:=P.n4;constructor<;>omega
 step c l d k hc hm:=by
  obtain⟨x,hx,e⟩:=qQB.1 (show(d,k)∈((cp A c.toNat).filter λx=>decide (x.l=l)).map λx=>(x.to,if free then(0:Int) else x.c) from hm);obtain⟨h1,h2⟩:=iw P.aW (qZM.1 hx).1;obtain⟨a1,a2,a3,_,a5,a6⟩:=h1;cases free<;>(cases e;constructor<;>simp<;>omega)
 fin c f hc hf:=by
  have:=zW P.ends c.toNat;have hf:(if bm A.ends c.toNat<0 then none else some (if free then(0:Int) else bm A.ends c.toNat))=some f:=hf;split at hf
  .cases hf
  .cases hf;cases free<;>(constructor<;>simp<;>omega)
 Vl l kv hl:=by
  have:=iG (m:=(List.range n).map λi:Nat=>(i:Int)) kv λx hx=>by
   have:=hl x hx;exact qQB.2 ⟨x.toNat,qJX.2 (by omega),by omega⟩
  have h4:=P.n4;simp at this;omega
attribute [local go_sem] pW rH wB mg
def Wl {h:aa}{b l:Nat}{e:TypeId}(hl:l<256)(K:ae->aa->Prop):cbV (.slice b 0 1 1 true) (h.put b (.cells [.int .u8 (l:Int)] e)) K=K (.str [l]) (h.put b (.cells [.int .u8 (l:Int)] e)):=by
 show cR (eJ ((h.put b (.cells [.int .u8 (l:Int)] e)).get b) λc _ _=>aO (Nat.ble (Nat.add 0 1) (cJ c)) (ob (eD (bD 1 (bG 0 c))) λl'=>some (ae.str l',h.put b (.cells [.int .u8 (l:Int)] e))) none) (λr=>K r.1 r.2)=_;rw[aa.aj];show cR (ob (eD ([l].map λ(x:Nat)=>ae.int .u8 (x:Int))) λl'=>some (ae.str l',h.put b (.cells [.int .u8 (l:Int)] e))) (λr=>K r.1 r.2)=_;rw[qg [l] (by simpa using hl)];exact aL
structure VU (A:aY)(n K:Nat) where
 Inv:Nat->List tm->List dE->Bool->Prop
 P6:Nat->Nat->List dE->Prop
 Mid:Nat->Nat->Nat->List tm->List dE->Prop
 BG:Nat->Nat->Option tm->Prop
 hK:K<=100000
 fresh:∀i D Q,Inv i D Q false->D=[]/\Q=[]
 b0:∀i,i<n->bm A.ends i<0->P6 i 0 []
 b1:∀i,i<n->0<=bm A.ends i->P6 i 0 (tQ [] ⟨[],bm A.ends i,-1,0⟩)
 bN:∀i k Q x,i<n->P6 i k Q->(cp A i)[k]?=some x->BG x.to.toNat 0 none->P6 i (k+1) Q
 bS:∀i k Q x y,i<n->P6 i k Q->(cp A i)[k]?=some x->BG x.to.toNat 0 (some y)->P6 i (k+1) (tQ Q ⟨x.l :: y.t,x.c+y.c,k,0⟩)
 bE:∀i Q,i<n->P6 i (cp A i).length Q->Inv i [] Q true
 aez:∀i k Q,P6 i k Q->Q.length<=10000000
 acy:∀i D Q b,Inv i D Q b->Q.length<=10000000/\D.length<=K+i
 ahv:∀i D Q Q' c,i<n->Inv i D Q true->D.length<K+i->Bb Q=Q'++[c]->c.uM<0->Inv i (D++[c.Bd]) Q' true
 ahw:∀i D Q Q' c,i<n->Inv i D Q true->D.length<K+i->Bb Q=Q'++[c]->0<=c.uM->∃(a r:Nat)(x:dH),c.uM=(a:Int)/\c.ng=(r:Int)/\(cp A i)[a]?=some x/\Mid i a (r+1) (D++[c.Bd]) Q'/\r+2<=K+x.to.toNat/\Q'.length<=10000000
 mN:∀i a r D Q x,i<n->Mid i a r D Q->(cp A i)[a]?=some x->BG x.to.toNat r none->Inv i D Q true
 mS:∀i a r D Q x y,i<n->Mid i a r D Q->(cp A i)[a]?=some x->BG x.to.toNat r (some y)->Inv i D (tQ Q ⟨x.l :: y.t,x.c+y.c,a,r⟩) true
 aes:∀i D Q r y,i<n->Inv i D Q true->D[r]?=some y->BG i r (some y)
 aer:∀i D r,i<n->Inv i D [] true->D.length<=r->BG i r none
 aeq:∀i r y,BG i r (some y)->y.t.length<=1000000/\0<=y.c/\y.c<=1000000000000
section
variable{A:aY}{n K:Nat}(L:VU A n K)
def Vk (S:List Slot)(i:Nat):Prop:=∀j,i<=j->j<n->∃D Q b,S[3*j]?=some (.done D)/\S[3*j+1]?=some (.wait Q)/\S[3*j+2]?=some (.flag b)/\L.Inv j D Q b
structure RkM (A:aY)(n:Nat)(rows:List ae):Prop where
 an:A.n=(n:Int)
 n1:1<=n
 n4:n<=400
 aW:fH A.n A.aW
 ends:gK A.n A.ends
 l4:A.aW.length<=4000
 rl:rows.length=n
def GV (A:aY)(vo vf:ae)(rows:List ae)(v:ae):Prop:=v=vo\/v=vf\/∃j:Nat,rows[j]?=some v/\cp A j≠[]
def cg.empty {h h':aa}{size:Nat}{v:ae}(H:cg h size v []):cg h' size v [] :=
 ⟨H.1,H.2.imp id λ⟨b,o,c,ex,e,_⟩=>⟨b,o,c,ex,e,.inl rfl⟩⟩
def Bh {A:aY}{h h':aa}{vo vf:ae}{rows:List ae}{j:Nat}{x:ae}(hx:rows[j]?=some x)(H:eS h x (cp A j))(hn:h.next<=h'.next)(hg:∀v b,GV A vo vf rows v->aM v b->h'.get b=h.get b):eS h' x (cp A j):=by
 by_cases he:cp A j=[]
 .unfold eS at H ⊢;rw[he] at H ⊢;exact cg.empty H
 .exact cg.frame H hn λb hb=>hg x b (.inr (.inr ⟨j,hx,he⟩)) hb
def cg.blt {h:aa}{size:Nat}{v:ae}{xs:List (List ae)}(H:cg h size v xs)(dV:xs≠[]){b:Nat}(hb:aM v b):b<h.next:=by
 obtain⟨o,n,c,e,rfl⟩:=hb;rcases H.2 with⟨h1,_⟩|⟨b',o',c',Zt,e',hr⟩
 .exact absurd h1 dV
 .cases e';rcases hr with h1|hr
  .exact absurd h1 dV
  .exact hr.1
structure Cm (A:aY)(n rb:Nat)(vo vf:ae)(rows:List ae)(sb:Nat)(h:aa)(cs:List ae)(S:List Slot):Prop where
 a:sP 0 sb h cs S
 IA:cg h 1 vo (rows.map λx=>[x])
 row:∀(j:Nat)(x:ae),rows[j]?=some x->eS h x (cp A j)
 CN:cg h 1 vf ((List.range n).map λi=>[.int .i64 (bm A.ends i)])
 ob:h.get rb=some (.cells [vo,vf,.slice sb 0 n n true] 149)
 rlt:rb<h.next
 nr:¬p8 sb cs rb
 nv:∀(v:ae)(b:Nat),GV A vo vf rows v->aM v b->b<h.next/\¬p8 sb cs b
def Cm.step {rb sb:Nat}{vo vf:ae}{rows:List ae}{h h':aa}{cs oz:List ae}{S S':List Slot}(H:Cm A n rb vo vf rows sb h cs S)(H':sP 0 sb h' oz S')(F:yx sb h cs h' oz):Cm A n rb vo vf rows sb h' oz S' :=
 have hg:∀(v:ae)(b:Nat),GV A vo vf rows v->aM v b->h'.get b=h.get b:=λv b hv hb=>F.get b (H.nv v b hv hb).1 (H.nv v b hv hb).2
 ⟨H',H.IA.frame F.next λb hb=>hg _ b (.inl rfl) hb,λj x hx=>Bh hx (H.row j x hx) F.next hg,H.CN.frame F.next λb hb=>hg _ b (.inr (.inl rfl)) hb,
  (F.get rb H.rlt H.nr).trans H.ob,qQG H.rlt F.next,λho=>H.nr (F.own rb H.rlt ho),λv b hv hb=>⟨qQG (H.nv v b hv hb).1 F.next,λho=>(H.nv v b hv hb).2 (F.own b (H.nv v b hv hb).1 ho)⟩⟩
def Cm.hle {rb sb:Nat}{vo vf:ae}{rows:List ae}{h h':aa}{cs:List ae}{S:List Slot}(H:Cm A n rb vo vf rows sb h cs S)(hl:aU h h'):Cm A n rb vo vf rows sb h' cs S:=H.step (H.a.hle hl) (.of hl)
variable{rb sb:Nat}{vo vf:ae}{rows:List ae}
def QB (rb:Nat)(vo vf:ae)(rows:List ae)(sb i:Nat):Prop:=∀(h:aa)(cs:List ae)(S:List Slot)(r:Nat),Cm A n rb vo vf rows sb h cs S->S.length=3*n->Vk L S i->r+1<=K+i ->
 Ec E2 50 [.ptr rb 0,.int .i64 (i:Int),.int .i64 (r:Int)] h λv h'=>∃oz S' o,v=.eC [.agg (fN (o.getD ⟨[],0⟩)),.bool o.isSome]/\sP 0 sb h' oz S'/\yx sb h cs h' oz/\S'.length=S.length/\(∀k,k<3*i->S'[k]?=S[k]?)/\Vk L S' i/\L.BG i r o
def Mr {h:aa}{cs:List ae}{S:List Slot}(H:Cm A n rb vo vf rows sb h cs S){b:Nat}(iB:h.next<=b):¬p8 sb cs b:=by
 rintro(rfl|⟨k,v,hv,JR⟩)
 .have:=H.a.lt.2;omega
 .have:=(H.a.low k v b hv JR).2.1;omega
def Ms (M:RkM A n rows){h:aa}{cs:List ae}{S:List Slot}(H:Cm A n rb vo vf rows sb h cs S)(hS:S.length=3*n){i a r:Nat}{x:dH}(hi:i<n)(hx:(cp A i)[a]?=some x)
 (hg:QB L rb vo vf rows sb x.to.toNat) (hI:Vk L S (i+1)) {Q:List dE} (hQ:S[3*i+1]?=some (.wait Q)) (hQl:Q.length<=10000000) (hr:r+1<=K+x.to.toNat) :
 Ec E2 74 [.ptr rb 0,.int .i64 (i:Int),.int .i64 (a:Int),.int .i64 (r:Int)] h λ_ h'=>∃oz S' o,sP 0 sb h' oz S'/\yx sb h cs h' oz/\S'.length=S.length/\(∀k,k<3*i+3->k≠3*i+1->S'[k]?=S[k]?)/\Vk L S' (i+1)/\L.BG x.to.toNat r o /\
   S'[3*i+1]?=some (.wait (match o with|none=>Q|some y=>tQ Q ⟨x.l :: y.t,x.c+y.c,a,r⟩)):=by
 obtain⟨kN,B0⟩:=iw M.aW (qQK hx)
 have rq:i+1<=x.to.toNat/\x.to.toNat<n/\x.to=((x.to.toNat:Nat):Int):=by
  have:=M.an;unfold kY at kN;omega
 obtain⟨row,di⟩:∃row,rows[i]?=some row:=⟨_,qQW (by rw[M.rl];exact hi)⟩;have LR:h.get rb=some (.cells [vo,vf,.slice sb 0 n n true] 149):=H.ob;have q0:aN h rb 0=some vo:=by rw[aq LR];rfl
 obtain⟨b1,o1,r1,i1⟩:=H.IA.ix (j:=i) (x:=[row]) (by rw[qQX,di];rfl);have l1:aN h b1 o1=some row:=r1.aN (i:=0) rfl;obtain⟨b2,o2,r2,i2⟩:=(show cg h 4 row ((cp A i).map aX) from H.row i row di).ix (j:=a) (x:=aX x) (by rw[qQX,hx];rfl);have l2:eI h b2 o2 4=some [.int .i64 x.fr,.int .i64 x.to,.int .u8 (x.l:Int),.int .i64 x.c]:=by simpa[aX] using r2.eI (i:=0) (n:=4) (by simp[aX])
 refine Ec.bu (aI (by decide)) Np ?_;unfold RR;simp only[go_sem,Nat.reduceEqDiff,Nat.reduceAdd,reduceCtorEq,q0,i1 _ _ _ _ rfl,l1,i2 _ _ _ _ rfl,l2];have aS:aU h (h.push (.cells [.int .i64 x.fr,.int .i64 x.to,.int .u8 (x.l:Int),.int .i64 x.c] 52)):=(aU.refl h).push _;have g2:(h.push (.cells [.int .i64 x.fr,.int .i64 x.to,.int .u8 (x.l:Int),.int .i64 x.c] 52)).get h.next=some (.cells [.int .i64 x.fr,.int .i64 x.to,.int .u8 (x.l:Int),.int .i64 x.c] 52):=aa.ai _ _;have n2:(h.push (.cells [.int .i64 x.fr,.int .i64 x.to,.int .u8 (x.l:Int),.int .i64 x.c] 52)).next=h.next+1:=rfl;generalize (h.push (.cells [.int .i64 x.fr,.int .i64 x.to,.int .u8 (x.l:Int),.int .i64 x.c] 52))=h2 at aS g2 n2 ⊢;have uP:=hg h2 cs S r (H.hle aS) hS (λj h1 h2=>hI j (by omega) h2) hr;rw[<-rq.2.2]at uP;refine⟨by decide,?_⟩;refine uP.mono ?_;rintro v h3 ⟨Vn,S3,o,rfl,H3,F3,hl3,CJ,DP,hA⟩;have uQ:=F3.next;have K3:Cm A n rb vo vf rows sb h3 Vn S3:=(H.hle aS).step H3 F3;have no2:¬p8 sb cs h.next:=Mr H (qQY _);have no3:¬p8 sb Vn h.next:=λho=>no2 (F3.own _ (by omega) ho);have g3:h3.get h.next=some (.cells [.int .i64 x.fr,.int .i64 x.to,.int .u8 (x.l:Int),.int .i64 x.c] 52):=(F3.get _ (by omega) no2).trans g2
 have Qe:Vk L S3 (i+1):=λj h1 h2=>by
  by_cases hj:x.to.toNat<=j
  .exact DP j hj h2
  .obtain⟨D,Q',b,e1,e2,e3,e4⟩:=hI j h1 h2;exact⟨D,Q',b,by rw[CJ _ (by omega)];exact e1,by rw[CJ _ (by omega)];exact e2,by rw[CJ _ (by omega)];exact e3,e4⟩
 have hF:yx sb h cs h3 Vn:=(yx.of aS).trans F3;have hQ3:S3[3*i+1]?=some (.wait Q):=by rw[CJ _ (by omega)];exact hQ
 cases o with
 |none =>
  unfold fN;simp only[go_sem,Nat.reduceEqDiff,Nat.reduceAdd,reduceCtorEq,Option.getD_none,Option.isSome_none];have dP:aU h3 (h3.push (.cells [.str [],.int .i64 0] 49)):=(aU.refl h3).push _;exact⟨Vn,S3,none,H3.hle dP,hF.trans (.of dP),hl3,λk h1 _=>CJ k (by omega),Qe,hA,hQ3⟩
 |some y =>
  obtain⟨y1,y2,y3⟩:=L.aeq _ _ _ hA;have ajD:h3.get rb=some (.cells [vo,vf,.slice sb 0 n n true] 149):=K3.ob;have dP:aU h3 (h3.push (.cells [.str y.t,.int .i64 y.c] 49)):=(aU.refl h3).push _;have g4:(h3.push (.cells [.str y.t,.int .i64 y.c] 49)).get h3.next=some (.cells [.str y.t,.int .i64 y.c] 49):=aa.ai _ _;have n4:(h3.push (.cells [.str y.t,.int .i64 y.c] 49)).next=h3.next+1:=rfl;unfold fN;simp only[go_sem,Nat.reduceEqDiff,Nat.reduceAdd,reduceCtorEq,qWW,qWY];generalize (h3.push (.cells [.str y.t,.int .i64 y.c] 49))=h4 at dP g4 n4 ⊢;have p2:aN h4 rb 2=some (.slice sb 0 n n true):=by rw[aq ((dP.get rb K3.rlt).trans ajD)];rfl
  have gx:h4.get h.next=some (.cells [.int .i64 x.fr,.int .i64 x.to,.int .u8 (x.l:Int),.int .i64 x.c] 52):=(dP.get _ (by omega)).trans g3;have x2:aN h4 h.next 2=some (.int .u8 (x.l:Int)):=by rw[aq gx];rfl
  have x3:aN h4 h.next 3=some (.int .i64 x.c):=by rw[aq gx];rfl
  have z0:aN h4 h3.next 0=some (.str y.t):=by rw[aq g4];rfl
  have z1:aN h4 h3.next 1=some (.int .i64 y.c):=by rw[aq g4];rfl
  have Xs:∀h' (K:ae->aa->Prop),fI 3 (.slice sb 0 n n true) (.int .i64 (i:Int)) h' K=K (.ptr sb (0+i*3)) h':=λh' K=>dj rfl hi;have hwc:IntKind.i64.wrap (x.c+y.c)=x.c+y.c:=wrap_i64 (by unfold kY at kN;omega) (by unfold kY at kN;omega);simp only[go_sem,Nat.reduceEqDiff,Nat.reduceAdd,reduceCtorEq,p2,x2,x3,z0,z1,Xs,hwc];have af7:x.l<256:=uu (by unfold kY at kN;exact kN.2.2.2.1);have Od:kZ .add .none (.str [x.l]) (.str y.t)=some (.str (x.l :: y.t)):=iQ (by simp;omega);simp only[go_sem,Nat.reduceEqDiff,Nat.reduceAdd,Nat.reduceLeDiff,reduceCtorEq,Wl af7,Od];have jy:aU h4 (aa.put ⟨h4.next+26,(h4.skip 26).t⟩ (h3.next+1+10) (.cells [.int .u8 (x.l:Int)] 5)):=((aU.refl h4).skip 26).put (by omega) _;generalize (aa.put ⟨h4.next+26,(h4.skip 26).t⟩ (h3.next+1+10) (.cells [.int .u8 (x.l:Int)] 5))=h5 at jy ⊢;have H5:=H3.hle (dP.trans jy);refine⟨by decide,?_⟩;rw[show i*3+1=3*i+1 by omega];refine(LU H5 hQ3 (by omega) ⟨x.l :: y.t,x.c+y.c,a,r⟩).mono ?_;rintro _ h6 ⟨cs6,H6,F6⟩;simp only[go_sem];refine⟨cs6,_,some y,H6,hF.trans ((yx.of (dP.trans jy)).trans F6),by rw[qKZ];exact hl3,λk h1 h2=>?_,λj h1 h2=>?_,hA,?_⟩
  .rw[qQH (Ne.symm h2)];exact CJ k (by omega)
  .obtain⟨D,Q',b,e1,e2,e3,e4⟩:=Qe j h1 h2;exact⟨D,Q',b,by rw[qQH (by omega)];exact e1,by rw[qQH (by omega)];exact e2,by rw[qQH (by omega)];exact e3,e4⟩
  .exact qJQ (by rw[hl3,hS];omega)
end
def Be (l:List tm):∀x,x∈l.map fN->x.length=2:=λx hx=>by obtain⟨a,_,rfl⟩:=qQB.1 hx;rfl
def Ps (l:List tm):∀x,x∈(l.map fN).flatten->x.flat=true:=by
 intro x hx;obtain⟨y,hy,lH⟩:=qJD.1 hx;obtain⟨a,_,rfl⟩:=qQB.1 hy;simp only[fN,qQF,qJK,or_false]at lH;rcases lH with rfl|rfl<;>rfl
def EJ {h:aa}{v:ae}{l:List tm}{e:TypeId}(H:dO h 2 e v (l.map fN).flatten):cg h 2 v (l.map fN):=H.cg (Be l) (by omega) (Ps l)
section
variable{A:aY}{n K:Nat}(L:VU A n K)
structure P8 (rb:Nat)(vo vf:ae)(rows:List ae)(sb i:Nat)(h0:aa)(vt:List ae)(S0:List Slot)(h:aa)(cs:List ae)(S:List Slot)(D:List tm)(Q:List dE):Prop where
 k:Cm A n rb vo vf rows sb h cs S
 f:yx sb h0 vt h cs
 len:S.length=S0.length
 low:∀k,k<3*i->S[k]?=S0[k]?
 d:S[3*i]?=some (.done D)
 q:S[3*i+1]?=some (.wait Q)
 b:S[3*i+2]?=some (.flag true)
 hi:Vk L S (i+1)
variable{rb sb:Nat}{vo vf:ae}{rows:List ae}
def SL {Qn Qr:Fr->aa->Prop}{Qx:Nat->Fr->aa->Prop}(M:RkM A n rows){i r q:Nat}(hin:i<n)(hr:r+1<=K+i)(hg:∀j,i<j->j<n->QB L rb vo vf rows sb j){h0:aa}{vt:List ae}{S0:List Slot}(hS0:S0.length=3*n)(hq0:¬p8 sb vt q)(hq1:q<h0.next)
 {fr:Fr} {h:aa} {cs:List ae} {S:List Slot} {D:List tm} {Q:List dE} (C:P8 L rb vo vf rows sb i h0 vt S0 h cs S D Q) (hI:L.Inv i D Q true)
 (t0:fr.get 0=some (.ptr rb 0)) (t1:fr.get 1=some (.int .i64 (i:Int))) (t2:fr.get 2=some (.int .i64 (r:Int))) (t6:fr.get 6=some (.ptr q 0)) (t8:fr.get 8=some (.ptr sb (3*i)))
 (hK:∀fr h cs S D Q,P8 L rb vo vf rows sb i h0 vt S0 h cs S D Q->L.Inv i D Q true->(r<D.length\/Q=[])->fr.get 2=some (.int .i64 (r:Int))->fr.get 6=some (.ptr q 0)->fr.get 8=some (.ptr sb (3*i))->Qx 2 fr h):wp E2 (.loop DA) fr h Qn Qx Qr:=by
 have hKb:=L.hK;refine fg (λd fr h=>∃cs S D Q,d+D.length=K+i/\P8 L rb vo vf rows sb i h0 vt S0 h cs S D Q/\L.Inv i D Q true/\fr.get 0=some (.ptr rb 0)/\fr.get 1=some (.int .i64 (i:Int))/\fr.get 2=some (.int .i64 (r:Int))/\fr.get 6=some (.ptr q 0)/\fr.get 8=some (.ptr sb (3*i))) (K+i-D.length) ?_ ?_
 .have:=(L.acy _ _ _ _ hI).2;exact⟨cs,S,D,Q,by omega,C,hI,t0,t1,t2,t6,t8⟩
 clear t0 t1 t2 t6 t8 C hI;clear fr h cs S D Q;rintro d fr h ⟨cs,S,D,Q,hd,C,hI,t0,t1,t2,t6,t8⟩;obtain⟨hQl,hDl⟩:=L.acy _ _ _ _ hI;obtain⟨dv,ZC,hD,ld⟩:=C.k.a.cell C.d;obtain⟨qv,hqv,hQ⟩:=C.k.a.qat C.q;have lq:=hQ.ld;have TY:∀h' (K:ae->aa->Prop),cH dv h' K=K (.int .i64 (D.length:Int)) h':=λh' K=>by rw[(EJ hD).len,qQD]
 unfold DA;have h4:=M.n4;by_cases hc:D.length<=r
 .have ku:¬(r:Int)<(D.length:Int):=by omega
  simp only[go_sem,Nat.reduceEqDiff,t2,t8,ld,TY,ku,lq];refine⟨by decide,?_⟩;refine(KW hQ.q.len).mono ?_;rintro v h2 ⟨rfl,rfl⟩;cases Q with
  |nil =>
   have e0:¬(0:Int)<((0:Nat):Int):=by omega
   simp only[go_sem,Nat.reduceEqDiff,reduceCtorEq,e0];exact hK _ _ _ _ _ _ C hI (.inr rfl) (by simp[T.ag,t2]) (by simp[T.ag,t6]) (by simp[T.ag,t8])
  |cons c0 Q =>
   have e0:(0:Int)<(((c0 :: Q).length:Nat):Int):=by simp
   obtain⟨Q0,hQ0⟩:∃Q0,Q0=c0 :: Q:=⟨_,rfl⟩;have dV:Q0≠[]:=by rw[hQ0];simp
   rw[<-hQ0]at e0 C hI hQ hQl ⊢;simp only[go_sem,Nat.reduceEqDiff,e0,t8];refine⟨by decide,?_⟩;refine(abE C.k.a C.q dV (by omega)).mono ?_;rintro v h3 ⟨Q1,c,hp,rfl,Vn,H3,F3⟩;unfold dc;simp only[go_sem,Nat.reduceEqDiff,Nat.reduceAdd];have dP:aU h3 (h3.push (.cells [.str c.t,.int .i64 c.c,.int .i64 c.uM,.int .i64 c.ng] 186)):=(aU.refl h3).push _;have g4:(h3.push (.cells [.str c.t,.int .i64 c.c,.int .i64 c.uM,.int .i64 c.ng] 186)).get h3.next=some (.cells [.str c.t,.int .i64 c.c,.int .i64 c.uM,.int .i64 c.ng] 186):=aa.ai _ _;have n4:(h3.push (.cells [.str c.t,.int .i64 c.c,.int .i64 c.uM,.int .i64 c.ng] 186)).next=h3.next+1:=rfl;generalize (h3.push (.cells [.str c.t,.int .i64 c.c,.int .i64 c.uM,.int .i64 c.ng] 186))=h4 at dP g4 n4 ⊢;have H4:=H3.hle dP;have hd4:(S.set (3*i+1) (.wait Q1))[3*i]?=some (.done D):=by rw[qQH (by omega)];exact C.d
   obtain⟨dv4,afO,hD4,ld4⟩:=H4.cell hd4;have c0':eI h4 h3.next 0 2=some [.str c.t,.int .i64 c.c]:=by rw[bX g4 (by simp)];rfl
   have c2':∀h',h'.get h3.next=h4.get h3.next->aN h' h3.next 2=some (.int .i64 c.uM):=λh' e=>by rw[aq (e.trans g4)];rfl
   have c3':∀h',h'.get h3.next=h4.get h3.next->aN h' h3.next 3=some (.int .i64 c.ng):=λh' e=>by rw[aq (e.trans g4)];rfl
   simp only[go_sem,Nat.reduceEqDiff,Nat.reduceAdd,t8,ld4,c0'];have jy:aU h4 (aa.put ⟨h4.next+12,(h4.skip 12).t⟩ (h3.next+1+7) (.cells [.str c.t,.int .i64 c.c] 49)):=((aU.refl h4).skip 12).put (by omega) _;have g5:(aa.put ⟨h4.next+12,(h4.skip 12).t⟩ (h3.next+1+7) (.cells [.str c.t,.int .i64 c.c] 49)).get (h3.next+1+7)=some (.cells [.str c.t,.int .i64 c.c] 49):=aa.aj _ _ _;have n5:(aa.put ⟨h4.next+12,(h4.skip 12).t⟩ (h3.next+1+7) (.cells [.str c.t,.int .i64 c.c] 49)).next=h4.next+12:=rfl;generalize (aa.put ⟨h4.next+12,(h4.skip 12).t⟩ (h3.next+1+7) (.cells [.str c.t,.int .i64 c.c] 49))=h5 at jy g5 n5 ⊢;have qu:cg h5 2 (.slice (h3.next+1+7) 0 1 1 true) [fN c.Bd]:=⟨by simp[fN],.inr ⟨_,_,_,_,rfl,.inr (by simpa[fN,dE.Bd] using fP.ed (by omega) g5 (by simp[ae.flat]))⟩⟩;have ami:=dO.frame (show dO h4 2 49 dv4 (D.map fN).flatten from hD4) jy.next λb hb=>jy.get b (H4.low _ _ b afO hb).2.1;have Mb:(D.map fN).flatten.length=D.length*2:=by rw[eH (Be D),qQD]
   refine kd ami (fG qu (by simp)) (by simp) (by simp[fN]) (by decide) (by rw[Mb];simp;omega) λv' h6 ho hn6 hg6 hb6=>?_;have Mo:nz dv4 h4 h6:=⟨by omega,λb hb vD=>(hg6 b (by omega) vD).trans (jy.get b hb)⟩
   have Qo:qW h6 v' (.done (D++[c.Bd])):=by
    have e:((D++[c.Bd]).map fN).flatten=(D.map fN).flatten++[fN c.Bd].flatten:=by simp
    show dO h6 2 49 v' ((D++[c.Bd]).map fN).flatten;rw[e];exact ho
   have ard:=H4.lt;obtain⟨p1,H7,F7⟩:=H4.store (s:=.done (D++[c.Bd])) afO Mo Qo (λb hb=>by have:=fu hb6 hb;exact⟨.inr (by omega),by omega⟩);have cf:v'.flat=true:=qW.flat Qo;generalize (h6.put sb (.cells (Vn.set (3*i) v') 182))=h7 at p1 H7 F7
   have nox:¬p8 sb Vn h3.next:=by
    rintro(e|⟨k,v,hv,JR⟩)
    .have:=H3.lt.2;omega
    .have:=(H3.low k v _ hv JR).2.1;omega
   have gx7:=F7.get h3.next (by omega) nox;have c2:=c2' _ gx7;have c3:=c3' _ gx7;have F07:=(F3.trans (yx.of dP)).trans F7;have K7:=C.k.step H7 F07;have hs7:((S.set (3*i+1) (.wait Q1)).set (3*i) (.done (D++[c.Bd]))).length=S0.length:=by rw[qKZ,qKZ];exact C.len
   have hq7:((S.set (3*i+1) (.wait Q1)).set (3*i) (.done (D++[c.Bd])))[3*i+1]?=some (.wait Q1):=by rw[qQH (by omega)];exact qJQ (by rw[C.len,hS0];omega)
   have C7:P8 L rb vo vf rows sb i h0 vt S0 h7 _ _ (D++[c.Bd]) Q1:=⟨K7,C.f.trans F07,hs7,λk hk=>by rw[qQH (by omega),qQH (by omega)];exact C.low k hk,qJQ (by rw[qKZ,C.len,hS0];omega),hq7,
    by rw[qQH (by omega),qQH (by omega)];exact C.b,λj h1 h2=>by
      obtain⟨D',Q',b,e1,e2,e3,e4⟩:=C.hi j h1 h2;exact⟨D',Q',b,by rw[qQH (by omega),qQH (by omega)];exact e1,by rw[qQH (by omega),qQH (by omega)];exact e2,by rw[qQH (by omega),qQH (by omega)];exact e3,e4⟩⟩
   by_cases ha:c.uM<0
   .have hI7:=L.ahv i D Q0 Q1 c hin hI (by omega) hp ha;simp only[go_sem,Nat.reduceEqDiff,reduceCtorEq,bM cf,p1,c2,ha];exact⟨d-1,by omega,_,_,_,_,by simp;omega,C7,hI7,by simp[t0],by simp[t1],by simp[t2],by simp[t6],by simp[t8]⟩
   .obtain⟨a,r',x,e1,e2,hx,afr,DQ,wX⟩:=L.ahw i D Q0 Q1 c hin hI (by omega) hp (by omega);have kN:=(iw M.aW (qQK hx))
    have rq:i<x.to.toNat/\x.to.toNat<n:=by
     have:=M.an;have h1:=kN.1;have h2:=kN.2;unfold kY at h1;omega
    have hw:IntKind.i64.wrap (c.ng+1)=((r'+1:Nat):Int):=by rw[e2,wrap_i64 (by omega) (by omega)];push_cast;rfl
    simp only[go_sem,Nat.reduceEqDiff,reduceCtorEq,bM cf,p1,c2,c3,ha,hw,t0,t1];refine⟨by decide,?_⟩;rw[e1];refine(Ms L M K7 (hs7.trans hS0) hin hx (hg _ rq.1 rq.2) C7.hi hq7 wX (r:=r'+1) (by omega)).mono ?_;rintro _ h8 ⟨cs8,S8,o,H8,F8,hl8,Ai,hI8,hA8,hQ8⟩;have C8:∀Q2,S8[3*i+1]?=some (.wait Q2)->P8 L rb vo vf rows sb i h0 vt S0 h8 cs8 S8 (D++[c.Bd]) Q2:=λQ2 e=>⟨K7.step H8 F8,C7.f.trans F8,hl8.trans hs7,λk hk=>(Ai k (by omega) (by omega)).trans (C7.low k hk),(Ai _ (by omega) (by omega)).trans C7.d,e,(Ai _ (by omega) (by omega)).trans C7.b,hI8⟩;simp only[go_sem,Nat.reduceEqDiff,reduceCtorEq];cases o with
    |none=>exact⟨d-1,by omega,_,_,_,_,by simp;omega,C8 _ hQ8,L.mN _ _ _ _ _ _ hin afr hx hA8,by simp[t0],by simp[t1],by simp[t2],by simp[t6],by simp[t8]⟩
    |some y=>exact⟨d-1,by omega,_,_,_,_,by simp;omega,C8 _ hQ8,L.mS _ _ _ _ _ _ _ hin afr hx hA8,by simp[t0],by simp[t1],by simp[t2],by simp[t6],by simp[t8]⟩
 .have ku:(r:Int)<(D.length:Int):=by omega
  simp only[go_sem,Nat.reduceEqDiff,reduceCtorEq,t2,t8,ld,TY,ku];exact hK _ _ _ _ _ _ C hI (.inl (by omega)) (by simp[T.ag,t2]) (by simp[T.ag,t6]) (by simp[T.ag,t8])
end
def MA {k:ae->Prop}{h':aa}{fr:Fr}{b:Nat}{x y w:ae}{e:TypeId}(t6:fr.get 6=some (.ptr b 0))(t7:fr.get 7=some w)(g:h'.get b=some (.cells [x,y] e)):cR (bw E2 h' fr [.cell 6 49,.tmp 7]) k=k (.eC [.agg [x,y],w]):=by
 have ha:iV E2 49=some true:=by kernel_rfl
 have hs:E2.size 49=some 2:=by kernel_rfl
 have e2:aJ (.t 6) fr=.ptr b 0:=by simp only[go_sem,t6]
 have e3:aJ (.t 7) fr=w:=by simp only[go_sem,t7]
 have h1:gS E2 h' fr (.cell 6 49)=some (.agg [x,y]):=by
  unfold gS;simp only[ha,hs,e2];have:(ob (some true) λg=>ob (some 2) λn=>gu (ae.ptr b 0) λb o=>eJ (h'.get b) λc x own=>aO g (aO ((o.add n).ble (cJ c) && yk own (bD n (bG o c))) (some (ae.agg (bD n (bG o c)))) none) (ob (fW c o) λv=>aO (HG own v) (some v) none))=eJ (h'.get b) λc x own=>aO true (aO ((Nat.add 0 2).ble (cJ c) && yk own (bD 2 (bG 0 c))) (some (ae.agg (bD 2 (bG 0 c)))) none) (ob (fW c 0) λv=>aO (HG own v) (some v) none):=rfl;rw[this,g];rfl
 have h2:gS E2 h' fr (.tmp 7)=some w:=by show some (aJ (.t 7) fr)=_;rw[e3]
 have h3:bw E2 h' fr [.cell 6 49,.tmp 7]=some (.eC [.agg [x,y],w]):=by
  show ob (ob (gS E2 h' fr (.cell 6 49)) λv=>ob (ob (gS E2 h' fr (.tmp 7)) λv=>ob (some []) λvs=>some (v :: vs)) λvs=>some (v :: vs)) _=_;rw[h1,h2]
 rw[h3];exact aL
def sP.put {n0 sb:Nat}{h:aa}{cs:List ae}{S:List Slot}(H:sP n0 sb h cs S){x:Nat}(hx:¬p8 sb cs x)(o:aE):sP n0 sb (h.put x o) cs S :=
 ⟨H.lt,(aa.ah _ _ λe=>hx (.inl e)).trans H.get,H.len,λk v s hv hs=>(H.slot k v s hv hs).frame (qQY _) λb hb=>aa.ah _ _ λe=>hx (.inr ⟨k,v,hv,e▸hb⟩),H.JA,H.low⟩
section
variable{A:aY}{n K:Nat}(L:VU A n K)
variable{rb sb:Nat}{vo vf:ae}{rows:List ae}
def SK {Qn Qr:Fr->aa->Prop}{Qx:Nat->Fr->aa->Prop}(M:RkM A n rows){i r q:Nat}(hin:i<n)(hg:∀j,i<j->j<n->QB L rb vo vf rows sb j){h0:aa}{vt:List ae}{S0:List Slot}(hS0:S0.length=3*n)
 {fr:Fr} {h:aa} {cs:List ae} {S:List Slot} {Q:List dE} (C:P8 L rb vo vf rows sb i h0 vt S0 h cs S [] Q) (hI:L.P6 i 0 Q)
 (t0:fr.get 0=some (.ptr rb 0)) (t1:fr.get 1=some (.int .i64 (i:Int))) (t2:fr.get 2=some (.int .i64 (r:Int))) (t6:fr.get 6=some (.ptr q 0)) (t8:fr.get 8=some (.ptr sb (3*i))) (t53:fr.get 53=some (.int .i64 ((cp A i).length:Int))) (t54:fr.get 54=some (.int .i64 0))
 (hK:∀fr h cs S Q,P8 L rb vo vf rows sb i h0 vt S0 h cs S [] Q->L.P6 i (cp A i).length Q->fr.get 0=some (.ptr rb 0)->fr.get 1=some (.int .i64 (i:Int))->fr.get 2=some (.int .i64 (r:Int))->fr.get 6=some (.ptr q 0)->fr.get 8=some (.ptr sb (3*i))->Qx 0 fr h):wp E2 (.loop Dz) fr h Qn Qx Qr:=by
 have J0:(cp A i).length<=4000:=by have:=M.l4;unfold cp;exact qZC (qVV _ _) this
 refine fg (λd fr h=>∃cs S Q k,d+k=(cp A i).length/\P8 L rb vo vf rows sb i h0 vt S0 h cs S [] Q/\L.P6 i k Q/\fr.get 0=some (.ptr rb 0)/\fr.get 1=some (.int .i64 (i:Int))/\fr.get 2=some (.int .i64 (r:Int))/\fr.get 6=some (.ptr q 0)/\fr.get 8=some (.ptr sb (3*i))/\fr.get 53=some (.int .i64 ((cp A i).length:Int))/\fr.get 54=some (.int .i64 (k:Int))) (cp A i).length ?_ ?_
 .exact⟨cs,S,Q,0,by omega,C,hI,t0,t1,t2,t6,t8,t53,t54⟩
 clear t0 t1 t2 t6 t8 t53 t54 C hI;clear fr h cs S Q;rintro d fr h ⟨cs,S,Q,k,hd,C,hI,t0,t1,t2,t6,t8,t53,t54⟩;unfold Dz;by_cases hc:(k:Int)<((cp A i).length:Int)
 .obtain⟨x,hx⟩:∃x,(cp A i)[k]?=some x:=⟨_,qQW (by omega)⟩;have kN:=(iw M.aW (qQK hx))
  have rq:i<x.to.toNat/\x.to.toNat<n:=by
   have:=M.an;have h1:=kN.1;have h2:=kN.2;unfold kY at h1;omega
  have hw:IntKind.i64.wrap ((k:Int)+1)=((k+1:Nat):Int):=by rw[wrap_i64 (by omega) (by omega)];push_cast;rfl
  simp only[go_sem,Nat.reduceEqDiff,reduceCtorEq,t0,t1,t53,t54,hc];refine⟨by decide,?_⟩;refine(Ms L M C.k (C.len.trans hS0) hin hx (hg _ rq.1 rq.2) C.hi C.q (L.aez _ _ _ hI) (r:=0) (by omega)).mono ?_;rintro _ h8 ⟨cs8,S8,o,H8,F8,hl8,Ai,hI8,hA8,hQ8⟩;have C8:∀Q2,S8[3*i+1]?=some (.wait Q2)->P8 L rb vo vf rows sb i h0 vt S0 h8 cs8 S8 [] Q2:=λQ2 e=>⟨C.k.step H8 F8,C.f.trans F8,hl8.trans C.len,λk hk=>(Ai k (by omega) (by omega)).trans (C.low k hk),(Ai _ (by omega) (by omega)).trans C.d,e,(Ai _ (by omega) (by omega)).trans C.b,hI8⟩;simp only[go_sem,Nat.reduceEqDiff,reduceCtorEq,t54,hw];cases o with
  |none=>exact⟨d-1,by omega,_,_,_,k+1,by omega,C8 _ hQ8,L.bN _ _ _ _ hin hI hx hA8,by simp[t0],by simp[t1],by simp[t2],by simp[t6],by simp[t8],by simp[t53],by simp[]⟩
  |some y=>exact⟨d-1,by omega,_,_,_,k+1,by omega,C8 _ hQ8,L.bS _ _ _ _ _ hin hI hx hA8,by simp[t0],by simp[t1],by simp[t2],by simp[t6],by simp[t8],by simp[t53],by simp[]⟩
 .simp only[go_sem,reduceCtorEq,t53,t54,hc];obtain rfl:k=(cp A i).length:=by omega
  exact hK _ _ _ _ _ C hI (by simp[T.ag,t0]) (by simp[T.ag,t1]) (by simp[T.ag,t2]) (by simp[T.ag,t6]) (by simp[T.ag,t8])
def afa (M:RkM A n rows):∀(d i:Nat),i<n->n-i<=d->QB L rb vo vf rows sb i:=by
 intro d
 induction d with
 |zero=>intro i hi hd;omega
 |succ d ih =>
 intro i hin hd h cs S r H hS hI hr;have hg:∀j,i<j->j<n->QB L rb vo vf rows sb j:=λj h1 h2=>ih j h2 (by omega);have hKb:=L.hK;have h4:=M.n4;obtain⟨D,Q,bg,e1,e2,e3,afo⟩:=hI i (qQY _) hin;have hI':Vk L S (i+1):=λj h1 h2=>hI j (by omega) h2;have bh:aU h (h.push (.cells [.str [],.int .i64 0] 49)):=(aU.refl h).push _;have g1:(h.push (.cells [.str [],.int .i64 0] 49)).get h.next=some (.cells [.str [],.int .i64 0] 49):=aa.ai _ _;have n1:(h.push (.cells [.str [],.int .i64 0] 49)).next=h.next+1:=rfl;refine Ec.bu (aI (by decide)) WG ?_;unfold I';have LR:∀h' oz S',Cm A n rb vo vf rows sb h' oz S'->h'.get rb=some (.cells [vo,vf,.slice sb 0 n n true] 149):=λh' oz S' H'=>H'.ob;have H1:=H.hle bh;have q2:aN (h.push (.cells [.str [],.int .i64 0] 49)) rb 2=some (.slice sb 0 n n true):=by rw[aq (LR _ _ _ H1)];rfl
 have Xs:∀h' (K:ae->aa->Prop),fI 3 (.slice sb 0 n n true) (.int .i64 (i:Int)) h' K=K (.ptr sb (3*i)) h':=λh' K=>by rw[dj rfl hin,show 0+i*3=3*i by omega]
 obtain⟨bv,vD,hB,lb⟩:=H1.a.cell e3;have hB:bv=.bool bg:=hB;subst hB;have no:¬p8 sb cs h.next:=Mr H (qQY _);have O2:h.next<(h.push (.cells [.str [],.int .i64 0] 49)).next:=qJA _;rcases bg with _|_
 case' false =>
  obtain⟨rfl,rfl⟩:=L.fresh _ _ _ afo;obtain⟨row,di⟩:∃row,rows[i]?=some row:=⟨_,qQW (by rw[M.rl];exact hin)⟩;have hlen:∀h' (K:ae->aa->Prop),cH row h' K=K (.int .i64 ((cp A i).length:Int)) h':=λh' K=>eS.len (H.row i row di) h' K;have J7:=H.a.lt;obtain⟨p1,H2,F2⟩:=H1.a.store (s:=.flag true) (v':=.bool true) (h1:=h.push (.cells [.str [],.int .i64 0] 49)) vD (.refl _ _) rfl (λb hb=>by obtain⟨_,_,_,_,e⟩:=hb;cases e);simp only[go_sem,Nat.reduceEqDiff,Nat.reduceAdd,reduceCtorEq,q2,Xs,lb,p1];generalize (h.push (.cells [.str [],.int .i64 0] 49))=h1 at bh g1 n1 H1 q2 lb O2 H2 F2 p1 ⊢;generalize (h1.put sb (.cells (cs.set (3*i+2) (.bool true)) 182))=h2 at p1 H2 F2 ⊢;have K2:=H1.step H2 F2;have hq1:aN h2 rb 1=some vf:=by rw[aq (LR _ _ _ K2)];rfl
  obtain⟨b1,o1,r1,i1⟩:=K2.CN.ix (j:=i) (x:=[.int .i64 (bm A.ends i)]) (by rw[qQX];simp[hin]);have lf2:aN h2 b1 o1=some (.int .i64 (bm A.ends i)):=r1.aN (i:=0) rfl
  have rws:∀h' oz S',Cm A n rb vo vf rows sb h' oz S'->∃b o,aN h' b o=some row/\∀(k:IntKind)(j:Int)(h':aa)(K:ae->aa->Prop),j=(i:Int)->fI 1 vo (.int k j) h' K=K (.ptr b o) h':=λh' oz S' H'=>by
   obtain⟨b,o,r,ii⟩:=H'.IA.ix (j:=i) (x:=[row]) (by rw[qQX,di];rfl);exact⟨b,o,r.aN (i:=0) rfl,ii⟩
  have hq0:∀h' oz S',Cm A n rb vo vf rows sb h' oz S'->aN h' rb 0=some vo:=λh' oz S' H'=>by rw[aq (LR _ _ _ H')];rfl
  have qx:(S.set (3*i+2) (.flag true)).length=S.length:=qKZ
  have C2:P8 L rb vo vf rows sb i h1 cs S h2 _ _ [] []:=⟨K2,F2,qx,λk hk=>qQH (by omega),by rw[qQH (by omega)];exact e1,by rw[qQH (by omega)];exact e2,qJQ (by rw[hS];omega),λj g1 g2=>by
   obtain⟨D',Q',b,e1,e2,e3,e4⟩:=hI' j g1 g2;exact⟨D',Q',b,by rw[qQH (by omega)];exact e1,by rw[qQH (by omega)];exact e2,by rw[qQH (by omega)];exact e3,e4⟩⟩
  by_cases hf:bm A.ends i<0
  case' pos =>
   have hB0:=L.b0 i hin hf;obtain⟨b2,o2,se,i2⟩:=rws _ _ _ K2;have alk:=hq0 _ _ _ K2;simp only[go_sem,Nat.reduceEqDiff,reduceCtorEq,hq1,i1 _ _ _ _ rfl,lf2,hf,alk,i2 _ _ _ _ rfl,se,hlen];refine SK L M hin hg hS C2 hB0 (r:=r) (q:=h.next) (by simp[T.ag]) (by simp[T.ag]) (by simp[T.ag]) (by simp[T.ag]) (by simp[T.ag]) (by simp[T.ag]) (by simp[T.ag]) ?_
  case' neg =>
   have hB0:=L.b1 i hin (by omega);simp only[go_sem,Nat.reduceEqDiff,Nat.reduceAdd,Nat.reduceLeDiff,reduceCtorEq,hq1,i1 _ _ _ _ rfl,lf2,hf];refine⟨by decide,?_⟩;refine(LU C2.k.a C2.q (by simp) ⟨[],bm A.ends i,-1,0⟩).mono ?_;rintro _ h3 ⟨Vn,H3,F3⟩;have K3:=K2.step H3 F3
   have C3:P8 L rb vo vf rows sb i h1 cs S h3 Vn _ [] (tQ [] ⟨[],bm A.ends i,-1,0⟩):=⟨K3,F2.trans F3,by rw[qKZ];exact qx,λk hk=>by rw[qQH (by omega)];exact C2.low k hk,by rw[qQH (by omega)];exact C2.d,qJQ (by rw[qx,hS];omega),by rw[qQH (by omega)];exact C2.b,λj g1 g2=>by
    obtain⟨D',Q',b,e1,e2,e3,e4⟩:=C2.hi j g1 g2;exact⟨D',Q',b,by rw[qQH (by omega)];exact e1,by rw[qQH (by omega)];exact e2,by rw[qQH (by omega)];exact e3,e4⟩⟩
   obtain⟨b2,o2,hr3,i2⟩:=rws _ _ _ K3;have alm:=hq0 _ _ _ K3;simp only[go_sem,Nat.reduceEqDiff,reduceCtorEq,alm,i2 _ _ _ _ rfl,hr3,hlen];refine SK L M hin hg hS C3 hB0 (r:=r) (q:=h.next) (by simp[T.ag]) (by simp[T.ag]) (by simp[T.ag]) (by simp[T.ag]) (by simp[T.ag]) (by simp[T.ag]) (by simp[T.ag]) ?_
  all_goals
   intro fr h4 cs4 S4 Q4 C4 hB4 t0 t1 t2 t6 t8;have Qe:=L.bE i Q4 hin hB4;simp only[go_sem];refine SL L M hin hr hg hS no O2 C4 Qe t0 t1 t2 t6 t8 ?_
 case' true =>
  have C1:P8 L rb vo vf rows sb i (h.push (.cells [.str [],.int .i64 0] 49)) cs S (h.push (.cells [.str [],.int .i64 0] 49)) cs S D Q:=⟨H1,.refl _ _ _,rfl,λ_ _=>rfl,e1,e2,e3,hI'⟩;simp only[go_sem,Nat.reduceEqDiff,Nat.reduceAdd,reduceCtorEq,q2,Xs,lb];generalize (h.push (.cells [.str [],.int .i64 0] 49))=h1 at bh g1 n1 H1 q2 lb O2 C1 ⊢;refine SL L M hin hr hg hS no O2 C1 afo (r:=r) (q:=h.next) (by simp[T.ag]) (by simp[T.ag]) (by simp[T.ag]) (by simp[T.ag]) (by simp[T.ag]) ?_
 all_goals
  intro fr h5 cs5 S5 D5 Q5 C5 Zz hor t2 t6 t8;obtain⟨dv,ZC,hD,ld⟩:=C5.k.a.cell C5.d;have y7:=EJ hD;have TY:∀h' (K:ae->aa->Prop),cH dv h' K=K (.int .i64 (D5.length:Int)) h':=λh' K=>by rw[y7.len,qQD]
  have g5:h5.get h.next=some (.cells [.str [],.int .i64 0] 49):=(C5.f.get _ O2 no).trans g1;have no5:¬p8 sb cs5 h.next:=λho=>no (C5.f.own _ O2 ho);have Qg:=C5.f.next
  have hF:∀o,yx sb h cs (h5.put h.next o) cs5:=λo=>by
   have F:=(yx.of bh).trans C5.f;exact⟨F.next,λb hb ho=>(aa.ah _ _ (by omega)).trans (F.get b hb ho),F.own⟩
  have hI:Vk L S5 i:=λj h1 h2=>by
   by_cases hj:j=i
   .subst hj;exact⟨D5,Q5,true,C5.d,C5.q,C5.b,Zz⟩
   .exact C5.hi j (by omega) h2
  by_cases hc:(r:Int)<(D5.length:Int)
  .obtain⟨y,hy⟩:∃y,D5[r]?=some y:=⟨_,qQW (by omega)⟩;obtain⟨b,o,rr,ii⟩:=y7.ix (j:=r) (x:=fN y) (by rw[qQX,hy];rfl);have l2:eI h5 b o 2=some [.str y.t,.int .i64 y.c]:=by simpa[fN] using rr.eI (i:=0) (n:=2) (by simp[fN])
   have cS:=aD (o:=0) (n:=2) (vs:=[.str y.t,.int .i64 y.c]) g5 rfl (by simp);have ib:over [ae.str [],.int .i64 0] 0 [.str y.t,.int .i64 y.c]=[.str y.t,.int .i64 y.c]:=rfl;rw[ib]at cS;simp only[go_sem,Nat.reduceEqDiff,t2,t6,t8,ld,TY,hc,ii _ _ _ _ rfl,l2,cS];rw[MA (b:=h.next) (w:=.bool true) (by simp[T.ag,t6]) (by simp[T.ag]) (aa.aj _ _ _)];exact⟨cs5,S5,some y,rfl,C5.k.a.put no5 _,hF _,C5.len,C5.low,hI,L.aes _ _ _ _ _ hin Zz hy⟩
  .have cS:=aD (o:=0) (n:=2) (vs:=[.str [],.int .i64 0]) g5 rfl (by simp);have ib:over [ae.str [],.int .i64 0] 0 [.str [],.int .i64 0]=[.str [],.int .i64 0]:=rfl;rw[ib]at cS;simp only[go_sem,Nat.reduceEqDiff,reduceCtorEq,t2,t6,t8,ld,TY,hc,cS];rw[MA (b:=h.next) (w:=.bool false) (by simp[T.ag,t6]) (by simp[T.ag]) (aa.aj _ _ _)];have hQ5:Q5=[]:=hor.resolve_left (by omega);subst hQ5;exact⟨cs5,S5,none,rfl,C5.k.a.put no5 _,hF _,C5.len,C5.low,hI,L.aer _ _ _ hin Zz (by omega)⟩
end
section
variable(A:aY)(n K:Nat)
def Cl (i:Nat)(y:tm):Prop:=y.t.length<=n-i/\0<=y.c/\y.c<=1000000*(n-i:Nat)+1000000
def tT (i d:Nat)(c:dE):Prop:=Cl n i c.Bd/\(c.uM<0\/∃(a r:Nat)(x:dH),c.uM=(a:Int)/\c.ng=(r:Int)/\(cp A i)[a]?=some x/\r<=d)
def tT.mono {i d e:Nat}{c:dE}(h:tT A n i d c)(hd:d<=e):tT A n i e c :=
 ⟨h.1,h.2.imp id λ⟨a,r,x,h1,h2,h3,h4⟩=>⟨a,r,x,h1,h2,h3,qZC h4 hd⟩⟩
def Lu {i a r d:Nat}{x:dH}{y:tm}(hA:fH A.n A.aW)(hn:A.n=(n:Int))(hx:(cp A i)[a]?=some x)(hy:Cl n x.to.toNat y)(hr:r<=d):tT A n i d ⟨x.l :: y.t,x.c+y.c,a,r⟩:=by
 obtain⟨h1,h2⟩:=iw hA (qQK hx);unfold kY at h1;obtain⟨y1,y2,y3⟩:=hy;refine⟨⟨?_,?_,?_⟩,.inr ⟨a,r,x,rfl,rfl,hx,hr⟩⟩
 .show y.t.length+1<=n-i;omega
 .show 0<=x.c+y.c;omega
 .show x.c+y.c<=_;omega
def rkW (hK:K<=100000)(hA:fH A.n A.aW)(hE:gK A.n A.ends)(hn:A.n=(n:Int))(h4:n<=400)(hl:A.aW.length<=4000):VU A n K :=
 have J0:∀i,(cp A i).length<=4000:=λi=>by unfold cp;exact qZC (qVV _ _) hl
 have rq:∀{i a:Nat}{x:dH},(cp A i)[a]?=some x->i+1<=x.to.toNat:=λhx=>by
  obtain⟨h1,h2⟩:=iw hA (qQK hx);unfold kY at h1;omega
 {Inv:=λi D Q b=>(b=false->D=[]/\Q=[])/\D.length<=K+i/\Q.length<=(cp A i).length+1/\(∀y,y∈D->Cl n i y)/\∀c,c∈Q->tT A n i D.length c
  P6:=λi k Q=>Q.length<=k+1/\k<=(cp A i).length/\∀c,c∈Q->tT A n i 0 c
  Mid:=λi a r D Q=>D.length<=K+i/\Q.length<=(cp A i).length/\(∀y,y∈D->Cl n i y)/\(∀c,c∈Q->tT A n i D.length c)/\r<=D.length
  BG:=λi r o=>∀y,o=some y->Cl n i y
  hK:=hK
  fresh:=λi D Q h=>h.1 rfl
  b0:=λi hi hf=>⟨by simp,by simp,λc hc=>by cases hc⟩
  b1:=λi hi hf=>⟨by rw[xJ];simp,by simp,λc hc=>by
   rcases xK hc with h|rfl
   .cases h
   .have:=zW hE i;exact⟨⟨by simp[dE.Bd],hf,by show bm A.ends i<=_;omega⟩,.inl (by show(-1:Int)<0;omega)⟩⟩
  bN:=λi k Q x hi h hx _=>⟨by have:=h.1;omega,(qQZ.1 hx).1,h.2.2⟩
  bS:=λi k Q x y hi h hx hy=>⟨by rw[xJ];have:=h.1;omega,(qQZ.1 hx).1,λc hc=>by
   rcases xK hc with h1|rfl
   .exact h.2.2 c h1
   .exact Lu A n hA hn hx (hy y rfl) (qQY 0)⟩
  bE:=λi Q hi h=>⟨λe=>(by cases e),(by simp),h.1,λy hy=>(by cases hy),h.2.2⟩
  aez:=λi k Q h=>by have:=h.1;have:=h.2.1;have:=J0 i;omega
  acy:=λi D Q b h=>⟨by have:=h.2.2.1;have:=J0 i;omega,h.2.1⟩
  ahv:=λi D Q Q' c hi h hd hp hc=>by
   have B5:(Bb Q).length=Q.length:=v8 Q;rw[hp] at B5;have hm:∀z,z∈Q'++[c]->z∈Q:=λz hz=>HL (by rw[hp];exact hz);refine⟨λe=>(by cases e),by simp;omega,by have:=h.2.2.1;simp at B5;omega,λy hy=>?_,λz hz=>?_⟩
   .rcases qQE.1 hy with hy|hy
    .exact h.2.2.2.1 y hy
    .simp at hy;subst hy;exact(h.2.2.2.2 c (hm c (by simp))).1
   .exact(h.2.2.2.2 z (hm z (by simp[hz]))).mono _ _ (by simp)
  ahw:=λi D Q Q' c hi h hd hp hc=>by
   have B5:(Bb Q).length=Q.length:=v8 Q;rw[hp] at B5;simp at B5;have hm:∀z,z∈Q'++[c]->z∈Q:=λz hz=>HL (by rw[hp];exact hz);have kE:=h.2.2.2.2 c (hm c (by simp));have Tp:=h.2.2.1;have:=J0 i;rcases kE.2 with h0|⟨a,r,x,h1,h2,h3,h5⟩
   .omega
   refine⟨a,r,x,h1,h2,h3,⟨by simp;omega,by omega,λy hy=>?_,λz hz=>?_,by simp;omega⟩,by have:=rq h3;omega,by omega⟩
   .rcases qQE.1 hy with hy|hy
    .exact h.2.2.2.1 y hy
    .simp at hy;subst hy;exact kE.1
   .exact(h.2.2.2.2 z (hm z (by simp[hz]))).mono _ _ (by simp)
  mN:=λi a r D Q x hi h hx _=>⟨λe=>(by cases e),h.1,by have:=h.2.1;omega,h.2.2.1,h.2.2.2.1⟩
  mS:=λi a r D Q x y hi h hx hy=>⟨λe=>(by cases e),h.1,by rw[xJ];have:=h.2.1;omega,h.2.2.1,λc hc=>by
   rcases xK hc with h1|rfl
   .exact h.2.2.2.1 c h1
   .exact Lu A n hA hn hx (hy y rfl) h.2.2.2.2⟩
  aes:=λi D Q r y hi h hy z e=>by cases e;exact h.2.2.2.1 y (qQK hy)
  aer:=λi D r hi h hr y e=>by cases e
  aeq:=λi r y h=>by
   obtain⟨h1,h2,h3⟩:=h y rfl;exact⟨by omega,h2,by omega⟩}
end
def tG:ax->Bool
 |.skip=>true
 |.region l=>l.all λo=>!ur o.op
 |.drawn _ _=>false
 |.seq a b=>tG a && tG b
 |.cond _ a b=>tG a && tG b
 |.block _ a=>tG a
 |.loop _=>false
 |.exit _=>true
 |.ret=>true
def sD {E:Env}{f g:b9}:∀(l:List aQ),(l.all λo=>!ur o.op)=true->∀fr h,cP E f l fr h=cP E g l fr h
 |[],_,_,_=>rfl
 |o :: l,hl,fr,h=>by
  rw[List.all_cons,qZQ]at hl;have ho:ur o.op=false:=by simpa using hl.1
  show ob (aO (bj o.guard fr) (Pg E f o.op fr h) (some (aT,h))) (λr=>cP E f l (dB o.dst fr r.1) r.2)=ob (aO (bj o.guard fr) (Pg E g o.op fr h) (some (aT,h))) (λr=>cP E g l (dB o.dst fr r.1) r.2);rw[xD ho,xD ho];congr 1;funext r;exact sD l hl.2 _ _
def kL {E:Env}{f g:b9}{a b:Nat}:∀(c:ax),tG c=true->∀fr h,exec E f a c fr h=exec E g b c fr h
 |.skip,_,_,_=>rfl
 |.exit _,_,_,_=>rfl
 |.ret,_,_,_=>rfl
 |.region l,hl,fr,h=>by
  show ob (cP E f l fr h) _=ob (cP E g l fr h) _;rw[sD l hl]
 |.seq x y,hl,fr,h=>by
  have hl:(tG x && tG y)=true:=hl;rw[qZQ]at hl;show andThen (exec E f a x fr h) (exec E f a y)=andThen (exec E g b x fr h) (exec E g b y);rw[kL x hl.1];congr 1;funext fr h;exact kL y hl.2 fr h
 |.cond c x y,hl,fr,h=>by
  have hl:(tG x && tG y)=true:=hl;rw[qZQ]at hl;show bK (aJ c fr) (λt=>aO t (exec E f a x fr h) (exec E f a y fr h))=bK (aJ c fr) (λt=>aO t (exec E g b x fr h) (exec E g b y fr h));rw[kL x hl.1,kL y hl.2]
 |.block i x,hl,fr,h=>by
  show mf i (exec E f a x fr h)=mf i (exec E g b x fr h);rw[kL x hl]
def DM {c:ax}{fr:Fr}{h:aa}{Q:Fr->aa->Prop}(hw:wp E2 c fr h Q (λ_ _ _=>False) (λ_ _=>False)):∃bP h',Q bP h'/\∃N,∀m n,N<=m->N<=n->exec E2 (ba E2 m n) m c fr h=some ⟨.normal,bP,h'⟩:=by
 obtain⟨⟨e,bP,h'⟩,⟨N,hN⟩,hq⟩:=YU hw;cases e with
 |normal=>exact⟨bP,h',hq,N,hN⟩
 |exit id=>exact hq.elim
 |ret=>exact hq.elim
def cA:ax:=.region [⟨some 9,none,.box 49 (.c (.agg [(.str []),(.int .i64 0)]))⟩,⟨none,none,.store 2 (.t 9) (.t 28)⟩]
def cB:ax:=.block 1 (.seq (.region [⟨some 29,none,.ct (.t 8)⟩,⟨some 30,none,.fJ 2 (.t 9)⟩,⟨some 31,none,.buildSlice 49 1 [(.str []),(.int .i64 0)] [(0,2,(.t 30))]⟩,⟨some 32,none,.append 49 2 (.t 29) (.t 31)⟩,⟨none,none,.store 1 (.t 8) (.t 32)⟩])
 (.seq (.region [⟨some 33,none,.ct (.t 8)⟩,⟨some 34,none,.len .slice (.t 33)⟩,⟨some 35,none,.ct (.t 3)⟩,⟨some 36,none,.bin .eql .none (.t 34) (.t 35)⟩]) (.cond (.t 36) (.exit 0) .skip)))
def Wv:bR E2 38 ((E2.dy.get 14).getD []) bA=some cA:=by kernel_rfl
def Ww:bR E2 38 ((E2.dy.get 14).getD []) bB=some cB:=by kernel_rfl
def Px {fo:Fr}{arg:ae}{h:aa}{Qn:aa->Prop}{Qx:aa->Prop}(hw:wp E2 (.seq cA cB) (fo.set 28 arg) h (λ_ h=>Qn h) (λj _ h=>j=0/\Qx h) (λ_ _=>False)):∃h2 g,ni E2 fo arg h=some (h2,g)/\(g=true->Qn h2)/\(g=false->Qx h2):=by
 obtain⟨o1,⟨N,hN⟩,hq⟩:=YU (show wp E2 cA (fo.set 28 arg) h (λfr h=>wp E2 cB fr h (λ_ h=>Qn h) (λj _ h=>j=0/\Qx h) (λ_ _=>False)) (λj _ h=>j=0/\Qx h) (λ_ _=>False) from hw);have e1:exec E2 cj 0 cA (fo.set 28 arg) h=some o1:=(kL cA rfl _ _).trans (hN N N (qQY _) (qQY _))
 have hr:ni E2 fo arg h=ob (exec E2 cj 0 cA (fo.set 28 arg) h) λo1=>@fe.rec (λ_=>Option (aa×Bool))
  (ob (exec E2 cj 0 cB o1.fr o1.h) λo2=>@fe.rec (λ_=>Option (aa×Bool)) (some (o2.h,true)) (λi=>aO (Nat.beq i 0) (some (o2.h,false)) none) none o2.e) (λ_=>none) none o1.e:=by
  unfold ni;rw[Wv,Ww]
 rw[hr,e1];obtain⟨e,dM,h1⟩:=o1;cases e with
 |ret=>exact hq.elim
 |exit id =>
  exfalso;have:exec E2 cj 0 cA (fo.set 28 arg) h=ob (cP E2 cj [⟨some 9,none,.box 49 (.c (.agg [(.str []),(.int .i64 0)]))⟩,⟨none,none,.store 2 (.t 9) (.t 28)⟩] (fo.set 28 arg) h) λp=>some ⟨.normal,p.1,p.2⟩:=rfl;rw[this]at e1;cases hx:cP E2 cj [⟨some 9,none,.box 49 (.c (.agg [(.str []),(.int .i64 0)]))⟩,⟨none,none,.store 2 (.t 9) (.t 28)⟩] (fo.set 28 arg) h with
  |none=>rw[hx]at e1;cases e1
  |some p=>rw[hx]at e1;cases e1
 |normal =>
  obtain⟨o2,⟨N2,Iw⟩,wF⟩:=YU (show wp E2 cB dM h1 (λ_ h=>Qn h) (λj _ h=>j=0/\Qx h) (λ_ _=>False) from hq);have e2:exec E2 cj 0 cB dM h1=some o2:=(kL cB rfl _ _).trans (Iw N2 N2 (qQY _) (qQY _));show ∃h2 g,(ob (exec E2 cj 0 cB dM h1) λo2=>@fe.rec (λ_=>Option (aa×Bool)) (some (o2.h,true)) (λi=>aO (Nat.beq i 0) (some (o2.h,false)) none) none o2.e)=some (h2,g)/\_;rw[e2];obtain⟨e,iA,h2⟩:=o2;cases e with
  |ret=>exact wF.elim
  |normal=>exact⟨h2,true,rfl,λ_=>wF,λe=>by cases e⟩
  |exit id =>
   obtain⟨rfl,hx⟩:=wF;exact⟨h2,false,rfl,λe=>(by cases e),λ_=>hx⟩
def Rf:ax->ax|.block _ c=>c|c=>c
def Fz:ax->ax|.seq a _=>a|c=>c
def vg:ax->ax|.seq _ b=>b|c=>c
def ajh:ax->List aQ|.region l=>l|_=>[]
def k0:ax:=Fz Jp
def k1:ax:=Fz (vg Jp)
def k3:ax:=Fz (Rf (Fz mh))
def kl:List aQ:=ajh (Fz (vg (Rf (Fz mh))))
def k2:ax:=vg mh
def kA:List aQ:=kl.take 5
def kB:List aQ:=kl.drop 6
def kC:aQ:=⟨some 27,some (24,false),.call (.t 25) [(.t 26)]⟩
def Wx:bR E2 30 ((E2.dy.get 49).getD []) i0=some k0:=by kernel_rfl
def Wy:bR E2 30 ((E2.dy.get 49).getD []) i1=some k1:=by kernel_rfl
def Wz:bR E2 30 ((E2.dy.get 49).getD []) i2=some k2:=by kernel_rfl
def WA:bR E2 30 ((E2.dy.get 49).getD []) i3=some k3:=by kernel_rfl
def WB:([0,1,2,3,4].mapM λi=>(kP[i]?).bind (gi E2 30 kP))=some kA:=by kernel_rfl
def WD:gi E2 30 kP o5=some kC:=by kernel_rfl
def WC:([6,7].mapM λi=>(kP[i]?).bind (gi E2 30 kP))=some kB:=by kernel_rfl
def W8:(kA.all λo=>!ur o.op)=true:=by kernel_rfl
def aac:kB=[⟨some 28,some (24,false),.not (.t 27)⟩,⟨some 29,none,.pick (.t 24) (.c (.bool true)) (.t 28)⟩]:=by kernel_rfl
def vB {fr:Fr}{b:Bool}(h:fr.get 24=some (.bool b)):bj (some (24,false)) fr=!b:=by
 show(@Option.rec Bool (λ_=>Bool) false (λb=>aO b false (not false)) (ob (fr.get 24) λv=>bK v λb=>some b))=_;rw[h];cases b<;>rfl
def ql {fr:Fr}{i:Nat}{v:ae}(h:fr.get i=some v):aJ (.t i) fr=v:=by rw[mI,h];rfl
theorem pO {α:Type}(b:Bool)(k:Bool->Option α):bK (.bool b) k=k b:=rfl
def adq {fr:Fr}{h:aa}{g:Bool}(Oa:fr.get 24=some (.bool false)):cP E2 cj kB (fr.set 27 (.bool g)) h=some (((fr.set 27 (.bool g)).set 28 (.bool !g)).set 29 (.bool !g),h):=by
 rw[aac];show ob (aO (bj (some (24,false)) (fr.set 27 (.bool g))) (bK (aJ (.t 27) (fr.set 27 (.bool g))) λb=>some (.bool (Bool.not b),h)) (some (aT,h))) (λr=>ob (bK (aJ (.t 24) ((fr.set 27 (.bool g)).set 28 r.1)) λt=>some (aO t (.bool true) (aJ (.t 28) ((fr.set 27 (.bool g)).set 28 r.1)),r.2)) λq=>some (((fr.set 27 (.bool g)).set 28 r.1).set 29 q.1,q.2))=_;rw[vB (b:=false) (by simp[T.ag,Oa]),ql (v:=.bool g) (by simp[T.ag]),pO];show ob (bK (aJ (.t 24) ((fr.set 27 (.bool g)).set 28 (.bool !g))) λt=>some (aO t (.bool true) (aJ (.t 28) ((fr.set 27 (.bool g)).set 28 (.bool !g))),h)) (λq=>some (((fr.set 27 (.bool g)).set 28 (.bool !g)).set 29 q.1,q.2))=_;rw[ql (i:=24) (v:=.bool false) (by simp[T.ag,Oa]),pO,ql (i:=28) (v:=.bool !g) (by simp[T.ag])]
def adr {fr:Fr}{h:aa}(Oa:fr.get 24=some (.bool true)):∃bP,cP E2 cj (kC :: kB) fr h=some (bP,h)/\bP.get 29=some (.bool true):=by
 rw[aac];refine⟨((fr.set 27 aT).set 28 aT).set 29 (.bool true),?_,by simp[T.ag]⟩;show ob (aO (bj (some (24,false)) fr) _ (some (aT,h))) (λr=>cP E2 cj [⟨some 28,some (24,false),.not (.t 27)⟩,⟨some 29,none,.pick (.t 24) (.c (.bool true)) (.t 28)⟩] (fr.set 27 r.1) r.2)=_;rw[vB Oa];show ob (aO (bj (some (24,false)) (fr.set 27 aT)) _ (some (aT,h))) (λr=>ob (bK (aJ (.t 24) ((fr.set 27 aT).set 28 r.1)) λt=>some (aO t (.bool true) (aJ (.t 28) ((fr.set 27 aT).set 28 r.1)),r.2)) λq=>some (((fr.set 27 aT).set 28 r.1).set 29 q.1,q.2))=_;rw[vB (b:=true) (by simp[T.ag,Oa])];show ob (bK (aJ (.t 24) ((fr.set 27 aT).set 28 aT)) λt=>some (aO t (.bool true) (aJ (.t 28) ((fr.set 27 aT).set 28 aT)),h)) (λq=>some (((fr.set 27 aT).set 28 aT).set 29 q.1,q.2))=_;rw[ql (i:=24) (v:=.bool true) (by simp[T.ag,Oa]),pO]
def QH (fo:Fr)(nY:Nat)(Qend:aa->Prop)(Qgo:Fr->aa->Prop)(fr:Fr)(h:aa):Prop :=
 wp E2 k3 fr h (λdM h1=>pc E2 kA dM h1 λiA h2=>(iA.get 24=some (.bool true)/\Qend h2) \/
   (iA.get 24=some (.bool false)/\iA.get 25=some (.func (1000000000+nY) [] []) /\
    wp E2 (.seq cA cB) (fo.set 28 (aJ (.t 26) iA)) h2 (λ_ h3=>wp E2 k2 (((iA.set 27 (.bool true)).set 28 (.bool false)).set 29 (.bool false)) h3 Qgo (λ_ _ _=>False) (λ_ _=>False)) (λj _ h3=>j=0/\Qend h3) (λ_ _=>False))) (λ_ _ _=>False) (λ_ _=>False)
def acB {fo:Fr}{nY:Nat}{Qend:aa->Prop}{Inv:Nat->Fr->aa->Prop}(pL:∀d fr h,Inv d fr h->QH fo nY Qend (λfr h=>∃d',d'<d/\Inv d' fr h) fr h) :
 ∀(m d:Nat)(fr:Fr)(h:aa),d<m->Inv d fr h->∃h' g,Qend h'/\∃N,∀a b,N<=a->N<=b->Qm E2 (ba E2 a b) a fo nY k3 k2 kA kC kB m fr h=some (h',g):=by
 intro m
 induction m with
 |zero=>intro d fr h hd;omega
 |succ m ih =>
  intro d fr h hd hi;obtain⟨dM,h1,hq,N1,JO⟩:=DM (pL d fr h hi);obtain⟨iA,h2,⟨N2,Iw⟩,wF⟩:=(ML hq).ops;have e2:cP E2 cj kA dM h1=some (iA,h2):=(sD kA W8 _ _).trans (Iw N2 N2 (qQY _) (qQY _))
  have head:∀a b,N1<=a->N1<=b->Qm E2 (ba E2 a b) a fo nY k3 k2 kA kC kB (m+1) fr h =
      bK (aJ (.t 24) iA) λt24=>aO t24
      (ob (cP E2 cj (kC :: kB) iA h2) λq=>bK (aJ (.t 29) q.1) λt29=>aO t29 (some (q.2,true)) none)
      (aO (and (bj kC.guard iA) (dz 5 (aJ (.t 25) iA) (.func (1000000000+nY) [] [])))
       (ob (ni E2 fo (aJ (.t 26) iA) h2) λh2=>ob (cP E2 cj kB (iA.set 27 (.bool h2.2)) h2.1) λq=>bK (aJ (.t 29) q.1) λt29=>aO t29 (aO h2.2 none (some (q.2,false)))
        (aO h2.2 (ob (exec E2 (ba E2 a b) a k2 q.1 q.2) λo2=>@fe.rec (λ_=>Option (aa×Bool)) (Qm E2 (ba E2 a b) a fo nY k3 k2 kA kC kB m o2.fr o2.h) (λ_=>none) none o2.e) none)) none):=by
   intro a b ha hb
   show(ob (exec E2 (ba E2 a b) a k3 fr h) λo=>@fe.rec (λ_=>Option (aa×Bool))
    (ob (cP E2 cj kA o.fr o.h) λp=>_) (λ_=>none) none o.e)=_
   rw[JO a b ha hb];show(ob (cP E2 cj kA dM h1) λp=>_)=_;rw[e2];rfl
  rcases wF with⟨Oa,hE⟩|⟨Oa,Qc,hR⟩
  .obtain⟨fr3,e3,h29⟩:=adr (h:=h2) Oa;refine⟨h2,true,hE,N1,λa b ha hb=>?_⟩;rw[head a b ha hb,ql Oa,pO];show(ob (cP E2 cj (kC :: kB) iA h2) λq=>bK (aJ (.t 29) q.1) λt29=>aO t29 (some (q.2,true)) none)=_;rw[e3];show(bK (aJ (.t 29) fr3) λt29=>aO t29 (some (h2,true)) none)=_;rw[ql h29];rfl
  .obtain⟨h3,g,e3,wZ,wG⟩:=Px hR
   have lU:dz 5 (aJ (.t 25) iA) (.func (1000000000+nY) [] [])=true:=by
    rw[ql Qc];show(and (Nat.beq (1000000000+nY) (1000000000+nY)) _)=true;simp[il]
   have mid:∀a b,N1<=a->N1<=b->Qm E2 (ba E2 a b) a fo nY k3 k2 kA kC kB (m+1) fr h =
       aO (!g) (aO g none (some (h3,false))) (aO g (ob (exec E2 (ba E2 a b) a k2 (((iA.set 27 (.bool g)).set 28 (.bool !g)).set 29 (.bool !g)) h3) λo2=>@fe.rec (λ_=>Option (aa×Bool)) (Qm E2 (ba E2 a b) a fo nY k3 k2 kA kC kB m o2.fr o2.h) (λ_=>none) none o2.e) none):=by
    intro a b ha hb;rw[head a b ha hb,ql Oa,pO];show aO (and (bj (some (24,false)) iA) (dz 5 (aJ (.t 25) iA) (.func (1000000000+nY) [] []))) _ none=_;rw[vB Oa,lU];show(ob (ni E2 fo (aJ (.t 26) iA) h2) λh2=>_)=_;rw[e3];show(ob (cP E2 cj kB (iA.set 27 (.bool g)) h3) λq=>_)=_;rw[adq Oa];show(bK (aJ (.t 29) (((iA.set 27 (.bool g)).set 28 (.bool !g)).set 29 (.bool !g))) λt29=>_)=_;rw[ql (i:=29) (v:=.bool !g) (by simp[T.ag]),pO]
   cases g with
   |false=>exact⟨h3,false,wG rfl,N1,λa b ha hb=>mid a b ha hb⟩
   |true =>
    obtain⟨fr4,h4,⟨d',nG,tJ⟩,N4,hN4⟩:=DM (wZ rfl);obtain⟨h',g',hE,N5,hN5⟩:=ih d' fr4 h4 (by omega) tJ;refine⟨h',g',hE,N1+N4+N5,λa b ha hb=>?_⟩;rw[mid a b (by omega) (by omega)];show(ob (exec E2 (ba E2 a b) a k2 (((iA.set 27 (.bool true)).set 28 (.bool false)).set 29 (.bool false)) h3) λo2=>_)=_;rw[hN4 a b (by omega) (by omega)];exact hN5 a b (by omega) (by omega)
def TN {fo:Fr}{nY:Nat}{cap:ae}{h:aa}{Qend:aa->Prop}{Inv:Nat->Fr->aa->Prop}(pL:∀d fr h,Inv d fr h->QH fo nY Qend (λfr h=>∃d',d'<d/\Inv d' fr h) fr h)
 (hw:wp E2 (.seq k0 k1) (dN [.func (1000000000+nY) [] [],cap] 0 .nil) h (λfr h=>∃d,d<1100/\Inv d fr h) (λ_ _ _=>False) (λ_ _=>False)) :
 ∃h' g,Qend h'/\∃N,∀a b,N<=a->N<=b->tO E2 (ba E2 a b) a fo nY cap h=some (h',g):=by
 obtain⟨ez,h0,hq,N0,hN0⟩:=DM (show wp E2 k0 _ h (λfr h=>wp E2 k1 fr h (λfr h=>∃d,d<1100/\Inv d fr h) (λ_ _ _=>False) (λ_ _=>False)) (λ_ _ _=>False) (λ_ _=>False) from hw);obtain⟨dM,h1,⟨d,hd,hi⟩,N1,JO⟩:=DM hq;obtain⟨h',g,hE,N2,Iw⟩:=acB pL 1100 d dM h1 hd hi;refine⟨h',g,hE,N0+N1+N2,λa b ha hb=>?_⟩;unfold tO;rw[WA,Wz,WB,WD,WC,Wx,Wy];show(ob (It E2 (ba E2 a b) a (some k0) _ h) λp=>ob (It E2 (ba E2 a b) a (some k1) p.1 p.2) λq=>Qm E2 (ba E2 a b) a fo nY k3 k2 kA kC kB 1100 q.1 q.2)=_
 have x0:It E2 (ba E2 a b) a (some k0) (dN [.func (1000000000+nY) [] [],cap] 0 .nil) h=some (ez,h0):=by
  show(ob (exec E2 (ba E2 a b) a k0 _ h) λo=>_)=_;rw[hN0 a b (by omega) (by omega)]
 have x1:It E2 (ba E2 a b) a (some k1) ez h0=some (dM,h1):=by
  show(ob (exec E2 (ba E2 a b) a k1 ez h0) λo=>@fe.rec (λ_=>Option (Fr×aa)) (some (o.fr,o.h)) (λ_=>none) none o.e)=_;rw[JO a b (by omega) (by omega)]
 rw[x0];show(ob (It E2 (ba E2 a b) a (some k1) ez h0) λq=>_)=_;rw[x1];exact Iw a b (by omega) (by omega)
open Go.RowKit
def c0:ax:=Fz u4
def c1:ax:=Fz (vg u4)
def c2:ax:=Fz (vg (vg u4))
def c3:ax:=Fz (vg (vg (vg u4)))
def c4:ax:=Fz (vg (vg (vg (vg u4))))
def c5:ax:=Fz (vg (vg (vg (vg (vg u4)))))
def cT:ax:=vg (vg (vg (vg (vg (vg u4)))))
def c6:ax:=Fz (Fz cT)
def c7:ax:=vg cT
def Wn:bR E2 38 ((E2.dy.get 14).getD []) b0=some c0:=by kernel_rfl
def Wo:bR E2 38 ((E2.dy.get 14).getD []) b1=some c1:=by kernel_rfl
def Wp:bR E2 38 ((E2.dy.get 14).getD []) b2=some c2:=by kernel_rfl
def Wq:bR E2 38 ((E2.dy.get 14).getD []) b3=some c3:=by kernel_rfl
def Wr:bR E2 38 ((E2.dy.get 14).getD []) b4=some c4:=by kernel_rfl
def Ws:bR E2 38 ((E2.dy.get 14).getD []) b5=some c5:=by kernel_rfl
def Wt:bR E2 38 ((E2.dy.get 14).getD []) b6=some c6:=by kernel_rfl
def Wu:bR E2 38 ((E2.dy.get 14).getD []) b7=some c7:=by kernel_rfl
def aaQ:ax:=.seq c0 (.seq c1 (.seq c2 (.seq c3 (.seq c4 (.seq c5 c6)))))
def MC:Tryz.f14.results.toList=[.tmp 4,.tmp 5]:=by kernel_rfl
def IE (Q:ae->aa->Prop)(fr:Fr)(h:aa):Prop:=cR (bw E2 h fr [.tmp 4,.tmp 5]) λv=>Q v h
section
variable{K:cu}{W0:World}{ρ:Ren}{fr:Fr}{h:aa}{w:World}{a:Act}
def Bq {n:Nat}{c y:Code}{cc:ax}{pl:List (Nat×List Nat)}{Qn Qr:Fr->aa->Prop}{Q:Exit->Act->World->Prop}(hc:bR E2 38 pl c=some cc)(hs:kI Tryz.prog E2 cc fr h Qn (λ_ _ _=>False) Qr)(hn:38<=a.tmps.size)(hf:FR ρ fr a.tmps)(H:WR Tryz.prog K W0 ρ h w)
 (hk:∀a1 w1 ju dM h1,ρ.le ju->a1.defers=a.defers->38<=a1.tmps.size->FR ju dM a1.tmps->WR Tryz.prog K W0 ju h1 w1->Qn dM h1->y.wpIn Fence.wide n Tryz.prog Q a1 w1)
 (hr:∀a1 w1 ju dM h1,ρ.le ju->a1.defers=a.defers->FR ju dM a1.tmps->WR Tryz.prog K W0 ju h1 w1->Qr dM h1->Q .ret a1 w1):(Code.seq c y).wpIn Fence.wide n Tryz.prog Q a w:=by
 apply wpIn_seq;refine wpIn_mono (wpIn_wide.2 (xR kr call2 (λm n=>iS kr (call2 m n)) c hc hn hf H rfl hs)) λe a1 w1 hq=>?_;obtain⟨q1,q2,o,ju,q3,q4,q5,q6,q7⟩:=hq;obtain⟨oe,kG,oh⟩:=o;cases oe with
 |normal =>
  have e1:e=.normal:=q3;subst e1;exact hk a1 w1 ju kG oh q5 q1 q2 q6 q7 q4
 |exit id=>exact q4.elim
 |ret =>
  have e1:e=.ret:=q3;subst e1;exact hr a1 w1 ju kG oh q5 q1 q6 q7 q4
end
theorem xS {a b:ax}{fr:Fr}{h:aa}{Qn Qr:Fr->aa->Prop}{Qx:Nat->Fr->aa->Prop}:kI Tryz.prog E2 (.seq a b) fr h Qn Qx Qr↔kI Tryz.prog E2 a fr h (λfr h=>kI Tryz.prog E2 b fr h Qn Qx Qr) Qx Qr:=Iff.rfl
def V8 {args:List ae}{h:aa}{Q:ae->aa->Prop}
 (hw:kI Tryz.prog E2 aaQ (dN args 0 .nil) h (λfr h6=>∃cap h2 g,aJ (.t 27) fr=.func 49 [] [cap]/\(∃N,∀a b,N<=a->N<=b->tO E2 (ba E2 a b) a fr h6.next cap ⟨Nat.succ h6.next,h6.t⟩=some (h2,g))/\kI Tryz.prog E2 c7 fr h2 (IE Q) (λ_ _ _=>False) (IE Q))
  (λ_ _ _=>False) (IE Q)):Nc Tryz.prog 14 args h Q:=by
 refine⟨⟨_,Tryz.func14,by kernel_rfl,by kernel_rfl⟩,λK W0 ρ w args' dG H=>?_⟩;refine(callsIn_wide (n:=0)).1 (callsIn_of_wp_marks Tryz.func14 Rb trivial ?_);have kF:38<=(args'++Array.replicate (Tryz.f14.ntmps-args'.size) undef).size:=by rw[ntmps38];simp;omega
 have qw:∀{a1:Act}{w1:World}{ju:Ren}{dM:Fr}{h1:aa},ρ.le ju->a1.defers=[]->FR ju dM a1.tmps->WR Tryz.prog K W0 ju h1 w1->IE Q dM h1->LeavesInM Fence.wide 0 Tryz.prog Tryz.f14 a1.tmps (λe w'=>∃v h',Q v h'/\jY Tryz.prog K W0 ρ v h' e w') a1.defers .returning w1:=by
  intro a1 w1 ju dM h1 hle hd hf H1 hq;obtain⟨v2,e1,e2⟩:=eQ.1 hq;rw[<-MC]at e1;obtain⟨v',r1,r2⟩:=gH kr hf H1 e1;rw[hd];exact⟨v',r1,v2,h1,e2,v',ju,rfl,hle,r2,H1⟩
 refine Bq Wn (xS.1 hw) (a:={tmps:=args'++Array.replicate (Tryz.f14.ntmps-args'.size) undef,defers:=[]}) kF (jR dG _) H (λa0 w0 pY f0 h0 k0 d0 z0 g0 H0 hw0=>?_) λa0 w0 pY f0 h0 k0 d0 g0 H0 hq=>qw k0 d0 g0 H0 hq;refine Bq Wo (xS.1 hw0) z0 g0 H0 (λa1 w1 ju f1 h1 k1 d1 z1 g1 H1 XK=>?_) λa1 w1 ju f1 h1 k1 d1 g1 H1 hq=>qw (Ren.le_trans k0 k1) (d1.trans d0) g1 H1 hq;have k01:=Ren.le_trans k0 k1;have d01:=d1.trans d0;refine Bq Wp (xS.1 XK) z1 g1 H1 (λa2 w2 yW f2 h2 k2 d2 z2 g2 H2 CO=>?_) λa2 w2 yW f2 h2 k2 d2 g2 H2 hq=>qw (Ren.le_trans k01 k2) (d2.trans d01) g2 H2 hq;have k02:=Ren.le_trans k01 k2;have d02:=d2.trans d01;refine Bq Wq (xS.1 CO) z2 g2 H2 (λa3 w3 ρ3 f3 h3 k3 d3 z3 g3 H3 hw3=>?_) λa3 w3 ρ3 f3 h3 k3 d3 g3 H3 hq=>qw (Ren.le_trans k02 k3) (d3.trans d02) g3 H3 hq;have k03:=Ren.le_trans k02 k3;have d03:=d3.trans d02;refine Bq Wr (xS.1 hw3) z3 g3 H3 (λa4 w4 ρ4 f4 h4 k4 d4 z4 g4 H4 hw4=>?_) λa4 w4 ρ4 f4 h4 k4 d4 g4 H4 hq=>qw (Ren.le_trans k03 k4) (d4.trans d03) g4 H4 hq;have k04:=Ren.le_trans k03 k4;have d04:=d4.trans d03;refine Bq Ws (xS.1 hw4) z4 g4 H4 (λa5 w5 ρ5 f5 h5 k5 d5 z5 g5 H5 hw5=>?_) λa5 w5 ρ5 f5 h5 k5 d5 g5 H5 hq=>qw (Ren.le_trans k04 k5) (d5.trans d04) g5 H5 hq;have k05:=Ren.le_trans k04 k5;have d05:=d5.trans d04;apply wpIn_seq;refine Bq Wt hw5 z5 g5 H5 (λa6 w6 MM f6 h6 k6 d6 z6 g6 H6 hw6=>?_) λa6 w6 MM f6 h6 k6 d6 g6 H6 hq=>qw (Ren.le_trans k05 k6) (d6.trans d05) g6 H6 hq;have k06:=Ren.le_trans k05 k6;have hd6:a6.defers=[]:=d6.trans d05;obtain⟨cap,hI,gI,Zw,⟨N,hN⟩,hw7⟩:=hw6;refine yo kr (call2 N N) N Zw (hN N N (qQY _) (qQY _)) z6 g6 H6 λw8 ρ7 rec' k7 L8=>?_;have yJ:=Ren.le_trans k06 k7;show Code.wpIn _ _ _ _ _ _ _;refine wpIn_mono (wpIn_wide.2 (xR kr call2 (λm n=>iS kr (call2 m n)) b7 Wu (a:={a6 with defers:=[{target:=.collected w6.heap.size,args:=#[]}]++a6.defers}) z6 (g6.mono k7) L8.go rfl hw7)) λe a8 w8 hq=>?_;obtain⟨q1,q2,o,ρ8,q3,q4,k8,g8,H8⟩:=hq;have L9:=L8.back H8;have hd8:a8.defers=[{target:=.collected w6.heap.size,args:=#[]}]:=by rw[q1,hd6];rfl
 obtain⟨oe,kG,oh⟩:=o
 have gW:IE Q kG oh->LeavesInM Fence.wide 0 Tryz.prog Tryz.f14 a8.tmps (λe w'=>∃v h',Q v h'/\jY Tryz.prog K W0 ρ v h' e w') a8.defers .returning w8:=by
  intro hq;obtain⟨v2,e1,e2⟩:=eQ.1 hq;rw[<-MC]at e1;rw[hd8];refine⟨by simp,.inl ⟨_,_,rfl,run_takeDeferred L9.hD,?_⟩⟩;have H10:WR Tryz.prog K W0 ρ8 oh (w8.putObj w6.heap.size (.deferred none)):=L9.wr.other (L9.ho _ (.inr rfl)).2 λm p s hm hl hs e=>L9.hid m p s hm hl hs (.inr e);obtain⟨v',r1,r2⟩:=gH kr g8 H10 e1;exact⟨v',r1,v2,oh,e2,v',ρ8,rfl,Ren.le_trans yJ k8,r2,H10⟩
 cases oe with
 |exit id=>exact q4.elim
 |normal =>
  have e1:e=.normal:=q3;subst e1;exact gW q4
 |ret =>
  have e1:e=.ret:=q3;subst e1;exact gW q4
def FP (A:aY)(rb:Nat)(vo vf:ae)(rows:List ae)(sb:Nat)(cs:List ae)(b:Nat):Prop:=p8 sb cs b\/b=rb\/∃v,GV A vo vf rows v/\aM v b
def sP.Qa {n0 sb:Nat}{h h':aa}{cs:List ae}{S:List Slot}(H:sP n0 sb h cs S)(hn:h.next<=h'.next)(hg:∀b,p8 sb cs b->h'.get b=h.get b):sP n0 sb h' cs S :=
 ⟨⟨qZC H.lt.1 hn,qQG H.lt.2 hn⟩,(hg sb (.inl rfl)).trans H.get,H.len,λk v s hv hs=>(H.slot k v s hv hs).frame hn λb hb=>hg b (.inr ⟨k,v,hv,hb⟩),H.JA,λk v b hv hb=>by
   have:=H.low k v b hv hb;exact⟨this.1,qQG this.2.1 hn,this.2.2⟩⟩
def p8.lt {n0 sb:Nat}{h:aa}{cs:List ae}{S:List Slot}(H:sP n0 sb h cs S){b:Nat}(ho:p8 sb cs b):b<h.next:=by
 rcases ho with rfl|⟨k,v,hv,hb⟩
 .exact H.lt.2
 .exact(H.low k v b hv hb).2.1
section
variable{A:aY}{n K:Nat}(L:VU A n K){rb sb:Nat}{vo vf:ae}{rows:List ae}
def Cm.fp {h:aa}{cs:List ae}{S:List Slot}(H:Cm A n rb vo vf rows sb h cs S){b:Nat}(hb:FP A rb vo vf rows sb cs b):b<h.next:=by
 rcases hb with ho|rfl|⟨v,hv,hb⟩
 .exact ho.lt H.a
 .exact H.rlt
 .exact(H.nv v b hv hb).1
def Cm.Qa {h h':aa}{cs:List ae}{S:List Slot}(H:Cm A n rb vo vf rows sb h cs S)(hn:h.next<=h'.next)(hg:∀b,FP A rb vo vf rows sb cs b->h'.get b=h.get b):Cm A n rb vo vf rows sb h' cs S :=
 ⟨H.a.Qa hn λb hb=>hg b (.inl hb),H.IA.frame hn λb hb=>hg b (.inr (.inr ⟨_,.inl rfl,hb⟩)),λj x hx=>Bh hx (H.row j x hx) hn λv b hv hb=>hg b (.inr (.inr ⟨v,hv,hb⟩)),H.CN.frame hn λb hb=>hg b (.inr (.inr ⟨_,.inr (.inl rfl),hb⟩)),
   (hg rb (.inr (.inl rfl))).trans H.ob,qQG H.rlt hn,H.nr,λv b hv hb=>⟨qQG (H.nv v b hv hb).1 hn,(H.nv v b hv hb).2⟩⟩
structure QC (N:Nat)(hS:aa)(rb:Nat)(vo vf:ae)(rows:List ae)(sb ob nb:Nat)(h:aa)(cs:List ae)(S:List Slot)(ov:ae)(l:List tm):Prop where
 rk:Cm A n rb vo vf rows sb h cs S
 len:S.length=3*n
 i:Vk L S 0
 LR:h.get ob=some (.cells [ov] 43)
 own:dO h 2 49 ov (l.map fN).flatten
 gnb:h.get nb=some (.cells [.int .i64 (N:Int)] 3)
 Hx:ob<h.next/\nb<h.next/\nb≠ob
 nfp:¬FP A rb vo vf rows sb cs ob/\¬FP A rb vo vf rows sb cs nb
 ovb:∀b,aM ov b->b≠ob/\b≠nb/\¬FP A rb vo vf rows sb cs b/\hS.next<=b
 low:hS.next<=ob/\∀b,FP A rb vo vf rows sb cs b->hS.next<=b
 le:aU hS h
 ans:∀(i:Nat)(y:tm),l[i]?=some y->L.BG 0 i (some y)
def MP (N:Nat)(hS:aa)(ob:Nat)(h:aa):Prop:=∃(ov:ae)(l:List tm),h.get ob=some (.cells [ov] 43)/\dO h 2 49 ov (l.map fN).flatten/\ob<h.next/\(∀b,aM ov b->hS.next<=b)/\aU hS h/\(∀(i:Nat)(y:tm),l[i]?=some y->L.BG 0 i (some y))/\l.length<=N/\(l.length<N->L.BG 0 l.length none)
variable{N ob nb nY:Nat}{hS:aa}{fo:Fr}
def QC.hle {h h':aa}{cs:List ae}{S:List Slot}{ov:ae}{l:List tm}(I:QC L N hS rb vo vf rows sb ob nb h cs S ov l)(hl:aU h h'):QC L N hS rb vo vf rows sb ob nb h' cs S ov l :=
 ⟨I.rk.hle hl,I.len,I.i,(hl.get _ I.Hx.1).trans I.LR,I.own.frame hl.next λb hb=>hl.get b (I.own.rm hb),(hl.get _ I.Hx.2.1).trans I.gnb,⟨qQG I.Hx.1 hl.next,qQG I.Hx.2.1 hl.next,I.Hx.2.2⟩,I.nfp,I.ovb,I.low,I.le.trans hl,I.ans⟩
def QC.rkf {h h':aa}{cs oz:List ae}{S S':List Slot}{ov:ae}{l:List tm}(I:QC L N hS rb vo vf rows sb ob nb h cs S ov l)(H':sP 0 sb h' oz S')(F:yx sb h cs h' oz)(hl:S'.length=S.length)(hi:Vk L S' 0):QC L N hS rb vo vf rows sb ob nb h' oz S' ov l:=by
 have nN:∀b,¬FP A rb vo vf rows sb cs b->¬p8 sb cs b:=λb hb ho=>hb (.inl ho)
 have yH:∀b,b<h.next->FP A rb vo vf rows sb oz b->FP A rb vo vf rows sb cs b:=λb hb hf=>by
  rcases hf with ho|hf
  .exact .inl (F.own b hb ho)
  .exact .inr hf
 have dL:=I.le.next
 refine⟨I.rk.step H' F,hl.trans I.len,hi,(F.get _ I.Hx.1 (nN _ I.nfp.1)).trans I.LR,I.own.frame F.next λb hb=>F.get b (I.own.rm hb) (nN _ (I.ovb b hb).2.2.1),(F.get _ I.Hx.2.1 (nN _ I.nfp.2)).trans I.gnb,
  ⟨qQG I.Hx.1 F.next,qQG I.Hx.2.1 F.next,I.Hx.2.2⟩,⟨λhf=>I.nfp.1 (yH _ I.Hx.1 hf),λhf=>I.nfp.2 (yH _ I.Hx.2.1 hf)⟩,λb hb=>?_,⟨I.low.1,λb hb=>?_⟩,?_,I.ans⟩
 .obtain⟨h1,h2,h3,h4⟩:=I.ovb b hb;exact⟨h1,h2,λhf=>h3 (yH b (I.own.rm hb) hf),h4⟩
 .by_cases Xm:b<h.next
  .exact I.low.2 b (yH b Xm hb)
  .omega
 .exact⟨qZC dL F.next,λb hb=>(F.get b (qQG hb dL) λho=>by have:=I.low.2 b (.inl ho);omega).trans (I.le.get b hb)⟩
def QC.more {h h1 h2:aa}{cs:List ae}{S:List Slot}{ov ov':ae}{l:List tm}{y:tm}(I:QC L N hS rb vo vf rows sb ob nb h cs S ov l)(ho:dO h1 2 49 ov' ((l++[y]).map fN).flatten)(hn:h.next<=h1.next)(hg:∀b,b<h.next->¬aM ov b->h1.get b=h.get b)
 (hb:∀b,aM ov' b->h.next<=b) (e2:h2=h1.put ob (.cells [ov'] 43)) (ha:L.BG 0 l.length (some y)):QC L N hS rb vo vf rows sb ob nb h2 cs S ov' (l++[y]):=by
 have GN:=I.Hx;have hle:=I.le.next;have g:∀b,b<h.next->b≠ob->¬aM ov b->h2.get b=h.get b:=λb h3 h4 h5=>by rw[e2];exact(aa.ah _ _ (Ne.symm h4)).trans (hg b h3 h5)
 have GK:h2.next=h1.next:=by rw[e2];rfl
 refine⟨I.rk.Qa (by omega) λb hf=>g b (I.rk.fp hf) (λe=>I.nfp.1 (e▸hf)) λiB=>(I.ovb b iB).2.2.1 hf,I.len,I.i,by rw[e2];exact aa.aj _ _ _,?_,(g nb GN.2.1 GN.2.2 λiB=>(I.ovb nb iB).2.1 rfl).trans I.gnb,⟨by omega,by omega,GN.2.2⟩,I.nfp,λb iB=>?_,I.low,⟨by omega,λb iB=>?_⟩,λi z hz=>?_⟩
 .exact ho.frame (by omega) λb iB=>by rw[e2];exact aa.ah _ _ (by have:=hb b iB;omega)
 .have:=hb b iB;exact⟨by omega,by omega,λhf=>by have:=I.rk.fp hf;omega,by omega⟩
 .exact(g b (by omega) (by have:=I.low.1;omega) λvD=>by have:=(I.ovb b vD).2.2.2;omega).trans (I.le.get b iB)
 .rw[qKQ]at hz;split at hz
  .exact I.ans i z hz
  .have hi:=(qQZ.1 hz).1;simp at hi;have:i=l.length:=by omega
   subst this;simp at hz;subst hz;exact ha
end
section
variable{A:aY}{n K:Nat}(L:VU A n K){rb sb:Nat}{vo vf:ae}{rows:List ae}
variable{N ob nb nY:Nat}{hS:aa}{fo:Fr}
def ahe:kA=[⟨some 22,none,.mv (.t 6)⟩,⟨some 23,none,.not (.t 22)⟩,⟨some 24,none,.mv (.t 23)⟩,⟨some 25,some (24,false),.mv (.t 0)⟩,⟨some 26,some (24,false),.fJ 2 (.t 5)⟩]:=by kernel_rfl
def aiV (hS:aa)(N nY rb:Nat)(vo vf:ae)(rows:List ae)(sb ob nb:Nat)(d:Nat)(fr:Fr)(h:aa):Prop :=
 ∃(cs:List ae)(S:List Slot)(ov:ae)(l:List tm),d+l.length=N/\0<d/\fr.get 0=some (.func (1000000000+nY) [] [])/\fr.get 3=some (.ptr rb 0)/\fr.get 4=some (.int .i64 (l.length:Int))/\QC L N hS rb vo vf rows sb ob nb h cs S ov l
def MQ (hS:aa)(N nY ob nb:Nat)(d:Nat)(fr:Fr)(h:aa):Prop:=∃vo vf rows rb sb,RkM A n rows/\aiV L hS N nY rb vo vf rows sb ob nb d fr h
def XT (hN:N<=1000)(hNK:N<K)(f8:fo.get 8=some (.ptr ob 0))(f3:fo.get 3=some (.ptr nb 0))(d:Nat)(fr:Fr)(h:aa)(hI:MQ L hS N nY ob nb d fr h) :
 QH fo nY (MP L N hS ob) (λfr h=>∃d',d'<d/\MQ L hS N nY ob nb d' fr h) fr h:=by
 obtain⟨vo,vf,rows,rb,sb,M,cs,S,ov,l,hd,Vw,t0,t3,t4,I⟩:=hI;have yK:=M.n1
 show wp E2 k3 fr h (bx (λdM h1=>pc E2 kA dM h1 (bx (λiA h2=>(iA.get 24=some (.bool true)/\MP L N hS ob h2) \/
  (iA.get 24=some (.bool false)/\iA.get 25=some (.func (1000000000+nY) [] []) /\
   wp E2 (.seq cA cB) (fo.set 28 (aJ (.t 26) iA)) h2 (λ_ h3=>wp E2 k2 (((iA.set 27 (.bool true)).set 28 (.bool false)).set 29 (.bool false)) h3 (λfr h=>∃d',d'<d/\MQ L hS N nY ob nb d' fr h) (λ_ _ _=>False) (λ_ _=>False)) (λj _ h3=>j=0/\MP L N hS ob h3) (λ_ _=>False))) .mk)) .mk) (λ_ _ _=>False) (λ_ _=>False)
 rw[ahe];unfold k3 mh;simp only[Fz,Rf];simp only[go_sem,Nat.reduceEqDiff,t3,t4];refine⟨by decide,?_⟩;refine(afa L M n 0 (by omega) (by omega) h cs S l.length I.rk I.len I.i (by omega)).mono ?_;rintro v h1 ⟨cs1,S1,o,rfl,H1,F1,Xw,_,hi1,ha1⟩;have I1:=I.rkf L H1 F1 Xw hi1;have hle:=I1.le;have YZ:∀{h' oz S' ov' l'},QC L N hS rb vo vf rows sb ob nb h' oz S' ov' l'->l'.length<=N->(l'.length<N->L.BG 0 l'.length none)->MP L N hS ob h':=λ{h' oz S' ov' l'} J h1 h2=>⟨ov',l',J.LR,J.own,J.Hx.1,λb hb=>(J.ovb b hb).2.2.2,J.le,J.ans,h1,h2⟩;cases o with
 |none =>
  unfold fN;simp only[go_sem,Nat.reduceEqDiff,Nat.reduceAdd,reduceCtorEq,Option.getD_none,Option.isSome_none];refine .inl ?_;exact YZ (I1.hle L ((aU.refl h1).push _)) (by omega) λ_=>ha1
 |some y =>
  unfold fN;simp only[go_sem,Nat.reduceEqDiff,Nat.reduceAdd,reduceCtorEq,t0,qWW,qWY];have J:=I1.hle L ((aU.refl h1).push (.cells [.str y.t,.int .i64 y.c] 49));generalize (h1.push (.cells [.str y.t,.int .i64 y.c] 49))=h2 at J ⊢;have cQ:aU h2 (h2.push (.cells [.str y.t,.int .i64 y.c] 49)):=(aU.refl h2).push _;have g3:(h2.push (.cells [.str y.t,.int .i64 y.c] 49)).get h2.next=some (.cells [.str y.t,.int .i64 y.c] 49):=aa.ai _ _;have n3:(h2.push (.cells [.str y.t,.int .i64 y.c] 49)).next=h2.next+1:=rfl;have J3:=J.hle L cQ;unfold cA cB;have q3:eI (h2.push (.cells [.str y.t,.int .i64 y.c] 49)) h2.next 0 2=some [.str y.t,.int .i64 y.c]:=by rw[bX g3 (by simp)];rfl
  have o3:aN (h2.push (.cells [.str y.t,.int .i64 y.c] 49)) ob 0=some ov:=by rw[aq J3.LR];rfl
  simp only[go_sem,Nat.reduceEqDiff,Nat.reduceAdd,f8,q3,o3];refine .inr ?_;have J4:=J3.hle L ((aU.refl _).push (.cells [.str y.t,.int .i64 y.c] 49));have g4:((h2.push (.cells [.str y.t,.int .i64 y.c] 49)).push (.cells [.str y.t,.int .i64 y.c] 49)).get (h2.next+1)=some (.cells [.str y.t,.int .i64 y.c] 49):=aa.ai _ _;have n4:((h2.push (.cells [.str y.t,.int .i64 y.c] 49)).push (.cells [.str y.t,.int .i64 y.c] 49)).next=h2.next+2:=rfl;generalize ((h2.push (.cells [.str y.t,.int .i64 y.c] 49)).push (.cells [.str y.t,.int .i64 y.c] 49))=h4 at J4 g4 n4 ⊢;have qu:cg h4 2 (.slice (h2.next+1) 0 1 1 true) [fN y]:=⟨by simp[fN],.inr ⟨_,_,_,_,rfl,.inr (by simpa[fN] using fP.ed (by omega) g4 (by simp[ae.flat]))⟩⟩;have Mb:(l.map fN).flatten.length=l.length*2:=by rw[eH (Be l),qQD]
  refine kd J4.own (fG qu (by simp)) (by simp) (by simp[fN]) (by decide) (by rw[Mb];simp;omega) λv' h5 ho Qg B2 hb5=>?_
  have uR:dO h5 2 49 v' ((l++[y]).map fN).flatten:=by
   have e:((l++[y]).map fN).flatten=(l.map fN).flatten++[fN y].flatten:=by simp
   rw[e];exact ho
  have ak9:h5.get ob=some (.cells [ov] 43):=(B2 ob J4.Hx.1 λhb=>(J4.ovb ob hb).1 rfl).trans J4.LR;have cS:=aD (o:=0) (n:=1) (vs:=[v']) ak9 rfl (by simp);have ib:over [ov] 0 [v']=[v']:=rfl;rw[ib]at cS;obtain⟨h6,e6⟩:∃h6,h6=h5.put ob (.cells [v'] 43):=⟨_,rfl⟩;have J6:=J4.more L uR (by omega) (λb hb vD=>B2 b hb vD) (λb hb=>by have:=fu hb5 hb;omega) e6 ha1;rw[<-e6]at cS;have cf:v'.flat=true:=dO.lT uR;have q6:aN h6 ob 0=some v':=by rw[aq J6.LR];rfl
  have lv:∀h' (K:ae->aa->Prop),cH v' h' K=K (.int .i64 ((l++[y]).length:Int)) h':=λh' K=>by rw[(EJ uR).len,qQD]
  have n6:aN h6 nb 0=some (.int .i64 (N:Int)):=by rw[aq J6.gnb];rfl
  by_cases Of:(((l++[y]).length:Nat):Int)=(N:Int)
  .simp only[go_sem,Nat.reduceEqDiff,reduceCtorEq,bM cf,cS,f8,f3,q6,lv,n6,Of];exact YZ J6 (by omega) (by omega)
  .have hl:(l++[y]).length=l.length+1:=by simp
   have hw:IntKind.i64.wrap ((l.length:Int)+1)=((l++[y]).length:Int):=by rw[wrap_i64 (by omega) (by omega),hl];push_cast;rfl
   simp only[go_sem,Nat.reduceEqDiff,reduceCtorEq,bM cf,cS,f8,f3,q6,lv,n6,Of];unfold k2 mh;simp only[vg];simp only[go_sem,Nat.reduceEqDiff,t4,hw];exact⟨d-1,by omega,vo,vf,rows,rb,sb,M,cs1,S1,v',l++[y],by omega,by omega,by simp[T.ag,t0],by simp[T.ag,t3],by simp[T.ag],J6⟩
end
end
end Go.AX
