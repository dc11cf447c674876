/-
  Contracts of functions of this seat, for every input that each theorem names.
-/
import Derived.Test.YtfdnpjbmhoapcaaGreatDoorNam9
import Derived.Test.YtfdnpjbmhoapcaaGreatDoorNax1
import Derived.Test.YtfdnpjbmhoapcaaGreatDoorNax2
set_option linter.all false
set_option maxHeartbeats 32000000
set_option maxRecDepth 10000
namespace Go.AX
open Go Go.Proofs
noncomputable section
def lW {β:Type}(l:List β)(x:β)(i:Nat)(y:β)(hy:(l++[x])[i]?=some y):l[i]?=some y\/i=l.length/\y=x:=by
 rw[qKQ]at hy;split at hy
 .exact .inl hy
 .rename_i dL;have:=(qQZ.1 hy).1;simp at this;have e:i-l.length=0:=by omega
  rw[e]at hy;exact .inr ⟨by omega,by simpa using hy.symm⟩
def sj:∀{vs:List ae}{ns:List aw},vs.length=ns.length->cr vs ns=((vs.zip ns).map λx=>[x.1,ae.int .i64 x.2.fin]).flatten
 |[],[],_=>rfl
 |a :: vs,b :: ns,h=>by
  show a :: .int .i64 b.fin :: cr vs ns=_;rw[sj (vs:=vs) (ns:=ns) (by simpa using h)];rfl
 |[],_ :: _,h=>by cases h
 |_ :: _,[],h=>by cases h
def Fl.of {k n0:Nat}{aZ:Nat->Nat}{h h':aa}(H:aU h h'):Fl k n0 aZ h h':=⟨H.next,λb hb _=>H.get b hb⟩
def QP {elem:TypeId}{size:Nat}{s:ae}{l:List ae}{h:aa}{z:Nat}{new:List ae}(H:dO h size elem s l)(hz:z<h.next)(gz:h.get z=some (.cells new elem))(hlen:new.length=size)(iq:0<size)(hf:∀x,x∈new->x.flat=true)(uo:l.length+1<=1073741824)
 {K:ae->aa->Prop} (hK:∀v' h',dO h' size elem v' (l++new)->h'.next=h.next+1->(∀c,c<h.next->¬aM s c->h'.get c=h.get c)->aM v' h.next->K v' h'):uX elem size s (.slice z 0 1 1 true) h K:=by
 have qu:cg h size (.slice z 0 1 1 true) [new]:=⟨by simpa using hlen,.inr ⟨_,_,_,_,rfl,.inr (by simpa using fP.ed (e:=elem) hz gz hf)⟩⟩;exact kd H (by have:=fG qu (List.cons_ne_nil _ _);rw[qZA,List.flatten_nil,qWA]at this;exact this) (by simp) (by simpa using hlen) iq uo hK
section
variable{n0:Nat}{aZ:Nat->Nat}{h:aa}{sb:Nat}{nv:ae}{d:wC}{S:yX}
def Ud (m:aw):Prop:=-4611686018427387904<m.fin/\m.fin<4611686018427387904/\(∀e,e∈m.ak->JB e)/\m.ak.length<=1048576
def Wm (H:tq n0 aZ h sb nv d S)(hb:S.M.length+1<=1048576)(m:aw)(v:ae)(hv:cg h 3 v (m.ak.map aK))(CN:v.flat=true)(Oq:qf aZ n0 h 8 v)(hm:Ud m)(len:Int)(f:Bool) :
 Ec E2 57 [.ptr sb 0,.agg [v,.int .i64 m.fin],.int .i64 len,.bool f] h λr h'=>∃(col':Nat->Nat)(d':wC)(S':yX)(i:Nat),r=.int .i64 (i:Int)/\tq n0 col' h' sb nv d' S'/\S'.M[i]?=some m/\S'.fl[i]?=some f /\
   d'.jI=d.jI/\(S'=S\/(¬∃j:Nat,S.M[j]?=some m/\S.fl[j]?=some f)/\i=S.M.length/\S'=⟨S.M++[m],S.fl++[f],S.ln++[len]⟩)/\(∀b,b<h.next->col' b=aZ b)/\Fl 8 n0 aZ h h':=by
 obtain⟨m1,m2,m3,m4⟩:=hm;refine Ec.bu (aI (by decide)) WE ?_;unfold aeJ;have bh:aU h (h.push (.cells [v,.int .i64 m.fin] 110)):=(aU.refl h).push _;have yK:(h.push (.cells [v,.int .i64 m.fin] 110)).next=h.next+1:=rfl;have g1:(h.push (.cells [v,.int .i64 m.fin] 110)).get h.next=some (.cells [v,.int .i64 m.fin] 110):=aa.ai _ _;have b1:aN (h.push (.cells [v,.int .i64 m.fin] 110)) h.next 1=some (.int .i64 m.fin):=by rw[aq g1];rfl
 simp only[go_sem,Nat.reduceEqDiff,Nat.reduceAdd,reduceCtorEq,b1];generalize h.push (.cells [v,.int .i64 m.fin] 110)=h1 at bh yK g1 b1 ⊢;refine⟨by decide,?_⟩;refine(xh m.fin h1 (by omega) (by omega)).mono ?_;rintro r Iu ⟨rfl,rfl⟩;have lf:=gZ (n:=m.fin) (by omega) (by omega);have lb:(rJ f).length<=5:=by cases f<;>decide
 simp only[go_sem,Nat.reduceEqDiff,reduceCtorEq];refine⟨by decide,?_⟩;refine(W5 f Iu).mono ?_;rintro r h2 ⟨rfl,rfl⟩;have b0:aN h2 h.next 0=some v:=by rw[aq g1];rfl
 have XJ:cg h2 3 v (m.ak.map aK):=hv.mono bh;have hlen:∀h' K,cH v h' K=K (.int .i64 (m.ak.length:Int)) h':=λh' K=>by rw[XJ.len,qQD]
 have wD:(cE m.fin).length+(rJ f).length<=1073741824:=by omega
 simp only[go_sem,Nat.reduceEqDiff,reduceCtorEq,iQ wD,b0,hlen];refine fg (λdd fr h'=>aU h2 h'/\fr.get 0=some (.ptr sb 0)/\fr.get 5=some (.ptr h.next 0)/\fr.get 2=some (.int .i64 len)/\fr.get 21=some v/\fr.get 22=some (.int .i64 (m.ak.length:Int))/\∃i:Nat,fr.get 23=some (.int .i64 (i:Int))/\dd+i=m.ak.length/\fr.get 9=some (.str (cE m.fin++rJ f++iY (m.ak.take i)))) m.ak.length ?_ ?_
 .exact⟨aU.refl _,by simp[T.ag],by simp[T.ag],by simp[T.ag],by simp[T.ag],by simp[T.ag],0,by simp[T.ag],by omega,by simp[T.ag,iY]⟩
 rintro dd fr h3 ⟨cQ,t0,t5,t2,t21,t22,i,t23,hd,t9⟩;unfold Lw;simp only[go_sem,t22,t23];have uQ:=cQ.next;refine QW (λhc=>?_) (λhc=>?_)
 .obtain⟨e,he⟩:∃e,m.ak[i]?=some e:=⟨_,qQW (by omega)⟩;have JT:=qQK he;obtain⟨k1,k2,k3,k4⟩:=m3 e JT;obtain⟨bb,o,di,fU⟩:=XJ.ix (j:=i) (x:=aK e) (by rw[qQX,he];rfl)
  have hN:eI h3 bb o 3=some (aK e):=by
   have:=(di.mono cQ).eI (i:=0) (n:=3) (by simp[aK]);simpa[aK] using this
  have ib:over [ae.int .u8 0,.int .i64 0,.int .i64 0] 0 (aK e)=aK e:=rfl;have jX:(aK e).length=3:=rfl;have Tn:(aK e)[0]?=some (.int .u8 (e.letter:Int)):=rfl;have Fb:(aK e)[1]?=some (.int .i64 (e.to:Int)):=rfl;have pK:(aK e)[2]?=some (.int .i64 e.cost):=rfl;have dP:aU h3 (h3.push (.cells (aK e) 124)):=(aU.refl h3).push _;have l0:aN (h3.push (.cells (aK e) 124)) h3.next 0=some (.int .u8 (e.letter:Int)):=by rw[aH];rfl
  have l1:aN (h3.push (.cells (aK e) 124)) h3.next 1=some (.int .i64 (e.to:Int)):=by rw[aH];rfl
  have l2:aN (h3.push (.cells (aK e) 124)) h3.next 2=some (.int .i64 e.cost):=by rw[aH];rfl
  have hwl:IntKind.i64.wrap (e.letter:Int)=(e.letter:Int):=wrap_i64 (by omega) (by omega);simp only[go_sem,Nat.reduceEqDiff,Nat.reduceAdd,t21,t23,t9,hc,fU .i64 (i:Int) h3,hN,ib,jX,l0,l1,l2,hwl];generalize h3.push (.cells (aK e) 124)=h4 at dP l0 l1 l2 ⊢;have a1:=gZ (n:=(e.letter:Int)) (by omega) (by omega);have a2:=gZ (n:=(e.to:Int)) (by omega) (by omega);have a3:=gZ (n:=e.cost) (by omega) (by omega);have kl:=CR (l:=m.ak.take i) λx hx=>m3 x (qKH hx);have ktl:(m.ak.take i).length<=m.ak.length:=by simp;omega
  refine⟨by decide,?_⟩;refine(xh (e.letter:Int) _ (by omega) (by omega)).mono ?_;rintro r h5 ⟨rfl,rfl⟩;have DQ:[32].length+(cE (e.letter:Int)).length<=1073741824:=by simp;omega
  have wX:([32]++cE (e.letter:Int)).length+[44].length<=1073741824:=by simp;omega
  simp only[go_sem,Nat.reduceEqDiff,l1,l2,dJ,iQ DQ,iQ wX];refine⟨by decide,?_⟩;refine(xh (e.to:Int) _ (by omega) (by omega)).mono ?_;rintro r h5 ⟨rfl,rfl⟩;have yE:([32]++cE (e.letter:Int)++[44]).length+(cE (e.to:Int)).length<=1073741824:=by simp;omega
  have SS:([32]++cE (e.letter:Int)++[44]++cE (e.to:Int)).length+[44].length<=1073741824:=by simp;omega
  simp only[go_sem,Nat.reduceEqDiff,l2,dJ,iQ yE,iQ SS];refine⟨by decide,?_⟩;refine(xh e.cost _ (by omega) (by omega)).mono ?_;rintro r h5 ⟨rfl,rfl⟩;have hb5:([32]++cE (e.letter:Int)++[44]++cE (e.to:Int)++[44]).length+(cE e.cost).length<=1073741824:=by simp;omega
  have hb6:(cE m.fin++rJ f++iY (m.ak.take i)).length+([32]++cE (e.letter:Int)++[44]++cE (e.to:Int)++[44]++cE e.cost).length<=1073741824:=by simp;omega
  have hw:IntKind.i64.wrap ((i:Int)+1)=((i+1:Nat):Int):=by rw[wrap_i64 (by omega) (by omega)];push_cast;rfl
  simp only[go_sem,Nat.reduceEqDiff,reduceCtorEq,t0,t5,t2,t21,t22,t23,t9,iQ hb5,iQ hb6,hw];refine⟨dd-1,by omega,(cQ.trans dP).skip 18,i+1,rfl,by omega,?_⟩;rw[Kg he];simp[OD]
 .have hi:i=m.ak.length:=by omega
  subst hi;rw[qZY]at t9;have hle:aU h h3:=bh.trans cQ;have H1:tq n0 aZ h3 sb nv d S:=H.frame (.of hle) λ_ _=>rfl;obtain⟨s0,s1,s2,s3,s4⟩:=H1.BE;have vG:cE m.fin++rJ f++iY m.ak=vO m f:=rfl;rw[vG]at t9;have g3:h3.get h.next=some (.cells [v,.int .i64 m.fin] 110):=(cQ.get _ (by omega)).trans g1;simp only[go_sem,Nat.reduceEqDiff,reduceCtorEq,t0,t9,s2,jQ sh H1.I'];rcases hk:cX d.Rl (vO m f) with _|k
  .have hdl:(cr d.jv S.M).length=S.M.length*2:=ja H1.lJ
   have agi:∀h' K,cH d.dv h' K=K (.int .i64 (S.M.length:Int)) h':=λh' K=>by
    have hs:cg h3 2 d.dv ((d.jv.zip S.M).map λx=>[x.1,.int .i64 x.2.fin]):=dO.cg (elem:=110) (by rw[<-sj H1.lJ];exact H1.nodes) (λx hx=>by obtain⟨a,_,rfl⟩:=qQB.1 hx;rfl) (by decide) λx hx=>by
     obtain⟨y,hy,lH⟩:=qJD.1 hx;obtain⟨⟨a,b⟩,Ix,rfl⟩:=qQB.1 hy;simp only[qQF,qJK,or_false]at lH;rcases lH with rfl|rfl
     .exact(H1.oD _ (List.of_mem_zip Ix).1).1
     .rfl
    rw[hs.len];simp[H1.lJ]
   have q1:∀(M:aE)(o:Nat),aN (h3.put d.cb M) sb o=aN h3 sb o:=λM o=>cG (aa.ah _ _ (λe=>by have c1:=H1.iE;have c2:=H1.qj;rw[e,c1]at c2;cases c2)) o;have q2:∀(M:aE)(o n:Nat),eI (h3.put d.cb M) h.next o n=eI h3 h.next o n:=λM o n=>Ee (aa.ah _ _ (λe=>by have c2:=H.clt.2;omega)) o n;have q3:eI h3 h.next 0 2=some [v,.int .i64 m.fin]:=by rw[bX g3 (by simp)];rfl
   simp only[go_sem,Nat.reduceEqDiff,Nat.reduceAdd,reduceCtorEq,t0,t5,t9,s2,s3,agi,q1,q2,q3,ta sh H1.cM H1.I'];obtain⟨hA,Qd⟩:∃x,x=aa.put ⟨h3.next+11,(aa.skip (h3.put d.cb (aE.map (List.map (fV ae.str (ae.int IntKind.i64)) (jA d.Rl d.cc (vO m f) ↑S.M.length)) (hU d.Rl d.cc (vO m f)))) 11).t⟩ (h3.next+6) (aE.cells [v,ae.int IntKind.i64 m.fin] 110):=⟨_,rfl⟩;have c1:=H1.iE;have c2:=H1.qj;have c3:=H1.T5;obtain⟨l1,l2⟩:=H1.lt;obtain⟨l3,l4⟩:=H1.clt;obtain⟨l5,l6⟩:=H1.mlt;have Qp:sb≠d.cb:=λe=>by rw[<-e,c1]at c2;cases c2
   have nmb:d.mb≠d.cb:=λe=>by rw[<-e,c3]at c2;cases c2
   have nms:d.mb≠sb:=λe=>by rw[e,c1]at c3;cases c3
   have nA:hA.next=h3.next+11:=by rw[Qd];rfl
   have gA:hA.get (h3.next+6)=some (.cells [v,.int .i64 m.fin] 110):=by rw[Qd];exact aa.aj _ _ _
   have oA:∀b,b<h3.next->b≠d.cb->hA.get b=h3.get b:=λb hb dV=>by
    rw[Qd];exact(aa.ah _ _ (by omega)).trans (aa.ah _ _ (Ne.symm dV))
   have mA:hA.get d.cb=some (.map ((jA d.Rl d.cc (vO m f) (S.M.length:Int)).map (fV .str (.int .i64))) (hU d.Rl d.cc (vO m f))):=by
    rw[Qd];exact(aa.ah _ _ (by omega)).trans (aa.aj _ _ _)
   rw[<-Qd];clear Qd
   have Vo:∀b,aM d.dv b->b≠sb/\b≠d.cb/\b≠d.mb/\¬aM d.lv b:=λb hb=>by
    have x:=(H1.nI b hb).2.2;refine⟨λe=>?_,λe=>?_,λe=>?_,λe=>?_⟩
    .rw[e,c1]at x;cases x
    .rw[e,c2]at x;cases x
    .rw[e,c3]at x;cases x
    .rw[(H1.B9 b e).2.2]at x;cases x
   have lvn:∀b,aM d.lv b->b≠sb/\b≠d.cb/\b≠d.mb:=λb hb=>by
    have x:=(H1.B9 b hb).2.2;refine⟨λe=>?_,λe=>?_,λe=>?_⟩
    .rw[e,c1]at x;cases x
    .rw[e,c2]at x;cases x
    .rw[e,c3]at x;cases x
   have hmf:∀x,x∈([v,.int .i64 m.fin]:List ae)->x.flat=true:=by
    intro x hx;simp only[qQF,qJK,or_false]at hx;rcases hx with rfl|rfl
    .exact CN
    .rfl
   refine QP (H1.nodes.frame (by omega) λb hb=>oA b (H1.nI b hb).2.1 (Vo b hb).2.1) (by omega) gA rfl (by decide) hmf (by omega) ?_;intro v' h4 JZ JY rn SS;have gs4:h4.get sb=some (.cells [nv,.map d.mb,.map d.cb,d.dv,d.lv] 116):=(rn sb (by omega) λhb=>(Vo _ hb).1 rfl).trans ((oA sb l2 Qp).trans H1.obj);have gY:=aD (o:=3) (n:=1) (vs:=[v']) gs4 rfl (by simp);rw[bW]at gY;have q5:aN (h4.put sb (.cells ([nv,.map d.mb,.map d.cb,d.dv,d.lv].set 3 v') 116)) sb 4=some d.lv:=by rw[aq (aa.aj _ _ _)];rfl
   simp only[go_sem,Nat.reduceEqDiff,Nat.reduceAdd,reduceCtorEq,t0,t2,bM JZ.lT,gY,q5];have gs5:(h4.put sb (.cells ([nv,.map d.mb,.map d.cb,d.dv,d.lv].set 3 v') 116)).get sb=some (.cells [nv,.map d.mb,.map d.cb,v',d.lv] 116):=aa.aj _ _ _;have gn5:(h4.put sb (.cells ([nv,.map d.mb,.map d.cb,d.dv,d.lv].set 3 v') 116)).next=h4.next:=rfl;have Vq:∀b,b≠sb->(h4.put sb (.cells ([nv,.map d.mb,.map d.cb,d.dv,d.lv].set 3 v') 116)).get b=h4.get b:=λb hb=>aa.ah _ _ (Ne.symm hb);clear gY q5;rw[<-gn5];generalize h4.put sb (.cells ([nv,.map d.mb,.map d.cb,d.dv,d.lv].set 3 v') 116)=h5 at gs5 gn5 Vq ⊢;have g15:∀b,b<h3.next->b≠sb->b≠d.cb->¬aM d.dv b->h5.get b=h3.get b:=λb x1 x2 x3 x4=>(Vq b x2).trans ((rn b (by omega) x4).trans (oA b x1 x3));have ZP:(S.ln.map (ae.int .i64)).length=S.ln.length:=qQD ..
   have akX:=H1.ON;refine qd (H1.lens.frame (by omega) λb hb=>g15 b (H1.B9 b hb).2.1 (lvn b hb).1 (lvn b hb).2.1 λhd=>(Vo b hd).2.2.2 hb) [.int .i64 len] rfl (by decide) (by simp[ae.flat]) (by omega) ?_;intro v2 h6 ho6 hn6 hg6 hb6;have gs6:h6.get sb=some (.cells [nv,.map d.mb,.map d.cb,v',d.lv] 116):=(hg6 sb (by omega) λhb=>(lvn _ hb).1 rfl).trans gs5;have CL:=aD (o:=4) (n:=1) (vs:=[v2]) gs6 rfl (by simp);rw[bW] at CL;simp only[go_sem,Nat.reduceEqDiff,bM ho6.lT,CL];have gs7:(h6.put sb (.cells ([nv,.map d.mb,.map d.cb,v',d.lv].set 4 v2) 116)).get sb=some (.cells [nv,.map d.mb,.map d.cb,v',v2] 116):=aa.aj _ _ _;have gn7:(h6.put sb (.cells ([nv,.map d.mb,.map d.cb,v',d.lv].set 4 v2) 116)).next=h6.next:=rfl;have go7:∀b,b≠sb->(h6.put sb (.cells ([nv,.map d.mb,.map d.cb,v',d.lv].set 4 v2) 116)).get b=h6.get b:=λb hb=>aa.ah _ _ (Ne.symm hb);clear CL;generalize h6.put sb (.cells ([nv,.map d.mb,.map d.cb,v',d.lv].set 4 v2) 116)=h7 at gs7 gn7 go7 ⊢;have uQ:=hle.next;have g17:∀b,b<h3.next->b≠sb->b≠d.cb->¬aM d.dv b->¬aM d.lv b->h7.get b=h3.get b:=λb x1 x2 x3 x4 x5=>(go7 b x2).trans ((hg6 b (by omega) x5).trans (g15 b x1 x2 x3 x4));have kE:∀b,b<h3.next->(aZ b=0\/aZ b=2\/8<=aZ b)->h7.get b=h3.get b:=λb x1 x2=>g17 b x1 (λe=>by rw[e,c1]at x2;omega) (λe=>by rw[e,c2]at x2;omega) (λhb=>by have:=(H1.nI b hb).2.2;omega) (λhb=>by have:=(H1.B9 b hb).2.2;omega);have yF:∀b,aM v' b->b=h3.next+11:=λb hb=>by have:=fu SS hb;omega
   have afE:∀b,aM v2 b->b=h3.next+13:=λb hb=>by have:=fu hb6 hb;omega
   have hold:∀b,b<h3.next->(if b<h3.next then aZ b else if b=h3.next+11 then 7 else 3)=aZ b:=λb hb=>if_pos hb
   have nN:¬∃j:Nat,S.M[j]?=some m/\S.fl[j]?=some f:=λ⟨j,x1,x2⟩=>by
    have:=(H1.cV (vO m f) (j:Int)).2 ⟨j,m,f,rfl,x1,x2,rfl⟩;rw[hk]at this;cases this
   have ic:=H1.W9;refine⟨λb=>if b<h3.next then aZ b else if b=h3.next+11 then 7 else 3,{d with Rl:=jA d.Rl d.cc (vO m f) (S.M.length:Int),cc:=hU d.Rl d.cc (vO m f),dv:=v',lv:=v2,jv:=d.jv++[v]},⟨S.M++[m],S.fl++[f],S.ln++[len]⟩,S.M.length,rfl,?_,by simp,by rw[<-ic];simp,rfl,.inr ⟨nN,rfl,rfl⟩,λb hb=>hold b (by omega),⟨by omega,λb hb ho=>?_⟩⟩
   .refine⟨⟨l1,by omega⟩,(hold _ l2).trans c1,gs7,⟨l5,by show d.mb<h7.next;omega⟩,(hold _ l6).trans c3,(kE _ l6 (by omega)).trans H1.OT,H1.mM,⟨l3,by show d.cb<h7.next;omega⟩,(hold _ l4).trans c2,?_,H1.cM.put _ _,?_,?_,?_,by simp[H1.lJ],?_,?_,?_,?_,by simp[ic],by simp[akX]⟩
    .exact(go7 _ (Ne.symm Qp)).trans ((hg6 _ (by omega) λhb=>(lvn _ hb).2.1 rfl).trans ((Vq _ (Ne.symm Qp)).trans ((rn _ (by omega) λhb=>(Vo _ hb).2.1 rfl).trans mA)))
    .intro s' k;rw[sL];by_cases e:s'=vO m f
     .subst e;rw[if_pos rfl];constructor
      .rintro e;cases e;exact⟨S.M.length,m,f,rfl,by simp,by rw[<-ic];simp,rfl⟩
      .rintro⟨i,m',f',rfl,hi,Oh,hq⟩;obtain⟨rfl,rfl⟩:=G5 hq;rcases lW _ _ _ _ hi with hi|⟨rfl,_⟩
       .rcases lW _ _ _ _ Oh with Oh|⟨e,_⟩
        .exact absurd ⟨i,hi,Oh⟩ nN
        .have:=(qQZ.1 hi).1;omega
       .rfl
     .rw[if_neg e,H1.cV];constructor
      .rintro⟨i,m',f',x1,x2,x3,x4⟩;exact⟨i,m',f',x1,by rw[qQN (qQZ.1 x2).1];exact x2,by rw[qQN (qQZ.1 x3).1];exact x3,x4⟩
      .rintro⟨i,m',f',x1,x2,x3,x4⟩;rcases lW _ _ _ _ x2 with hi|⟨g1,rfl⟩
       .rcases lW _ _ _ _ x3 with Oh|⟨g2,_⟩
        .exact⟨i,m',f',x1,hi,Oh,x4⟩
        .have:=(qQZ.1 hi).1;omega
       .rcases lW _ _ _ _ x3 with Oh|⟨g2,rfl⟩
        .have:=(qQZ.1 Oh).1;omega
        .exact absurd x4.symm e
    .show dO h7 2 110 v' (cr (d.jv++[v]) (S.M++[m]));rw[uA H1.lJ];refine JZ.frame (by omega) λb hb=>?_;have:=yF b hb;exact(go7 b (by omega)).trans ((hg6 b (by omega) λiB=>by have:=(H1.B9 b iB).2.1;omega).trans (Vq b (by omega)))
    .intro b hb;have:=yF b hb;refine⟨by omega,by omega,?_⟩;show(if b<h3.next then aZ b else if b=h3.next+11 then 7 else 3)=7;rw[if_neg (by omega),if_pos this]
    .intro i w m' (hw:(d.jv++[v])[i]?=some w) (hq:(S.M++[m])[i]?=some m');have tu:=H1.lJ;rcases lW _ _ _ _ hw with hw|⟨e1,rfl⟩<;>rcases lW _ _ _ _ hq with hq|⟨e2,rfl⟩
     .exact(H1.W3 i w m' hw hq).frame (by omega) λb hb=>by
       have x:=(H1.oD w (qQK hw)).2 b hb;exact kE b x.2.1 (by omega)
     .have:=(qQZ.1 hw).1;omega
     .have:=(qQZ.1 hq).1;omega
     .exact(hv.mono hle).frame (by omega) λb hb=>by
       have x:=Oq b hb;exact kE b (by omega) (by omega)
    .intro w hw;rcases qQE.1 hw with hw|hw
     .exact⟨(H1.oD w hw).1,(H1.oD w hw).2.mono (by omega) hold⟩
     .simp only[qZN]at hw;subst hw;exact⟨CN,Oq.mono (by omega) λb hb=>hold b (by omega)⟩
    .show dO h7 1 3 v2 ((S.ln++[len]).map (ae.int .i64));rw[qJW];exact ho6.frame (by omega) λb hb=>go7 b (by have:=afE b hb;omega)
    .intro b hb;have:=afE b hb;refine⟨by omega,by omega,?_⟩;show(if b<h3.next then aZ b else if b=h3.next+11 then 7 else 3)=3;rw[if_neg (by omega),if_neg (by omega)]
   .rw[<-hle.get b hb];refine g17 b (by omega) (λe=>?_) (λe=>?_) (λiB=>?_) λiB=>?_
    .rw[e,c1]at ho;omega
    .rw[e,c2]at ho;omega
    .have:=H1.nI b iB;omega
    .have:=H1.B9 b iB;omega
  .obtain⟨i,m',f',rfl,x1,x2,x3⟩:=(H1.cV _ k).1 hk;obtain⟨rfl,rfl⟩:=G5 x3;simp only[go_sem];exact⟨aZ,d,S,i,rfl,H1,x1,x2,rfl,.inl rfl,λ_ _=>rfl,.of hle⟩
end
attribute [local go_sem] cN cL
attribute [local go_sem] dK bQ
structure QE {C:Type}(M:eG C)(Good:C->Prop)(bd:C->Int):Prop where
 nn:∀c,Good c->0<=bd c/\bd c<=1152921504606846976
 step:∀c l d k,Good c->(d,k)∈M.step c l->0<=k/\bd c+k<=bd d
 fin:∀c f,Good c->M.fin c=some f->0<=f/\f<=1152921504606846976
 Vl:∀l:List C,l.Nodup->(∀c,c∈l->Good c)->l.length<=1000000
def Qs {C:Type}(M:eG C)(cfg:List C)(l:Nat)(p:List bL):List (C×Int):=p.flatMap λx=>match cfg[x.1]? with
 |some c=>(M.step c l).map λy=>(y.1,x.2+y.2)
 |none=>[]
def UY {C:Type}{M:eG C}{cfg:List C}{l:Nat}{p:List bL}{j:Nat}{x:bL}{c:C}(hx:p[j]?=some x)(hc:cfg[x.1]?=some c):Qs M cfg l (p.take (j+1))=Qs M cfg l (p.take j)++(M.step c l).map λy=>(y.1,x.2+y.2):=by
 unfold Qs;rw[qJM,hx,List.flatMap_append];congr 1;simp[hc]
structure Qy {C:Type}[DecidableEq C](X:MN C)(mv:ae)(ty:TypeId)(n0:Nat)(Good:C->Prop)(zs zc kb:Nat)(ts tc:TypeId)(h0:aa)(gV:Nat->Nat)(sb:Nat)(S0:jV C)(cfg:List C)(T:List (C×Int))(h:aa)(aZ:Nat->Nat)(d:nD C)(es:List dD)(clock:Nat):Prop where
 sub:iP X mv ty n0 aZ h sb d {S0 with cfg:=cfg}
 ext:S0.cfg <+: cfg
 qq:∀c,c∈cfg->Good c
 map:gh es clock
 gk:h.get kb=some (.map (es.map dF) clock)
 cost:jB cfg es T
 gs:h.get zs=some (.cells [.ptr sb 0] ts)
 gc:h.get zc=some (.cells [.map kb] tc)
 lo:n0<=zs/\n0<=zc/\n0<=kb
 hi:zs<h.next/\zc<h.next/\kb<h.next
 cz:9<=aZ zs/\9<=aZ zc/\9<=aZ kb
 fL:∀b,b<h0.next->aZ b=gV b
 next:h0.next<=h.next
 eN:∀b,n0<=b->b<h0.next->b≠kb->(gV b=0\/4<=gV b)->h.get b=h0.get b
section
variable{C:Type}[DecidableEq C]{X:MN C}{mv:ae}{ty:TypeId}{n0:Nat}{Good:C->Prop}{zs zc kb:Nat}{ts tc:TypeId}{h0:aa}{gV:Nat->Nat}{sb:Nat}{S0:jV C}{cfg:List C}{T:List (C×Int)}{h:aa}{aZ:Nat->Nat}{d:nD C}{es:List dD}{clock:Nat}
def Qy.kept (Q:Qy X mv ty n0 Good zs zc kb ts tc h0 gV sb S0 cfg T h aZ d es clock){h':aa}(K:Kept n0 h h'):Qy X mv ty n0 Good zs zc kb ts tc h0 gV sb S0 cfg T h' aZ d es clock:=by
 obtain⟨a1,a2,a3⟩:=Q.lo;obtain⟨b1,b2,b3⟩:=Q.hi;have hn:=K.next;have GK:=Q.next
 exact⟨Q.sub.frame ⟨hn,λb x1 x2 _ _=>K.get b x1 x2⟩ λ_ _=>rfl,Q.ext,Q.qq,Q.map,(K.get kb a3 b3).trans Q.gk,Q.cost,(K.get zs a1 b1).trans Q.gs,(K.get zc a2 b2).trans Q.gc,Q.lo,⟨by omega,by omega,by omega⟩,Q.cz,Q.fL,by omega,
  λb x1 x2 x3 x4=>(K.get b x1 (by omega)).trans (Q.eN b x1 x2 x3 x4)⟩
def Qy.ahz (Q:Qy X mv ty n0 Good zs zc kb ts tc h0 gV sb S0 cfg T h aZ d es clock){col':Nat->Nat}(hc:∀b,b<h.next->col' b=aZ b):Qy X mv ty n0 Good zs zc kb ts tc h0 gV sb S0 cfg T h col' d es clock:=by
 obtain⟨b1,b2,b3⟩:=Q.hi;obtain⟨c1,c2,c3⟩:=Q.cz;have GK:=Q.next;exact⟨Q.sub.frame ⟨qQY _,λ_ _ _ _ _=>rfl⟩ hc,Q.ext,Q.qq,Q.map,Q.gk,Q.cost,Q.gs,Q.gc,Q.lo,Q.hi,⟨by rw[hc _ b1];exact c1,by rw[hc _ b2];exact c2,by rw[hc _ b3];exact c3⟩,λb hb=>(hc b (by omega)).trans (Q.fL b hb),Q.next,Q.eN⟩
def Qy.Vl {M:eG C}{bd:C->Int}(B:QE M Good bd)(Q:Qy X mv ty n0 Good zs zc kb ts tc h0 gV sb S0 cfg T h aZ d es clock):cfg.length<=1000000:=B.Vl cfg Q.sub.c.nodup Q.qq
end
def ExA {C:Type}[DecidableEq C](X:MN C)(mv:ae)(ty:TypeId)(n0:Nat)(Good:C->Prop)(zs zc kb:Nat)(ts tc:TypeId)(h0:aa)(gV:Nat->Nat)(sb:Nat)(S0:jV C)(T:List (C×Int))(h:aa):Prop :=
 ∃cfg aZ d es clock,Qy X mv ty n0 Good zs zc kb ts tc h0 gV sb S0 cfg T h aZ d es clock
def NT {Qn Qr:Fr->aa->Prop}{Qx:Nat->Fr->aa->Prop}{M:eG Int}{mv:ae}{n0:Nat}{I:aa->Prop}{Good:Int->Prop}{bd:Int->Int}(O:Vh M (.int .i64) mv n0 I Good)(B:QE M Good bd){gV:Nat->Nat}{sb:Nat}{S0:jV Int}(fr:Fr)(h0 h:aa){zs zc kb:Nat}
 (HE:ExA cq mv 101 n0 Good zs zc kb 97 93 h0 gV sb S0 [] h) (hI:I h) (p:List bL) (v:ae) (li n:Nat) (tn ti:ae) (hli:li<38) (hv:∀h',(∀b,n0<=b->b<h0.next->b≠kb->(gV b=0\/4<=gV b)->h'.get b=h0.get b)->h0.next<=h'.next->cg h' 2 v (p.map aV))
 (hp:∀x,x∈p->∃c,S0.cfg[x.1]?=some c/\0<=x.2/\x.2<=bd c) (B5:p.length<=1048576)
 (t1:fr.get 1=some tn) (t2:fr.get 2=some (.ptr zs 0)) (t8:fr.get 8=some (.int .i64 (li:Int))) (t9:fr.get 9=some (.ptr zc 0)) (t85:fr.get 85=some ti) (t95:fr.get 95=some v) (t96:fr.get 96=some (.int .i64 (p.length:Int))) (t97:fr.get 97=some (.int .i64 0))
 (hq:∀fr h',fr.get 1=some tn->fr.get 2=some (.ptr zs 0)->fr.get 8=some (.int .i64 (li:Int))->fr.get 9=some (.ptr zc 0)->fr.get 85=some ti->I h'->ExA cq mv 101 n0 Good zs zc kb 97 93 h0 gV sb S0 (Qs M S0.cfg (bO.getD li 0) p) h'->Qx 4 fr h'):kI Tryz.prog E2 (.loop rN) fr h Qn Qx Qr:=by
 refine kf (λdd fr h'=>fr.get 1=some tn/\fr.get 2=some (.ptr zs 0)/\fr.get 8=some (.int .i64 (li:Int))/\fr.get 9=some (.ptr zc 0)/\fr.get 85=some ti/\fr.get 95=some v/\fr.get 96=some (.int .i64 (p.length:Int))/\I h'/\∃j:Nat,fr.get 97=some (.int .i64 (j:Int))/\dd+j=p.length/\ExA cq mv 101 n0 Good zs zc kb 97 93 h0 gV sb S0 (Qs M S0.cfg (bO.getD li 0) (p.take j)) h') p.length ?_ ?_
 .exact⟨t1,t2,t8,t9,t85,t95,t96,hI,0,t97,by omega,by simpa[Qs] using HE⟩
 clear t1 t2 t8 t9 t85 t95 t96 t97 HE hI;rintro dd fr h' ⟨t1,t2,t8,t9,t85,t95,t96,hI,j,t97,hd,cfg,aZ,d,es,clock,Q⟩;unfold rN;by_cases hc:(j:Int)<(p.length:Int)
 .obtain⟨x,hx⟩:∃x,p[j]?=some x:=⟨_,qQW (by omega)⟩;obtain⟨c,TC,x0,xb⟩:=hp x (qQK hx);obtain⟨mt,mx,rfl⟩:=O.iface;have hw:IntKind.i64.wrap ((j:Int)+1)=((j+1:Nat):Int):=by rw[wrap_i64 (by omega) (by omega)];push_cast;rfl
  obtain⟨bb,o,di,fU⟩:=(hv h' Q.eN Q.next).ix (j:=j) (x:=aV x) (by rw[qQX,hx];rfl)
  have hN:eI h' bb o 2=some (aV x):=by
   have:=di.eI (i:=0) (n:=2) (by simp[aV]);simpa[aV] using this
  have ib:over [ae.int .i64 0,.int .i64 0] 0 (aV x)=aV x:=rfl;have jX:(aV x).length=2:=rfl;obtain⟨z1,z2,z3⟩:=Q.hi;obtain⟨y1,y2,y3⟩:=Q.lo;obtain⟨s1,s2⟩:=Q.sub.lt;have Tn:(aV x)[0]?=some (.int .i64 (x.1:Int)):=rfl;have lz:aN (h'.push (.cells (aV x) 154)) zs 0=some (.ptr sb 0):=by rw[bt z1,aq Q.gs];rfl
  have l0:aN (h'.push (.cells (aV x) 154)) sb 0=some (.iface mt mx):=by rw[bt s2];exact Q.sub.BE.1
  have l2:aN (h'.push (.cells (aV x) 154)) sb 2=some d.cv:=by rw[bt s2];exact Q.sub.BE.2.2.1
  have Gy:cfg[x.1]?=some c:=by
   obtain⟨r,hr⟩:=Q.ext;rw[<-hr,qQN (qQZ.1 TC).1];exact TC
  have ny:cg h' 1 d.cv (cfg.map cq.cells):=Q.sub.c.own.cg (λx hx=>by obtain⟨a,_,rfl⟩:=qQB.1 hx;rfl) (by decide) (λx hx=>by rw[pE]at hx;obtain⟨a,_,rfl⟩:=qQB.1 hx;rfl);obtain⟨bc,oc,Qi,GD⟩:=ny.ix (j:=x.1) (x:=[.int .i64 c]) (by rw[qQX,Gy];rfl);have lc:aN (h'.push (.cells (aV x) 154)) bc oc=some (.int .i64 c):=by rw[bt Qi.1];exact Qi.aN (i:=0) rfl
  have JQ:[32,45,48,49,50,51,52,53,54,55,56,57,97,98,99,100,101,102,103,104,105,106,107,108,109,110,111,112,113,114,115,116,117,118,119,120,121,122][li]?=some (bO.getD li 0):=by
   show bO[li]?=_;rw[qVQ,qQW (by show li<38;exact hli)];rfl
  simp only[go_sem,Nat.reduceEqDiff,Nat.reduceAdd,t2,t8,t9,t95,t96,t97,hc,fU .i64 (j:Int) h' _ rfl,hN,ib,jX,Tn,lz,l0,l2,GD .i64 (x.1:Int) _ _ rfl,lc,JQ];have iU:Good c:=Q.qq c (qQK Gy);have VF:n0<=h'.next:=by omega
  have afy:bO.getD li 0<256:=by
   have:∀i,i<38->bO.getD i 0<256:=by decide
   exact this li hli
  have K2:Kept n0 h' ((h'.push (.cells (aV x) 154)).skip 18):=Kept.of (((aU.refl h').push _).skip 18);have Q2:=(Q.ahz (col':=ep aZ h' 9) λb hb=>br hb).kept K2;have gx2:((h'.push (.cells (aV x) 154)).skip 18).get h'.next=some (.cells (aV x) 154):=aa.ai _ _;have GL:((h'.push (.cells (aV x) 154)).skip 18).next=h'.next+19:=rfl;have DO:I ((h'.push (.cells (aV x) 154)).skip 18):=O.frame h' _ hI (((fD.refl n0 h').push VF _).skip 18);generalize (h'.push (.cells (aV x) 154)).skip 18=h2 at Q2 gx2 GL DO ⊢;refine O.step c (bO.getD li 0) h2 56 [.ptr zs 0,.ptr zc 0,.ptr h'.next 0] _ (λdone hh=>h2.next<=hh.next/\∃cfg aZ d es clock,Qy cq (.iface mt mx) 101 n0 Good zs zc kb 97 93 h0 gV sb S0 cfg (Qs M S0.cfg (bO.getD li 0) (p.take j)++done.map λy=>(y.1,x.2+y.2)) hh aZ d es clock/\hh.get h'.next=some (.cells (aV x) 154)/\9<=aZ h'.next) iU afy (by omega) DO (by decide) ?_ ?_ ?_ ?_
  .refine⟨qQY _,cfg,ep aZ h' 9,d,es,clock,?_,gx2,by rw[dY (qQY _)];omega⟩;simpa using Q2
  .rintro done a b ⟨r1,cfg,aZ,d,es,clock,r2,r3,r4⟩ ha Kab;have:=Kab.next;exact⟨by omega,cfg,aZ,d,es,clock,r2.kept Kab,(Kab.get _ VF (by omega)).trans r3,r4⟩
  .rintro done d1 k hh yL ⟨r1,cfg,aZ,d,es,clock,r2,r3,r4⟩ hIh hnh
   have eE:(d1,k)∈M.step c (bO.getD li 0):=by
    obtain⟨r,hr⟩:=yL;rw[<-hr];simp
   obtain⟨k0,kb2⟩:=B.step c _ d1 k iU eE;have hg1:Good d1:=O.r7 c _ d1 k iU eE;obtain⟨n1,n2⟩:=B.nn d1 hg1;have afK:=r2.Vl B;obtain⟨z1,z2,z3⟩:=r2.hi;obtain⟨c1,c2,c3⟩:=r2.cz;obtain⟨y1,y2,y3⟩:=r2.lo;have nO:=r2.next;refine(NR r2.sub (by show cfg.length+1<=_;omega) d1 k (x.1:Int) x.2 ⟨z1,z2,by omega,z3⟩ ⟨c1,c2,r4,c3⟩ r2.gs r2.gc r3 r2.map r2.gk r2.cost ⟨by omega,by omega⟩).mono ?_;rintro _ hh2 ⟨col',d',iL,dX,ud,e1,e2,e3,e4,e5,e6,e7,e8,e9⟩;have hzk:h'.next≠kb:=by omega
   refine⟨⟨by omega,iL,col',d',dX,ud,⟨e1,?_,?_,e3,e4,?_,?_,?_,r2.lo,⟨by omega,by omega,by omega⟩,?_,?_,by omega,?_⟩,?_,?_⟩,?_,e7⟩
   .rcases e2 with rfl|⟨_,rfl⟩
    .exact r2.ext
    .exact r2.ext.trans (List.prefix_append _ _)
   .rcases e2 with rfl|⟨_,rfl⟩
    .exact r2.qq
    .intro c' ku;rcases qQE.1 ku with ku|ku
     .exact r2.qq c' ku
     .simp at ku;subst ku;exact hg1
   .rw[qJW,<-qKY];exact e5
   .have zk:zs≠kb:=λe=>by
     have g1:=r2.gs;rw[e,r2.gk]at g1;cases g1
    exact(e9 zs z1 zk (.inr (.inr (by omega)))).trans r2.gs
   .have zk:zc≠kb:=λe=>by
     have g1:=r2.gc;rw[e,r2.gk]at g1;cases g1
    exact(e9 zc z2 zk (.inr (.inr (by omega)))).trans r2.gc
   .exact⟨by rw[e6 _ z1];exact c1,by rw[e6 _ z2];exact c2,by rw[e6 _ z3];exact c3⟩
   .exact λb hb=>(e6 b (by omega)).trans (r2.fL b hb)
   .exact λb x1 x2 x3 x4=>(e9 b (by omega) x3 (by have:=r2.fL b x2;omega)).trans (r2.eN b x1 x2 x3 x4)
   .exact(e9 _ (by omega) hzk (.inr (.inr (by omega)))).trans r3
   .rw[e6 _ (by omega)];exact r4
   .exact O.frame hh hh2 hIh ⟨e7,λb hb=>e9 b (by omega) (by omega) (.inl hb)⟩
  .rintro r h3 DP ⟨r1,cfg,aZ,d,es,clock,r2,r3,r4⟩ uQ;simp only[go_sem,Nat.reduceEqDiff,t1,t2,t8,t9,t85,t95,t96,t97,hw];refine⟨dd-1,by omega,DP,j+1,rfl,by omega,cfg,aZ,d,es,clock,?_⟩;rw[UY hx TC];exact r2
 .obtain rfl:j=p.length:=by omega
  simp only[go_sem,reduceCtorEq,t96,t97,hc];rw[qZY] at Q;exact hq _ _ (by simp[T.ag,t1]) (by simp[T.ag,t2]) (by simp[T.ag,t8]) (by simp[T.ag,t9]) (by simp[T.ag,t85]) hI ⟨cfg,aZ,d,es,clock,Q⟩
def AH:∀{vs:List ae}{ns:List aw}{n:Nat}{x:aw},vs.length=ns.length->ns[n]?=some x->(cr vs ns)[n*2+1]?=some (.int .i64 x.fin)
 |a :: vs,b :: ns,0,x,_,hx=>by simp at hx;subst hx;rfl
 |a :: vs,b :: ns,n+1,x,h,hx=>by
  have ih:=AH (vs:=vs) (ns:=ns) (n:=n) (x:=x) (by simpa using h) (by simpa using hx);show(a :: .int .i64 b.fin :: cr vs ns)[(n+1)*2+1]?=_;rw[show(n+1)*2+1=(n*2+1)+1+1 by omega,qJC,qJC];exact ih
 |[],_ :: _,_,_,h,_=>by cases h
 |_,[],_,_,_,hx=>by simp at hx
def AI:∀{vs:List ae}{ns:List aw}{n:Nat},vs.length=ns.length->(cr vs ns)[n*2]?=vs[n]?
 |a :: vs,b :: ns,0,_=>rfl
 |a :: vs,b :: ns,n+1,h=>by
  have ih:=AI (vs:=vs) (ns:=ns) (n:=n) (by simpa using h);show(a :: .int .i64 b.fin :: cr vs ns)[(n+1)*2]?=_;rw[show(n+1)*2=n*2+1+1 by omega,qJC,qJC,qJC];exact ih
 |[],[],n,_=>by simp[cr]
 |[],_ :: _,_,h=>by cases h
 |_ :: _,[],_,h=>by cases h
def yj (f:Int):∀{vs:List ae}{ns:List aw}{n:Nat},vs.length=ns.length->(cr vs ns).set (n*2+1) (.int .i64 f)=cr vs (eB ns n f)
 |a :: vs,b :: ns,0,_=>rfl
 |a :: vs,b :: ns,n+1,h=>by
  have ih:=yj f (vs:=vs) (ns:=ns) (n:=n) (by simpa using h);show(a :: .int .i64 b.fin :: cr vs ns).set ((n+1)*2+1) _=a :: .int .i64 b.fin :: cr vs (eB ns n f);rw[show(n+1)*2+1=(n*2+1)+1+1 by omega,List.set_cons_succ,List.set_cons_succ,ih]
 |[],[],n,_=>by simp[cr]
 |[],_ :: _,_,h=>by cases h
 |_ :: _,[],_,h=>by cases h
def yi (v:ae)(e:cI):∀{vs:List ae}{ns:List aw}{n:Nat},vs.length=ns.length->(cr vs ns).set (n*2) v=cr (vs.set n v) (gM ns n e)
 |a :: vs,b :: ns,0,_=>rfl
 |a :: vs,b :: ns,n+1,h=>by
  have ih:=yi v e (vs:=vs) (ns:=ns) (n:=n) (by simpa using h);show(a :: .int .i64 b.fin :: cr vs ns).set ((n+1)*2) _=a :: .int .i64 b.fin :: cr (vs.set n v) (gM ns n e);rw[show(n+1)*2=n*2+1+1 by omega,List.set_cons_succ,List.set_cons_succ,ih]
 |[],[],n,_=>by simp[cr]
 |[],_ :: _,_,h=>by cases h
 |_ :: _,[],_,h=>by cases h
def K6 (ns:List aw)(n:Nat)(f:Int):(eB ns n f).map aw.ak=ns.map aw.ak:=by
 unfold eB;apply qJF;intro i;rw[qQX,qQX,qJJ];cases ns[i]? with
 |none=>rfl
 |some x=>by_cases h:n=i<;>simp[h]
def IJ (ns:List aw)(n:Nat)(e:cI){x:aw}(hx:ns[n]?=some x):(gM ns n e).map aw.ak=(ns.map aw.ak).set n (x.ak++[e]):=by
 unfold gM;apply qJF;intro i;rw[qQX,qJJ,qJB,qQX];by_cases h:n=i
 .subst h;have hl:=(qQZ.1 hx).1;rw[hx,if_pos rfl,if_pos (by simpa using hl)];simp
 .rw[if_neg h];cases ns[i]? with
  |none=>rfl
  |some x=>simp[h]
def pT (ns:List aw)(n:Nat)(f:Int):(eB ns n f).length=ns.length:=by simp[eB]
def my (ns:List aw)(n:Nat)(e:cI):(gM ns n e).length=ns.length:=by simp[gM]
def HW {ns:List aw}{n:Nat}{f:Int}{x:aw}(hx:ns[n]?=some x):(eB ns n f)[n]?=some ⟨x.ak,f⟩:=by
 unfold eB;rw[qJJ,hx];simp
def C9 (ns:List aw)(n:Nat)(f g:Int):eB (eB ns n f) n g=eB ns n g:=by
 unfold eB;apply qJF;intro i;rw[qJJ,qJJ,qJJ];cases ns[i]? with
 |none=>rfl
 |some x=>by_cases h:n=i<;>simp[h]
def PG {ns:List aw}{n:Nat}{x:aw}(hx:ns[n]?=some x):eB ns n x.fin=ns:=by
 unfold eB;apply qJF;intro i;rw[qJJ];by_cases h:n=i
 .subst h;rw[hx];simp
 .cases ns[i]?<;>simp[h]
section
variable{n0:Nat}{aZ:Nat->Nat}{h:aa}{dv:ae}{jv:List ae}{ns:List aw}
def wK.lJ (H:wK n0 aZ h dv jv ns):jv.length=ns.length:=by have:=H.ak.len;rwa [qQD]at this
def wK.form (H:wK n0 aZ h dv jv ns){n:Nat}{x:aw}(hx:ns[n]?=some x):∃b,dv=.slice b 0 ns.length ns.length false/\n0<=b/\b<h.next/\aZ b=7/\h.get b=some (.cells (cr jv ns) 110):=by
 have hl:=(qQZ.1 hx).1;have hlen:=ja H.lJ;rcases H.nodes with⟨rfl,e⟩|⟨b,m,rfl,h1,h2,h3⟩
 .rw[e]at hlen;simp at hlen;omega
 .rw[hlen]at h3;obtain rfl:ns.length=m:=by omega
  have:=H.nI b ⟨_,_,_,_,rfl⟩;exact⟨b,rfl,this.1,h1,this.2.2,h2⟩
def wK.eB (H:wK n0 aZ h dv jv ns){n:Nat}{x:aw}(hx:ns[n]?=some x)(f:Int){b:Nat}(hb:dv=.slice b 0 ns.length ns.length false)(hc:aZ b=7)(JR:b<h.next):wK n0 aZ (h.put b (.cells (cr jv (eB ns n f)) 110)) dv jv (eB ns n f):=by
 subst hb;refine⟨.inr ⟨b,ns.length,rfl,JR,aa.aj _ _ _,by rw[ja (by rw[pT];exact H.lJ),pT]⟩,H.nI,?_,H.oD⟩;rw[K6]
 exact H.ak.frame (qQY _) λc _ _ ⟨i,v,hv,BX⟩=>aa.ah _ _ λe=>by
  have:=(H.oD v (qQK hv) c BX).2.2;rw[<-e,hc]at this;omega
end
def uT {C:Type}(M:eG C)(cfg:List C)(p:List bL)(f:Int):Prop:=(f=-1/\∀x c k,x∈p->cfg[x.1]?=some c->M.fin c=some k->False)\/(0<=f/\IsL (λt=>∃x c k,x∈p/\cfg[x.1]?=some c/\M.fin c=some k/\t=k+x.2) f)
def uT.skip {C:Type}{M:eG C}{cfg:List C}{p:List bL}{f:Int}(H:uT M cfg p f){x:bL}{c:C}(hc:cfg[x.1]?=some c)(hf:M.fin c=none):uT M cfg (p++[x]) f:=by
 have hx:∀y d k,y∈p++[x]->cfg[y.1]?=some d->M.fin d=some k->y∈p:=by
  intro y d k hy hd hk;rcases qQE.1 hy with hy|hy
  .exact hy
  .simp at hy;subst hy;rw[hc]at hd;cases hd;rw[hf]at hk;cases hk
 rcases H with⟨rfl,h⟩|⟨h0,h1,h2⟩
 .exact .inl ⟨rfl,λy d k hy hd hk=>h y d k (hx y d k hy hd hk) hd hk⟩
 .refine .inr ⟨h0,?_,λu hu=>?_⟩
  .obtain⟨y,d,k,hy,h3⟩:=h1;exact⟨y,d,k,by simp[hy],h3⟩
  .obtain⟨y,d,k,hy,hd,hk,he⟩:=hu;exact h2 u ⟨y,d,k,hx y d k hy hd hk,hd,hk,he⟩
def uT.add {C:Type}{M:eG C}{cfg:List C}{p:List bL}{f:Int}(H:uT M cfg p f){x:bL}{c:C}{k:Int}(hc:cfg[x.1]?=some c)(hf:M.fin c=some k)(h0:0<=k+x.2){g:Int}(hg:g=if f<0\/k+x.2<f then k+x.2 else f):uT M cfg (p++[x]) g:=by
 have fR:(λt=>∃y d j,y∈p++[x]/\cfg[y.1]?=some d/\M.fin d=some j/\t=j+y.2) (k+x.2):=⟨x,c,k,by simp,hc,hf,rfl⟩
 have oI:∀t,(∃y d j,y∈p++[x]/\cfg[y.1]?=some d/\M.fin d=some j/\t=j+y.2)->(∃y d j,y∈p/\cfg[y.1]?=some d/\M.fin d=some j/\t=j+y.2)\/t=k+x.2:=by
  rintro t ⟨y,d,j,hy,hd,hj,rfl⟩;rcases qQE.1 hy with hy|hy
  .exact .inl ⟨y,d,j,hy,hd,hj,rfl⟩
  .simp at hy;subst hy;rw[hc]at hd;cases hd;rw[hf]at hj;cases hj;exact .inr rfl
 rcases H with⟨rfl,h⟩|⟨Vy,h1,h2⟩
 .rw[if_pos (.inl (by omega))]at hg;subst hg;refine .inr ⟨h0,fR,λu hu=>?_⟩;rcases oI u hu with⟨y,d,j,hy,hd,hj,_⟩|rfl
  .exact(h y d j hy hd hj).elim
  .exact qKV _
 .by_cases dL:k+x.2<f
  .rw[if_pos (.inr dL)]at hg;subst hg;refine .inr ⟨h0,fR,λu hu=>?_⟩;rcases oI u hu with hu|rfl
   .have:=h2 u hu;omega
   .exact qKV _
  .rw[if_neg (by omega)]at hg;subst hg;refine .inr ⟨Vy,?_,λu hu=>?_⟩
   .obtain⟨y,d,j,hy,h3⟩:=h1;exact⟨y,d,j,by simp[hy],h3⟩
   .rcases oI u hu with hu|rfl
    .exact h2 u hu
    .omega
def uT.ge {C:Type}{M:eG C}{cfg:List C}{p:List bL}{f:Int}(H:uT M cfg p f):-1<=f:=by
 rcases H with⟨rfl,_⟩|⟨h,_⟩<;>omega
def iP.adu {C:Type}[DecidableEq C]{X:MN C}{mv:ae}{ty:TypeId}{n0:Nat}{aZ:Nat->Nat}{h:aa}{sb:Nat}{d:nD C}{S:jV C}(H:iP X mv ty n0 aZ h sb d S){n:Nat}{x:aw}(hx:S.nodes[n]?=some x)(f:Int){b:Nat}(hb:d.dv=.slice b 0 S.nodes.length S.nodes.length false) :
 iP X mv ty n0 aZ (h.put b (.cells (cr d.jv (eB S.nodes n f)) 110)) sb d {S with nodes:=eB S.nodes n f}:=by
 have iB:=H.n.nI b ⟨_,_,_,_,hb⟩;have hF:∀p q,q<7->uW p q n0 aZ h (h.put b (.cells (cr d.jv (eB S.nodes n f)) 110)):=λp q hq=>⟨qQY _,λx _ _ _ x4=>aa.ah _ _ λe=>by rw[<-e,iB.2.2]at x4;omega⟩;exact⟨H.lt,H.iE,(aa.ah _ _ λe=>by have:=H.iE;rw[<-e,iB.2.2]at this;omega).trans H.obj,H.c.frame (hF _ _ (by omega)) λ_ _=>rfl,H.s.frame (hF _ _ (by omega)) λ_ _=>rfl,H.n.eB hx f hb iB.2.2 iB.2.1,by show(eB S.nodes n f).length=_;rw[pT];exact H.AG⟩
set_option maxRecDepth 20000 in
def NS {Qn Qr:Fr->aa->Prop}{Qx:Nat->Fr->aa->Prop}{M:eG Int}{mv:ae}{n0:Nat}{I:aa->Prop}{Good:Int->Prop}{bd:Int->Int}(O:Vh M (.int .i64) mv n0 I Good)(B:QE M Good bd){gV:Nat->Nat}{sb:Nat}{S:jV Int}{d:nD Int}(fr:Fr)(h0:aa){zs:Nat}{ts:TypeId}
 (H0:iP cq mv 101 n0 gV h0 sb d S) (hg:∀c,c∈S.cfg->Good c) (hI:I h0) (hz:n0<=zs/\zs<h0.next/\9<=gV zs) (gs:h0.get zs=some (.cells [.ptr sb 0] ts)) (p:List bL) (v:ae) (n:Nat) {x0:aw} (uq:S.nodes[n]?=some x0) (Vy:x0.fin=-1)
 (hp:∀x,x∈p->∃c,S.cfg[x.1]?=some c/\0<=x.2/\x.2<=bd c) (B5:p.length<=1048576) (hv:cg h0 2 v (p.map aV)) (Oq:qf gV n0 h0 6 v)
 (t1:fr.get 1=some (.int .i64 (n:Int))) (t2:fr.get 2=some (.ptr zs 0)) (t22:fr.get 22=some v) (t23:fr.get 23=some (.int .i64 (p.length:Int))) (t24:fr.get 24=some (.int .i64 0))
 (hq:∀fr h' f aZ,fr.get 1=some (.int .i64 (n:Int))->fr.get 2=some (.ptr zs 0)->I h'->uT M S.cfg p f->iP cq mv 101 n0 aZ h' sb d {S with nodes:=eB S.nodes n f}->(∀b,b<h0.next->aZ b=gV b)->h0.next<=h'.next->(∀b,n0<=b->b<h0.next->gV b≠7->h'.get b=h0.get b)->Qx 0 fr h'):kI Tryz.prog E2 (.loop rM) fr h0 Qn Qx Qr:=by
 refine kf (λdd fr h'=>fr.get 1=some (.int .i64 (n:Int))/\fr.get 2=some (.ptr zs 0)/\fr.get 22=some v/\fr.get 23=some (.int .i64 (p.length:Int))/\I h'/\h0.next<=h'.next/\(∀b,n0<=b->b<h0.next->gV b≠7->h'.get b=h0.get b)/\∃(j:Nat)(f:Int)(aZ:Nat->Nat),fr.get 24=some (.int .i64 (j:Int))/\dd+j=p.length/\uT M S.cfg (p.take j) f/\iP cq mv 101 n0 aZ h' sb d {S with nodes:=eB S.nodes n f}/\(∀b,b<h0.next->aZ b=gV b)) p.length ?_ ?_
 .refine⟨t1,t2,t22,t23,hI,qQY _,λ_ _ _ _=>rfl,0,-1,gV,t24,by omega,.inl ⟨rfl,by simp⟩,?_,λ_ _=>rfl⟩;rw[<-Vy,PG uq];exact H0
 clear t1 t2 t22 t23 t24 hI;rintro dd fr h' ⟨t1,t2,t22,t23,hI,nO,wZ,j,f,aZ,t24,hd,hF,H,BY⟩;unfold rM;by_cases hc:(j:Int)<(p.length:Int)
 .obtain⟨x,hx⟩:∃x,p[j]?=some x:=⟨_,qQW (by omega)⟩;obtain⟨c,TC,arA,hxb⟩:=hp x (qQK hx);obtain⟨mt,mx,rfl⟩:=O.iface;have hw:IntKind.i64.wrap ((j:Int)+1)=((j+1:Nat):Int):=by rw[wrap_i64 (by omega) (by omega)];push_cast;rfl
  have tM:cg h' 2 v (p.map aV):=hv.frame nO λb hb=>wZ b (Oq b hb).1 (Oq b hb).2.1 (by rw[(Oq b hb).2.2];omega);obtain⟨bb,o,di,fU⟩:=tM.ix (j:=j) (x:=aV x) (by rw[qQX,hx];rfl)
  have hN:eI h' bb o 2=some (aV x):=by
   have:=di.eI (i:=0) (n:=2) (by simp[aV]);simpa[aV] using this
  have ib:over [ae.int .i64 0,.int .i64 0] 0 (aV x)=aV x:=rfl;have jX:(aV x).length=2:=rfl;have Tn:(aV x)[0]?=some (.int .i64 (x.1:Int)):=rfl;obtain⟨z1,z2,z3⟩:=hz;obtain⟨s1,s2⟩:=H.lt;have gs':h'.get zs=some (.cells [.ptr sb 0] ts):=(wZ zs z1 z2 (by omega)).trans gs;have lz:aN (h'.push (.cells (aV x) 154)) zs 0=some (.ptr sb 0):=by rw[bt (by omega),aq gs'];rfl
  have l0:aN (h'.push (.cells (aV x) 154)) sb 0=some (.iface mt mx):=by rw[bt s2];exact H.BE.1
  have l2:aN (h'.push (.cells (aV x) 154)) sb 2=some d.cv:=by rw[bt s2];exact H.BE.2.2.1
  have ny:cg h' 1 d.cv (S.cfg.map cq.cells):=H.c.own.cg (λx hx=>by obtain⟨a,_,rfl⟩:=qQB.1 hx;rfl) (by decide) (λx hx=>by rw[pE]at hx;obtain⟨a,_,rfl⟩:=qQB.1 hx;rfl);obtain⟨bc,oc,Qi,GD⟩:=ny.ix (j:=x.1) (x:=[.int .i64 c]) (by rw[qQX,TC];rfl);have lc:aN (h'.push (.cells (aV x) 154)) bc oc=some (.int .i64 c):=by rw[bt Qi.1];exact Qi.aN (i:=0) rfl
  simp only[go_sem,Nat.reduceEqDiff,Nat.reduceAdd,t2,t22,t23,t24,hc,fU .i64 (j:Int) h' _ rfl,hN,ib,jX,Tn,lz,l0,l2,GD .i64 (x.1:Int) _ _ rfl,lc];have iU:Good c:=hg c (qQK TC);have K2:Kept n0 h' ((h'.push (.cells (aV x) 154)).skip 20):=Kept.of (((aU.refl h').push _).skip 20);have gx2:((h'.push (.cells (aV x) 154)).skip 20).get h'.next=some (.cells (aV x) 154):=aa.ai _ _;have GL:((h'.push (.cells (aV x) 154)).skip 20).next=h'.next+21:=rfl;have DO:I ((h'.push (.cells (aV x) 154)).skip 20):=O.frame h' _ hI (((fD.refl n0 h').push (by omega) _).skip 20);generalize (h'.push (.cells (aV x) 154)).skip 20=h2 at K2 gx2 GL DO ⊢;refine O.final c h2 _ iU (by omega) DO λfv h3 hfv DP K3=>?_;obtain⟨fi,rfl,hfi⟩:=hfv;have K23:=K2.trans K3;have uQ:=K3.next;have gx3:h3.get h'.next=some (.cells (aV x) 154):=(K3.get _ (by omega) (by omega)).trans gx2;have H3:iP cq (.iface mt mx) 101 n0 (ep aZ h' 9) h3 sb d {S with nodes:=eB S.nodes n f}:=H.frame ⟨K23.next,λb x1 x2 _ _=>K23.get b x1 x2⟩ λb hb=>br hb;have gs3:h3.get zs=some (.cells [.ptr sb 0] ts):=(K23.get zs z1 (by omega)).trans gs';have lz3:aN h3 zs 0=some (.ptr sb 0):=by rw[aq gs3];rfl
  have l53:aN h3 sb 5=some d.dv:=H3.BE.2.2.2.2.2;have lx3:aN h3 h'.next 1=some (.int .i64 x.2):=by rw[aq gx3];rfl
  have Z9:(eB S.nodes n f)[n]?=some ⟨x0.ak,f⟩:=HW uq;obtain⟨db,ZC,db1,db2,db3,gdb⟩:=H3.n.form Z9;have pZ:n<(eB S.nodes n f).length:=(qQZ.1 Z9).1;have lf3:aN h3 db (n*2+1)=some (.int .i64 f):=by rw[aq gdb];exact AH H3.n.lJ Z9
  have Oi:∀h' K,fI 2 d.dv (.int .i64 (n:Int)) h' K=K (.ptr db (n*2)) h':=λh' K=>by
   rw[ZC];have:=dj (size:=2) (b:=db) (o:=0) (n:=(eB S.nodes n f).length) (c:=(eB S.nodes n f).length) (e:=false) (k:=.i64) (i:=(n:Int)) (j:=n) rfl pZ (h:=h') (K:=K);simpa using this
  have Tc:∀b,n0<=b->b<h0.next->gV b≠7->h3.get b=h0.get b:=λb x1 x2 x3=>(K23.get b x1 (by omega)).trans (wZ b x1 x2 x3);have CF:∀b,b<h0.next->ep aZ h' 9 b=gV b:=λb hb=>(br (by omega)).trans (BY b hb);have J7:p.take (j+1)=p.take j++[x]:=by rw[qJM,hx];rfl
  have aqw:=hF.ge;cases gW:M.fin c with
  |none =>
   simp only[go_sem,Nat.reduceEqDiff,reduceCtorEq,t1,t2,t22,t23,t24,Option.isSome_none,hw];refine⟨dd-1,by omega,O.frame h3 _ DP ((fD.refl _ _).skip 27),by omega,λb x1 x2 x3=>Tc b x1 x2 x3,j+1,f,ep aZ h' 9,rfl,by omega,(by rw[J7];exact hF.skip TC gW),H3.frame ⟨by show h3.next<=h3.next+27;omega,λ_ _ _ _ _=>rfl⟩ (λ_ _=>rfl),CF⟩
  |some k =>
   have hki:fi=k:=hfi k gW;subst hki;obtain⟨k0,k1⟩:=B.fin c fi iU gW;obtain⟨b0,b1⟩:=B.nn c iU;have hwa:IntKind.i64.wrap (fi+x.2)=fi+x.2:=wrap_i64 (by omega) (by omega);have H4:iP cq (.iface mt mx) 101 n0 (ep aZ h' 9) ((h3.skip 27).skip 12) sb d {S with nodes:=eB S.nodes n f}:=H3.frame ⟨by show h3.next<=h3.next+27+12;omega,λ_ _ _ _ _=>rfl⟩ (λ_ _=>rfl)
   have cS:putAt ((h3.skip 27).skip 12) db (n*2+1) 1 [.int .i64 (fi+x.2)]=some (((h3.skip 27).skip 12).put db (.cells (cr d.jv (eB S.nodes n (fi+x.2))) 110)):=by
    have:=aD (h:=(h3.skip 27).skip 12) (o:=n*2+1) (n:=1) (vs:=[.int .i64 (fi+x.2)]) gdb rfl (by rw[ja H3.n.lJ];show n*2+1+1<=(eB S.nodes n f).length*2;omega);rw[bW,yj _ H3.n.lJ]at this;rw[this];show some _=some _;rw[show eB ({S with nodes:=eB S.nodes n f}:jV Int).nodes n (fi+x.2)=eB S.nodes n (fi+x.2) from C9 _ _ _ _]
   have H5:=H4.adu (n:=n) Z9 (fi+x.2) (b:=db) ZC;have e5:eB ({S with nodes:=eB S.nodes n f}:jV Int).nodes n (fi+x.2)=eB S.nodes n (fi+x.2):=C9 _ _ _ _;rw[e5] at H5
   have ae4:uT M S.cfg (p.take (j+1)) (fi+x.2)->∃d',d'<dd/\I (((h3.skip 27).skip 12).put db (.cells (cr d.jv (eB S.nodes n (fi+x.2))) 110))/\h0.next<=(((h3.skip 27).skip 12).put db (.cells (cr d.jv (eB S.nodes n (fi+x.2))) 110)).next/\(∀b,n0<=b->b<h0.next->gV b≠7->(((h3.skip 27).skip 12).put db (.cells (cr d.jv (eB S.nodes n (fi+x.2))) 110)).get b=h0.get b)/\∃(j_1:Nat)(f:Int)(aZ:Nat->Nat),some (ae.int .i64 ((j+1:Nat):Int))=some (ae.int .i64 (j_1:Int))/\d'+j_1=p.length/\uT M S.cfg (p.take j_1) f/\iP cq (.iface mt mx) 101 n0 aZ (((h3.skip 27).skip 12).put db (.cells (cr d.jv (eB S.nodes n (fi+x.2))) 110)) sb d {S with nodes:=eB S.nodes n f}/\∀b,b<h0.next->aZ b=gV b:=by
    intro hF5;refine⟨dd-1,by omega,O.frame h3 _ DP (((fD.refl n0 h3).skip 27).skip 12 |>.put db1 _),by show h0.next<=h3.next+27+12;omega,λb x1 x2 x3=>(aa.ah _ _ λe=>?_).trans (Tc b x1 x2 x3),j+1,fi+x.2,ep aZ h' 9,rfl,by omega,hF5,H5,CF⟩;have:=CF b x2;rw[<-e,db3]at this;exact x3 (by rw[<-e];exact this.symm)
   by_cases Ak:f<0
   .simp only[go_sem,Nat.reduceEqDiff,reduceCtorEq,t1,t2,t22,t23,t24,qWY,hw,lz3,l53,lx3,Oi,lf3,Ak,hwa,cS];exact ae4 (by rw[J7];exact hF.add TC gW (by omega) (by rw[if_pos (.inl Ak)]))
   .by_cases dL:fi+x.2<f
    .simp only[go_sem,Nat.reduceEqDiff,t1,t2,t22,t23,t24,qWY,hw,lz3,l53,lx3,Oi,lf3,Ak,hwa,dL,cS];exact ae4 (by rw[J7];exact hF.add TC gW (by omega) (by rw[if_pos (.inr dL)]))
    .simp only[go_sem,Nat.reduceEqDiff,reduceCtorEq,t1,t2,t22,t23,t24,qWY,hw,lz3,l53,lx3,Oi,lf3,Ak,hwa,dL];refine⟨dd-1,by omega,O.frame h3 _ DP ((fD.refl _ _).skip 27),by omega,λb x1 x2 x3=>Tc b x1 x2 x3,j+1,f,ep aZ h' 9,rfl,by omega,(by rw[J7];exact hF.add TC gW (by omega) (by rw[if_neg (by omega)])),H3.frame ⟨by show h3.next<=h3.next+27;omega,λ_ _ _ _ _=>rfl⟩ (λ_ _=>rfl),CF⟩
 .obtain rfl:j=p.length:=by omega
  simp only[go_sem,reduceCtorEq,t23,t24,hc];rw[qZY]at hF;exact hq _ _ f aZ (by simp[T.ag,t1]) (by simp[T.ag,t2]) hI hF H BY nO wZ
section
variable{C:Type}
def mw (bd:C->Int)(cfg:List C)(p:List bL):Prop:=p.Pairwise (λx y=>x.1<y.1)/\∀x,x∈p->∃c,cfg[x.1]?=some c/\0<=x.2/\x.2<=bd c
def mw.ext {bd:C->Int}{cfg iL:List C}{p:List bL}(H:mw bd cfg p)(he:cfg <+: iL):mw bd iL p:=by
 refine⟨H.1,λx hx=>?_⟩;obtain⟨c,h1,h2⟩:=H.2 x hx;obtain⟨r,rfl⟩:=he;exact⟨c,by rw[qQN (qQZ.1 h1).1];exact h1,h2⟩
def mw.len {bd:C->Int}{cfg:List C}{p:List bL}(H:mw bd cfg p):p.length<=cfg.length:=by
 have kv:(p.map (·.1)).Nodup:=by
  rw[qVZ,qKB];exact H.1.imp λ{x y} h=>by omega
 have:=iG (m:=List.range cfg.length) kv λk hk=>by
  obtain⟨x,hx,rfl⟩:=qQB.1 hk;obtain⟨c,h1,_⟩:=H.2 x hx;exact qJX.2 (qQZ.1 h1).1
 simpa using this
def uH {bd:C->Int}{cfg iL:List C}{p:List bL}(H:mw bd cfg p)(he:cfg <+: iL):hJ iL p=hJ cfg p:=by
 funext c v;refine propext ⟨?_,?_⟩
 .rintro⟨k,h1,h2⟩;obtain⟨d,h3,_⟩:=H.2 _ h2;obtain⟨r,rfl⟩:=he;rw[qQN (qQZ.1 h3).1]at h1;exact⟨k,h1,h2⟩
 .rintro⟨k,h1,h2⟩;obtain⟨r,rfl⟩:=he;exact⟨k,by rw[qQN (qQZ.1 h1).1];exact h1,h2⟩
def QT:∀{p q:List bL},p.Pairwise (λx y=>x.1<y.1)->q.Pairwise (λx y=>x.1<y.1)->(∀x,x∈p↔x∈q)->p=q
 |[],[],_,_,_=>rfl
 |[],y :: q,_,_,h=>by have:=(h y).2 (by simp);cases this
 |x :: p,[],_,_,h=>by have:=(h x).1 (by simp);cases this
 |x :: p,y :: q,hp,hq,h=>by
  rw[qVX]at hp hq
  have lH:x=y:=by
   rcases qQF.1 ((h x).1 (by simp)) with e|hx
   .exact e
   .rcases qQF.1 ((h y).2 (by simp)) with e|hy
    .exact e.symm
    .have:=hp.1 y hy;have:=hq.1 x hx;omega
  subst lH;congr 1;refine QT hp.2 hq.2 λz=>⟨λhz=>?_,λhz=>?_⟩
  .rcases qQF.1 ((h z).1 (by simp[hz])) with e|h2
   .have:=hp.1 z hz;rw[e]at this;omega
   .exact h2
  .rcases qQF.1 ((h z).2 (by simp[hz])) with e|h2
   .have:=hq.1 z hz;rw[e]at this;omega
   .exact h2
def qO {cfg:List C}(kv:∀(i j:Nat) c,cfg[i]?=some c->cfg[j]?=some c->i=j){p:List bL}{k:Nat}{c:C}(hk:cfg[k]?=some c)(v:Int):hJ cfg p c v↔(k,v)∈p:=by
 constructor
 .rintro⟨j,h1,h2⟩;rw[kv k j c hk h1];exact h2
 .exact λh=>⟨k,hk,h⟩
def KV {bd:C->Int}{cfg:List C}(kv:∀(i j:Nat) c,cfg[i]?=some c->cfg[j]?=some c->i=j){p q:List bL}(hp:mw bd cfg p)(hq:mw bd cfg q)(h:hJ cfg p=hJ cfg q):p=q:=by
 refine QT hp.1 hq.1 λx=>⟨λhx=>?_,λhx=>?_⟩
 .obtain⟨c,h1,_⟩:=hp.2 x hx;exact(qO kv h1 x.2).1 (h▸(qO kv h1 x.2).2 hx)
 .obtain⟨c,h1,_⟩:=hq.2 x hx;exact(qO kv h1 x.2).1 (h▸(qO kv h1 x.2).2 hx)
def EW {M:eG C}{cfg:List C}{l:Nat}{p:List bL}(c:C)(t:Int):(c,t)∈Qs M cfg l p↔yQ M (hJ cfg p) l c t:=by
 unfold Qs yQ hJ;rw[List.mem_flatMap];constructor
 .rintro⟨x,hx,h⟩;cases hc:cfg[x.1]? with
  |none=>rw[hc]at h;cases h
  |some d =>
   rw[hc]at h;obtain⟨y,hy,e⟩:=qQB.1 h;cases e;exact⟨d,x.2,y.2,⟨x.1,hc,hx⟩,hy,rfl⟩
 .rintro⟨d,r,k,⟨j,h1,h2⟩,h3,rfl⟩;refine⟨(j,r),h2,?_⟩;simp only[h1];exact qQB.2 ⟨(c,k),h3,rfl⟩
def Ih {M:eG C}{cfg:List C}{l:Nat}{p:List bL}:(λc t=>(c,t)∈Qs M cfg l p)=yQ M (hJ cfg p) l:=by
 funext c t;exact propext (EW c t)
def uT.toR {M:eG C}{cfg:List C}{p:List bL}{f:Int}(H:uT M cfg p f):Qz M (hJ cfg p) f:=by
 rcases H with⟨rfl,h⟩|⟨h0,h1,h2⟩
 .exact .inl ⟨rfl,λc r k ⟨j,a,b⟩ hk=>h (j,r) c k b a hk⟩
 .refine .inr ⟨h0,?_,λu hu=>?_⟩
  .obtain⟨x,c,k,a,b,e,g⟩:=h1;exact⟨c,x.2,k,⟨x.1,b,a⟩,e,g⟩
  .obtain⟨c,r,k,⟨j,a,b⟩,e,g⟩:=hu;exact h2 u ⟨(j,r),c,k,b,a,e,g⟩
def Fm.ok {M:eG C}{Good:C->Prop}{bd:C->Int}(B:QE M Good bd){cfg I9:List C}(iU:∀c,c∈cfg->Good c)(abM:I9 <+: cfg){es:List dD}{clock:Nat}(hM:gh es clock){p q:List bL}{l:Nat}{m:Int}(hp:mw bd I9 p)(H:jB cfg es (Qs M I9 l p))(hq:Fm M cfg es q m):mw bd cfg q/\0<=m:=by
 have key:∀(e:dD)(k:Nat) c,e∈es->e.1=(k:Int)->cfg[k]?=some c->0<=e.2.1/\e.2.1<=bd c:=by
  intro e k c he hk hc;have hl:=H.least k c hc;rw[<-hk,jk hM.keys he]at hl;obtain⟨c0,r,w,⟨j,h1,h2⟩,h3,h4⟩:=(EW c e.2.1).1 hl.1;obtain⟨d,g1,g2,g3⟩:=hp.2 _ h2;rw[h1]at g1;cases g1;have hg0:Good c0:=iU c0 (by obtain⟨r,rfl⟩:=abM;exact qVY _ (qQK h1));obtain⟨b1,b2⟩:=B.step c0 l c w hg0 h3;simp only at g2 g3;omega
 have hm:0<=m:=by
  obtain⟨e,k,c,h1,h2,h3,h4,rfl⟩:=hq.B3;exact(key e k c h1 h2 h3).1
 refine⟨⟨hq.nq,λx hx=>?_⟩,hm⟩;obtain⟨e,c,h1,h2,h3,h4,h5⟩:=(hq.mem x.1 x.2).1 hx;have:=key e x.1 c h1 h2 h4;have:=hq.low e x.1 c h1 h2 h4 h5;exact⟨c,h4,by omega,by omega⟩
end
def iC.ai4 {α:Type}{size:Nat}{elem:TypeId}{enc:α->List ae}{n0:Nat}{h:aa}{vs:List ae}{ls:List (List α)}(H:iC size elem enc n0 h vs ls)(qZ:n0<=h.next){i:Nat}{v:ae}{l:List α}(hv:vs[i]?=some v)(hl:ls[i]?=some l){x:ae}{a:α}(hs:fS h size x=some (1,enc a))(hlen:(enc a).length=size)(iq:0<size)(uo:(DK enc l).length+1<=1073741824)
 {K:ae->aa->Prop} (hK:∀v' h',(∀c,aM v' c->c=h.next)->iC size elem enc n0 h' (vs.set i v') (ls.set i (l++[a]))->v'.flat=true->h'.next=h.next+1->(∀c,c<h.next->¬aM v c->h'.get c=h.get c)->K v' h'):uX elem size v x h K:=by
 refine kd (H.own i v l hv hl) hs (by simp) (by simpa using hlen) iq uo ?_;intro v' h' ho hn hf hb;have DT:=(qQZ.1 hv).1
 have hblk:∀c,aM v' c->c=h.next:=by
  rintro c ⟨o,n,c2,e,rfl⟩;obtain⟨_,_,_,_,he⟩:=hb;cases he;rfl
 refine hK v' h' hblk ⟨by simp[H.len],λj w m hw hm=>?_,λj w c hw hc=>?_,λj k w u c hw hu hc pd=>?_⟩ ho.lT hn hf
 .rw[qJB]at hw hm;by_cases e:i=j
  .subst e;rw[if_pos rfl,if_pos (by omega)]at hw;rw[if_pos rfl,if_pos (by rw[<-H.len];omega)]at hm;cases hw;cases hm;unfold DK at ho ⊢;simpa using ho
  .rw[if_neg e]at hw hm;exact(H.own j w m hw hm).frame (by omega) λb hb=>hf b (H.low j w b hw hb).2 λhc=>e (H.JA i j v w b hv hw hc hb)
 .rw[qJB]at hw;by_cases e:i=j
  .subst e;rw[if_pos rfl,if_pos (by omega)]at hw;cases hw;have:=hblk c hc;omega
  .rw[if_neg e]at hw;have:=H.low j w c hw hc;omega
 .rw[qJB]at hw hu;by_cases e:i=j
  .by_cases e2:i=k
   .omega
   .subst e;rw[if_pos rfl,if_pos (by omega)]at hw;rw[if_neg e2]at hu;cases hw;have:=hblk c hc;have:=(H.low k u c hu pd).2;omega
  .rw[if_neg e]at hw;by_cases e2:i=k
   .subst e2;rw[if_pos rfl,if_pos (by omega)]at hu;cases hu;have:=hblk c pd;have:=(H.low j w c hw hc).2;omega
   .rw[if_neg e2]at hu;exact H.JA j k w u c hw hu hc pd
def jK {C:Type}(S:jV C):DS C:=⟨S.aR.map (hJ S.cfg),S.nodes⟩
structure VS {C:Type}[DecidableEq C](X:MN C)(M:eG C)(mv:ae)(ty:TypeId)(n0:Nat)(Good:C->Prop)(bd:C->Int)(sb zs:Nat)(ts:TypeId)(n:Nat)(S1:jV C)(p:List bL)(i:Nat)(h:aa)(aZ:Nat->Nat)(d:nD C)(S:jV C):Prop where
 sub:iP X mv ty n0 aZ h sb d S
 ext:S1.cfg <+: S.cfg
 qq:∀c,c∈S.cfg->Good c
 Qq:∀p,p∈S.aR->mw bd S.cfg p
 at_:S.aR[n]?=some p
 lets:ph M n (bO.take i) (jK S1) (jK S)
 Vl:S.aR.length<=S1.aR.length+i
 aeX:∀x,S.nodes[n]?=some x->x.ak.length<=i
 zlo:n0<=zs/\zs<h.next/\9<=aZ zs
 gs:h.get zs=some (.cells [.ptr sb 0] ts)
def Qv {C:Type}{bd:C->Int}{S:jV C}{cfg:List C}(hp:∀p,p∈S.aR->mw bd S.cfg p)(he:S.cfg <+: cfg):jK {S with cfg:=cfg}=jK S:=by
 unfold jK;congr 1;exact qJH λp h=>uH (hp p h) he
def xU {i:Nat}(h:i<38):bO.take (i+1)=bO.take i++[bO.getD i 0]:=by
 rw[qJM,qVQ,qQW (by show i<38;exact h)];rfl
def jB.Y' {C:Type}{M:eG C}{Good:C->Prop}{bd:C->Int}(B:QE M Good bd){cfg I9:List C}(iU:∀c,c∈cfg->Good c)(abM:I9 <+: cfg){es:List dD}{clock:Nat}(hM:gh es clock){p:List bL}{l:Nat}(hp:mw bd I9 p)(H:jB cfg es (Qs M I9 l p)):∀e,e∈es->0<=e.2.1/\e.2.1<=1152921504606846976:=by
 intro e he;obtain⟨k,c,hk,hc⟩:=H.key e he;have hl:=H.least k c hc;rw[<-hk,jk hM.keys he]at hl;obtain⟨c0,r,w,⟨j,h1,h2⟩,h3,h4⟩:=(EW c e.2.1).1 hl.1;obtain⟨d,g1,g2,g3⟩:=hp.2 _ h2;rw[h1]at g1;cases g1;have hg0:Good c0:=iU c0 (by obtain⟨r,rfl⟩:=abM;exact qVY _ (qQK h1));obtain⟨b1,b2⟩:=B.step c0 l c w hg0 h3;have:=(B.nn c (iU c (qQK hc))).2;simp only at g2 g3;omega
def jB.lJ {C:Type}{cfg:List C}{es:List dD}{clock:Nat}(hM:gh es clock){T:List (C×Int)}(H:jB cfg es T):es.length<=cfg.length:=by
 have:=iG (l:=es.map (·.1)) (m:=(List.range cfg.length).map λn:Nat=>(n:Int)) hM.keys λx hx=>by
  obtain⟨e,he,rfl⟩:=qQB.1 hx;obtain⟨k,c,h1,h2⟩:=H.key e he;exact qQB.2 ⟨k,qJX.2 (qQZ.1 h2).1,h1.symm⟩
 simpa using this
set_option maxRecDepth 20000 in
def NU {Qn Qr:Fr->aa->Prop}{Qx:Nat->Fr->aa->Prop}{M:eG Int}{mv:ae}{n0:Nat}{I:aa->Prop}{Good:Int->Prop}{bd:Int->Int}(O:Vh M (.int .i64) mv n0 I Good)(B:QE M Good bd){aZ:Nat->Nat}{sb:Nat}{S1:jV Int}{d:nD Int}(fr:Fr)(h:aa){zs:Nat}(p:List bL)(n:Nat)
 (L:VS cq M mv 101 n0 Good bd sb zs 97 n S1 p 0 h aZ d S1) (hI:I h) (Iy:S1.aR.length<=1000000)
 (t1:fr.get 1=some (.int .i64 (n:Int))) (t2:fr.get 2=some (.ptr zs 0)) (t85:fr.get 85=some (.int .i64 0))
 (hq:∀fr h' aZ d S,I h'->VS cq M mv 101 n0 Good bd sb zs 97 n S1 p 38 h' aZ d S->Qx 2 fr h'):kI Tryz.prog E2 (.loop rO) fr h Qn Qx Qr:=by
 refine kf (λdd fr h'=>fr.get 1=some (.int .i64 (n:Int))/\fr.get 2=some (.ptr zs 0)/\I h'/\∃(i:Nat)(aZ:Nat->Nat)(d:nD Int)(S:jV Int),fr.get 85=some (.int .i64 (i:Int))/\dd+i=38/\VS cq M mv 101 n0 Good bd sb zs 97 n S1 p i h' aZ d S) 38 ?_ ?_
 .exact⟨t1,t2,hI,0,aZ,d,S1,t85,by omega,L⟩
 clear t1 t2 t85 hI L;rintro dd fr h ⟨t1,t2,hI,i,aZ,d,S,t85,hd,L⟩;unfold rO;by_cases hc:(i:Int)<38
 .have hi:i<38:=by omega
  have hw:IntKind.i64.wrap ((i:Int)+1)=((i+1:Nat):Int):=by rw[wrap_i64 (by omega) (by omega)];push_cast;rfl
  obtain⟨z1,z2,z3⟩:=L.zlo;obtain⟨s1,s2⟩:=L.sub.lt;have Mf:(h.push (.map [] 0)).next=h.next+1:=rfl;have gz:((h.push (.map [] 0)).push (.cells [.b8] 93)).get (h.next+1)=some (.cells [.b8] 93):=aa.ai _ _;have Z1:=aD (o:=0) (n:=1) (vs:=[.map h.next]) gz rfl (by simp);rw[bW] at Z1;have go2:∀b,b<h.next->(((h.push (.map [] 0)).push (.cells [.b8] 93)).put (h.next+1) (.cells ([ae.b8].set 0 (.map h.next)) 93)).get b=h.get b:=λb hb=>(aa.ah _ _ (by omega)).trans ((aa.aA _ _ (by rw[Mf];omega)).trans (aa.aA _ _ (by omega)));have gk2:(((h.push (.map [] 0)).push (.cells [.b8] 93)).put (h.next+1) (.cells ([ae.b8].set 0 (.map h.next)) 93)).get h.next=some (.map [] 0):=(aa.ah _ _ (by omega)).trans ((aa.aA _ _ (by rw[Mf];omega)).trans (aa.ai _ _));have gc2:(((h.push (.map [] 0)).push (.cells [.b8] 93)).put (h.next+1) (.cells ([ae.b8].set 0 (.map h.next)) 93)).get (h.next+1)=some (.cells [.map h.next] 93):=aa.aj _ _ _;have gn2:(((h.push (.map [] 0)).push (.cells [.b8] 93)).put (h.next+1) (.cells ([ae.b8].set 0 (.map h.next)) 93)).next=h.next+2:=rfl;obtain⟨v,hv⟩:∃v,d.rows[n]?=some v:=⟨_,qQW (by rw[L.sub.s.Lb];exact(qQZ.1 L.at_).1)⟩;have di:=L.sub.s.YE n v p hv L.at_;have Oq:=(L.sub.s.tR v (qQK hv)).2;have J5:=dO.cg (xs:=d.rows.map λx=>[x]) (by rw[jS];exact L.sub.s.aR) (λx hx=>by obtain⟨a,_,rfl⟩:=qQB.1 hx;rfl) (by decide) (λx hx=>by rw[jS]at hx;exact(L.sub.s.tR x hx).1);obtain⟨bp,op,hrp,JV⟩:=J5.ix (j:=n) (x:=[v]) (by rw[qQX,hv];rfl);have JV:=JV .i64 (n:Int);have lz2:aN (((h.push (.map [] 0)).push (.cells [.b8] 93)).put (h.next+1) (.cells ([ae.b8].set 0 (.map h.next)) 93)) zs 0=some (.ptr sb 0):=by rw[cG (go2 zs z2),aq L.gs];rfl
  have l42:aN (((h.push (.map [] 0)).push (.cells [.b8] 93)).put (h.next+1) (.cells ([ae.b8].set 0 (.map h.next)) 93)) sb 4=some d.pv:=by rw[cG (go2 sb s2)];exact L.sub.BE.2.2.2.2.1
  have lv2:aN (((h.push (.map [] 0)).push (.cells [.b8] 93)).put (h.next+1) (.cells ([ae.b8].set 0 (.map h.next)) 93)) bp op=some v:=by rw[cG (go2 bp hrp.1)];exact hrp.aN (i:=0) rfl
  have Th:∀h' K,cH v h' K=K (.int .i64 (p.length:Int)) h':=λh' K=>by rw[di.len,qQD]
  simp only[go_sem,Nat.reduceEqDiff,t1,t2,t85,hc,Z1,lz2,l42,JV _ _ rfl,lv2,Th];have aS:aU h (((h.push (.map [] 0)).push (.cells [.b8] 93)).put (h.next+1) (.cells ([ae.b8].set 0 (.map h.next)) 93)):=⟨by rw[gn2];omega,go2⟩;generalize ((h.push (.map [] 0)).push (.cells [.b8] 93)).put (h.next+1) (.cells ([ae.b8].set 0 (.map h.next)) 93)=h2 at aS gk2 gc2 gn2 ⊢;have qZ:n0<=h.next:=by omega
  have DO:I h2:=O.frame h h2 hI (fD.of qZ aS);have CG:∀b,b<h.next->ep aZ h 9 b=aZ b:=λb hb=>br hb;have agW:iP cq mv 101 n0 (ep aZ h 9) h2 sb d S:=L.sub.frame (.of aS) CG
  have hQ:Qy cq mv 101 n0 Good zs (h.next+1) h.next 97 93 h2 (ep aZ h 9) sb S S.cfg [] h2 (ep aZ h 9) d [] 0 :=
   ⟨agW,qVE _,L.qq,gh.nil,gk2,jB.nil _,(aS.get zs z2).trans L.gs,gc2,⟨z1,by omega,qZ⟩,⟨by omega,by omega,by omega⟩,⟨by rw[CG zs z2];exact z3,by rw[dY (by omega)];omega,by rw[dY (by omega)];omega⟩,λ_ _=>rfl,qQY _,λ_ _ _ _ _=>rfl⟩
  have J2:=L.Qq p (qQK L.at_);have afK:=hQ.Vl B;have agL:=J2.len;refine NT O B _ h2 h2 ⟨S.cfg,ep aZ h 9,d,[],0,hQ⟩ DO p v i n (.int .i64 (n:Int)) (.int .i64 (i:Int)) hi (λh' hk Fa=>(di.mono aS).frame Fa λb hb=>?_) J2.2 (by omega) (by simp[T.ag,t1]) (by simp[T.ag,t2]) (by simp[T.ag]) (by simp[T.ag]) (by simp[T.ag,t85]) (by simp[T.ag]) (by simp[T.ag]) (by simp[T.ag]) ?_
  .have:=Oq b hb;exact hk b this.1 (by omega) (by omega) (.inr (by rw[CG b this.2.1];omega))
  intro fr3 h3 u1 u2 u8 u9 u85 DP hE;obtain⟨yA,DD,d3,es,clock,Q⟩:=hE;have lz3:aN h3 zs 0=some (.ptr sb 0):=by rw[aq Q.gs];rfl
  have lc3:aN h3 (h.next+1) 0=some (.map h.next):=by rw[aq Q.gc];rfl
  simp only[go_sem,Nat.reduceEqDiff,u1,u2,u9,u85,lz3,lc3];refine⟨by decide,?_⟩;have anL:=Q.Vl B;have tu:=Q.cost.lJ Q.map;have Xm:=jB.Y' B Q.qq Q.ext Q.map J2 Q.cost;have hSc:=L.Vl;have ak7:=Q.next;refine(HY O h3 Q.sub Q.qq DP Q.map ⟨Q.lo.2.2,Q.hi.2.2⟩ Q.gk Q.cost.key (λe he=>by have:=Xm e he;omega) (by omega)).mono ?_;rintro r h4 ⟨Qe,K4,hS⟩;have Q4:=Q.kept K4;have hDS:jK {S with cfg:=yA}=jK S:=Qv L.Qq Q.ext
  have Ts:(jK S).aR[n]?=some (hJ S.cfg p):=by
   show(S.aR.map _)[n]?=_;rw[qQX,L.at_];rfl
  rcases hS with⟨rfl,CH⟩|⟨pv,q,least,rfl,hP,hSl,ic,hbk⟩
  .simp only[go_sem,Nat.reduceEqDiff,reduceCtorEq,u1,u2,u85,hw];refine⟨dd-1,by omega,Qe,i+1,DD,d3,{S with cfg:=yA},rfl,by omega,⟨Q4.sub,L.ext.trans Q.ext,Q.qq,λp' jz=>(L.Qq p' jz).ext Q.ext,L.at_,?_,by show S.aR.length<=_;omega,λx hx=>by have:=L.aeX x hx;omega,⟨z1,Q4.hi.1,Q4.cz.1⟩,Q4.gs⟩⟩;rw[xU hi,hDS];refine ph.snoc L.lets (.dead _ (hJ S.cfg p) Ts ?_);rw[<-Ih];exact LM Q.cost CH
  .have kv:∀(i j:Nat) c,yA[i]?=some c->yA[j]?=some c->i=j:=λi j c a b=>Q.sub.c.inj a b;obtain⟨GR,ZS⟩:=hP.ok B Q.qq Q.ext Q.map J2 Q.cost;have hR:=hP.ahF Q.map Q.cost kv;rw[Ih]at hR;have H4:iP cq mv 101 n0 (ep DD h3 6) h4 sb d3 {S with cfg:=yA}:=Q.sub.frame ⟨K4.next,λb x1 x2 _ _=>K4.get b x1 x2⟩ λb hb=>br hb;have lz4:aN h4 zs 0=some (.ptr sb 0):=by rw[aq Q4.gs];rfl
   simp only[go_sem,Nat.reduceEqDiff,u2,lz4];refine⟨by decide,?_⟩;have Tp:=GR.len
   have hpk:∀x,x∈q->xF x:=λx hx=>by
    obtain⟨c,x1,x2,x3⟩:=GR.2 x hx;have:=(B.nn c (Q.qq c (qQK x1))).2;have:=(qQZ.1 x1).1;exact⟨by omega,by omega,by omega⟩
   refine Nc.nW ((MG H4 (by show S.aR.length+1<=_;omega) q pv hSl ic (λb hb=>by have:=hbk b hb;exact⟨by omega,this.2,dY this.1⟩) hpk (by omega)).mono ?_);rintro r h5 ⟨BQ,d5,S5,j,rfl,H5,hj,ZA,afL,ho5⟩;have Qg:=ho5.next;have JY:=K4.next;obtain⟨y1,y2,y3⟩:=Q4.hi;have czs:9<=ep DD h3 6 zs:=by rw[br Q.hi.1];exact Q.cz.1
   have gs5:h5.get zs=some (.cells [.ptr sb 0] 97):=(ho5.get zs y1 (.inr (.inr (by omega)))).trans Q4.gs;have lz5:aN h5 zs 0=some (.ptr sb 0):=by rw[aq gs5];rfl
   have l55:aN h5 sb 5=some d5.dv:=H5.BE.2.2.2.2.2
   have ab4:n<S5.nodes.length:=by
    rw[H5.AG];have:n<S.aR.length:=(qQZ.1 L.at_).1;rcases ZA with rfl|⟨_,rfl⟩
    .exact this
    .show n<(S.aR++[q]).length;rw[qQM];omega
   obtain⟨x5,TB⟩:∃x,S5.nodes[n]?=some x:=⟨_,qQW ab4⟩;obtain⟨db,ZC,db1,db2,db3,gdb⟩:=H5.n.form TB;obtain⟨ev,uO⟩:∃v,d5.jv[n]?=some v:=⟨_,qQW (by rw[H5.n.lJ];exact ab4)⟩;have lev:aN h5 db (n*2)=some ev:=by rw[aq gdb,AI H5.n.lJ];exact uO
   have Oi:∀h' K,fI 2 d5.dv (.int .i64 (n:Int)) h' K=K (.ptr db (n*2)) h':=λh' K=>by
    rw[ZC];have:=dj (size:=2) (b:=db) (o:=0) (n:=S5.nodes.length) (c:=S5.nodes.length) (e:=false) (k:=.i64) (i:=(n:Int)) (j:=n) rfl ab4 (h:=h') (K:=K);simpa using this
   have JQ:[32,45,48,49,50,51,52,53,54,55,56,57,97,98,99,100,101,102,103,104,105,106,107,108,109,110,111,112,113,114,115,116,117,118,119,120,121,122][i]?=some (bO.getD i 0):=by
    show bO[i]?=_;rw[qVQ,qQW (by show i<38;exact hi)];rfl
   simp only[go_sem,Nat.reduceEqDiff,Nat.reduceAdd,Nat.reduceLeDiff,u1,u2,u8,lz5,l55,Oi,lev,JQ];have gn6:(aa.put ⟨h5.next+23,(h5.skip 23).t⟩ (h5.next+18) (.cells [.int .u8 (bO.getD i 0:Int),.int .i64 (j:Int),.int .i64 least] 124)).next=h5.next+23:=rfl;have gz6:(aa.put ⟨h5.next+23,(h5.skip 23).t⟩ (h5.next+18) (.cells [.int .u8 (bO.getD i 0:Int),.int .i64 (j:Int),.int .i64 least] 124)).get (h5.next+18)=some (.cells (aK ⟨bO.getD i 0,j,least⟩) 124):=aa.aj _ _ _;have Vr:∀c,c<h5.next->(aa.put ⟨h5.next+23,(h5.skip 23).t⟩ (h5.next+18) (.cells [.int .u8 (bO.getD i 0:Int),.int .i64 (j:Int),.int .i64 least] 124)).get c=h5.get c:=λc hc=>aa.ah _ _ (by omega);generalize aa.put ⟨h5.next+23,(h5.skip 23).t⟩ (h5.next+18) (.cells [.int .u8 (bO.getD i 0:Int),.int .i64 (j:Int),.int .i64 least] 124)=h6 at gn6 gz6 Vr ⊢;have H6:iP cq mv 101 n0 (ep BQ h5 9) h6 sb d5 S5:=H5.frame ⟨by omega,λb _ x2 _ _=>Vr b x2⟩ λb hb=>br hb;have hlj:(S5.nodes.map aw.ak)[n]?=some x5.ak:=by rw[qQX,TB];rfl
   have hxe:x5.ak.length<=i:=by
    refine L.aeX x5 ?_;have hnS:n<S.nodes.length:=by rw[L.sub.AG];exact(qQZ.1 L.at_).1
    rcases ZA with rfl|⟨_,rfl⟩
    .exact TB
    .have TB:(S.nodes++[⟨[],-1⟩])[n]?=some x5:=TB;rw[qQN hnS] at TB;exact TB
   have aqu:(DK aK x5.ak).length=x5.ak.length*3:=by
    have:=eH (xs:=x5.ak.map aK) (size:=3) (λy hy=>by obtain⟨a,_,rfl⟩:=qQB.1 hy;rfl);simpa[DK] using this
   have qu:cg h6 3 (.slice (h5.next+18) 0 1 1 true) [aK ⟨bO.getD i 0,j,least⟩]:=⟨by simp[aK],.inr ⟨_,_,_,_,rfl,.inr (by simpa using fP.ed (e:=124) (by omega) gz6 (by simp[aK,ae.flat]))⟩⟩;have heb:∀c,aM ev c->n0<=c/\c<h5.next/\BQ c=8:=λc hc=>H5.n.oD ev (qQK uO) c hc;have s1':=H5.lt;have s2':=H5.iE;have afN:9<=BQ zs:=by rw[afL zs y1];exact czs
   refine iC.ai4 H6.n.ak (by omega) uO hlj (a:=⟨bO.getD i 0,j,least⟩) (by have:=fG qu (List.cons_ne_nil _ _);rw[qZA,List.flatten_nil,qWA]at this;exact this) rfl (by omega) (by omega) ?_;intro v' h7 vD hR7 aky hn7 hg7;have g7:∀c,c<h5.next->BQ c≠8->h7.get c=h5.get c:=λc x1 x2=>(hg7 c (by omega) λhb=>x2 (heb c hb).2.2).trans (Vr c x1);have l57:aN h7 sb 5=some d5.dv:=by rw[cG (g7 sb s1'.2 (by omega))];exact l55
   have lz7:aN h7 zs 0=some (.ptr sb 0):=by rw[cG (g7 zs (by omega) (by omega))];exact lz5
   have ajz:h7.get db=some (.cells (cr d5.jv S5.nodes) 110):=(g7 db db2 (by omega)).trans gdb;have cS:=aD (o:=n*2) (n:=1) (vs:=[v']) ajz rfl (by rw[ja H5.n.lJ];omega);rw[bW,yi v' ⟨bO.getD i 0,j,least⟩ H5.n.lJ]at cS;have lU:dz 20 d5.dv d5.dv=true:=by rw[ZC];exact sG 19 _ _ _ _ _
   simp only[go_sem,Nat.reduceEqDiff,u1,u2,u85,l57,lz7,Oi,lU,PA,bM aky,cS,hw];have e8:(aa.put h7 db (.cells (cr (d5.jv.set n v') (gM S5.nodes n ⟨bO.getD i 0,j,least⟩)) 110)).next=h7.next:=rfl;have g8:∀c,c<h5.next->BQ c≠8->c≠db->(aa.put h7 db (.cells (cr (d5.jv.set n v') (gM S5.nodes n ⟨bO.getD i 0,j,least⟩)) 110)).get c=h5.get c:=λc x1 x2 x3=>(aa.ah _ _ (Ne.symm x3)).trans (g7 c x1 x2);have gd8:(aa.put h7 db (.cells (cr (d5.jv.set n v') (gM S5.nodes n ⟨bO.getD i 0,j,least⟩)) 110)).get db=some (.cells (cr (d5.jv.set n v') (gM S5.nodes n ⟨bO.getD i 0,j,least⟩)) 110):=aa.aj _ _ _;have go8:∀c,c≠db->(aa.put h7 db (.cells (cr (d5.jv.set n v') (gM S5.nodes n ⟨bO.getD i 0,j,least⟩)) 110)).get c=h7.get c:=λc x3=>aa.ah _ _ (Ne.symm x3)
   have hI8:I (aa.put h7 db (.cells (cr (d5.jv.set n v') (gM S5.nodes n ⟨bO.getD i 0,j,least⟩)) 110)):=by
    refine O.frame h4 _ Qe ⟨by rw[e8];omega,λb hb=>?_⟩;rw[go8 b (by omega),hg7 b (by omega) (λhx=>by have:=(heb b hx).1;omega),Vr b (by omega)];exact ho5.get b (by omega) (.inl hb)
   generalize aa.put h7 db (.cells (cr (d5.jv.set n v') (gM S5.nodes n ⟨bO.getD i 0,j,least⟩)) 110)=h8 at e8 g8 gd8 go8 hI8 ⊢;have hc8:∀b,b<h5.next->ep BQ h5 8 b=BQ b:=λb hb=>br hb;have akr:(d5.jv.set n v').length=(gM S5.nodes n ⟨bO.getD i 0,j,least⟩).length:=by rw[qKZ,my];exact H5.n.lJ
   have H8:iP cq mv 101 n0 (ep BQ h5 8) h8 sb {d5 with jv:=d5.jv.set n v'} {S5 with nodes:=gM S5.nodes n ⟨bO.getD i 0,j,least⟩}:=by
    have F:∀p q,q<7->uW p q n0 BQ h5 h8:=λp q hq=>⟨by omega,λb x1 x2 x3 x4=>g8 b x2 (by omega) λe=>by rw[e,db3]at x4;omega⟩;refine⟨⟨s1'.1,by have:=s1'.2;omega⟩,(hc8 sb s1'.2).trans s2',(g8 sb s1'.2 (by omega) λe=>by rw[e,db3]at s2';omega).trans H5.obj,H5.c.frame (F _ _ (by omega)) hc8,H5.s.frame (F _ _ (by omega)) hc8,⟨?_,?_,?_,?_⟩,by show(gM S5.nodes n _).length=_;rw[my];exact H5.AG⟩
    .refine .inr ⟨db,S5.nodes.length,ZC,by omega,gd8,?_⟩;rw[ja akr,my]
    .exact H5.n.nI.mono (by omega) hc8
    .rw[IJ _ _ _ TB];refine hR7.frame (by omega) λc _ _ ⟨k,w,hw,hb⟩=>go8 c λe=>?_;rw[qJB]at hw;split at hw
     .split at hw
      .cases hw;have:=vD c hb;omega
      .cases hw
     .have:=(H5.n.oD w (qQK hw) c hb).2.2;rw[e,db3]at this;omega
    .intro w hw c hb;rcases List.mem_or_eq_of_mem_set hw with hw|rfl
     .have:=H5.n.oD w hw c hb;exact⟨this.1,by omega,(hc8 c this.2.1).trans this.2.2⟩
     .have:=vD c hb;exact⟨by omega,by omega,dY (by omega)⟩
   refine⟨dd-1,by omega,hI8,i+1,ep BQ h5 8,{d5 with jv:=d5.jv.set n v'},{S5 with nodes:=gM S5.nodes n ⟨bO.getD i 0,j,least⟩},rfl,by omega,⟨H8,?_,?_,?_,?_,?_,?_,?_,⟨z1,by omega,by rw[hc8 zs (by omega)];exact afN⟩,?_⟩⟩
   .rcases ZA with rfl|⟨_,rfl⟩<;>exact L.ext.trans Q.ext
   .rcases ZA with rfl|⟨_,rfl⟩<;>exact Q.qq
   .rcases ZA with rfl|⟨_,rfl⟩
    .exact λp' jz=>(L.Qq p' jz).ext Q.ext
    .intro p' jz;rcases qQE.1 jz with jz|jz
     .exact(L.Qq p' jz).ext Q.ext
     .simp at jz;subst jz;exact GR
   .rcases ZA with rfl|⟨_,rfl⟩
    .exact L.at_
    .show(S.aR++[q])[n]?=some p;rw[qQN (qQZ.1 L.at_).1];exact L.at_
   .rw[xU hi];refine ph.snoc L.lets ?_;rcases ZA with rfl|⟨hqn,rfl⟩
    .have hqS:q∈S.aR:=qQK hj
     have Te:(jK S).aR[j]?=some (hJ yA q):=by
      show(S.aR.map _)[j]?=_;rw[qQX,show S.aR[j]?=some q from hj];show some (hJ S.cfg q)=_;rw[uH (L.Qq q hqS) Q.ext]
     have:=BI.fL (jK S) _ _ least j Ts hR Te
     rw[show jK ({({S with cfg:=yA}:jV Int) with nodes:=gM S.nodes n ⟨bO.getD i 0,j,least⟩}:jV Int)=⟨(jK S).aR,gM (jK S).nodes n ⟨bO.getD i 0,j,least⟩⟩ by
      show(⟨_,_⟩:DS Int)=⟨_,_⟩;rw[<-hDS];rfl]
     exact this
    .have L5:j=S.aR.length:=by
      have hj:(S.aR++[q])[j]?=some q:=hj;rw[qKQ]at hj;split at hj
      .exact absurd (qQK hj) hqn
      .have:=(qQZ.1 hj).1;simp at this;omega
     have Ow:hJ yA q∉(jK S).aR:=by
      intro hm;obtain⟨q',hq',e⟩:=qQB.1 hm;rw[<-uH (L.Qq q' hq') Q.ext]at e;have:=KV kv ((L.Qq q' hq').ext Q.ext) GR e;rw[this]at hq';exact hqn hq'
     have:=BI.new (jK S) _ _ least Ts hR Ow;have hlen:(jK S).aR.length=j:=by rw[L5];show(S.aR.map _).length=_;rw[qQD]
     rw[hlen]at this
     rw[show jK ({(⟨yA,S.aR++[q],S.nodes++[⟨[],-1⟩]⟩:jV Int) with nodes:=gM (S.nodes++[⟨[],-1⟩]) n ⟨bO.getD i 0,j,least⟩}:jV Int)=⟨(jK S).aR++[hJ yA q],gM ((jK S).nodes++[⟨[],-1⟩]) n ⟨bO.getD i 0,j,least⟩⟩ by
      show(⟨(S.aR++[q]).map _,_⟩:DS Int)=⟨_,_⟩;rw[<-hDS,qJW];rfl]
     exact this
   .rcases ZA with rfl|⟨_,rfl⟩
    .show S.aR.length<=_;omega
    .show(S.aR++[q]).length<=_;rw[qQM];simp;omega
   .intro x hx;have hx:(gM S5.nodes n ⟨bO.getD i 0,j,least⟩)[n]?=some x:=hx;unfold gM at hx;rw[qJJ,TB]at hx;simp at hx;rw[<-hx];simp;omega
   .have:zs≠db:=λe=>by rw[e,db3]at afN;omega
    exact(g8 zs (by omega) (by omega) this).trans gs5
 .obtain rfl:i=38:=by omega
  simp only[go_sem,reduceCtorEq,t85,hc];exact hq _ _ aZ d S hI L
def xp {α:Type}(l:List α)(f:α->α){n m:Nat}(h:m≠n):(l.modify n f)[m]?=l[m]?:=by
 have h':¬n=m:=λe=>h e.symm;rw[qJJ];cases l[m]?<;>simp[h']
def BI.eN {C:Type}{M:eG C}{n l:Nat}{D D':DS C}(h:BI M n l D D')(hl:D.nodes.length=D.aR.length):D.aR <+: D'.aR/\D'.nodes.length=D'.aR.length/\∀m,m≠n->m<D'.nodes.length->(m<D.nodes.length/\D'.nodes[m]?=D.nodes[m]?)\/D'.nodes[m]?=some ⟨[],-1⟩:=by
 cases h with
 |dead φ h1 h2=>exact⟨qVE _,hl,λm _ hm=>.inl ⟨hm,rfl⟩⟩
 |fL φ ψ least i h1 h2 h3 =>
  refine⟨qVE _,by show(gM _ _ _).length=_;rw[my];exact hl,λm GI hm=>.inl ⟨by rw[my]at hm;exact hm,?_⟩⟩;show(gM _ _ _)[m]?=_;unfold gM;exact xp _ _ GI
 |new φ ψ least h1 h2 h3 =>
  refine⟨List.prefix_append _ _,by show(gM _ _ _).length=_;rw[my];simp[hl],λm GI hm=>?_⟩
  have e:(gM (D.nodes++[⟨[],-1⟩]) n ⟨l,D.aR.length,least⟩)[m]?=(D.nodes++[⟨[],-1⟩])[m]?:=by
   unfold gM;exact xp _ _ GI
  show _\/(gM _ _ _)[m]?=_;rw[show(⟨D.aR++[ψ],gM (D.nodes++[⟨[],-1⟩]) n ⟨l,D.aR.length,least⟩⟩:DS C).nodes=gM (D.nodes++[⟨[],-1⟩]) n ⟨l,D.aR.length,least⟩ from rfl]at hm;rw[my,qQM]at hm;rw[e];by_cases h:m<D.nodes.length
  .exact .inl ⟨h,qQN h⟩
  .right;rw[qVC (by omega)];have:m-D.nodes.length=0:=by simp at hm;omega
   rw[this];rfl
def ph.eN {C:Type}{M:eG C}{n:Nat}{ls:List Nat}{D D':DS C}(h:ph M n ls D D'):D.nodes.length=D.aR.length->D.aR <+: D'.aR/\D'.nodes.length=D'.aR.length/\∀m,m≠n->m<D'.nodes.length->(m<D.nodes.length/\D'.nodes[m]?=D.nodes[m]?)\/D'.nodes[m]?=some ⟨[],-1⟩:=by
 induction h with
 |nil D=>exact λhl=>⟨qVE _,hl,λm _ hm=>.inl ⟨hm,rfl⟩⟩
 |snoc h1 h2 ih =>
  intro hl;obtain⟨a1,a2,a3⟩:=ih hl;obtain⟨b1,b2,b3⟩:=h2.eN a2;refine⟨a1.trans b1,b2,λm hm DW=>?_⟩;rcases b3 m hm DW with⟨c1,c2⟩|c
  .rcases a3 m hm c1 with⟨d1,d2⟩|d
   .exact .inl ⟨d1,c2.trans d2⟩
   .exact .inr (c2.trans d)
  .exact .inr c
structure MO {C:Type}[DecidableEq C](X:MN C)(mv:ae)(ty:TypeId)(n0:Nat)(Good:C->Prop)(bd:C->Int)(sb:Nat)(n:Nat)(h:aa)(aZ:Nat->Nat)(d:nD C)(S:jV C):Prop where
 sub:iP X mv ty n0 aZ h sb d S
 qq:∀c,c∈S.cfg->Good c
 Qq:∀p,p∈S.aR->mw bd S.cfg p
 fresh:∀m,n<=m->m<S.nodes.length->S.nodes[m]?=some ⟨[],-1⟩
def Sx {M:eG Int}{mv:ae}{n0:Nat}{I:aa->Prop}{Good:Int->Prop}{bd:Int->Int}(O:Vh M (.int .i64) mv n0 I Good)(B:QE M Good bd){aZ:Nat->Nat}{sb:Nat}{S:jV Int}{d:nD Int}(h:aa)(n:Nat)
 (D:MO cq mv 101 n0 Good bd sb n h aZ d S) (hI:I h) (hn:n<S.aR.length) (Iy:S.aR.length<=1000000) :
 Nc Tryz.prog 34 [.ptr sb 0,.int .i64 (n:Int)] h λ_ h'=>I h'/\∃col' d' S',MO cq mv 101 n0 Good bd sb (n+1) h' col' d' S'/\ael M n (jK S) (jK S')/\S'.aR.length<=S.aR.length+38:=by
 refine Nc.qJ kr call2 (λm n=>iS kr (call2 m n)) (fn:=Tryz.f34) (by kernel_rfl) (by kernel_rfl) FN ?_;unfold FH;have bh:aU h (h.push (.cells [.ptr sb 0] 97)):=(aU.refl h).push _;have gz:(h.push (.cells [.ptr sb 0] 97)).get h.next=some (.cells [.ptr sb 0] 97):=aa.ai _ _;have gn1:(h.push (.cells [.ptr sb 0] 97)).next=h.next+1:=rfl;obtain⟨s1,s2⟩:=D.sub.lt;obtain⟨p,hp⟩:∃p,S.aR[n]?=some p:=⟨_,qQW hn⟩;obtain⟨v,hv⟩:∃v,d.rows[n]?=some v:=⟨_,qQW (by rw[D.sub.s.Lb];exact hn)⟩;have di:=D.sub.s.YE n v p hv hp;have Oq:=(D.sub.s.tR v (qQK hv)).2;have J5:=dO.cg (xs:=d.rows.map λx=>[x]) (by rw[jS];exact D.sub.s.aR) (λx hx=>by obtain⟨a,_,rfl⟩:=qQB.1 hx;rfl) (by decide) (λx hx=>by rw[jS]at hx;exact(D.sub.s.tR x hx).1);obtain⟨bp,op,hrp,JV⟩:=J5.ix (j:=n) (x:=[v]) (by rw[qQX,hv];rfl);have JV:=JV .i64 (n:Int);have lz:aN (h.push (.cells [.ptr sb 0] 97)) h.next 0=some (.ptr sb 0):=by rw[aq gz];rfl
 have l4:aN (h.push (.cells [.ptr sb 0] 97)) sb 4=some d.pv:=by rw[bt s2];exact D.sub.BE.2.2.2.2.1
 have lv:aN (h.push (.cells [.ptr sb 0] 97)) bp op=some v:=by rw[bt hrp.1];exact hrp.aN (i:=0) rfl
 have Th:∀h' K,cH v h' K=K (.int .i64 (p.length:Int)) h':=λh' K=>by rw[di.len,qQD]
 simp only[go_sem,Nat.reduceEqDiff,Nat.reduceAdd,reduceCtorEq,lz,l4,JV _ _ rfl,lv,Th];generalize h.push (.cells [.ptr sb 0] 97)=h1 at bh gz gn1 ⊢;have qZ:n0<=h.next:=by omega
 have CG:∀b,b<h.next->ep aZ h 9 b=aZ b:=λb hb=>br hb;have H1:iP cq mv 101 n0 (ep aZ h 9) h1 sb d S:=D.sub.frame (.of bh) CG;have J2:=D.Qq p (qQK hp);have afK:=B.Vl S.cfg D.sub.c.nodup D.qq;have agL:=J2.len;have uq:=D.fresh n (qQY _) (by rw[D.sub.AG];exact hn);refine NS O B _ h1 (zs:=h.next) (ts:=97) H1 D.qq (O.frame h h1 hI (fD.of qZ bh)) ⟨qZ,by omega,by rw[dY (qQY _)];omega⟩ gz p v n uq rfl J2.2 (by omega) (di.mono bh) (Oq.mono (by omega) CG) (by simp[T.ag]) (by simp[T.ag]) (by simp[T.ag]) (by simp[T.ag]) (by simp[T.ag]) ?_;intro iA h2 f iM u1 u2 DO hF H2 vE GL uP;have gz2:h2.get h.next=some (.cells [.ptr sb 0] 97):=(uP h.next qZ (by omega) (by rw[dY (qQY _)];omega)).trans gz;simp only[go_sem]
 have L0:VS cq M mv 101 n0 Good bd sb h.next 97 n {S with nodes:=eB S.nodes n f} p 0 h2 iM d {S with nodes:=eB S.nodes n f}:=by
  refine⟨H2,qVE _,D.qq,D.Qq,hp,ph.nil _,qQY _,λx hx=>?_,⟨qZ,by omega,by rw[vE h.next (by omega),dY (qQY _)];omega⟩,gz2⟩;have hx:(eB S.nodes n f)[n]?=some x:=hx;rw[HW uq]at hx;cases hx;simp
 refine NU O B _ h2 p n L0 DO Iy (by simp[T.ag,u1]) (by simp[T.ag,u2]) (by simp[T.ag]) ?_;intro fr3 h3 DD d3 S3 DP L3;simp only[go_sem];have ZO:ph M n bO (jK {S with nodes:=eB S.nodes n f}) (jK S3):=L3.lets;have Ac:=ZO.eN (by show(eB S.nodes n f).length=(S.aR.map _).length;rw[pT,qQD];exact D.sub.AG);refine⟨DP,DD,d3,S3,⟨L3.sub,L3.qq,L3.Qq,λm hm DW=>?_⟩,⟨hJ S.cfg p,f,by show(S.aR.map _)[n]?=_;rw[qQX,hp];rfl,hF.toR,ZO⟩,L3.Vl⟩;rcases Ac.2.2 m (by omega) DW with⟨a1,a2⟩|a
 .have a1:m<(eB S.nodes n f).length:=a1;rw[pT]at a1;have a2:S3.nodes[m]?=(eB S.nodes n f)[m]?:=a2;rw[a2];unfold eB;rw[xp _ _ (show m≠n by omega)];exact D.fresh m (by omega) a1
 .exact a
def fO (h:aa)(v:ae)(ns:List aw):Prop:=∃jv:List ae,jv.length=ns.length/\v.flat=true/\cg h 2 v ((jv.zip ns).map λx=>[x.1,.int .i64 x.2.fin])/\∀(i:Nat)(e:ae)(x:aw),jv[i]?=some e->ns[i]?=some x->cg h 3 e (x.ak.map aK)
def AJ:∀{vs:List ae}{ns:List aw},vs.length=ns.length->cr vs ns=((vs.zip ns).map λx=>[x.1,ae.int .i64 x.2.fin]).flatten
 |[],[],_=>rfl
 |a :: vs,b :: ns,h=>by
  show a :: .int .i64 b.fin :: cr vs ns=_;rw[AJ (vs:=vs) (ns:=ns) (by simpa using h)];rfl
 |[],_ :: _,h=>by cases h
 |_ :: _,[],h=>by cases h
def wK.read {n0:Nat}{aZ:Nat->Nat}{h:aa}{dv:ae}{jv:List ae}{ns:List aw}(H:wK n0 aZ h dv jv ns):fO h dv ns:=by
 have ic:=H.ak.flat;refine⟨jv,H.lJ,H.nodes.lT,?_,λi e x he hx=>?_⟩
 .refine dO.cg (elem:=110) (by rw[<-AJ H.lJ];exact H.nodes) (λx hx=>by obtain⟨a,_,rfl⟩:=qQB.1 hx;rfl) (by decide) λx hx=>?_;obtain⟨y,hy,lH⟩:=qJD.1 hx;obtain⟨⟨a,b⟩,Ix,rfl⟩:=qQB.1 hy;simp only[qQF,qJK,or_false]at lH;rcases lH with rfl|rfl
  .exact ic _ (List.of_mem_zip Ix).1
  .rfl
 .exact H.ak.sl (λa=>rfl) (by decide) (λa x hx=>by simp[aK]at hx;rcases hx with rfl|rfl|rfl<;>rfl) he (by rw[qQX,hx];rfl)
def qS {C:Type}(M:eG C)(c:C)(t:Int):Prop:=c=M.start/\t=0
inductive tU {C:Type}(M:eG C):Option (List aw)->Prop
 |dead:Fi M (qS M)->tU M (some [⟨[],-1⟩])
 |full (φ:p9 C) (m:Int) (n:Nat) (D:DS C):rE M (qS M) φ m->zi M ⟨[φ],[⟨[],-1⟩]⟩ n D->n<D.aR.length->400<D.aR.length->tU M none
 |all (φ:p9 C) (m:Int) (D:DS C):rE M (qS M) φ m->zi M ⟨[φ],[⟨[],-1⟩]⟩ D.aR.length D->D.aR.length<=400->tU M (some D.nodes)
def aiQ (h:aa)(o:Option (List aw))(v:ae):Prop:=match o with
 |none=>v=.eC [.af,.bool false]
 |some ns=>∃dv,v=.eC [dv,.bool true]/\fO h dv ns
set_option maxRecDepth 20000 in
def abc {Qn Qr:Fr->aa->Prop}{Qx:Nat->Fr->aa->Prop}{M:eG Int}{mv:ae}{n0:Nat}{I:aa->Prop}{Good:Int->Prop}{bd:Int->Int}(O:Vh M (.int .i64) mv n0 I Good)(B:QE M Good bd){aZ:Nat->Nat}{sb:Nat}{S0:jV Int}{d:nD Int}(fr:Fr)(h:aa)
 (D:MO cq mv 101 n0 Good bd sb 0 h aZ d S0) (hI:I h) (Iy:S0.aR.length<=1)
 (t4:fr.get 4=some (.ptr sb 0)) (t8:fr.get 8=some (.int .i64 0))
 (hr:∀fr h' n D',fr.get 2=some .af->fr.get 3=some (.bool false)->I h'->sb<h'.next->zi M (jK S0) n D'->n<D'.aR.length->400<D'.aR.length->Qr fr h')
 (hq:∀fr h' n aZ d S,fr.get 4=some (.ptr sb 0)->I h'->MO cq mv 101 n0 Good bd sb n h' aZ d S->zi M (jK S0) n (jK S)->n=S.aR.length->n<=400->Qx 0 fr h'):kI Tryz.prog E2 (.loop zB) fr h Qn Qx Qr:=by
 refine kf (λdd fr h'=>fr.get 4=some (.ptr sb 0)/\I h'/\∃(n:Nat)(aZ:Nat->Nat)(d:nD Int)(S:jV Int),fr.get 8=some (.int .i64 (n:Int))/\dd+n=1000/\MO cq mv 101 n0 Good bd sb n h' aZ d S/\zi M (jK S0) n (jK S)/\n<=S.aR.length/\S.aR.length<=440/\n<=400) 1000 ?_ ?_
 .exact⟨t4,hI,0,aZ,d,S0,t8,by omega,D,.zero,qZH _,by omega,by omega⟩
 clear t4 t8 hI D;rintro dd fr h ⟨t4,hI,n,aZ,d,S,t8,hd,D,hR,hn,hc,JY⟩;have hw:IntKind.i64.wrap ((n:Int)+1)=((n+1:Nat):Int):=by rw[wrap_i64 (by omega) (by omega)];push_cast;rfl
 have l4:aN h sb 4=some d.pv:=D.sub.BE.2.2.2.2.1;have hlen:∀h' K,cH d.pv h' K=K (.int .i64 (S.aR.length:Int)) h':=λh' K=>by rw[D.sub.s.aR.acD,D.sub.s.Lb]
 unfold zB;by_cases dL:(n:Int)<(S.aR.length:Int)
 .by_cases abB:(400:Int)<(S.aR.length:Int)
  .simp only[go_sem,Nat.reduceEqDiff,t4,t8,l4,hlen,dL,abB];exact hr _ _ n (jK S) (by simp[T.ag]) (by simp[T.ag]) hI D.sub.lt.2 hR (by show n<(S.aR.map _).length;rw[qQD];omega) (by show 400<(S.aR.map _).length;rw[qQD];omega)
  .simp only[go_sem,Nat.reduceEqDiff,reduceCtorEq,t4,t8,l4,hlen,dL,abB];refine⟨by decide,?_⟩;refine(Sx O B h n D hI (by omega) (by omega)).mono ?_;rintro r h2 ⟨DO,iM,d2,S2,D2,hE,uk⟩;simp only[go_sem,Nat.reduceEqDiff,t4,t8,hw];have hR2:=zi.succ hR (by show n<(S.aR.map _).length;rw[qQD];omega) hE
   have hk:S.aR.length<=S2.aR.length:=by
    obtain⟨φ,f,_,_,hl⟩:=hE;have:=(hl.eN (by show(eB S.nodes n f).length=(S.aR.map _).length;rw[pT,qQD];exact D.sub.AG)).1.length_le;have:(S.aR.map (hJ S.cfg)).length<=(S2.aR.map (hJ S2.cfg)).length:=this
    rwa [qQD,qQD]at this
   exact⟨dd-1,by omega,DO,n+1,iM,d2,S2,rfl,by omega,D2,hR2,by omega,by omega,by omega⟩
 .simp only[go_sem,Nat.reduceEqDiff,reduceCtorEq,t4,t8,l4,hlen,dL];exact hq _ _ n aZ d S (by simp[T.ag,t4]) hI D hR (by omega) JY
structure VI (ns:List aw)(lo:Nat->Int)(dp:Nat->Nat)(d:wC)(S:yX)(cls:Nat->Nat):Prop where
 mi:MI ns S.M cls (λj=>(cX d.jI (j:Int)).isSome=true) lo
 shp:∀k x,cX d.jI k=some x->∃j:Nat,k=(j:Int)/\j<ns.length/\x=(lo j,(dp j:Int),(cls j:Int))
 aeM:∀(j:Nat)(x:aw)(e:cI),(cX d.jI (j:Int)).isSome=true->ns[j]?=some x->e∈x.ak->(cX d.jI (e.to:Int)).isSome=true
 no0:cX d.jI ((0:Nat):Int)=none
 lens:∀j:Nat,(cX d.jI (j:Int)).isSome=true->S.ln[cls j]?=some (dp j:Int)
 fls:∀f,f∈S.fl->f=false
def fO.mono {h h':aa}{v:ae}{ns:List aw}(hle:aU h h')(H:fO h v ns):fO h' v ns:=by
 obtain⟨jv,h1,h2,h3,h4⟩:=H;exact⟨jv,h1,h2,h3.mono hle,λi e x he hx=>(h4 i e x he hx).mono hle⟩
def fO.at {h:aa}{v:ae}{ns:List aw}(H:fO h v ns){i:Nat}{x:aw}(hx:ns[i]?=some x) :
 ∃(b o:Nat)(e:ae),fP h b o [e,.int .i64 x.fin]/\cg h 3 e (x.ak.map aK)/\∀(k:IntKind)(z:Int)(h':aa)(K:ae->aa->Prop),z=(i:Int)->fI 2 v (.int k z) h' K=K (.ptr b o) h':=by
 obtain⟨jv,h1,h2,h3,h4⟩:=H;have hi:=(qQZ.1 hx).1;obtain⟨e,he⟩:∃e,jv[i]?=some e:=⟨_,qQW (by omega)⟩
 obtain⟨b,o,hr,fU⟩:=h3.ix (j:=i) (x:=[e,.int .i64 x.fin]) (by
  rw[qQX,List.getElem?_zip_eq_some (z:=(e,x)) |>.2 ⟨he,hx⟩];rfl)
 exact⟨b,o,e,hr,h4 i e x he hx,fU⟩
def Ia {α:Type}{p:List α->Prop}(h0:p [])(h1:∀l a,p l->p (l++[a])):∀l,p l:=by
 have key:∀n (l:List α),l.length=n->p l:=by
  intro n
  induction n with
  |zero=>intro l hl;rw[List.length_eq_zero_iff.1 hl];exact h0
  |succ n ih =>
   intro l hl;have dV:l≠[]:=λe=>by rw[e]at hl;cases hl
   rw[<-List.dropLast_concat_getLast dV];exact h1 _ _ (ih _ (by rw[List.length_dropLast];omega))
 exact λl=>key _ l rfl
def qA (lo:Nat->Int)(fin:Int)(l:List cI):Int:=l.foldl (λa e=>if a<0\/e.cost+lo e.to<a then e.cost+lo e.to else a) (if 0<=fin then fin else -1)
def vS (dp:Nat->Nat)(l:List cI):Nat:=l.foldl (λa e=>max a (dp e.to+1)) 0
def He (lo:Nat->Int)(fin:Int)(l:List cI)(e:cI):qA lo fin (l++[e])=if qA lo fin l<0\/e.cost+lo e.to<qA lo fin l then e.cost+lo e.to else qA lo fin l:=by unfold qA;rw[List.foldl_append];rfl
def Hg (dp:Nat->Nat)(l:List cI)(e:cI):vS dp (l++[e])=max (vS dp l) (dp e.to+1):=by unfold vS;rw[List.foldl_append];rfl
def TV (lo:Nat->Int)(fin:Int)(hf:-1<=fin):∀l:List cI,(∀e,e∈l->0<=e.cost+lo e.to)->-1<=qA lo fin l/\(qA lo fin l=-1->fin=-1/\l=[])/\(0<=fin->0<=qA lo fin l/\qA lo fin l<=fin)/\(∀e,e∈l->0<=qA lo fin l/\qA lo fin l<=e.cost+lo e.to)/\(0<=qA lo fin l->(0<=fin/\qA lo fin l=fin)\/∃e,e∈l/\qA lo fin l=e.cost+lo e.to):=by
 refine Ia ?_ ?_
 .intro _;unfold qA;simp only[List.foldl_nil];by_cases h:0<=fin
  .rw[if_pos h];exact⟨by omega,λh=>(by omega),λ_=>⟨h,qKV _⟩,λe he=>(by cases he),λ_=>.inl ⟨h,rfl⟩⟩
  .rw[if_neg h];exact⟨by omega,λ_=>⟨by omega,trivial⟩,λh'=>absurd h' h,λe he=>(by cases he),λh=>by omega⟩
 .intro l e ih hl;obtain⟨a1,a2,a3,a4,a5⟩:=ih λx hx=>hl x (by simp[hx]);have he:=hl e (by simp);rw[He];generalize qA lo fin l=a at a1 a2 a3 a4 a5 ⊢;by_cases h:a<0\/e.cost+lo e.to<a
  .rw[if_pos h];refine⟨by omega,λh=>by omega,λh'=>?_,λx hx=>?_,λ_=>.inr ⟨e,by simp,rfl⟩⟩
   .have:=a3 h';omega
   .rcases qQE.1 hx with hx|hx
    .have:=a4 x hx;omega
    .simp at hx;subst hx;omega
  .rw[if_neg h];refine⟨by omega,λh'=>by omega,a3,λx hx=>?_,λh'=>?_⟩
   .rcases qQE.1 hx with hx|hx
    .exact a4 x hx
    .simp at hx;subst hx;omega
   .rcases a5 h' with h1|⟨x,h1,h2⟩
    .exact .inl h1
    .exact .inr ⟨x,by simp[h1],h2⟩
def T0 (dp:Nat->Nat):∀l:List cI,(∀e,e∈l->dp e.to+1<=vS dp l)/\((l=[]/\vS dp l=0)\/∃e,e∈l/\vS dp l=dp e.to+1):=by
 refine Ia ?_ ?_
 .exact⟨λe he=>(by cases he),.inl ⟨rfl,rfl⟩⟩
 .intro l e ih;obtain⟨a1,a2⟩:=ih;rw[Hg];refine⟨λx hx=>?_,.inr ?_⟩
  .rcases qQE.1 hx with hx|hx
   .have:=a1 x hx;omega
   .simp at hx;subst hx;omega
  .by_cases h:vS dp l<=dp e.to+1
   .exact⟨e,by simp,by omega⟩
   .rcases a2 with⟨_,h2⟩|⟨x,h1,h2⟩
    .omega
    .exact⟨x,by simp[h1],by omega⟩
def P7.qA {ns:List aw}{lo:Nat->Int}{dp:Nat->Nat}(B:P7 ns lo dp){i:Nat}{x:aw}(hx:ns[i]?=some x):qA lo x.fin x.ak=lo i/\vS dp x.ak=dp i:=by
 have hm:=qQK hx;have DT:=(qQZ.1 hx).1;obtain⟨rk,_,DZ⟩:=B.W.to;have rq:∀e,e∈x.ak->e.to<ns.length:=λe he=>(DZ i x e hx he).1
 have CK:∀e,e∈x.ak->0<=e.cost+lo e.to:=λe he=>by
  have:=(B.W.cost x e hm he).1;have:=(B.loB e.to (rq e he)).1;omega
 obtain⟨a1,a2,a3,a4,a5⟩:=TV lo x.fin (B.W.fin x hm).1 x.ak CK
 have h0:0<=Go.AX.qA lo x.fin x.ak:=by
  by_cases h:Go.AX.qA lo x.fin x.ak=-1
  .obtain⟨h1,h2⟩:=a2 h;rcases B.W.live x hm with h3|h3
   .omega
   .exact absurd h2 h3
  .omega
 have h1:=vV hx (B.W.nq x hm) (lo:=lo) (λe he=>B.mn e.to (rq e he)) (m:=Go.AX.qA lo x.fin x.ak) (λh=>(a3 h).2) (λe he=>(a4 e he).2) (a5 h0);obtain⟨b1,b2⟩:=T0 dp x.ak
 have h2:=zT hx (B.W.nq x hm) (dp:=dp) (λe he=>B.dep e.to (rq e he)) (d:=vS dp x.ak) b1 (by
  rcases b2 with⟨h2,h3⟩|h2
  .exact .inl ⟨(B.W.live x hm).resolve_right λh=>h h2,h3⟩
  .exact .inr h2)
 exact⟨h1.uniq (B.mn i DT),h2.uniq (B.dep i DT)⟩
end
end Go.AX
