/-
  Contracts of functions of this seat, for every input that each theorem names.
-/
import Derived.Test.YtfdnpjbmhoapcaaGreatDoorNam16
import Derived.Test.YtfdnpjbmhoapcaaGreatDoorNam8
import Derived.Test.YtfdnpjbmhoapcaaGreatDoorNam9
import Derived.Test.YtfdnpjbmhoapcaaGreatDoorNam1
import Derived.Test.YtfdnpjbmhoapcaaGreatDoorNax1
import Derived.Test.YtfdnpjbmhoapcaaGreatDoorNax2
set_option linter.all false
set_option maxHeartbeats 32000000
set_option maxRecDepth 10000
namespace Go.AX
open Go Go.Proofs
noncomputable section
def mkW (B:aY)(n:Nat)(hz:bH B=0)(hn:B.n=(n:Int)):VU B n 2000 :=
 rkW B n 2000 (by omega) (by obtain⟨_,_,_,_,_,_,h,_⟩:=gf hz;exact h) (by obtain⟨_,_,_,_,_,_,_,h⟩:=gf hz;exact h) hn (by obtain⟨m,hm,_,h,_⟩:=gf hz;omega) (by obtain⟨_,_,_,_,h,_⟩:=gf hz;exact h)
def al5 (B:aY)(n:Nat)(hz:bH B=0)(hn:B.n=(n:Int))(i:Nat)(_:i<n):(mkW B n hz hn).Inv i [] [] false :=
 ⟨λ_=>⟨rfl,rfl⟩,by simp,by simp,λy hy=>(by cases hy),λc hc=>(by cases hc)⟩
def Qt (h:aa)(v:ae)(As:List aY):Prop:=∃cs:List (List ae),cg h 3 v cs/\cs.length=As.length/\∀(i:Nat)(c:List ae)(A:aY),cs[i]?=some c->As[i]?=some A->fY h (.agg c) A
attribute [local go_sem] cN cL
attribute [local go_sem] dK bQ
structure IF (h0:aa)(s:List Nat)(h:aa)(out:ae)(ts:List (List Nat)):Prop where
 le:aU h0 h
 ot:yw h out ts
 new:∀b,aM out b->h0.next<=b
 ok:∀t,t∈ts->t=s\/t.length<=1000000
def IF.hle {h0 h h':aa}{s:List Nat}{out:ae}{ts:List (List Nat)}(H:IF h0 s h out ts)(hl:aU h h'):IF h0 s h' out ts :=
 ⟨H.le.trans hl,H.ot.frame hl.next λb hb=>hl.get b (H.ot.rm hb),H.new,H.ok⟩
def adv {Qn Qr:Fr->aa->Prop}{Qx:Nat->Fr->aa->Prop}{h0:aa}{s:List Nat}{ov v:ae}{l:List tm}{nn ii:Int}(Xw:l.length<=1000)(kN:∀y,y∈l->y.t.length<=1000000)
 {fr:Fr} {h:aa} {out:ae} {ts:List (List Nat)} (I:IF h0 s h out ts) (ib:cg h 2 ov (l.map fN)) (hd:∀b,aM ov b->¬aM out b) (hts:ts.length<=10000000)
 (t5:fr.get 5=some out) (t14:fr.get 14=some v) (t15:fr.get 15=some (.int .i64 nn)) (t16:fr.get 16=some (.int .i64 ii)) (t27:fr.get 27=some ov) (t28:fr.get 28=some (.int .i64 (l.length:Int))) (t29:fr.get 29=some (.int .i64 0))
 (hK:∀fr h out VK,IF h0 s h out VK->VK.length=ts.length+l.length->fr.get 5=some out->fr.get 14=some v->fr.get 15=some (.int .i64 nn)->fr.get 16=some (.int .i64 ii)->Qx 2 fr h):kI Tryz.prog E2 (.loop rR) fr h Qn Qx Qr:=by
 refine kf (λd fr h=>∃out VK k,d+k=l.length/\VK.length=ts.length+k/\IF h0 s h out VK/\cg h 2 ov (l.map fN)/\(∀b,aM ov b->¬aM out b)/\fr.get 5=some out/\fr.get 14=some v/\fr.get 15=some (.int .i64 nn)/\fr.get 16=some (.int .i64 ii)/\fr.get 27=some ov/\fr.get 28=some (.int .i64 (l.length:Int))/\fr.get 29=some (.int .i64 (k:Int))) l.length ?_ ?_
 .exact⟨out,ts,0,by omega,rfl,I,ib,hd,t5,t14,t15,t16,t27,t28,t29⟩
 clear t5 t14 t15 t16 t27 t28 t29 I ib hd;clear fr h out;rintro d fr h ⟨out,VK,k,hdk,hlen,I,ib,hd,t5,t14,t15,t16,t27,t28,t29⟩;unfold rR;by_cases hc:(k:Int)<(l.length:Int)
 .obtain⟨y,hy⟩:∃y,l[k]?=some y:=⟨_,qQW (by omega)⟩;obtain⟨b,o,rr,ii'⟩:=ib.ix (j:=k) (x:=fN y) (by rw[qQX,hy];rfl);have l2:eI h b o 2=some [.str y.t,.int .i64 y.c]:=by simpa[fN] using rr.eI (i:=0) (n:=2) (by simp[fN])
  have hw:IntKind.i64.wrap ((k:Int)+1)=((k+1:Nat):Int):=by rw[wrap_i64 (by omega) (by omega)];push_cast;rfl
  have q0:aN (h.push (.cells [.str y.t,.int .i64 y.c] 49)) h.next 0=some (.str y.t):=by rw[aH];rfl
  simp only[go_sem,Nat.reduceEqDiff,Nat.reduceAdd,t5,t27,t28,t29,hc,ii' _ _ _ _ rfl,l2,q0];have aS:aU h ((h.push (.cells [.str y.t,.int .i64 y.c] 49)).push (.cells [.str y.t] 9)):=((aU.refl h).push _).push _;have g2:((h.push (.cells [.str y.t,.int .i64 y.c] 49)).push (.cells [.str y.t] 9)).get (h.next+1)=some (.cells [.str y.t] 9):=aa.ai _ _;have n2:((h.push (.cells [.str y.t,.int .i64 y.c] 49)).push (.cells [.str y.t] 9)).next=h.next+2:=rfl;generalize ((h.push (.cells [.str y.t,.int .i64 y.c] 49)).push (.cells [.str y.t] 9))=h2 at aS g2 n2 ⊢;have I2:=I.hle aS;have qu:cg h2 1 (.slice (h.next+1) 0 1 1 true) [[.str y.t]]:=⟨by simp,.inr ⟨_,_,_,_,rfl,.inr (by simpa using fP.ed (by omega) g2 (by simp[ae.flat]))⟩⟩;refine yw.app I2.ot (fG qu (by simp)) (by omega) λv' h3 ho uQ lZ yE=>?_;simp only[go_sem,Nat.reduceEqDiff,t29,hw];have jX:=I.le.next;have ab8:∀b,aM ov b->b<h.next:=λb hb=>cg.blt ib (λe=>by rw[List.map_eq_nil_iff]at e;subst e;simp at hy) hb;have XC:cg h3 2 ov (l.map fN):=ib.frame (by omega) λb hb=>(lZ b (by have:=ab8 b hb;omega) (hd b hb)).trans (aS.get b (ab8 b hb));refine⟨d-1,by omega,v',VK++[y.t],k+1,by omega,by simp;omega,⟨⟨by omega,λb hb=>(lZ b (by omega) λhbo=>by have:=I.new b hbo;omega).trans ((aS.get b (by omega)).trans (I.le.get b hb))⟩,ho,λb hb=>by have:=yE b hb;omega,λt ht=>?_⟩,XC,λb hb vD=>by have:=yE b vD;have:=ab8 b hb;omega,by simp[],by simp[t14],by simp[t15],by simp[t16],by simp[t27],by simp[t28],by simp[]⟩;rcases qQE.1 ht with ht|ht
  .exact I.ok t ht
  .simp at ht;subst ht;exact .inr (kN y (qQK hy))
 .simp only[go_sem,reduceCtorEq,t28,t29,hc];exact hK _ _ out VK I (by omega) (by simp[T.ag,t5]) (by simp[T.ag,t14]) (by simp[T.ag,t15]) (by simp[T.ag,t16])
def PD (s:List Nat)(v:ae)(As:List aY)(h:aa)(H:Qt h v As)(hAs:As.length<=2):Nc Tryz.prog 8 [.str s,v] h λr h'=>aU h h'/\∃ts:List (List Nat),cg h' 1 r (ts.map λt=>[.str t])/\ts.length<=100/\∀t,t∈ts->t=s\/t.length<=1000000:=by
 refine Nc.qJ kr call2 (λm n=>iS kr (call2 m n)) (fn:=Tryz.f8) (by kernel_rfl) (by kernel_rfl) FY ?_;unfold Gd;obtain⟨cs,ny,kM,hca⟩:=H;have alW:∀h' (K:ae->aa->Prop),cH v h' K=K (.int .i64 (As.length:Int)) h':=λh' K=>by rw[ny.len,kM]
 simp only[go_sem,Nat.reduceEqDiff,Nat.reduceAdd,reduceCtorEq,alW];refine kf (λd fr h'=>∃out ts i,d+i=As.length/\ts.length<=1+12*i/\IF h s h' out ts/\fr.get 5=some out/\fr.get 14=some v/\fr.get 15=some (.int .i64 (As.length:Int))/\fr.get 16=some (.int .i64 (i:Int))) As.length ?_ ?_
 .refine⟨.slice h.next 0 1 1 true,[s],0,by omega,by simp,⟨(aU.refl h).push _,.inl ⟨h.next,s,rfl,rfl,qJA _,aa.ai _ _⟩,λb hb=>?_,λt ht=>.inl (by simpa using ht)⟩,by simp[T.ag],by simp[T.ag],by simp[T.ag],by simp[T.ag]⟩;obtain⟨_,_,_,_,e⟩:=hb;cases e;exact qQY _
 rintro d fr h1 ⟨out,ts,i,hd,hts,I,t5,t14,t15,t16⟩;unfold xX;by_cases hc:(i:Int)<(As.length:Int)
 .obtain⟨A,hA⟩:∃A,As[i]?=some A:=⟨_,qQW (by omega)⟩;obtain⟨c,Vv⟩:∃c,cs[i]?=some c:=⟨_,qQW (by omega)⟩;have hAA:=(hca i c A Vv hA).mono I.le;obtain⟨va,ve,e,ha,he,Oj,GH⟩:=id hAA;have e:c=[.int .i64 A.n,va,ve]:=by simpa using e
  subst e;have vaf:=cg.flat ha;have vef:=cg.flat he;obtain⟨b,o,rr,ii⟩:=(ny.mono I.le).ix (j:=i) Vv;have l3:eI h1 b o 3=some [.int .i64 A.n,va,ve]:=by simpa using rr.eI (i:=0) (n:=3) (by simp)
  have ib:over [ae.int .i64 0,.af,.af] 0 [.int .i64 A.n,va,ve]=[.int .i64 A.n,va,ve]:=rfl;have q0:eI (h1.push (.cells [.int .i64 A.n,va,ve] 25)) h1.next 0 3=some [.int .i64 A.n,va,ve]:=by rw[ir _ _ _ (by simp)];rfl
  have hw:IntKind.i64.wrap ((i:Int)+1)=((i+1:Nat):Int):=by rw[wrap_i64 (by omega) (by omega)];push_cast;rfl
  simp only[go_sem,Nat.reduceEqDiff,Nat.reduceAdd,t14,t15,t16,hc,ii _ _ _ _ rfl,l3,ib,q0];have aS:aU h1 (h1.push (.cells [.int .i64 A.n,va,ve] 25)):=(aU.refl h1).push _;generalize (h1.push (.cells [.int .i64 A.n,va,ve] 25))=h2 at aS q0 ⊢;refine⟨by decide,?_⟩;refine(aaL mkW al5 A _ h2 (hAA.mono aS) 12 (by omega) (by omega)).mono ?_;rintro r h3 ⟨cQ,B,k,hB,hr⟩;have I3:=I.hle (aS.trans cQ);rcases hr with⟨hk,rfl⟩|⟨rfl,ov,l,n,hz,hn,rfl,y7,fR,ZP,aj4,_⟩
  .simp only[go_sem,Nat.reduceEqDiff,reduceCtorEq,hk,t16,hw];exact⟨d-1,by omega,out,ts,i+1,by omega,by omega,I3,by simp[t5],by simp[t14],by simp[t15],by simp[]⟩
  .have alU:∀h' (K:ae->aa->Prop),cH ov h' K=K (.int .i64 (l.length:Int)) h':=λh' K=>by rw[y7.len,qQD]
   have jX:=I.le.next;have aqO:=aS.next;simp only[go_sem,Nat.reduceEqDiff,reduceCtorEq,alU];refine adv (h0:=h) (s:=s) (ov:=ov) (v:=v) (l:=l) (nn:=(As.length:Int)) (ii:=(i:Int)) (by omega) (λy hy=>?_) I3 y7 (λb hb hbo=>?_) (by omega) (by simp[T.ag,t5]) (by simp[T.ag,t14]) (by simp[T.ag,t15]) (by simp[T.ag,t16]) (by simp[T.ag]) (by simp[T.ag]) (by simp[T.ag]) ?_
   .obtain⟨j,hj⟩:=qQL.1 hy;have:=aj4 j y hj y rfl;have h4:=(gf hz);obtain⟨m,hm,_,h4,_⟩:=h4;unfold Cl at this;omega
   .have h5:=fR b hb;have h6:=I.ot.rm hbo;omega
   .intro fr h4 amf VK I4 Xx u5 u14 u15 u16;simp only[go_sem,Nat.reduceEqDiff,reduceCtorEq,u16,hw];exact⟨d-1,by omega,amf,VK,i+1,by omega,by omega,I4,by simp[u5],by simp[u14],by simp[u15],by simp[]⟩
 .simp only[go_sem,Nat.reduceEqDiff,reduceCtorEq,t5,t15,t16,hc];exact⟨I.le,ts,I.ot.sl,by omega,I.ok⟩
def pq (k:IntKind)(a b:Int):jM .i (.int k a) (.int k b)=some (decide (a=b)):=by
 show aO (NJ k k) (some (NI a b)) none=_;rw[uf,lK];simp[aO];rfl
def Hs (k1 k2:IntKind)(a b c d:Int):kZ .neq (.agg [(0,.i),(1,.i)]) (.agg [.int k1 a,.int k2 b]) (.agg [.int k1 c,.int k2 d])=some (.bool (!decide (a=c/\b=d))):=by
 show((ob (jM .i (.int k1 a) (.int k1 c)) λt=>aO t (ob (jM .i (.int k2 b) (.int k2 d)) λt=>aO t (some true) (some false)) (some false)).map λt=>ae.bool (!t))=_;rw[pq,pq];by_cases h1:a=c<;>by_cases h2:b=d<;>simp[h1,h2,ob,aO]
def Ht (k1 k2 k3 k4:IntKind)(a b c d a' b' c' d':Int):kZ .neq (.agg [(0,.i),(1,.i),(2,.i),(3,.i)]) (.agg [.int k1 a,.int k2 b,.int k3 c,.int k4 d]) (.agg [.int k1 a',.int k2 b',.int k3 c',.int k4 d'])=some (.bool (!decide (a=a'/\b=b'/\c=c'/\d=d'))):=by
 show((ob (jM .i (.int k1 a) (.int k1 a')) λt=>aO t (ob (jM .i (.int k2 b) (.int k2 b')) λt=>aO t (ob (jM .i (.int k3 c) (.int k3 c')) λt=>aO t (ob (jM .i (.int k4 d) (.int k4 d')) λt=>aO t (some true) (some false)) (some false)) (some false)) (some false)).map λt=>ae.bool (!t))=_;rw[pq,pq,pq,pq];by_cases h1:a=a'<;>by_cases h2:b=b'<;>by_cases h3:c=c'<;>by_cases h4:d=d'<;>simp[h1,h2,h3,h4,ob,aO]
def QS {x y:dH}(h:x.fr=y.fr/\x.to=y.to/\(x.l:Int)=(y.l:Int)/\x.c=y.c):x=y:=by
 obtain⟨a,b,c,d⟩:=h;cases x;cases y;simp only at a b c d;rw[a,b,Int.ofNat.inj c,d]
def St {x y:jU}(h:x.st=y.st/\x.c=y.c):x=y:=by
 obtain⟨a,b⟩:=h;cases x;cases y;simp only at a b;rw[a,b]
open Classical in
def Yu {A B:aY}{v w:ae}{h:aa}(HA:fY h v A)(HB:fY h w B):Ec E2 7 [v,w] h λr h'=>r=.bool (decide (A=B))/\aU h h':=by
 obtain⟨va,ve,rfl,ha,he,Oj,lu⟩:=HA;obtain⟨wa,we,rfl,hb,hf,GF,Mb⟩:=HB;refine Ec.bu (aI (by decide)) Nt ?_;unfold RY;have lva:∀h' Q,cH va h' Q=Q (.int .i64 (A.aW.length:Int)) h':=λh' Q=>eS.len ha h' Q;have lve:∀h' Q,cH ve h' Q=Q (.int .i64 (A.ends.length:Int)) h':=λh' Q=>iO.len he h' Q;have lwa:∀h' Q,cH wa h' Q=Q (.int .i64 (B.aW.length:Int)) h':=λh' Q=>eS.len hb h' Q;have lwe:∀h' Q,cH we h' Q=Q (.int .i64 (B.ends.length:Int)) h':=λh' Q=>iO.len hf h' Q;have vaf:=cg.flat ha;have vef:=cg.flat he;have waf:=cg.flat hb;have wef:=cg.flat hf;have gA:((h.push (.cells [.int .i64 A.n,va,ve] 25)).push (.cells [.int .i64 B.n,wa,we] 25)).get h.next=some (.cells [.int .i64 A.n,va,ve] 25):=(aa.aA _ _ (by show h.next+1≠_;omega)).trans (aa.ai _ _);have gB:((h.push (.cells [.int .i64 A.n,va,ve] 25)).push (.cells [.int .i64 B.n,wa,we] 25)).get (h.next+1)=some (.cells [.int .i64 B.n,wa,we] 25):=aa.ai _ _;have aS:aU h ((h.push (.cells [.int .i64 A.n,va,ve] 25)).push (.cells [.int .i64 B.n,wa,we] 25)):=((aU.refl h).push _).push _;have n2:((h.push (.cells [.int .i64 A.n,va,ve] 25)).push (.cells [.int .i64 B.n,wa,we] 25)).next=h.next+2:=rfl;simp only[go_sem,Nat.reduceEqDiff,Nat.reduceAdd,reduceCtorEq];generalize ((h.push (.cells [.int .i64 A.n,va,ve] 25)).push (.cells [.int .i64 B.n,wa,we] 25))=h2 at gA gB aS n2 ⊢;have q0:aN h2 h.next 0=some (.int .i64 A.n):=by rw[aq gA];rfl
 have q1:aN h2 h.next 1=some va:=by rw[aq gA];rfl
 have q2:aN h2 h.next 2=some ve:=by rw[aq gA];rfl
 have p0:aN h2 (h.next+1) 0=some (.int .i64 B.n):=by rw[aq gB];rfl
 have p1:aN h2 (h.next+1) 1=some wa:=by rw[aq gB];rfl
 have p2:aN h2 (h.next+1) 2=some we:=by rw[aq gB];rfl
 by_cases hn:A.n=B.n
 .by_cases hL:(A.aW.length:Int)=(B.aW.length:Int)
  .by_cases hM:(A.ends.length:Int)=(B.ends.length:Int)
   .simp only[go_sem,Nat.reduceEqDiff,reduceCtorEq,q0,q1,q2,p0,p1,p2,lva,lve,lwa,lwe,hn,hL,hM];refine fg (λdd fr h'=>∃i:Nat,dd+i=A.aW.length/\fr.get 2=some (.ptr h.next 0)/\fr.get 3=some (.ptr (h.next+1) 0)/\fr.get 5=some (.int .i64 (i:Int))/\aU h2 h'/\A.aW.take i=B.aW.take i) A.aW.length ?_ ?_
    .exact⟨0,by omega,by simp[T.ag],by simp[T.ag],by simp[T.ag],by exact⟨by omega,λb hb=>rfl⟩,by simp⟩
    rintro dd fr h1 ⟨i,yG,t2,t3,t5,hle,hE⟩;unfold Cx;have q1':aN h1 h.next 1=some va:=by rw[hle.aN (by omega)];exact q1
    have p1':aN h1 (h.next+1) 1=some wa:=by rw[hle.aN (by omega)];exact p1
    by_cases hc:(i:Int)<(B.aW.length:Int)
    .obtain⟨x,hx⟩:∃x,A.aW[i]?=some x:=⟨_,qQW (by omega)⟩;obtain⟨y,hy⟩:∃y,B.aW[i]?=some y:=⟨_,qQW (by omega)⟩;obtain⟨b,o,di,fU⟩:=cg.ix (show cg h1 4 va (A.aW.map aX) from ha.mono (aS.trans hle)) (j:=i) (x:=aX x) (by rw[qQX,hx];rfl);obtain⟨b2,o2,An,yI⟩:=cg.ix (show cg h1 4 wa (B.aW.map aX) from hb.mono (aS.trans hle)) (j:=i) (x:=aX y) (by rw[qQX,hy];rfl);have tv:∀h' Q,fI 4 va (.int .i64 (i:Int)) h' Q=Q (.ptr b o) h':=λh' Q=>fU .i64 (i:Int) h' Q rfl;have Td:∀h' Q,fI 4 wa (.int .i64 (i:Int)) h' Q=Q (.ptr b2 o2) h':=λh' Q=>yI .i64 (i:Int) h' Q rfl
     have l2:eI h1 b o 4=some [.int .i64 x.fr,.int .i64 x.to,.int .u8 (x.l:Int),.int .i64 x.c]:=by
      have:=di.eI (i:=0) (n:=4) (by simp[aX]);simpa[aX] using this
     have l3:eI h1 b2 o2 4=some [.int .i64 y.fr,.int .i64 y.to,.int .u8 (y.l:Int),.int .i64 y.c]:=by
      have:=An.eI (i:=0) (n:=4) (by simp[aX]);simpa[aX] using this
     have yN:IntKind.i64.wrap ((i:Int)+1)=((i+1:Nat):Int):=by rw[wrap_i64 (by omega) (by omega)];push_cast;rfl
     by_cases lH:x.fr=y.fr/\x.to=y.to/\(x.l:Int)=(y.l:Int)/\x.c=y.c
     .have acp:=QS lH;have JS:decide (x.fr=y.fr/\x.to=y.to/\(x.l:Int)=(y.l:Int)/\x.c=y.c)=true:=by simp[lH]
      simp only[go_sem,Nat.reduceEqDiff,reduceCtorEq,t2,t3,t5,q1',p1',lva,hL,hc,tv,Td,l2,l3,yN,Ht,JS];refine⟨dd-1,by omega,i+1,by omega,rfl,hle.trans ⟨qKL _ _,λb hb=>rfl⟩,?_⟩;rw[qZD (by omega),qZD (by omega),hE,(qQZ.1 hx).2,(qQZ.1 hy).2,acp]
     .have JS:decide (x.fr=y.fr/\x.to=y.to/\(x.l:Int)=(y.l:Int)/\x.c=y.c)=false:=by simpa using lH
      simp only[go_sem,Nat.reduceEqDiff,t2,t3,t5,q1',p1',lva,hL,hc,tv,Td,l2,l3,Ht,JS]
      have dV:¬A=B:=λe=>lH (by
       rw[e,hy]at hx;cases hx;exact⟨rfl,rfl,rfl,rfl⟩)
      exact⟨by simp[dV],aS.trans (hle.trans ⟨qKL _ _,λb hb=>rfl⟩)⟩
    .simp only[go_sem,Nat.reduceEqDiff,reduceCtorEq,t2,t5,q1',lva,hL,hc];have hi:i=A.aW.length:=by omega
     subst hi
     have hEA:A.aW=B.aW:=by
      have h2:B.aW.take A.aW.length=B.aW:=qVJ (by omega);rw[qZY,h2]at hE;exact hE
     have agb:=aS.trans hle;refine fg (λdd fr h'=>∃i:Nat,dd+i=A.ends.length/\fr.get 2=some (.ptr h.next 0)/\fr.get 3=some (.ptr (h.next+1) 0)/\fr.get 6=some (.int .i64 (i:Int))/\aU h2 h'/\A.ends.take i=B.ends.take i) A.ends.length ?_ ?_
     .exact⟨0,by omega,by simp[T.ag,t2],by simp[T.ag,t3],by simp[T.ag],hle,by simp⟩
     clear t2 t3 t5 hle agb q1' p1' yG;clear h1 dd fr hE;rintro dd fr h1 ⟨i,yG,t2,t3,t6,hle,hE⟩;unfold Cy;have q2':aN h1 h.next 2=some ve:=by rw[hle.aN (by omega)];exact q2
     have p2':aN h1 (h.next+1) 2=some we:=by rw[hle.aN (by omega)];exact p2
     by_cases hc:(i:Int)<(B.ends.length:Int)
     .obtain⟨x,hx⟩:∃x,A.ends[i]?=some x:=⟨_,qQW (by omega)⟩;obtain⟨y,hy⟩:∃y,B.ends[i]?=some y:=⟨_,qQW (by omega)⟩;obtain⟨b,o,di,fU⟩:=cg.ix (show cg h1 2 ve (A.ends.map gF) from he.mono (aS.trans hle)) (j:=i) (x:=gF x) (by rw[qQX,hx];rfl);obtain⟨b2,o2,An,yI⟩:=cg.ix (show cg h1 2 we (B.ends.map gF) from hf.mono (aS.trans hle)) (j:=i) (x:=gF y) (by rw[qQX,hy];rfl);have tv:∀h' Q,fI 2 ve (.int .i64 (i:Int)) h' Q=Q (.ptr b o) h':=λh' Q=>fU .i64 (i:Int) h' Q rfl;have Td:∀h' Q,fI 2 we (.int .i64 (i:Int)) h' Q=Q (.ptr b2 o2) h':=λh' Q=>yI .i64 (i:Int) h' Q rfl
      have l2:eI h1 b o 2=some [.int .i64 x.st,.int .i64 x.c]:=by
       have:=di.eI (i:=0) (n:=2) (by simp[gF]);simpa[gF] using this
      have l3:eI h1 b2 o2 2=some [.int .i64 y.st,.int .i64 y.c]:=by
       have:=An.eI (i:=0) (n:=2) (by simp[gF]);simpa[gF] using this
      have yN:IntKind.i64.wrap ((i:Int)+1)=((i+1:Nat):Int):=by rw[wrap_i64 (by omega) (by omega)];push_cast;rfl
      by_cases lH:x.st=y.st/\x.c=y.c
      .have acp:=St lH;have JS:decide (x.st=y.st/\x.c=y.c)=true:=by simp[lH]
       simp only[go_sem,Nat.reduceEqDiff,reduceCtorEq,t2,t3,t6,q2',p2',lve,hM,hc,tv,Td,l2,l3,yN,Hs,JS];refine⟨dd-1,by omega,i+1,by omega,rfl,hle.trans ⟨qKL _ _,λb hb=>rfl⟩,?_⟩;rw[qZD (by omega),qZD (by omega),hE,(qQZ.1 hx).2,(qQZ.1 hy).2,acp]
      .have JS:decide (x.st=y.st/\x.c=y.c)=false:=by simpa using lH
       simp only[go_sem,Nat.reduceEqDiff,t2,t3,t6,q2',p2',lve,hM,hc,tv,Td,l2,l3,Hs,JS]
       have dV:¬A=B:=λe=>lH (by
        rw[e,hy]at hx;cases hx;exact⟨rfl,rfl⟩)
       exact⟨by simp[dV],aS.trans (hle.trans ⟨qKL _ _,λb hb=>rfl⟩)⟩
     .simp only[go_sem,Nat.reduceEqDiff,reduceCtorEq,t2,t6,q2',lve,hM,hc];have hi:i=A.ends.length:=by omega
      subst hi
      have hEE:A.ends=B.ends:=by
       have h2:B.ends.take A.ends.length=B.ends:=qVJ (by omega);rw[qZY,h2]at hE;exact hE
      have:A=B:=by
       obtain⟨n1,a1,e1⟩:=A;obtain⟨n2,a2,e2⟩:=B;simp only at hn hEA hEE;rw[hn,hEA,hEE]
      exact⟨by simp[this],aS.trans hle⟩
   .simp only[go_sem,Nat.reduceEqDiff,reduceCtorEq,q0,q1,q2,p0,p1,p2,lva,lve,lwa,lwe,hn,hL,hM];have:¬A=B:=λe=>hM (by rw[e]);simp only[this,decide_false];exact⟨trivial,aS⟩
  .simp only[go_sem,Nat.reduceEqDiff,reduceCtorEq,q0,q1,p0,p1,lva,lwa,hn,hL];have:¬A=B:=λe=>hL (by rw[e]);simp only[this,decide_false];exact⟨trivial,aS⟩
 .simp only[go_sem,Nat.reduceEqDiff,reduceCtorEq,q0,p0,hn];have:¬A=B:=λe=>hn (by rw[e]);simp only[this,decide_false];exact⟨trivial,aS⟩
def MX (A:aY)(v:ae)(s:List Nat)(h:aa)(H:fY h v A)(hs:s.length<=9223372036854775807):Nc Tryz.prog 3 [v,.str s] h λr _=>r=.bool true:=by
 classical
 refine Nc.qJ kr call2 (λm n=>iS kr (call2 m n)) (fn:=Tryz.f3) (by kernel_rfl) (by kernel_rfl) Nb ?_;unfold Rh;obtain⟨va,ve,rfl,ha,he,Oj,GH⟩:=id H;have vaf:=cg.flat ha;have vef:=cg.flat he;have GP:∀x y z:ae,over [ae.int .i64 0,.af,.af] 0 [x,y,z]=[x,y,z]:=λ_ _ _=>rfl;have bh:aU h (h.push (.cells [.int .i64 A.n,va,ve] 25)):=(aU.refl h).push _;have n1:(h.push (.cells [.int .i64 A.n,va,ve] 25)).next=h.next+1:=rfl;have g1:(h.push (.cells [.int .i64 A.n,va,ve] 25)).get h.next=some (.cells [.int .i64 A.n,va,ve] 25):=aa.ai _ _;have ldl:∀h',aU (h.push (.cells [.int .i64 A.n,va,ve] 25)) h'->eI h' h.next 0 3=some [.int .i64 A.n,va,ve]:=λh' hl=>by rw[bX ((hl.get _ (by omega)).trans g1) (by simp)];rfl
 have l1:=ldl _ (aU.refl _);simp only[go_sem,Nat.reduceEqDiff,Nat.reduceAdd,reduceCtorEq,l1];generalize h.push (.cells [.int .i64 A.n,va,ve] 25)=h1 at bh n1 g1 ldl l1 ⊢;refine⟨by decide,?_⟩;refine(AK A _ h1 (H.mono bh)).mono ?_;rintro r h3 ⟨cQ,B,k,hB,hE⟩;obtain⟨xa,xe,rfl,xaf,xef,hX⟩:=hE.auto;have uQ:=cQ.next;have agE:=GP (.int .i64 B.n) xa xe;have dP:aU h3 (h3.push (.cells [.int .i64 B.n,xa,xe] 25)):=(aU.refl h3).push _;have n4:(h3.push (.cells [.int .i64 B.n,xa,xe] 25)).next=h3.next+1:=rfl;have g4:(h3.push (.cells [.int .i64 B.n,xa,xe] 25)).get h3.next=some (.cells [.int .i64 B.n,xa,xe] 25):=aa.ai _ _;have ldx:∀h',aU (h3.push (.cells [.int .i64 B.n,xa,xe] 25)) h'->eI h' h3.next 0 3=some [.int .i64 B.n,xa,xe]:=λh' hl=>by rw[bX ((hl.get _ (by omega)).trans g4) (by simp)];rfl
 have lx4:=ldx _ (aU.refl _);by_cases hk:k=0
 rotate_left
 .simp only[go_sem,Nat.reduceEqDiff,Nat.reduceAdd,reduceCtorEq,agE,hk];generalize h3.push (.cells [.int .i64 B.n,xa,xe] 25)=h4 at dP n4 g4 ldx lx4 ⊢;refine⟨by decide,?_⟩;refine Nc.nW ((Lq h4).mono ?_);rintro r h5 ⟨rfl,rfl⟩;have l5:=ldl h5 (cQ.trans dP);simp only[go_sem,Nat.reduceEqDiff,reduceCtorEq,l5];refine⟨by decide,?_⟩;refine Nc.nW ((vl A _ h5 (H.mono (bh.trans (cQ.trans dP)))).mono ?_);rintro r h6 ⟨rfl,qt⟩;rcases hB with⟨z1,_,z3⟩|⟨z1,z2⟩
  .simp only[go_sem,Nat.reduceEqDiff,reduceCtorEq,z3]
  .have hk2:k=2:=by
    cases z2 with
    |ok=>exact absurd rfl hk
    |big=>rfl
    |many=>rfl
   subst hk2;simp only[go_sem,Nat.reduceEqDiff,Int.reduceEq,reduceCtorEq,z1]
 subst hk;obtain⟨hzA,hNR,Z'⟩:=hB.ok0;simp only[go_sem,Nat.reduceEqDiff,Nat.reduceAdd,reduceCtorEq,agE,lx4];generalize h3.push (.cells [.int .i64 B.n,xa,xe] 25)=h4 at dP n4 g4 ldx lx4 ⊢;have hX4:=hX.mono dP;refine⟨by decide,?_⟩;refine(AK B _ h4 hX4).mono ?_;rintro r h5 ⟨jy,C,l,hC,hE2⟩
 obtain⟨rfl,rfl⟩:C=B/\l=0:=by
  rcases hC with⟨z1,_,_⟩|⟨_,z2⟩
  .exact absurd Z' z1
  .exact hNR.again hzA z2
 obtain⟨ya,ye,rfl,yaf,yef,hY⟩:=hE2.auto;have Qg:=jy.next;have ale:=GP (.int .i64 C.n) ya ye;have qt:aU h5 (h5.push (.cells [.int .i64 C.n,ya,ye] 25)):=(aU.refl h5).push _;have g6:(h5.push (.cells [.int .i64 C.n,ya,ye] 25)).get h5.next=some (.cells [.int .i64 C.n,ya,ye] 25):=aa.ai _ _;have n6:(h5.push (.cells [.int .i64 C.n,ya,ye] 25)).next=h5.next+1:=rfl;have lx6:=ldx _ (jy.trans qt);simp only[go_sem,Nat.reduceEqDiff,Nat.reduceAdd,reduceCtorEq,ale,lx6];generalize h5.push (.cells [.int .i64 C.n,ya,ye] 25)=h6 at qt n6 g6 lx6 ⊢;have Ae:=jy.trans qt;refine⟨by decide,?_⟩;refine Nc.nW ((vl C _ h6 (hX4.mono Ae)).mono ?_);rintro r h7 ⟨rfl,yJ⟩;have lx7:=ldx _ (Ae.trans yJ);have ly7:eI h7 h5.next 0 3=some [.int .i64 C.n,ya,ye]:=by rw[bX ((yJ.get _ (by omega)).trans g6) (by simp)];rfl
 simp only[go_sem,Nat.reduceEqDiff,reduceCtorEq,Z',lx7,ly7];refine⟨by decide,?_⟩;refine Nc.nW ((Yu (A:=C) (B:=C) (hY.mono (qt.trans yJ)) (hX4.mono (Ae.trans yJ))).mono ?_);rintro r h8 ⟨rfl,Xz⟩;have yG:decide (C=C)=true:=by simp
 have l18:=ldl h8 (cQ.trans (dP.trans (Ae.trans (yJ.trans Xz))));simp only[go_sem,Nat.reduceEqDiff,Nat.reduceAdd,reduceCtorEq,l18];have ZL:aU h h8:=bh.trans (cQ.trans (dP.trans (Ae.trans (yJ.trans Xz))));have Tf:aU h8 (h8.push (.cells [.int .i64 A.n,va,ve] 25)):=(aU.refl h8).push _;have g9:(h8.push (.cells [.int .i64 A.n,va,ve] 25)).get h8.next=some (.cells [.int .i64 A.n,va,ve] 25):=aa.ai _ _;have n9:(h8.push (.cells [.int .i64 A.n,va,ve] 25)).next=h8.next+1:=rfl;generalize h8.push (.cells [.int .i64 A.n,va,ve] 25)=h9 at Tf g9 n9 ⊢
 have afW:∀x,x∈[ae.int .i64 A.n,va,ve]->x.flat=true:=λx hx=>by
  simp only[qQF,qJK,or_false]at hx;rcases hx with rfl|rfl|rfl
  .rfl
  .exact vaf
  .exact vef
 have hAs:Qt h9 (.slice h8.next 0 1 1 true) [A]:=by
  refine⟨[[.int .i64 A.n,va,ve]],⟨by simp,.inr ⟨_,_,_,_,rfl,.inr (by simpa using fP.ed (by omega) g9 afW)⟩⟩,rfl,λi c A' hc Zx=>?_⟩;cases i with
  |zero =>
   simp at hc Zx;subst hc;subst Zx;exact H.mono (ZL.trans Tf)
  |succ i=>simp at hc
 refine⟨by decide,?_⟩;refine(PD s _ [A] h9 hAs (by simp)).mono ?_;rintro r Zx ⟨ab0,ts,y7,nQ,hts⟩;have alV:∀h' (K:ae->aa->Prop),cH r h' K=K (.int .i64 (ts.length:Int)) h':=λh' K=>by rw[y7.len,qQD]
 simp only[go_sem,Nat.reduceEqDiff,reduceCtorEq,alV];have af9:=ZL.trans (Tf.trans ab0);have agc:aU h1 Zx:=cQ.trans (dP.trans (Ae.trans (yJ.trans (Xz.trans (Tf.trans ab0)))));have ZM:aU h4 Zx:=Ae.trans (yJ.trans (Xz.trans (Tf.trans ab0)));refine kf (λd fr h'=>∃i:Nat,d+i=ts.length/\aU Zx h'/\fr.get 2=some (.ptr h.next 0)/\fr.get 5=some (.ptr h3.next 0)/\fr.get 50=some r/\fr.get 51=some (.int .i64 (ts.length:Int))/\fr.get 52=some (.int .i64 (i:Int))) ts.length ?_ ?_
 .exact⟨0,by omega,aU.refl _,by simp[T.ag],by simp[T.ag],by simp[T.ag],by simp[T.ag],by simp[T.ag]⟩
 rintro d fr h' ⟨i,hd,pf,t2,t5,t50,t51,t52⟩;unfold Cr;by_cases hc:(i:Int)<(ts.length:Int)
 .obtain⟨t,ht⟩:∃t,ts[i]?=some t:=⟨_,qQW (by omega)⟩;obtain⟨b,o,rr,ii⟩:=(y7.mono pf).ix (j:=i) (x:=[.str t]) (by rw[qQX,ht];rfl);have lt:aN h' b o=some (.str t):=rr.aN (i:=0) rfl;have la:=ldl h' (agc.trans pf);have lb:=ldx h' (ZM.trans pf);have hw:IntKind.i64.wrap ((i:Int)+1)=((i+1:Nat):Int):=by rw[wrap_i64 (by omega) (by omega)];push_cast;rfl
  have alD:t.length<=9223372036854775807:=by
   rcases hts t (qQK ht) with e|e
   .rw[e];exact hs
   .omega
  simp only[go_sem,Nat.reduceEqDiff,t2,t5,t50,t51,t52,hc,ii _ _ _ _ rfl,lt,la,lb];refine⟨by decide,?_⟩;refine(adt A C _ _ t h' (H.mono (af9.trans pf)) (hX4.mono (ZM.trans pf)) alD).mono ?_;rintro r2 tH ⟨Ad,hr⟩;have se:=hr hzA Z' (hNR.RU hzA t);subst se;simp only[go_sem,Nat.reduceEqDiff,reduceCtorEq,t52,hw];exact⟨d-1,by omega,i+1,by omega,pf.trans Ad,by simp[t2],by simp[t5],by simp[t50],by simp[t51],by simp[]⟩
 .simp only[go_sem,reduceCtorEq,t51,t52,hc];refine⟨by decide,?_⟩;refine Nc.nW ((Lq h').mono ?_);rintro r2 tH ⟨rfl,rfl⟩;simp only[go_sem,Nat.reduceEqDiff]
open Go.RowKit Go.WideShapes Go.ChangeShapes
def alR {α:Type}{l:List α}(h:l.length=2):∃a b,l=[a,b]:=by
 match l,h with
 |[a,b],_=>exact⟨a,b,rfl⟩
def CS:maxLen<=9223372036854775807:=by decide
def CV:Tryz.prog.cellsOf 3=1:=by kernel_rfl
def acQ:Tryz.prog.cellsOf 5=1:=by kernel_rfl
def aai:Tryz.prog.cellsOf 52=4:=by kernel_rfl
def aaj:Tryz.prog.cellsOf 56=2:=by kernel_rfl
def Uh:Tryz.prog.cellsOf 22=1:=by kernel_rfl
def Ui:Tryz.prog.cellsOf 23=1:=by kernel_rfl
def acP:Tryz.prog.cellsOf 25=3:=by kernel_rfl
def alS {α:Type}{l:List α}(h:l.length=3):∃a b c,l=[a,b,c]:=by
 match l,h with
 |[a,b,c],_=>exact⟨a,b,c,rfl⟩
def alT {α:Type}{l:List α}(h:l.length=4):∃a b c d,l=[a,b,c,d]:=by
 match l,h with
 |[a,b,c,d],_=>exact⟨a,b,c,d,rfl⟩
def wf_u8 {n:Int}(h:(Lit.int .u8 n).wf=true):0<=n:=by
 have:IntKind.u8.min=0:=by decide
 simp[Lit.wf,this]at h;exact h.1
def acY:Opn Tryz.prog 52 4 (λ_ (a:dH) l=>l=aX a):=by
 refine⟨aai,λ{H enc w base held fuel cs x} h=>?_⟩
 obtain⟨hl,n,hf⟩:=sK Tryz.underlying52 aai (λi f hi=>by
  match i,hi with
  |0,hi=>cases hi;exact⟨rfl,CV⟩
  |1,hi=>cases hi;exact⟨rfl,CV⟩
  |2,hi=>cases hi;exact⟨rfl,acQ⟩
  |3,hi=>cases hi;exact⟨rfl,CV⟩
  |(i+4),hi=>simp at hi) h
 obtain⟨c0,c1,c2,c3,rfl⟩:=alT hl;obtain⟨y0,g0⟩:=hf 0 _ c0 rfl rfl;obtain⟨y1,g1⟩:=hf 1 _ c1 rfl rfl;obtain⟨y2,g2⟩:=hf 2 _ c2 rfl rfl;obtain⟨y3,g3⟩:=hf 3 _ c3 rfl rfl;obtain⟨k0,e0,_,w0⟩:=DataW.trod_int Tryz.underlying3 g0;obtain⟨k1,e1,_,w1⟩:=DataW.trod_int Tryz.underlying3 g1;obtain⟨k2,e2,_,w2⟩:=DataW.trod_int Tryz.underlying5 g2;obtain⟨k3,e3,_,w3⟩:=DataW.trod_int Tryz.underlying3 g3;cases e0;cases e1;cases e2;cases e3;have h2:=wf_u8 w2;refine⟨⟨k0,k1,k2.toNat,k3⟩,?_,λc hc=>?_,rfl⟩
 .show[ae.int .i64 k0,.int .i64 k1,.int .u8 k2,.int .i64 k3]=[.int .i64 k0,.int .i64 k1,.int .u8 ((k2.toNat:Nat):Int),.int .i64 k3];rw[show((k2.toNat:Nat):Int)=k2 by omega]
 .simp at hc;rcases hc with rfl|rfl|rfl|rfl<;>rfl
def acZ:Opn Tryz.prog 56 2 (λ_ (a:jU) l=>l=gF a):=by
 refine⟨aaj,λ{H enc w base held fuel cs x} h=>?_⟩
 obtain⟨hl,n,hf⟩:=sK Tryz.underlying56 aaj (λi f hi=>by
  match i,hi with
  |0,hi=>cases hi;exact⟨rfl,CV⟩
  |1,hi=>cases hi;exact⟨rfl,CV⟩
  |(i+2),hi=>simp at hi) h
 obtain⟨c0,c1,rfl⟩:=alR hl;obtain⟨y0,g0⟩:=hf 0 _ c0 rfl rfl;obtain⟨y1,g1⟩:=hf 1 _ c1 rfl rfl;obtain⟨k0,e0,_,w0⟩:=DataW.trod_int Tryz.underlying3 g0;obtain⟨k1,e1,_,w1⟩:=DataW.trod_int Tryz.underlying3 g1;cases e0;cases e1;exact⟨⟨k0,k1⟩,rfl,λc hc=>by simp at hc;rcases hc with rfl|rfl<;>rfl,rfl⟩
def HU {α:Type}{enc:α->List ae}{xs:List α}{rows:List (List ae)}(h:xs.length=rows.length)(h2:∀(i:Nat) a r,xs[i]?=some a->rows[i]?=some r->r=enc a):rows=xs.map enc:=by
 apply qJF;intro i;rw[qQX];cases hx:xs[i]? with
 |none =>
  have:=List.getElem?_eq_none_iff.1 hx;rw[qJL (by omega)];rfl
 |some a =>
  have hi:=(qQZ.1 hx).1;obtain⟨r,hr⟩:∃r,rows[i]?=some r:=⟨_,qQW (by omega)⟩;rw[hr,h2 i a r hx hr];rfl
def Yg:Opn Tryz.prog 22 1 (λw (xs:List dH) l=>∃v,l=[v]/\eS (BL w) v xs/\xs.length<=9223372036854775807):=by
 have h0:=CX acY (by omega) Tryz.underlying22 Uh;refine⟨h0.1,λh=>?_⟩;obtain⟨xs,⟨v,rows,e,hs,⟨hl,h2⟩,hm⟩,hf,hlen⟩:=h0.2 h;refine⟨xs,⟨v,e,?_,qZC hm CS⟩,hf,hlen⟩;rw[HU hl h2]at hs;exact hs
def Yh:Opn Tryz.prog 23 1 (λw (xs:List jU) l=>∃v,l=[v]/\iO (BL w) v xs/\xs.length<=9223372036854775807):=by
 have h0:=CX acZ (by omega) Tryz.underlying23 Ui;refine⟨h0.1,λh=>?_⟩;obtain⟨xs,⟨v,rows,e,hs,⟨hl,h2⟩,hm⟩,hf,hlen⟩:=h0.2 h;refine⟨xs,⟨v,e,?_,qZC hm CS⟩,hf,hlen⟩;rw[HU hl h2]at hs;exact hs
set_option maxRecDepth 100000 in
def Us {W:World}{r:Reach}{b0:Nat}{H:Type}{enc:TypeId×Value->H}{held:Bool}{v:Value}{d:DataW H}{ps:List MemPlace}
 (jG:Value.okWide Tryz.prog W r b0 25 v) (h:DataW.Trod enc Tryz.prog W 0 (λ_=>true) held 25 v d ps):∃(a:ae)(A:aY),V (VG W.heap.size) a v/\fY (BL W) a A:=by
 obtain⟨vs,rfl,iq⟩:=okWide_struct Tryz.underlying25 jG;obtain⟨fuel,h⟩:=h
 obtain⟨hl,n,hf⟩:=sK Tryz.underlying25 acP (λi f hi=>by
  match i,hi with
  |0,hi=>cases hi;exact⟨rfl,CV⟩
  |1,hi=>cases hi;exact⟨rfl,Uh⟩
  |2,hi=>cases hi;exact⟨rfl,Ui⟩
  |(i+3),hi=>simp at hi) h
 obtain⟨c0,c1,c2,ny⟩:=alS hl;rw[ny]at hf;obtain⟨y0,g0⟩:=hf 0 _ c0 rfl rfl;obtain⟨y1,g1⟩:=hf 1 _ c1 rfl rfl;obtain⟨y2,g2⟩:=hf 2 _ c2 rfl rfl;obtain⟨k0,e0,_,_⟩:=DataW.trod_int Tryz.underlying3 g0;obtain⟨aW,⟨va,e1,ha,la⟩,f1,_⟩:=Yg.2 g1;obtain⟨ends,⟨ve,e2,he,le⟩,f2,_⟩:=Yh.2 g2;cases e0;have e1':kJ W.heap.size c1=va:=by simpa using e1
 have e2':kJ W.heap.size c2=ve:=by simpa using e2
 subst e1';subst e2';have hvs:vs.toList=[.int .i64 k0,c1,c2]:=ny;refine⟨.agg [.int .i64 k0,kJ W.heap.size c1,kJ W.heap.size c2],⟨k0,aW,ends⟩,.agg (λx hx=>?_) ?_,_,_,rfl,ha,he,la,le⟩
 .simp at hx;rcases hx with rfl|rfl|rfl
  .rfl
  .exact f1 _ (by simp)
  .exact f2 _ (by simp)
 .rw[hvs];exact .cons (.int _ _) (.cons (IH (f1 _ (by simp))) (.cons (IH (f2 _ (by simp))) .nil))
def FE {P:Program}[Lay P]{f:FuncId}{args:List ae}{args':Array Value}{W:World}{Q:ae->aa->Prop}
 (JW:∀b,Lay.dom P b->b<W.heap.size/\Lay.lay P b (W.heap[b]?)) (ha:VL (VG W.heap.size) args args'.toList) (h:Nc P f args (BL W) Q) :
 Calls P f args' W λe w'=>∃v h' v' ρ,e=.returned v'/\Q v h'/\V ρ v v'/\Go.RowKit.Below W.heap.size W w':=by
 refine(h.2 _ W _ W args' ha (VZ JW)).mono ?_;rintro e w' ⟨v,h',hq,v',bn,rfl,hle,hv,H⟩;exact⟨v,h',v',bn,rfl,hq,hv,H.os,H.tape.tp,H.output,H.size,λb hb=>H.eN b hb⟩
end
end Go.AX
