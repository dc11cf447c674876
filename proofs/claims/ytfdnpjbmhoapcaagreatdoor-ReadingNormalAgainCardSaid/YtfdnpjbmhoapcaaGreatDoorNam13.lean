/-
  Contracts of functions of this seat, for every input that each theorem names.
-/
import Derived.Test.YtfdnpjbmhoapcaaGreatDoorNam8
import Derived.Test.YtfdnpjbmhoapcaaGreatDoorNam12
import Derived.Test.YtfdnpjbmhoapcaaGreatDoorNax1
import Derived.Test.YtfdnpjbmhoapcaaGreatDoorNax2
set_option linter.all false
set_option maxHeartbeats 32000000
set_option maxRecDepth 10000
namespace Go.AX
open Go Go.Proofs
noncomputable section
attribute [local go_sem] T' Ku Ks T9 AB Ei Kr T8 acH Kt Ej Ey Ug Ez KA AL oV AQ AR AZ sn Kz KD KC Eo Ep qG qF uC xA AS uD AY EA AW AN AT AU AO Et Eu Ew AP xx xy sk oY AV AM xu uB KB xr Es xz qH qI Er xw cN cL
def xZ {α:Type}{size:Nat}(iq:0<size):∀{xs ys:List (List α)},(∀x,x∈xs->x.length=size)->(∀x,x∈ys->x.length=size)->xs.flatten=ys.flatten->xs=ys
 |[],[],_,_,_=>rfl
 |[],y :: ys,_,h2,h=>by
  have:=h2 y (by simp);have h3:=congrArg List.length h;simp at h3;omega
 |x :: xs,[],h1,_,h=>by
  have:=h1 x (by simp);have h3:(x++xs.flatten).length=0:=by rw[<-qZA,h];rfl
  rw[qQM]at h3;omega
 |x :: xs,y :: ys,h1,h2,h=>by
  rw[qZA,qZA]at h;obtain⟨e1,e2⟩:=List.append_inj h (by rw[h1 x (by simp),h2 y (by simp)]);rw[e1,xZ iq (λz hz=>h1 z (by simp[hz])) (λz hz=>h2 z (by simp[hz])) e2]
def cg.uniq {h:aa}{size:Nat}{v:ae}{xs ys:List (List ae)}(iq:0<size)(H:cg h size v xs)(G:cg h size v ys):xs=ys:=by
 have hlen:xs.length=ys.length:=by
  rcases H.2 with⟨rfl,rfl⟩|⟨b,o,c,ex,rfl,_⟩
  .rcases G.2 with⟨rfl,_⟩|⟨b,o,c,ex,e,_⟩
   .rfl
   .cases e
  .rcases G.2 with⟨rfl,e⟩|⟨b',o',c',Zt,e,_⟩
   .cases e
   .injection e
 by_cases hx:xs=[]
 .subst hx;have:ys.length=0:=hlen.symm;exact(qZG this).symm
 by_cases hy:ys=[]
 .subst hy;exact absurd (qZG hlen) hx
 rcases H.2 with⟨h1,_⟩|⟨b,o,c,ex,rfl,hr⟩
 .exact absurd h1 hx
 rcases hr with h1|⟨_,c1,e1,asB,rf,Xw,ht1,_⟩
 .exact absurd h1 hx
 rcases G.2 with⟨h1,_⟩|⟨b',o',c',Zt,e,gr⟩
 .exact absurd h1 hy
 obtain⟨rfl,rfl⟩:b=b'/\o=o':=by injection e;exact⟨by assumption,by assumption⟩
 rcases gr with h1|⟨_,c2,e2,KP,Gw,gl1,gt1,_⟩
 .exact absurd h1 hy
 have hc:c1=c2:=by
  rcases rf with⟨_,a⟩|⟨_,a⟩<;>rcases Gw with⟨_,b⟩|⟨_,b⟩<;>(rw[a]at b;cases b;try rfl)
 subst hc;refine xZ iq H.1 G.1 ?_;rw[<-ht1,<-gt1,eH H.1,eH G.1,hlen]
def QR {a b:dH}(h:aX a=aX b):a=b:=by
 obtain⟨a1,a2,a3,a4⟩:=a;obtain⟨b1,b2,b3,b4⟩:=b;simp only[aX,qJV,ae.int.injEq,true_and,and_true]at h;obtain⟨h1,h2,h3,h4⟩:=h;subst h1;subst h2;subst h4;congr 1;omega
def Sq {a b:jU}(h:gF a=gF b):a=b:=by
 obtain⟨a1,a2⟩:=a;obtain⟨b1,b2⟩:=b;simp only[gF,qJV,ae.int.injEq,true_and,and_true]at h;obtain⟨h1,h2⟩:=h;subst h1;subst h2;rfl
def map_inj {α β:Type}{f:α->β}(hf:∀a b,f a=f b->a=b):∀{l m:List α},l.map f=m.map f->l=m
 |[],[],_=>rfl
 |[],_ :: _,h=>by simp at h
 |_ :: _,[],h=>by simp at h
 |a :: l,b :: m,h=>by
  simp only[qZW,qJV]at h;rw[hf a b h.1,map_inj hf h.2]
def fY.uniq {h:aa}{v:ae}{A B:aY}(H:fY h v A)(G:fY h v B):A=B:=by
 obtain⟨va,ve,e,h1,h2,_⟩:=H;obtain⟨wa,we,e',g1,g2,_⟩:=G;rw[e]at e';simp only[ae.agg.injEq,qJV,ae.int.injEq,true_and,and_true]at e';obtain⟨e1,rfl,rfl⟩:=e';obtain⟨n,a,b⟩:=A;obtain⟨n',a',b'⟩:=B;have e2:=map_inj (λ_ _=>QR) (cg.uniq (by omega) h1 g1);have e3:=map_inj (λ_ _=>Sq) (cg.uniq (by omega) h2 g2);simp only at e1 e2 e3;subst e1;subst e2;subst e3;rfl
open Classical in
def tC (A:aY)(s:List Nat):Option Int:=if H:∃o,c9 (Fg A s) o then H.choose else none
def zQ {A:aY}{s:List Nat}{o:Option Int}(h:c9 (Fg A s) o):tC A s=o:=by
 have H:∃o,c9 (Fg A s) o:=⟨o,h⟩;unfold tC;rw[dif_pos H];exact H.choose_spec.uniq h
def nK (A:aY)(s:List Nat):ae:=if bH A=0 then .eC [.int .i64 (oN (tC A s)),.bool (tC A s).isSome] else .eC [.int .i64 0,.bool false]
def gf {A:aY}(hA:bH A=0):∃n:Nat,A.n=(n:Int)/\1<=n/\n<=400/\A.aW.length<=4000/\A.ends.length<=400/\fH A.n A.aW/\gK A.n A.ends:=by
 have hz:¬(400<A.n\/4000<A.aW.length\/400<A.ends.length):=λhz=>by unfold bH at hA;rw[if_pos hz]at hA;cases hA
 have yK:¬A.n<1:=λhc=>by unfold bH at hA;rw[if_neg hz,if_pos hc]at hA;cases hA
 have hP:fH A.n A.aW/\gK A.n A.ends:=by
  by_cases e:fH A.n A.aW/\gK A.n A.ends
  .exact e
  .unfold bH at hA;rw[if_neg hz,if_neg yK,if_neg e]at hA;cases hA
 exact⟨A.n.toNat,by omega,by omega,by omega,by omega,by omega,hP⟩
def ama (A:aY):zf A [] [(0,0,0)]:=by
 intro q;by_cases h:q=0
 .subst h;exact⟨⟨rfl,rfl⟩,λk hk=>by obtain⟨_,rfl⟩:=hk;exact qKV _⟩
 .have:dW [(0,0,0)] q=none:=by
   have h':¬(0:Int)=q:=λx=>h x.symm;simp[dW,h']
  rw[this];rintro k ⟨e,_⟩;exact h e.symm
def aa5 (A:aY)(v:ae)(s:List Nat)(h:aa)(H:fY h v A)(hs:s.length<=9223372036854775807):Nc Tryz.prog 15 [v,.str s] h λu _=>u=nK A s:=by
 refine Nc.acT kr call2 (λm n=>iS kr (call2 m n)) (fn:=Tryz.f15) (by kernel_rfl) (by kernel_rfl) Ry ?_;obtain⟨va,ve,rfl,ha,he,Oj,GH⟩:=id H;unfold Zb;have ln:eI (h.push (.cells [.int .i64 A.n,va,ve] 25)) h.next 0 3=some [.int .i64 A.n,va,ve]:=by rw[ir _ _ _ (by simp)];rfl
 simp only[go_sem,Nat.reduceEqDiff,Nat.reduceAdd,reduceCtorEq,ln];refine⟨by decide,?_⟩;have bh:aU h (h.push (.cells [.int .i64 A.n,va,ve] 25)):=(aU.refl h).push _;have ab7:(h.push (.cells [.int .i64 A.n,va,ve] 25)).next=h.next+1:=rfl;generalize h.push (.cells [.int .i64 A.n,va,ve] 25)=h1 at ln bh ab7 ⊢;refine(vl A _ h1 (H.mono bh)).mono ?_;rintro r h2 ⟨rfl,aS⟩;have ln2:eI h2 h.next 0 3=some [.int .i64 A.n,va,ve]:=(aS.eI (x:=h.next) (by omega) 0 3).trans ln;by_cases hA:bH A=0
 rotate_left
 .simp only[go_sem,Nat.reduceEqDiff,reduceCtorEq,hA];unfold nK;rw[if_neg hA]
 simp only[go_sem,Nat.reduceEqDiff,reduceCtorEq,hA,ln2];refine⟨by decide,?_⟩;refine(acX A _ h2 (H.mono (bh.trans aS)) hA).mono ?_;rintro r h3 ⟨⟨vo,vf,rows,rfl,g1,g2,g3,g4⟩,cQ⟩;obtain⟨n,hn,n1,n4,l4,e4,hP,hE⟩:=gf hA;have uQ:=cQ.next;have GK:=aS.next;have abC:aU h3 (h3.push (.cells [vo,vf] 68)):=(aU.refl h3).push _
 have G:Gr A n (h3.push (.cells [vo,vf] 68)) h3.next vo vf rows :=
  ⟨hn,n1,n4,hP,hE,l4,g1.mono abC,by omega,λj x hx=>(g3 j x hx).mono abC,by have:=g4.mono abC;rwa [show A.n.toNat=n by omega]at this,by simp[aa.bI],aa.ai _ _⟩
 have gm:((h3.push (.cells [vo,vf] 68)).push (.map [] 0)).get (h3.next+1)=some (.map (([]:List dD).map dF) 0):=aa.ai _ _;have hM1:=gh.nil.put 0 0;have hp:pQ [] 0 0 0=[(0,0,0)]:=rfl;have hpc:wb [] 0 0=1:=rfl;rw[hp,hpc]at hM1;simp only[go_sem,Nat.reduceEqDiff,Nat.reduceAdd,reduceCtorEq,pR gh.nil gm,hp,hpc];refine WL A n s (h3.next+1) h3.next vo vf rows _ (h3.push (.cells [vo,vf] 68)) _ [(0,0,0)] 1 G hs (((aU.refl _).push _).put (by simp[aa.bI]) _) (by simp[aa.bI]) (by show h3.next+1<h3.next+1+1;omega) hM1 (aa.aj _ _ _) (ama A) (by simp[T.ag]) (by simp[T.ag]) (by simp[T.ag]) (by simp[T.ag]) (by simp[T.ag]) ?_;intro fr h4 r es c u6 u7 dP rf se hM4 rn hN4;simp only[go_sem,Nat.reduceEqDiff,u7,uI rn];refine WM A n s r h4.next h3.next vo vf rows _ (h3.push (.cells [vo,vf] 68)) _ es c G (dP.push _) rf (by show r<h4.next+1;omega) (by omega) dP.next (by show h4.next<h4.next+1;omega) hM4 ((aa.aA _ _ (by omega)).trans rn) (aa.ai _ _) hN4 (by simp[T.ag,u6]) (by simp[T.ag]) (by simp[T.ag]) (by simp[T.ag]) ?_;intro fr h5 o w16 w17 ho;simp only[go_sem,Nat.reduceEqDiff,w16,w17];unfold nK;rw[if_pos hA,zQ ho]
def VL.plain {ρ bn:Ren}:∀{l:List ae}{l':List Value},(∀x,x∈l->x.plain=true)->VL ρ l l'->VL bn l l'
 |_,_,_,.nil=>.nil
 |_,_,hp,.cons h1 hl=>.cons (h1.plain (hp _ (by simp))) (VL.plain (λx hx=>hp x (by simp[hx])) hl)
def V.Df {ρ bn:Ren}{l:List ae}{v':Value}(hp:∀x,x∈l->x.plain=true)(hv:V ρ (.eC l) v'):V bn (.eC l) v':=by
 cases hv with
 |eC hl=>exact .eC (hl.plain hp)
def VX {A:aY}{s:List Nat}(ρ bn:Ren)(v':Value)(hv:V ρ (nK A s) v'):V bn (nK A s) v':=by
 unfold nK at hv ⊢;split at hv
 .rename_i hA;rw[if_pos hA];exact hv.Df (by simp[ae.plain])
 .rename_i hA;rw[if_neg hA];exact hv.Df (by simp[ae.plain])
open Classical in
def F9 (args:List ae)(h:aa):R:=if H:∃(A:aY)(v:ae)(s:List Nat),args=[v,.str s]/\fY h v A/\s.length<=9223372036854775807 then some (nK H.choose H.choose_spec.choose_spec.choose,h) else none
def RT {A:aY}{v:ae}{s:List Nat}{h:aa}(H:fY h v A)(hs:s.length<=9223372036854775807):F9 [v,.str s] h=some (nK A s,h):=by
 have hx:∃(A:aY)(v':ae)(s':List Nat),[v,.str s]=[v',.str s']/\fY h v' A/\s'.length<=9223372036854775807:=⟨A,v,s,rfl,H,hs⟩;unfold F9;rw[dif_pos hx];have h1:=hx.choose_spec.choose_spec.choose_spec;generalize hx.choose_spec.choose_spec.choose=s' at h1 ⊢;generalize hx.choose_spec.choose=v' at h1 ⊢;generalize hx.choose=A' at h1 ⊢;obtain⟨e,Zx,_⟩:=h1;simp only[qJV,ae.str.injEq,and_true]at e;obtain⟨rfl,rfl⟩:=e;rw[H.uniq Zx]
def WN:zg 15 (.fn F9):=by
 intro args h v h' hp;have jz:F9 args h=some (v,h'):=hp;unfold F9 at jz;split at jz
 .rename_i H;have h1:=H.choose_spec.choose_spec.choose_spec;generalize H.choose_spec.choose_spec.choose=s at h1 jz;generalize H.choose_spec.choose=w at h1;generalize H.choose=A at h1 jz;obtain⟨rfl,hA,hs⟩:=h1;obtain⟨rfl,rfl⟩:=Prod.mk.inj (qKK jz);exact Nc.still VX (aa5 A w s h.fz hA.fz hs)
 .cases jz
attribute [local go_sem] iz aa.AA aa.xn aa.xm aa.uv aa.uw s9
def aaA (h:aa)(n0:Nat)(v:ae)(A:aY):Prop:=∃(vo vf:ae)(rows:List ae),v=.agg [vo,vf]/\cg h 1 vo (rows.map λx=>[x])/\rows.length=A.n.toNat/\(∀(i:Nat)(x:ae),rows[i]?=some x->eS h x (cp A i)) /\
 cg h 1 vf ((List.range A.n.toNat).map λi=>[.int .i64 (bm A.ends i)])/\(∀b,aM vo b->n0<=b)/\(∀b,aM vf b->n0<=b)/\∀x,x∈rows->∀b,aM x b->n0<=b
def Mv (A:aY)(v:ae)(h:aa)(H:fY h v A)(hA:bH A=0):Ec E2 21 [v] h λr h'=>aaA h' h.next r A/\aU h h':=by
 obtain⟨va,ve,rfl,ha,he,Oj,GH⟩:=H;refine Ec.bu (aI (by decide)) FV ?_;unfold RS;have hz:¬(400<A.n\/4000<A.aW.length\/400<A.ends.length):=λhz=>by unfold bH at hA;rw[if_pos hz]at hA;cases hA
 have yK:¬A.n<1:=λhc=>by unfold bH at hA;rw[if_neg hz,if_pos hc]at hA;cases hA
 have hP:fH A.n A.aW/\gK A.n A.ends:=by
  by_cases e:fH A.n A.aW/\gK A.n A.ends
  .exact e
  .unfold bH at hA;rw[if_neg hz,if_neg yK,if_neg e]at hA;cases hA
 obtain⟨n,hn⟩:∃n:Nat,A.n=(n:Int):=⟨A.n.toNat,by omega⟩;simp only[go_sem,Nat.reduceEqDiff,reduceCtorEq];have q0:aN ((h.push (.cells [.int .i64 A.n,va,ve] 25)).push (.cells [.af,.af] 68)) h.next 0=some (.int .i64 A.n):=by rw[Mk];rfl
 have g1:((h.push (.cells [.int .i64 A.n,va,ve] 25)).push (.cells [.af,.af] 68)).get h.next=some (.cells [.int .i64 A.n,va,ve] 25):=by rw[aa.aA _ _ (by simp[aa.bI]),aa.ai]
 have g2:((h.push (.cells [.int .i64 A.n,va,ve] 25)).push (.cells [.af,.af] 68)).get (h.next+1)=some (.cells [.af,.af] 68):=aa.ai _ _;have bh:aU h ((h.push (.cells [.int .i64 A.n,va,ve] 25)).push (.cells [.af,.af] 68)):=((aU.refl h).push _).push _;have nO:((h.push (.cells [.int .i64 A.n,va,ve] 25)).push (.cells [.af,.af] 68)).next=h.next+2:=rfl;generalize (h.push (.cells [.int .i64 A.n,va,ve] 25)).push (.cells [.af,.af] 68)=h1 at q0 g1 g2 bh nO ⊢;simp only[go_sem,Nat.reduceEqDiff,Nat.reduceAdd,Nat.reduceLeDiff,reduceCtorEq,q0,oO hn (show n*24<=1073741824 by omega) (by omega),oO hn (show n*8<=1073741824 by omega) (by omega),jl];generalize e1:h.next+1+1+2=b1;generalize e2:h.next+1+1+5=b2;generalize e3:h.next+1+1+7=b3
 have G1:((((h1.skip 9).put b1 (.cells (List.replicate n .af) 22)).put b2 (.cells (List.replicate n (.int .i64 0)) 3)).put b3 (.cells [.slice b1 0 n n true,.slice b2 0 n n true] 68)).get b1=some (.cells (List.replicate n .af) 22):=by
  rw[aa.ah _ _ (by omega),aa.ah _ _ (by omega),aa.aj]
 have G2:((((h1.skip 9).put b1 (.cells (List.replicate n .af) 22)).put b2 (.cells (List.replicate n (.int .i64 0)) 3)).put b3 (.cells [.slice b1 0 n n true,.slice b2 0 n n true] 68)).get b2=some (.cells (List.replicate n (.int .i64 0)) 3):=by
  rw[aa.ah _ _ (by omega),aa.aj]
 have G3:((((h1.skip 9).put b1 (.cells (List.replicate n .af) 22)).put b2 (.cells (List.replicate n (.int .i64 0)) 3)).put b3 (.cells [.slice b1 0 n n true,.slice b2 0 n n true] 68)).get b3=some (.cells [.slice b1 0 n n true,.slice b2 0 n n true] 68):=aa.aj _ _ _
 have Gl:∀c,c<h.next+2->((((h1.skip 9).put b1 (.cells (List.replicate n .af) 22)).put b2 (.cells (List.replicate n (.int .i64 0)) 3)).put b3 (.cells [.slice b1 0 n n true,.slice b2 0 n n true] 68)).get c=h1.get c:=λc hc=>by
  rw[aa.ah _ _ (by omega),aa.ah _ _ (by omega),aa.ah _ _ (by omega)];rfl
 have Gn:((((h1.skip 9).put b1 (.cells (List.replicate n .af) 22)).put b2 (.cells (List.replicate n (.int .i64 0)) 3)).put b3 (.cells [.slice b1 0 n n true,.slice b2 0 n n true] 68)).next=h.next+11:=by show h1.next+9=_;omega
 generalize (((h1.skip 9).put b1 (.cells (List.replicate n .af) 22)).put b2 (.cells (List.replicate n (.int .i64 0)) 3)).put b3 (.cells [.slice b1 0 n n true,.slice b2 0 n n true] 68)=h2 at G1 G2 G3 Gl Gn ⊢;have l2:aN h2 b3 1=some (.slice b2 0 n n true):=by rw[aq G3];rfl
 simp only[go_sem,Nat.reduceEqDiff,reduceCtorEq,l2];refine Mw n b2 b3 (.slice b1 0 n n true) va (.ptr h.next 0) (.ptr (h.next+1) 0) _ _ (by omega) (by omega) G3 G2 (by simp[T.ag]) (by simp[T.ag]) (by simp[T.ag]) (by simp[T.ag]) (by simp[T.ag]) ?_;intro fr h3 t1 t2 t3 uQ lZ gb3;have l3:aN h3 h.next 1=some va:=by rw[cG (lZ _ (by omega)),cG (Gl _ (by omega)),aq g1];rfl
 have Ot:∀c,c<h.next->h3.get c=h.get c:=λc hc=>(lZ c (by omega)).trans ((Gl c (by omega)).trans (bh.get c hc));have ha3:eS h3 va A.aW:=cg.eN ha (by omega) λc _ hc=>Ot c hc;have he3:iO h3 ve A.ends:=cg.eN he (by omega) λc _ hc=>Ot c hc;simp only[go_sem,Nat.reduceEqDiff,t1,l3,ha3.len];have cQ:aU h h3:=⟨by omega,Ot⟩;have G33:h3.get b3=some (.cells [.slice b1 0 n n true,.slice b2 0 n n true] 68):=(lZ b3 (by omega)).trans G3;refine Mx A n b1 b3 (.slice b2 0 n n true) va (.ptr h.next 0) (.ptr (h.next+1) 0) _ _ (by omega) (by omega) (by omega) (by omega) hn hP.1 (by omega) cQ ha (by omega) G33 ((lZ b1 (by omega)).trans G1) (by simp[T.ag,t1]) (by simp[T.ag,t2]) (by simp[T.ag,t3]) (by simp[T.ag]) (by simp[T.ag]) (by simp[T.ag]) ?_;intro fr h4 vs u1 u2 u3 JY rn Vp hR4;have l4:aN h4 h.next 2=some ve:=by rw[cG (rn _ (by omega) (by omega)),cG (lZ _ (by omega)),cG (Gl _ (by omega)),aq g1];rfl
 have hx4:∀c,c<h.next->h4.get c=h.get c:=λc hc=>(rn c (by omega) (by omega)).trans (Ot c hc);have dP:aU h h4:=⟨by omega,hx4⟩;simp only[go_sem,Nat.reduceEqDiff,u1,l4,(he.mono dP).len];refine My A n b2 b3 (.slice b1 0 n n true) ve (.ptr h.next 0) (.ptr (h.next+1) 0) _ _ (by omega) (by omega) (by omega) (by omega) hn hP.2 (by omega) dP he (by omega) ((rn b3 (by omega) (by omega)).trans G33) ((rn b2 (by omega) (by omega)).trans gb3) (by simp[T.ag,u1]) (by simp[T.ag,u2]) (by simp[T.ag,u3]) (by simp[T.ag]) (by simp[T.ag]) (by simp[T.ag]) ?_;intro fr h5 w2 w3 Qg B2 gb5;have G35:h5.get b3=some (.cells [.slice b1 0 n n true,.slice b2 0 n n true] 68):=(B2 b3 (by omega) (by omega)).trans ((rn b3 (by omega) (by omega)).trans G33);have l5:eI h5 b3 0 2=some [.slice b1 0 n n true,.slice b2 0 n n true]:=bX G35 (by simp)
 have gp5:h5.get (h.next+1)=some (.cells [.af,.af] 68):=by
  rw[B2 _ (by omega) (by omega),rn _ (by omega) (by omega),lZ _ (by omega),Gl _ (by omega)];exact g2
 have cS:=aD (o:=0) (n:=2) (vs:=[.slice b1 0 n n true,.slice b2 0 n n true]) gp5 rfl (by simp);have D3:vs.length=n:=by rw[hR4.len];simp[gw]
 have abu:(h5.put (h.next+1) (.cells [.slice b1 0 n n true,.slice b2 0 n n true] 68)).get b1=some (.cells vs 22):=by
  rw[aa.ah _ _ (by omega),B2 _ (by omega) (by omega)];exact Vp
 have abv:(h5.put (h.next+1) (.cells [.slice b1 0 n n true,.slice b2 0 n n true] 68)).get b2=some (.cells (dZ A n A.ends.length) 3):=by
  rw[aa.ah _ _ (by omega)];exact gb5
 have hR5:=hR4.frame (h':=h5.put (h.next+1) (.cells [.slice b1 0 n n true,.slice b2 0 n n true] 68)) (by show h4.next<=h5.next;omega) λc Iy uk _=>by
  rw[aa.ah _ _ (by omega),B2 c uk (by omega)]
 simp only[go_sem,Nat.reduceEqDiff,w2,w3,l5,cS];refine qQ (jf Co Bo (b:=h.next+1) (o:=0) (by rw[mI];simp[T.ag,w2]) (bX (aa.aj _ _ _) (by simp[]))) ⟨⟨.slice b1 0 n n true,.slice b2 0 n n true,vs,rfl,?_,?_,?_,?_,?_,?_,?_⟩,?_⟩
 .have:=cg.of1 (c:=n) (ex:=true) (by show b1<h5.next;omega) abu hR5.flat;rw[D3]at this;exact this
 .omega
 .intro i y hy;have hi:=(qQZ.1 hy).1;refine hR5.sl (l:=cp A i) (λ_=>rfl) (by omega) (λa y hy=>by simp[aX]at hy;rcases hy with rfl|rfl|rfl|rfl<;>rfl) hy ?_;unfold gw;rw[qQX,qJY (by omega),qZY];rfl
 .have:=cg.of1 (c:=n) (ex:=true) (by show b2<h5.next;omega) abv (by intro y hy;unfold dZ at hy;obtain⟨_,_,rfl⟩:=qQB.1 hy;rfl);have ic:(dZ A n A.ends.length).length=n:=by unfold dZ;rw[qQD,qKA]
  rw[ic]at this
  have e:(dZ A n A.ends.length).map (λx=>[x])=(List.range A.n.toNat).map λi=>[.int .i64 (bm A.ends i)]:=by
   unfold dZ;rw[qKJ,qZY,show A.n.toNat=n by omega];rfl
  rw[<-e];exact this
 .rintro b ⟨_,_,_,_,e⟩;cases e;omega
 .rintro b ⟨_,_,_,_,e⟩;cases e;omega
 .intro x hx b hb;obtain⟨i,hi⟩:=qQL.1 hx;have:=(hR5.low i x b hi hb).1;omega
 .refine⟨by show h.next<=h5.next;omega,λc hc=>?_⟩;rw[aa.ah _ _ (by omega),B2 c (by omega) (by omega)];exact hx4 c hc
end
end Go.AX
