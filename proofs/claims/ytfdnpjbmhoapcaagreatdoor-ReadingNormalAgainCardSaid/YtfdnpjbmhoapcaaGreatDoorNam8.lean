/-
  Contracts of functions of this seat, for every input that each theorem names.
-/
import Derived.Test.YtfdnpjbmhoapcaaGreatDoorNam6
import Derived.Test.YtfdnpjbmhoapcaaGreatDoorNat7
import Derived.Test.YtfdnpjbmhoapcaaGreatDoorNam1
import Derived.Test.YtfdnpjbmhoapcaaGreatDoorNam2
import Derived.Test.YtfdnpjbmhoapcaaGreatDoorNam4
import Derived.Test.YtfdnpjbmhoapcaaGreatDoorNat5
import Derived.Test.YtfdnpjbmhoapcaaGreatDoorNax1
import Derived.Test.YtfdnpjbmhoapcaaGreatDoorNax2
set_option linter.all false
set_option maxHeartbeats 32000000
set_option maxRecDepth 10000
namespace Go.AX
open Go Go.Proofs Go.RowKit Go.Sort
noncomputable section
section
variable{α:Type}[Inhabited α]
def pD {encA:α->List ae}{k:Nat}(hk:0<k)(hA:∀x,(encA x).length=k):∀(ps:List α)(j:Nat),j<ps.length*k->(ps.map encA).flatten[j]?=(encA (ps.toArray[j / k]!))[j % k]?
 |[],j,h=>by simp at h
 |p :: ps,j,h=>by
  rw[qZW,qZA];by_cases hj:j<k
  .rw[qQN (by rw[hA];exact hj),Nat.div_eq_of_lt hj,Nat.mod_eq_of_lt hj];simp
  .rw[qVC (by rw[hA];omega),hA];have ih:=pD hk hA ps (j-k) (by rw[qZK,Nat.succ_mul]at h;omega);rw[ih]
   have e1:j / k=(j-k) / k+1:=by
    have:j=(j-k)+k:=by omega
    rw[this,Nat.add_div_right _ hk];simp
   have e2:j % k=(j-k) % k:=by
    have:j=(j-k)+k:=by omega
    rw[this,Nat.add_mod_right];simp
   rw[e1,e2];congr 2;simp
def ml {encA:α->List ae}{k:Nat}(hA:∀x,(encA x).length=k)(ps:List α):(ps.map encA).flatten.length=ps.length*k:=by
 induction ps with
 |nil=>simp
 |cons p ps ih=>rw[qZW,qZA,qQM,ih,hA,qZK,Nat.succ_mul];omega
variable{P:Program}[Lay P]{K:cu}{W0:World}{ρ:Ren}{h:aa}{w:World}
def xd {encA:α->List ae}{encV:α->List Value}{k:Nat}(hk:0<k)(hA:∀x,(encA x).length=k)(hV:∀x,(encV x).length=k)(hinv:∀(ρ:Ren)(x:α)(i:Nat)(a:ae)(v':Value),(encA x)[i]?=some a->V ρ a v'->(encV x)[i]?=some v')
 (H:WR P K W0 ρ h w) {b:Nat} {r:RB} {ps:List α} {e:TypeId} (hb:h.get b=some (.cells (ps.map encA).flatten e)) (hr:ρ b=some r):HoldsK encV k w r.b r.d ps.toArray/\r.b<w.heap.size:=by
 have dL:=H.lt hb trivial hr;refine⟨?_,dL⟩;obtain⟨r',oH,_,⟨C,fz,h1,h2,h3,h4⟩,h5⟩:=H.obj b _ hb trivial;rw[hr]at oH;cases oH;intro j hj;rw[size_flatK]at hj;simp only[List.size_toArray]at hj;rw[get_flatK _ _ _ _ (by simpa using hj)];have GJ:j % k<k:=Nat.mod_lt _ hk;obtain⟨a,ha⟩:∃a,(encA (ps.toArray[j / k]!))[j % k]?=some a:=⟨_,qQW (by rw[hA];exact GJ)⟩;have hg:=pD hk hA ps j hj;obtain⟨_,v',XJ,Fe⟩:=h3 j a (hg.trans ha);have hv3:=hinv ρ _ _ _ _ ha Fe;have hC:r.d+j<C.size:=by rw[ml hA]at h2;omega
 refine⟨?_,?_⟩
 .unfold World.cell?;rw[h1];simp only[Option.isSome_none,qZJ,if_false];rw[XJ];congr 1;rw[qVN,hv3];rfl
 .unfold World.frozen?;rw[h1];have:=h5 C fz h1 (r.d+j) hC;simp;intro hh;omega
def lC {encA:α->List ae}{encV:α->List Value}{k:Nat}(hk:0<k)(hA:∀x,(encA x).length=k)(hV:∀x,(encV x).length=k)(jG:∀(ρ:Ren)(x:α)(i:Nat)(a:ae),(encA x)[i]?=some a->a.flat=true/\∃v',(encV x)[i]?=some v'/\V ρ a v')
 (H:WR P K W0 ρ h w) {b:Nat} {r:RB} {ps qs:List α} {e:TypeId} (hb:h.get b=some (.cells (ps.map encA).flatten e)) (hr:ρ b=some r) (hl:qs.length=ps.length) (n:Nat) (os:Array Obj) :
 WR P K W0 ρ (h.put b (.cells (qs.map encA).flatten e)) (sortWorldK encV k w r.b r.d n qs.toArray os):=by
 have dL:=H.lt hb trivial hr;obtain⟨r',oH,_,⟨C,fz,h1,h2,h3,h4⟩,h5⟩:=H.obj b _ hb trivial;rw[hr]at oH;cases oH;unfold sortWorldK;refine WR.grow ?_ os;have hhp:(putRowK encV k (Sort.ahead w n) r.b r.d qs.toArray).heap=w.heap.modify r.b (Go.Sort.onCells (putCells id r.d (flatK encV k qs.toArray))):=rfl;refine WR.put (w:=Sort.ahead w n) (H.drawn (w.drawn+n) (qKL _ _)) hb trivial hr rfl rfl rfl (by rw[hhp];simp) (λc hc=>by rw[hhp,qVF];rw[if_neg (Ne.symm hc)];rfl) λ_=>?_
 have fR:(putRowK encV k (Sort.ahead w n) r.b r.d qs.toArray).heap[r.b]?=some (.cells (putCells id r.d (flatK encV k qs.toArray) C) e fz):=by
  rw[hhp,qVF,if_pos rfl,h1];rfl
 rw[fR];have iq:(putCells id r.d (flatK encV k qs.toArray) C).size=C.size:=by simp[putCells]
 refine⟨⟨_,fz,rfl,by rw[iq,ml hA,hl,<-ml hA ps];exact h2,λi v hi=>?_,λz x hz=>by rw[iq];exact h4 z x hz⟩,λC' fz' hC x hx=>by cases hC;rw[iq]at hx;exact h5 C fz h1 x hx⟩;have Oh:i<qs.length*k:=by rw[<-ml hA];exact(qQZ.1 hi).1
 rw[pD hk hA qs i Oh]at hi;obtain⟨f1,v',f2,f3⟩:=jG ρ _ _ _ hi;refine⟨f1,v',?_,f3⟩;have hC:r.d+i<C.size:=by rw[ml hA]at h2;rw[hl] at Oh;omega
 unfold putCells;rw[Array.getElem?_mapIdx,qJG hC];simp only[qWB,size_flatK,List.size_toArray];rw[if_pos ⟨by omega,by omega⟩];congr 1;rw[show r.d+i-r.d=i by omega,get_flatK _ _ _ _ (by simpa using Oh),qVN,f2];rfl
end
def sI {α:Type}[Inhabited α]{lt:α->α->Bool}{d:List α}(h:SortedIn lt 0 d.length d.toArray):d.Pairwise λx y=>lt y x=false:=by
 rw[qVL];intro i j hi hj L4;have:=h i j (qZH _) L4 hj;simpa[hi,hj] using this
def xG {α:Type}[Inhabited α]{d d':Array α}(h:PermIn 0 d.size d d'):d'.toList.Perm d.toList/\d'.size=d.size:=by
 obtain⟨h1,_,h3⟩:=h;refine⟨?_,h1⟩;rw[qWF,qWF]at h3;simp only[qVK,List.drop_zero,Nat.sub_zero]at h3;rw[qVJ (by simp[h1]),qVJ (by simp)]at h3;exact h3
def vZ (x:Int×Int):List ae:=[.int .i64 x.1,.int .i64 x.2]
def YD (h:aa)(b c:Nat)(ex:Bool)(e:TypeId)(ps:List bL)(hb:h.get b=some (.cells (ps.map aV).flatten e))(h0:ps≠[])(hl:ps.length<=1073741824) :
 Nc Tryz.prog 53 [.slice b 0 ps.length c ex,.func 54 [] []] h λ_ h'=>∃qs:List bL,qs.Perm ps/\qs.Pairwise (λx y=>x.1<=y.1)/\h'=h.put b (.cells (qs.map aV).flatten e):=by
 refine⟨⟨Tryz.f53,Tryz.func53,by kernel_rfl,by kernel_rfl⟩,?_⟩;intro K W0 ρ w args' ha H;have DY:0<ps.length:=qVA.2 h0;obtain⟨args',rfl⟩:∃l:List Value,args'=l.toArray:=⟨args'.toList,by simp⟩;cases ha with
 |cons v1 ha =>
 cases ha with
 |cons v2 ha =>
 cases ha;rcases v1.eW with⟨r,c',hr,rfl,_⟩|⟨h1,_⟩
 rotate_left
 .omega
 obtain⟨x',y',rfl,hx,hy⟩:=v2.pG (by decide)
 have Zt:x'=#[]:=by cases kx:x'.toList with
  |nil=>exact qKE.1 kx
  |cons a l=>rw[kx]at hx;cases hx
 have ey':y'=#[]:=by cases Ov:y'.toList with
  |nil=>exact qKE.1 Ov
  |cons a l=>rw[Ov]at hy;cases hy
 subst Zt;subst ey'
 let f:bL->Int×Int:=λx=>((x.1:Int),x.2)
 have hm:ps.map aV=(ps.map f).map vZ:=by rw[qKJ];rfl
 rw[hm]at hb
 have hinv:∀(ρ:Ren)(x:Int×Int)(i:Nat)(a:ae)(v':Value),(vZ x)[i]?=some a->V ρ a v'->(BU x)[i]?=some v':=by
  intro ρ x i a v' hi hv
  match i,hi with
  |0,hi=>cases hi;rw[hv.eZ];rfl
  |1,hi=>cases hi;rw[hv.eZ];rfl
  |i+2,hi=>simp[vZ]at hi
 have jG:∀(ρ:Ren)(x:Int×Int)(i:Nat)(a:ae),(vZ x)[i]?=some a->a.flat=true/\∃v',(BU x)[i]?=some v'/\V ρ a v':=by
  intro ρ x i a hi
  match i,hi with
  |0,hi=>cases hi;exact⟨rfl,_,rfl,.int _ _⟩
  |1,hi=>cases hi;exact⟨rfl,_,rfl,.int _ _⟩
  |i+2,hi=>simp[vZ]at hi
 obtain⟨hH,hblk⟩:=xd (encA:=vZ) (encV:=BU) (k:=2) (by decide) (λ_=>rfl) (λ_=>rfl) hinv H hb hr;have hc:=Ib r.b r.d c' (ps.map f).toArray w hH hblk (by simp;omega);have iq:(ps.map f).toArray.size=ps.length:=by simp
 rw[iq]at hc;rw[qWQ];refine hc.mono ?_;rintro en w' ⟨rfl,d',n,os,hp,hs,rfl⟩;rw[<-iq]at hp hs;obtain⟨p1,p2⟩:=xG hp;rw[<-p2]at hs;have qx:=sI (d:=d'.toList) (by simpa using hs)
 let g:Int×Int->bL:=λx=>(x.1.toNat,x.2)
 have hgf:∀l:List bL,(l.map f).map g=l:=λl=>by
  rw[qKJ]
  conv=>rhs;rw[<-List.map_id l]
  apply qJH;rintro⟨a,b⟩ _;simp[f,g]
 have hfg:(d'.toList.map g).map f=d'.toList:=by
  rw[qKJ]
  conv=>rhs;rw[<-List.map_id d'.toList]
  apply qJH;intro x hx;have:=p1.mem_iff.1 hx;obtain⟨y,_,rfl⟩:=qQB.1 (show x∈ps.map f by simpa using this);simp[f,g]
 refine⟨.eC [],h.put b (.cells (d'.toList.map vZ).flatten e),⟨d'.toList.map g,?_,?_,?_⟩,.tuple #[],ρ,rfl,Ren.le_refl _,.eC .nil,?_⟩
 .have:=p1.map g;rw[show((ps.map f).toArray.toList).map g=ps by rw[show(ps.map f).toArray.toList=ps.map f by simp];exact hgf ps]at this;exact this
 .rw[qKB];refine qx.imp λ{x y} lH=>?_;rw[ltP]at lH;simp only[decide_eq_false_iff_not]at lH;show x.1.toNat<=y.1.toNat;omega
 .have:(d'.toList.map g).map aV=d'.toList.map vZ:=by
   conv=>rhs;rw[<-hfg]
   rw[qKJ (f:=f)];rfl
  rw[this]
 .have Ad:d'.toList.length=(ps.map f).length:=by simpa using p2
  have:=lC (encA:=vZ) (encV:=BU) (k:=2) (by decide) (λ_=>rfl) (λ_=>rfl) jG H hb hr Ad n os;simpa using this
def fH.of {n:Int}{l:List dH}(h:∀j,j<l.length->QQ n l j):fH n l:=λj x hx=>h j (qQZ.1 hx).1 x hx
def gK.of {n:Int}{l:List jU}(h:∀j,j<l.length->Sp n l j):gK n l:=λj x hx=>h j (qQZ.1 hx).1 x hx
def Mk {h:aa}{c:List ae}{e:TypeId}{o:aE}{i:Nat}:aN ((h.push (.cells c e)).push o) h.next i=c[i]?:=by rw[bt (by simp[aa.bI]),aH]
def Rr {Qn Qr:Fr->aa->Prop}{Qx:Nat->Fr->aa->Prop}(A:aY)(p:Nat)(va:ae)(fr:Fr)(h:aa)(hp:p<h.next)(hn:aN h p 0=some (.int .i64 A.n))(h1:aN h p 1=some va)(hv:eS h va A.aW)(hl:A.aW.length<=9223372036854775807)
 (t1:fr.get 1=some (.ptr p 0)) (t26:fr.get 26=some va) (t27:fr.get 27=some (.int .i64 (A.aW.length:Int))) (t28:fr.get 28=some (.int .i64 0))
 (hq:∀fr h',aU h h'->fr.get 1=some (.ptr p 0)->fH A.n A.aW->Qx 0 fr h') (hr:∀fr h',aU h h'->fr.get 2=some (.int .i64 1)->¬fH A.n A.aW->Qr fr h'):wp E2 (.loop wN) fr h Qn Qx Qr:=by
 refine fg (λd fr h'=>aU h h'/\fr.get 1=some (.ptr p 0)/\fr.get 26=some va/\fr.get 27=some (.int .i64 (A.aW.length:Int))/\∃i:Nat,fr.get 28=some (.int .i64 (i:Int))/\d+i=A.aW.length/\∀j,j<i->QQ A.n A.aW j) A.aW.length ?_ ?_
 .exact⟨aU.refl h,t1,t26,t27,0,t28,by omega,λj hj=>by omega⟩
 clear t1 t26 t27 t28;rintro d fr h' ⟨hle,t1,t26,t27,i,t28,hd,kN⟩;have hn:=(hle.aN hp 0).trans hn;have h1:=(hle.aN hp 1).trans h1;have hv:=hv.mono hle;have jz:=hle.next;unfold wN;by_cases hc:(i:Int)<(A.aW.length:Int)
 .obtain⟨x,hx⟩:∃x,A.aW[i]?=some x:=⟨_,qQW (by omega)⟩;obtain⟨b,o,di,fU⟩:=hv.ix hx;have fU:=fU .i64 (i:Int) h'
  have rA:eI h' b o 4=some (aX x):=by
   have:=di.eI (i:=0) (n:=4) (by simp[aX]);simpa[aX] using this
  have mO:¬kY A.n x->¬fH A.n A.aW:=λhb hA=>hb (hA i x hx).1;have aS:aU h (h'.push (.cells (aX x) 52)):=hle.push _;have q0:aN (h'.push (.cells (aX x) 52)) h'.next 0=some (.int .i64 x.fr):=by rw[aH];rfl
  have q1:aN (h'.push (.cells (aX x) 52)) h'.next 1=some (.int .i64 x.to):=by rw[aH];rfl
  have q2:aN (h'.push (.cells (aX x) 52)) h'.next 2=some (.int .u8 (x.l:Int)):=by rw[aH];rfl
  have q3:aN (h'.push (.cells (aX x) 52)) h'.next 3=some (.int .i64 x.c):=by rw[aH];rfl
  have qn:eI (h'.push (.cells (aX x) 52)) h'.next 0 4=some (aX x):=by rw[ir _ _ _ (by simp[aX])];rfl
  have r0:aN (h'.push (.cells (aX x) 52)) p 0=some (.int .i64 A.n):=by rw[bt (by omega)];exact hn
  have r1:aN (h'.push (.cells (aX x) 52)) p 1=some va:=by rw[bt (by omega)];exact h1
  have ib:over [ae.int .i64 0,.int .i64 0,.int .u8 0,.int .i64 0] 0 (aX x)=aX x:=rfl;have jX:(aX x).length=4:=rfl;have hvv:eS (h'.push (.cells (aX x) 52)) va A.aW:=hv.mono ((aU.refl h').push _);have CK:(h'.push (.cells (aX x) 52)).next=h'.next+1:=rfl;have e4:(aX x).length<=[ae.int .i64 0,.int .i64 0,.int .u8 0,.int .i64 0].length:=qQY _;by_cases c1:x.fr<0
  .simp only[go_sem,Nat.reduceEqDiff,Nat.reduceAdd,reduceCtorEq,t26,t27,t28,hc,fU _ rfl,rA,ib,jX,q0,c1];exact hr _ _ aS (by simp[T.ag]) (mO λ⟨a,_⟩=>by omega)
  by_cases c2:x.fr<x.to
  rotate_left
  .simp only[go_sem,Nat.reduceEqDiff,Nat.reduceAdd,reduceCtorEq,t26,t27,t28,hc,fU _ rfl,rA,ib,jX,q0,q1,c1,c2];exact hr _ _ aS (by simp[T.ag]) (mO λ⟨_,a,_⟩=>by omega)
  by_cases c3:x.to<A.n
  rotate_left
  .simp only[go_sem,Nat.reduceEqDiff,Nat.reduceAdd,reduceCtorEq,t1,t26,t27,t28,hc,fU _ rfl,rA,ib,jX,q0,q1,r0,c1,c2,c3];exact hr _ _ aS (by simp[T.ag]) (mO λ⟨_,_,a,_⟩=>by omega)
  simp only[go_sem,Nat.reduceEqDiff,Nat.reduceAdd,t1,t26,t27,t28,hc,fU _ rfl,rA,ib,jX,q0,q1,q2,r0,c1,c2,c3];refine⟨by decide,?_⟩;refine(Kc x.l _).mono ?_;rintro r h2 ⟨rfl,rfl⟩;by_cases c4:Ap x.l=true
  rotate_left
  .simp only[go_sem,Nat.reduceEqDiff,reduceCtorEq,c4];exact hr _ _ aS (by simp[T.ag]) (mO λ⟨_,_,_,a,_⟩=>c4 a)
  by_cases c5:x.c<0
  .simp only[go_sem,Nat.reduceEqDiff,reduceCtorEq,q3,c4,c5];exact hr _ _ aS (by simp[T.ag]) (mO λ⟨_,_,_,_,a,_⟩=>by omega)
  by_cases c6:1000000<x.c
  .simp only[go_sem,Nat.reduceEqDiff,q3,c4,c5,c6];exact hr _ _ aS (by simp[T.ag]) (mO λ⟨_,_,_,_,_,a⟩=>by omega)
  have iU:kY A.n x:=⟨by omega,c2,c3,c4,by omega,by omega⟩;have hw:IntKind.i64.wrap ((i:Int)+1)=((i+1:Nat):Int):=by rw[wrap_i64 (by omega) (by omega)];push_cast;rfl
  by_cases c7:(0:Int)<(i:Int)
  .obtain⟨y,hy⟩:∃y,A.aW[i-1]?=some y:=⟨_,qQW (by omega)⟩;obtain⟨b2,o2,An,yI⟩:=hvv.ix hy;have yI:=yI .i64 ((i:Int)-1)
   have Xy:eI (h'.push (.cells (aX x) 52)) b2 o2 4=some (aX y):=by
    have:=An.eI (i:=0) (n:=4) (by simp[aX]);simpa[aX] using this
   have CO:IntKind.i64.wrap ((i:Int)-1)=(i:Int)-1:=wrap_i64 (by omega) (by omega);simp only[go_sem,Nat.reduceEqDiff,reduceCtorEq,t1,q3,r1,c4,c5,c6,c7,CO,yI _ _ (by omega),Xy,qn];refine⟨by decide,?_⟩;refine(M9 y x _).mono ?_;rintro r h3 ⟨rfl,cQ⟩;have dP:aU h h3:=(aS.skip 13).trans cQ;have dL:=Cp y x;by_cases c8:qe y x<0
   .simp only[go_sem,Nat.reduceEqDiff,reduceCtorEq,t1,t26,t27,t28,c8,hw];refine⟨d-1,by omega,dP,i+1,rfl,by omega,λk hk=>?_⟩;by_cases e:k=i
    .subst e;intro x' qz;rw[hx]at qz;cases qz;exact⟨iU,λy' _ Ou=>by rw[hy] at Ou;cases Ou;rw[dL];simpa using c8⟩
    .exact kN k (by omega)
   .simp only[go_sem,Nat.reduceEqDiff,c8];exact hr _ _ dP (by simp[T.ag]) λhA=>by have:=(hA i x hx).2 y (by omega) hy;rw[dL]at this;simp at this;omega
  .simp only[go_sem,Nat.reduceEqDiff,reduceCtorEq,t1,t26,t27,t28,q3,c4,c5,c6,c7,hw];refine⟨d-1,by omega,(aS.skip 13),i+1,rfl,by omega,λk hk=>?_⟩;by_cases e:k=i
   .subst e;intro x' qz;rw[hx]at qz;cases qz;exact⟨iU,λy' hy0 _=>by omega⟩
   .exact kN k (by omega)
 .simp only[go_sem,reduceCtorEq,t27,t28,hc];exact hq _ _ hle (by simp[T.ag,t1]) (fH.of λj hj=>kN j (by omega))
def Rt {Qn Qr:Fr->aa->Prop}{Qx:Nat->Fr->aa->Prop}(A:aY)(p:Nat)(ve:ae)(fr:Fr)(h:aa)(hp:p<h.next)(hn:aN h p 0=some (.int .i64 A.n))(h1:aN h p 2=some ve)(hv:iO h ve A.ends)(hl:A.ends.length<=9223372036854775807)
 (t1:fr.get 1=some (.ptr p 0)) (t26:fr.get 81=some ve) (t27:fr.get 82=some (.int .i64 (A.ends.length:Int))) (t28:fr.get 83=some (.int .i64 0))
 (hq:∀fr h',aU h h'->gK A.n A.ends->Qx 2 fr h') (hr:∀fr h',aU h h'->fr.get 2=some (.int .i64 1)->¬gK A.n A.ends->Qr fr h'):wp E2 (.loop wO) fr h Qn Qx Qr:=by
 refine fg (λd fr h'=>aU h h'/\fr.get 1=some (.ptr p 0)/\fr.get 81=some ve/\fr.get 82=some (.int .i64 (A.ends.length:Int))/\∃i:Nat,fr.get 83=some (.int .i64 (i:Int))/\d+i=A.ends.length/\∀j,j<i->Sp A.n A.ends j) A.ends.length ?_ ?_
 .exact⟨aU.refl h,t1,t26,t27,0,t28,by omega,λj hj=>by omega⟩
 clear t1 t26 t27 t28;rintro d fr h' ⟨hle,t1,t26,t27,i,t28,hd,kN⟩;have hn:=(hle.aN hp 0).trans hn;have h1:=(hle.aN hp 2).trans h1;have hv:=hv.mono hle;have jz:=hle.next;unfold wO;by_cases hc:(i:Int)<(A.ends.length:Int)
 .obtain⟨x,hx⟩:∃x,A.ends[i]?=some x:=⟨_,qQW (by omega)⟩;obtain⟨b,o,di,fU⟩:=hv.ix hx;have fU:=fU .i64 (i:Int) h'
  have rA:eI h' b o 2=some (gF x):=by
   have:=di.eI (i:=0) (n:=2) (by simp[gF]);simpa[gF] using this
  have mO:¬Gk A.n x->¬gK A.n A.ends:=λhb hA=>hb (hA i x hx).1;have aS:aU h ((h'.push (.cells (gF x) 56)).skip 36):=(hle.push _).skip 36;have q0:aN (h'.push (.cells (gF x) 56)) h'.next 0=some (.int .i64 x.st):=by rw[aH];rfl
  have q1:aN (h'.push (.cells (gF x) 56)) h'.next 1=some (.int .i64 x.c):=by rw[aH];rfl
  have r0:aN (h'.push (.cells (gF x) 56)) p 0=some (.int .i64 A.n):=by rw[bt (by omega)];exact hn
  have r1:aN (h'.push (.cells (gF x) 56)) p 2=some ve:=by rw[bt (by omega)];exact h1
  have ib:over [ae.int .i64 0,.int .i64 0] 0 (gF x)=gF x:=rfl;have jX:(gF x).length=2:=rfl;have hvv:iO (h'.push (.cells (gF x) 56)) ve A.ends:=hv.mono ((aU.refl h').push _);have hw:IntKind.i64.wrap ((i:Int)+1)=((i+1:Nat):Int):=by rw[wrap_i64 (by omega) (by omega)];push_cast;rfl
  by_cases c1:x.st<0
  .simp only[go_sem,Nat.reduceEqDiff,Nat.reduceAdd,reduceCtorEq,t26,t27,t28,hc,fU _ rfl,rA,ib,jX,q0,c1];exact hr _ _ aS (by simp[T.ag]) (mO λ⟨a,_⟩=>by omega)
  by_cases c2:x.st<A.n
  rotate_left
  .simp only[go_sem,Nat.reduceEqDiff,Nat.reduceAdd,reduceCtorEq,t1,t26,t27,t28,hc,fU _ rfl,rA,ib,jX,q0,r0,c1,c2];exact hr _ _ aS (by simp[T.ag]) (mO λ⟨_,a,_⟩=>by omega)
  by_cases c5:x.c<0
  .simp only[go_sem,Nat.reduceEqDiff,Nat.reduceAdd,reduceCtorEq,t1,t26,t27,t28,hc,fU _ rfl,rA,ib,jX,q0,q1,r0,c1,c2,c5];exact hr _ _ aS (by simp[T.ag]) (mO λ⟨_,_,a,_⟩=>by omega)
  by_cases c6:1000000<x.c
  .simp only[go_sem,Nat.reduceEqDiff,Nat.reduceAdd,reduceCtorEq,t1,t26,t27,t28,hc,fU _ rfl,rA,ib,jX,q0,q1,r0,c1,c2,c5,c6];exact hr _ _ aS (by simp[T.ag]) (mO λ⟨_,_,_,a⟩=>by omega)
  have iU:Gk A.n x:=⟨by omega,c2,by omega,by omega⟩;by_cases c7:(0:Int)<(i:Int)
  .obtain⟨y,hy⟩:∃y,A.ends[i-1]?=some y:=⟨_,qQW (by omega)⟩;obtain⟨b2,o2,An,yI⟩:=hvv.ix hy;have yI:=yI .i64 ((i:Int)-1);have Xy:aN (h'.push (.cells (gF x) 56)) b2 o2=some (.int .i64 y.st):=An.aN (i:=0) rfl;have CO:IntKind.i64.wrap ((i:Int)-1)=(i:Int)-1:=wrap_i64 (by omega) (by omega);by_cases c8:y.st<x.st
   .simp only[go_sem,Nat.reduceEqDiff,Nat.reduceAdd,reduceCtorEq,t1,t26,t27,t28,hc,fU _ rfl,rA,ib,jX,q0,q1,r0,r1,c1,c2,c5,c6,c7,CO,yI _ _ (by omega),Xy,c8,hw];refine⟨d-1,by omega,aS,i+1,rfl,by omega,λk hk=>?_⟩;by_cases e:k=i
    .subst e;intro x' qz;rw[hx]at qz;cases qz;exact⟨iU,λy' _ Ou=>by rw[hy] at Ou;cases Ou;exact c8⟩
    .exact kN k (by omega)
   .simp only[go_sem,Nat.reduceEqDiff,Nat.reduceAdd,t1,t26,t27,t28,hc,fU _ rfl,rA,ib,jX,q0,q1,r0,r1,c1,c2,c5,c6,c7,CO,yI _ _ (by omega),Xy,c8];exact hr _ _ aS (by simp[T.ag]) λhA=>c8 ((hA i x hx).2 y (by omega) hy)
  .simp only[go_sem,Nat.reduceEqDiff,Nat.reduceAdd,reduceCtorEq,t1,t26,t27,t28,hc,fU _ rfl,rA,ib,jX,q0,q1,r0,c1,c2,c5,c6,c7,hw];refine⟨d-1,by omega,aS,i+1,rfl,by omega,λk hk=>?_⟩;by_cases e:k=i
   .subst e;intro x' qz;rw[hx]at qz;cases qz;exact⟨iU,λy' hy0 _=>by omega⟩
   .exact kN k (by omega)
 .simp only[go_sem,reduceCtorEq,t27,t28,hc];exact hq _ _ hle (gK.of λj hj=>kN j (by omega))
def vl (A:aY)(v:ae)(h:aa)(H:fY h v A):Ec E2 6 [v] h λr h'=>r=.int .i64 (bH A)/\aU h h':=by
 obtain⟨va,ve,rfl,ha,he,Oj,hle⟩:=H;refine Ec.bu (aI (by decide)) Na ?_;unfold Rg;have q0:aN (h.push (.cells [.int .i64 A.n,va,ve] 25)) h.next 0=some (.int .i64 A.n):=by rw[aH];rfl
 have q1:aN (h.push (.cells [.int .i64 A.n,va,ve] 25)) h.next 1=some va:=by rw[aH];rfl
 have q2:aN (h.push (.cells [.int .i64 A.n,va,ve] 25)) h.next 2=some ve:=by rw[aH];rfl
 have bh:aU h (h.push (.cells [.int .i64 A.n,va,ve] 25)):=(aU.refl h).push _;have ha1:=ha.mono bh;have he1:=he.mono bh;have nO:(h.push (.cells [.int .i64 A.n,va,ve] 25)).next=h.next+1:=rfl;by_cases c1:400<A.n
 .simp only[go_sem,Nat.reduceEqDiff,reduceCtorEq,q0,c1];exact⟨by unfold bH;rw[if_pos (.inl c1)],bh⟩
 by_cases c2:(4000:Int)<(A.aW.length:Int)
 .simp only[go_sem,Nat.reduceEqDiff,reduceCtorEq,q0,q1,c1,ha.len,c2];exact⟨by unfold bH;rw[if_pos (.inr (.inl (by omega)))],bh⟩
 by_cases c3:(400:Int)<(A.ends.length:Int)
 .simp only[go_sem,Nat.reduceEqDiff,reduceCtorEq,q0,q1,q2,c1,ha.len,c2,he.len,c3];exact⟨by unfold bH;rw[if_pos (.inr (.inr (by omega)))],bh⟩
 have hz:¬(400<A.n\/4000<A.aW.length\/400<A.ends.length):=by omega
 by_cases c4:A.n<1
 .simp only[go_sem,Nat.reduceEqDiff,reduceCtorEq,q0,q1,q2,c1,ha.len,c2,he.len,c3,c4];exact⟨by unfold bH;rw[if_neg hz,if_pos c4],bh⟩
 simp only[go_sem,Nat.reduceEqDiff,reduceCtorEq,q0,q1,q2,c1,ha.len,c2,he.len,c3,c4];refine Rr A h.next va _ _ (by omega) q0 q1 ha1 Oj (by simp[T.ag]) (by simp[T.ag]) (by simp[T.ag]) (by simp[T.ag]) ?_ ?_
 .intro fr h2 aS t1 hA;have q0:=(aS.aN (x:=h.next) (by omega) 0).trans q0;have q2:=(aS.aN (x:=h.next) (by omega) 2).trans q2;have wE:=he1.mono aS;have GK:=aS.next;simp only[go_sem,Nat.reduceEqDiff,t1,q2,wE.len];refine Rt A h.next ve _ _ (by omega) q0 q2 wE hle (by simp[T.ag,t1]) (by simp[T.ag]) (by simp[T.ag]) (by simp[T.ag]) ?_ ?_
  .intro fr h3 cQ hE;simp only[go_sem];exact⟨by unfold bH;rw[if_neg hz,if_neg c4,if_pos ⟨hA,hE⟩],(bh.trans aS).trans cQ⟩
  .intro fr h3 cQ t2 hE;simp only[go_sem,t2];exact⟨by unfold bH;rw[if_neg hz,if_neg c4,if_neg λhx=>hE hx.2],(bh.trans aS).trans cQ⟩
 .intro fr h2 aS t2 hA;simp only[go_sem,t2];exact⟨by unfold bH;rw[if_neg hz,if_neg c4,if_neg λhx=>hA hx.1],bh.trans aS⟩
def jf {E:Env}{h:aa}{fr:Fr}{a:Nat}{t:TypeId}{n b o:Nat}{l:List ae}(hg:iV E t=some true)(hs:E.size t=some n)(ha:aJ (.t a) fr=.ptr b o)(hl:eI h b o n=some l):gS E h fr (.cell a t)=some (.agg l):=by
 show(ob (iV E t) λg=>ob (E.size t) λn=>gu (aJ (.t a) fr) λb o=>eJ (h.get b) λc _ own=>aO g (aO (and (Nat.ble (Nat.add o n) (cJ c)) (yk own (bD n (bG o c)))) (some (.agg (bD n (bG o c)))) none) (ob (fW c o) λv=>aO (HG own v) (some v) none))=_;rw[hg,hs,ha];show(eJ (h.get b) λc _ own=>aO (and (Nat.ble (Nat.add o n) (cJ c)) (yk own (bD n (bG o c)))) (some (ae.agg (bD n (bG o c)))) none)=_;unfold eI at hl;cases hb:h.get b with
 |none=>rw[hb]at hl;cases hl
 |some x =>
  rw[hb]at hl;cases x<;>first|(cases hl;done)|skip
  all_goals
   rename_i c e
   first
    |(have pf:aO (and (Nat.ble (Nat.add o n) (cJ c)) (yk true (bD n (bG o c)))) (some (bD n (bG o c))) none=some l:=hl
      show aO (and (Nat.ble (Nat.add o n) (cJ c)) (yk true (bD n (bG o c)))) (some (ae.agg (bD n (bG o c)))) none=_;rw[bq]at pf ⊢;split at pf
      .cases pf;rename_i hp;rw[if_pos hp]
      .cases pf)
    |(have pf:aO (and (Nat.ble (Nat.add o n) (cJ c)) (yk false (bD n (bG o c)))) (some (bD n (bG o c))) none=some l:=hl
      show aO (and (Nat.ble (Nat.add o n) (cJ c)) (yk false (bD n (bG o c)))) (some (ae.agg (bD n (bG o c)))) none=_;rw[bq]at pf ⊢;split at pf
      .cases pf;rename_i hp;rw[if_pos hp]
      .cases pf)
def qQ {E:Env}{h:aa}{fr:Fr}{r:ResultVar}{v:ae}{k:ae->Prop}(hr:gS E h fr r=some v)(hk:k v):cR (bw E h fr [r]) k:=by
 show cR (ob (ob (gS E h fr r) λv=>some [v]) λvs=>match vs with
  |[v]=>some v
  |vs=>some (.eC vs)) k
 rw[hr];exact hk
attribute [local go_sem] iz aa.AA aa.xn aa.xm aa.uv aa.uw s9
def cp (A:aY)(i:Nat):List dH:=A.aW.filter λx=>decide (x.fr=(i:Int))
def bm (l:List jU)(i:Nat):Int:=match l.find? λx=>decide (x.st=(i:Int)) with
 |some x=>x.c
 |none=>-1
def aaz (h:aa)(v:ae)(A:aY):Prop:=∃(vo vf:ae)(rows:List ae),v=.agg [vo,vf]/\cg h 1 vo (rows.map λx=>[x])/\rows.length=A.n.toNat/\(∀(i:Nat)(x:ae),rows[i]?=some x->eS h x (cp A i)) /\
 cg h 1 vf ((List.range A.n.toNat).map λi=>[.int .i64 (bm A.ends i)])
def Mw {Qn Qr:Fr->aa->Prop}{Qx:Nat->Fr->aa->Prop}(n b2 b3:Nat)(vo va p1 p2:ae)(fr:Fr)(h:aa)(hb:b2≠b3)(hn:n<=400)(g3:h.get b3=some (.cells [vo,.slice b2 0 n n true] 68))(g2:h.get b2=some (.cells (List.replicate n (.int .i64 0)) 3))
 (t1:fr.get 1=some p1) (t2:fr.get 2=some p2) (t3:fr.get 3=some (.ptr b3 0)) (t18:fr.get 18=some (.int .i64 (n:Int))) (t19:fr.get 19=some (.int .i64 0))
 (hq:∀fr h',fr.get 1=some p1->fr.get 2=some p2->fr.get 3=some (.ptr b3 0)->h'.next=h.next->(∀c,c≠b2->h'.get c=h.get c)->h'.get b2=some (.cells (List.replicate n (.int .i64 (-1))) 3)->Qx 0 fr h'):wp E2 (.loop zL) fr h Qn Qx Qr:=by
 refine fg (λd fr h'=>h'.next=h.next/\(∀c,c≠b2->h'.get c=h.get c)/\fr.get 1=some p1/\fr.get 2=some p2/\fr.get 3=some (.ptr b3 0)/\fr.get 18=some (.int .i64 (n:Int))/\∃i:Nat,fr.get 19=some (.int .i64 (i:Int))/\d+i=n/\h'.get b2=some (.cells (List.replicate i (.int .i64 (-1))++List.replicate (n-i) (.int .i64 0)) 3)) n ?_ ?_
 .exact⟨rfl,λ_ _=>rfl,t1,t2,t3,t18,0,t19,by omega,by simpa using g2⟩
 clear t1 t2 t3 t18 t19;rintro d fr h' ⟨nO,hg,t1,t2,t3,t18,i,t19,hd,gb⟩;have hl:aN h' b3 1=some (.slice b2 0 n n true):=by rw[aq ((hg b3 (Ne.symm hb)).trans g3)];rfl
 unfold zL;by_cases hc:(i:Int)<(n:Int)
 .have hw:IntKind.i64.wrap ((i:Int)+1)=((i+1:Nat):Int):=by rw[wrap_i64 (by omega) (by omega)];push_cast;rfl
  have cS:=aD (o:=i) (n:=1) (vs:=[.int .i64 (-1)]) gb rfl (by simp;omega);rw[bW]at cS;simp only[go_sem,Nat.reduceEqDiff,t1,t2,t3,t18,t19,hc,hl,dj (n:=n) (j:=i) rfl (by omega),cS,hw,Nat.mul_one];refine⟨d-1,by omega,rfl.trans nO,λc BX=>by rw[aa.ah _ _ (Ne.symm BX)];exact hg c BX,i+1,rfl,by omega,?_⟩;rw[aa.aj];congr 2;rw[List.set_append_right _ _ (by simp),List.length_replicate,Nat.sub_self,List.replicate_succ'];obtain⟨m,hm⟩:∃m,n-i=m+1:=⟨n-i-1,by omega⟩;rw[hm,qVB,show n-(i+1)=m by omega];simp
 .obtain rfl:i=n:=by omega
  simp only[go_sem,reduceCtorEq,t18,t19,hc];exact hq _ _ (by simp[T.ag,t1]) (by simp[T.ag,t2]) (by simp[T.ag,t3]) nO hg (by simpa using gb)
def gw (A:aY)(n k:Nat):List (List dH):=(List.range n).map λ(i:Nat)=>(A.aW.take k).filter λx=>decide (x.fr=(i:Int))
def Mx {Qn Qr:Fr->aa->Prop}{Qx:Nat->Fr->aa->Prop}(A:aY)(n b1 b3:Nat)(vf va p1 p2:ae)(fr:Fr)(h:aa)(hb:b1≠b3)(DQ:b1<h.next)(yE:b3<h.next)(hn:n<=400)(Zy:A.n=(n:Int))(hP:fH A.n A.aW)(Xx:A.aW.length<=4000){h0:aa}(lu:aU h0 h)(hv:eS h0 va A.aW)(Xk:h0.next<=b1)
 (g3:h.get b3=some (.cells [.slice b1 0 n n true,vf] 68)) (g1:h.get b1=some (.cells (List.replicate n .af) 22))
 (t1:fr.get 1=some p1) (t2:fr.get 2=some p2) (t3:fr.get 3=some (.ptr b3 0)) (t28:fr.get 28=some va) (t29:fr.get 29=some (.int .i64 (A.aW.length:Int))) (t30:fr.get 30=some (.int .i64 0))
 (hq:∀fr h' vs,fr.get 1=some p1->fr.get 2=some p2->fr.get 3=some (.ptr b3 0)->h.next<=h'.next->(∀c,c<h.next->c≠b1->h'.get c=h.get c)->h'.get b1=some (.cells vs 22)->iC 4 52 aX h.next h' vs (gw A n A.aW.length)->Qx 2 fr h'):wp E2 (.loop zM) fr h Qn Qx Qr:=by
 refine fg (λd fr h'=>h.next<=h'.next/\(∀c,c<h.next->c≠b1->h'.get c=h.get c)/\fr.get 1=some p1/\fr.get 2=some p2/\fr.get 3=some (.ptr b3 0)/\fr.get 28=some va/\fr.get 29=some (.int .i64 (A.aW.length:Int))/\∃(k:Nat)(vs:List ae),fr.get 30=some (.int .i64 (k:Int))/\d+k=A.aW.length/\h'.get b1=some (.cells vs 22)/\iC 4 52 aX h.next h' vs (gw A n k)) A.aW.length ?_ ?_
 .refine⟨qQY _,λ_ _ _=>rfl,t1,t2,t3,t28,t29,0,_,t30,by omega,g1,?_⟩;have:gw A n 0=List.replicate n []:=by unfold gw;simp[List.map_const']
  rw[this];exact iC.replicate n
 clear t1 t2 t3 t28 t29 t30;rintro d fr h' ⟨nO,hg,t1,t2,t3,t28,t29,k,vs,t30,hd,gb,hR⟩;have iN:aU h0 h':=⟨by have:=lu.next;omega,λc hc=>(hg c (by have:=lu.next;omega) (by omega)).trans (lu.get c hc)⟩;have tM:eS h' va A.aW:=hv.mono iN;have hl3:aN h' b3 0=some (.slice b1 0 n n true):=by rw[aq ((hg b3 yE (Ne.symm hb)).trans g3)];rfl
 unfold zM;by_cases hc:(k:Int)<(A.aW.length:Int)
 .obtain⟨x,hx⟩:∃x,A.aW[k]?=some x:=⟨_,qQW (by omega)⟩;obtain⟨b,o,di,fU⟩:=tM.ix hx;have fU:=fU .i64 (k:Int) h'
  have rA:eI h' b o 4=some (aX x):=by
   have:=di.eI (i:=0) (n:=4) (by simp[aX]);simpa[aX] using this
  obtain⟨o1,o2,o3,o4,o5,o6⟩:=(hP k x hx).1;obtain⟨j,hj⟩:∃j:Nat,x.fr=(j:Int):=⟨x.fr.toNat,by omega⟩;have hjn:j<n:=by omega
  have D3:vs.length=n:=by rw[hR.len];simp[gw]
  obtain⟨v,Z8⟩:∃v,vs[j]?=some v:=⟨_,qQW (by omega)⟩;have q0:aN (h'.push (.cells (aX x) 52)) h'.next 0=some (.int .i64 (j:Int)):=by rw[aH,<-hj];rfl
  have qn:eI (h'.push (.cells (aX x) 52)) h'.next 0 4=some (aX x):=by rw[ir _ _ _ (by simp[aX])];rfl
  have r3:aN (h'.push (.cells (aX x) 52)) b3 0=some (.slice b1 0 n n true):=by rw[bt (by omega)];exact hl3
  have rv:aN (h'.push (.cells (aX x) 52)) b1 j=some v:=by rw[bt (by omega),aq gb];exact Z8
  have ib:over [ae.int .i64 0,.int .i64 0,.int .u8 0,.int .i64 0] 0 (aX x)=aX x:=rfl;have jX:(aX x).length=4:=rfl;have hw:IntKind.i64.wrap ((k:Int)+1)=((k+1:Nat):Int):=by rw[wrap_i64 (by omega) (by omega)];push_cast;rfl
  simp only[go_sem,Nat.reduceEqDiff,Nat.reduceAdd,t3,t28,t29,t30,hc,fU _ rfl,rA,ib,jX,q0,qn,r3,rv,dj (n:=n) (j:=j) rfl hjn,Nat.mul_one];have ie:=λc hc=>hR.low j v c Z8 hc;have GP:og (aX x) [ae.int .i64 0,.int .i64 0,.int .u8 0,.int .i64 0]=aX x:=rfl;rw[GP];have hgl:∀c,c<h'.next+1->(aa.put ⟨h'.next+1+15,((h'.push (.cells (aX x) 52)).skip 15).t⟩ (h'.next+1+11) (.cells (aX x) 52)).get c=(h'.push (.cells (aX x) 52)).get c:=λc kM=>aa.ah _ _ (by omega);have hz:(aa.put ⟨h'.next+1+15,((h'.push (.cells (aX x) 52)).skip 15).t⟩ (h'.next+1+11) (.cells (aX x) 52)).get (h'.next+1+11)=some (.cells (aX x) 52):=aa.aj _ _ _;have hzn:(aa.put ⟨h'.next+1+15,((h'.push (.cells (aX x) 52)).skip 15).t⟩ (h'.next+1+11) (.cells (aX x) 52)).next=h'.next+16:=rfl;generalize aa.put ⟨h'.next+1+15,((h'.push (.cells (aX x) 52)).skip 15).t⟩ (h'.next+1+11) (.cells (aX x) 52)=h2 at hgl hz hzn ⊢;have wZ:∀c,c<h'.next->h2.get c=h'.get c:=λc kM=>(hgl c (by omega)).trans (aa.aA _ _ (by omega));have hR2:=hR.frame (h':=h2) (by omega) λc _ kM _=>wZ c kM;have di:∃l,(gw A n k)[j]?=some l/\l=(A.aW.take k).filter λx=>decide (x.fr=(j:Int)):=⟨_,by unfold gw;rw[qQX,qJY hjn];rfl,rfl⟩;obtain⟨l,hlj,agj⟩:=di;have ZP:l.length<=A.aW.length:=by rw[agj];exact qZC (qVV _ _) (by simp;omega)
  have tu:(DK aX l).length=l.length*4:=by
   have:=eH (xs:=l.map aX) (size:=4) (λy hy=>by obtain⟨a,_,rfl⟩:=qQB.1 hy;rfl);simpa[DK] using this
  have qu:cg h2 4 (.slice (h'.next+1+11) 0 1 1 true) [aX x]:=⟨by simp[aX],.inr ⟨_,_,_,_,rfl,.inr (by simpa using fP.ed (e:=52) (by omega) hz (by simp[aX,ae.flat]))⟩⟩;refine hR2.app (by omega) Z8 hlj (a:=x) (by have:=fG qu (List.cons_ne_nil _ _);rw[qZA,List.flatten_nil,qWA]at this;exact this) rfl (by omega) (by omega) ?_;intro v' h3 hR3 ic uQ lZ;have s1:aN h3 h'.next 0=some (.int .i64 (j:Int)):=by rw[cG (lZ _ (by omega) λhb=>by have:=(ie _ hb).2;omega),cG (hgl _ (by omega))];exact q0
  have s2:aN h3 b3 0=some (.slice b1 0 n n true):=by rw[cG (lZ _ (by omega) λhb=>by have:=(ie _ hb).1;omega),cG (hgl _ (by omega))];exact r3
  have gb3:h3.get b1=some (.cells vs 22):=(lZ _ (by omega) λhb=>by have:=(ie _ hb).1;omega).trans ((wZ b1 (by omega)).trans gb);have cS:=aD (o:=j) (n:=1) (vs:=[v']) gb3 rfl (by show j+1<=vs.length;omega);rw[bW]at cS;simp only[go_sem,Nat.reduceEqDiff,t1,t2,t3,t28,t29,t30,s1,s2,dJ,sG,dj (n:=n) (j:=j) rfl hjn,Nat.mul_one,bM ic,cS,hw];refine⟨d-1,by omega,by show h.next<=h3.next;omega,λc kM BX=>?_,k+1,vs.set j v',rfl,by omega,aa.aj _ _ _,?_⟩
  .rw[aa.ah _ _ (Ne.symm BX),lZ c (by omega) λhb=>by have:=(ie _ hb).1;omega];exact(wZ c (by omega)).trans (hg c kM BX)
  .have e:gw A n (k+1)=(gw A n k).set j (l++[x]):=by
    apply qJF;intro i;rw[qJB];unfold gw;rw[qQX,qQX,qQD,qKA];by_cases hin:i<n
    .rw[qJY hin];have ht:A.aW.take (k+1)=A.aW.take k++[x]:=by rw[qJM,hx];rfl
     simp only[qWB,ht,List.filter_append];by_cases L4:j=i
     .subst L4;rw[if_pos rfl,if_pos hjn,agj];simp[hj]
     .rw[if_neg L4];have:¬x.fr=(i:Int):=by omega
      simp[this]
    .rw[qJL (by simp;omega)];by_cases L4:j=i
     .omega
     .rw[if_neg L4];rfl
   rw[e];exact hR3.frame (by simp[aa.eT]) λc kM _ _=>aa.ah _ _ (by omega)
 .obtain rfl:k=A.aW.length:=by omega
  simp only[go_sem,reduceCtorEq,t29,t30,hc];exact hq _ _ vs (by simp[T.ag,t1]) (by simp[T.ag,t2]) (by simp[T.ag,t3]) nO hg gb hR
def dZ (A:aY)(n k:Nat):List ae:=(List.range n).map λ(i:Nat)=>.int .i64 (bm (A.ends.take k) i)
def JC {l:List jU}{x:jU}{j:Nat}(hx:x.st=(j:Int))(hl:∀y,y∈l->y.st<x.st)(i:Nat):bm (l++[x]) i=if j=i then x.c else bm l i:=by
 unfold bm;by_cases e:j=i
 .subst e;rw[if_pos rfl,qWD]
  have:l.find? (λy=>decide (y.st=(j:Int)))=none:=by
   rw[qXQ];intro y hy;have:=hl y hy;simp;omega
  rw[this];simp[hx]
 .rw[if_neg e,qWD]
  have:[x].find? (λy=>decide (y.st=(i:Int)))=none:=by
   rw[qXQ];intro y hy;simp at hy;subst hy;simp;omega
  rw[this];cases l.find? (λy=>decide (y.st=(i:Int)))<;>rfl
def gK.lt {n:Int}{l:List jU}(H:gK n l):∀(k j:Nat)(x y:jU),l[k]?=some x->l[j]?=some y->j<k->y.st<x.st:=by
 intro k
 induction k with
 |zero=>intro j x y _ _ h;omega
 |succ k ih =>
  intro j x y hx hy hj;have hk:=(qQZ.1 hx).1;obtain⟨z,hz⟩:∃z,l[k]?=some z:=⟨_,qQW (by omega)⟩;have h1:=(H (k+1) x hx).2 z (by omega) hz;by_cases e:j=k
  .subst e;rw[hz]at hy;cases hy;exact h1
  .have:=ih j z y hz hy (by omega);omega
def My {Qn Qr:Fr->aa->Prop}{Qx:Nat->Fr->aa->Prop}(A:aY)(n b2 b3:Nat)(vo ve p1 p2:ae)(fr:Fr)(h:aa)(hb:b2≠b3)(wX:b2<h.next)(yE:b3<h.next)(hn:n<=400)(Zy:A.n=(n:Int))(hP:gK A.n A.ends)(Xx:A.ends.length<=400){h0:aa}(lu:aU h0 h)(hv:iO h0 ve A.ends)(Xk:h0.next<=b2)
 (g3:h.get b3=some (.cells [vo,.slice b2 0 n n true] 68)) (g2:h.get b2=some (.cells (List.replicate n (.int .i64 (-1))) 3))
 (t1:fr.get 1=some p1) (t2:fr.get 2=some p2) (t3:fr.get 3=some (.ptr b3 0)) (t50:fr.get 50=some ve) (t51:fr.get 51=some (.int .i64 (A.ends.length:Int))) (t52:fr.get 52=some (.int .i64 0))
 (hq:∀fr h',fr.get 2=some p2->fr.get 3=some (.ptr b3 0)->h.next<=h'.next->(∀c,c<h.next->c≠b2->h'.get c=h.get c)->h'.get b2=some (.cells (dZ A n A.ends.length) 3)->Qx 4 fr h'):wp E2 (.loop zO) fr h Qn Qx Qr:=by
 refine fg (λd fr h'=>h.next<=h'.next/\(∀c,c<h.next->c≠b2->h'.get c=h.get c)/\fr.get 1=some p1/\fr.get 2=some p2/\fr.get 3=some (.ptr b3 0)/\fr.get 50=some ve/\fr.get 51=some (.int .i64 (A.ends.length:Int))/\∃(k:Nat),fr.get 52=some (.int .i64 (k:Int))/\d+k=A.ends.length/\h'.get b2=some (.cells (dZ A n k) 3)) A.ends.length ?_ ?_
 .refine⟨qQY _,λ_ _ _=>rfl,t1,t2,t3,t50,t51,0,t52,by omega,?_⟩;have:dZ A n 0=List.replicate n (.int .i64 (-1)):=by unfold dZ bm;simp[List.map_const']
  rw[this];exact g2
 clear t1 t2 t3 t50 t51 t52;rintro d fr h' ⟨nO,hg,t1,t2,t3,t50,t51,k,t52,hd,gb⟩;have iN:aU h0 h':=⟨by have:=lu.next;omega,λc hc=>(hg c (by have:=lu.next;omega) (by omega)).trans (lu.get c hc)⟩;have tM:iO h' ve A.ends:=hv.mono iN;have hl3:aN h' b3 1=some (.slice b2 0 n n true):=by rw[aq ((hg b3 yE (Ne.symm hb)).trans g3)];rfl
 unfold zO;by_cases hc:(k:Int)<(A.ends.length:Int)
 .obtain⟨x,hx⟩:∃x,A.ends[k]?=some x:=⟨_,qQW (by omega)⟩;obtain⟨b,o,di,fU⟩:=tM.ix hx;have fU:=fU .i64 (k:Int) h'
  have rA:eI h' b o 2=some (gF x):=by
   have:=di.eI (i:=0) (n:=2) (by simp[gF]);simpa[gF] using this
  obtain⟨o1,o2,o3,o4⟩:=(hP k x hx).1;obtain⟨j,hj⟩:∃j:Nat,x.st=(j:Int):=⟨x.st.toNat,by omega⟩;have hjn:j<n:=by omega
  have q0:aN (h'.push (.cells (gF x) 56)) h'.next 0=some (.int .i64 (j:Int)):=by rw[aH,<-hj];rfl
  have q1:aN (h'.push (.cells (gF x) 56)) h'.next 1=some (.int .i64 x.c):=by rw[aH];rfl
  have r3:aN (h'.push (.cells (gF x) 56)) b3 1=some (.slice b2 0 n n true):=by rw[bt (by omega)];exact hl3
  have ib:over [ae.int .i64 0,.int .i64 0] 0 (gF x)=gF x:=rfl;have jX:(gF x).length=2:=rfl;have gb3:(h'.push (.cells (gF x) 56)).get b2=some (.cells (dZ A n k) 3):=by rw[aa.aA _ _ (by omega)];exact gb
  have cS:=aD (o:=j) (n:=1) (vs:=[.int .i64 x.c]) gb3 rfl (by show j+1<=(dZ A n k).length;unfold dZ;rw[qQD,qKA];omega);rw[bW]at cS;have hw:IntKind.i64.wrap ((k:Int)+1)=((k+1:Nat):Int):=by rw[wrap_i64 (by omega) (by omega)];push_cast;rfl
  simp only[go_sem,Nat.reduceEqDiff,Nat.reduceAdd,t1,t2,t3,t50,t51,t52,hc,fU _ rfl,rA,ib,jX,q0,q1,r3,dj (n:=n) (j:=j) rfl hjn,Nat.mul_one,cS,hw];refine⟨d-1,by omega,by show h.next<=h'.next+1;omega,λc kM BX=>?_,k+1,rfl,by omega,?_⟩
  .rw[aa.ah _ _ (Ne.symm BX),aa.aA _ _ (by omega)];exact hg c kM BX
  .rw[aa.aj];congr 2;have ht:A.ends.take (k+1)=A.ends.take k++[x]:=by rw[qJM,hx];rfl
   have dL:∀y,y∈A.ends.take k->y.st<x.st:=by
    intro y hy;obtain⟨i,hi⟩:=qQL.1 hy;rw[qVW]at hi;split at hi
    .exact hP.lt k i x y hx hi (by omega)
    .cases hi
   apply qJF;intro i;rw[qJB];unfold dZ;rw[qQX,qQX,qQD,qKA,ht];by_cases hin:i<n
   .rw[qJY hin];simp only[qWB];rw[JC hj dL i];by_cases L4:j=i
    .rw[if_pos L4,if_pos (by omega),if_pos L4]
    .rw[if_neg L4,if_neg L4]
   .rw[qJL (by simp;omega)];by_cases L4:j=i
    .omega
    .rw[if_neg L4];rfl
 .obtain rfl:k=A.ends.length:=by omega
  simp only[go_sem,reduceCtorEq,t51,t52,hc];exact hq _ _ (by simp[T.ag,t2]) (by simp[T.ag,t3]) nO hg gb
def Co:iV E2 68=some true:=by kernel_rfl
def Bo:E2.size 68=some 2:=by kernel_rfl
def acX (A:aY)(v:ae)(h:aa)(H:fY h v A)(hA:bH A=0):Ec E2 21 [v] h λr h'=>aaz h' r A/\aU h h':=by
 obtain⟨va,ve,rfl,ha,he,Oj,GH⟩:=H;refine Ec.bu (aI (by decide)) FV ?_;unfold RS;have hz:¬(400<A.n\/4000<A.aW.length\/400<A.ends.length):=λhz=>by unfold bH at hA;rw[if_pos hz]at hA;cases hA
 have yK:¬A.n<1:=λhc=>by unfold bH at hA;rw[if_neg hz,if_pos hc]at hA;cases hA
 have hP:fH A.n A.aW/\gK A.n A.ends:=by
  by_cases e:fH A.n A.aW/\gK A.n A.ends
  .exact e
  .unfold bH at hA;rw[if_neg hz,if_neg yK,if_neg e]at hA;cases hA
 obtain⟨n,hn⟩:∃n:Nat,A.n=(n:Int):=⟨A.n.toNat,by omega⟩;simp only[go_sem,Nat.reduceEqDiff,reduceCtorEq];have q0:aN ((h.push (.cells [.int .i64 A.n,va,ve] 25)).push (.cells [.af,.af] 68)) h.next 0=some (.int .i64 A.n):=by rw[Mk];rfl
 have g1:((h.push (.cells [.int .i64 A.n,va,ve] 25)).push (.cells [.af,.af] 68)).get h.next=some (.cells [.int .i64 A.n,va,ve] 25):=by rw[aa.aA _ _ (by simp[aa.bI]),aa.ai]
 have g2:((h.push (.cells [.int .i64 A.n,va,ve] 25)).push (.cells [.af,.af] 68)).get (h.next+1)=some (.cells [.af,.af] 68):=aa.ai _ _;have bh:aU h ((h.push (.cells [.int .i64 A.n,va,ve] 25)).push (.cells [.af,.af] 68)):=((aU.refl h).push _).push _;have nO:((h.push (.cells [.int .i64 A.n,va,ve] 25)).push (.cells [.af,.af] 68)).next=h.next+2:=rfl;generalize (h.push (.cells [.int .i64 A.n,va,ve] 25)).push (.cells [.af,.af] 68)=h1 at q0 g1 g2 bh nO ⊢;simp only[go_sem,Nat.reduceEqDiff,Nat.reduceAdd,Nat.reduceLeDiff,reduceCtorEq,q0,oO hn (show n*24<=1073741824 by omega) (by omega),oO hn (show n*8<=1073741824 by omega) (by omega),jl];generalize e1:h.next+1+1+2=b1;generalize e2:h.next+1+1+5=b2;generalize e3:h.next+1+1+7=b3
 have G1:((((h1.skip 9).put b1 (.cells (List.replicate n .af) 22)).put b2 (.cells (List.replicate n (.int .i64 0)) 3)).put b3 (.cells [.slice b1 0 n n true,.slice b2 0 n n true] 68)).get b1=some (.cells (List.replicate n .af) 22):=by
  rw[aa.ah _ _ (by omega),aa.ah _ _ (by omega),aa.aj]
 have G2:((((h1.skip 9).put b1 (.cells (List.replicate n .af) 22)).put b2 (.cells (List.replicate n (.int .i64 0)) 3)).put b3 (.cells [.slice b1 0 n n true,.slice b2 0 n n true] 68)).get b2=some (.cells (List.replicate n (.int .i64 0)) 3):=by
  rw[aa.ah _ _ (by omega),aa.aj]
 have G3:((((h1.skip 9).put b1 (.cells (List.replicate n .af) 22)).put b2 (.cells (List.replicate n (.int .i64 0)) 3)).put b3 (.cells [.slice b1 0 n n true,.slice b2 0 n n true] 68)).get b3=some (.cells [.slice b1 0 n n true,.slice b2 0 n n true] 68):=aa.aj _ _ _
 have Gl:∀c,c<h.next+2->((((h1.skip 9).put b1 (.cells (List.replicate n .af) 22)).put b2 (.cells (List.replicate n (.int .i64 0)) 3)).put b3 (.cells [.slice b1 0 n n true,.slice b2 0 n n true] 68)).get c=h1.get c:=λc hc=>by
  rw[aa.ah _ _ (by omega),aa.ah _ _ (by omega),aa.ah _ _ (by omega)];rfl
 have Gn:((((h1.skip 9).put b1 (.cells (List.replicate n .af) 22)).put b2 (.cells (List.replicate n (.int .i64 0)) 3)).put b3 (.cells [.slice b1 0 n n true,.slice b2 0 n n true] 68)).next=h.next+11:=by show h1.next+9=_;omega
 generalize (((h1.skip 9).put b1 (.cells (List.replicate n .af) 22)).put b2 (.cells (List.replicate n (.int .i64 0)) 3)).put b3 (.cells [.slice b1 0 n n true,.slice b2 0 n n true] 68)=h2 at G1 G2 G3 Gl Gn ⊢;have l2:aN h2 b3 1=some (.slice b2 0 n n true):=by rw[aq G3];rfl
 simp only[go_sem,Nat.reduceEqDiff,reduceCtorEq,l2];refine Mw n b2 b3 (.slice b1 0 n n true) va (.ptr h.next 0) (.ptr (h.next+1) 0) _ _ (by omega) (by omega) G3 G2 (by simp[T.ag]) (by simp[T.ag]) (by simp[T.ag]) (by simp[T.ag]) (by simp[T.ag]) ?_;intro fr h3 t1 t2 t3 uQ lZ gb3;have l3:aN h3 h.next 1=some va:=by rw[cG (lZ _ (by omega)),cG (Gl _ (by omega)),aq g1];rfl
 have Ot:∀c,c<h.next->h3.get c=h.get c:=λc hc=>(lZ c (by omega)).trans ((Gl c (by omega)).trans (bh.get c hc));have ha3:eS h3 va A.aW:=cg.eN ha (by omega) λc _ hc=>Ot c hc;have he3:iO h3 ve A.ends:=cg.eN he (by omega) λc _ hc=>Ot c hc;simp only[go_sem,Nat.reduceEqDiff,t1,l3,ha3.len];have cQ:aU h h3:=⟨by omega,Ot⟩;have G33:h3.get b3=some (.cells [.slice b1 0 n n true,.slice b2 0 n n true] 68):=(lZ b3 (by omega)).trans G3;refine Mx A n b1 b3 (.slice b2 0 n n true) va (.ptr h.next 0) (.ptr (h.next+1) 0) _ _ (by omega) (by omega) (by omega) (by omega) hn hP.1 (by omega) cQ ha (by omega) G33 ((lZ b1 (by omega)).trans G1) (by simp[T.ag,t1]) (by simp[T.ag,t2]) (by simp[T.ag,t3]) (by simp[T.ag]) (by simp[T.ag]) (by simp[T.ag]) ?_;intro fr h4 vs u1 u2 u3 JY rn Vp hR4;have l4:aN h4 h.next 2=some ve:=by rw[cG (rn _ (by omega) (by omega)),cG (lZ _ (by omega)),cG (Gl _ (by omega)),aq g1];rfl
 have hx4:∀c,c<h.next->h4.get c=h.get c:=λc hc=>(rn c (by omega) (by omega)).trans (Ot c hc);have dP:aU h h4:=⟨by omega,hx4⟩;simp only[go_sem,Nat.reduceEqDiff,u1,l4,(he.mono dP).len];refine My A n b2 b3 (.slice b1 0 n n true) ve (.ptr h.next 0) (.ptr (h.next+1) 0) _ _ (by omega) (by omega) (by omega) (by omega) hn hP.2 (by omega) dP he (by omega) ((rn b3 (by omega) (by omega)).trans G33) ((rn b2 (by omega) (by omega)).trans gb3) (by simp[T.ag,u1]) (by simp[T.ag,u2]) (by simp[T.ag,u3]) (by simp[T.ag]) (by simp[T.ag]) (by simp[T.ag]) ?_;intro fr h5 w2 w3 Qg B2 gb5;have G35:h5.get b3=some (.cells [.slice b1 0 n n true,.slice b2 0 n n true] 68):=(B2 b3 (by omega) (by omega)).trans ((rn b3 (by omega) (by omega)).trans G33);have l5:eI h5 b3 0 2=some [.slice b1 0 n n true,.slice b2 0 n n true]:=bX G35 (by simp)
 have gp5:h5.get (h.next+1)=some (.cells [.af,.af] 68):=by
  rw[B2 _ (by omega) (by omega),rn _ (by omega) (by omega),lZ _ (by omega),Gl _ (by omega)];exact g2
 have cS:=aD (o:=0) (n:=2) (vs:=[.slice b1 0 n n true,.slice b2 0 n n true]) gp5 rfl (by simp);have D3:vs.length=n:=by rw[hR4.len];simp[gw]
 have abu:(h5.put (h.next+1) (.cells [.slice b1 0 n n true,.slice b2 0 n n true] 68)).get b1=some (.cells vs 22):=by
  rw[aa.ah _ _ (by omega),B2 _ (by omega) (by omega)];exact Vp
 have abv:(h5.put (h.next+1) (.cells [.slice b1 0 n n true,.slice b2 0 n n true] 68)).get b2=some (.cells (dZ A n A.ends.length) 3):=by
  rw[aa.ah _ _ (by omega)];exact gb5
 have hR5:=hR4.frame (h':=h5.put (h.next+1) (.cells [.slice b1 0 n n true,.slice b2 0 n n true] 68)) (by show h4.next<=h5.next;omega) λc Iy uk _=>by
  rw[aa.ah _ _ (by omega),B2 c uk (by omega)]
 simp only[go_sem,Nat.reduceEqDiff,w2,w3,l5,cS];refine qQ (jf Co Bo (b:=h.next+1) (o:=0) (by rw[mI];simp[T.ag,w2]) (bX (aa.aj _ _ _) (by simp[]))) ⟨⟨.slice b1 0 n n true,.slice b2 0 n n true,vs,rfl,?_,?_,?_,?_⟩,?_⟩
 .have:=cg.of1 (c:=n) (ex:=true) (by show b1<h5.next;omega) abu hR5.flat;rw[D3]at this;exact this
 .omega
 .intro i y hy;have hi:=(qQZ.1 hy).1;refine hR5.sl (l:=cp A i) (λ_=>rfl) (by omega) (λa y hy=>by simp[aX]at hy;rcases hy with rfl|rfl|rfl|rfl<;>rfl) hy ?_;unfold gw;rw[qQX,qJY (by omega),qZY];rfl
 .have:=cg.of1 (c:=n) (ex:=true) (by show b2<h5.next;omega) abv (by intro y hy;unfold dZ at hy;obtain⟨_,_,rfl⟩:=qQB.1 hy;rfl);have ic:(dZ A n A.ends.length).length=n:=by unfold dZ;rw[qQD,qKA]
  rw[ic]at this
  have e:(dZ A n A.ends.length).map (λx=>[x])=(List.range A.n.toNat).map λi=>[.int .i64 (bm A.ends i)]:=by
   unfold dZ;rw[qKJ,qZY,show A.n.toNat=n by omega];rfl
  rw[<-e];exact this
 .refine⟨by show h.next<=h5.next;omega,λc hc=>?_⟩;rw[aa.ah _ _ (by omega),B2 c (by omega) (by omega)];exact hx4 c hc
def E9 (l:List dH):Int->List Nat->Int->Int->Prop
 |q,[],q',k=>q=q'/\k=0
 |q,c :: s,q',k=>∃x,x∈l/\x.fr=q/\x.l=c/\∃k',E9 l x.to s q' k'/\k=x.c+k'
def E9.snoc {l:List dH}:∀{s:List Nat}{c:Nat}{q q' k:Int},E9 l q (s++[c]) q' k↔∃x,x∈l/\x.l=c/\x.to=q'/\∃k',E9 l q s x.fr k'/\k=k'+x.c
 |[],c,q,q',k=>by
  constructor
  .rintro⟨x,hx,h1,h2,k',⟨h3,h4⟩,h5⟩;exact⟨x,hx,h2,h3,0,⟨h1.symm,rfl⟩,by omega⟩
  .rintro⟨x,hx,h1,h2,k',⟨h3,h4⟩,h5⟩;exact⟨x,hx,h3.symm,h1,0,⟨h2,rfl⟩,by omega⟩
 |a :: s,c,q,q',k=>by
  constructor
  .rintro⟨x,hx,h1,h2,k',h3,h4⟩;obtain⟨y,hy,g1,g2,k2,g3,g4⟩:=E9.snoc.1 h3;exact⟨y,hy,g1,g2,x.c+k2,⟨x,hx,h1,h2,k2,g3,rfl⟩,by omega⟩
  .rintro⟨y,hy,g1,g2,k2,⟨x,hx,h1,h2,k',h3,h4⟩,g4⟩;exact⟨x,hx,h1,h2,k'+y.c,E9.snoc.2 ⟨y,hy,g1,g2,k',h3,rfl⟩,by omega⟩
def c9 (S:Int->Prop):Option Int->Prop
 |none=>∀k,¬S k
 |some m=>S m/\∀k,S k->m<=k
def c9.uniq {S:Int->Prop}{a b:Option Int}(ha:c9 S a)(hb:c9 S b):a=b:=by
 cases a with
 |none=>cases b with
  |none=>rfl
  |some m=>exact(ha m hb.1).elim
 |some n=>cases b with
  |none=>exact(hb n ha.1).elim
  |some m =>
   have:=ha.2 m hb.1;have:=hb.2 n ha.1;congr 1;omega
def c9.congr {S S':Int->Prop}{a:Option Int}(h:∀k,S k↔S' k)(ha:c9 S a):c9 S' a:=by
 cases a with
 |none=>exact λk hk=>ha k ((h k).2 hk)
 |some n=>exact⟨(h n).1 ha.1,λk hk=>ha.2 k ((h k).2 hk)⟩
def Ay (o:Option Int)(k:Int):Option Int:=match o with
 |none=>some k
 |some m=>if k<m then some k else some m
def c9.add {S:Int->Prop}{a:Option Int}(ha:c9 S a)(k1:Int):c9 (λk=>S k\/k=k1) (Ay a k1):=by
 cases a with
 |none=>exact⟨.inr rfl,λk hk=>by rcases hk with hk|rfl;exact(ha k hk).elim;exact qKV _⟩
 |some m =>
  show c9 _ (if k1<m then some k1 else some m);split
  .exact⟨.inr rfl,λk hk=>by rcases hk with hk|rfl;have:=ha.2 k hk;omega;exact qKV _⟩
  .exact⟨.inl ha.1,λk hk=>by rcases hk with hk|rfl;exact ha.2 k hk;omega⟩
def Fg (A:aY)(s:List Nat)(k:Int):Prop:=∃e,e∈A.ends/\∃k',E9 A.aW 0 s e.st k'/\k=k'+e.c
def pn {n:Int}{l:List dH}(H:fH n l){x:dH}(hx:x∈l):kY n x:=by
 obtain⟨i,hi⟩:=qQL.1 hx;exact(H i x hi).1
def wT {n:Int}{l:List jU}(H:gK n l){x:jU}(hx:x∈l):Gk n x:=by
 obtain⟨i,hi⟩:=qQL.1 hx;exact(H i x hi).1
def E9.bound {n:Int}{l:List dH}(H:fH n l):∀{s:List Nat}{q q' k:Int},E9 l q s q' k->q+(s.length:Int)<=q'/\0<=k/\k<=1000000*(q'-q)/\(s=[]\/q'<n)
 |[],q,q',k,⟨h1,h2⟩=>by subst h1;subst h2;simp
 |c :: s,q,q',k,⟨x,hx,h1,h2,k',h3,h4⟩=>by
  obtain⟨a1,a2,a3,a4,a5,a6⟩:=pn H hx;obtain⟨b1,b2,b3,b4⟩:=E9.bound H h3;subst h1;refine⟨?_,by omega,by omega,.inr ?_⟩
  .rw[qZK];push_cast;omega
  .rcases b4 with rfl|b4
   .obtain⟨e,_⟩:=h3;omega
   .exact b4
def sY {n:Int}{l:List jU}(H:gK n l)(i:Nat):(bm l i=-1/\∀e,e∈l->e.st≠(i:Int))\/(0<=bm l i/\bm l i<=1000000/\∃e,e∈l/\e.st=(i:Int)/\e.c=bm l i/\∀e',e'∈l->e'.st=(i:Int)->e'=e):=by
 unfold bm;cases h:l.find? (λx=>decide (x.st=(i:Int))) with
 |none =>
  left;refine⟨rfl,λe he=>?_⟩;have:=qXQ.1 h e he;simpa using this
 |some e =>
  right;have he:=qWG h;have hs:e.st=(i:Int):=by simpa using List.find?_some h
  obtain⟨a1,a2,a3,a4⟩:=wT H he;refine⟨a3,a4,e,he,hs,rfl,λe' mQ ar=>?_⟩;obtain⟨j,hj⟩:=qQL.1 he;obtain⟨j',Te⟩:=qQL.1 mQ;rcases Nat.lt_trichotomy j j' with h1|h1|h1
  .have:=H.lt j' j e' e Te hj h1;omega
  .subst h1;rw[hj] at Te;cases Te;rfl
  .have:=H.lt j j' e e' hj Te h1;omega
attribute [local go_sem] T' Ku Ks T9 AB Ei Kr T8 acH Kt Ej Ey Ug Ez KA AL oV AQ AR AZ sn Kz KD KC Eo Ep qG qF uC xA AS uD AY EA AW AN AT AU AO Et Eu Ew AP xx xy sk oY AV AM xu uB KB xr Es xz qH qI Er xw cN cL
def fP.fz {h:aa}{b o:Nat}{l:List ae}(H:fP h b o l):fP h.fz b o l:=by
 obtain⟨hb,c,e,own,hr,h2⟩:=H;refine⟨hb,c,e,false,.inr ⟨rfl,?_⟩,h2⟩;rw[aa.qp];rcases hr with⟨_,hr⟩|⟨_,hr⟩<;>rw[hr]<;>rfl
def cg.fz {h:aa}{size:Nat}{v:ae}{xs:List (List ae)}(H:cg h size v xs):cg h.fz size v xs :=
 ⟨H.1,H.2.imp id λ⟨b,o,c,ex,e,hr⟩=>⟨b,o,c,ex,e,hr.imp id fP.fz⟩⟩
def fY.fz {h:aa}{v:ae}{A:aY}(H:fY h v A):fY h.fz v A:=by
 obtain⟨va,ve,e,h1,h2,h3⟩:=H;exact⟨va,ve,e,cg.fz h1,cg.fz h2,h3⟩
def mu (S:Int->Int->Prop)(l:List dH)(ch:Nat)(BR:Int)(q k:Int):Prop:=S q k\/∃x,x∈l/\x.l=ch/\x.to=q/\k=BR+x.c
def mu.nil (S:Int->Int->Prop)(ch:Nat)(BR q k:Int):mu S [] ch BR q k↔S q k:=by simp[mu]
def mu.snoc (S:Int->Int->Prop)(l:List dH)(x:dH)(ch:Nat)(BR q k:Int):mu S (l++[x]) ch BR q k↔mu S l ch BR q k\/(x.l=ch/\x.to=q/\k=BR+x.c):=by
 unfold mu;constructor
 .rintro(h|⟨y,hy,h⟩)
  .exact .inl (.inl h)
  .rcases qQE.1 hy with hy|hy
   .exact .inl (.inr ⟨y,hy,h⟩)
   .simp at hy;subst hy;exact .inr h
 .rintro((h|⟨y,hy,h⟩)|h)
  .exact .inl h
  .exact .inr ⟨y,qQE.2 (.inl hy),h⟩
  .exact .inr ⟨x,by simp,h⟩
def WJ {Qn Qr:Fr->aa->Prop}{Qx:Nat->Fr->aa->Prop}(s:List Nat)(i ch:Nat)(r2:Nat)(BR:Int)(l:List dH)(v p6 p7 p29 p35:ae)(S:Int->Int->Prop)(fr:Fr)(h:aa)(es:List dD)(c2:Nat)
 (SV:s[i]?=some ch) (hl:l.length<=4000) (se:r2<h.next) (Iy:0<=BR) (uk:BR<=1000000000) (hlc:∀x,x∈l->0<=x.c/\x.c<=1000000) {h0:aa} (lu:aU h0 h) (Xk:h0.next<=r2) (hv:eS h0 v l) (hM:gh es c2) (uP:h.get r2=some (.map (es.map dF) c2)) (hS:∀q,c9 (S q) (dW es q))
 (t1:fr.get 1=some (.str s)) (t6:fr.get 6=some p6) (t7:fr.get 7=some p7) (t8:fr.get 8=some (.int .i64 (i:Int))) (t9:fr.get 9=some (.map r2)) (t11:fr.get 11=some (.int .i64 BR)) (t29:fr.get 29=some p29) (t30:fr.get 30=some (.int .i64 (i:Int))) (t35:fr.get 35=some p35)
 (t45:fr.get 45=some v) (t46:fr.get 46=some (.int .i64 (l.length:Int))) (t47:fr.get 47=some (.int .i64 0))
 (hq:∀fr h' dX c',fr.get 1=some (.str s)->fr.get 6=some p6->fr.get 7=some p7->fr.get 8=some (.int .i64 (i:Int))->fr.get 9=some (.map r2)->fr.get 29=some p29->fr.get 30=some (.int .i64 (i:Int))->fr.get 35=some p35 ->
  h.next<=h'.next->(∀c,c<h.next->c≠r2->h'.get c=h.get c)->gh dX c'->h'.get r2=some (.map (dX.map dF) c')->(∀q,c9 (mu S l ch BR q) (dW dX q))->Qx 4 fr h'):rC E2 (.loop zr) fr h Qn Qx Qr:=by
 refine Ek (λd fr h'=>h.next<=h'.next/\(∀c,c<h.next->c≠r2->h'.get c=h.get c)/\fr.get 1=some (.str s)/\fr.get 6=some p6/\fr.get 7=some p7/\fr.get 8=some (.int .i64 (i:Int))/\fr.get 9=some (.map r2)/\fr.get 11=some (.int .i64 BR)/\fr.get 29=some p29/\fr.get 30=some (.int .i64 (i:Int))/\fr.get 35=some p35/\fr.get 45=some v/\fr.get 46=some (.int .i64 (l.length:Int)) /\
  ∃(j:Nat)(dX:List dD)(c':Nat),fr.get 47=some (.int .i64 (j:Int))/\d+j=l.length/\gh dX c'/\h'.get r2=some (.map (dX.map dF) c')/\∀q,c9 (mu S (l.take j) ch BR q) (dW dX q)) l.length ?_ ?_
 .exact⟨qQY _,λ_ _ _=>rfl,t1,t6,t7,t8,t9,t11,t29,t30,t35,t45,t46,0,es,c2,t47,by omega,hM,uP,λq=>(hS q).congr λk=>(mu.nil S ch BR q k).symm⟩
 clear t1 t6 t7 t8 t9 t11 t29 t30 t35 t45 t46 t47 hM uP hS;rintro d fr h' ⟨nO,hg,t1,t6,t7,t8,t9,t11,t29,t30,t35,t45,t46,j,dX,c',t47,hd,hM,uP,hS⟩;have iN:aU h0 h':=⟨by have:=lu.next;omega,λc hc=>(hg c (by have:=lu.next;omega) (by omega)).trans (lu.get c hc)⟩;have tM:=hv.mono iN;unfold zr;by_cases hc:(j:Int)<(l.length:Int)
 .obtain⟨x,hx⟩:∃x,l[j]?=some x:=⟨_,qQW (by omega)⟩;obtain⟨b,o,di,fU⟩:=tM.ix hx;have fU:=fU .i64 (j:Int) h'
  have rA:eI h' b o 4=some (aX x):=by
   have:=di.eI (i:=0) (n:=4) (by simp[aX]);simpa[aX] using this
  have q1:aN (h'.push (.cells (aX x) 52)) h'.next 1=some (.int .i64 x.to):=by rw[aH];rfl
  have q2:aN (h'.push (.cells (aX x) 52)) h'.next 2=some (.int .u8 (x.l:Int)):=by rw[aH];rfl
  have q3:aN (h'.push (.cells (aX x) 52)) h'.next 3=some (.int .i64 x.c):=by rw[aH];rfl
  have ib:over [ae.int .i64 0,.int .i64 0,.int .u8 0,.int .i64 0] 0 (aX x)=aX x:=rfl;have jX:(aX x).length=4:=rfl;have hw:IntKind.i64.wrap ((j:Int)+1)=((j+1:Nat):Int):=by rw[wrap_i64 (by omega) (by omega)];push_cast;rfl
  have Vz:((h'.push (.cells (aX x) 52)).skip 6).get r2=some (.map (dX.map dF) c'):=(aa.aA _ _ (by omega)).trans uP;have TC:=hlc x (qQK hx);have GS:IntKind.i64.wrap (BR+x.c)=BR+x.c:=wrap_i64 (by omega) (by omega);have ht:l.take (j+1)=l.take j++[x]:=by rw[qJM,hx];rfl
  have hnp:h.next<=((h'.push (.cells (aX x) 52)).skip 6).next:=by show h.next<=h'.next+1+6;omega
  have hgg:∀c,c<h.next->c≠r2->((h'.push (.cells (aX x) 52)).skip 6).get c=h.get c:=λc Iy uk=>(aa.aA _ _ (by omega)).trans (hg c Iy uk);by_cases e:(x.l:Int)=(ch:Int)
  .have e':x.l=ch:=by omega
   have q1':aN ((h'.push (.cells (aX x) 52)).skip 6) h'.next 1=some (.int .i64 x.to):=q1;have q3':aN ((h'.push (.cells (aX x) 52)).skip 6) h'.next 3=some (.int .i64 x.c):=q3
   have mP:∀es2 c2',gh es2 c2'->(∀q,dW es2 q=if q=x.to then Ay (dW dX x.to) (BR+x.c) else dW dX q)->∀q,c9 (mu S (l.take (j+1)) ch BR q) (dW es2 q):=by
    intro es2 c2' _ jG q;rw[jG q];by_cases hq:q=x.to
    .subst hq;rw[if_pos rfl];refine((hS x.to).add (BR+x.c)).congr λk=>?_;rw[ht,mu.snoc];constructor
     .rintro(h|h)
      .exact .inl h
      .exact .inr ⟨e',rfl,h⟩
     .rintro(h|⟨_,_,h⟩)
      .exact .inl h
      .exact .inr h
    .rw[if_neg hq];refine(hS q).congr λk=>?_;rw[ht,mu.snoc];constructor
     .exact .inl
     .rintro(h|⟨_,h,_⟩)
      .exact h
      .exact absurd h.symm hq
   cases jG:dW dX x.to with
   |none =>
    simp only[go_sem,Nat.reduceEqDiff,Nat.reduceAdd,reduceCtorEq,t1,t6,t7,t8,t9,t11,t29,t30,t35,t45,t46,t47,hc,fU _ rfl,rA,ib,jX,q2,SV,e,q1',q3',mq Vz,jG,GS,pR hM Vz,hw];refine⟨d-1,by omega,hnp,λc Iy uk=>by rw[aa.ah _ _ (Ne.symm uk)];exact hgg c Iy uk,j+1,_,_,rfl,by omega,hM.put _ _,aa.aj _ _ _,mP _ _ (hM.put _ _) λq=>by rw[wA,jG];rfl⟩
   |some m =>
    by_cases dL:BR+x.c<m
    .simp only[go_sem,Nat.reduceEqDiff,Nat.reduceAdd,reduceCtorEq,t1,t6,t7,t8,t9,t11,t29,t30,t35,t45,t46,t47,hc,fU _ rfl,rA,ib,jX,q2,SV,e,q1',q3',mq Vz,jG,GS,dL,pR hM Vz,hw];refine⟨d-1,by omega,hnp,λc Iy uk=>by rw[aa.ah _ _ (Ne.symm uk)];exact hgg c Iy uk,j+1,_,_,rfl,by omega,hM.put _ _,aa.aj _ _ _,mP _ _ (hM.put _ _) λq=>by rw[wA,jG];simp[Ay,dL]⟩
    .simp only[go_sem,Nat.reduceEqDiff,Nat.reduceAdd,reduceCtorEq,t1,t6,t7,t8,t9,t11,t29,t30,t35,t45,t46,t47,hc,fU _ rfl,rA,ib,jX,q2,SV,e,q1',q3',mq Vz,jG,GS,dL,hw];refine⟨d-1,by omega,hnp,hgg,j+1,dX,c',rfl,by omega,hM,Vz,mP dX c' hM λq=>?_⟩;by_cases hq:q=x.to
     .subst hq;rw[if_pos rfl,jG];simp[Ay,dL]
     .rw[if_neg hq]
  .simp only[go_sem,Nat.reduceEqDiff,Nat.reduceAdd,t1,t6,t7,t8,t9,t11,t29,t30,t35,t45,t46,t47,hc,fU _ rfl,rA,ib,jX,q2,SV,e,hw];refine⟨d-1,by omega,hnp,hgg,j+1,dX,c',rfl,by omega,hM,Vz,λq=>(hS q).congr λk=>?_⟩;rw[ht,mu.snoc];constructor
   .exact .inl
   .rintro(h|⟨h,_,_⟩)
    .exact h
    .omega
 .obtain rfl:j=l.length:=by omega
  simp only[go_sem,reduceCtorEq,t46,t47,hc];rw[qZY]at hS;exact hq _ _ dX c' (by simp[T.ag,t1]) (by simp[T.ag,t6]) (by simp[T.ag,t7]) (by simp[T.ag,t8]) (by simp[T.ag,t9]) (by simp[T.ag,t29]) (by simp[T.ag,t30]) (by simp[T.ag,t35]) nO hg hM uP hS
def Qu (A:aY)(NK:List dD)(seen:List Nat)(ch:Nat)(q k:Int):Prop:=∃e,e∈NK/\e.2.2∈seen/\∃x,x∈cp A e.1.toNat/\x.l=ch/\x.to=q/\k=e.2.1+x.c
def jj (es:List dD)(seen:List Nat):Nat:=(es.filter λe=>!seen.contains e.2.2).length
def filter_lt {α:Type}{p p':α->Bool}(hp:∀a,p' a=true->p a=true):∀{l:List α}{a:α},a∈l->p a=true->p' a=false->(l.filter p').length<(l.filter p).length
 |b :: l,a,ha,h1,h2=>by
  have hle:∀l:List α,(l.filter p').length<=(l.filter p).length:=by
   intro l
   induction l with
   |nil=>simp
   |cons c l ih =>
    cases hc:p' c with
    |true=>rw[qKF (by simpa using hc),qKF (by simpa using hp c hc)];simp;exact ih
    |false =>
     rw[qWK (by simp[hc])];cases uk:p c with
     |true=>rw[qKF (by simpa using uk)];simp;omega
     |false=>rw[qWK (by simp[uk])];exact ih
  rcases qQF.1 ha with rfl|ha
  .rw[qWK (by simp[h2]),qKF (by simpa using h1)];have:=hle l;simp;omega
  .have ih:=filter_lt hp ha h1 h2;cases hc:p' b with
   |true=>rw[qKF (by simpa using hc),qKF (by simpa using hp b hc)];simp;omega
   |false =>
    rw[qWK (by simp[hc])];cases uk:p b with
    |true=>rw[qKF (by simpa using uk)];simp;omega
    |false=>rw[qWK (by simp[uk])];exact ih
def xP {es:List dD}{seen:List Nat}{e:dD}(he:e∈es)(hs:e.2.2∉seen):jj es (seen++[e.2.2])<jj es seen:=by
 unfold jj;refine filter_lt (λa ha=>?_) he (by simpa using hs) (by simp);simp at ha ⊢;exact ha.1
def WK {Qn Qr:Fr->aa->Prop}{Qx:Nat->Fr->aa->Prop}(A:aY)(n:Nat)(s:List Nat)(i ch:Nat)(r1 r2 it pg:Nat)(vo vf p29:ae)(fr:Fr)(h:aa)(NK:List dD)(cn:Nat)(Zy:A.n=(n:Int))(hP:fH A.n A.aW)(Xx:A.aW.length<=4000)
 (SV:s[i]?=some ch) (rf:r1<h.next) (se:r2<h.next) (B3:it<h.next) (hpg:pg<h.next) (d1:r1≠r2) (d2:r1≠it) (d3:r2≠it) (d4:pg≠r2) (d5:pg≠it) {h0:aa} (lu:aU h0 h) (Xk:h0.next<=r2) (DQ:h0.next<=it)
 {rows:List ae} (IA:cg h0 1 vo (rows.map λx=>[x])) (Tq:rows.length=n) (di:∀(j:Nat)(x:ae),rows[j]?=some x->eS h0 x (cp A j)) (gpg:h.get pg=some (.cells [vo,vf] 68))
 (hMn:gh NK cn) (hgn:h.get r1=some (.map (NK.map dF) cn)) (Xm:∀e,e∈NK->0<=e.1/\e.1<(n:Int)/\0<=e.2.1/\e.2.1<=1000000000) (Xr:h.get it=some (.mapIter (some r1) cn [] cn)) (uP:h.get r2=some (.map [] 0))
 (t1:fr.get 1=some (.str s)) (t6:fr.get 6=some (.ptr pg 0)) (t7:fr.get 7=some (.map r1)) (t8:fr.get 8=some (.int .i64 (i:Int))) (t9:fr.get 9=some (.map r2)) (t29:fr.get 29=some p29) (t30:fr.get 30=some (.int .i64 (i:Int))) (t35:fr.get 35=some (.ptr it 0))
 (hq:∀fr h' dX c',fr.get 1=some (.str s)->fr.get 6=some (.ptr pg 0)->fr.get 8=some (.int .i64 (i:Int))->fr.get 9=some (.map r2)->fr.get 29=some p29->fr.get 30=some (.int .i64 (i:Int)) ->
  h.next<=h'.next->(∀c,c<h.next->c≠r2->c≠it->h'.get c=h.get c)->gh dX c'->h'.get r2=some (.map (dX.map dF) c')->(∀q,c9 (λk=>∃e,e∈NK/\∃x,x∈cp A e.1.toNat/\x.l=ch/\x.to=q/\k=e.2.1+x.c) (dW dX q))->Qx 2 fr h'):rC E2 (.loop zt) fr h Qn Qx Qr:=by
 refine Ek (λd fr h'=>h.next<=h'.next/\(∀c,c<h.next->c≠r2->c≠it->h'.get c=h.get c)/\fr.get 1=some (.str s)/\fr.get 6=some (.ptr pg 0)/\fr.get 7=some (.map r1)/\fr.get 8=some (.int .i64 (i:Int))/\fr.get 9=some (.map r2)/\fr.get 29=some p29/\fr.get 30=some (.int .i64 (i:Int))/\fr.get 35=some (.ptr it 0) /\
  ∃(seen:List Nat)(dX:List dD)(c':Nat),d=jj NK seen/\h'.get it=some (.mapIter (some r1) cn seen cn)/\gh dX c'/\h'.get r2=some (.map (dX.map dF) c')/\∀q,c9 (Qu A NK seen ch q) (dW dX q)) (jj NK []) ?_ ?_
 .refine⟨qQY _,λ_ _ _ _=>rfl,t1,t6,t7,t8,t9,t29,t30,t35,[],[],0,rfl,Xr,gh.nil,uP,λq k=>?_⟩;rintro⟨e,_,h,_⟩;cases h
 clear t1 t6 t7 t8 t9 t29 t30 t35 Xr uP;rintro d fr h' ⟨nO,hg,t1,t6,t7,t8,t9,t29,t30,t35,seen,dX,c',hd,Xr,hM,uP,hS⟩;unfold zt;simp only[go_sem,t35];refine xq hMn Xr ((hg r1 rf d1 d2).trans hgn) (λjm=>?_) λe he hs=>?_
 .simp only[go_sem,Nat.reduceEqDiff,reduceCtorEq];refine hq _ _ dX c' (by simp[T.ag,t1]) (by simp[T.ag,t6]) (by simp[T.ag,t8]) (by simp[T.ag,t9]) (by simp[T.ag,t29]) (by simp[T.ag,t30]) nO hg hM uP λq=>(hS q).congr λk=>?_;constructor
  .rintro⟨e,he,_,h⟩;exact⟨e,he,h⟩
  .rintro⟨e,he,h⟩;exact⟨e,he,jm e he,h⟩
 .obtain⟨b1,b2,b3,b4⟩:=Xm e he;obtain⟨j,hj⟩:∃j:Nat,e.1=(j:Int):=⟨e.1.toNat,by omega⟩;obtain⟨row,hrj⟩:∃row,rows[j]?=some row:=⟨_,qQW (by omega)⟩
  have iN:aU h0 (h'.put it (.mapIter (some r1) cn (seen++[e.2.2]) cn)):=⟨by show h0.next<=h'.next;have:=lu.next;omega,λc hc=>by
   have:=lu.next;rw[aa.ah _ _ (by omega)];exact(hg c (by omega) (by omega) (by omega)).trans (lu.get c hc)⟩
  have Gw:(h'.put it (.mapIter (some r1) cn (seen++[e.2.2]) cn)).get r1=some (.map (NK.map dF) cn):=by rw[aa.ah _ _ (Ne.symm d2)];exact(hg r1 rf d1 d2).trans hgn
  have gr2:(h'.put it (.mapIter (some r1) cn (seen++[e.2.2]) cn)).get r2=some (.map (dX.map dF) c'):=by rw[aa.ah _ _ (Ne.symm d3)];exact uP
  have grp:(h'.put it (.mapIter (some r1) cn (seen++[e.2.2]) cn)).get pg=some (.cells [vo,vf] 68):=by rw[aa.ah _ _ (Ne.symm d5)];exact(hg pg hpg d4 d5).trans gpg
  have N8:(h'.put it (.mapIter (some r1) cn (seen++[e.2.2]) cn)).get it=some (.mapIter (some r1) cn (seen++[e.2.2]) cn):=aa.aj _ _ _;have hgg:∀c,c<h.next->c≠r2->c≠it->(h'.put it (.mapIter (some r1) cn (seen++[e.2.2]) cn)).get c=h.get c:=λc h1 h2 h3=>by rw[aa.ah _ _ (Ne.symm h3)];exact hg c h1 h2 h3
  have CK:(h'.put it (.mapIter (some r1) cn (seen++[e.2.2]) cn)).next=h'.next:=rfl;generalize h'.put it (.mapIter (some r1) cn (seen++[e.2.2]) cn)=h2 at iN Gw gr2 grp N8 hgg CK ⊢;have l6:aN h2 pg 0=some vo:=by rw[aq grp];rfl
  obtain⟨bb,oo,hrr,fU⟩:=(IA.mono iN).ix (j:=j) (x:=[row]) (by rw[qQX,hrj];rfl);have fU:=fU .i64 e.1 h2;have OO:aN h2 bb oo=some row:=hrr.aN (i:=0) rfl;have Z3:=di j row hrj;simp only[go_sem,Nat.reduceEqDiff,t6,t35,kK hMn N8 Gw he,l6,fU _ hj,OO,(Z3.mono iN).len]
  refine WJ s i ch r2 e.2.1 (cp A j) row (.ptr pg 0) (.map r1) p29 (.ptr it 0) (Qu A NK seen ch) _ _ dX c' SV (qZC (qVV _ _) Xx) (by omega) b3 b4 (λx hx=>?_) iN (by omega) Z3 hM gr2 hS (by simp[T.ag,t1]) (by simp[T.ag,t6]) (by simp[T.ag,t7]) (by simp[T.ag,t8]) (by simp[T.ag,t9]) (by simp[T.ag]) (by simp[T.ag,t29]) (by simp[T.ag,t30]) (by simp[T.ag,t35])
   (by simp[T.ag]) (by simp[T.ag]) (by simp[T.ag]) ?_
  .have:=pn hP (qZM.1 hx).1;exact⟨this.2.2.2.2.1,this.2.2.2.2.2⟩
  .intro fr h3 es3 c3 u1 u6 u7 u8 u9 u29 u30 u35 uQ lZ hM3 akz hS3;simp only[go_sem,Nat.reduceEqDiff];refine⟨jj NK (seen++[e.2.2]),by rw[hd];exact xP he hs,by omega,λc h1 h2 h3=>(lZ c (by omega) h2).trans (hgg c h1 h2 h3),u1,u6,u7,u8,u9,u29,u30,u35,_,es3,c3,rfl,(lZ it (by omega) (Ne.symm d3)).trans N8,hM3,akz,λq=>(hS3 q).congr λk=>?_⟩;unfold mu Qu;constructor
   .rintro(⟨e',mQ,ar,h⟩|⟨x,hx,h⟩)
    .exact⟨e',mQ,by simp[ar],h⟩
    .exact⟨e,he,by simp,x,by rw[hj];exact hx,h⟩
   .rintro⟨e',mQ,ar,x,hx,h⟩;rcases qQE.1 ar with ar|ar
    .exact .inl ⟨e',mQ,ar,x,hx,h⟩
    .have hb:e'.2.2=e.2.2:=by simpa using ar
     have:e'=e:=by
      obtain⟨a,ha⟩:=qQL.1 he;obtain⟨a',JP⟩:=qQL.1 mQ;have:=(qWE (l:=NK.map (·.2.2)) (i:=a) (j:=a') (by have:=(qQZ.1 ha).1;simpa using this) hMn.uZ).1 (by rw[qQX,qQX,ha,JP];simp[hb]);subst this;rw[ha] at JP;cases JP;rfl
     subst this;rw[hj]at hx;exact .inr ⟨x,hx,h⟩
def c9.weaken {S S':Int->Prop}{o:Option Int}(h:c9 S' o)(h1:∀k,S' k->S k)(h2:∀k,S k->∃k',S' k'/\k'<=k):c9 S o:=by
 cases o with
 |none=>intro k hk;obtain⟨k',VA,_⟩:=h2 k hk;exact h k' VA
 |some m=>exact⟨h1 m h.1,λk hk=>by obtain⟨k',VA,hle⟩:=h2 k hk;have:=h.2 k' VA;omega⟩
def pP {A:aY}{i:Nat}{x:dH}:x∈cp A i↔x∈A.aW/\x.fr=(i:Int):=by
 unfold cp;rw[qZM];simp
def zf (A:aY)(s:List Nat)(es:List dD):Prop:=∀q,c9 (E9 A.aW 0 s q) (dW es q)
def zf.Y' {A:aY}{n:Nat}{s:List Nat}{es:List dD}{c:Nat}(Zy:A.n=(n:Int))(h1:1<=n)(hn:n<=400)(hP:fH A.n A.aW)(hM:gh es c)(H:zf A s es){e:dD}(he:e∈es):0<=e.1/\e.1<(n:Int)/\0<=e.2.1/\e.2.1<=1000000000:=by
 have hv:=jk hM.keys he;have:=H e.1;rw[hv]at this;have hr:=this.1;obtain⟨b1,b2,b3,b4⟩:=E9.bound hP hr;rcases b4 with rfl|b4
 .obtain⟨e1,e2⟩:=hr;omega
 .omega
def zf.step {A:aY}{s:List Nat}{es dX:List dD}{c ch:Nat}(hP:fH A.n A.aW)(hM:gh es c)(H:zf A s es)(H':∀q,c9 (λk=>∃e,e∈es/\∃x,x∈cp A e.1.toNat/\x.l=ch/\x.to=q/\k=e.2.1+x.c) (dW dX q)):zf A (s++[ch]) dX:=by
 intro q;refine(H' q).weaken (λk hk=>?_) λk hk=>?_
 .obtain⟨e,he,x,hx,h1,h2,h3⟩:=hk;have hv:=jk hM.keys he;have hl:=H e.1;rw[hv]at hl;have h0:=(E9.bound hP hl.1).1;obtain⟨Ff,kx⟩:=pP.1 hx;refine E9.snoc.2 ⟨x,Ff,h1,h2,e.2.1,?_,h3⟩;rw[kx,show((e.1.toNat:Nat):Int)=e.1 by omega];exact hl.1
 .obtain⟨x,hx,h1,h2,k',h3,h4⟩:=E9.snoc.1 hk;have hl:=H x.fr;cases hv:dW es x.fr with
  |none=>rw[hv]at hl;exact(hl k' h3).elim
  |some m =>
   rw[hv]at hl;have:=hl.2 k' h3;obtain⟨nn,eE⟩:=wz hv;have h0:=(pn hP hx).1;refine⟨m+x.c,⟨_,eE,x,pP.2 ⟨hx,?_⟩,h1,h2,rfl⟩,by omega⟩;show x.fr=((x.fr.toNat:Nat):Int);omega
structure Gr (A:aY)(n:Nat)(hG:aa)(pg:Nat)(vo vf:ae)(rows:List ae):Prop where
 an:A.n=(n:Int)
 n1:1<=n
 n4:n<=400
 aW:fH A.n A.aW
 ends:gK A.n A.ends
 l4:A.aW.length<=4000
 IA:cg hG 1 vo (rows.map λx=>[x])
 rl:rows.length=n
 row:∀(j:Nat)(x:ae),rows[j]?=some x->eS hG x (cp A j)
 CN:cg hG 1 vf ((List.range n).map λi=>[.int .i64 (bm A.ends i)])
 hpg:pg<hG.next
 gpg:hG.get pg=some (.cells [vo,vf] 68)
def WL {Qn Qr:Fr->aa->Prop}{Qx:Nat->Fr->aa->Prop}(A:aY)(n:Nat)(s:List Nat)(r1 pg:Nat)(vo vf:ae)(rows:List ae)(fr:Fr)(hG h:aa)(es:List dD)(c:Nat)(G:Gr A n hG pg vo vf rows)(hs:s.length<=9223372036854775807)
 (hle:aU hG h) (rf:hG.next<=r1) (se:r1<h.next) (hM:gh es c) (hg:h.get r1=some (.map (es.map dF) c)) (hN:zf A [] es)
 (t1:fr.get 1=some (.str s)) (t6:fr.get 6=some (.ptr pg 0)) (t7:fr.get 7=some (.map r1)) (t29:fr.get 29=some (.int .i64 (s.length:Int))) (t30:fr.get 30=some (.int .i64 0))
 (hq:∀fr h' r es c,fr.get 6=some (.ptr pg 0)->fr.get 7=some (.map r)->aU hG h'->hG.next<=r->r<h'.next->gh es c->h'.get r=some (.map (es.map dF) c)->zf A s es->Qx 0 fr h'):rC E2 (.loop zu) fr h Qn Qx Qr:=by
 refine Ek (λd fr h'=>aU hG h'/\fr.get 1=some (.str s)/\fr.get 6=some (.ptr pg 0)/\fr.get 29=some (.int .i64 (s.length:Int))/\∃(i r:Nat)(es:List dD)(c:Nat),fr.get 30=some (.int .i64 (i:Int))/\d+i=s.length/\fr.get 7=some (.map r)/\hG.next<=r/\r<h'.next/\gh es c/\h'.get r=some (.map (es.map dF) c)/\zf A (s.take i) es) s.length ?_ ?_
 .exact⟨hle,t1,t6,t29,0,r1,es,c,t30,by omega,t7,rf,se,hM,hg,by simpa using hN⟩
 clear t1 t6 t7 t29 t30 hM hg hN rf se hle;rintro d fr h' ⟨hle,t1,t6,t29,i,r,es,c,t30,hd,t7,rf,se,hM,hg,hN⟩;have jX:=hle.next;unfold zu;by_cases hc:(i:Int)<(s.length:Int)
 .obtain⟨ch,SV⟩:∃ch,s[i]?=some ch:=⟨_,qQW (by omega)⟩;have hw:IntKind.i64.wrap ((i:Int)+1)=((i+1:Nat):Int):=by rw[wrap_i64 (by omega) (by omega)];push_cast;rfl
  have g1:(h'.push (.map [] 0)).get r=some (.map (es.map dF) c):=(aa.aA _ _ (by omega)).trans hg;simp only[go_sem,Nat.reduceEqDiff,t7,t29,t30,hc,uI g1];have hGt:=G.hpg
  refine WK A n s i ch r h'.next (h'.next+1) pg vo vf (.int .i64 (s.length:Int)) _ _ es c G.an G.aW G.l4 SV (by show r<h'.next+1+1;omega) (by show h'.next<h'.next+1+1;omega) (by show h'.next+1<h'.next+1+1;omega) (by show pg<h'.next+1+1;omega) (by omega) (by omega) (by omega) (by omega) (by omega) (h0:=hG) ((hle.push _).push _) (by omega) (by omega) G.IA G.rl G.row
   ((((hle.push _).push _).get pg G.hpg).trans G.gpg) hM ((aa.aA _ _ (by show h'.next+1≠r;omega)).trans g1) (λe he=>hN.Y' G.an G.n1 G.n4 G.aW hM he) (aa.ai _ _) ((aa.aA _ _ (by show h'.next+1≠h'.next;omega)).trans (aa.ai _ _)) (by simp[T.ag,t1]) (by simp[T.ag,t6]) (by simp[T.ag,t7]) (by simp[T.ag]) (by simp[T.ag]) (by simp[T.ag,t29]) (by simp[T.ag,t30]) (by simp[T.ag]) ?_
  intro iA h2 es2 c2 u1 u6 u8 u9 u29 u30 GK uP hM2 akC hS2;have aqS:h'.next+1+1<=h2.next:=GK
  have aS:aU hG h2:=⟨by omega,λx hx=>by
   rw[uP x (by show x<h'.next+1+1;omega) (by omega) (by omega)];exact((hle.push _).push _).get x hx⟩
  simp only[go_sem,Nat.reduceEqDiff,u9,u30,hw];refine⟨d-1,by omega,aS,u1,u6,u29,i+1,h'.next,es2,c2,rfl,by omega,rfl,by omega,by omega,hM2,akC,?_⟩;have ht:s.take (i+1)=s.take i++[ch]:=by rw[qJM,SV];rfl
  rw[ht];exact hN.step G.aW hM hS2
 .obtain rfl:i=s.length:=by omega
  simp only[go_sem,reduceCtorEq,t29,t30,hc];rw[qZY]at hN;exact hq _ _ r es c (by simp[T.ag,t6]) (by simp[T.ag,t7]) hle rf se hM hg hN
def Qw (A:aY)(es:List dD)(seen:List Nat)(k:Int):Prop:=∃e,e∈es/\e.2.2∈seen/\0<=bm A.ends e.1.toNat/\k=e.2.1+bm A.ends e.1.toNat
def Qw.acc {A:aY}{n:Nat}{s:List Nat}{es:List dD}{c:Nat}{seen:List Nat}{o:Option Int}(Zy:A.n=(n:Int))(h1:1<=n)(hn:n<=400)(hP:fH A.n A.aW)(hE:gK A.n A.ends)(hM:gh es c)(H:zf A s es)(jm:∀e,e∈es->e.2.2∈seen)(ho:c9 (Qw A es seen) o):c9 (Fg A s) o:=by
 refine ho.weaken (λk hk=>?_) λk hk=>?_
 .obtain⟨e,he,_,h2,h3⟩:=hk;obtain⟨b1,b2,b3,b4⟩:=H.Y' Zy h1 hn hP hM he;rcases sY hE e.1.toNat with⟨h4,_⟩|⟨_,_,x,hx,h5,h6,_⟩
  .omega
  .have hv:=jk hM.keys he;have hl:=H e.1;rw[hv]at hl;refine⟨x,hx,e.2.1,?_,by omega⟩;rw[h5,show((e.1.toNat:Nat):Int)=e.1 by omega];exact hl.1
 .obtain⟨x,hx,k',h3,h4⟩:=hk;have hl:=H x.st;cases hv:dW es x.st with
  |none=>rw[hv]at hl;exact(hl k' h3).elim
  |some m =>
   rw[hv]at hl;have:=hl.2 k' h3;obtain⟨nn,eE⟩:=wz hv;obtain⟨a1,a2,a3,a4⟩:=wT hE hx
   have hc:bm A.ends x.st.toNat=x.c:=by
    rcases sY hE x.st.toNat with⟨_,h5⟩|⟨_,_,y,hy,h5,h6,h7⟩
    .have:=h5 x hx;omega
    .have:=h7 x hx (by omega);subst this;omega
   exact⟨m+x.c,⟨_,eE,jm _ eE,by show 0<=bm A.ends x.st.toNat;omega,by show m+x.c=m+bm A.ends x.st.toNat;omega⟩,by omega⟩
def oN (o:Option Int):Int:=o.getD 0
def WM {Qn Qr:Fr->aa->Prop}{Qx:Nat->Fr->aa->Prop}(A:aY)(n:Nat)(s:List Nat)(r it pg:Nat)(vo vf:ae)(rows:List ae)(fr:Fr)(hG h:aa)(es:List dD)(c:Nat)(G:Gr A n hG pg vo vf rows)
 (hle:aU hG h) (rf:hG.next<=r) (se:r<h.next) (B3:r≠it) (hi0:hG.next<=it) (hi1:it<h.next) (hM:gh es c) (hg:h.get r=some (.map (es.map dF) c)) (Xr:h.get it=some (.mapIter (some r) c [] c)) (hN:zf A s es)
 (t6:fr.get 6=some (.ptr pg 0)) (t16:fr.get 16=some (.int .i64 0)) (t17:fr.get 17=some (.bool false)) (t85:fr.get 85=some (.ptr it 0))
 (hq:∀fr h' o,fr.get 16=some (.int .i64 (oN o))->fr.get 17=some (.bool o.isSome)->c9 (Fg A s) o->Qx 6 fr h'):rC E2 (.loop zw) fr h Qn Qx Qr:=by
 refine Ek (λd fr h'=>aU hG h'/\h'.get r=some (.map (es.map dF) c)/\fr.get 6=some (.ptr pg 0)/\fr.get 85=some (.ptr it 0)/\∃(seen:List Nat)(o:Option Int),d=jj es seen/\fr.get 16=some (.int .i64 (oN o))/\fr.get 17=some (.bool o.isSome)/\h'.get it=some (.mapIter (some r) c seen c)/\c9 (Qw A es seen) o) (jj es []) ?_ ?_
 .refine⟨hle,hg,t6,t85,[],none,rfl,t16,t17,Xr,?_⟩;rintro k ⟨e,_,h,_⟩;cases h
 clear t6 t16 t17 t85 hg Xr hle;rintro d fr h' ⟨hle,hg,t6,t85,seen,o,hd,t16,t17,Xr,ho⟩;unfold zw;simp only[go_sem,t85];refine xq hM Xr hg (λjm=>?_) λe he hs=>?_
 .simp only[go_sem,Nat.reduceEqDiff,reduceCtorEq];exact hq _ _ o (by simp[T.ag,t16]) (by simp[T.ag,t17]) (Qw.acc G.an G.n1 G.n4 G.aW G.ends hM hN jm ho)
 .obtain⟨b1,b2,b3,b4⟩:=hN.Y' G.an G.n1 G.n4 G.aW hM he;obtain⟨j,hj⟩:∃j:Nat,e.1=(j:Int):=⟨e.1.toNat,by omega⟩;have aS:aU hG (h'.put it (.mapIter (some r) c (seen++[e.2.2]) c)):=hle.put hi0 _;have Gw:(h'.put it (.mapIter (some r) c (seen++[e.2.2]) c)).get r=some (.map (es.map dF) c):=by rw[aa.ah _ _ (Ne.symm B3)];exact hg
  have N8:(h'.put it (.mapIter (some r) c (seen++[e.2.2]) c)).get it=some (.mapIter (some r) c (seen++[e.2.2]) c):=aa.aj _ _ _;generalize h'.put it (.mapIter (some r) c (seen++[e.2.2]) c)=h2 at aS Gw N8 ⊢;have l6:aN h2 pg 1=some vf:=by rw[aq ((aS.get pg G.hpg).trans G.gpg)];rfl
  obtain⟨bb,oo,hrr,fU⟩:=(G.CN.mono aS).ix (j:=j) (x:=[.int .i64 (bm A.ends j)]) (by rw[qQX,qJY (by omega)];rfl);have fU:=fU .i64 e.1 h2;have OO:aN h2 bb oo=some (.int .i64 (bm A.ends j)):=hrr.aN (i:=0) rfl;have ZE:e.1.toNat=j:=by omega
  have dL:=xP he hs
  have Od:∀o':Option Int,o'=(if 0<=bm A.ends j then Ay o (e.2.1+bm A.ends j) else o)->c9 (Qw A es (seen++[e.2.2])) o':=by
   intro o' uR
   have Z6:∀e',e'∈es->e'.2.2=e.2.2->e'=e:=by
    intro e' mQ hb;obtain⟨a,ha⟩:=qQL.1 he;obtain⟨a',JP⟩:=qQL.1 mQ;have:=(qWE (l:=es.map (·.2.2)) (i:=a) (j:=a') (by have:=(qQZ.1 ha).1;simpa using this) hM.uZ).1 (by rw[qQX,qQX,ha,JP];simp[hb]);subst this;rw[ha] at JP;cases JP;rfl
   by_cases hf:0<=bm A.ends j
   .rw[if_pos hf]at uR;subst uR;refine(ho.add (e.2.1+bm A.ends j)).congr λk=>?_;constructor
    .rintro(⟨e',mQ,ar,h1,h2⟩|hk)
     .exact⟨e',mQ,by simp[ar],h1,h2⟩
     .exact⟨e,he,by simp,by rw[ZE];exact hf,by rw[ZE];exact hk⟩
    .rintro⟨e',mQ,ar,h1,h2⟩;rcases qQE.1 ar with ar|ar
     .exact .inl ⟨e',mQ,ar,h1,h2⟩
     .have:=Z6 e' mQ (by simpa using ar);subst this;rw[ZE]at h2;exact .inr h2
   .rw[if_neg hf]at uR;subst uR;refine ho.congr λk=>?_;constructor
    .rintro⟨e',mQ,ar,h1,h2⟩;exact⟨e',mQ,by simp[ar],h1,h2⟩
    .rintro⟨e',mQ,ar,h1,h2⟩;rcases qQE.1 ar with ar|ar
     .exact⟨e',mQ,ar,h1,h2⟩
     .have:=Z6 e' mQ (by simpa using ar);subst this;rw[ZE]at h1;exact absurd h1 hf
  have hfb:bm A.ends j<=1000000:=by
   rcases sY G.ends j with⟨h4,_⟩|⟨_,h4,_⟩<;>omega
  by_cases hf:bm A.ends j<0
  .simp only[go_sem,Nat.reduceEqDiff,reduceCtorEq,t6,t85,t16,t17,kK hM N8 Gw he,l6,fU _ hj,OO,hf];exact⟨jj es (seen++[e.2.2]),by omega,aS,Gw,seen++[e.2.2],o,rfl,rfl,rfl,N8,Od o (by rw[if_neg (by omega)])⟩
  have GS:IntKind.i64.wrap (e.2.1+bm A.ends j)=e.2.1+bm A.ends j:=wrap_i64 (by omega) (by omega);cases o with
  |none =>
   have YH:fr.get 17=some (.bool false):=t17;simp only[go_sem,Nat.reduceEqDiff,reduceCtorEq,t6,t85,t16,YH,kK hM N8 Gw he,l6,fU _ hj,OO,hf,GS];exact⟨jj es (seen++[e.2.2]),by omega,aS,Gw,seen++[e.2.2],some (e.2.1+bm A.ends j),rfl,rfl,rfl,N8,Od _ (by rw[if_pos (by omega)];rfl)⟩
  |some m =>
   have YH:fr.get 17=some (.bool true):=t17;have ahJ:fr.get 16=some (.int .i64 m):=t16;by_cases hm:e.2.1+bm A.ends j<m
   .simp only[go_sem,Nat.reduceEqDiff,t6,t85,ahJ,YH,kK hM N8 Gw he,l6,fU _ hj,OO,hf,GS,hm];exact⟨jj es (seen++[e.2.2]),by omega,aS,Gw,seen++[e.2.2],some (e.2.1+bm A.ends j),rfl,rfl,rfl,N8,Od _ (by rw[if_pos (by omega)];simp[Ay,hm])⟩
   .simp only[go_sem,Nat.reduceEqDiff,reduceCtorEq,t6,t85,ahJ,YH,kK hM N8 Gw he,l6,fU _ hj,OO,hf,GS,hm];exact⟨jj es (seen++[e.2.2]),by omega,aS,Gw,seen++[e.2.2],some m,rfl,rfl,rfl,N8,Od _ (by rw[if_pos (by omega)];simp[Ay,hm])⟩
structure wI {C:Type}(M:eG C)(cfg:List C)(es:List dD)(seen:List Nat)(L:List bL):Prop where
 mem:∀k v,(k,v)∈L↔∃e c,e∈es/\e.2.2∈seen/\e.1=(k:Int)/\e.2.1=v/\cfg[k]?=some c/\M.live c=true
 nodup:(L.map (·.1)).Nodup
def wI.nil {C:Type}(M:eG C)(cfg:List C)(es:List dD):wI M cfg es [] []:=⟨λk v=>by simp,by simp⟩
def Gm {es:List dD}{clock:Nat}(hM:gh es clock){e e':dD}(he:e∈es)(mQ:e'∈es)(h:e'.2.2=e.2.2):e'=e:=by
 obtain⟨a,ha⟩:=qQL.1 he;obtain⟨a',JP⟩:=qQL.1 mQ;have:=(qWE (l:=es.map (·.2.2)) (i:=a) (j:=a') (by have:=(qQZ.1 ha).1;simpa using this) hM.uZ).1 (by rw[qQX,qQX,ha,JP];simp[h]);subst this;rw[ha] at JP;cases JP;rfl
def W2 {es:List dD}{clock:Nat}(hM:gh es clock){e e':dD}(he:e∈es)(mQ:e'∈es)(h:e'.1=e.1):e'=e:=by
 obtain⟨a,ha⟩:=qQL.1 he;obtain⟨a',JP⟩:=qQL.1 mQ;have:=(qWE (l:=es.map (·.1)) (i:=a) (j:=a') (by have:=(qQZ.1 ha).1;simpa using this) hM.keys).1 (by rw[qQX,qQX,ha,JP];simp[h]);subst this;rw[ha] at JP;cases JP;rfl
def wI.skip {C:Type}{M:eG C}{cfg:List C}{es:List dD}{clock:Nat}{seen:List Nat}{L:List bL}(H:wI M cfg es seen L)(hM:gh es clock){e:dD}(he:e∈es){k:Nat}{c:C}(hk:e.1=(k:Int))(hc:cfg[k]?=some c)(hl:M.live c=false):wI M cfg es (seen++[e.2.2]) L:=by
 refine⟨λk' v=>(H.mem k' v).trans ⟨?_,?_⟩,H.nodup⟩
 .rintro⟨e',c',h1,h2,h3⟩;exact⟨e',c',h1,by simp[h2],h3⟩
 .rintro⟨e',c',h1,h2,h3,h4,h5,h6⟩;rcases qQE.1 h2 with h2|h2
  .exact⟨e',c',h1,h2,h3,h4,h5,h6⟩
  .have:=Gm hM he h1 (by simpa using h2);subst this;rw[hk]at h3;obtain rfl:k=k':=by omega
   rw[hc]at h5;cases h5;rw[hl]at h6;cases h6
def wI.add {C:Type}{M:eG C}{cfg:List C}{es:List dD}{clock:Nat}{seen:List Nat}{L:List bL}(H:wI M cfg es seen L)(hM:gh es clock){e:dD}(he:e∈es)(hs:e.2.2∉seen){k:Nat}{c:C}(hk:e.1=(k:Int))(hc:cfg[k]?=some c)(hl:M.live c=true):wI M cfg es (seen++[e.2.2]) (L++[(k,e.2.1)]):=by
 refine⟨λk' v=>?_,?_⟩
 .rw[qQE,H.mem];constructor
  .rintro(⟨e',c',h1,h2,h3⟩|h)
   .exact⟨e',c',h1,by simp[h2],h3⟩
   .simp only[qZN,qQA]at h;obtain⟨rfl,rfl⟩:=h;exact⟨e,c,he,by simp,hk,rfl,hc,hl⟩
  .rintro⟨e',c',h1,h2,h3,h4,h5,h6⟩;rcases qQE.1 h2 with h2|h2
   .exact .inl ⟨e',c',h1,h2,h3,h4,h5,h6⟩
   .have:=Gm hM he h1 (by simpa using h2);subst this;rw[hk]at h3;obtain rfl:k=k':=by omega
    subst h4;exact .inr (by simp)
 .rw[qJW,List.nodup_append];refine⟨H.nodup,by simp,?_⟩;intro a ha b hb;simp only[qZW,List.map_nil,qZN]at hb;subst hb;rintro rfl;obtain⟨⟨k',v⟩,hx,rfl⟩:=qQB.1 ha;obtain⟨e',c',h1,h2,h3,_⟩:=(H.mem k' v).1 hx;have:=W2 hM he h1 (by rw[h3,hk]);subst this;exact hs h2
def dK {E:Env}{fr:Fr}{h:aa}{K:ae->aa->Prop}{r:au}{n:String}{args:List au}:wo E (.invoke r n args) fr h K=xg E (aJ r fr) n (jw args fr) h K:=aL
attribute [local go_sem] dK
def fD.skip {n0:Nat}{h h':aa}(H:fD n0 h h')(n:Nat):fD n0 h (h'.skip n):=⟨by have:=H.next;show h.next<=h'.next+n;omega,H.get⟩
def kQ (L:List bL):(L.map aV).flatten.length=L.length*2:=ml (encA:=aV) (λ_=>rfl) L
def PH {Qn Qr:Fr->aa->Prop}{Qx:Nat->Fr->aa->Prop}{M:eG Int}{mv:ae}{n0:Nat}{I:aa->Prop}{Good:Int->Prop}(O:Vh M (.int .i64) mv n0 I Good){aZ:Nat->Nat}{sb:Nat}{d:nD Int}{S:jV Int}(fr:Fr)(h:aa)
 (H:iP cq mv 101 n0 aZ h sb d S) (hg:∀c,c∈S.cfg->Good c) (hI:I h) {kb r:Nat} {es:List dD} {clock:Nat} (hM:gh es clock) (hkb:n0<=kb/\kb<h.next) (hr:n0<=r/\r<h.next) (DZ:r≠kb) (hrs:r≠sb) (Qi:∀b,aM d.cv b->b≠r) (gk:h.get kb=some (.map (es.map dF) clock)) (gr:h.get r=some (.mapIter (some kb) clock [] clock))
 (BZ:∀e,e∈es->∃k c,e.1=((k:Nat):Int)/\S.cfg[k]?=some c) (hlen:es.length<=1048576)
 (t0:fr.get 0=some (.ptr sb 0)) (t7:fr.get 7=some .af) (t15:fr.get 15=some (.ptr r 0))
 (hq:∀fr h' pv L seen,fr.get 7=some pv->dO h' 2 154 pv (L.map aV).flatten->(∀b,aM pv b->h.next<=b)->wI M S.cfg es seen L->(∀e,e∈es->e.2.2∈seen)->I h'->h.next<=h'.next->(∀b,n0<=b->b<h.next->b≠r->h'.get b=h.get b)->Qx 0 fr h'):kI Tryz.prog E2 (.loop rS) fr h Qn Qx Qr:=by
 refine kf (λdd fr h'=>fr.get 0=some (.ptr sb 0)/\fr.get 15=some (.ptr r 0)/\I h'/\h.next<=h'.next/\(∀b,n0<=b->b<h.next->b≠r->h'.get b=h.get b)/\∃(pv:ae)(L:List bL)(seen:List Nat),dd=jj es seen/\fr.get 7=some pv/\dO h' 2 154 pv (L.map aV).flatten/\(∀b,aM pv b->h.next<=b)/\wI M S.cfg es seen L/\L.length+jj es seen<=es.length/\h'.get r=some (.mapIter (some kb) clock seen clock)) (jj es []) ?_ ?_
 .refine⟨t0,t15,hI,qQY _,λ_ _ _ _=>rfl,.af,[],[],rfl,t7,.inl ⟨rfl,rfl⟩,λb hb=>(dx hb).elim,wI.nil _ _ _,?_,gr⟩;show 0+(es.filter _).length<=_;rw[qWQ];exact qVV _ _
 clear t0 t7 t15 gr hI;rintro dd fr h' ⟨t0,t15,hI,nO,wZ,pv,L,seen,hd,t7,own,XF,hL,hLl,gr⟩;have gk':h'.get kb=some (.map (es.map dF) clock):=(wZ kb hkb.1 hkb.2 (Ne.symm DZ)).trans gk;unfold rS;simp only[go_sem,t15];refine xq hM gr gk' (λjm=>?_) λe he hs=>?_
 .simp only[go_sem,Nat.reduceEqDiff,reduceCtorEq];exact hq _ _ pv L seen (by simp[T.ag,t7]) own XF hL jm hI nO wZ
 .obtain⟨k,c,hk,hc⟩:=BZ e he;obtain⟨mt,mx,rfl⟩:=O.iface;have dL:=xP he hs;have qZ:n0<=h'.next:=by have:=hr.1;omega
  have DO:I (h'.put r (.mapIter (some kb) clock (seen++[e.2.2]) clock)):=O.frame h' _ hI (fD.put (fD.refl _ _) hr.1 _);have gr2:(h'.put r (.mapIter (some kb) clock (seen++[e.2.2]) clock)).get r=some (.mapIter (some kb) clock (seen++[e.2.2]) clock):=aa.aj _ _ _;have go2:∀b,b≠r->(h'.put r (.mapIter (some kb) clock (seen++[e.2.2]) clock)).get b=h'.get b:=λb hb=>aa.ah _ _ (Ne.symm hb);have GL:(h'.put r (.mapIter (some kb) clock (seen++[e.2.2]) clock)).next=h'.next:=rfl;generalize h'.put r (.mapIter (some kb) clock (seen++[e.2.2]) clock)=h2 at DO gr2 go2 GL ⊢;have gk2:h2.get kb=some (.map (es.map dF) clock):=(go2 kb (Ne.symm DZ)).trans gk';obtain⟨a1,a2⟩:=H.lt;have gsb:h2.get sb=some (.cells [.iface mt mx,.map d.nb,d.cv,.map d.tb,d.pv,d.dv] 101):=(go2 sb (Ne.symm hrs)).trans ((wZ sb a1 a2 (Ne.symm hrs)).trans H.obj);have l0:aN h2 sb 0=some (.iface mt mx):=by rw[aq gsb];rfl
  have l2:aN h2 sb 2=some d.cv:=by rw[aq gsb];rfl
  have KP:dO h2 2 154 pv (L.map aV).flatten:=own.frame (by omega) λb hb=>go2 b (by have:=XF b hb;omega);have ny:cg h 1 d.cv (S.cfg.map cq.cells):=H.c.own.cg (λx hx=>by obtain⟨a,_,rfl⟩:=qQB.1 hx;rfl) (by decide) (λx hx=>by rw[pE]at hx;obtain⟨a,_,rfl⟩:=qQB.1 hx;rfl);have aki:cg h2 1 d.cv (S.cfg.map cq.cells):=ny.frame (by omega) λb hb=>(go2 b (Qi b hb)).trans (wZ b (H.c.qj b hb).1 (H.c.qj b hb).2.1 (Qi b hb));obtain⟨bb,oo,di,fU⟩:=aki.ix (j:=k) (x:=[.int .i64 c]) (by rw[qQX,hc];rfl);have lc:aN h2 bb oo=some (.int .i64 c):=di.aN (i:=0) rfl;have akL:∀h' K,fI 1 d.cv (.int .i64 e.1) h' K=K (.ptr bb oo) h':=λh' K=>fU .i64 e.1 h' K hk;simp only[go_sem,Nat.reduceEqDiff,reduceCtorEq,t0,t15,kK hM gr2 gk2 he,l0,l2,akL,lc];refine O.live c _ _ (hg c (qQK hc)) (by show n0<=h2.next+14;omega) (O.frame h2 _ DO ((fD.refl _ _).skip 14)) λh3 DP hk3=>?_;have uQ:=hk3.next;have uQ:h2.next+14<=h3.next:=uQ;have lZ:∀b,n0<=b->b<h2.next->h3.get b=h2.get b:=λb hb wX=>hk3.get b hb (by show b<h2.next+14;omega);have aht:dO h3 2 154 pv (L.map aV).flatten:=KP.frame (by omega) λb hb=>lZ b (by have:=XF b hb;omega) (KP.rm hb);by_cases hl:M.live c=true
  .simp only[go_sem,Nat.reduceEqDiff,Nat.reduceAdd,Nat.reduceLeDiff,t7,hl];have Tc:∀b,n0<=b->b<h.next->b≠r->h3.get b=h.get b:=λb x1 x2 x3=>(lZ b x1 (by omega)).trans ((go2 b x3).trans (wZ b x1 x2 x3));refine qd aht [.int .i64 e.1,.int .i64 e.2.1] rfl (by decide) (by simp[ae.flat]) (by rw[kQ];omega) ?_;intro v' h4 JZ JY rn SS;simp only[go_sem,Nat.reduceEqDiff,reduceCtorEq,t0,t7,t15];refine⟨jj es (seen++[e.2.2]),by omega,?_⟩;have vD:∀b,aM v' b->b=h3.next+1:=λb hb=>fu SS hb;have hpr:∀b,aM pv b->b≠r:=λb hb=>by have:=XF b hb;omega
   refine⟨O.frame h3 _ DP ⟨by omega,λb hb=>rn b (by omega) λiB=>by have:=XF b iB;omega⟩,by omega,λb x1 x2 x3=>(rn b (by omega) λiB=>by have:=XF b iB;omega).trans (Tc b x1 x2 x3),v',L++[(k,e.2.1)],seen++[e.2.2],rfl,rfl,?_,λb hb=>by have:=vD b hb;omega,hL.add hM he hs hk hc hl,by rw[qQM];simp;omega,?_⟩
   .have e1:((L++[(k,e.2.1)]).map aV).flatten=(L.map aV).flatten++[.int .i64 e.1,.int .i64 e.2.1]:=by rw[hk];simp[aV]
    rw[e1];exact JZ
   .exact(rn r (by omega) λhb=>hpr r hb rfl).trans ((lZ r hr.1 (by omega)).trans gr2)
  .have hl:M.live c=false:=by simpa using hl
   simp only[go_sem,Nat.reduceEqDiff,reduceCtorEq,t0,t7,t15,hl];refine⟨jj es (seen++[e.2.2]),by omega,DP,by omega,λb x1 x2 x3=>(lZ b x1 (by omega)).trans ((go2 b x3).trans (wZ b x1 x2 x3)),pv,L,seen++[e.2.2],rfl,rfl,aht,XF,hL.skip hM he hk hc hl,by omega,(lZ r hr.1 (by omega)).trans gr2⟩
def wv (m:Int):Nat->List bL->List bL
 |0,l=>l
 |_+1,[]=>[]
 |i+1,x :: l=>(x.1,x.2-m) :: wv m i l
def Ie {m:Int}:∀(i:Nat)(l:List bL),(wv m i l)[i]?=l[i]?
 |0,l=>rfl
 |i+1,[]=>rfl
 |i+1,x :: l=>by simpa[wv] using Ie (m:=m) i l
def Bs {m:Int}:∀(i:Nat)(l:List bL),(wv m i l).length=l.length
 |0,l=>rfl
 |i+1,[]=>rfl
 |i+1,x :: l=>by simp[wv,Bs i l]
def Ig {m:Int}:∀(i:Nat)(l:List bL)(x:bL),l[i]?=some x->((wv m i l).map aV).flatten.set (i*2+1) (.int .i64 (x.2-m))=((wv m (i+1) l).map aV).flatten
 |0,y :: l,x,h=>by
  simp at h;subst h;show(aV y++(l.map aV).flatten).set 1 _=aV (y.1,y.2-m)++((wv m 0 l).map aV).flatten;rfl
 |i+1,y :: l,x,h=>by
  have ih:=Ig (m:=m) i l x (by simpa using h);show(aV (y.1,y.2-m)++((wv m i l).map aV).flatten).set ((i+1)*2+1) _=aV (y.1,y.2-m)++((wv m (i+1) l).map aV).flatten;rw[List.set_append_right _ _ (by show 2<=_;omega),<-ih];congr 2;show(i+1)*2+1-2=_;omega
def Ic {m:Int}:∀(l:List bL),wv m l.length l=l.map λx=>(x.1,x.2-m)
 |[]=>rfl
 |x :: l=>by
  show(x.1,x.2-m) :: wv m l.length l=_;rw[Ic l];rfl
def PI {Qn Qr:Fr->aa->Prop}{Qx:Nat->Fr->aa->Prop}(fr:Fr)(h:aa)(qs:List bL)(b c:Nat)(ex:Bool)(hb:b<h.next)(hg:h.get b=some (.cells (qs.map aV).flatten 154))(m0:Int)(ZS:∃x,x∈qs/\x.2=m0)(hl:qs.length<=1048576)
 (t7:fr.get 7=some (.slice b 0 qs.length c ex)) (t10:fr.get 10=some (.int .i64 m0)) (t50:fr.get 50=some (.slice b 0 qs.length c ex)) (t51:fr.get 51=some (.int .i64 (qs.length:Int))) (t52:fr.get 52=some (.int .i64 0))
 (hq:∀fr h' m,fr.get 7=some (.slice b 0 qs.length c ex)->fr.get 10=some (.int .i64 m)->(∃x,x∈qs/\x.2=m)->(∀x,x∈qs->m<=x.2)->aU h h'->Qx 2 fr h'):kI Tryz.prog E2 (.loop rT) fr h Qn Qx Qr:=by
 refine kf (λd fr h'=>fr.get 7=some (.slice b 0 qs.length c ex)/\fr.get 50=some (.slice b 0 qs.length c ex)/\fr.get 51=some (.int .i64 (qs.length:Int))/\aU h h'/\∃(i:Nat)(m:Int),fr.get 52=some (.int .i64 (i:Int))/\fr.get 10=some (.int .i64 m)/\d+i=qs.length/\(∃x,x∈qs/\x.2=m)/\∀x,x∈qs.take i->m<=x.2) qs.length ?_ ?_
 .exact⟨t7,t50,t51,aU.refl h,0,m0,t52,t10,by omega,ZS,by simp⟩
 clear t7 t10 t50 t51 t52;rintro d fr h' ⟨t7,t50,t51,hle,i,m,t52,t10,hd,hm,ie⟩;unfold rT;by_cases hc:(i:Int)<(qs.length:Int)
 .obtain⟨x,hx⟩:∃x,qs[i]?=some x:=⟨_,qQW (by omega)⟩;have hw:IntKind.i64.wrap ((i:Int)+1)=((i+1:Nat):Int):=by rw[wrap_i64 (by omega) (by omega)];push_cast;rfl
  have hS:cg h 2 (.slice b 0 qs.length c ex) (qs.map aV):=⟨λy hy=>by obtain⟨a,_,rfl⟩:=qQB.1 hy;rfl,.inr ⟨b,0,c,ex,by rw[qQD],.inr (fP.ed hb hg λy hy=>by obtain⟨z,hz,hyz⟩:=qJD.1 hy;obtain⟨a,_,rfl⟩:=qQB.1 hz;simp[aV]at hyz;rcases hyz with rfl|rfl<;>rfl)⟩⟩;obtain⟨bb,o,di,fU⟩:=hS.ix (j:=i) (x:=aV x) (by rw[qQX,hx];rfl)
  have hN:eI h' bb o 2=some (aV x):=by
   have:=(di.mono hle).eI (i:=0) (n:=2) (by simp[aV]);simpa[aV] using this
  have ib:over [ae.int .i64 0,.int .i64 0] 0 (aV x)=aV x:=rfl;have jX:(aV x).length=2:=rfl;have Fb:(aV x)[1]?=some (.int .i64 x.2):=rfl;simp only[go_sem,Nat.reduceEqDiff,Nat.reduceAdd,reduceCtorEq,t7,t10,t50,t51,t52,hc,fU .i64 (i:Int) h' _ rfl,hN,ib,jX,Fb,hw];refine⟨d-1,by omega,hle.push _,i+1,min m x.2,rfl,rfl,by omega,?_,?_⟩
  .obtain⟨y,hy,hym⟩:=hm;by_cases Iz:m<=x.2
   .exact⟨y,hy,by omega⟩
   .exact⟨x,qQK hx,by omega⟩
  .intro y hy;rw[qJM,hx]at hy;rcases qQE.1 hy with hy|hy
   .have:=ie y hy;omega
   .simp at hy;subst hy;omega
 .obtain rfl:i=qs.length:=by omega
  simp only[go_sem,reduceCtorEq,t51,t52,hc];exact hq _ _ m (by simp[T.ag,t7]) (by simp[T.ag,t10]) hm (by simpa using ie) hle
def PJ {Qn Qr:Fr->aa->Prop}{Qx:Nat->Fr->aa->Prop}(fr:Fr)(h:aa)(qs:List bL)(b c:Nat)(ex:Bool)(hb:b<h.next)(hg:h.get b=some (.cells (qs.map aV).flatten 154))(m:Int)(hl:qs.length<=1048576)(hbd:∀x,x∈qs->-4611686018427387904<x.2/\x.2<4611686018427387904)(hm:-4611686018427387904<m/\m<4611686018427387904)
 (t7:fr.get 7=some (.slice b 0 qs.length c ex)) (t10:fr.get 10=some (.int .i64 m)) (t62:fr.get 62=some (.int .i64 (qs.length:Int))) (t63:fr.get 63=some (.int .i64 0))
 (hq:∀fr h',fr.get 7=some (.slice b 0 qs.length c ex)->fr.get 10=some (.int .i64 m)->h'.next=h.next->(∀x,x≠b->h'.get x=h.get x)->h'.get b=some (.cells ((qs.map λx=>((x.1,x.2-m):bL)).map aV).flatten 154)->Qx 4 fr h'):kI Tryz.prog E2 (.loop rU) fr h Qn Qx Qr:=by
 refine kf (λd fr h'=>fr.get 7=some (.slice b 0 qs.length c ex)/\fr.get 10=some (.int .i64 m)/\fr.get 62=some (.int .i64 (qs.length:Int))/\h'.next=h.next/\(∀x,x≠b->h'.get x=h.get x)/\∃(i:Nat),fr.get 63=some (.int .i64 (i:Int))/\d+i=qs.length/\h'.get b=some (.cells ((wv m i qs).map aV).flatten 154)) qs.length ?_ ?_
 .exact⟨t7,t10,t62,rfl,λ_ _=>rfl,0,t63,by omega,hg⟩
 clear t7 t10 t62 t63 hg;rintro d fr h' ⟨t7,t10,t62,nO,wZ,i,t63,hd,hg⟩;unfold rU;by_cases hc:(i:Int)<(qs.length:Int)
 .obtain⟨x,hx⟩:∃x,qs[i]?=some x:=⟨_,qQW (by omega)⟩;obtain⟨DQ,wX⟩:=hbd x (qQK hx);have hw:IntKind.i64.wrap ((i:Int)+1)=((i+1:Nat):Int):=by rw[wrap_i64 (by omega) (by omega)];push_cast;rfl
  have GS:IntKind.i64.wrap (x.2-m)=x.2-m:=wrap_i64 (by omega) (by omega)
  have rA:aN h' b (i*2+1)=some (.int .i64 x.2):=by
   rw[aq hg,pD (encA:=aV) (k:=2) (by omega) (λ_=>rfl) _ _ (by rw[Bs];omega)];rw[show(i*2+1) / 2=i by omega,show(i*2+1) % 2=1 by omega]
   have:(wv m i qs).toArray[i]! = x:=by
    have:=Ie (m:=m) i qs;rw[hx]at this;simp[List.getElem!_toArray,qVN,this]
   rw[this];rfl
  have cS:=aD (o:=i*2+1) (n:=1) (vs:=[.int .i64 (x.2-m)]) hg rfl (by rw[kQ,Bs];omega);rw[bW,Ig i qs x hx]at cS;have hz:0+i*2=i*2:=qWQ _;simp only[go_sem,Nat.reduceEqDiff,t7,t10,t62,t63,hc,dj (n:=qs.length) (j:=i) rfl (by omega),hz,rA,GS,cS,hw];exact⟨d-1,by omega,nO,λy hy=>(aa.ah _ _ (Ne.symm hy)).trans (wZ y hy),i+1,rfl,by omega,aa.aj _ _ _⟩
 .obtain rfl:i=qs.length:=by omega
  simp only[go_sem,reduceCtorEq,t62,t63,hc];rw[Ic]at hg;exact hq _ _ (by simp[T.ag,t7]) (by simp[T.ag,t10]) nO wZ hg
end
end Go.AX
