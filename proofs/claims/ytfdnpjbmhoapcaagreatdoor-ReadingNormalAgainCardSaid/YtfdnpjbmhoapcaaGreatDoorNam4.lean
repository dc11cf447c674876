/-
  Contracts of functions of this seat, for every input that each theorem names.
-/
import Derived.Test.YtfdnpjbmhoapcaaGreatDoorNam2
import Derived.Test.YtfdnpjbmhoapcaaGreatDoorNat3
import Derived.Test.YtfdnpjbmhoapcaaGreatDoorNax1
set_option linter.all false
set_option maxHeartbeats 32000000
set_option maxRecDepth 10000
namespace Go.AX
open Go Go.Proofs
noncomputable section
abbrev dD:=Int×Int×Nat
def dF (e:dD):ae×ae×Nat:=(.int .i64 e.1,.int .i64 e.2.1,e.2.2)
structure gh (es:List dD)(clock:Nat):Prop where
 keys:(es.map (·.1)).Nodup
 uZ:(es.map (·.2.2)).Nodup
 lt:∀e,e∈es->e.2.2<clock
def dW (es:List dD)(q:Int):Option Int:=(es.find? λe=>decide (e.1=q)).map (·.2.1)
def Fw (a b:Int):Dt (.one .i) (.int .i64 a) (.int .i64 b)=some (decide (a=b)):=by
 show aO (NJ .i64 .i64) (some (NI a b)) none=_;rw[lK];rfl
def wU (q:Int):∀(es:List dD)(i:Nat),(∃k p,dW es q=some k/\fZ (.one .i) (.int .i64 q) (es.map dF) i=some (some (i+p,.int .i64 k))/\∃n,es[p]?=some (q,k,n))\/(dW es q=none/\fZ (.one .i) (.int .i64 q) (es.map dF) i=some none)
 |[],i=>.inr ⟨rfl,rfl⟩
 |e :: es,i=>by
  have hs:fZ (.one .i) (.int .i64 q) ((e :: es).map dF) i=ob (Dt (.one .i) (.int .i64 q) (.int .i64 e.1)) λt=>aO t (some (some (i,.int .i64 e.2.1))) (fZ (.one .i) (.int .i64 q) (es.map dF) (i+1)):=rfl;rw[Fw]at hs;by_cases h:e.1=q
  .left;refine⟨e.2.1,0,by simp[dW,h],?_,e.2.2,by rw[<-h];rfl⟩;rw[hs];simp[ob,aO,h]
  .have hv:dW (e :: es) q=dW es q:=by simp[dW,h]
   have hd:decide (q=e.1)=false:=by simp;exact λx=>h x.symm
   have qx:fZ (.one .i) (.int .i64 q) ((e :: es).map dF) i=fZ (.one .i) (.int .i64 q) (es.map dF) (i+1):=by rw[hs,hd]
   rw[hv,qx];rcases wU q es (i+1) with⟨k,p,h1,h2,n,h3⟩|h1
   .exact .inl ⟨k,p+1,h1,by rw[h2,Nat.add_assoc,Nat.add_comm 1 p],n,by simpa using h3⟩
   .exact .inr h1
def pQ (es:List dD)(clock:Nat)(q k:Int):List dD:=if(dW es q).isSome then es.map (λe=>if e.1=q then(q,k,e.2.2) else e) else es++[(q,k,clock)]
def wb (es:List dD)(clock:Nat)(q:Int):Nat:=if(dW es q).isSome then clock else clock+1
def Dg {es:List dD}{q:Int}:dW es q=none↔∀e,e∈es->e.1≠q:=by
 unfold dW;rw[Option.map_eq_none_iff,qXQ];simp
def wz {es:List dD}{q k:Int}(h:dW es q=some k):∃n,(q,k,n)∈es:=by
 unfold dW at h;rw[qQC]at h;obtain⟨e,h1,rfl⟩:=h;have h2:=List.find?_some h1;have:e.1=q:=by simpa using h2
 exact⟨e.2.2,by rw[<-this];exact qWG h1⟩
def jk:∀{es:List dD}{e:dD},(es.map (·.1)).Nodup->e∈es->dW es e.1=some e.2.1
 |x :: es,e,hn,he=>by
  rw[qZW,List.nodup_cons]at hn;by_cases h:x.1=e.1
  .rcases qQF.1 he with rfl|he
   .simp[dW]
   .exact absurd (qQB.2 ⟨e,he,rfl⟩) (h▸hn.1)
  .rcases qQF.1 he with rfl|he
   .exact absurd rfl h
   .have:=jk hn.2 he;simp only[dW,List.find?_cons,h,decide_false]at this ⊢;exact this
def wA (es:List dD)(clock:Nat)(q k q':Int):dW (pQ es clock q k) q'=if q'=q then some k else dW es q':=by
 unfold pQ;split
 .rename_i hs
  have key:∀l:List dD,dW (l.map (λe=>if e.1=q then(q,k,e.2.2) else e)) q'=if q'=q then(if(dW l q).isSome then some k else none) else dW l q':=by
   intro l
   induction l with
   |nil=>simp[dW]
   |cons e l ih =>
    have hc:∀(e:dD)(l:List dD)(q:Int),dW (e :: l) q=if e.1=q then some e.2.1 else dW l q:=by
     intro e l q;by_cases h:e.1=q<;>simp[dW,h]
    rw[qZW,hc,ih,hc,hc];by_cases h1:e.1=q
    .rw[if_pos h1];by_cases h2:q'=q
     .subst h2;simp[h1]
     .have:¬q=q':=λx=>h2 x.symm;simp[h1,h2,this]
    .rw[if_neg h1];by_cases h2:q'=q
     .subst h2;simp[h1]
     .simp[h2]
  rw[key es,if_pos hs]
 .rename_i hs;have hs:dW es q=none:=by simpa using hs
  by_cases h2:q'=q
  .subst h2;rw[if_pos rfl];unfold dW at hs ⊢;rw[Option.map_eq_none_iff]at hs;rw[qWD,hs];simp
  .rw[if_neg h2];have:¬q=q':=λx=>h2 x.symm;unfold dW;rw[qWD];cases es.find? (λe=>decide (e.1=q')) with
   |some e=>rfl
   |none=>simp[this]
def gh.nil:gh [] 0:=⟨by simp,by simp,by simp⟩
def gh.put {es:List dD}{clock:Nat}(H:gh es clock)(q k:Int):gh (pQ es clock q k) (wb es clock q):=by
 unfold pQ wb;split
 .rename_i hs
  have h1:(es.map (λe=>if e.1=q then(q,k,e.2.2) else e)).map (·.1)=es.map (·.1):=by
   rw[qKJ];apply qJH;intro e _;by_cases h:e.1=q<;>simp[h]
  have h2:(es.map (λe=>if e.1=q then(q,k,e.2.2) else e)).map (·.2.2)=es.map (·.2.2):=by
   rw[qKJ];apply qJH;intro e _;by_cases h:e.1=q<;>simp[h]
  refine⟨by rw[h1];exact H.keys,by rw[h2];exact H.uZ,λe he=>?_⟩;have:e.2.2∈es.map (·.2.2):=by rw[<-h2];exact qQB.2 ⟨e,he,rfl⟩
  obtain⟨e',mQ,h⟩:=qQB.1 this;rw[<-h];exact H.lt e' mQ
 .rename_i hs;have hs:dW es q=none:=by simpa using hs
  rw[Dg]at hs;refine⟨?_,?_,λe he=>?_⟩
  .rw[qJW,List.nodup_append];refine⟨H.keys,by simp,λa ha b hb=>?_⟩;obtain⟨e,he,rfl⟩:=qQB.1 ha;simp at hb;subst hb;exact hs e he
  .rw[qJW,List.nodup_append];refine⟨H.uZ,by simp,λa ha b hb=>?_⟩;obtain⟨e,he,rfl⟩:=qQB.1 ha;simp at hb;subst hb;have:=H.lt e he;omega
  .rcases qQE.1 he with he|he
   .have:=H.lt e he;omega
   .simp at he;subst he;exact qJA _
theorem Mj (v:ae):nT (.one .i) v=true:=rfl
theorem PN (k:FK)(a b:ae):stays (.one k) a b=true:=rfl
def pR {r:Nat}{q k:Int}{h:aa}{es:List dD}{c:Nat}(H:gh es c)(hg:h.get r=some (.map (es.map dF) c)){K:ae->aa->Prop} :
 Yr (.one .i) (.map r) (.int .i64 q) (.int .i64 k) h K=K aT (h.put r (.map ((pQ es c q k).map dF) (wb es c q))):=by
 show Yq (.one .i) r (.int .i64 q) (.int .i64 k) h K (h.get r)=_;rw[hg]
 show(nT (.one .i) (.int .i64 q)=true/\cR (fZ (.one .i) (.int .i64 q) (es.map dF) 0) λi=>match i with
  |none=>K aT (h.put r (.map (es.map dF++[(.int .i64 q,.int .i64 k,c)]) (c+1)))
  |some p=>cR ((es.map dF)[p.1]?) λe=>stays (.one .i) e.1 (.int .i64 q)=true/\K aT (h.put r (.map ((es.map dF).modify p.1 λe=>(.int .i64 q,.int .i64 k,e.2.2)) c)))=_
 rw[Mj];rcases wU q es 0 with⟨k',p,h1,h2,n,h3⟩|⟨h1,h2⟩
 .rw[h2];have hp:(es.map dF)[p]?=some (dF (q,k',n)):=by rw[qQX,h3];rfl
  have he:(es.map dF).modify p (λe=>(.int .i64 q,.int .i64 k,e.2.2))=(es.map (λe=>if e.1=q then(q,k,e.2.2) else e)).map dF:=by
   apply qJF;intro i;rw[qJJ,qQX,qQX,qQX];cases hi:es[i]? with
   |none=>simp
   |some e =>
    by_cases hip:p=i
    .subst hip;rw[h3]at hi;cases hi;simp[dF]
    .have dV:e.1≠q:=by
      intro he;have tJ:=(qQZ.1 hi);have jz:=(qQZ.1 h3);obtain⟨a1,a2⟩:=tJ;obtain⟨b1,b2⟩:=jz;exact hip ((qWE (l:=es.map (·.1)) (by simpa using b1) H.keys).1 (by rw[qQX,qQX,hi,h3];simp[he]))
     simp[hip,dV]
  have cS:pQ es c q k=es.map (λe=>if e.1=q then(q,k,e.2.2) else e):=by unfold pQ;rw[h1];rfl
  have hc:wb es c q=c:=by unfold wb;rw[h1];rfl
  rw[cS,hc,<-he];simp only[jd,true_and,qWQ];rw[hp];simp only[jd,PN,true_and]
 .rw[h2];have cS:pQ es c q k=es++[(q,k,c)]:=by unfold pQ;rw[h1];rfl
  have hc:wb es c q=c+1:=by unfold wb;rw[h1];rfl
  rw[cS,hc];simp[jd,dF]
def mq {z:ae}{r:Nat}{q:Int}{h:aa}{es:List dD}{c:Nat}(hg:h.get r=some (.map (es.map dF) c)){K:ae->aa->Prop} :
 vT (.one .i) z (.map r) (.int .i64 q) true h K=match dW es q with
  |none=>K (.eC [z,.bool false]) h
  |some k=>K (.eC [.int .i64 k,.bool true]) h:=by
 unfold vT;rw[xl hg];simp only[jd,Mj,true_and];rcases wU q es 0 with⟨k',p,h1,h2,n,h3⟩|⟨h1,h2⟩
 .rw[h1,h2];rfl
 .rw[h1,h2];rfl
def UF (v:ae)(h:aa)(K:ae->aa->Prop):Prop:=cR (I.range (.c v) .nil h) λr=>K r.1 r.2
def cN {E:Env}{fr:Fr}{h:aa}{K:ae->aa->Prop}{x:au}:wo E (.range x) fr h K=UF (aJ x fr) h K:=aL
def uI {r:Nat}{h:aa}{es:List (ae×ae×Nat)}{c:Nat}(hg:h.get r=some (.map es c)){K:ae->aa->Prop}:UF (.map r) h K=K (.ptr h.next 0) (h.push (.mapIter (some r) c [] c)):=by
 show cR (jb (h.get r) λ_ clock=>some (ae.ptr h.next 0,h.push (.mapIter (some r) clock [] clock))) _=_;rw[hg];exact aL
def Su (v:ae)(h:aa)(K:ae->aa->Prop):Prop:=cR (I.entry (.c v) .nil h) λr=>K r.1 r.2
def cL {E:Env}{fr:Fr}{h:aa}{K:ae->aa->Prop}{x:au}:wo E (.entry x) fr h K=Su (aJ x fr) h K:=aL
def find_born {es:List dD}(hn:(es.map (·.2.2)).Nodup){e:dD}(he:e∈es):(es.map dF).find? (λx=>Nat.beq x.2.2 e.2.2)=some (dF e):=by
 induction es with
 |nil=>cases he
 |cons x es ih =>
  rw[qZW,List.nodup_cons]at hn;rw[qZW,List.find?_cons];by_cases h:x.2.2=e.2.2
  .have hx:Nat.beq (dF x).2.2 e.2.2=true:=by rw[qZX];exact h
   rw[hx];rcases qQF.1 he with rfl|he
   .rfl
   .exact absurd (qQB.2 ⟨e,he,rfl⟩) (h▸hn.1)
  .have hx:Nat.beq (dF x).2.2 e.2.2=false:=by
    rw[qWC];intro hc;rw[qZX]at hc;exact h hc
   rw[hx];rcases qQF.1 he with rfl|he
   .exact absurd rfl h
   .exact ih hn.2 he
def kK {r m since clock:Nat}{seen:List Nat}{es:List dD}{e:dD}{h:aa}(H:gh es clock)(hr:h.get r=some (.mapIter (some m) since (seen++[e.2.2]) clock))(hm:h.get m=some (.map (es.map dF) clock))(he:e∈es){K:ae->aa->Prop} :
 Su (.ptr r 0) h K=K (.eC [.int .i64 e.1,.int .i64 e.2.1]) h:=by
 show cR (aO (Nat.beq 0 0) (zb (h.get r) λm _ seen th=>ob m λm=>ob seen.getLast? λri=>jb (h.get m) λes clock =>
  aO (Nat.beq clock th) (ob (es.find? (λe=>Nat.beq e.2.2 ri)) λe=>some (ae.eC [e.1,e.2.1],h)) none) none) _=_
 rw[hr];show cR (ob (seen++[e.2.2]).getLast? λri=>jb (h.get m) λes c2=>aO (Nat.beq c2 clock) (ob (es.find? (λe=>Nat.beq e.2.2 ri)) λe=>some (ae.eC [e.1,e.2.1],h)) none) _=_;rw[List.getLast?_append];show cR (jb (h.get m) λes c2=>aO (Nat.beq c2 clock) (ob (es.find? (λx=>Nat.beq x.2.2 e.2.2)) λe=>some (ae.eC [e.1,e.2.1],h)) none) _=_;rw[hm];show cR (aO (Nat.beq clock clock) (ob ((es.map dF).find? (λx=>Nat.beq x.2.2 e.2.2)) λe=>some (ae.eC [e.1,e.2.1],h)) none) _=_;rw[find_born H.uZ he,bq,if_pos (by simp)];exact aL
def xq {r m clock:Nat}{seen:List Nat}{es:List dD}{h:aa}(H:gh es clock)(hr:h.get r=some (.mapIter (some m) clock seen clock))(hm:h.get m=some (.map (es.map dF) clock)){K:ae->aa->Prop}
 (h0:(∀e,e∈es->e.2.2∈seen)->K (.eC [.bool false]) h)
 (h1:∀e,e∈es->e.2.2∉seen->K (.eC [.bool true,.int .i64 e.1,.int .i64 e.2.1]) (h.put r (.mapIter (some m) clock (seen++[e.2.2]) clock))):yh (.ptr r 0) h K:=by
 have eE:∀x,x∈es.map dF->∃e,e∈es/\dF e=x:=λx hx=>qQB.1 hx;refine⟨r,m,clock,seen,clock,es.map dF,clock,rfl,hr,hm,?_,?_,?_,?_⟩
 .cases es with
  |nil=>simp
  |cons e es =>
   have:=H.lt e (by simp)
   have hb:Nat.ble clock (dF e).2.2=false:=by
    rw[qWC];intro hc;rw[qZB]at hc;exact absurd this (by show ¬e.2.2<clock;have:clock<=e.2.2:=hc;omega)
   simp[hb]
 .rintro x hx _;obtain⟨e,he,rfl⟩:=eE x hx;exact H.lt e he
 .intro jm;refine h0 λe he=>?_;have:=jm (dF e) (qQB.2 ⟨e,he,rfl⟩);simpa[dF] using this
 .intro x hx hs;obtain⟨e,he,rfl⟩:=eE x hx;refine h1 e he ?_;have:seen.contains e.2.2=false:=hs;intro hc;rw[List.contains_iff_mem.2 hc]at this;cases this
structure MS {κ:Type}[DecidableEq κ](kk:iH)(ek:κ->ae):Prop where
 beq:∀a b,Dt kk (ek a) (ek b)=some (decide (a=b))
 ok:∀a,nT kk (ek a)=true
 st:∀a,stays kk (ek a) (ek a)=true
def fV {κ υ:Type}(ek:κ->ae)(ev:υ->ae)(e:κ×υ×Nat):ae×ae×Nat:=(ek e.1,ev e.2.1,e.2.2)
section
variable{κ υ:Type}[DecidableEq κ]{kk:iH}{ek:κ->ae}{ev:υ->ae}
structure uV (es:List (κ×υ×Nat))(clock:Nat):Prop where
 keys:(es.map (·.1)).Nodup
 uZ:(es.map (·.2.2)).Nodup
 lt:∀e,e∈es->e.2.2<clock
def cX (es:List (κ×υ×Nat))(q:κ):Option υ:=(es.find? λe=>decide (e.1=q)).map (·.2.1)
def qo (hK:MS kk ek)(q:κ):∀(es:List (κ×υ×Nat))(i:Nat),(∃k p,cX es q=some k/\fZ kk (ek q) (es.map (fV ek ev)) i=some (some (i+p,ev k))/\∃n,es[p]?=some (q,k,n))\/(cX es q=none/\fZ kk (ek q) (es.map (fV ek ev)) i=some none)
 |[],i=>.inr ⟨rfl,rfl⟩
 |e :: es,i=>by
  have hs:fZ kk (ek q) ((e :: es).map (fV ek ev)) i=ob (Dt kk (ek q) (ek e.1)) λt=>aO t (some (some (i,ev e.2.1))) (fZ kk (ek q) (es.map (fV ek ev)) (i+1)):=rfl;rw[hK.beq]at hs;by_cases h:e.1=q
  .left;refine⟨e.2.1,0,by simp[cX,h],?_,e.2.2,by rw[<-h];rfl⟩;rw[hs];simp[ob,aO,h]
  .have hv:cX (e :: es) q=cX es q:=by simp[cX,h]
   have hd:decide (q=e.1)=false:=by simp;exact λx=>h x.symm
   have qx:fZ kk (ek q) ((e :: es).map (fV ek ev)) i=fZ kk (ek q) (es.map (fV ek ev)) (i+1):=by rw[hs,hd]
   rw[hv,qx];rcases qo hK q es (i+1) with⟨k,p,h1,h2,n,h3⟩|h1
   .exact .inl ⟨k,p+1,h1,by rw[h2,Nat.add_assoc,Nat.add_comm 1 p],n,by simpa using h3⟩
   .exact .inr h1
def jA (es:List (κ×υ×Nat))(clock:Nat)(q:κ)(k:υ):List (κ×υ×Nat):=if(cX es q).isSome then es.map (λe=>if e.1=q then(q,k,e.2.2) else e) else es++[(q,k,clock)]
def hU (es:List (κ×υ×Nat))(clock:Nat)(q:κ):Nat:=if(cX es q).isSome then clock else clock+1
def PR {es:List (κ×υ×Nat)}{q:κ}:cX es q=none↔∀e,e∈es->e.1≠q:=by
 unfold cX;rw[Option.map_eq_none_iff,qXQ];simp
def sL (es:List (κ×υ×Nat))(clock:Nat)(q:κ)(k:υ)(q':κ):cX (jA es clock q k) q'=if q'=q then some k else cX es q':=by
 unfold jA;split
 .rename_i hs
  have key:∀l:List (κ×υ×Nat),cX (l.map (λe=>if e.1=q then(q,k,e.2.2) else e)) q'=if q'=q then(if(cX l q).isSome then some k else none) else cX l q':=by
   intro l
   induction l with
   |nil=>simp[cX]
   |cons e l ih =>
    have hc:∀(e:(κ×υ×Nat))(l:List (κ×υ×Nat))(q:κ),cX (e :: l) q=if e.1=q then some e.2.1 else cX l q:=by
     intro e l q;by_cases h:e.1=q<;>simp[cX,h]
    rw[qZW,hc,ih,hc,hc];by_cases h1:e.1=q
    .rw[if_pos h1];by_cases h2:q'=q
     .subst h2;simp[h1]
     .have:¬q=q':=λx=>h2 x.symm;simp[h1,h2,this]
    .rw[if_neg h1];by_cases h2:q'=q
     .subst h2;simp[h1]
     .simp[h2]
  rw[key es,if_pos hs]
 .rename_i hs;have hs:cX es q=none:=by simpa using hs
  by_cases h2:q'=q
  .subst h2;rw[if_pos rfl];unfold cX at hs ⊢;rw[Option.map_eq_none_iff]at hs;rw[qWD,hs];simp
  .rw[if_neg h2];have:¬q=q':=λx=>h2 x.symm;unfold cX;rw[qWD];cases es.find? (λe=>decide (e.1=q')) with
   |some e=>rfl
   |none=>simp[this]
def uV.nil:uV ([]:List (κ×υ×Nat)) 0:=⟨by simp,by simp,by simp⟩
def uV.put {es:List (κ×υ×Nat)}{clock:Nat}(H:uV es clock)(q:κ)(k:υ):uV (jA es clock q k) (hU es clock q):=by
 unfold jA hU;split
 .rename_i hs
  have h1:(es.map (λe=>if e.1=q then(q,k,e.2.2) else e)).map (·.1)=es.map (·.1):=by
   rw[qKJ];apply qJH;intro e _;by_cases h:e.1=q<;>simp[h]
  have h2:(es.map (λe=>if e.1=q then(q,k,e.2.2) else e)).map (·.2.2)=es.map (·.2.2):=by
   rw[qKJ];apply qJH;intro e _;by_cases h:e.1=q<;>simp[h]
  refine⟨by rw[h1];exact H.keys,by rw[h2];exact H.uZ,λe he=>?_⟩;have:e.2.2∈es.map (·.2.2):=by rw[<-h2];exact qQB.2 ⟨e,he,rfl⟩
  obtain⟨e',mQ,h⟩:=qQB.1 this;rw[<-h];exact H.lt e' mQ
 .rename_i hs;have hs:cX es q=none:=by simpa using hs
  rw[PR]at hs;refine⟨?_,?_,λe he=>?_⟩
  .rw[qJW,List.nodup_append];refine⟨H.keys,by simp,λa ha b hb=>?_⟩;obtain⟨e,he,rfl⟩:=qQB.1 ha;simp at hb;subst hb;exact hs e he
  .rw[qJW,List.nodup_append];refine⟨H.uZ,by simp,λa ha b hb=>?_⟩;obtain⟨e,he,rfl⟩:=qQB.1 ha;simp at hb;subst hb;have:=H.lt e he;omega
  .rcases qQE.1 he with he|he
   .have:=H.lt e he;omega
   .simp at he;subst he;exact qJA _
def ta (hK:MS kk ek){r:Nat}{q:κ}{k:υ}{h:aa}{es:List (κ×υ×Nat)}{c:Nat}(H:uV es c)(hg:h.get r=some (.map (es.map (fV ek ev)) c)){K:ae->aa->Prop} :
 Yr kk (.map r) (ek q) (ev k) h K=K aT (h.put r (.map ((jA es c q k).map (fV ek ev)) (hU es c q))):=by
 show Yq kk r (ek q) (ev k) h K (h.get r)=_;rw[hg]
 show(nT kk (ek q)=true/\cR (fZ kk (ek q) (es.map (fV ek ev)) 0) λi=>match i with
  |none=>K aT (h.put r (.map (es.map (fV ek ev)++[(ek q,ev k,c)]) (c+1)))
  |some p=>cR ((es.map (fV ek ev))[p.1]?) λe=>stays kk e.1 (ek q)=true/\K aT (h.put r (.map ((es.map (fV ek ev)).modify p.1 λe=>(ek q,ev k,e.2.2)) c)))=_
 rw[hK.ok];rcases qo hK q es 0 with⟨k',p,h1,h2,n,h3⟩|⟨h1,h2⟩
 .rw[h2];have hp:(es.map (fV ek ev))[p]?=some (fV ek ev (q,k',n)):=by rw[qQX,h3];rfl
  have he:(es.map (fV ek ev)).modify p (λe=>(ek q,ev k,e.2.2))=(es.map (λe=>if e.1=q then(q,k,e.2.2) else e)).map (fV ek ev):=by
   apply qJF;intro i;rw[qJJ,qQX,qQX,qQX];cases hi:es[i]? with
   |none=>simp
   |some e =>
    by_cases hip:p=i
    .subst hip;rw[h3]at hi;cases hi;simp[fV]
    .have dV:e.1≠q:=by
      intro he;have tJ:=(qQZ.1 hi);have jz:=(qQZ.1 h3);obtain⟨a1,a2⟩:=tJ;obtain⟨b1,b2⟩:=jz;exact hip ((qWE (l:=es.map (·.1)) (by simpa using b1) H.keys).1 (by rw[qQX,qQX,hi,h3];simp[he]))
     simp[hip,dV]
  have cS:jA es c q k=es.map (λe=>if e.1=q then(q,k,e.2.2) else e):=by unfold jA;rw[h1];rfl
  have hc:hU es c q=c:=by unfold hU;rw[h1];rfl
  rw[cS,hc,<-he];simp only[jd,true_and,qWQ];rw[hp];simp only[jd,fV,hK.st,true_and]
 .rw[h2];have cS:jA es c q k=es++[(q,k,c)]:=by unfold jA;rw[h1];rfl
  have hc:hU es c q=c+1:=by unfold hU;rw[h1];rfl
  rw[cS,hc];simp[jd,fV]
def jQ (hK:MS kk ek){z:ae}{r:Nat}{q:κ}{h:aa}{es:List (κ×υ×Nat)}{c:Nat}(hg:h.get r=some (.map (es.map (fV ek ev)) c)){K:ae->aa->Prop} :
 vT kk z (.map r) (ek q) true h K=match cX es q with
  |none=>K (.eC [z,.bool false]) h
  |some k=>K (.eC [ev k,.bool true]) h:=by
 unfold vT;rw[xl hg];simp only[jd,hK.ok,true_and];rcases qo hK q es 0 with⟨k',p,h1,h2,n,h3⟩|⟨h1,h2⟩
 .rw[h1,h2];rfl
 .rw[h1,h2];rfl
end
end
end Go.AX
