/-
  Contracts of functions of this seat, for every input that each theorem names.
-/
import Derived.Test.YtfdnpjbmhoapcaaGreatDoorNam1
import Derived.Test.YtfdnpjbmhoapcaaGreatDoorNas1
import Derived.Test.YtfdnpjbmhoapcaaGreatDoorNax1
set_option linter.all false
set_option maxHeartbeats 32000000
set_option maxRecDepth 10000
namespace Go.AX
open Go Go.Proofs
noncomputable section
theorem aa.AA (n b:Nat)(t:T aE)(o:aE):(⟨n,(aa.put ⟨n,t⟩ b o).t⟩:aa)=aa.put ⟨n,t⟩ b o:=rfl
theorem aa.xm (h:aa)(n b:Nat)(o:aE):(⟨h.next+n,(aa.put (h.skip n) b o).t⟩:aa)=aa.put (h.skip n) b o:=rfl
theorem aa.uv (h:aa)(n b b2:Nat)(o o2:aE):(⟨h.next+n,(aa.put (aa.put (h.skip n) b2 o2) b o).t⟩:aa)=aa.put (aa.put (h.skip n) b2 o2) b o:=rfl
theorem aa.uw (h:aa)(n b b2 b3:Nat)(o o2 o3:aE):(⟨h.next+n,(aa.put (aa.put (aa.put (h.skip n) b3 o3) b2 o2) b o).t⟩:aa)=aa.put (aa.put (aa.put (h.skip n) b3 o3) b2 o2) b o:=rfl
theorem aa.xn (h:aa)(n:Nat):(⟨h.next+n,(h.skip n).t⟩:aa)=h.skip n:=rfl
def s9 {h:aa}{b o n:Nat}{vs c:List ae}{e:TypeId}(hv:vs.length=n)(hn:o+n<=c.length):putAt (h.put b (.cells c e)) b o n vs=some (h.put b (.cells (over c o vs) e)):=by
 rw[aD (aa.aj _ _ _) hv hn,aa.Ys]
def bW (v:ae):∀(l:List ae)(n:Nat),over l n [v]=l.set n v
 |[],0=>rfl
 |[],n+1=>rfl
 |a :: l,0=>rfl
 |a :: l,n+1=>by
  show a :: over l n [v]=_;rw[bW v l n];rfl
def HN (z:List ae):∀n,sy n z=(List.replicate n z).flatten
 |0=>rfl
 |n+1=>by
  show gd z (sy n z)=_;rw[gQ,HN z n];simp[qVB]
def X2 (e:TypeId)(z:List ae)(P':Nat)(l c:ae)(h:aa)(K:ae->aa->Prop):Prop:=cR (I.mkSlice e z P' (.c l) (.c c) .nil h) λr=>K r.1 r.2
def iz {E:Env}{fr:Fr}{h:aa}{K:ae->aa->Prop}{e:TypeId}{z:List ae}{P':Nat}{l c:au}:wo E (.mkSlice e z P' l c) fr h K=X2 e z P' (aJ l fr) (aJ c fr) h K:=aL
def oO {e:TypeId}{z:List ae}{P':Nat}{k k':IntKind}{n:Int}{m:Nat}(hn:n=(m:Int))(hb:m*P'<=1073741824)(wX:m<=1073741824){h:aa}{K:ae->aa->Prop} :
 X2 e z P' (.int k n) (.int k' n) h K=K (.slice h.next 0 m m true) (h.push (.cells (List.replicate m z).flatten e)):=by
 subst hn;unfold X2;show cR (aO (and (Nat.ble m m) (and (Nat.ble (Nat.mul m P') 1073741824) (Nat.ble m 1073741824))) (some (ae.slice h.next 0 m m true,h.push (.cells (sy m z) e))) none) _=_
 rw[bq,if_pos (by
  simp only[qZQ,qZB,qQY,true_and];exact⟨hb,wX⟩),HN]
 exact aL
def jl (v:ae)(n:Nat):(List.replicate n [v]).flatten=List.replicate n v:=by
 induction n with
 |zero=>rfl
 |succ n ih=>rw[qVB,qZA,ih];rfl
def cg.of1 {h:aa}{b:Nat}{vs:List ae}{e:TypeId}{c:Nat}{ex:Bool}(hb:b<h.next)(hg:h.get b=some (.cells vs e))(hf:∀x,x∈vs->x.flat=true):cg h 1 (.slice b 0 vs.length c ex) (vs.map λx=>[x]) :=
 ⟨by simp,.inr ⟨b,0,c,ex,by rw[qQD],.inr (by rw[jS];exact fP.ed hb hg hf)⟩⟩
def dj {size b o n c:Nat}{e:Bool}{k:IntKind}{i:Int}{j:Nat}(hi:i=(j:Int))(hj:j<n){h:aa}{K:ae->aa->Prop}:fI size (.slice b o n c e) (.int k i) h K=K (.ptr b (o+j*size)) h:=by
 subst hi;rw[sg];simp[hj]
section
variable{α:Type}
def DK (enc:α->List ae)(l:List α):List ae:=(l.map enc).flatten
structure iC (size:Nat)(elem:TypeId)(enc:α->List ae)(n0:Nat)(h:aa)(vs:List ae)(ls:List (List α)):Prop where
 len:vs.length=ls.length
 own:∀(i:Nat)(v:ae)(l:List α),vs[i]?=some v->ls[i]?=some l->dO h size elem v (DK enc l)
 low:∀(i:Nat)(v:ae)(c:Nat),vs[i]?=some v->aM v c->n0<=c/\c<h.next
 JA:∀(i j:Nat)(v w:ae)(c:Nat),vs[i]?=some v->vs[j]?=some w->aM v c->aM w c->i=j
variable{size:Nat}{elem:TypeId}{enc:α->List ae}{n0:Nat}{h:aa}{vs:List ae}{ls:List (List α)}
def dx {c:Nat}:¬aM .af c:=by rintro⟨_,_,_,_,h⟩;cases h
def iC.replicate (n:Nat):iC size elem enc n0 h (List.replicate n .af) (List.replicate n []):=by
 refine⟨by simp,λi v l hv hl=>?_,λi v c hv hc=>?_,λi j v w c hv _ hc _=>?_⟩
 .rw[qWN]at hv hl;split at hv
  .cases hv;rw[if_pos (by assumption)]at hl;cases hl;exact .inl ⟨rfl,rfl⟩
  .cases hv
 .rw[qWN]at hv;split at hv
  .cases hv;exact(dx hc).elim
  .cases hv
 .rw[qWN]at hv;split at hv
  .cases hv;exact(dx hc).elim
  .cases hv
def iC.frame (H:iC size elem enc n0 h vs ls){h':aa}(hn:h.next<=h'.next)(hg:∀c,n0<=c->c<h.next->(∃(i:Nat)(v:ae),vs[i]?=some v/\aM v c)->h'.get c=h.get c):iC size elem enc n0 h' vs ls :=
 ⟨H.len,λi v l hv hl=>(H.own i v l hv hl).frame hn λb hb=>hg b (H.low i v b hv hb).1 (H.low i v b hv hb).2 ⟨i,v,hv,hb⟩,
   λi v c hv hc=>⟨(H.low i v c hv hc).1,qQG (H.low i v c hv hc).2 hn⟩,H.JA⟩
def iC.flat (H:iC size elem enc n0 h vs ls):∀x,x∈vs->x.flat=true:=by
 intro x hx;obtain⟨i,hi⟩:=qQL.1 hx;have DT:=(qQZ.1 hi).1;obtain⟨l,hl⟩:∃l,ls[i]?=some l:=⟨_,qQW (by rw[<-H.len];exact DT)⟩;exact(H.own i x l hi hl).lT
def iC.app (H:iC size elem enc n0 h vs ls)(qZ:n0<=h.next){i:Nat}{v:ae}{l:List α}(hv:vs[i]?=some v)(hl:ls[i]?=some l){x:ae}{a:α}(hs:fS h size x=some (1,enc a))(hlen:(enc a).length=size)(iq:0<size)(uo:(DK enc l).length+1<=1073741824)
 {K:ae->aa->Prop} (hK:∀v' h',iC size elem enc n0 h' (vs.set i v') (ls.set i (l++[a]))->v'.flat=true->h'.next=h.next+1->(∀c,c<h.next->¬aM v c->h'.get c=h.get c)->K v' h'):uX elem size v x h K:=by
 refine kd (H.own i v l hv hl) hs (by simp) (by simpa using hlen) iq uo ?_;intro v' h' ho hn hf hb;have DT:=(qQZ.1 hv).1
 have hblk:∀c,aM v' c->c=h.next:=by
  rintro c ⟨o,n,c2,e,rfl⟩;obtain⟨_,_,_,_,he⟩:=hb;cases he;rfl
 refine hK v' h' ⟨by simp[H.len],λj w m hw hm=>?_,λj w c hw hc=>?_,λj k w u c hw hu hc pd=>?_⟩ ho.lT hn hf
 .rw[qJB]at hw hm;by_cases e:i=j
  .subst e;rw[if_pos rfl,if_pos (by omega)]at hw;rw[if_pos rfl,if_pos (by rw[<-H.len];omega)]at hm;cases hw;cases hm;unfold DK at ho ⊢;simpa using ho
  .rw[if_neg e]at hw hm;exact(H.own j w m hw hm).frame (by omega) λb hb=>hf b (H.low j w b hw hb).2 λhc=>e (H.JA i j v w b hv hw hc hb)
 .rw[qJB]at hw;by_cases e:i=j
  .subst e;rw[if_pos rfl,if_pos (by omega)]at hw;cases hw;have:=hblk c hc;omega
  .rw[if_neg e]at hw;have:=H.low j w c hw hc;omega
 .rw[qJB]at hw hu;by_cases e:i=j
  .by_cases e2:i=k
   .omega
   .subst e;rw[if_pos rfl,if_pos (by omega)]at hw;rw[if_neg e2]at hu;cases hw;have:=hblk c hc;have:=(H.low k u c hu pd).2;omega
  .rw[if_neg e]at hw;by_cases e2:i=k
   .subst e2;rw[if_pos rfl,if_pos (by omega)]at hu;cases hu;have:=hblk c pd;have:=(H.low j w c hw hc).2;omega
   .rw[if_neg e2]at hu;exact H.JA j k w u c hw hu hc pd
def iC.sl (H:iC size elem enc n0 h vs ls)(aks:∀a,(enc a).length=size)(iq:0<size)(ic:∀a x,x∈enc a->x.flat=true){i:Nat}{v:ae}{l:List α}(hv:vs[i]?=some v)(hl:ls[i]?=some l):cg h size v (l.map enc):=by
 refine(H.own i v l hv hl).cg (λx hx=>?_) iq λx hx=>?_
 .obtain⟨a,_,rfl⟩:=qQB.1 hx;exact aks a
 .obtain⟨y,hy,lH⟩:=qJD.1 hx;obtain⟨a,_,rfl⟩:=qQB.1 hy;exact ic a x lH
end
def Cr:ax :=
 (.seq
  (.region [oB 53 .lss 52 51])
  (.seq
   (.cond (.t 53)
    .skip
    (.exit 0))
   (.seq
    (.block 1
     (.seq
      (.region [oX 54 1 50 52,oL 55 54,oM 10 55])
      (.seq
       (.region [oQ 56 3 2,oQ 57 3 5,oM 58 10,oK 59 (.call (.c (.func 9 [] [])) [(.t 56),(.t 57),(.t 58)]),oK 60 (.not (.t 59))])
       (.cond (.t 60)
        (.seq
         (.region [oK 4 (.mv (.c (.bool false)))])
         .ret)
        .skip))))
    (.region [oK 61 (.bin .add .none (.t 52) (.c (.int .i64 1))),oM 52 61]))))
def Rh:ax :=
 (.seq
  (.region [oK 2 (.box 25 (.t 0)),oK 4 (.mv (.c (.bool false)))])
  (.seq
   (.region [oQ 12 3 2,oK 13 (.call (.c (.func 4 [] [])) [(.t 12)]),oM 11 13,oK 14 (.extract 0 (.t 11)),oK 15 (.extract 1 (.t 11)),oK 5 (.box 25 (.c (.agg [(.int .i64 0),.af,.af]))),oS 3 5 14,oM 6 15])
   (.seq
    (.seq
     (.region [oM 16 6,oK 17 (.bin .neq .none (.t 16) (.c (.int .i64 0)))])
     (.cond (.t 17)
      (.seq
       (.region [oK 18 (.call (.c (.func 5 [] [])) []),oM 19 18,oG 20 19 true (.mv (.t 6)),oG 21 19 true (.fJ 3 (.t 2)),oG 22 19 true (.call (.c (.func 6 [] [])) [(.t 21)]),oG 23 19 true (.bin .eql .none (.t 20) (.t 22)),oG 24 19 true (.mv (.t 23)),oG 25 24 false (.mv (.t 6)),oG 26 24 false (.bin .eql .none (.t 25) (.c (.int .i64 2))),oG 27 19 true (.pick (.t 24) (.c (.bool true)) (.t 26)),oK 28 (.pick (.t 19) (.t 27) (.c (.bool false))),oM 4 28])
       .ret)
      .skip))
    (.seq
     (.region [oQ 30 3 5,oK 31 (.call (.c (.func 4 [] [])) [(.t 30)]),oM 29 31,oK 32 (.extract 0 (.t 29)),oK 33 (.extract 1 (.t 29)),oK 7 (.box 25 (.c (.agg [(.int .i64 0),.af,.af]))),oS 3 7 32,oM 8 33])
     (.seq
      (.seq
       (.region [oM 34 8,oK 35 (.bin .neq .none (.t 34) (.c (.int .i64 0))),oM 36 35,oG 37 36 false (.fJ 3 (.t 5)),oG 38 36 false (.call (.c (.func 6 [] [])) [(.t 37)]),oG 39 36 false (.bin .neq .none (.t 38) (.c (.int .i64 0))),oK 40 (.pick (.t 36) (.c (.bool true)) (.t 39)),oM 41 40,oG 42 41 false (.fJ 3 (.t 7)),oG 43 41 false (.fJ 3 (.t 5)),oG 44 41 false (.call (.c (.func 7 [] [])) [(.t 42),(.t 43)]),oG 45 41 false (.not (.t 44)),oK 46 (.pick (.t 41) (.c (.bool true)) (.t 45))])
       (.cond (.t 46)
        (.seq
         (.region [oK 4 (.mv (.c (.bool false)))])
         .ret)
        .skip))
      (.seq
       (.seq
        (.region [oM 47 1,oQ 48 3 2,oK 49 (.buildSlice 25 1 [(.int .i64 0),.af,.af] [(0,3,(.t 48))]),oK 50 (.call (.c (.func 8 [] [])) [(.t 47),(.t 49)]),oJ 51 50,oK 52 (.mv (.c (.int .i64 0)))])
        (.block 0
         (.loop Cr)))
       (.seq
        (.region [oK 62 (.call (.c (.func 5 [] [])) []),oM 4 62])
        .ret)))))))
def Nb:E2.code 3=some (Rh,[.tmp 4]):=by kernel_rfl
def rR:ax :=
 (.seq
  (.region [oB 30 .lss 29 28])
  (.seq
   (.cond (.t 30)
    .skip
    (.exit 2))
   (.seq
    (.block 3
     (.seq
      (.region [oX 31 2 27 29,oQ 32 2 31,oK 11 (.box 49 (.c (.agg [(.str []),(.int .i64 0)]))),oS 2 11 32])
      (.region [oM 33 5,oF 34 0 11,oL 35 34,oK 36 (.buildSlice 9 1 [(.str [])] [(0,1,(.t 35))]),oK 37 (.append 9 1 (.t 33) (.t 36)),oM 5 37])))
    (.region [oK 38 (.bin .add .none (.t 29) (.c (.int .i64 1))),oM 29 38]))))
def xX:ax :=
 (.seq
  (.region [oB 17 .lss 16 15])
  (.seq
   (.cond (.t 17)
    .skip
    (.exit 0))
   (.seq
    (.block 1
     (.seq
      (.region [oX 18 3 14 16,oQ 19 3 18,oK 7 (.box 25 (.c (.agg [(.int .i64 0),.af,.af]))),oS 3 7 19])
      (.seq
       (.region [oQ 21 3 7,oK 22 (.call (.c (.func 14 [] [])) [(.t 21),(.c (.int .i64 12))]),oM 20 22,oK 23 (.extract 0 (.t 20)),oK 24 (.extract 1 (.t 20)),oM 8 23,oM 9 24])
       (.seq
        (.seq
         (.region [oM 25 9,oK 26 (.bin .neq .none (.t 25) (.c (.int .i64 0)))])
         (.cond (.t 26)
          (.exit 1)
          .skip))
        (.seq
         (.region [oM 27 8,oJ 28 27,oK 29 (.mv (.c (.int .i64 0)))])
         (.block 2
          (.loop rR)))))))
    (.region [oK 39 (.bin .add .none (.t 16) (.c (.int .i64 1))),oM 16 39]))))
def Gd:ax :=
 (.seq
  (.region [oK 4 (.mv (.c .af))])
  (.seq
   (.region [oM 12 0,oK 13 (.buildSlice 9 1 [(.str [])] [(0,1,(.t 12))]),oM 5 13])
   (.seq
    (.seq
     (.region [oM 14 1,oJ 15 14,oK 16 (.mv (.c (.int .i64 0)))])
     (.block 0
      (.loop xX)))
    (.seq
     (.region [oM 40 5,oM 4 40])
     .ret))))
def FY:E2.code 8=some (Gd,[.tmp 4]):=by kernel_rfl
def Zr:ax :=
 (.seq
  (.region [oK 3 (.box 25 (.t 0)),oK 4 (.box 25 (.t 1)),oK 6 (.mv (.c (.bool false)))])
  (.seq
   (.region [oQ 12 3 3,oM 13 2,oK 14 (.call (.c (.func 15 [] [])) [(.t 12),(.t 13)]),oM 11 14,oK 15 (.extract 0 (.t 11)),oK 16 (.extract 1 (.t 11)),oM 7 15,oM 8 16])
   (.seq
    (.region [oQ 18 3 4,oM 19 2,oK 20 (.call (.c (.func 15 [] [])) [(.t 18),(.t 19)]),oM 17 20,oK 21 (.extract 0 (.t 17)),oK 22 (.extract 1 (.t 17)),oM 9 21,oM 10 22])
    (.seq
     (.region [oM 23 7,oM 24 9,oB 25 .eql 23 24,oM 26 25,oG 27 26 true (.mv (.t 8)),oG 28 26 true (.mv (.t 10)),oG 29 26 true (.bin .eql .bool (.t 27) (.t 28)),oK 30 (.pick (.t 26) (.t 29) (.c (.bool false))),oM 6 30])
     .ret))))
def RQ:E2.code 9=some (Zr,[.tmp 6]):=by kernel_rfl
def u4:ax :=
 (.seq
  (.region [oK 2 (.box 25 (.t 0)),oK 3 (.box 3 (.t 1)),oK 4 (.mv (.c .af)),oK 5 (.mv (.c (.int .i64 0)))])
  (.seq
   (.seq
    (.region [oL 10 3,oK 11 (.bin .lss .none (.t 10) (.c (.int .i64 0))),oM 12 11,oG 13 12 false (.ct (.t 3)),oG 14 12 false (.bin .gtr .none (.t 13) (.c (.int .i64 1000))),oK 15 (.pick (.t 12) (.c (.bool true)) (.t 14))])
    (.cond (.t 15)
     (.seq
      (.region [oK 4 (.mv (.c .af)),oK 5 (.mv (.c (.int .i64 1)))])
      .ret)
     .skip))
   (.seq
    (.region [oQ 17 3 2,oK 18 (.call (.c (.func 4 [] [])) [(.t 17)]),oM 16 18,oK 19 (.extract 0 (.t 16)),oK 20 (.extract 1 (.t 16)),oK 6 (.box 25 (.c (.agg [(.int .i64 0),.af,.af]))),oS 3 6 19,oM 7 20])
    (.seq
     (.seq
      (.region [oM 21 7,oK 22 (.bin .neq .none (.t 21) (.c (.int .i64 0)))])
      (.cond (.t 22)
       (.seq
        (.region [oM 23 7,oK 4 (.mv (.c .af)),oM 5 23])
        .ret)
       .skip))
     (.seq
      (.region [oK 8 (.box 43 (.c .af))])
      (.seq
       (.seq
        (.region [oL 24 3,oK 25 (.bin .eql .none (.t 24) (.c (.int .i64 0)))])
        (.cond (.t 25)
         (.seq
          (.region [oK 4 (.mv (.c .af)),oK 5 (.mv (.c (.int .i64 0)))])
          .ret)
         .skip))
       (.seq
        (.seq
         (.region [oQ 26 3 6,oK 27 (.call (.c (.func 27 [] [])) [(.t 26)])])
         (.block 0
          (.region [oZ (.bad)])))
        (.seq
         (.region [oL 37 8,oM 4 37,oK 5 (.mv (.c (.int .i64 0)))])
         .ret))))))))
def Zq:ax :=
 (.seq
  (.region [oK 1 (.box 25 (.t 0)),oK 2 (.mv (.c .fb))])
  (.seq
   (.region [oK 3 (.iu 49 [] [(.t 1)]),oM 2 3])
   .ret))
def RP:E2.code 27=some (Zq,[.tmp 2]):=by kernel_rfl
def mh:ax :=
 (.seq
  (.block 1
   (.seq
    (.region [oM 17 3,oM 18 4,oK 19 (.call (.c (.func 50 [] [])) [(.t 17),(.c (.int .i64 0)),(.t 18)]),oM 16 19,oK 20 (.extract 0 (.t 16)),oK 21 (.extract 1 (.t 16)),oK 5 (.box 49 (.c (.agg [(.str []),(.int .i64 0)]))),oS 2 5 20,oM 6 21])
    (.seq
     (.region [oM 22 6,oK 23 (.not (.t 22)),oM 24 23,oG 25 24 false (.mv (.t 0)),oG 26 24 false (.fJ 2 (.t 5)),oG 27 24 false (.call (.t 25) [(.t 26)]),oG 28 24 false (.not (.t 27)),oK 29 (.pick (.t 24) (.c (.bool true)) (.t 28))])
     (.cond (.t 29)
      .ret
      .skip))))
  (.region [oM 14 4,oK 15 (.bin .add .none (.t 14) (.c (.int .i64 1))),oM 4 15]))
def Jp:ax :=
 (.seq
  (.drawn 8 [oR 0 (oQ 7 3 1),oP 2 (oF 9 0 1),oR 3 (oL 10 9),⟨oK 8 (.call (.c (.func 21 [] [])) [(.t 7)]),1,.wr,[oL 10 9]⟩,oT 4 (oK 11 (.mkSlice 182 [.af,.af,(.bool false)] 56 (.t 10) (.t 10))),oP 5 (oK 12 (.build [.af,.af,.af] [(0,2,(.t 8)),(2,1,(.t 11))])),oT 6 (oK 13 (.box 149 (.t 12))),oP 7 (oM 3 13)])
  (.seq
   (.region [oK 4 (.mv (.c (.int .i64 0)))])
   (.block 0
    (.loop mh))))
def Dz:ax :=
 (.seq
  (.region [oB 55 .lss 54 53])
  (.seq
   (.cond (.t 55)
    .skip
    (.exit 0))
   (.seq
    (.block 1
     (.seq
      (.region [oM 56 54,oM 10 56])
      (.region [oM 57 0,oM 58 1,oM 59 10,oK 60 (.call (.c (.func 74 [] [])) [(.t 57),(.t 58),(.t 59),(.c (.int .i64 0))])])))
    (.region [oK 61 (.bin .add .none (.t 54) (.c (.int .i64 1))),oM 54 61]))))
def DA:ax :=
 (.seq
  (.seq
   (.region [oM 62 8,oK 63 (.nilCheck (.t 62)),oF 64 0 63,oL 65 64,oJ 66 65,oM 67 2,oB 68 .leq 66 67,oM 69 68,oG 70 69 true (.mv (.t 8)),oG 71 69 true (.nilCheck (.t 70)),oG 72 69 true (.dh 1 (.t 71)),oG 73 69 true (.ct (.t 72)),oG 74 69 true (.call (.c (.func 75 [] [])) [(.t 73)]),oG 75 69 true (.bin .gtr .none (.t 74) (.c (.int .i64 0))),oK 76 (.pick (.t 69) (.t 75) (.c (.bool false)))])
   (.cond (.t 76)
    .skip
    (.exit 2)))
  (.block 3
   (.seq
    (.region [oM 77 8,oK 78 (.nilCheck (.t 77)),oF 79 1 78,oK 80 (.eP 184 (.t 79)),oK 81 (.call (.c (.func 76 [] [])) [(.t 80)]),oK 82 (.assert 186 (.agg [(.str []),(.int .i64 0),(.int .i64 0),(.int .i64 0)]) false (.t 81)),oK 11 (.box 186 (.c (.agg [(.str []),(.int .i64 0),(.int .i64 0),(.int .i64 0)]))),oS 4 11 82])
    (.seq
     (.drawn 12 [oP 0 (oM 83 8),oP 1 (oM 84 8),oP 2 (oK 85 (.nilCheck (.t 84))),oP 3 (oF 86 0 85),oR 4 (oL 87 86),oP 5 (oF 88 0 11),oR 6 (oQ 89 2 88),oT 7 (oK 90 (.buildSlice 49 1 [(.str []),(.int .i64 0)] [(0,2,(.t 89))])),oW 8 (oK 91 (.append 49 2 (.t 87) (.t 90))),oP 9 (oK 92 (.nilCheck (.t 83))),oP 10 (oF 93 0 92),oW 11 (oS 1 93 91)])
     (.seq
      (.region [oF 94 2 11,oL 95 94,oK 96 (.bin .geq .none (.t 95) (.c (.int .i64 0)))])
      (.cond (.t 96)
       (.region [oM 97 0,oM 98 1,oF 99 2 11,oL 100 99,oF 101 3 11,oL 102 101,oK 103 (.bin .add .none (.t 102) (.c (.int .i64 1))),oK 104 (.call (.c (.func 74 [] [])) [(.t 97),(.t 98),(.t 100),(.t 103)])])
       .skip))))))
def I':ax :=
 (.seq
  (.region [oK 6 (.box 49 (.c (.agg [(.str []),(.int .i64 0)]))),oK 7 (.mv (.c (.bool false)))])
  (.seq
   (.region [oM 12 0,oK 13 (.nilCheck (.t 12)),oF 14 2 13,oL 15 14,oM 16 1,oX 17 3 15 16,oM 8 17])
   (.seq
    (.seq
     (.region [oM 18 8,oK 19 (.nilCheck (.t 18)),oF 20 2 19,oL 21 20,oK 22 (.not (.t 21))])
     (.cond (.t 22)
      (.seq
       (.region [oM 23 8,oK 24 (.nilCheck (.t 23)),oF 25 2 24,oZ (.store 1 (.t 25) (.c (.bool true)))])
       (.seq
        (.seq
         (.region [oM 26 0,oK 27 (.nilCheck (.t 26)),oF 28 0 27,oF 29 1 28,oL 30 29,oM 31 1,oX 32 1 30 31,oL 33 32,oM 9 33])
         (.seq
          (.region [oM 34 9,oK 35 (.bin .geq .none (.t 34) (.c (.int .i64 0)))])
          (.cond (.t 35)
           (.region [oM 36 8,oK 37 (.nilCheck (.t 36)),oF 38 1 37,oK 39 (.eP 184 (.t 38)),oM 40 9,oK 41 (.build [(.str []),(.int .i64 0)] [(1,1,(.t 40))]),oK 42 (.build [(.str []),(.int .i64 0),(.int .i64 0),(.int .i64 0)] [(0,2,(.t 41)),(2,1,(.c (.int .i64 (-1)))),(3,1,(.c (.int .i64 0)))]),oK 43 (.eP 186 (.t 42)),oK 44 (.call (.c (.func 73 [] [])) [(.t 39),(.t 43)])])
           .skip)))
        (.seq
         (.region [oM 45 0,oK 46 (.nilCheck (.t 45)),oF 47 0 46,oF 48 0 47,oL 49 48,oM 50 1,oX 51 1 49 50,oL 52 51,oJ 53 52,oK 54 (.mv (.c (.int .i64 0)))])
         (.block 0
          (.loop Dz)))))
      .skip))
    (.seq
     (.block 2
      (.loop DA))
     (.seq
      (.seq
       (.region [oM 105 2,oM 106 8,oK 107 (.nilCheck (.t 106)),oF 108 0 107,oL 109 108,oJ 110 109,oB 111 .lss 105 110])
       (.cond (.t 111)
        (.seq
         (.region [oM 112 8,oK 113 (.nilCheck (.t 112)),oF 114 0 113,oL 115 114,oM 116 2,oX 117 2 115 116,oQ 118 2 117,oS 2 6 118,oK 7 (.mv (.c (.bool true)))])
         .ret)
        .skip))
      (.seq
       (.region [oK 119 (.build [(.str []),(.int .i64 0)] []),oS 2 6 119,oK 7 (.mv (.c (.bool false)))])
       .ret))))))
def WG:E2.code 50=some (I',[.cell 6 49,.tmp 7]):=by kernel_rfl
def Rq:ax :=
 (.seq
  (.region [oM 4 0,oM 5 1,oK 6 (.invoke (.t 4) "Push" [(.t 5)])])
  (.region [oM 7 0,oM 8 0,oK 9 (.invoke (.t 8) "Len" []),oK 10 (.bin .sub .none (.t 9) (.c (.int .i64 1))),oK 11 (.call (.c (.func 104 [] [])) [(.t 7),(.t 10)])]))
def Nl:E2.code 73=some (Rq,[]):=by kernel_rfl
def RR:ax :=
 (.seq
  (.region [oM 11 0,oK 12 (.nilCheck (.t 11)),oF 13 0 12,oF 14 0 13,oL 15 14,oM 16 1,oX 17 1 15 16,oL 18 17,oM 19 2,oX 20 4 18 19,oQ 21 4 20,oK 8 (.box 52 (.c (.agg [(.int .i64 0),(.int .i64 0),(.int .u8 0),(.int .i64 0)]))),oS 4 8 21])
  (.seq
   (.region [oM 23 0,oF 24 1 8,oL 25 24,oM 26 3,oK 27 (.call (.c (.func 50 [] [])) [(.t 23),(.t 25),(.t 26)]),oM 22 27,oK 28 (.extract 0 (.t 22)),oK 29 (.extract 1 (.t 22)),oK 9 (.box 49 (.c (.agg [(.str []),(.int .i64 0)]))),oS 2 9 28,oM 10 29])
   (.seq
    (.region [oM 30 10])
    (.cond (.t 30)
     (.drawn 26 [oP 0 (oM 31 0),oP 1 (oK 32 (.nilCheck (.t 31))),oP 2 (oF 33 2 32),oR 3 (oL 34 33),oP 4 (oM 35 1),oP 5 (oX 36 3 34 35),oP 6 (oF 37 1 36),oP 7 (oK 38 (.eP 184 (.t 37))),oP 8 (oF 39 2 8),oR 9 (oL 40 39),oP 12 (oF 43 0 9),oR 13 (oL 44 43),oP 15 (oF 46 3 8),oR 16 (oL 47 46),oP 17 (oF 48 1 9),oR 18 (oL 49 48),oP 19 (oB 50 .add 47 49),oP 21 (oM 52 2),oP 22 (oM 53 3),oT 10 (oK 41 (.buildSlice 5 1 [(.int .u8 0)] [(0,1,(.t 40))])),oR 11 (oK 42 (.dw (.t 41))),oP 14 (oB 45 .add 42 44),oP 20 (oK 51 (.build [(.str []),(.int .i64 0)] [(0,1,(.t 45)),(1,1,(.t 50))])),oP 23 (oK 54 (.build [(.str []),(.int .i64 0),(.int .i64 0),(.int .i64 0)] [(0,2,(.t 51)),(2,1,(.t 52)),(3,1,(.t 53))])),oP 24 (oK 55 (.eP 186 (.t 54))),oW 25 (oK 56 (.call (.c (.func 73 [] [])) [(.t 38),(.t 55)]))])
     .skip))))
def Np:E2.code 74=some (RR,[]):=by kernel_rfl
def Zn:ax :=
 (.seq
  (.region [oK 2 (.mv (.c (.int .i64 0)))])
  (.seq
   (.region [oM 3 0,oJ 4 3,oM 2 4])
   .ret))
def RM:E2.code 75=some (Zn,[.tmp 2]):=by kernel_rfl
def Zg:ax :=
 (.seq
  (.region [oK 2 (.mv (.c .dq))])
  (.seq
   (.region [oM 4 0,oK 5 (.invoke (.t 4) "Len" []),oK 6 (.bin .sub .none (.t 5) (.c (.int .i64 1))),oM 3 6])
   (.seq
    (.region [oM 7 0,oM 8 3,oK 9 (.invoke (.t 7) "Swap" [(.c (.int .i64 0)),(.t 8)])])
    (.seq
     (.region [oM 10 0,oM 11 3,oK 12 (.call (.c (.func 105 [] [])) [(.t 10),(.c (.int .i64 0)),(.t 11)])])
     (.seq
      (.region [oM 13 0,oK 14 (.invoke (.t 13) "Pop" []),oM 2 14])
      .ret)))))
def RH:E2.code 76=some (Zg,[.tmp 2]):=by kernel_rfl
def LA:ax :=
 (.block 1
  (.seq
   (.region [oM 5 1,oK 6 (.bin .sub .none (.t 5) (.c (.int .i64 1))),oK 7 (.bin .quo .none (.t 6) (.c (.int .i64 2))),oM 4 7])
   (.seq
    (.seq
     (.region [oM 8 4,oM 9 1,oB 10 .eql 8 9,oM 11 10,oG 12 11 false (.mv (.t 0)),oG 13 11 false (.mv (.t 1)),oG 14 11 false (.mv (.t 4)),oG 15 11 false (.invoke (.t 12) "Less" [(.t 13),(.t 14)]),oG 16 11 false (.not (.t 15)),oK 17 (.pick (.t 11) (.c (.bool true)) (.t 16))])
     (.cond (.t 17)
      (.exit 0)
      .skip))
    (.seq
     (.region [oM 18 0,oM 19 4,oM 20 1,oK 21 (.invoke (.t 18) "Swap" [(.t 19),(.t 20)])])
     (.region [oM 22 4,oM 1 22])))))
def aeL:ax :=
 (.block 0
  (.loop LA))
def WH:E2.code 104=some (aeL,[]):=by kernel_rfl
def Cu:ax :=
 (.block 1
  (.seq
   (.region [oM 12 7,oK 13 (.bin .mul .none (.c (.int .i64 2)) (.t 12)),oK 14 (.bin .add .none (.t 13) (.c (.int .i64 1))),oM 8 14])
   (.seq
    (.seq
     (.region [oM 15 8,oM 16 2,oB 17 .geq 15 16,oM 18 17,oG 19 18 false (.mv (.t 8)),oG 20 18 false (.bin .lss .none (.t 19) (.c (.int .i64 0))),oK 21 (.pick (.t 18) (.c (.bool true)) (.t 20))])
     (.cond (.t 21)
      (.exit 0)
      .skip))
    (.seq
     (.region [oM 22 8,oM 9 22])
     (.seq
      (.seq
       (.region [oM 23 8,oK 24 (.bin .add .none (.t 23) (.c (.int .i64 1))),oM 10 24])
       (.seq
        (.region [oM 25 10,oM 26 2,oB 27 .lss 25 26,oM 28 27,oG 29 28 true (.mv (.t 0)),oG 30 28 true (.mv (.t 10)),oG 31 28 true (.mv (.t 8)),oG 32 28 true (.invoke (.t 29) "Less" [(.t 30),(.t 31)]),oK 33 (.pick (.t 28) (.t 32) (.c (.bool false)))])
        (.cond (.t 33)
         (.region [oM 34 10,oM 9 34])
         .skip)))
      (.seq
       (.seq
        (.region [oM 35 0,oM 36 9,oM 37 7,oK 38 (.invoke (.t 35) "Less" [(.t 36),(.t 37)]),oK 39 (.not (.t 38))])
        (.cond (.t 39)
         (.exit 0)
         .skip))
       (.seq
        (.region [oM 40 0,oM 41 7,oM 42 9,oK 43 (.invoke (.t 40) "Swap" [(.t 41),(.t 42)])])
        (.region [oM 44 9,oM 7 44]))))))))
def Rp:ax :=
 (.seq
  (.region [oK 6 (.mv (.c (.bool false)))])
  (.seq
   (.region [oM 11 1,oM 7 11])
   (.seq
    (.block 0
     (.loop Cu))
    (.seq
     (.region [oM 45 7,oM 46 1,oB 47 .gtr 45 46,oM 6 47])
     .ret))))
def Nk:E2.code 105=some (Rp,[.tmp 6]):=by kernel_rfl
def RV:ax :=
 (.seq
  (.region [oK 6 (.mv (.c (.bool false)))])
  (.seq
   (.drawn 13 [oP 0 (oM 7 0),oP 1 (oM 8 1),oP 2 (oX 9 4 7 8),oP 3 (oF 10 0 9),oR 4 (oQ 11 2 10),oP 5 (oM 12 0),oP 6 (oM 13 2),oP 7 (oX 14 4 12 13),oP 8 (oF 15 0 14),oR 9 (oQ 16 2 15),oW 10 (oK 17 (.call (.c (.func 179 [] [])) [(.t 11),(.t 16)])),oP 11 (oK 18 (.bin .lss .none (.t 17) (.c (.int .i64 0)))),oP 12 (oM 6 18)])
   .ret))
def Nq:E2.code 177=some (RV,[.tmp 6]):=by kernel_rfl
def RX:ax :=
 (.drawn 16 [oP 0 (oM 6 0),oP 1 (oM 7 1),oP 2 (oM 8 0),oP 3 (oM 9 2),oP 4 (oM 10 0),oP 5 (oM 11 2),oP 6 (oX 12 4 10 11),oR 7 (oQ 13 4 12),oP 8 (oM 14 0),oP 9 (oM 15 1),oP 10 (oX 16 4 14 15),oR 11 (oQ 17 4 16),oP 12 (oX 18 4 6 7),oW 13 (oS 4 18 13),oP 14 (oX 19 4 8 9),oW 15 (oS 4 19 17)])
def Ns:E2.code 178=some (RX,[]):=by kernel_rfl
def Zp:ax :=
 (.seq
  (.region [oK 2 (.box 49 (.t 0)),oK 3 (.box 49 (.t 1)),oK 4 (.mv (.c (.int .i64 0)))])
  (.seq
   (.drawn 13 [oP 0 (oF 5 1 2),oR 1 (oL 6 5),oP 2 (oF 7 1 3),oR 3 (oL 8 7),oP 5 (oF 10 0 2),oR 6 (oL 11 10),oP 7 (oF 12 0 3),oR 8 (oL 13 12),⟨oK 9 (.call (.c (.func 29 [] [])) [(.t 6),(.t 8)]),4,.wr,[oL 13 12,oL 11 10]⟩,oW 9 (oK 14 (.call (.c (.func 39 [] [])) [(.t 11),(.t 13)])),oT 10 (oK 15 (.buildSlice 3 2 [(.int .i64 0)] [(0,1,(.t 9)),(1,1,(.t 14))])),oW 11 (oK 16 (.call (.c (.func 28 [] [])) [(.t 15)])),oP 12 (oM 4 16)])
   .ret))
def RO:E2.code 179=some (Zp,[.tmp 4]):=by kernel_rfl
def Zo:ax :=
 (.seq
  (.region [oK 2 (.mv (.c .dq))])
  (.seq
   (.region [oM 5 0,oK 6 (.nilCheck (.t 5)),oL 7 6,oM 3 7])
   (.seq
    (.region [oM 8 3,oM 9 3,oJ 10 9,oK 11 (.bin .sub .none (.t 10) (.c (.int .i64 1))),oX 12 4 8 11,oQ 13 4 12,oK 4 (.box 186 (.c (.agg [(.str []),(.int .i64 0),(.int .i64 0),(.int .i64 0)]))),oS 4 4 13])
    (.seq
     (.region [oM 14 0,oM 15 3,oM 16 3,oJ 17 16,oK 18 (.bin .sub .none (.t 17) (.c (.int .i64 1))),oK 19 (.qR 186 4 (.t 15) none (some (.t 18)) none),oK 20 (.nilCheck (.t 14)),oS 1 20 19])
     (.seq
      (.region [oQ 21 4 4,oK 22 (.eP 186 (.t 21)),oM 2 22])
      .ret)))))
def RN:E2.code 180=some (Zo,[.tmp 2]):=by kernel_rfl
def RW:ax :=
 (.drawn 10 [oP 0 (oM 4 0),oP 1 (oM 5 0),oP 2 (oK 6 (.nilCheck (.t 5))),oR 3 (oL 7 6),oP 4 (oM 8 1),oP 5 (oK 9 (.assert 186 (.agg [(.str []),(.int .i64 0),(.int .i64 0),(.int .i64 0)]) false (.t 8))),oT 6 (oK 10 (.buildSlice 186 1 [(.str []),(.int .i64 0),(.int .i64 0),(.int .i64 0)] [(0,4,(.t 9))])),oW 7 (oK 11 (.append 186 4 (.t 7) (.t 10))),oP 8 (oK 12 (.nilCheck (.t 4))),oW 9 (oS 1 12 11)])
def Nr:E2.code 181=some (RW,[]):=by kernel_rfl
attribute [local go_sem] zp zo
def G0 (u:List Nat)(h:aa):Ec E2 61 [.str u] h λr h'=>r=.bool false/\h'=h:=by
 refine Ec.bu (aI (by decide)) Ji ?_;unfold y5;simp only[go_sem,Nat.reduceEqDiff,reduceCtorEq]
def aaZ (u v:List Nat)(h:aa):Ec E2 39 [.str u,.str v] h λr h'=>r=.int .i64 (BP u v)/\h'=h:=by
 refine Ec.bu (aI (by decide)) RE ?_;unfold Lz;simp only[go_sem,Nat.reduceEqDiff,Nat.reduceAdd,reduceCtorEq];refine⟨by decide,?_⟩;refine(G0 u h).mono ?_;rintro r h1 ⟨rfl,rfl⟩;simp only[go_sem,Nat.reduceEqDiff,reduceCtorEq];refine⟨by decide,?_⟩;refine(G0 v h1).mono ?_;rintro r h2 ⟨rfl,rfl⟩;unfold BP;cases h1:lexB u v with
 |true=>simp only[go_sem,Nat.reduceEqDiff,reduceCtorEq,h1]
 |false=>cases h2:lexB v u with
  |true=>simp only[go_sem,Nat.reduceEqDiff,reduceCtorEq,h1,h2]
  |false=>simp only[go_sem,Nat.reduceEqDiff,reduceCtorEq,h1,h2]
def fN (r:tm):List ae:=[.str r.t,.int .i64 r.c]
def dc (x:dE):List ae:=[.str x.t,.int .i64 x.c,.int .i64 x.uM,.int .i64 x.ng]
def ac1 (a b:tm):Int:=eO [lI a.c b.c,BP a.t b.t]
def Yi (a b:tm):decide (ac1 a b<0)=Mm a b:=by
 unfold ac1 eO eO eO Mm;rcases mF a.c b.c with⟨h1,h2⟩|⟨h1,h2⟩|⟨h1,h2⟩
 .rw[h2];simp[h1]
 .rw[h2];have:¬a.c=b.c:=by omega
  have h3:¬a.c<b.c:=by omega
  simp[this,h3]
 .rw[h2];rw[h1];unfold BP;cases h3:lexB a.t b.t with
  |true=>simp
  |false=>cases h4:lexB b.t a.t<;>simp
def adl (a b:tm)(h:aa):Ec E2 179 [.agg (fN a),.agg (fN b)] h λr h'=>r=.int .i64 (ac1 a b)/\aU h h':=by
 refine Ec.bu (aI (by decide)) RO ?_;unfold Zp fN;have n2:((h.push (.cells [.str a.t,.int .i64 a.c] 49)).push (.cells [.str b.t,.int .i64 b.c] 49)).next=h.next+2:=rfl;have aS:aU h ((h.push (.cells [.str a.t,.int .i64 a.c] 49)).push (.cells [.str b.t,.int .i64 b.c] 49)):=((aU.refl h).push _).push _;have gA:((h.push (.cells [.str a.t,.int .i64 a.c] 49)).push (.cells [.str b.t,.int .i64 b.c] 49)).get h.next=some (.cells [.str a.t,.int .i64 a.c] 49):=(aa.aA _ _ (by show h.next+1≠_;omega)).trans (aa.ai _ _);have gB:((h.push (.cells [.str a.t,.int .i64 a.c] 49)).push (.cells [.str b.t,.int .i64 b.c] 49)).get (h.next+1)=some (.cells [.str b.t,.int .i64 b.c] 49):=aa.ai _ _;simp only[go_sem,Nat.reduceEqDiff,Nat.reduceAdd,reduceCtorEq];generalize ((h.push (.cells [.str a.t,.int .i64 a.c] 49)).push (.cells [.str b.t,.int .i64 b.c] 49))=h2 at n2 aS gA gB ⊢;have a0:aN h2 h.next 0=some (.str a.t):=by rw[aq gA];rfl
 have a1:aN h2 h.next 1=some (.int .i64 a.c):=by rw[aq gA];rfl
 have b0:aN h2 (h.next+1) 0=some (.str b.t):=by rw[aq gB];rfl
 have b1:aN h2 (h.next+1) 1=some (.int .i64 b.c):=by rw[aq gB];rfl
 simp only[go_sem,Nat.reduceEqDiff,reduceCtorEq,a0,a1,b0,b1];refine⟨by decide,?_⟩;refine(Ja _ _ _).mono ?_;rintro r h3 ⟨rfl,rfl⟩;simp only[go_sem,Nat.reduceEqDiff,reduceCtorEq,a0,b0,C0];refine⟨by decide,?_⟩;refine(aaZ _ _ _).mono ?_;rintro r h3 ⟨rfl,rfl⟩;simp only[go_sem,Nat.reduceEqDiff,Nat.reduceAdd,Nat.reduceLeDiff,reduceCtorEq];refine⟨by decide,?_⟩;refine(LB [lI a.c b.c,BP a.t b.t] _ _ ⟨by simp,.inr ⟨_,_,_,_,rfl,.inr (fP.ed (e:=3) (by simp[aa.eT];omega) (aa.aj _ _ _) (by simp[ae.flat]))⟩⟩ (by simp)).mono ?_;rintro r h3 ⟨rfl,rfl⟩;simp only[go_sem,Nat.reduceEqDiff,reduceCtorEq];exact⟨rfl,(aS.skip 13).put (by omega) _⟩
def pk (h:aa)(v:ae)(l:List dE):Prop:=(v=.af/\l=[])\/∃b c rest,v=.slice b 0 l.length c false/\b<h.next/\h.get b=some (.cells ((l.map dc).flatten++rest) 186)/\l.length<=c
def py (l:List dE):∀x,x∈l.map dc->x.length=4:=λx hx=>by obtain⟨a,_,rfl⟩:=qQB.1 hx;rfl
def IY (l:List dE):∀x,x∈(l.map dc).flatten->x.flat=true:=by
 intro x hx;obtain⟨y,hy,lH⟩:=qJD.1 hx;obtain⟨a,_,rfl⟩:=qQB.1 hy;simp only[dc,qQF,qJK,or_false]at lH;rcases lH with rfl|rfl|rfl|rfl<;>rfl
def pk.sl {h:aa}{v:ae}{l:List dE}(H:pk h v l):cg h 4 v (l.map dc):=by
 refine⟨py l,?_⟩;rcases H with⟨rfl,rfl⟩|⟨b,c,rest,rfl,hb,hg,hc⟩
 .exact .inl ⟨rfl,rfl⟩
 .exact .inr ⟨b,0,c,false,by rw[qQD],.inr ⟨hb,_,_,_,.inl ⟨rfl,hg⟩,by rw[qQM];omega,List.take_left,IY l⟩⟩
def pk.len {h:aa}{v:ae}{l:List dE}(H:pk h v l)(h':aa)(K:ae->aa->Prop):cH v h' K=K (.int .i64 (l.length:Int)) h':=by rw[H.sl.len,qQD]
def pk.rm {h:aa}{v:ae}{l:List dE}(H:pk h v l){b:Nat}(hb:aM v b):b<h.next:=by
 rcases H with⟨rfl,rfl⟩|⟨b',c,rest,rfl,h1,_⟩
 .obtain⟨_,_,_,_,e⟩:=hb;cases e
 .obtain⟨_,_,_,_,e⟩:=hb;cases e;exact h1
def pk.frame {h h':aa}{v:ae}{l:List dE}(H:pk h v l)(hn:h.next<=h'.next)(hg:∀b,aM v b->h'.get b=h.get b):pk h' v l:=by
 rcases H with⟨rfl,rfl⟩|⟨b,c,rest,rfl,h1,h2,h3⟩
 .exact .inl ⟨rfl,rfl⟩
 .exact .inr ⟨b,c,rest,rfl,by omega,(hg b ⟨_,_,_,_,rfl⟩).trans h2,h3⟩
def xE {α:Type}:∀{xs:List (List α)}{i:Nat}{y rest:List α},(∀x,x∈xs->x.length=4)->y.length=4->i<xs.length->over (xs.flatten++rest) (i*4) y=(xs.set i y).flatten++rest
 |[],i,y,rest,_,_,h=>by simp at h
 |x :: xs,0,y,rest,hx,hy,_=>by
  have:=hx x (by simp)
  match x,y,this,hy with
  |[a,b,c,d],[p,q,r,s],_,_=>rfl
 |x :: xs,i+1,y,rest,hx,hy,h=>by
  have h1:=hx x (by simp);have h2:=xE (xs:=xs) (i:=i) (y:=y) (rest:=rest) (λz hz=>hx z (by simp[hz])) hy (by simpa using h)
  match x,h1 with
  |[a,b,c,d],_ =>
   rw[show(i+1)*4=i*4+1+1+1+1 by omega];show a :: b :: c :: d :: over (xs.flatten++rest) (i*4) y=_;rw[h2];rfl
def Hn (l:List dE)(i:Nat)(x:dE):(l.map dc).set i (dc x)=(l.set i x).map dc:=by rw[List.map_set]
structure nz (v:ae)(h h':aa):Prop where
 next:h.next<=h'.next
 get:∀b,b<h.next->¬aM v b->h'.get b=h.get b
def nz.refl (v:ae)(h:aa):nz v h h:=⟨qQY _,λ_ _ _=>rfl⟩
def nz.trans {v:ae}{a b c:aa}(h1:nz v a b)(h2:nz v b c):nz v a c:=⟨qZC h1.next h2.next,λx hx hb=>(h2.get x (qQG hx h1.next) hb).trans (h1.get x hx hb)⟩
def nz.of {v:ae}{a b:aa}(h:aU a b):nz v a b:=⟨h.next,λx hx _=>h.get x hx⟩
def wg {h:aa}{v:ae}{l:List dE}(H:cg h 4 v (l.map dc)){i j:Nat}(hi:i<l.length)(hj:j<l.length):Ec E2 177 [v,.int .i64 (i:Int),.int .i64 (j:Int)] h λr h'=>r=.bool (mT l i j)/\aU h h':=by
 obtain⟨x,hx⟩:∃x,l[i]?=some x:=⟨_,qQW hi⟩;obtain⟨y,hy⟩:∃y,l[j]?=some y:=⟨_,qQW hj⟩;rw[OM hx hy];obtain⟨b1,o1,r1,i1⟩:=H.ix (j:=i) (x:=dc x) (by rw[qQX,hx];rfl);obtain⟨b2,o2,r2,i2⟩:=H.ix (j:=j) (x:=dc y) (by rw[qQX,hy];rfl);have l1:eI h b1 o1 2=some [.str x.t,.int .i64 x.c]:=r1.eI (i:=0) (n:=2) (by simp[dc]);have l2:eI h b2 o2 2=some [.str y.t,.int .i64 y.c]:=r2.eI (i:=0) (n:=2) (by simp[dc]);refine Ec.bu (aI (by decide)) Nq ?_;unfold RV;simp only[go_sem,Nat.reduceEqDiff,Nat.reduceAdd,reduceCtorEq,i1 _ _ _ _ rfl,i2 _ _ _ _ rfl,l1,l2];refine⟨by decide,?_⟩;refine(adl x.Bd y.Bd _).mono ?_;rintro r h3 ⟨rfl,cQ⟩;have e:=Yi x.Bd y.Bd;simp only[go_sem,Nat.reduceEqDiff,reduceCtorEq,e];exact((aU.refl h).skip 13).trans cQ
def KW {h:aa}{v:ae}{n:Nat}(H:∀h' (K:ae->aa->Prop),cH v h' K=K (.int .i64 (n:Int)) h'):Ec E2 75 [v] h λr h'=>r=.int .i64 (n:Int)/\h'=h:=by
 refine Ec.bu (aI (by decide)) RM ?_;unfold Zn;simp only[go_sem,Nat.reduceEqDiff,reduceCtorEq,H]
def wh {h:aa}{v:ae}{l:List dE}(H:pk h v l){i j:Nat}(hi:i<l.length)(hj:j<l.length):Ec E2 178 [v,.int .i64 (i:Int),.int .i64 (j:Int)] h λr h'=>pk h' v (sJ l i j)/\nz v h h':=by
 obtain⟨x,hx⟩:∃x,l[i]?=some x:=⟨_,qQW hi⟩;obtain⟨y,hy⟩:∃y,l[j]?=some y:=⟨_,qQW hj⟩;obtain⟨b1,o1,r1,i1⟩:=H.sl.ix (j:=i) (x:=dc x) (by rw[qQX,hx];rfl);obtain⟨b2,o2,r2,i2⟩:=H.sl.ix (j:=j) (x:=dc y) (by rw[qQX,hy];rfl);rcases H with⟨rfl,rfl⟩|⟨b,c,rest,rfl,hb,hg,hc⟩
 .simp at hi
 have l1:eI h b (i*4) 4=some (dc x):=by
  have:=(i1 .i64 (i:Int) h (λp _=>p=.ptr b (i*4)) rfl).mp (by rw[dj rfl hi];simp);cases this;exact r1.eI (i:=0) (n:=4) (by simp[dc])
 have l2:eI h b (j*4) 4=some (dc y):=by
  have:=(i2 .i64 (j:Int) h (λp _=>p=.ptr b (j*4)) rfl).mp (by rw[dj rfl hj];simp);cases this;exact r2.eI (i:=0) (n:=4) (by simp[dc])
 have k1:∀h' (K:ae->aa->Prop),fI 4 (.slice b 0 l.length c false) (.int .i64 (i:Int)) h' K=K (.ptr b (i*4)) h':=λh' K=>by rw[dj rfl hi,qWQ]
 have k2:∀h' (K:ae->aa->Prop),fI 4 (.slice b 0 l.length c false) (.int .i64 (j:Int)) h' K=K (.ptr b (j*4)) h':=λh' K=>by rw[dj rfl hj,qWQ]
 have ic:∀l':List dE,((l'.map dc).flatten++rest).length=l'.length*4+rest.length:=λl'=>by rw[qQM,eH (py l'),qQD]
 have hgs:(h.skip 16).get b=some (.cells ((l.map dc).flatten++rest) 186):=hg;obtain⟨h1,e1⟩:∃h1,h1=(h.skip 16).put b (.cells (((l.set i y).map dc).flatten++rest) 186):=⟨_,rfl⟩;obtain⟨h2,e2⟩:∃h2,h2=(h.skip 16).put b (.cells ((((l.set i y).set j x).map dc).flatten++rest) 186):=⟨_,rfl⟩
 have p1:putAt (h.skip 16) b (i*4) 4 [.str y.t,.int .i64 y.c,.int .i64 y.uM,.int .i64 y.ng]=some h1:=by
  have:=xE (rest:=rest) (py l) (show(dc y).length=4 from rfl) (i:=i) (by simpa using hi);rw[aD (n:=4) hgs rfl (by rw[ic];omega),e1,<-Hn,<-this];rfl
 have p2:putAt h1 b (j*4) 4 [.str x.t,.int .i64 x.c,.int .i64 x.uM,.int .i64 x.ng]=some h2:=by
  have:=xE (rest:=rest) (py (l.set i y)) (show(dc x).length=4 from rfl) (i:=j) (by simpa using hj);rw[e1,s9 (n:=4) rfl (by rw[ic];simp;omega),e2,<-Hn (l.set i y),<-this];rfl
 refine Ec.bu (aI (by decide)) Ns ?_;unfold RX;unfold dc at l1 l2;simp only[go_sem,Nat.reduceEqDiff,Nat.reduceAdd,reduceCtorEq,k1,k2,l1,l2,p1,p2];rw[UX hx hy,e2];refine⟨.inr ⟨b,c,rest,by simp,qQG hb (qKL _ _),aa.aj _ _ _,by simpa using hc⟩,qKL _ _,λb' h1 h2=>aa.ah _ _ λe=>h2 ?_⟩;subst e;exact⟨_,_,_,_,rfl⟩
abbrev p9 (C:Type):=C->Int->Prop
section
variable{C:Type}
def yQ (M:eG C)(φ:p9 C)(l:Nat)(c:C)(t:Int):Prop:=∃c0 r k,φ c0 r/\(c,k)∈M.step c0 l/\t=r+k
def IsL (S:Int->Prop)(t:Int):Prop:=S t/\∀u,S u->t<=u
def IsL.uniq {S:Int->Prop}{t u:Int}(h:IsL S t)(k:IsL S u):t=u:=by
 have:=h.2 u k.1;have:=k.2 t h.1;omega
structure rE (M:eG C)(R:C->Int->Prop)(ψ:p9 C)(least:Int):Prop where
 B3:∃c,M.live c=true/\R c least
 low:∀c t,M.live c=true->R c t->least<=t
 eq:∀c v,ψ c v↔M.live c=true/\IsL (R c) (v+least)
def Fi (M:eG C)(R:C->Int->Prop):Prop:=∀c t,R c t->M.live c=false
def Qz (M:eG C)(φ:p9 C)(f:Int):Prop:=(f=-1/\∀c r k,φ c r->M.fin c=some k->False)\/(0<=f/\IsL (λt=>∃c r k,φ c r/\M.fin c=some k/\t=k+r) f)
structure DS (C:Type) where
 aR:List (p9 C)
 nodes:List aw
def bO:List Nat:=[32,45,48,49,50,51,52,53,54,55,56,57,97,98,99,100,101,102,103,104,105,106,107,108,109,110,111,112,113,114,115,116,117,118,119,120,121,122]
def gM (ns:List aw)(n:Nat)(e:cI):List aw:=ns.modify n λx=>⟨x.ak++[e],x.fin⟩
def eB (ns:List aw)(n:Nat)(f:Int):List aw:=ns.modify n λx=>⟨x.ak,f⟩
inductive BI (M:eG C)(n:Nat)(l:Nat):DS C->DS C->Prop
 |dead (D:DS C) (φ:p9 C):D.aR[n]?=some φ->Fi M (yQ M φ l)->BI M n l D D
 |fL (D:DS C) (φ ψ:p9 C) (least:Int) (i:Nat):D.aR[n]?=some φ->rE M (yQ M φ l) ψ least->D.aR[i]?=some ψ->BI M n l D ⟨D.aR,gM D.nodes n ⟨l,i,least⟩⟩
 |new (D:DS C) (φ ψ:p9 C) (least:Int):D.aR[n]?=some φ->rE M (yQ M φ l) ψ least->ψ∉D.aR->BI M n l D ⟨D.aR++[ψ],gM (D.nodes++[⟨[],-1⟩]) n ⟨l,D.aR.length,least⟩⟩
inductive ph (M:eG C)(n:Nat):List Nat->DS C->DS C->Prop
 |nil (D:DS C):ph M n [] D D
 |snoc {ls:List Nat} {l:Nat} {D D1 D2:DS C}:ph M n ls D D1->BI M n l D1 D2->ph M n (ls++[l]) D D2
def ael (M:eG C)(n:Nat)(D D':DS C):Prop:=∃φ f,D.aR[n]?=some φ/\Qz M φ f/\ph M n bO ⟨D.aR,eB D.nodes n f⟩ D'
inductive zi (M:eG C)(D0:DS C):Nat->DS C->Prop
 |zero:zi M D0 0 D0
 |succ {n:Nat} {D D':DS C}:zi M D0 n D->n<D.aR.length->ael M n D D'->zi M D0 (n+1) D'
end
end
end Go.AX
