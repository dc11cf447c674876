/-
  Contracts of functions of this seat, for every input that each theorem names.
-/
import Derived.Test.YtfdnpjbmhoapcaaGreatDoorNam4
import Derived.Test.YtfdnpjbmhoapcaaGreatDoorNam1
import Derived.Test.YtfdnpjbmhoapcaaGreatDoorNat5
import Derived.Test.YtfdnpjbmhoapcaaGreatDoorNas1
import Derived.Test.YtfdnpjbmhoapcaaGreatDoorNax1
set_option linter.all false
set_option maxHeartbeats 32000000
set_option maxRecDepth 10000
namespace Go.AX
open Go Go.Proofs
noncomputable section
structure Kept (n0:Nat)(h h':aa):Prop where
 next:h.next<=h'.next
 get:∀b,n0<=b->b<h.next->h'.get b=h.get b
def Kept.refl (n0:Nat)(h:aa):Kept n0 h h:=⟨qQY _,λ_ _ _=>rfl⟩
def Kept.trans {n0:Nat}{a b c:aa}(h1:Kept n0 a b)(h2:Kept n0 b c):Kept n0 a c:=⟨qZC h1.next h2.next,λx hx hl=>(h2.get x hx (qQG hl h1.next)).trans (h1.get x hx hl)⟩
def Kept.of {n0:Nat}{h h':aa}(H:aU h h'):Kept n0 h h':=⟨H.next,λb _ hb=>H.get b hb⟩
structure fD (n0:Nat)(h h':aa):Prop where
 next:h.next<=h'.next
 get:∀b,b<n0->h'.get b=h.get b
def fD.refl (n0:Nat)(h:aa):fD n0 h h:=⟨qQY _,λ_ _=>rfl⟩
def fD.of {n0:Nat}{h h':aa}(hn:n0<=h.next)(H:aU h h'):fD n0 h h':=⟨H.next,λb hb=>H.get b (by omega)⟩
def fD.push {n0:Nat}{h h':aa}(H:fD n0 h h')(hn:n0<=h.next)(o:aE):fD n0 h (h'.push o):=⟨Nat.le_succ_of_le H.next,λb hb=>(aa.aA _ _ (by have:=H.next;omega)).trans (H.get b hb)⟩
def fD.put {n0:Nat}{h h':aa}(H:fD n0 h h'){x:Nat}(hx:n0<=x)(o:aE):fD n0 h (h'.put x o):=⟨H.next,λb hb=>(aa.ah _ _ (by omega)).trans (H.get b hb)⟩
def ae5 (o:Option Int)(v:ae):Prop:=∃f:Int,v=.eC [.int .i64 f,.bool o.isSome]/\∀k,o=some k->f=k
structure Vh {C:Type}(M:eG C)(enc:C->ae)(mv:ae)(n0:Nat)(I:aa->Prop)(Good:C->Prop):Prop where
 iface:∃t x,mv=.iface t x
 frame:∀h h',I h->fD n0 h h'->I h'
 SN:Good M.start
 r7:∀c l d k,Good c->(d,k)∈M.step c l->Good d
 start:∀h K,n0<=h.next->I h->(∀h',I h'->Kept n0 h h'->K (enc M.start) h')->xg E2 mv "restante/reading.start" [] h K
 live:∀c h K,Good c->n0<=h.next->I h->(∀h',I h'->Kept n0 h h'->K (.bool (M.live c)) h')->xg E2 mv "restante/reading.live" [enc c] h K
 final:∀c h K,Good c->n0<=h.next->I h->(∀v h',ae5 (M.fin c) v->I h'->Kept n0 h h'->K v h')->xg E2 mv "restante/reading.final" [enc c] h K
 step:∀c l h f cap K (R:List (C×Int)->aa->Prop),Good c->l<256->n0<=h.next->I h->Nat.blt f 1000000000=true ->
  R [] h->(∀done h h',R done h->n0<=h.next->Kept n0 h h'->R done h') ->
  (∀done d k h,(done++[(d,k)]) <+: M.step c l->R done h->I h->n0<=h.next->Ec E2 f (enc d :: .int .i64 k :: cap) h λ_ h'=>R (done++[(d,k)]) h'/\I h'/\h.next<=h'.next) ->
  (∀v h',I h'->R (M.step c l) h'->h.next<=h'.next->K v h')->xg E2 mv "restante/reading.step" [enc c,.int .u8 l,.func f [] cap] h K
def Nc.nW {f:FuncId}{args:List ae}{h:aa}{Q:ae->aa->Prop}(hc:Ec E2 f args h Q):Nc Tryz.prog f args h Q:=Nc.ahr call2 hc
def XO {v:ae}{name:String}{args:List ae}{h:aa}{K:ae->aa->Prop}(hw:xg E2 v name args h K):Oy Tryz.prog E2 v name args h K:=by
 unfold xg at hw;unfold Oy;split at hw
 .obtain⟨m,hm,hw⟩:=eQ.1 hw;obtain⟨y,hy,hw⟩:=eQ.1 hw;exact eQ.2 ⟨m,hm,eQ.2 ⟨y,hy,Nc.nW hw⟩⟩
 .exact hw.elim
def mR:MS (κ:=Int) (.one .i) (.int .i64):=⟨Fw,λ_=>rfl,λ_=>rfl⟩
def sh:MS (κ:=List Nat) (.one .s) .str:=⟨λa b=>by
 show some (eqStr a b)=_;congr 1;rw[qZL,jC,decide_eq_true_iff],λ_=>rfl,λ_=>rfl⟩
def Rx:ax :=
 (.seq
  (.region [oK 2 (.box 25 (.c (.agg [(.int .i64 0),.af,.af]))),oK 3 (.mv (.c (.int .i64 0)))])
  (.seq
   (.region [oM 8 0,oK 9 (.call (.c (.func 19 [] [])) [(.t 8)]),oM 7 9,oK 10 (.extract 0 (.t 7)),oK 11 (.extract 1 (.t 7)),oM 4 10,oM 5 11])
   (.seq
    (.seq
     (.region [oM 12 5,oK 13 (.not (.t 12))])
     (.cond (.t 13)
      (.seq
       (.region [oK 14 (.build [(.int .i64 0),.af,.af] []),oS 3 2 14,oK 3 (.mv (.c (.int .i64 2)))])
       .ret)
      .skip))
    (.seq
     (.region [oM 16 4,oK 17 (.call (.c (.func 20 [] [])) [(.t 16)]),oM 15 17,oK 18 (.extract 0 (.t 15)),oK 19 (.extract 1 (.t 15)),oK 6 (.box 25 (.c (.agg [(.int .i64 0),.af,.af]))),oS 3 6 18,oM 5 19])
     (.seq
      (.seq
       (.region [oM 20 5,oK 21 (.not (.t 20))])
       (.cond (.t 21)
        (.seq
         (.region [oK 22 (.build [(.int .i64 0),.af,.af] []),oS 3 2 22,oK 3 (.mv (.c (.int .i64 2)))])
         .ret)
        .skip))
      (.seq
       (.region [oQ 23 3 6,oS 3 2 23,oK 3 (.mv (.c (.int .i64 0)))])
       .ret))))))
def No:E2.code 10=some (Rx,[.cell 2 25,.tmp 3]):=by kernel_rfl
def zJ:ax :=
 (.seq
  (.region [oB 49 .lss 48 47])
  (.seq
   (.cond (.t 49)
    .skip
    (.exit 2))
   (.seq
    (.block 3
     (.seq
      (.region [oX 50 4 46 48,oQ 51 4 50,oK 8 (.box 52 (.c (.agg [(.int .i64 0),(.int .i64 0),(.int .u8 0),(.int .i64 0)]))),oS 4 8 51])
      (.drawn 24 [oP 0 (oM 52 5),oP 1 (oK 53 (.nilCheck (.t 52))),oP 2 (oF 54 2 53),oR 3 (oL 55 54),oP 4 (oM 56 6),oP 5 (oM 57 5),oP 6 (oK 58 (.nilCheck (.t 57))),oP 7 (oF 59 2 58),oR 8 (oL 60 59),oP 9 (oM 61 6),oP 10 (oX 62 1 60 61),oR 11 (oL 63 62),oP 12 (oM 64 63),oP 13 (oG 65 64 false (.mv (.t 5))),oP 14 (oG 66 64 false (.nilCheck (.t 65))),oP 15 (oG 67 64 false (.dh 2 (.t 66))),oR 16 (oG 68 64 false (.ct (.t 67))),oP 17 (oG 69 64 false (.dh 1 (.t 8))),oR 18 (oG 70 64 false (.ct (.t 69))),oP 19 (oG 71 64 false (.kz 1 (.t 68) (.t 70))),oR 20 (oG 72 64 false (.ct (.t 71))),oP 21 (oK 73 (.pick (.t 64) (.c (.bool true)) (.t 72))),oP 22 (oX 74 1 55 56),oW 23 (oS 1 74 73)])))
    (.region [oK 75 (.bin .add .none (.t 48) (.c (.int .i64 1))),oM 48 75]))))
def zK:ax :=
 (.seq
  (.seq
   (.region [oM 20 6,oK 21 (.bin .geq .none (.t 20) (.c (.int .i64 0)))])
   (.cond (.t 21)
    .skip
    (.exit 0)))
  (.seq
   (.block 1
    (.seq
     (.drawn 16 [oP 0 (oM 24 5),oP 1 (oK 25 (.nilCheck (.t 24))),oP 2 (oF 26 2 25),oR 3 (oL 27 26),oP 4 (oM 28 6),oP 5 (oM 29 5),oP 6 (oK 30 (.nilCheck (.t 29))),oP 7 (oF 31 0 30),oP 8 (oF 32 1 31),oR 9 (oL 33 32),oP 10 (oM 34 6),oP 11 (oX 35 1 33 34),oR 12 (oL 36 35),oP 13 (oK 37 (.bin .geq .none (.t 36) (.c (.int .i64 0)))),oP 14 (oX 38 1 27 28),oW 15 (oS 1 38 37)])
     (.seq
      (.region [oM 39 5,oK 40 (.nilCheck (.t 39)),oF 41 0 40,oF 42 0 41,oL 43 42,oM 44 6,oX 45 1 43 44,oL 46 45,oJ 47 46,oK 48 (.mv (.c (.int .i64 0)))])
      (.block 2
       (.loop zJ)))))
   (.region [oM 22 6,oK 23 (.bin .sub .none (.t 22) (.c (.int .i64 1))),oM 6 23])))
def Zj:ax :=
 (.seq
  (.region [oK 2 (.box 25 (.t 0)),oK 4 (.mv (.c .dt))])
  (.seq
   (.drawn 9 [oR 0 (oQ 9 3 2),oP 2 (oF 11 0 2),oR 3 (oL 12 11),oP 5 (oM 14 1),⟨oK 10 (.call (.c (.func 21 [] [])) [(.t 9)]),1,.wr,[oL 12 11]⟩,oT 4 (oK 13 (.mkSlice 4 [(.bool false)] 1 (.t 12) (.t 12))),oP 6 (oK 15 (.build [.af,.af,.af,(.bool false)] [(0,2,(.t 10)),(2,1,(.t 13)),(3,1,(.t 14))])),oT 7 (oK 16 (.box 72 (.t 15))),oP 8 (oM 5 16)])
   (.seq
    (.seq
     (.region [oF 17 0 2,oL 18 17,oK 19 (.bin .sub .none (.t 18) (.c (.int .i64 1))),oM 6 19])
     (.block 0
      (.loop zK)))
    (.seq
     (.region [oM 76 5,oM 4 76])
     .ret))))
def RJ:E2.code 11=some (Zj,[.tmp 4]):=by kernel_rfl
def zB:ax :=
 (.seq
  (.seq
   (.region [oM 33 8,oM 34 4,oK 35 (.nilCheck (.t 34)),oF 36 4 35,oL 37 36,oJ 38 37,oB 39 .lss 33 38])
   (.cond (.t 39)
    .skip
    (.exit 0)))
  (.seq
   (.block 1
    (.seq
     (.seq
      (.region [oM 42 4,oK 43 (.nilCheck (.t 42)),oF 44 4 43,oL 45 44,oJ 46 45,oK 47 (.bin .gtr .none (.t 46) (.c (.int .i64 400)))])
      (.cond (.t 47)
       (.seq
        (.region [oK 2 (.mv (.c .af)),oK 3 (.mv (.c (.bool false)))])
        .ret)
       .skip))
     (.region [oM 48 4,oM 49 8,oK 50 (.call (.c (.func 34 [] [])) [(.t 48),(.t 49)])])))
   (.region [oM 40 8,oK 41 (.bin .add .none (.t 40) (.c (.int .i64 1))),oM 8 41])))
def Zf:ax :=
 (.seq
  (.region [oK 2 (.mv (.c .af)),oK 3 (.mv (.c (.bool false)))])
  (.seq
   (.region [oM 9 0,oK 10 (.mkMap),oK 11 (.mkMap),oK 12 (.build [.dq,.b8,.af,.b8,.af,.af] [(0,1,(.t 9)),(1,1,(.t 10)),(3,1,(.t 11))]),oK 13 (.box 101 (.t 12)),oM 4 13])
   (.seq
    (.region [oM 15 4,oK 16 (.mkMap),oM 17 4,oM 18 0,oK 19 (.invoke (.t 18) "restante/reading.start" []),oK 20 (.call (.c (.func 32 [] [])) [(.t 17),(.t 19)]),oZ (.fj (.one .i) (.t 16) (.t 20) (.c (.int .i64 0))),oM 21 16,oK 22 (.call (.c (.func 31 [] [])) [(.t 15),(.t 21)]),oM 14 22,oK 23 (.extract 0 (.t 14)),oK 24 (.extract 1 (.t 14)),oK 25 (.extract 2 (.t 14)),oM 5 23,oM 6 24,oM 7 25])
    (.seq
     (.seq
      (.region [oM 26 7,oK 27 (.not (.t 26))])
      (.cond (.t 27)
       (.seq
        (.region [oK 28 (.build [.af,(.int .i64 0)] [(1,1,(.c (.int .i64 (-1))))]),oK 29 (.buildSlice 110 1 [.af,(.int .i64 0)] [(0,2,(.t 28))]),oM 2 29,oK 3 (.mv (.c (.bool true)))])
        .ret)
       .skip))
     (.seq
      (.region [oM 30 4,oM 31 5,oK 32 (.call (.c (.func 33 [] [])) [(.t 30),(.t 31)])])
      (.seq
       (.seq
        (.region [oK 8 (.mv (.c (.int .i64 0)))])
        (.block 0
         (.loop zB)))
       (.seq
        (.drawn 12 [oP 0 (oM 51 4),oP 1 (oK 52 (.nilCheck (.t 51))),oP 2 (oF 53 5 52),oR 3 (oL 54 53),oP 4 (oM 55 4),oP 5 (oK 56 (.nilCheck (.t 55))),oP 6 (oF 57 4 56),oR 7 (oL 58 57),oP 8 (oJ 59 58),oP 9 (oK 60 (.bin .leq .none (.t 59) (.c (.int .i64 400)))),oP 10 (oM 2 54),oP 11 (oM 3 60)])
        .ret)))))))
def RF:E2.code 19=some (Zf,[.tmp 2,.tmp 3]):=by kernel_rfl
def rS:ax :=
 (.seq
  (.region [oK 16 (.next (.t 15)),oK 17 (.extract 0 (.t 16))])
  (.seq
   (.cond (.t 17)
    .skip
    (.exit 0))
   (.block 1
    (.seq
     (.region [oK 18 (.entry (.t 15)),oK 19 (.extract 0 (.t 18)),oK 20 (.extract 1 (.t 18)),oM 8 19,oM 9 20])
     (.seq
      (.drawn 14 [oP 0 (oM 21 0),oP 1 (oK 22 (.nilCheck (.t 21))),oP 2 (oF 23 0 22),oR 3 (oL 24 23),oP 4 (oM 25 0),oP 5 (oK 26 (.nilCheck (.t 25))),oP 6 (oF 27 2 26),oR 7 (oL 28 27),oP 8 (oM 29 8),oP 9 (oX 30 1 28 29),oR 10 (oL 31 30),oP 11 (oK 32 (.nilCheck (.t 24))),oP 12 (oM 33 24),oW 13 (oK 34 (.invoke (.t 33) "restante/reading.live" [(.t 31)]))])
      (.cond (.t 34)
       (.region [oM 35 7,oM 36 8,oM 37 9,oK 38 (.build [(.int .i64 0),(.int .i64 0)] [(0,1,(.t 36)),(1,1,(.t 37))]),oK 39 (.buildSlice 154 1 [(.int .i64 0),(.int .i64 0)] [(0,2,(.t 38))]),oK 40 (.append 154 2 (.t 35) (.t 39)),oM 7 40])
       .skip))))))
def rT:ax :=
 (.seq
  (.region [oB 53 .lss 52 51])
  (.seq
   (.cond (.t 53)
    .skip
    (.exit 2))
   (.seq
    (.block 3
     (.seq
      (.region [oX 54 2 50 52,oQ 55 2 54,oK 12 (.box 154 (.c (.agg [(.int .i64 0),(.int .i64 0)]))),oS 2 12 55])
      (.region [oM 56 10,oF 57 1 12,oL 58 57,oK 59 (.fk false [(.t 56),(.t 58)]),oM 10 59])))
    (.region [oK 60 (.bin .add .none (.t 52) (.c (.int .i64 1))),oM 52 60]))))
def rU:ax :=
 (.seq
  (.region [oB 64 .lss 63 62])
  (.seq
   (.cond (.t 64)
    .skip
    (.exit 4))
   (.seq
    (.block 5
     (.seq
      (.region [oM 65 63,oM 13 65])
      (.region [oM 66 7,oM 67 13,oX 68 2 66 67,oF 69 1 68,oL 70 69,oM 71 10,oB 72 .sub 70 71,oX 73 2 66 67,oF 74 1 73,oS 1 74 72])))
    (.region [oK 75 (.bin .add .none (.t 63) (.c (.int .i64 1))),oM 63 75]))))
def Ge:ax :=
 (.seq
  (.region [oK 4 (.mv (.c .af)),oK 5 (.mv (.c (.int .i64 0))),oK 6 (.mv (.c (.bool false)))])
  (.seq
   (.region [oK 7 (.mv (.c .af))])
   (.seq
    (.seq
     (.region [oM 14 1,oK 15 (.range (.t 14))])
     (.block 0
      (.loop rS)))
    (.seq
     (.seq
      (.region [oM 41 7,oJ 42 41,oK 43 (.bin .eql .none (.t 42) (.c (.int .i64 0)))])
      (.cond (.t 43)
       (.seq
        (.region [oK 4 (.mv (.c .af)),oK 5 (.mv (.c (.int .i64 0))),oK 6 (.mv (.c (.bool false)))])
        .ret)
       .skip))
     (.seq
      (.region [oM 44 7,oK 45 (.call (.c (.func 53 [] [])) [(.t 44),(.c (.func 54 [] []))])])
      (.seq
       (.region [oM 46 7,oK 47 (.kz 2 (.t 46) (.c (.int .i64 0))),oF 48 1 47,oL 49 48,oM 10 49])
       (.seq
        (.seq
         (.region [oM 50 7,oJ 51 50,oK 52 (.mv (.c (.int .i64 0)))])
         (.block 2
          (.loop rT)))
        (.seq
         (.seq
          (.region [oM 61 7,oJ 62 61,oK 63 (.mv (.c (.int .i64 0)))])
          (.block 4
           (.loop rU)))
         (.seq
          (.region [oM 76 7,oM 77 10,oM 4 76,oM 5 77,oK 6 (.mv (.c (.bool true)))])
          .ret)))))))))
def FZ:E2.code 31=some (Ge,[.tmp 4,.tmp 5,.tmp 6]):=by kernel_rfl
def FL:ax :=
 (.seq
  (.region [oK 4 (.mv (.c (.int .i64 0)))])
  (.seq
   (.region [oM 8 0,oK 9 (.nilCheck (.t 8)),oF 10 1 9,oL 11 10,oM 12 1,oK 13 (.lookup (.one .i) (.int .i64 0) (.t 11) (.t 12) true),oM 7 13,oK 14 (.extract 0 (.t 7)),oK 15 (.extract 1 (.t 7)),oM 5 14,oM 6 15])
   (.seq
    (.seq
     (.region [oM 16 6,oK 17 (.not (.t 16))])
     (.cond (.t 17)
      (.seq
       (.region [oM 18 0,oK 19 (.nilCheck (.t 18)),oF 20 2 19,oL 21 20,oJ 22 21,oM 5 22])
       (.seq
        (.region [oM 23 0,oK 24 (.nilCheck (.t 23)),oF 25 1 24,oL 26 25,oM 27 1,oM 28 5,oZ (.fj (.one .i) (.t 26) (.t 27) (.t 28))])
        (.region [oM 29 0,oM 30 0,oK 31 (.nilCheck (.t 30)),oF 32 2 31,oL 33 32,oM 34 1,oK 35 (.buildSlice 3 1 [(.int .i64 0)] [(0,1,(.t 34))]),oK 36 (.append 3 1 (.t 33) (.t 35)),oK 37 (.nilCheck (.t 29)),oF 38 2 37,oS 1 38 36])))
      .skip))
    (.seq
     (.region [oM 39 5,oM 4 39])
     .ret))))
def FU:E2.code 32=some (FL,[.tmp 4]):=by kernel_rfl
def LJ:ax :=
 (.seq
  (.region [oK 4 (.mv (.c (.int .i64 0)))])
  (.seq
   (.region [oM 8 1,oK 9 (.call (.c (.func 55 [] [])) [(.t 8)]),oM 5 9])
   (.seq
    (.region [oM 11 0,oK 12 (.nilCheck (.t 11)),oF 13 3 12,oL 14 13,oM 15 5,oK 16 (.lookup (.one .s) (.int .i64 0) (.t 14) (.t 15) true),oM 10 16,oK 17 (.extract 0 (.t 10)),oK 18 (.extract 1 (.t 10)),oM 6 17,oM 7 18])
    (.seq
     (.seq
      (.region [oM 19 7,oK 20 (.not (.t 19))])
      (.cond (.t 20)
       (.seq
        (.region [oM 21 0,oK 22 (.nilCheck (.t 21)),oF 23 4 22,oL 24 23,oJ 25 24,oM 6 25])
        (.seq
         (.region [oM 26 0,oK 27 (.nilCheck (.t 26)),oF 28 3 27,oL 29 28,oM 30 5,oM 31 6,oZ (.fj (.one .s) (.t 29) (.t 30) (.t 31))])
         (.seq
          (.region [oM 32 0,oM 33 0,oK 34 (.nilCheck (.t 33)),oF 35 4 34,oL 36 35,oM 37 1,oK 38 (.buildSlice 103 1 [.af] [(0,1,(.t 37))]),oK 39 (.append 103 1 (.t 36) (.t 38)),oK 40 (.nilCheck (.t 32)),oF 41 4 40,oS 1 41 39])
          (.region [oM 42 0,oM 43 0,oK 44 (.nilCheck (.t 43)),oF 45 5 44,oL 46 45,oK 47 (.build [.af,(.int .i64 0)] [(1,1,(.c (.int .i64 (-1))))]),oK 48 (.buildSlice 110 1 [.af,(.int .i64 0)] [(0,2,(.t 47))]),oK 49 (.append 110 2 (.t 46) (.t 48)),oK 50 (.nilCheck (.t 42)),oF 51 5 50,oS 1 51 49]))))
       .skip))
     (.seq
      (.region [oM 52 6,oM 4 52])
      .ret)))))
def Jm:E2.code 33=some (LJ,[.tmp 4]):=by kernel_rfl
def rM:ax :=
 (.seq
  (.region [oB 25 .lss 24 23])
  (.seq
   (.cond (.t 25)
    .skip
    (.exit 0))
   (.seq
    (.block 1
     (.seq
      (.region [oX 26 2 22 24,oQ 27 2 26,oK 5 (.box 154 (.c (.agg [(.int .i64 0),(.int .i64 0)]))),oS 2 5 27])
      (.seq
       (.drawn 20 [oR 0 (oL 29 2),oP 1 (oK 30 (.nilCheck (.t 29))),oP 2 (oF 31 0 30),oR 3 (oL 32 31),oR 4 (oL 33 2),oP 5 (oK 34 (.nilCheck (.t 33))),oP 6 (oF 35 2 34),oR 7 (oL 36 35),oP 8 (oF 37 0 5),oR 9 (oL 38 37),oP 10 (oX 39 1 36 38),oR 11 (oL 40 39),oP 12 (oK 41 (.nilCheck (.t 32))),oP 13 (oM 42 32),oW 14 (oK 43 (.invoke (.t 42) "restante/reading.final" [(.t 40)])),oP 15 (oM 28 43),oP 16 (oK 44 (.extract 0 (.t 28))),oP 17 (oK 45 (.extract 1 (.t 28))),oP 18 (oM 6 44),oP 19 (oM 7 45)])
       (.seq
        (.drawn 27 [oP 0 (oM 46 7),oP 1 (oM 47 46),oR 2 (oG 48 47 true (.ct (.t 2))),oP 3 (oG 49 47 true (.nilCheck (.t 48))),oP 4 (oG 50 47 true (.dh 5 (.t 49))),oR 5 (oG 51 47 true (.ct (.t 50))),oP 6 (oG 52 47 true (.mv (.t 1))),oP 7 (oG 53 47 true (.kz 2 (.t 51) (.t 52))),oP 8 (oG 54 47 true (.dh 1 (.t 53))),oR 9 (oG 55 47 true (.ct (.t 54))),oP 10 (oG 56 47 true (.bin .lss .none (.t 55) (.c (.int .i64 0)))),oP 11 (oG 57 47 true (.mv (.t 56))),oP 12 (oG 58 57 false (.mv (.t 6))),oP 13 (oG 59 57 false (.dh 1 (.t 5))),oR 14 (oG 60 57 false (.ct (.t 59))),oP 15 (oG 61 57 false (.bin .add .none (.t 58) (.t 60))),oR 16 (oG 62 57 false (.ct (.t 2))),oP 17 (oG 63 57 false (.nilCheck (.t 62))),oP 18 (oG 64 57 false (.dh 5 (.t 63))),oR 19 (oG 65 57 false (.ct (.t 64))),oP 20 (oG 66 57 false (.mv (.t 1))),oP 21 (oG 67 57 false (.kz 2 (.t 65) (.t 66))),oP 22 (oG 68 57 false (.dh 1 (.t 67))),oR 23 (oG 69 57 false (.ct (.t 68))),oP 24 (oG 70 57 false (.bin .lss .none (.t 61) (.t 69))),oP 25 (oG 71 47 true (.pick (.t 57) (.c (.bool true)) (.t 70))),oP 26 (oK 72 (.pick (.t 47) (.t 71) (.c (.bool false))))])
        (.cond (.t 72)
         (.drawn 12 [oR 0 (oL 73 2),oP 1 (oK 74 (.nilCheck (.t 73))),oP 2 (oF 75 5 74),oR 3 (oL 76 75),oP 4 (oM 77 1),oP 5 (oM 78 6),oP 6 (oF 79 1 5),oR 7 (oL 80 79),oP 8 (oB 81 .add 78 80),oP 9 (oX 82 2 76 77),oP 10 (oF 83 1 82),oW 11 (oS 1 83 81)])
         .skip)))))
    (.region [oK 84 (.bin .add .none (.t 24) (.c (.int .i64 1))),oM 24 84]))))
def rN:ax :=
 (.seq
  (.region [oB 98 .lss 97 96])
  (.seq
   (.cond (.t 98)
    .skip
    (.exit 4))
   (.seq
    (.block 5
     (.seq
      (.region [oX 99 2 95 97,oQ 100 2 99,oK 11 (.box 154 (.c (.agg [(.int .i64 0),(.int .i64 0)]))),oS 2 11 100])
      (.drawn 18 [oR 0 (oL 101 2),oP 1 (oK 102 (.nilCheck (.t 101))),oP 2 (oF 103 0 102),oR 3 (oL 104 103),oR 4 (oL 105 2),oP 5 (oK 106 (.nilCheck (.t 105))),oP 6 (oF 107 2 106),oR 7 (oL 108 107),oP 8 (oF 109 0 11),oR 9 (oL 110 109),oP 10 (oX 111 1 108 110),oR 11 (oL 112 111),oP 12 (oM 113 8),oP 13 (oK 114 (.kh (.c (.str [32,45,48,49,50,51,52,53,54,55,56,57,97,98,99,100,101,102,103,104,105,106,107,108,109,110,111,112,113,114,115,116,117,118,119,120,121,122])) (.t 113))),oP 14 (oK 115 (.iu 56 [] [(.t 2),(.t 9),(.t 11)])),oP 15 (oK 116 (.nilCheck (.t 104))),oP 16 (oM 117 104),oW 17 (oK 118 (.invoke (.t 117) "restante/reading.step" [(.t 112),(.t 114),(.t 115)]))])))
    (.region [oK 119 (.bin .add .none (.t 97) (.c (.int .i64 1))),oM 97 119]))))
def rO:ax :=
 (.seq
  (.region [oK 86 (.bin .lss .none (.t 85) (.c (.int .i64 38)))])
  (.seq
   (.cond (.t 86)
    .skip
    (.exit 2))
   (.seq
    (.block 3
     (.seq
      (.region [oM 87 85,oM 8 87])
      (.seq
       (.region [oK 88 (.mkMap),oK 9 (.box 93 (.c .b8)),oS 1 9 88])
       (.seq
        (.seq
         (.region [oL 89 2,oK 90 (.nilCheck (.t 89)),oF 91 4 90,oL 92 91,oM 93 1,oX 94 1 92 93,oL 95 94,oJ 96 95,oK 97 (.mv (.c (.int .i64 0)))])
         (.block 4
          (.loop rN)))
        (.seq
         (.region [oL 121 2,oL 122 9,oK 123 (.call (.c (.func 31 [] [])) [(.t 121),(.t 122)]),oM 120 123,oK 124 (.extract 0 (.t 120)),oK 125 (.extract 1 (.t 120)),oK 126 (.extract 2 (.t 120)),oM 12 124,oM 13 125,oM 14 126])
         (.seq
          (.region [oM 127 14])
          (.cond (.t 127)
           (.seq
            (.region [oL 128 2,oM 129 12,oK 130 (.call (.c (.func 33 [] [])) [(.t 128),(.t 129)]),oM 15 130])
            (.drawn 23 [oR 0 (oL 131 2),oP 1 (oK 132 (.nilCheck (.t 131))),oP 2 (oF 133 5 132),oR 3 (oL 134 133),oP 4 (oM 135 1),oR 5 (oL 136 2),oP 6 (oK 137 (.nilCheck (.t 136))),oP 7 (oF 138 5 137),oR 8 (oL 139 138),oP 9 (oM 140 1),oP 10 (oX 141 2 139 140),oP 11 (oF 142 0 141),oR 12 (oL 143 142),oP 13 (oM 144 8),oP 14 (oK 145 (.kh (.c (.str [32,45,48,49,50,51,52,53,54,55,56,57,97,98,99,100,101,102,103,104,105,106,107,108,109,110,111,112,113,114,115,116,117,118,119,120,121,122])) (.t 144))),oP 15 (oM 146 15),oP 16 (oM 147 13),oP 17 (oK 148 (.build [(.int .u8 0),(.int .i64 0),(.int .i64 0)] [(0,1,(.t 145)),(1,1,(.t 146)),(2,1,(.t 147))])),oT 18 (oK 149 (.buildSlice 124 1 [(.int .u8 0),(.int .i64 0),(.int .i64 0)] [(0,3,(.t 148))])),⟨oK 150 (.append 124 3 (.t 143) (.t 149)),19,.wr,[oL 134 133,oL 131 2]⟩,oP 20 (oX 151 2 134 135),oP 21 (oF 152 0 151),oW 22 (oS 1 152 150)]))
           .skip)))))))
    (.region [oK 153 (.bin .add .none (.t 85) (.c (.int .i64 1))),oM 85 153]))))
def FH:ax :=
 (.seq
  (.region [oK 2 (.box 97 (.t 0))])
  (.seq
   (.seq
    (.region [oL 16 2,oK 17 (.nilCheck (.t 16)),oF 18 4 17,oL 19 18,oM 20 1,oX 21 1 19 20,oL 22 21,oJ 23 22,oK 24 (.mv (.c (.int .i64 0)))])
    (.block 0
     (.loop rM)))
   (.seq
    (.region [oK 85 (.mv (.c (.int .i64 0)))])
    (.block 2
     (.loop rO)))))
def FN:E2.code 34=some (FH,[]):=by kernel_rfl
def Ga:ax :=
 (.seq
  (.region [oB 9 .lss 8 7])
  (.seq
   (.cond (.t 9)
    .skip
    (.exit 0))
   (.seq
    (.block 1
     (.seq
      (.region [oX 10 2 6 8,oQ 11 2 10,oK 5 (.box 154 (.c (.agg [(.int .i64 0),(.int .i64 0)]))),oS 2 5 11])
      (.drawn 10 [oP 0 (oF 12 0 5),oR 1 (oL 13 12),oP 4 (oF 16 1 5),oR 5 (oL 17 16),⟨oK 14 (.call (.c (.func 45 [] [])) [(.t 13)]),2,.wr,[oL 17 16]⟩,oP 3 (oK 15 (.bin .add .none (.t 14) (.c (.str [58])))),oW 6 (oK 18 (.call (.c (.func 45 [] [])) [(.t 17)])),oP 7 (oB 19 .add 15 18),oP 8 (oK 20 (.bin .add .none (.t 19) (.c (.str [32])))),oW 9 (oK 21 (.call (.c (.func 43 [] [])) [(.t 3),(.t 20)]))])))
    (.region [oK 22 (.bin .add .none (.t 8) (.c (.int .i64 1))),oM 8 22]))))
def Zm:ax :=
 (.seq
  (.region [oK 2 (.mv (.c (.str [])))])
  (.seq
   (.region [oK 3 (.box 133 (.c (.agg [.dt,.af])))])
   (.seq
    (.seq
     (.region [oM 6 0,oJ 7 6,oK 8 (.mv (.c (.int .i64 0)))])
     (.block 0
      (.loop Ga)))
    (.seq
     (.region [oK 23 (.call (.c (.func 46 [] [])) [(.t 3)]),oM 2 23])
     .ret))))
def RL:E2.code 55=some (Zm,[.tmp 2]):=by kernel_rfl
def Cs:ax :=
 (.seq
  (.region [oL 10 2,oM 11 0,oK 12 (.call (.c (.func 32 [] [])) [(.t 10),(.t 11)]),oM 7 12])
  (.seq
   (.region [oL 14 3,oM 15 7,oK 16 (.lookup (.one .i) (.int .i64 0) (.t 14) (.t 15) true),oM 13 16,oK 17 (.extract 0 (.t 13)),oK 18 (.extract 1 (.t 13)),oM 8 17,oM 9 18])
   (.seq
    (.region [oM 19 9,oK 20 (.not (.t 19)),oM 21 20,oG 22 21 false (.dh 1 (.t 4)),oG 23 21 false (.ct (.t 22)),oG 24 21 false (.mv (.t 1)),oG 25 21 false (.bin .add .none (.t 23) (.t 24)),oG 26 21 false (.mv (.t 8)),oG 27 21 false (.bin .lss .none (.t 25) (.t 26)),oK 28 (.pick (.t 21) (.c (.bool true)) (.t 27))])
    (.cond (.t 28)
     (.region [oL 29 3,oM 30 7,oF 31 1 4,oL 32 31,oM 33 1,oB 34 .add 32 33,oZ (.fj (.one .i) (.t 29) (.t 30) (.t 34))])
     .skip))))
def DC:E2.code 56=some (Cs,[]):=by kernel_rfl
def Gb:ax :=
 (.seq
  (.region [oK 4 (.mv (.c (.int .i64 0))),oK 5 (.mv (.c (.bool false)))])
  (.seq
   (.region [oM 7 0,oK 8 (.nilCheck (.t 7)),oF 9 0 8,oF 10 1 9,oL 11 10,oM 12 1,oX 13 1 11 12,oL 14 13,oM 6 14])
   (.seq
    (.seq
     (.region [oM 15 6,oK 16 (.bin .gtr .none (.t 15) (.c (.int .i64 0))),oM 17 16,oG 18 17 true (.mv (.t 0)),oG 19 17 true (.nilCheck (.t 18)),oG 20 17 true (.dh 3 (.t 19)),oG 21 17 true (.ct (.t 20)),oK 22 (.pick (.t 17) (.t 21) (.c (.bool false)))])
     (.cond (.t 22)
      (.region [oK 6 (.mv (.c (.int .i64 0)))])
      .skip))
    (.seq
     (.region [oM 23 6,oM 24 6,oK 25 (.bin .geq .none (.t 24) (.c (.int .i64 0))),oM 4 23,oM 5 25])
     .ret))))
def FW:E2.code 166=some (Gb,[.tmp 4,.tmp 5]):=by kernel_rfl
def LG:ax :=
 (.seq
  (.region [oK 4 (.mv (.c (.bool false)))])
  (.seq
   (.region [oM 5 0,oK 6 (.nilCheck (.t 5)),oF 7 2 6,oL 8 7,oM 9 1,oX 10 1 8 9,oL 11 10,oM 4 11])
   .ret))
def Jj:E2.code 167=some (LG,[.tmp 4]):=by kernel_rfl
def Gc:ax :=
 (.seq
  (.region [oK 2 (.mv (.c (.int .i64 0)))])
  (.seq
   (.region [oK 2 (.mv (.c (.int .i64 0)))])
   .ret))
def FX:E2.code 168=some (Gc,[.tmp 2]):=by kernel_rfl
def zR:ax :=
 (.seq
  (.region [oB 20 .lss 19 18])
  (.seq
   (.cond (.t 20)
    .skip
    (.exit 0))
   (.seq
    (.block 1
     (.seq
      (.region [oX 21 4 17 19,oQ 22 4 21,oK 9 (.box 52 (.c (.agg [(.int .i64 0),(.int .i64 0),(.int .u8 0),(.int .i64 0)]))),oS 4 9 22])
      (.seq
       (.region [oF 23 2 9,oL 24 23,oM 25 2,oB 26 .eql 24 25])
       (.cond (.t 26)
        (.seq
         (.seq
          (.region [oM 27 0,oK 28 (.nilCheck (.t 27)),oF 29 3 28,oL 30 29])
          (.cond (.t 30)
           (.region [oF 31 3 9,oZ (.store 1 (.t 31) (.c (.int .i64 0)))])
           .skip))
         (.region [oM 32 3,oF 33 1 9,oL 34 33,oF 35 3 9,oL 36 35,oK 37 (.call (.t 32) [(.t 34),(.t 36)])]))
        .skip))))
    (.region [oK 38 (.bin .add .none (.t 19) (.c (.int .i64 1))),oM 19 38]))))
def LH:ax :=
 (.seq
  (.region [oM 10 0,oK 11 (.nilCheck (.t 10)),oF 12 0 11,oF 13 0 12,oL 14 13,oM 15 1,oX 16 1 14 15,oL 17 16,oJ 18 17,oK 19 (.mv (.c (.int .i64 0)))])
  (.block 0
   (.loop zR)))
def Jk:E2.code 169=some (LH,[]):=by kernel_rfl
abbrev bL:=Nat×Int
def aV (x:bL):List ae:=[.int .i64 (x.1:Int),.int .i64 x.2]
def aK (e:cI):List ae:=[.int .u8 (e.letter:Int),.int .i64 (e.to:Int),.int .i64 e.cost]
structure jV (C:Type) where
 cfg:List C
 aR:List (List bL)
 nodes:List aw
structure MN (C:Type) where
 enc:C->ae
 cells:C->List ae
 sz:Nat
 el:TypeId
def cq:MN Int:=⟨.int .i64,λc=>[.int .i64 c],1,3⟩
structure nD (C:Type) where
 nb:Nat
 tb:Nat
 cv:ae
 pv:ae
 dv:ae
 wH:List (C×Int×Nat)
 nc:Nat
 BF:List (List Nat×Int×Nat)
 tc:Nat
 rows:List ae
 jv:List ae
def yO (x:bL):List Nat:=cE (x.1:Int)++[58]++cE x.2++[32]
def gP (p:List bL):List Nat:=(p.map yO).flatten
def cr:List ae->List aw->List ae
 |v :: vs,n :: ns=>v :: .int .i64 n.fin :: cr vs ns
 |_,_=>[]
def qf (aZ:Nat->Nat)(n0:Nat)(h:aa)(k:Nat)(v:ae):Prop:=∀c,aM v c->n0<=c/\c<h.next/\aZ c=k
structure uW (p q n0:Nat)(aZ:Nat->Nat)(h h':aa):Prop where
 next:h.next<=h'.next
 get:∀b,n0<=b->b<h.next->p<=aZ b->aZ b<=q->h'.get b=h.get b
def uW.sub {p q p' q' n0:Nat}{aZ:Nat->Nat}{h h':aa}(H:uW p q n0 aZ h h')(h1:p<=p')(h2:q'<=q):uW p' q' n0 aZ h h':=⟨H.next,λb a1 a2 a3 a4=>H.get b a1 a2 (by omega) (by omega)⟩
def uW.of {p q n0:Nat}{aZ:Nat->Nat}{h h':aa}(H:aU h h'):uW p q n0 aZ h h':=⟨H.next,λb _ hb _ _=>H.get b hb⟩
def qf.mono {aZ col':Nat->Nat}{n0:Nat}{h h':aa}{k:Nat}{v:ae}(H:qf aZ n0 h k v)(hn:h.next<=h'.next)(hc:∀b,b<h.next->col' b=aZ b):qf col' n0 h' k v :=
 λc hb=>⟨(H c hb).1,qQG (H c hb).2.1 hn,(hc c (H c hb).2.1).trans (H c hb).2.2⟩
def uW.rm {p q n0:Nat}{aZ:Nat->Nat}{h h':aa}(F:uW p q n0 aZ h h'){k:Nat}{v:ae}(Hb:qf aZ n0 h k v)(h1:p<=k)(h2:k<=q):∀b,aM v b->h'.get b=h.get b :=
 λb hb=>F.get b (Hb b hb).1 (Hb b hb).2.1 (by rw[(Hb b hb).2.2];exact h1) (by rw[(Hb b hb).2.2];exact h2)
def cg.frame {h h':aa}{size:Nat}{v:ae}{xs:List (List ae)}(H:cg h size v xs)(hn:h.next<=h'.next)(hg:∀b,aM v b->h'.get b=h.get b):cg h' size v xs:=by
 refine⟨H.1,H.2.imp id λ⟨b,o,c,ex,e,hr⟩=>⟨b,o,c,ex,e,hr.imp id λhr=>?_⟩⟩;obtain⟨h1,c',e',own,h2,h3⟩:=hr;exact⟨qQG h1 hn,c',e',own,by rw[hg b ⟨_,_,_,_,e⟩];exact h2,h3⟩
structure Fh {C:Type}[DecidableEq C](X:MN C)(n0:Nat)(aZ:Nat->Nat)(h:aa)(nb:Nat)(cv:ae)(wH:List (C×Int×Nat))(nc:Nat)(cfg:List C):Prop where
 lt:n0<=nb/\nb<h.next
 iE:aZ nb=2
 own:dO h X.sz X.el cv (cfg.map X.cells).flatten
 qj:qf aZ n0 h 3 cv
 num:h.get nb=some (.map (wH.map (fV X.enc (.int .i64))) nc)
 acN:uV wH nc
 O4:∀c k,cX wH c=some k↔∃i:Nat,k=(i:Int)/\cfg[i]?=some c
structure VV (n0:Nat)(aZ:Nat->Nat)(h:aa)(tb:Nat)(pv:ae)(BF:List (List Nat×Int×Nat))(tc:Nat)(rows:List ae)(ps:List (List bL)):Prop where
 lt:n0<=tb/\tb<h.next
 iE:aZ tb=4
 st:h.get tb=some (.map (BF.map (fV .str (.int .i64))) tc)
 stM:uV BF tc
 stV:∀s k,cX BF s=some k↔∃(i:Nat)(p:List bL),k=(i:Int)/\ps[i]?=some p/\gP p=s
 aR:dO h 1 103 pv rows
 K1:qf aZ n0 h 5 pv
 Lb:rows.length=ps.length
 YE:∀(i:Nat)(v:ae)(p:List bL),rows[i]?=some v->ps[i]?=some p->cg h 2 v (p.map aV)
 tR:∀v,v∈rows->v.flat=true/\qf aZ n0 h 6 v
structure wK (n0:Nat)(aZ:Nat->Nat)(h:aa)(dv:ae)(jv:List ae)(ns:List aw):Prop where
 nodes:dO h 2 110 dv (cr jv ns)
 nI:qf aZ n0 h 7 dv
 ak:iC 3 124 aK n0 h jv (ns.map aw.ak)
 oD:∀v,v∈jv->qf aZ n0 h 8 v
structure iP {C:Type}[DecidableEq C](X:MN C)(mv:ae)(ty:TypeId)(n0:Nat)(aZ:Nat->Nat)(h:aa)(sb:Nat)(d:nD C)(S:jV C):Prop where
 lt:n0<=sb/\sb<h.next
 iE:aZ sb=1
 obj:h.get sb=some (.cells [mv,.map d.nb,d.cv,.map d.tb,d.pv,d.dv] ty)
 c:Fh X n0 aZ h d.nb d.cv d.wH d.nc S.cfg
 s:VV n0 aZ h d.tb d.pv d.BF d.tc d.rows S.aR
 n:wK n0 aZ h d.dv d.jv S.nodes
 AG:S.nodes.length=S.aR.length
section
variable{C:Type}[DecidableEq C]{X:MN C}{mv:ae}{ty:TypeId}{n0:Nat}{aZ col':Nat->Nat}{h h':aa}{sb:Nat}{d:nD C}{S:jV C}
def Fh.frame {nb:Nat}{cv:ae}{wH:List (C×Int×Nat)}{nc:Nat}{cfg:List C}(H:Fh X n0 aZ h nb cv wH nc cfg)(F:uW 2 3 n0 aZ h h')(hc:∀b,b<h.next->col' b=aZ b):Fh X n0 col' h' nb cv wH nc cfg:=by
 have hn:=F.next;obtain⟨l1,l2⟩:=H.lt;exact⟨⟨l1,by omega⟩,(hc _ l2).trans H.iE,H.own.frame hn (F.rm H.qj (by omega) (by omega)),H.qj.mono hn hc,(F.get _ l1 l2 (by rw[H.iE];omega) (by rw[H.iE];omega)).trans H.num,H.acN,H.O4⟩
def VV.frame {tb:Nat}{pv:ae}{BF:List (List Nat×Int×Nat)}{tc:Nat}{rows:List ae}{ps:List (List bL)}(H:VV n0 aZ h tb pv BF tc rows ps)(F:uW 4 6 n0 aZ h h')(hc:∀b,b<h.next->col' b=aZ b):VV n0 col' h' tb pv BF tc rows ps:=by
 have hn:=F.next;obtain⟨l1,l2⟩:=H.lt
 exact⟨⟨l1,by omega⟩,(hc _ l2).trans H.iE,(F.get _ l1 l2 (by rw[H.iE];omega) (by rw[H.iE];omega)).trans H.st,H.stM,H.stV,H.aR.frame hn (F.rm H.K1 (by omega) (by omega)),H.K1.mono hn hc,H.Lb,
  λi v p hv hp=>(H.YE i v p hv hp).frame hn (F.rm (H.tR v (qQK hv)).2 (by omega) (by omega)),λv hv=>⟨(H.tR v hv).1,(H.tR v hv).2.mono hn hc⟩⟩
def wK.frame {dv:ae}{jv:List ae}{ns:List aw}(H:wK n0 aZ h dv jv ns)(F:uW 7 8 n0 aZ h h')(hc:∀b,b<h.next->col' b=aZ b):wK n0 col' h' dv jv ns:=by
 have hn:=F.next;refine⟨H.nodes.frame hn (F.rm H.nI (by omega) (by omega)),H.nI.mono hn hc,?_,λv hv=>(H.oD v hv).mono hn hc⟩;exact H.ak.frame hn λc _ _ ⟨i,v,hv,hb⟩=>F.rm (H.oD v (qQK hv)) (by omega) (by omega) c hb
def iP.frame (H:iP X mv ty n0 aZ h sb d S)(F:uW 1 8 n0 aZ h h')(hc:∀b,b<h.next->col' b=aZ b):iP X mv ty n0 col' h' sb d S:=by
 have hn:=F.next;obtain⟨l1,l2⟩:=H.lt;exact⟨⟨l1,by omega⟩,(hc _ l2).trans H.iE,(F.get _ l1 l2 (by rw[H.iE];omega) (by rw[H.iE];omega)).trans H.obj,H.c.frame (F.sub (by omega) (by omega)) hc,H.s.frame (F.sub (by omega) (by omega)) hc,H.n.frame (F.sub (by omega) (by omega)) hc,H.AG⟩
def iP.BE (H:iP X mv ty n0 aZ h sb d S) :
 aN h sb 0=some mv/\aN h sb 1=some (.map d.nb)/\aN h sb 2=some d.cv/\aN h sb 3=some (.map d.tb)/\aN h sb 4=some d.pv/\aN h sb 5=some d.dv:=by
 refine⟨?_,?_,?_,?_,?_,?_⟩<;>(rw[aq H.obj];rfl)
end
structure Fl (k n0:Nat)(aZ:Nat->Nat)(h h':aa):Prop where
 next:h.next<=h'.next
 get:∀b,b<h.next->(b<n0\/aZ b=0\/k<aZ b)->h'.get b=h.get b
def ep (aZ:Nat->Nat)(h:aa)(k:Nat)(b:Nat):Nat:=if b<h.next then aZ b else k
def br {aZ:Nat->Nat}{h:aa}{k b:Nat}(hb:b<h.next):ep aZ h k b=aZ b:=if_pos hb
def dY {aZ:Nat->Nat}{h:aa}{k b:Nat}(hb:h.next<=b):ep aZ h k b=k:=if_neg (by omega)
def fu {v:ae}{b:Nat}(h:aM v b):∀{c},aM v c->c=b:=by
 rintro c ⟨o,n,c2,e,h2⟩;obtain⟨o',n',c',e',h1⟩:=h;rw[h1]at h2;cases h2;rfl
def pE (l:List Int):(l.map cq.cells).flatten=l.map (.int .i64):=by
 induction l with
 |nil=>rfl
 |cons a l ih=>rw[qZW,qZA,ih];rfl
def Hw {mv:ae}{n0:Nat}{aZ:Nat->Nat}{h:aa}{sb:Nat}{d:nD Int}{S:jV Int}(H:iP cq mv 101 n0 aZ h sb d S)(hb:S.cfg.length+1<=1073741824)(c:Int) :
 Ec E2 32 [.ptr sb 0,.int .i64 c] h λv h'=>∃(col':Nat->Nat)(d':nD Int)(iL:List Int)(i:Nat),v=.int .i64 (i:Int)/\iP cq mv 101 n0 col' h' sb d' {S with cfg:=iL}/\iL[i]?=some c /\
   (iL=S.cfg\/c∉S.cfg/\iL=S.cfg++[c])/\(∀b,b<h.next->col' b=aZ b)/\Fl 3 n0 aZ h h':=by
 refine Ec.bu (aI (by decide)) FU ?_;unfold FL;obtain⟨l0,l1,l2,l3,l4,l5⟩:=H.BE;rcases hv:cX d.wH c with _|k
 .have ny:cg h 1 d.cv (S.cfg.map cq.cells):=H.c.own.cg (λx hx=>by obtain⟨a,_,rfl⟩:=qQB.1 hx;rfl) (by decide) (λx hx=>by rw[pE]at hx;obtain⟨a,_,rfl⟩:=qQB.1 hx;rfl);have hlen:∀h' K,cH d.cv h' K=K (.int .i64 (S.cfg.length:Int)) h':=λh' K=>by rw[ny.len,qQD]
  obtain⟨a1,a2⟩:=H.lt;obtain⟨a3,a4⟩:=H.c.lt;have c1:=H.iE;have c2:=H.c.iE;have Qp:d.nb≠sb:=λe=>by rw[e,c1]at c2;cases c2
  have q1:∀(M:aE)(o:Nat),aN (h.put d.nb M) sb o=aN h sb o:=λM o=>cG (aa.ah _ _ Qp) o;have Mf:∀M:aE,(h.put d.nb M).next=h.next:=λ_=>rfl;simp only[go_sem,Nat.reduceEqDiff,Nat.reduceAdd,reduceCtorEq,l1,l2,jQ mR H.c.num,hv,hlen,ta mR H.c.acN H.c.num,q1];have gz:((h.put d.nb (aE.map (List.map (fV (ae.int IntKind.i64) (ae.int IntKind.i64)) (jA d.wH d.nc c ↑S.cfg.length)) (hU d.wH d.nc c))).push (aE.cells [ae.int IntKind.i64 c] 3)).get h.next=some (.cells [.int .i64 c] 3):=aa.ai _ _;have gN:((h.put d.nb (aE.map (List.map (fV (ae.int IntKind.i64) (ae.int IntKind.i64)) (jA d.wH d.nc c ↑S.cfg.length)) (hU d.wH d.nc c))).push (aE.cells [ae.int IntKind.i64 c] 3)).get d.nb=some (.map ((jA d.wH d.nc c (S.cfg.length:Int)).map (fV (.int .i64) (.int .i64))) (hU d.wH d.nc c)):=(aa.aA _ _ (by rw[Mf];omega)).trans (aa.aj _ _ _);have go:∀b,b<h.next->b≠d.nb->((h.put d.nb (aE.map (List.map (fV (ae.int IntKind.i64) (ae.int IntKind.i64)) (jA d.wH d.nc c ↑S.cfg.length)) (hU d.wH d.nc c))).push (aE.cells [ae.int IntKind.i64 c] 3)).get b=h.get b:=λb h1 h2=>(aa.aA _ _ (by rw[Mf];omega)).trans (aa.ah _ _ (Ne.symm h2));have gn:((h.put d.nb (aE.map (List.map (fV (ae.int IntKind.i64) (ae.int IntKind.i64)) (jA d.wH d.nc c ↑S.cfg.length)) (hU d.wH d.nc c))).push (aE.cells [ae.int IntKind.i64 c] 3)).next=h.next+1:=rfl;generalize ((h.put d.nb (aE.map (List.map (fV (ae.int IntKind.i64) (ae.int IntKind.i64)) (jA d.wH d.nc c ↑S.cfg.length)) (hU d.wH d.nc c))).push (aE.cells [ae.int IntKind.i64 c] 3))=h2 at gz gN go gn ⊢;have KP:dO h2 1 3 d.cv (S.cfg.map cq.cells).flatten:=H.c.own.frame (by omega) λb hb=>go b (H.c.qj b hb).2.1 λe=>by have:=(H.c.qj b hb).2.2;rw[e,c2]at this;cases this
  have qu:cg h2 1 (.slice h.next 0 1 1 true) [[.int .i64 c]]:=⟨by simp,.inr ⟨_,_,_,_,rfl,.inr (by simpa using fP.ed (e:=3) (by omega) gz (by simp[ae.flat]))⟩⟩;refine kd KP (fG qu (List.cons_ne_nil _ _)) (by simp) (by simp) (by decide) (by rw[pE,qQD];simp;omega) ?_;intro v' h3 ho uQ lZ yE;have hvn:∀b,aM d.cv b->b≠sb/\b≠d.nb:=λb hb=>⟨λe=>(by have:=(H.c.qj b hb).2.2;rw[e,c1]at this;cases this),λe=>(by have:=(H.c.qj b hb).2.2;rw[e,c2]at this;cases this)⟩;have gs3:h3.get sb=some (.cells [mv,.map d.nb,d.cv,.map d.tb,d.pv,d.dv] 101):=(lZ sb (by omega) λhb=>(hvn _ hb).1 rfl).trans ((go sb a2 (Ne.symm Qp)).trans H.obj);have cS:=aD (o:=2) (n:=1) (vs:=[v']) gs3 rfl (by simp);rw[bW]at cS;simp only[go_sem,Nat.reduceEqDiff,reduceCtorEq,bM ho.lT,cS];have wZ:∀b,b<h.next->b≠sb->b≠d.nb->¬aM d.cv b->(h3.put sb (.cells ([mv,.map d.nb,d.cv,.map d.tb,d.pv,d.dv].set 2 v') 101)).get b=h.get b:=λb h1 h2 h3 h4=>(aa.ah _ _ (Ne.symm h2)).trans ((lZ b (by omega) h4).trans (go b h1 h3));have BY:∀b,b<h.next->4<=aZ b\/aZ b=0->(h3.put sb (.cells ([mv,.map d.nb,d.cv,.map d.tb,d.pv,d.dv].set 2 v') 101)).get b=h.get b:=λb h1 h2=>wZ b h1 (λe=>by rw[e,c1]at h2;omega) (λe=>by rw[e,c2]at h2;omega) λhb=>by have:=(H.c.qj b hb).2.2;omega
  have CK:(h3.put sb (.cells ([mv,.map d.nb,d.cv,.map d.tb,d.pv,d.dv].set 2 v') 101)).next=h.next+2:=by show h3.next=_;omega
  have dP:h.next<=(h3.put sb (.cells ([mv,.map d.nb,d.cv,.map d.tb,d.pv,d.dv].set 2 v') 101)).next:=by rw[CK];omega
  have Oe:c∉S.cfg:=λhc=>by
   obtain⟨i,hi⟩:=qQL.1 hc;have:=(H.c.O4 c i).2 ⟨i,rfl,hi⟩;rw[hv]at this;cases this
  refine⟨ep aZ h 3,{d with cv:=v',wH:=jA d.wH d.nc c (S.cfg.length:Int),nc:=hU d.wH d.nc c},S.cfg++[c],S.cfg.length,rfl,?_,by simp,.inr ⟨Oe,rfl⟩,λb hb=>br hb,?_⟩
  .refine⟨⟨a1,qQG a2 dP⟩,(br a2).trans c1,aa.aj _ _ _,⟨⟨a3,qQG a4 dP⟩,(br a4).trans c2,?_,?_,?_,H.c.acN.put _ _,?_⟩,H.s.frame ⟨dP,λb _ h2 h3 _=>BY b h2 (.inl h3)⟩ λb hb=>br hb,H.n.frame ⟨dP,λb _ h2 h3 _=>BY b h2 (.inl (by omega))⟩ λb hb=>br hb,H.AG⟩
   .have e:((S.cfg++[c]).map cq.cells).flatten=(S.cfg.map cq.cells).flatten++[[ae.int .i64 c]].flatten:=by simp[cq]
    rw[e];exact ho.frame (qQY _) λb hb=>aa.ah _ _ (by have:=fu yE hb;omega)
   .intro b hb;have:=fu yE hb;exact⟨by omega,by omega,dY (by omega)⟩
   .exact(aa.ah _ _ (Ne.symm Qp)).trans ((lZ _ (by omega) λhb=>(hvn _ hb).2 rfl).trans gN)
   .intro c' k;rw[sL];by_cases e:c'=c
    .subst e;rw[if_pos rfl];constructor
     .rintro e;cases e;exact⟨S.cfg.length,rfl,by simp⟩
     .rintro⟨i,rfl,hi⟩;rw[qKQ]at hi;split at hi
      .exact absurd (qQK hi) Oe
      .have:=(qQZ.1 hi).1;simp at this;rw[show i=S.cfg.length by omega]
    .rw[if_neg e,H.c.O4];constructor
     .rintro⟨i,h1,h2⟩;exact⟨i,h1,by rw[qQN (qQZ.1 h2).1];exact h2⟩
     .rintro⟨i,h1,h2⟩;refine⟨i,h1,?_⟩;rw[qKQ]at h2;split at h2
      .exact h2
      .have:=qQK h2;simp at this;exact absurd this e
  .refine⟨dP,λb hb ho=>?_⟩;rcases ho with ho|ho|ho
   .refine wZ b hb (by omega) (by omega) λiB=>?_;have:=(H.c.qj b iB).1;omega
   .exact BY b hb (.inr ho)
   .exact BY b hb (.inl (by omega))
 .obtain⟨i,rfl,hi⟩:=(H.c.O4 c k).1 hv;simp only[go_sem,Nat.reduceEqDiff,Nat.reduceAdd,reduceCtorEq,l1,jQ mR H.c.num,hv];exact⟨aZ,d,S.cfg,i,rfl,H,hi,.inl rfl,λ_ _=>rfl,qQY _,λ_ _ _=>rfl⟩
def xF (x:bL):Prop:=x.1<4611686018427387904/\-4611686018427387904<x.2/\x.2<4611686018427387904
def TQ {x:bL}(h:xF x):(yO x).length<=44:=by
 obtain⟨h1,h2,h3⟩:=h;have a:=gZ (n:=(x.1:Int)) (by omega) (by omega);have b:=gZ (n:=x.2) (by omega) (by omega);unfold yO;simp;omega
def OE (x:bL):∀b,b∈yO x->b<256:=by
 intro b hb;unfold yO at hb;simp only[qQE,qZN]at hb;rcases hb with((hb|hb)|hb)|hb
 .exact Aq _ _ hb
 .omega
 .exact Aq _ _ hb
 .omega
def Av:∀{p:List bL},(∀x,x∈p->xF x)->(gP p).length<=44*p.length
 |[],_=>by simp[gP]
 |x :: p,h=>by
  have h1:=TQ (h x (by simp));have h2:=Av (p:=p) λy hy=>h y (by simp[hy]);unfold gP at h2 ⊢;rw[qZW,qZA,qQM,qZK];omega
def OF {p:List bL}:∀b,b∈gP p->b<256:=by
 intro b hb;unfold gP at hb;obtain⟨l,hl,hb⟩:=qJD.1 hb;obtain⟨x,_,rfl⟩:=qQB.1 hl;exact OE x b hb
def OG {p:List bL}{i:Nat}{x:bL}(hx:p[i]?=some x):gP (p.take (i+1))=gP (p.take i)++yO x:=by
 unfold gP;rw[qJM,hx];simp
def E6.skip {A:Nat->Prop}{h:aa}{b:Nat}{bs:List Nat}(H:E6 A h b bs)(n:Nat):E6 A (h.skip n) b bs:=by
 obtain⟨h1,h2,x,buf,h3,h4,h5,h6,h7⟩:=H;exact⟨by show b<h.next+n;omega,h2,x,buf,h3,h4,h5.frame (by show h.next<=h.next+n;omega) λ_ _=>rfl,h6,h7⟩
def ahf (p:List bL)(v:ae)(h:aa)(H:cg h 2 v (p.map aV))(hp:∀x,x∈p->xF x)(hl:p.length<=1048576):Ec E2 55 [v] h λr h'=>r=.str (gP p)/\aU h h':=by
 refine Ec.bu (aI (by decide)) RL ?_;unfold Zm;have hlen:∀h' K,cH v h' K=K (.int .i64 (p.length:Int)) h':=λh' K=>by rw[H.len,qQD]
 simp only[go_sem,Nat.reduceEqDiff,reduceCtorEq,hlen];have Xk:E6 (λc=>c<h.next) (h.push (.cells [.dt,.af] 133)) h.next []:=E6.new (A:=λc=>c<h.next) (Nat.lt_irrefl _);have aS:aU h (h.push (.cells [.dt,.af] 133)):=(aU.refl h).push _;generalize h.push (.cells [.dt,.af] 133)=h2 at Xk aS ⊢;obtain⟨b,hbe⟩:∃b,b=h.next:=⟨_,rfl⟩;have Xk:E6 (λc=>c<h.next) h2 b []:=by rw[hbe];exact Xk
 refine fg (λd fr h'=>aU h h'/\fr.get 3=some (.ptr b 0)/\fr.get 6=some v/\fr.get 7=some (.int .i64 (p.length:Int))/\∃i:Nat,fr.get 8=some (.int .i64 (i:Int))/\d+i=p.length/\E6 (λc=>c<h.next) h' b (gP (p.take i))) p.length ?_ ?_
 .exact⟨aS,by simp[T.ag,hbe],by simp[T.ag],by simp[T.ag],0,by simp[T.ag],by omega,Xk⟩
 rintro d fr h' ⟨hle,t3,t6,t7,i,t8,hd,JR⟩;unfold Ga;simp only[go_sem,t7,t8];refine QW (λhc=>?_) (λhc=>?_)
 .obtain⟨x,hx⟩:∃x,p[i]?=some x:=⟨_,qQW (by omega)⟩;have kN:=hp x (qQK hx);obtain⟨k1,k2,k3⟩:=kN;obtain⟨bb,o,di,fU⟩:=H.ix (j:=i) (x:=aV x) (by rw[qQX,hx];rfl)
  have hN:eI h' bb o 2=some (aV x):=by
   have:=(di.mono hle).eI (i:=0) (n:=2) (by simp[aV]);simpa[aV] using this
  have afF:=JR.push (.cells (aV x) 154);have bh:aU h (h'.push (.cells (aV x) 154)):=hle.push _;have hA:∀c,(c<h.next\/c=h'.next)->c<(h'.push (.cells (aV x) 154)).next:=λc hc=>by have:=hle.next;show c<h'.next+1;omega
  have hw0:aN (h'.push (.cells (aV x) 154)) h'.next 0=some (.int .i64 (x.1:Int)):=by rw[aH];rfl
  have XK:aN (h'.push (.cells (aV x) 154)) h'.next 1=some (.int .i64 x.2):=by rw[aH];rfl
  have nO:(h'.push (.cells (aV x) 154)).next=h'.next+1:=rfl;have a1:=gZ (n:=(x.1:Int)) (by omega) (by omega);have a2:=gZ (n:=x.2) (by omega) (by omega);have DQ:(cE (x.1:Int)).length+[58].length<=1073741824:=by simp;omega
  have wX:(cE (x.1:Int)++[58]).length+(cE x.2).length<=1073741824:=by simp;omega
  have yE:(cE (x.1:Int)++[58]++cE x.2).length+[32].length<=1073741824:=by simp;omega
  have ib:over [ae.int .i64 0,.int .i64 0] 0 (aV x)=aV x:=rfl;have jX:(aV x).length=2:=rfl;have Tn:(aV x)[0]?=some (.int .i64 (x.1:Int)):=rfl;have Fb:(aV x)[1]?=some (.int .i64 x.2):=rfl;simp only[go_sem,Nat.reduceEqDiff,Nat.reduceAdd,t6,t8,hc,fU .i64 (i:Int) h',hN,ib,jX,Tn,Fb];generalize h'.push (.cells (aV x) 154)=h3 at afF bh hA hw0 XK nO ⊢;refine⟨by decide,?_⟩;refine(xh (x.1:Int) _ (by omega) (by omega)).mono ?_;rintro r h4 ⟨rfl,rfl⟩;simp only[go_sem,Nat.reduceEqDiff,XK,dJ,iQ DQ];refine⟨by decide,?_⟩;refine(xh x.2 _ (by omega) (by omega)).mono ?_;rintro r h4 ⟨rfl,rfl⟩;simp only[go_sem,Nat.reduceEqDiff,t3,iQ wX,iQ yE];refine⟨by decide,?_⟩;have ZI:=Av (p:=p.take i) λy hy=>hp y (qKH hy);have nQ:(p.take i).length<=p.length:=by simp;omega
  refine(Ck _ _ b _ (cE (x.1:Int)++[58]++cE x.2++[32]) (afF.skip 10) (λc hc=>by have:=hA c hc;show c<h3.next+10;omega) (by simp;omega)).mono ?_;rintro r h5 ⟨akb,Qg,B2⟩;have hw:IntKind.i64.wrap ((i:Int)+1)=((i+1:Nat):Int):=by rw[wrap_i64 (by omega) (by omega)];push_cast;rfl
  simp only[go_sem,Nat.reduceEqDiff,t3,t6,t7,t8,hw];have Qg:h3.next+10<=h5.next:=Qg;refine⟨d-1,by omega,⟨by have:=bh.next;omega,λc hc=>(B2 c (.inl hc)).trans (bh.get c hc)⟩,i+1,rfl,by omega,?_⟩;rw[OG hx];exact akb.sub λc hc=>.inl hc
 .simp only[go_sem,Nat.reduceEqDiff,t3];obtain rfl:i=p.length:=by omega
  refine⟨by decide,?_⟩;rw[qZY] at JR;have ZI:=Av hp;refine(UW _ _ b _ JR OF (by omega)).mono ?_;rintro r h3 ⟨rfl,uQ,lZ⟩;simp only[go_sem,Nat.reduceEqDiff];exact⟨by have:=hle.next;omega,λc hc=>(lZ c hc).trans (hle.get c hc)⟩
def Jv (l:List Nat):Nat:=l.foldl (λa b=>a*10+(b-48)) 0
def NF (l:List Nat)(x:Nat):Jv (l++[x])=Jv l*10+(x-48):=by
 unfold Jv;rw[List.foldl_append];rfl
def k9 (u:Nat):Jv ((Lib.decDigits u).map UInt8.toNat)=u/\∀x,x∈(Lib.decDigits u).map UInt8.toNat->48<=x/\x<=57:=by
 induction u using Nat.strongRecOn with
 |_ u ih =>
  rw[Lib.decDigits];by_cases h:u<10
  .rw[dif_pos h];have e:(UInt8.ofNat (48+u)).toNat=48+u:=by rw[UInt8.toNat_ofNat'];omega
   refine⟨?_,λx hx=>?_⟩
   .rw[qZW,e];simp[Jv]
   .simp only[qZW,List.map_nil,qZN]at hx;rw[e]at hx;omega
  .rw[dif_neg h];obtain⟨h1,h2⟩:=ih (u / 10) (by omega);have e:(UInt8.ofNat (48+u % 10)).toNat=48+u % 10:=by rw[UInt8.toNat_ofNat'];omega
   rw[qJW];refine⟨?_,λx hx=>?_⟩
   .rw[qZW,List.map_nil,e,NF,h1];omega
   .rw[qQE]at hx;rcases hx with hx|hx
    .exact h2 x hx
    .simp only[qZW,List.map_nil,qZN]at hx;rw[e]at hx;omega
def pM (n:Int):∀x,x∈cE n->x=45\/48<=x/\x<=57:=by
 intro x hx;unfold cE Lib.itoa at hx;split at hx
 .rw[qZW]at hx;rcases qQF.1 hx with rfl|hx
  .exact .inl rfl
  .exact .inr ((k9 _).2 x hx)
 .exact .inr ((k9 _).2 x hx)
def mo {n m:Int}(h:cE n=cE m):n=m:=by
 unfold cE Lib.itoa at h;by_cases hn:n<0<;>by_cases hm:m<0
 .rw[if_pos hn,if_pos hm,qZW,qZW]at h;have h2:=congrArg Jv (List.cons.inj h).2;rw[(k9 _).1,(k9 _).1]at h2;omega
 .rw[if_pos hn,if_neg hm,qZW]at h;have:=(k9 m.toNat).2 45 (by rw[<-h];simp);omega
 .rw[if_neg hn,if_pos hm,qZW]at h;have:=(k9 n.toNat).2 45 (by rw[h];simp);omega
 .rw[if_neg hn,if_neg hm]at h;have h2:=congrArg Jv h;rw[(k9 _).1,(k9 _).1]at h2;omega
def ER {s:Nat}:∀{a b r t:List Nat},(∀x,x∈a->x≠s)->(∀x,x∈b->x≠s)->a++s :: r=b++s :: t->a=b/\r=t
 |[],[],_,_,_,_,h=>⟨rfl,(List.cons.inj h).2⟩
 |[],y :: b,_,_,_,hb,h=>absurd (List.cons.inj h).1.symm (hb y (by simp))
 |x :: a,[],_,_,ha,_,h=>absurd (List.cons.inj h).1 (ha x (by simp))
 |x :: a,y :: b,_,_,ha,hb,h=>by
  have h1:=List.cons.inj h;obtain⟨e1,e2⟩:=ER (λz hz=>ha z (by simp[hz])) (λz hz=>hb z (by simp[hz])) h1.2;exact⟨by rw[h1.1,e1],e2⟩
def vP (x:bL)(r:List Nat):yO x++r=cE (x.1:Int)++58 :: (cE x.2++32 :: r):=by
 unfold yO;simp
def Au:∀{p q:List bL},gP p=gP q->p=q
 |[],[],_=>rfl
 |[],y :: q,h=>by
  have e:gP (y :: q)=yO y++gP q:=by simp[gP]
  rw[e,vP]at h;have:=congrArg List.length h;simp[gP]at this
 |x :: p,[],h=>by
  have e:gP (x :: p)=yO x++gP p:=by simp[gP]
  rw[e,vP]at h;have:=congrArg List.length h;simp[gP]at this
 |x :: p,y :: q,h=>by
  have e1:gP (x :: p)=yO x++gP p:=by simp[gP]
  have e2:gP (y :: q)=yO y++gP q:=by simp[gP]
  rw[e1,e2,vP,vP]at h;obtain⟨a1,a2⟩:=ER (λz hz=>by have:=pM _ z hz;omega) (λz hz=>by have:=pM _ z hz;omega) h;obtain⟨b1,b2⟩:=ER (λz hz=>by have:=pM _ z hz;omega) (λz hz=>by have:=pM _ z hz;omega) a2;have c1:=mo a1;have c2:=mo b1;rw[Au b2];obtain⟨x1,x2⟩:=x;obtain⟨y1,y2⟩:=y;simp only at c1 c2;rw[show x1=y1 by omega,c2]
def qd {elem:TypeId}{size:Nat}{s:ae}{l:List ae}{h:aa}(H:dO h size elem s l)(new:List ae)(hlen:new.length=size)(iq:0<size)(hf:∀x,x∈new->x.flat=true)(uo:l.length+1<=1073741824)
 {K:ae->aa->Prop} (hK:∀v' h',dO h' size elem v' (l++new)->h'.next=h.next+2->(∀c,c<h.next->¬aM s c->h'.get c=h.get c)->aM v' (h.next+1)->K v' h'):uX elem size s (.slice h.next 0 1 1 true) (h.push (.cells new elem)) K:=by
 have gz:(h.push (.cells new elem)).get h.next=some (.cells new elem):=aa.ai _ _;have go:∀b,b<h.next->(h.push (.cells new elem)).get b=h.get b:=λb hb=>aa.aA _ _ (by omega);have gn:(h.push (.cells new elem)).next=h.next+1:=rfl;generalize h.push (.cells new elem)=h2 at gz go gn ⊢;have KP:dO h2 size elem s l:=H.frame (by omega) λb hb=>go b (H.rm hb);have qu:cg h2 size (.slice h.next 0 1 1 true) [new]:=⟨by simpa using hlen,.inr ⟨_,_,_,_,rfl,.inr (by simpa using fP.ed (e:=elem) (by omega) gz hf)⟩⟩;refine kd KP (by have:=fG qu (List.cons_ne_nil _ _);rw[qZA,List.flatten_nil,qWA]at this;exact this) (by simp) (by simpa using hlen) iq uo ?_;intro v' h3 ho uQ lZ yE;exact hK v' h3 ho (by omega) (λc hc hb=>(lZ c (by omega) hb).trans (go c hc)) (by rw[gn]at yE;exact yE)
def dO.acD {h:aa}{elem:TypeId}{v:ae}{l:List ae}(H:dO h 1 elem v l)(h':aa)(K:ae->aa->Prop):cH v h' K=K (.int .i64 (l.length:Int)) h':=by
 rcases H with⟨rfl,rfl⟩|⟨b,n,rfl,_,_,hl⟩
 .rfl
 .rw[show l.length=n by omega];rfl
def uA:∀{vs:List ae}{ns:List aw}{v:ae}{n:aw},vs.length=ns.length->cr (vs++[v]) (ns++[n])=cr vs ns++[v,.int .i64 n.fin]
 |[],[],_,_,_=>rfl
 |a :: vs,b :: ns,v,n,h=>by
  show a :: .int .i64 b.fin :: cr (vs++[v]) (ns++[n])=_;rw[uA (by simpa using h)];rfl
 |[],_ :: _,_,_,h=>by cases h
 |_ :: _,[],_,_,h=>by cases h
def ja:∀{vs:List ae}{ns:List aw},vs.length=ns.length->(cr vs ns).length=ns.length*2
 |[],[],_=>rfl
 |a :: vs,b :: ns,h=>by
  have:=ja (vs:=vs) (ns:=ns) (by simpa using h);show(cr vs ns).length+1+1=(ns.length+1)*2;omega
 |[],_ :: _,h=>by cases h
 |_ :: _,[],h=>by cases h
def iC.snoc {α:Type}{size:Nat}{elem:TypeId}{enc:α->List ae}{n0:Nat}{h:aa}{vs:List ae}{ls:List (List α)}(H:iC size elem enc n0 h vs ls):iC size elem enc n0 h (vs++[.af]) (ls++[[]]):=by
 have hi:∀{β:Type}(l:List β)(x:β)(i:Nat)(y:β),(l++[x])[i]?=some y->l[i]?=some y\/i=l.length/\y=x:=by
  intro β l x i y hy;rw[qKQ]at hy;split at hy
  .exact .inl hy
  .rename_i dL;have:=(qQZ.1 hy).1;simp at this;have e:i-l.length=0:=by omega
   rw[e]at hy;exact .inr ⟨by omega,by simpa using hy.symm⟩
 have nb:∀c,¬aM .af c:=λc hc=>dx hc;refine⟨by simp[H.len],λi v l hv hl=>?_,λi v c hv hc=>?_,λi j v w c hv hw hc hd=>?_⟩
 .rcases hi _ _ _ _ hv with hv|⟨e,rfl⟩<;>rcases hi _ _ _ _ hl with hl|⟨e',rfl⟩
  .exact H.own i v l hv hl
  .have:=(qQZ.1 hv).1;rw[H.len]at this;omega
  .have:=(qQZ.1 hl).1;rw[<-H.len]at this;omega
  .exact .inl ⟨rfl,rfl⟩
 .rcases hi _ _ _ _ hv with hv|⟨_,rfl⟩
  .exact H.low i v c hv hc
  .exact(nb c hc).elim
 .rcases hi _ _ _ _ hv with hv|⟨_,rfl⟩
  .rcases hi _ _ _ _ hw with hw|⟨_,rfl⟩
   .exact H.JA i j v w c hv hw hc hd
   .exact(nb c hd).elim
  .exact(nb c hc).elim
def MG {C:Type}[DecidableEq C]{X:MN C}{mv:ae}{n0:Nat}{aZ:Nat->Nat}{h:aa}{sb:Nat}{d:nD C}{S:jV C}(H:iP X mv 101 n0 aZ h sb d S)(hb:S.aR.length+1<=1048576)
 (p:List bL) (v:ae) (hv:cg h 2 v (p.map aV)) (CN:v.flat=true) (Oq:qf aZ n0 h 6 v) (hp:∀x,x∈p->xF x) (hl:p.length<=1048576) :
 Ec E2 33 [.ptr sb 0,v] h λr h'=>∃(col':Nat->Nat)(d':nD C)(S':jV C)(i:Nat),r=.int .i64 (i:Int)/\iP X mv 101 n0 col' h' sb d' S'/\S'.aR[i]?=some p /\
   (S'=S\/p∉S.aR/\S'=⟨S.cfg,S.aR++[p],S.nodes++[⟨[],-1⟩]⟩)/\(∀b,b<h.next->col' b=aZ b)/\Fl 8 n0 aZ h h':=by
 refine Ec.bu (aI (by decide)) Jm ?_;unfold LJ;simp only[go_sem,Nat.reduceEqDiff,Nat.reduceAdd,reduceCtorEq];refine⟨by decide,?_⟩;refine(ahf p v h hv hp hl).mono ?_;rintro r h1 ⟨rfl,bh⟩;have H1:iP X mv 101 n0 aZ h1 sb d S:=H.frame (.of bh) λ_ _=>rfl;obtain⟨l0,l1,l2,l3,l4,l5⟩:=H1.BE;have yK:=bh.next;rcases hk:cX d.BF (gP p) with _|k
 .have hlen:=H1.s.aR.acD;obtain⟨a1,a2⟩:=H1.lt;obtain⟨a3,a4⟩:=H1.s.lt;have c1:=H1.iE;have c2:=H1.s.iE;have Qp:d.tb≠sb:=λe=>by rw[e,c1]at c2;cases c2
  have q1:∀(M:aE)(o:Nat),aN (h1.put d.tb M) sb o=aN h1 sb o:=λM o=>cG (aa.ah _ _ Qp) o;simp only[go_sem,Nat.reduceEqDiff,Nat.reduceAdd,reduceCtorEq,l3,l4,jQ sh H1.s.st,hk,hlen,ta sh H1.s.stM H1.s.st,q1,bM CN];have Mf:(h1.put d.tb (aE.map (List.map (fV ae.str (ae.int IntKind.i64)) (jA d.BF d.tc (gP p) ↑d.rows.length)) (hU d.BF d.tc (gP p)))).next=h1.next:=rfl;have gT:(h1.put d.tb (aE.map (List.map (fV ae.str (ae.int IntKind.i64)) (jA d.BF d.tc (gP p) ↑d.rows.length)) (hU d.BF d.tc (gP p)))).get d.tb=some (.map ((jA d.BF d.tc (gP p) (d.rows.length:Int)).map (fV .str (.int .i64))) (hU d.BF d.tc (gP p))):=aa.aj _ _ _;have go:∀b,b≠d.tb->(h1.put d.tb (aE.map (List.map (fV ae.str (ae.int IntKind.i64)) (jA d.BF d.tc (gP p) ↑d.rows.length)) (hU d.BF d.tc (gP p)))).get b=h1.get b:=λb hb=>aa.ah _ _ (Ne.symm hb);clear q1;rw[<-Mf];generalize (h1.put d.tb (aE.map (List.map (fV ae.str (ae.int IntKind.i64)) (jA d.BF d.tc (gP p) ↑d.rows.length)) (hU d.BF d.tc (gP p))))=h2 at Mf gT go ⊢;have pvn:∀b,aM d.pv b->b≠sb/\b≠d.tb:=λb hb=>⟨λe=>(by have:=(H1.s.K1 b hb).2.2;rw[e,c1]at this;cases this),λe=>(by have:=(H1.s.K1 b hb).2.2;rw[e,c2]at this;cases this)⟩;have Vo:∀b,aM d.dv b->b≠sb/\b≠d.tb/\¬aM d.pv b:=λb hb=>⟨λe=>(by have:=(H1.n.nI b hb).2.2;rw[e,c1]at this;cases this),λe=>(by have:=(H1.n.nI b hb).2.2;rw[e,c2]at this;cases this),λe=>(by have:=(H1.n.nI b hb).2.2;have:=(H1.s.K1 b e).2.2;omega)⟩;have Tu:=H1.s.Lb;refine qd (H1.s.aR.frame (by omega) λb hb=>go b (pvn b hb).2) [v] rfl (by decide) (by simpa using CN) (by omega) ?_;intro v' h3 VD uQ lZ yE;have gs3:h3.get sb=some (.cells [mv,.map d.nb,d.cv,.map d.tb,d.pv,d.dv] 101):=(lZ sb (by omega) λhb=>(pvn _ hb).1 rfl).trans ((go sb (Ne.symm Qp)).trans H1.obj);have yc:=aD (o:=4) (n:=1) (vs:=[v']) gs3 rfl (by simp);rw[bW]at yc;have q5:aN (h3.put sb (.cells ([mv,.map d.nb,d.cv,.map d.tb,d.pv,d.dv].set 4 v') 101)) sb 5=some d.dv:=by rw[aq (aa.aj _ _ _)];rfl
  simp only[go_sem,Nat.reduceEqDiff,Nat.reduceAdd,reduceCtorEq,bM VD.lT,yc,q5];have gs4:(h3.put sb (.cells ([mv,.map d.nb,d.cv,.map d.tb,d.pv,d.dv].set 4 v') 101)).get sb=some (.cells [mv,.map d.nb,d.cv,.map d.tb,v',d.dv] 101):=aa.aj _ _ _;have Zv:(h3.put sb (.cells ([mv,.map d.nb,d.cv,.map d.tb,d.pv,d.dv].set 4 v') 101)).next=h3.next:=rfl;have JM:∀b,b≠sb->(h3.put sb (.cells ([mv,.map d.nb,d.cv,.map d.tb,d.pv,d.dv].set 4 v') 101)).get b=h3.get b:=λb hb=>aa.ah _ _ (Ne.symm hb);have e34:([mv,.map d.nb,d.cv,.map d.tb,d.pv,d.dv].set 4 v':List ae)=[mv,.map d.nb,d.cv,.map d.tb,v',d.dv]:=rfl;generalize (h3.put sb (.cells ([mv,.map d.nb,d.cv,.map d.tb,d.pv,d.dv].set 4 v') 101))=h4 at gs4 Zv JM ⊢;rw[<-Zv];have pZ:=H1.AG;have tu:=H1.n.ak.len;rw[qQD]at tu;have afZ:∀b,b<h1.next->b≠sb->b≠d.tb->¬aM d.pv b->h4.get b=h1.get b:=λb x1 x2 x3 x4=>(JM b x2).trans ((lZ b (by omega) x4).trans (go b x3));have aqV:=ja tu;refine qd (H1.n.nodes.frame (by omega) λb hb=>afZ b (H1.n.nI b hb).2.1 (Vo b hb).1 (Vo b hb).2.1 (Vo b hb).2.2) [.af,.int .i64 (-1)] rfl (by decide) (by simp[ae.flat]) (by omega) ?_;intro v2 h5 ho5 Qg B2 hb5;have gs5:h5.get sb=some (.cells [mv,.map d.nb,d.cv,.map d.tb,v',d.dv] 101):=(B2 sb (by omega) λhb=>(Vo _ hb).1 rfl).trans gs4;have yd:=aD (o:=5) (n:=1) (vs:=[v2]) gs5 rfl (by simp);rw[bW]at yd;simp only[go_sem,Nat.reduceEqDiff,reduceCtorEq,bM ho5.lT,yd];have gs6:(h5.put sb (.cells ([mv,.map d.nb,d.cv,.map d.tb,v',d.dv].set 5 v2) 101)).get sb=some (.cells [mv,.map d.nb,d.cv,.map d.tb,v',v2] 101):=aa.aj _ _ _;have gn6:(h5.put sb (.cells ([mv,.map d.nb,d.cv,.map d.tb,v',d.dv].set 5 v2) 101)).next=h5.next:=rfl;have Vr:∀b,b≠sb->(h5.put sb (.cells ([mv,.map d.nb,d.cv,.map d.tb,v',d.dv].set 5 v2) 101)).get b=h5.get b:=λb hb=>aa.ah _ _ (Ne.symm hb);generalize (h5.put sb (.cells ([mv,.map d.nb,d.cv,.map d.tb,v',d.dv].set 5 v2) 101))=h6 at gs6 gn6 Vr ⊢;have af0:∀b,b<h1.next->b≠sb->b≠d.tb->¬aM d.pv b->¬aM d.dv b->h6.get b=h1.get b:=λb x1 x2 x3 x4 x5=>(Vr b x2).trans ((B2 b (by omega) x5).trans (afZ b x1 x2 x3 x4));have kE:∀b,b<h1.next->(aZ b=0\/aZ b=2\/aZ b=3\/aZ b=6\/8<=aZ b)->h6.get b=h1.get b:=λb x1 x2=>af0 b x1 (λe=>by rw[e,c1]at x2;omega) (λe=>by rw[e,c2]at x2;omega) (λhb=>by have:=(H1.s.K1 b hb).2.2;omega) (λhb=>by have:=(H1.n.nI b hb).2.2;omega)
  have Mf:p∉S.aR:=λhp=>by
   obtain⟨i,hi⟩:=qQL.1 hp;have:=(H1.s.stV (gP p) i).2 ⟨i,p,rfl,hi,rfl⟩;rw[hk]at this;cases this
  have afA:∀b,aM v' b->b=h1.next+1:=λb hb=>by have:=fu yE hb;omega
  have afC:∀b,aM v2 b->b=h1.next+3:=λb hb=>by have:=fu hb5 hb;omega
  have hold:∀b,b<h1.next->(if b<h1.next then aZ b else if b=h1.next+1 then 5 else 7)=aZ b:=λb hb=>if_pos hb
  have XH:∀{β:Type}(l:List β)(x:β)(i:Nat)(y:β),(l++[x])[i]?=some y->l[i]?=some y\/i=l.length/\y=x:=by
   intro β l x i y hy;rw[qKQ]at hy;split at hy
   .exact .inl hy
   .rename_i dL;have:=(qQZ.1 hy).1;simp at this;have e:i-l.length=0:=by omega
    rw[e]at hy;exact .inr ⟨by omega,by simpa using hy.symm⟩
  refine⟨λb=>if b<h1.next then aZ b else if b=h1.next+1 then 5 else 7,{d with BF:=jA d.BF d.tc (gP p) (d.rows.length:Int),tc:=hU d.BF d.tc (gP p),pv:=v',dv:=v2,rows:=d.rows++[v],jv:=d.jv++[.af]},⟨S.cfg,S.aR++[p],S.nodes++[⟨[],-1⟩]⟩,d.rows.length,rfl,?_,by rw[Tu];simp,.inr ⟨Mf,rfl⟩,λb hb=>hold b (by omega),by omega,λb hb ho=>?_⟩
  .refine⟨⟨a1,qQG a2 (by omega)⟩,(hold _ a2).trans c1,gs6,H1.c.frame ⟨by omega,λb _ x2 x3 x4=>kE b x2 (by omega)⟩ hold,⟨⟨a3,qQG a4 (by omega)⟩,(hold _ a4).trans c2,?_,H1.s.stM.put _ _,?_,?_,?_,?_,?_,?_⟩,⟨?_,?_,?_,?_⟩,by simp[H1.AG]⟩
   .exact(Vr _ Qp).trans ((B2 _ (by omega) λhb=>(Vo _ hb).2.1 rfl).trans ((JM _ Qp).trans ((lZ _ (by omega) λhb=>(pvn _ hb).2 rfl).trans gT)))
   .intro s' k;rw[sL];by_cases e:s'=gP p
    .subst e;rw[if_pos rfl];constructor
     .rintro e;cases e;exact⟨S.aR.length,p,by rw[Tu],by simp,rfl⟩
     .rintro⟨i,q,rfl,hi,hq⟩;have hqp:=Au hq;subst hqp;rcases XH _ _ _ _ hi with hi|⟨rfl,_⟩
      .exact absurd (qQK hi) Mf
      .rw[Tu]
    .rw[if_neg e,H1.s.stV];constructor
     .rintro⟨i,q,x1,x2,x3⟩;exact⟨i,q,x1,by rw[qQN (qQZ.1 x2).1];exact x2,x3⟩
     .rintro⟨i,q,x1,x2,x3⟩;rcases XH _ _ _ _ x2 with hi|⟨_,rfl⟩
      .exact⟨i,q,x1,hi,x3⟩
      .exact absurd x3.symm e
   .refine VD.frame (by omega) λb hb=>?_;have:=afA b hb;exact(Vr b (by omega)).trans ((B2 b (by omega) λiB=>by have:=(H1.n.nI b iB).2.1;omega).trans (JM b (by omega)))
   .intro b hb;have:=afA b hb;refine⟨by omega,by omega,?_⟩;show(if b<h1.next then aZ b else if b=h1.next+1 then 5 else 7)=5;rw[if_neg (by omega),if_pos this]
   .simp[H1.s.Lb]
   .intro i w q (hw:(d.rows++[v])[i]?=some w) (hq:(S.aR++[p])[i]?=some q);rcases XH _ _ _ _ hw with hw|⟨e1,rfl⟩<;>rcases XH _ _ _ _ hq with hq|⟨e2,rfl⟩
    .exact(H1.s.YE i w q hw hq).frame (by omega) λb hb=>by
      have x:=(H1.s.tR w (qQK hw)).2 b hb;exact kE b x.2.1 (by omega)
    .have x1:i<d.rows.length:=(qQZ.1 hw).1;have x2:i=S.aR.length:=e2;omega
    .have x1:i<S.aR.length:=(qQZ.1 hq).1;have x2:i=d.rows.length:=e1;omega
    .exact(hv.mono bh).frame (by omega) λb hb=>by
      have x:=Oq b hb;exact kE b (by omega) (by omega)
   .intro w hw;rcases qQE.1 hw with hw|hw
    .exact⟨(H1.s.tR w hw).1,(H1.s.tR w hw).2.mono (by omega) hold⟩
    .simp only[qZN]at hw;subst hw;exact⟨CN,Oq.mono (by omega) λb hb=>hold b (by omega)⟩
   .rw[uA tu];exact ho5.frame (by omega) λb hb=>Vr b (by have:=afC b hb;omega)
   .intro b hb;have:=afC b hb;refine⟨by omega,by omega,?_⟩;show(if b<h1.next then aZ b else if b=h1.next+1 then 5 else 7)=7;rw[if_neg (by omega),if_neg (by omega)]
   .rw[qJW];refine iC.snoc ?_
    exact H1.n.ak.frame (by omega) λc _ _ ⟨i,w,hw,hb⟩=>by
     have x:=H1.n.oD w (qQK hw) c hb;exact kE c x.2.1 (by omega)
   .intro w hw;rcases qQE.1 hw with hw|hw
    .exact(H1.n.oD w hw).mono (by omega) hold
    .simp only[qZN]at hw;subst hw;exact λb hb=>(dx hb).elim
  .rw[<-bh.get b hb];refine af0 b (by omega) (λe=>?_) (λe=>?_) (λiB=>?_) λiB=>?_
   .rw[e,c1]at ho;omega
   .rw[e,c2]at ho;omega
   .have:=H1.s.K1 b iB;omega
   .have:=H1.n.nI b iB;omega
 .obtain⟨i,q,rfl,hi,hq⟩:=(H1.s.stV _ k).1 hk;simp only[go_sem,Nat.reduceEqDiff,reduceCtorEq,l3,jQ sh H1.s.st,hk];exact⟨aZ,d,S,i,rfl,H1,by rw[<-Au hq];exact hi,.inl rfl,λ_ _=>rfl,yK,λb hb _=>bh.get b hb⟩
end
end Go.AX
