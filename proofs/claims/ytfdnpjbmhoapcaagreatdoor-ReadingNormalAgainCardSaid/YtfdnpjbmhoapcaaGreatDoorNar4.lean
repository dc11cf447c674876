/-
  A call of alive returns true, on every tape and in every memory in which the tables are laid as the program lays them.
-/
import Derived.Test.YtfdnpjbmhoapcaaGreatDoorNab1
import Derived.Test.YtfdnpjbmhoapcaaGreatDoorNar1
import Derived.Test.YtfdnpjbmhoapcaaGreatDoorNar2
import Derived.Test.YtfdnpjbmhoapcaaGreatDoorNar3
import Derived.LaidMore
import Derived.ProofKit
import Derived.OpenShut
import Derived.Stop.Joined
import Derived.Test.YtfdnpjbmhoapcaaGreatDoorRows
set_option linter.all false
set_option maxHeartbeats 32000000
namespace Go.AX
open Go Go.Proofs Go.RowKit
noncomputable def prL:List (Nat×Prim):=[(66,.gg 133),(129,.consts Si),(12,.fix r5),(13,.fix Gs),(14,.fix vv)]
noncomputable def E1:Env:=⟨prL.foldl (λt p=>t.set p.1 p.2) .nil,tiT,Xa,eqT,plT⟩
noncomputable def isTrue (r:R):Bool:=tb (ob r λr=>bK r.1 λb=>some b)
def Py:isTrue (ba E1 1000 100 5 [] ⟨0,.nil⟩)=true:=by kernel_rfl
def EK:fC Tryz.prog Uu:=by
 intro f args h v h' hs;have ar:aO (Nat.beq f 12) (EM E0 (ba E0 1000 100) 1000 args h) none=some (v,h'):=hs;rw[aG]at ar;obtain⟨hf,ar⟩:=ar;have hf:f=12:=qVH hf;subst hf;exact HI abe (Rj 1000 100) 1000 ar
def Fx:fC Tryz.prog Y9:=by
 intro f args h v h' hs;have ar:aO (Nat.beq f 14) (Lt E0 (ba E0 1000 100) 1000 args h) none=some (v,h'):=hs;rw[aG]at ar;obtain⟨hf,ar⟩:=ar;have hf:f=14:=qVH hf;subst hf;exact IU abe (Rj 1000 100) 1000 ar
def JJ:QA Tryz.prog 12 r5:=uh EK Pz
def W7:QA Tryz.prog 13 Gs:=uh (Rj 1000 100) ads
def NV:QA Tryz.prog 14 vv:=uh Fx UM
def ajt:bl E1 Tryz.prog:=Sv rfl rfl rfl
def adh:zh E1 Tryz.prog:=by
 refine Bc (L:=prL) rfl λf p yH=>?_;simp only[prL,qQF,qJK,or_false,qQA]at yH;rcases yH with⟨rfl,rfl⟩|⟨rfl,rfl⟩|⟨rfl,rfl⟩|⟨rfl,rfl⟩|⟨rfl,rfl⟩
 .exact λargs h v h' hp=>mG hp
 .exact CA
 .exact λargs h v h' hp=>z8 JJ hp
 .exact λargs h v h' hp=>z8 W7 hp
 .exact λargs h v h' hp=>z8 NV hp
def aeH (lf n:Nat):fC Tryz.prog (ba E1 lf n):=lY ajt (vW rfl) adh lf n
def Y1 (w:World):Prop:=∃e fz,w.heap[2]?=some (.cells (Lib.pow10Tab.map λz=>Value.int .u64 z).toArray e fz)
def QD (w:World)(b:Nat):Prop:=∃te pe e fz,w.heap[b]?=some (.cells #[.iface te pe] e fz)
def Laid (w:World):Prop:=Y1 w/\QD w 0/\QD w 1
def G9 {w:World}(hw:Laid w):∀b,Lay.dom Tryz.prog b->b<w.heap.size/\Lay.lay Tryz.prog b (w.heap[b]?):=by
 intro b hb;have hb:b<=2:=hb;obtain⟨⟨e,fz,h0⟩,⟨te,pe,e1,f1,h1⟩,⟨te2,pe2,e2,f2,h2⟩⟩:=hw;have hb:b=2\/b=0\/b=1:=by omega
 rcases hb with rfl|rfl|rfl
 .exact⟨(qJZ.1 h0).1,λ_=>⟨e,fz,h0⟩,λh=>absurd rfl h⟩
 .exact⟨(qJZ.1 h1).1,λh=>by omega,λ_=>⟨te,pe,e1,f1,h1⟩⟩
 .exact⟨(qJZ.1 h2).1,λh=>by omega,λ_=>⟨te2,pe2,e2,f2,h2⟩⟩
def IK (w:World)(hw:Laid w):Calls Tryz.prog 5 #[] w λe w'=>e=.returned (.bool true)/\Below w.heap.size w w':=by
 have h:=iy Py;rw[av]at h;obtain⟨⟨v,h'⟩,eX,hk⟩:=h;rw[eh]at hk;obtain⟨b,hb,hk⟩:=hk;cases hk;have hb:v=.bool true:=hb;subst hb;have hc:=(aeH 1000 100) 5 [] ⟨0,.nil⟩ _ h' eX;refine(hc.2 _ w (λ_=>none) w #[] .nil (WR.start (next:=0) (rows:=[]) (G9 hw) (λ_ _=>rfl) (λp hp=>by cases hp))).mono ?_;rintro e w' ⟨v',bn,rfl,hle,hv,H⟩;cases hv;exact⟨rfl,H.os,H.tape.tp,H.output,H.size,λb hb=>H.eN b hb⟩
open Go.ChangeShapes Go.WideShapes Go.ChangeAt
def B8 {w:World}{C:Array Value}{e:TypeId}{fz:Nat×Nat}(h:w.heap[2]?=some (.cells C e fz))(hs:C.size=20)(hc:∀i,i<20->C[i]?=some (.int .u64 ((10 ^ i:Nat):Int))):Y1 w:=by
 refine⟨e,fz,?_⟩;rw[h]
 have:C=(Lib.pow10Tab.map λz=>Value.int .u64 z).toArray:=by
  apply Array.ext_getElem?;intro i;by_cases hi:i<20
  .rw[hc i hi];simp[Lib.pow10Tab,hi]
  .rw[Array.getElem?_eq_none (by omega)]
   symm
   apply Array.getElem?_eq_none;simp[Lib.pow10Tab];omega
 rw[this]
open YtfdnpjbmhoapcaaGreatDoor
noncomputable def G7:List (String×DataW Unit):=[("math/bits.deBruijn32tab",Rows.laid_math_bits_deBruijn32tab),("math/bits.deBruijn64tab",Rows.laid_math_bits_deBruijn64tab),("internal/strconv.uint64pow10",Rows.laid_internal_strconv_uint64pow10),("strconv.ErrRange",Rows.laid_strconv_ErrRange),("strconv.ErrSyntax",Rows.laid_strconv_ErrSyntax)]
def g0:Tryz.prog.globalNamed "math/bits.deBruijn32tab" = some 3:=by kernel_rfl
def g1:Tryz.prog.globalNamed "math/bits.deBruijn64tab" = some 4:=by kernel_rfl
def g2:Tryz.prog.globalNamed "internal/strconv.uint64pow10" = some 2:=by kernel_rfl
def t2:(Tryz.prog.globals[2]?).map (·.type)=some 258:=by kernel_rfl
set_option maxRecDepth 100000 in
def Sk (os:Os)(args:Array Value):laidMetH Tryz.prog G7 ((World.doorLaid Tryz.prog 4000 os).forCall (λ_ _=>0) ⟨#[],args,[]⟩).memory :=
 laidMetH_of_parts3 (fuel:=8) (laidMet_of_run' 8 (by kernel_rfl) (by kernel_rfl)) (by kernel_rfl) (by kernel_rfl)
def g3:Tryz.prog.globalNamed "strconv.ErrRange" = some 1:=by kernel_rfl
def g4:Tryz.prog.globalNamed "strconv.ErrSyntax" = some 0:=by kernel_rfl
def t3:(Tryz.prog.globals[1]?).map (·.type)=some 135:=by kernel_rfl
def t4:(Tryz.prog.globals[0]?).map (·.type)=some 135:=by kernel_rfl
def G8 {W:World}{n:String}{b:Nat}{cs:Array Value}{f:Nat}{nm:String}{d:DataW Unit}{p:List MemPlace}{enc:TypeId×Value->Unit}{base:Nat}{sp:Nat->Bool}(hg:Tryz.prog.globalNamed n=some b)(hv:W.var? Tryz.prog n=some cs)
 (hd:DataW.trod enc Tryz.prog W base sp false f 135 cs.toList=some (.iface nm d,p)):QD W b:=by
 obtain⟨f',u,v,e,_,_⟩:=iface_of_trod Tryz.underlying135 hd;have e2:cs=#[.iface u v]:=by cases cs;simp_all
 subst e2;unfold World.var? at hv;rw[hg]at hv;simp only[Option.bind_some]at hv;split at hv
 .rename_i C e fz hC;cases hv;exact⟨u,v,e,fz,hC⟩
 .cases hv
def Ya {W:World}(h:laidMetH Tryz.prog G7 W):Laid W:=by
 rw[MakeChecks.laidMetH_plain _ _ _ (by kernel_rfl)]at h;obtain⟨ps,⟨g0',t0',vt,f0,p0,q0,hg0,ht0,hv0,Vw,⟨g1',t1',cs1,f1,p1,q1,hg1,ht1,XJ,hd1,⟨g2',t2',cs2,f2,p2,q2,uP,ht2,Fe,hd2,⟨g3',t3',Vn,f3,p3,q3,lZ,ht3,alI,hd3,⟨g4',t4',cs4,f4,p4,q4,rn,ht4,hv4,hd4,_,_⟩,_⟩,_⟩,_⟩,_⟩,_,_⟩:=h;obtain rfl:=qKK (g2.symm.trans uP);obtain rfl:=qKK (t2.symm.trans ht2);obtain rfl:=qKK (g3.symm.trans lZ);obtain rfl:=qKK (t3.symm.trans ht3);obtain rfl:=qKK (g4.symm.trans rn);obtain rfl:=qKK (t4.symm.trans ht4);refine⟨?_,G8 g4 hv4 hd4,G8 g3 alI hd3⟩;obtain⟨xs,m1,rfl,Ff,hlen,uQ,tu⟩:=DataW.trod_array Tryz.underlying258 hd2;have ajd:Tryz.prog.cellsOf 201=1:=by kernel_rfl
 simp only[Rows.laid_internal_strconv_uint64pow10,qQA,DataW.agg.injEq] at Ff;have hv:=World.var?_cell uP Fe
 have key:∀(i:Nat)(n:Int),i<20->(xs.map (·.1))[i]?=some (.lit (.int .u64 n))->W.cell? ⟨2,i,none⟩=some (.int .u64 n):=by
  intro i n hi hx;have h0:=tu i hi;rw[ajd]at h0;rw[qQX,qQC]at hx;obtain⟨x,hx,kx⟩:=hx;rw[hx]at h0;obtain⟨k,e1,e2,_⟩:=DataW.trod_int Tryz.underlying201 h0;rw[e2]at kx;have hk:k=n:=by simpa using kx
  subst hk;have h3:=hv i
  have h4:cs2[i]?=some (.int .u64 k):=by
   have h5:((cs2.toList.drop (i*1)).take 1)[0]?=some (.int .u64 k):=by rw[e1];rfl
   simpa using h5
  simpa[h4] using h3
 have Ot:∀i,i<20->(xs.map (·.1))[i]?=some (.lit (.int .u64 ((10 ^ i:Nat):Int))):=by
  rw[<-Ff.1];intro i hi
  match i,hi with
  |0,_=>rfl
  |1,_=>rfl
  |2,_=>rfl
  |3,_=>rfl
  |4,_=>rfl
  |5,_=>rfl
  |6,_=>rfl
  |7,_=>rfl
  |8,_=>rfl
  |9,_=>rfl
  |10,_=>rfl
  |11,_=>rfl
  |12,_=>rfl
  |13,_=>rfl
  |14,_=>rfl
  |15,_=>rfl
  |16,_=>rfl
  |17,_=>rfl
  |18,_=>rfl
  |19,_=>rfl
  |i+20,hi=>omega
 have hv3:∃e fz,W.heap[2]?=some (.cells cs2 e fz):=by
  unfold World.var? at Fe;rw[g2] at Fe;simp only[Option.bind_some] at Fe;split at Fe
  .rename_i C e fz hC;cases Fe;exact⟨e,fz,hC⟩
  .cases Fe
 obtain⟨e,fz,hC⟩:=hv3;have aje:Tryz.prog.cellsOf 258=20:=by kernel_rfl
 refine B8 hC (by rw[aje]at hlen;simpa using hlen) λi hi=>?_;have:=key i _ hi (Ot i hi);unfold World.cell? at this;rw[hC]at this;simpa using this
end Go.AX
