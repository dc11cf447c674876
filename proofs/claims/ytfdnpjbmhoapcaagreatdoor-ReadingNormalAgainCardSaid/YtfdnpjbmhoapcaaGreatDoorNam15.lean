/-
  Contracts of functions of this seat, for every input that each theorem names.
-/
import Derived.Test.YtfdnpjbmhoapcaaGreatDoorNam11
import Derived.Test.YtfdnpjbmhoapcaaGreatDoorNat14
import Derived.Test.YtfdnpjbmhoapcaaGreatDoorNam1
import Derived.Test.YtfdnpjbmhoapcaaGreatDoorNam8
import Derived.Test.YtfdnpjbmhoapcaaGreatDoorNas1
import Derived.Test.YtfdnpjbmhoapcaaGreatDoorNam9
import Derived.Test.YtfdnpjbmhoapcaaGreatDoorNax1
import Derived.Test.YtfdnpjbmhoapcaaGreatDoorNax2
set_option linter.all false
set_option maxHeartbeats 32000000
set_option maxRecDepth 10000
namespace Go.AX
open Go Go.Proofs
noncomputable section
def ED:Env:=⟨.nil,tiT,Xa,.nil,plT⟩
abbrev xi:Lay Tryz.prog:=⟨λ_=>False,λ_ _=>True,True⟩
def aju:@bl ED Tryz.prog xi:=@bl.mk ED Tryz.prog xi (D8 rfl) (Zu rfl) Ho λt o h=>by rw[show ED.eqs=.nil from rfl,T.get_nil]at h;cases h
def gG {f:FuncId}:ED.uG.get f=none:=T.get_nil _
def adj:@zh ED Tryz.prog xi:=λf p h=>by rw[gG]at h;cases h
def aeI (lf n:Nat):@fC Tryz.prog xi (ba ED lf n):=@lY ED Tryz.prog xi aju (vW rfl) adj lf n
def FQ:ED.code 51=some (y4,[.tmp 2]):=by kernel_rfl
def FO:ED.code 52=some (yZ,[.tmp 2]):=by kernel_rfl
def Nf:ED.code 29=some (Ly,[.tmp 4]):=by kernel_rfl
def Nd:ED.code 30=some (Lx,[.tmp 4]):=by kernel_rfl
def Je:ED.code 28=some (Dw,[.tmp 2]):=by kernel_rfl
def DB:ED.code 18=some (vj,[.tmp 4]):=by kernel_rfl
def FT:ED.code 61=some (y5,[.tmp 2]):=by kernel_rfl
def Nh:ED.code 39=some (Lz,[.tmp 4]):=by kernel_rfl
def Jf:ED.code 38=some (Ro,[.tmp 6]):=by kernel_rfl
def GZ (a:Int)(h:aa):Ec ED 51 [.int .i64 a] h λr h'=>r=.bool false/\h'=h:=by
 refine Ec.bu (gG) FQ ?_;unfold y4;simp only[go_sem,Nat.reduceEqDiff,reduceCtorEq]
def GX (a:Int)(h:aa):Ec ED 52 [.int .u8 a] h λr h'=>r=.bool false/\h'=h:=by
 refine Ec.bu (gG) FO ?_;unfold yZ;simp only[go_sem,Nat.reduceEqDiff,reduceCtorEq]
def Jb (a b:Int)(h:aa):Ec ED 29 [.int .i64 a,.int .i64 b] h λr h'=>r=.int .i64 (lI a b)/\h'=h:=by
 refine Ec.bu (gG) Nf ?_;unfold Ly;simp only[go_sem,Nat.reduceEqDiff,Nat.reduceAdd,reduceCtorEq];refine⟨by decide,?_⟩;refine(GZ a h).mono ?_;rintro r h1 ⟨rfl,rfl⟩;simp only[go_sem,Nat.reduceEqDiff,reduceCtorEq];refine⟨by decide,?_⟩;refine(GZ b h1).mono ?_;rintro r h2 ⟨rfl,rfl⟩;unfold lI;by_cases h1:a<b
 .simp only[go_sem,Nat.reduceEqDiff,reduceCtorEq,h1]
 .by_cases h2:b<a
  .simp only[go_sem,Nat.reduceEqDiff,reduceCtorEq,h1,h2]
  .simp only[go_sem,Nat.reduceEqDiff,reduceCtorEq,h1,h2]
def aaY (a b:Int)(h:aa):Ec ED 30 [.int .u8 a,.int .u8 b] h λr h'=>r=.int .i64 (lI a b)/\h'=h:=by
 refine Ec.bu (gG) Nd ?_;unfold Lx;simp only[go_sem,Nat.reduceEqDiff,Nat.reduceAdd,reduceCtorEq];refine⟨by decide,?_⟩;refine(GX a h).mono ?_;rintro r h1 ⟨rfl,rfl⟩;simp only[go_sem,Nat.reduceEqDiff,reduceCtorEq];refine⟨by decide,?_⟩;refine(GX b h1).mono ?_;rintro r h2 ⟨rfl,rfl⟩;unfold lI;by_cases h1:a<b
 .simp only[go_sem,Nat.reduceEqDiff,reduceCtorEq,h1]
 .by_cases h2:b<a
  .simp only[go_sem,Nat.reduceEqDiff,reduceCtorEq,h1,h2]
  .simp only[go_sem,Nat.reduceEqDiff,reduceCtorEq,h1,h2]
def LD (l:List Int)(v:ae)(h:aa)(H:cg h 1 v (l.map λn=>[.int .i64 n]))(hl:l.length<=9223372036854775807):Ec ED 28 [v] h λr h'=>r=.int .i64 (eO l)/\h'=h:=by
 refine Ec.bu (gG) Je ?_;have hlen:=cg.len H;rw[qQD]at hlen;unfold Dw;simp only[go_sem,Nat.reduceEqDiff,reduceCtorEq,hlen];refine fg (λd fr h'=>h'=h/\fr.get 3=some (.int .i64 0)/\fr.get 6=some v/\fr.get 7=some (.int .i64 (l.length:Int))/\∃i:Nat,fr.get 8=some (.int .i64 (i:Int))/\d+i=l.length/\eO l=eO (l.drop i)) l.length ?_ ?_
 .exact⟨rfl,by simp[T.ag],by simp[T.ag],by simp[T.ag],0,by simp[T.ag],by omega,by simp⟩
 rintro d fr h' ⟨rfl,t3,t6,t7,i,t8,hd,hf⟩;unfold wP;by_cases hc:(i:Int)<(l.length:Int)
 .obtain⟨x,hx⟩:∃x,l[i]?=some x:=⟨_,qQW (by omega)⟩;obtain⟨b,o,hr,fU⟩:=cg.ix H (j:=i) (x:=[.int .i64 x]) (by rw[qQX,hx];rfl);have fU:=fU .i64 (i:Int) h';have rA:aN h' b o=some (.int .i64 x):=hr.aN (i:=0) rfl;have hw:IntKind.i64.wrap ((i:Int)+1)=((i+1:Nat):Int):=by rw[wrap_i64 (by omega) (by omega)];push_cast;rfl
  rw[vu hx]at hf;by_cases hz:x=0
  .subst hz;rw[if_pos rfl]at hf;simp only[go_sem,Nat.reduceEqDiff,reduceCtorEq,t3,t6,t7,t8,hc,fU _ rfl,rA,hw];exact⟨d-1,by omega,i+1,rfl,by omega,hf⟩
  .rw[if_neg hz]at hf;simp only[go_sem,Nat.reduceEqDiff,t3,t6,t7,t8,hc,fU _ rfl,rA,hz,hf]
 .rw[List.drop_eq_nil_of_le (by omega)]at hf;simp only[go_sem,Nat.reduceEqDiff,reduceCtorEq,t3,t7,t8,hc,hf];rfl
def M' (a b:dH)(h:aa):Ec ED 18 [.agg (aX a),.agg (aX b)] h λr h'=>r=.int .i64 (qe a b)/\aU h h':=by
 refine Ec.bu (gG) DB ?_;unfold vj;unfold aX;simp only[go_sem,Nat.reduceEqDiff,Nat.reduceAdd,reduceCtorEq];have e1:∀i,aN ((h.push (.cells [.int .i64 a.fr,.int .i64 a.to,.int .u8 (a.l:Int),.int .i64 a.c] 52)).push (.cells [.int .i64 b.fr,.int .i64 b.to,.int .u8 (b.l:Int),.int .i64 b.c] 52)) h.next i=(aX a)[i]?:=λi=>by rw[bt (by simp[aa.bI]),aH];rfl
 have e2:∀i,aN ((h.push (.cells [.int .i64 a.fr,.int .i64 a.to,.int .u8 (a.l:Int),.int .i64 a.c] 52)).push (.cells [.int .i64 b.fr,.int .i64 b.to,.int .u8 (b.l:Int),.int .i64 b.c] 52)) (h.next+1) i=(aX b)[i]?:=λi=>by
  rw[show h.next+1=(h.push (.cells [.int .i64 a.fr,.int .i64 a.to,.int .u8 (a.l:Int),.int .i64 a.c] 52)).next from rfl,aH];rfl
 have hle:aU h ((h.push (.cells [.int .i64 a.fr,.int .i64 a.to,.int .u8 (a.l:Int),.int .i64 a.c] 52)).push (.cells [.int .i64 b.fr,.int .i64 b.to,.int .u8 (b.l:Int),.int .i64 b.c] 52)):=((aU.refl h).push _).push _;have hn:((h.push (.cells [.int .i64 a.fr,.int .i64 a.to,.int .u8 (a.l:Int),.int .i64 a.c] 52)).push (.cells [.int .i64 b.fr,.int .i64 b.to,.int .u8 (b.l:Int),.int .i64 b.c] 52)).next=h.next+2:=rfl;generalize (h.push (.cells [.int .i64 a.fr,.int .i64 a.to,.int .u8 (a.l:Int),.int .i64 a.c] 52)).push (.cells [.int .i64 b.fr,.int .i64 b.to,.int .u8 (b.l:Int),.int .i64 b.c] 52)=h1 at e1 e2 hle hn ⊢;have a0:=e1 0;have a1:=e1 1;have a2:=e1 2;have b0:=e2 0;have b1:=e2 1;have b2:=e2 2;simp only[aX,qWM,qJC]at a0 a1 a2 b0 b1 b2;clear e1 e2;simp only[go_sem,Nat.reduceEqDiff,reduceCtorEq,a0,a1,a2,b0,b1,b2];refine⟨by decide,?_⟩;refine(Jb _ _ _).mono ?_;rintro r h2 ⟨rfl,rfl⟩;simp only[go_sem,Nat.reduceEqDiff,reduceCtorEq,a1,a2,b1,b2];refine⟨⟨dJ _ _ _,dJ _ _ _,dJ _ _ _,dJ _ _ _⟩,by decide,?_⟩;refine(Jb _ _ _).mono ?_;rintro r h2 ⟨rfl,rfl⟩;simp only[go_sem,Nat.reduceEqDiff,reduceCtorEq,a2,b2];refine⟨⟨dJ _ _ _,dJ _ _ _⟩,by decide,?_⟩;refine(aaY _ _ _).mono ?_;rintro r h2 ⟨rfl,rfl⟩;simp only[go_sem,Nat.reduceEqDiff,Nat.reduceAdd,Nat.reduceLeDiff,reduceCtorEq];refine⟨by decide,?_⟩;refine(LD [lI a.fr b.fr,lI a.to b.to,lI (a.l:Int) (b.l:Int)] _ _ ⟨by simp,.inr ⟨_,_,_,_,rfl,.inr (fP.ed (e:=3) (by simp[aa.eT];omega) (aa.aj _ _ _) (by simp[ae.flat]))⟩⟩ (by simp)).mono ?_;rintro r h2 ⟨rfl,rfl⟩;simp only[go_sem,Nat.reduceEqDiff,reduceCtorEq];exact⟨rfl,(hle.skip 18).put (by omega) _⟩
def G4 (u:List Nat)(h:aa):Ec ED 61 [.str u] h λr h'=>r=.bool false/\h'=h:=by
 refine Ec.bu gG FT ?_;unfold y5;simp only[go_sem,Nat.reduceEqDiff,reduceCtorEq]
attribute [local go_sem] zp zo
def aa0 (u v:List Nat)(h:aa):Ec ED 39 [.str u,.str v] h λr h'=>r=.int .i64 (BP u v)/\h'=h:=by
 refine Ec.bu gG Nh ?_;unfold Lz;simp only[go_sem,Nat.reduceEqDiff,Nat.reduceAdd,reduceCtorEq];refine⟨by decide,?_⟩;refine(G4 u h).mono ?_;rintro r h1 ⟨rfl,rfl⟩;simp only[go_sem,Nat.reduceEqDiff,reduceCtorEq];refine⟨by decide,?_⟩;refine(G4 v h1).mono ?_;rintro r h2 ⟨rfl,rfl⟩;unfold BP;cases h1:lexB u v with
 |true=>simp only[go_sem,Nat.reduceEqDiff,reduceCtorEq,h1]
 |false=>cases h2:lexB v u with
  |true=>simp only[go_sem,Nat.reduceEqDiff,reduceCtorEq,h1,h2]
  |false=>simp only[go_sem,Nat.reduceEqDiff,reduceCtorEq,h1,h2]
open Go.RowKit Go.Sort
section
variable{K:cu}{W0:World}{ρ:Ren}{h:aa}{w:World}
def WR.Xg (H:WR Tryz.prog K W0 ρ h w):@WR Tryz.prog xi ⟨λb=>b<w.heap.size,h.next,ρ,λ_=>False⟩ w ρ h.fz w:=by
 refine @WR.mk Tryz.prog xi _ _ _ _ _ rfl (IG.refl _ _ _) rfl (qQY _) (λ_ h=>h) (λ_ _=>rfl) (λn hn=>?_) (λn o hn hl=>?_) (λn m o p r s hn ho=>?_) (qQY _) (λ_ _=>rfl) (λ_ h=>h.elim) (λ_ _ _ _ _ _ h=>h) (λ_ h=>h.elim)
 .obtain⟨h1,h2⟩:=H.fresh n hn;exact⟨h1,by rw[aa.qp,h2];rfl⟩
 .rw[aa.qp,qQC]at hn;obtain⟨o',hn,rfl⟩:=hn;cases o' with
  |cells l e =>
   obtain⟨r,h1,h2,h3⟩:=H.obj n _ hn trivial;exact⟨r,h1,λhx=>hx.elim,h3.1.hold⟩
  |ro l e =>
   obtain⟨r,h1,h2,h3⟩:=H.obj n _ hn trivial;exact⟨r,h1,λhx=>hx.elim,h3⟩
  |map _ _=>exact hl.elim
  |mapIter _ _ _ _=>exact hl.elim
  |dead=>exact hl.elim
 .rw[aa.qp,qQC]at hn;obtain⟨o',hn,rfl⟩:=hn;cases o'<;>exact ho.elim
def Br (H:WR Tryz.prog K W0 ρ h w){f:FuncId}{args:List ae}{args':Array Value}(ha:VL ρ args args'.toList){Q:ae->aa->Prop}(hc:Ec ED f args h.fz Q) :
 Calls Tryz.prog f args' w λe w'=>∃v h' v' bn,e=.returned v'/\Q v h'/\V bn v v'/\∃q os,w'=grow (w.drewN q) os:=by
 obtain⟨v,h',⟨N,hN⟩,hq⟩:=hc;have eX:=hN N N (qQY _) (qQY _);refine((aeI N N f args _ v h' eX).2 _ w ρ w args' ha H.Xg).mono ?_;rintro e w' ⟨v',bn,rfl,hle,hv,H'⟩;exact⟨v,h',v',bn,rfl,hq,hv,Xi (@WR.os Tryz.prog xi _ _ _ _ _ H') (@WR.tape Tryz.prog xi _ _ _ _ _ H').tp ((@WR.tape Tryz.prog xi _ _ _ _ _ H').dr trivial) (@WR.output Tryz.prog xi _ _ _ _ _ H') (@WR.size Tryz.prog xi _ _ _ _ _ H') λb hb=>@WR.eN Tryz.prog xi _ _ _ _ _ H' b hb⟩
end
instance:Inhabited dH:=⟨⟨0,0,0,0⟩⟩
def Dm (x:dH):List Value:=[.int .i64 x.fr,.int .i64 x.to,.int .u8 (x.l:Int),.int .i64 x.c]
def Mn (x y:dH):ltOf qe x y=kX x y:=by
 rw[Cp];rfl
def adw:SWO (ltOf qe) where
 irrefl x:=by rw[Mn];unfold kX;simp
 trans x y z h1 h2:=by rw[Mn] at *;unfold kX at *;simp only[decide_eq_true_eq] at *;omega
 ntrans x y z h1 h2:=by rw[Mn] at *;unfold kX at *;simp only[decide_eq_false_iff_not] at *;omega
def V3 (ρ:Ren)(x:dH)(i:Nat)(a:ae)(v':Value)(hi:(aX x)[i]?=some a)(hv:V ρ a v'):(Dm x)[i]?=some v':=by
 match i,hi with
 |0,hi=>cases hi;rw[hv.eZ];rfl
 |1,hi=>cases hi;rw[hv.eZ];rfl
 |2,hi=>cases hi;rw[hv.eZ];rfl
 |3,hi=>cases hi;rw[hv.eZ];rfl
 |i+4,hi=>simp[aX]at hi
def Lr (ρ:Ren)(x:dH)(i:Nat)(a:ae)(hi:(aX x)[i]?=some a):a.flat=true/\∃v',(Dm x)[i]?=some v'/\V ρ a v':=by
 match i,hi with
 |0,hi=>cases hi;exact⟨rfl,_,rfl,.int _ _⟩
 |1,hi=>cases hi;exact⟨rfl,_,rfl,.int _ _⟩
 |2,hi=>cases hi;exact⟨rfl,_,rfl,.int _ _⟩
 |3,hi=>cases hi;exact⟨rfl,_,rfl,.int _ _⟩
 |i+4,hi=>simp[aX]at hi
def Y7 (ρ:Ren)(x:dH):V ρ (.agg (aX x)) (.agg (Dm x).toArray):=.agg (by intro x hx;simp[aX]at hx;rcases hx with rfl|rfl|rfl|rfl<;>rfl) (.cons (.int _ _) (.cons (.int _ _) (.cons (.int _ _) (.cons (.int _ _) .nil))))
def Lc (h:aa)(b c:Nat)(ex:Bool)(e:TypeId)(ps:List dH)(hb:h.get b=some (.cells (ps.map aX).flatten e))(h0:ps≠[])(hl:ps.length<=1073741824) :
 Nc Tryz.prog 40 [.slice b 0 ps.length c ex,.func 18 [] []] h λ_ h'=>∃qs:List dH,qs.Perm ps/\qs.Pairwise (λx y=>kX y x=false)/\h'=h.put b (.cells (qs.map aX).flatten e):=by
 refine⟨⟨Tryz.f40,Tryz.func40,by kernel_rfl,by kernel_rfl⟩,?_⟩;intro K W0 ρ w args' ha H;have DY:0<ps.length:=qVA.2 h0;obtain⟨args',rfl⟩:∃l:List Value,args'=l.toArray:=⟨args'.toList,by simp⟩;cases ha with
 |cons v1 ha =>
 cases ha with
 |cons v2 ha =>
 cases ha;rcases v1.eW with⟨r,c',hr,rfl,_⟩|⟨h1,_⟩
 rotate_left
 .omega
 obtain⟨x',y',rfl,hx,hy⟩:=v2.pG (by decide)
 have Zt:x'=#[]:=by cases kx:x'.toList with
  |nil=>exact qKE.1 kx
  |cons a l=>rw[kx]at hx;cases hx
 have ey':y'=#[]:=by cases Ov:y'.toList with
  |nil=>exact qKE.1 Ov
  |cons a l=>rw[Ov]at hy;cases hy
 subst Zt;subst ey';obtain⟨hH,hblk⟩:=xd (encA:=aX) (encV:=Dm) (k:=4) (by decide) (λ_=>rfl) (λ_=>rfl) V3 H hb hr;have iq:ps.toArray.size=ps.length:=by simp
 have abH:CmpLays Tryz.prog 18 #[] Dm 4 qe r.b r.d ps.toArray.size w:=by
  intro m os dk hdk x y;have H2:=lC (encA:=aX) (encV:=Dm) (k:=4) (by decide) (λ_=>rfl) (λ_=>rfl) Lr H hb hr (qs:=dk.toList) (by simp at hdk ⊢;omega) m os;refine(Br H2 (args:=[.agg (aX x),.agg (aX y)]) (.cons (Y7 _ x) (.cons (Y7 _ y) .nil)) (M' x y _)).mono ?_;rintro e w' ⟨v,h',v',bn,rfl,⟨rfl,_⟩,hv,hg⟩;rw[hv.eZ];exact⟨rfl,by simpa using hg⟩
 have eg:∀args w,(callFunc 18 args).run Tryz.prog w=.ok (.enter 18 args) w:=enters_of Tryz.func18 (by kernel_rfl) rfl;have hc:=AnyQ.slices_SortFunc Tryz.aau 4 Tryz.isAgg52 Tryz.sizeOf52 Dm (λ_=>rfl) (λx v hv=>by simp[Dm]at hv;rcases hv with rfl|rfl|rfl|rfl<;>rfl) qe adw 18 #[] r.b r.d c' ps.toArray w eg abH hH hblk (by simp;omega);change Calls Tryz.prog 40 _ _ _ at hc;rw[iq]at hc;rw[qWQ];refine hc.mono ?_;rintro en w' ⟨rfl,d',n,os,hp,hs,rfl⟩;rw[<-iq]at hp hs;obtain⟨p1,p2⟩:=xG hp;rw[<-p2]at hs;have qx:=sI (d:=d'.toList) (by simpa using hs);refine⟨.eC [],h.put b (.cells (d'.toList.map aX).flatten e),⟨d'.toList,by simpa using p1,qx.imp λ{x y} lH=>by rw[<-Mn];exact lH,rfl⟩,.tuple #[],ρ,rfl,Ren.le_refl _,.eC .nil,?_⟩;have Ad:d'.toList.length=ps.length:=by simpa using p2
 have:=lC (encA:=aX) (encV:=Dm) (k:=4) (by decide) (λ_=>rfl) (λ_=>rfl) Lr H hb hr Ad n os;simpa using this
def PB {u:ae}{size:Nat}{h:aa}{xs:List (List ae)}(H:cg h size u xs):dz 20 u u=true:=by
 rcases H.2 with⟨_,rfl⟩|⟨b,o,c,ex,rfl,_⟩
 .rfl
 .show(and (Nat.beq b b) _)=true;cases ex<;>simp[aO]
def A9 (la lb:Int)(pa pb:List Nat):Int:=eO [lI lb la,BP pa pb]
def Xb {q4 q7 sb a b:Nat}{lv pv:ae}{ln:List Int}{pa:List (List Nat)}{h:aa}(h4:aN h q4 0=some (.ptr sb 0))(hl:aN h sb 4=some lv)(Ti:cg h 1 lv (ln.map λz=>[.int .i64 z]))(h7:aN h q7 0=some pv)(hpv:cg h 1 pv (pa.map λs=>[.str s]))
 {la lb:Int} {ua ub:List Nat} (e1:ln[a]?=some la) (e2:ln[b]?=some lb) (e3:pa[a]?=some ua) (e4:pa[b]?=some ub) :
 Ec ED 38 [.int .i64 (a:Int),.int .i64 (b:Int),.ptr q4 0,.ptr q7 0] h λr h'=>r=.int .i64 (A9 la lb ua ub)/\aU h h':=by
 obtain⟨c1,o1,r1,i1⟩:=Ti.ix (j:=a) (x:=[.int .i64 la]) (by rw[qQX,e1];rfl);obtain⟨c2,o2,r2,i2⟩:=Ti.ix (j:=b) (x:=[.int .i64 lb]) (by rw[qQX,e2];rfl);obtain⟨c3,o3,r3,i3⟩:=hpv.ix (j:=a) (x:=[.str ua]) (by rw[qQX,e3];rfl);obtain⟨c4,o4,r4,i4⟩:=hpv.ix (j:=b) (x:=[.str ub]) (by rw[qQX,e4];rfl);have l1:aN h c1 o1=some (.int .i64 la):=r1.aN (i:=0) rfl;have l2:aN h c2 o2=some (.int .i64 lb):=r2.aN (i:=0) rfl;have l3:aN h c3 o3=some (.str ua):=r3.aN (i:=0) rfl;have l4:aN h c4 o4=some (.str ub):=r4.aN (i:=0) rfl;refine Ec.bu gG Jf ?_;unfold Ro;simp only[go_sem,Nat.reduceEqDiff,Nat.reduceAdd,reduceCtorEq,h4,hl,h7,i1 _ _ _ _ rfl,i2 _ _ _ _ rfl,i3 _ _ _ _ rfl,i4 _ _ _ _ rfl,l1,l2,l3,l4];refine⟨by decide,?_⟩;refine(Jb _ _ _).mono ?_;rintro r h2 ⟨rfl,rfl⟩;have spv:=PB hpv;simp only[go_sem,Nat.reduceEqDiff,reduceCtorEq,h7,l3,l4,spv,C0];refine⟨by decide,?_⟩;refine(aa0 _ _ _).mono ?_;rintro r h2 ⟨rfl,rfl⟩;simp only[go_sem,Nat.reduceEqDiff,Nat.reduceAdd,Nat.reduceLeDiff,reduceCtorEq];refine⟨by decide,?_⟩;refine(LD [lI lb la,BP ua ub] _ _ ⟨by simp,.inr ⟨_,_,_,_,rfl,.inr (fP.ed (e:=3) (by simp[aa.eT]) (aa.aj _ _ _) (by simp[ae.flat]))⟩⟩ (by simp)).mono ?_;rintro r h2 ⟨rfl,rfl⟩;simp only[go_sem,Nat.reduceEqDiff,reduceCtorEq];exact⟨rfl,((aU.refl h).skip 27).put (by omega) _⟩
def Kj {a b c:List Nat}(h1:lexB a b=false)(h2:lexB b c=false):lexB a c=false:=by
 cases h3:lexB a c with
 |false=>rfl
 |true =>
  cases h4:lexB b a with
  |true =>
   have:=qB b a c h4 h3;rw[h2]at this;cases this
  |false =>
   have:=si a b h1 h4;subst this;rw[h3]at h2;cases h2
def ahj (la lb:Int)(ua ub:List Nat):decide (A9 la lb ua ub<0)=decide (lb<la\/la=lb/\lexB ua ub=true):=by
 unfold A9 eO eO eO;rcases mF lb la with⟨h1,h2⟩|⟨h1,h2⟩|⟨h1,h2⟩
 .rw[h2];simp[h1]
 .rw[h2];have:¬la=lb:=by omega
  have h3:¬lb<la:=by omega
  simp[this,h3]
 .rw[h2];subst h1;unfold BP;cases h3:lexB ua ub with
  |true=>simp
  |false=>cases h4:lexB ub ua<;>simp
def UR {α:Type}[Inhabited α](enc:α->Value)(w:World)(rm off n:Nat)(d:Array α)(os:Array Obj):sortWorldK (λx=>[enc x]) 1 w rm off n d os=sortWorld enc w rm off n d os:=by
 have:putCells id off (flatK (λx=>[enc x]) 1 d)=putCells enc off d:=by
  funext c;unfold putCells;apply Array.ext_getElem?;intro i;rw[Array.getElem?_mapIdx,Array.getElem?_mapIdx];cases c[i]? with
  |none=>rfl
  |some x =>
   simp only[qWB,size_flatK,Nat.mul_one];by_cases h:off<=i/\i<off+d.size
   .rw[if_pos h,if_pos h,get_flatK _ _ _ _ (by omega)];simp[Nat.mod_one]
   .rw[if_neg h,if_neg h]
 unfold sortWorldK sortWorld putRowK putRow;rw[this]
def PM {m:Nat}(L:Fin m->Int)(Pa:Fin m->List Nat)(h:aa)(b c:Nat)(ex:Bool)(e:TypeId)(q4 q7:Nat)(ps:List (Fin m))(hb:h.get b=some (.cells (ps.map λc=>ae.int .i64 (c.val:Int)) e))(h0:ps≠[])(hl:ps.length<=1073741824)
 (abH:∀h2:aa,h2.next=h.next->(∀c,c≠b->h2.get c=h.get c)->∀x y:Fin m,Ec ED 38 [.int .i64 (x.val:Int),.int .i64 (y.val:Int),.ptr q4 0,.ptr q7 0] h2.fz λr h'=>r=.int .i64 (A9 (L x) (L y) (Pa x) (Pa y))/\aU h2.fz h') :
 Nc Tryz.prog 37 [.slice b 0 ps.length c ex,.func 38 [] [.ptr q4 0,.ptr q7 0]] h λ_ h'=>∃qs:List (Fin m),qs.Perm ps/\qs.Pairwise (λx y=>¬(L x<L y\/L y=L x/\lexB (Pa y) (Pa x)=true))/\h'=h.put b (.cells (qs.map λc=>ae.int .i64 (c.val:Int)) e):=by
 refine⟨⟨Tryz.f37,Tryz.func37,by kernel_rfl,by kernel_rfl⟩,?_⟩;intro K W0 ρ w args' ha H;have DY:0<ps.length:=qVA.2 h0;obtain⟨x0,_⟩:∃x,x∈ps:=List.exists_mem_of_ne_nil ps h0
 haveI:Inhabited (Fin m):=⟨x0⟩
 let encA:Fin m->List ae:=λc=>[.int .i64 (c.val:Int)]
 let enc:Fin m->Value:=λc=>.int .i64 (c.val:Int)
 let cf:Fin m->Fin m->Int:=λx y=>A9 (L x) (L y) (Pa x) (Pa y)
 have dL:∀x y,ltOf cf x y=decide (L y<L x\/L x=L y/\lexB (Pa x) (Pa y)=true):=λx y=>ahj _ _ _ _
 have swo:SWO (ltOf cf):=by
  refine⟨λx=>?_,λx y z h1 h2=>?_,λx y z h1 h2=>?_⟩
  .rw[dL,nU];simp
  .rw[dL,decide_eq_true_eq] at *;rcases h1 with h1|⟨h1,Iu⟩<;>rcases h2 with h2|⟨h2,tH⟩
   .left;omega
   .left;omega
   .left;omega
   .exact .inr ⟨by omega,qB _ _ _ Iu tH⟩
  .rw[dL,decide_eq_false_iff_not] at *;rintro(h3|⟨h3,h4⟩)
   .by_cases h5:L y<L x
    .exact h1 (.inl h5)
    .exact h2 (.inl (by omega))
   .have a1:¬L y<L x:=λh=>h1 (.inl h);have a2:¬L z<L y:=λh=>h2 (.inl h);have e1:L x=L y:=by omega
    have e2:L y=L z:=by omega
    have b1:lexB (Pa x) (Pa y)=false:=by
     cases h:lexB (Pa x) (Pa y) with
     |false=>rfl
     |true=>exact absurd (.inr ⟨e1,h⟩) h1
    have b2:lexB (Pa y) (Pa z)=false:=by
     cases h:lexB (Pa y) (Pa z) with
     |false=>rfl
     |true=>exact absurd (.inr ⟨e2,h⟩) h2
    rw[Kj b1 b2]at h4;cases h4
 have ZT:∀l:List (Fin m),(l.map encA).flatten=l.map λc=>ae.int .i64 (c.val:Int):=λl=>by
  induction l with
  |nil=>rfl
  |cons a l ih=>rw[qZW,qZA,ih];rfl
 rw[<-ZT]at hb
 have hinv:∀(ρ:Ren)(x:Fin m)(i:Nat)(a:ae)(v':Value),(encA x)[i]?=some a->V ρ a v'->[enc x][i]?=some v':=by
  intro ρ x i a v' hi hv
  match i,hi with
  |0,hi=>cases hi;rw[hv.eZ];rfl
  |i+1,hi=>simp[encA]at hi
 have jG:∀(ρ:Ren)(x:Fin m)(i:Nat)(a:ae),(encA x)[i]?=some a->a.flat=true/\∃v',[enc x][i]?=some v'/\V ρ a v':=by
  intro ρ x i a hi
  match i,hi with
  |0,hi=>cases hi;exact⟨rfl,_,rfl,.int _ _⟩
  |i+1,hi=>simp[encA]at hi
 obtain⟨args',rfl⟩:∃l:List Value,args'=l.toArray:=⟨args'.toList,by simp⟩;cases ha with
 |cons v1 ha =>
 cases ha with
 |cons v2 ha =>
 cases ha;rcases v1.eW with⟨r,c',hr,rfl,_⟩|⟨h1,_⟩
 rotate_left
 .omega
 obtain⟨x',cb,rfl,hx,hy⟩:=v2.pG (by decide)
 have Zt:x'=#[]:=by cases kx:x'.toList with
  |nil=>exact qKE.1 kx
  |cons a l=>rw[kx]at hx;cases hx
 subst Zt;obtain⟨hH,hblk⟩:=xd (encA:=encA) (encV:=λx=>[enc x]) (k:=1) (by decide) (λ_=>rfl) (λ_=>rfl) hinv H hb hr
 have hH1:Holds enc w r.b r.d ps.toArray:=by
  intro j hj;have:=hH j (by rw[size_flatK];omega);rw[get_flatK _ _ _ _ (by omega)]at this;simpa[Nat.mod_one] using this
 have iq:ps.toArray.size=ps.length:=by simp
 have Iy:CmpLays1 Tryz.prog 38 cb enc cf r.b r.d ps.toArray.size w:=by
  intro n os dk hdk x y;have H2:=lC (encA:=encA) (encV:=λx=>[enc x]) (k:=1) (by decide) (λ_=>rfl) (λ_=>rfl) jG H hb hr (qs:=dk.toList) (by simp at hdk ⊢;omega) n os;rw[UR] at H2;have hq:=abH (h.put b (.cells (dk.toList.map encA).flatten e)) rfl (λc hc=>aa.ah _ _ (Ne.symm hc)) x y
  have ha2:VL ρ [.int .i64 (x.val:Int),.int .i64 (y.val:Int),.ptr q4 0,.ptr q7 0] (#[enc x,enc y]++cb).toList:=by
   rw[qKX];exact .cons (.int _ _) (.cons (.int _ _) hy)
  refine(Br H2 ha2 hq).mono ?_;rintro e w' ⟨v,h',v',bn,rfl,⟨rfl,_⟩,hv,hg⟩;rw[hv.eZ];exact⟨rfl,by simpa using hg⟩
 have eg:∀args w,(callFunc 38 args).run Tryz.prog w=.ok (.enter 38 args) w:=enters_of Tryz.func38 (by kernel_rfl) rfl;have hc:=Any.slices_SortFunc Tryz.ahG enc (λ_=>rfl) cf swo 38 cb r.b r.d c' ps.toArray w eg Iy hH1 hblk (by simp;omega);change Calls Tryz.prog 37 _ _ _ at hc;rw[iq]at hc;rw[qWQ];refine hc.mono ?_;rintro en w' ⟨rfl,d',n,os,hp,hs,rfl⟩;rw[<-iq]at hp hs;obtain⟨p1,p2⟩:=xG hp;rw[<-p2]at hs;have qx:=sI (d:=d'.toList) (by simpa using hs);refine⟨.eC [],h.put b (.cells (d'.toList.map encA).flatten e),⟨d'.toList,by simpa using p1,qx.imp λ{x y} lH=>?_,by rw[ZT]⟩,.tuple #[],ρ,rfl,Ren.le_refl _,.eC .nil,?_⟩
 .rw[dL,decide_eq_false_iff_not]at lH;exact lH
 .have Ad:d'.toList.length=ps.length:=by simpa using p2
  have:=lC (encA:=encA) (encV:=λx=>[enc x]) (k:=1) (by decide) (λ_=>rfl) (λ_=>rfl) jG H hb hr Ad n os;rw[UR]at this;simpa using this
def aeS:ax :=
 (.seq
  (.region [oM 5 0,oJ 6 5,oM 4 6])
  (.region [oM 7 0,oM 8 4,oM 9 4,oK 10 (.px .u64 (.t 9)),oK 11 (.call (.c (.func 60 [] [])) [(.t 10)]),oM 12 1,oK 13 (.call (.c (.func 62 [] [])) [(.t 7),(.c (.int .i64 0)),(.t 8),(.t 11),(.t 12)])]))
def WI:E2.code 40=some (aeS,[]):=by kernel_rfl
def Ze:ax :=
 (.seq
  (.region [oK 2 (.mv (.c (.int .i64 0)))])
  (.seq
   (.cond (.c (.bool false))
    (.seq
     (.region [oM 3 0,oK 4 (.px .u32 (.t 3)),oK 5 (.call (.c (.func 88 [] [])) [(.t 4)]),oM 2 5])
     .ret)
    .skip)
   (.seq
    (.region [oM 6 0,oK 7 (.call (.c (.func 89 [] [])) [(.t 6)]),oM 2 7])
    .ret)))
def RA:E2.code 60=some (Ze,[.tmp 2]):=by kernel_rfl
def F':ax :=
 (.block 1
  (.seq
   (.region [oM 21 2,oM 22 1,oB 23 .sub 21 22,oM 12 23])
   (.seq
    (.seq
     (.region [oM 24 12,oK 25 (.bin .leq .none (.t 24) (.c (.int .i64 12)))])
     (.cond (.t 25)
      (.seq
       (.region [oM 26 0,oM 27 1,oM 28 2,oM 29 4,oK 30 (.call (.c (.func 90 [] [])) [(.t 26),(.t 27),(.t 28),(.t 29)])])
       .ret)
      .skip))
    (.seq
     (.seq
      (.region [oM 31 3,oK 32 (.bin .eql .none (.t 31) (.c (.int .i64 0)))])
      (.cond (.t 32)
       (.seq
        (.region [oM 33 0,oM 34 1,oM 35 2,oM 36 4,oK 37 (.call (.c (.func 91 [] [])) [(.t 33),(.t 34),(.t 35),(.t 36)])])
        .ret)
       .skip))
     (.seq
      (.seq
       (.region [oM 38 10,oK 39 (.not (.t 38))])
       (.cond (.t 39)
        (.seq
         (.region [oM 40 0,oM 41 1,oM 42 2,oM 43 4,oK 44 (.call (.c (.func 92 [] [])) [(.t 40),(.t 41),(.t 42),(.t 43)])])
         (.region [oM 45 3,oK 46 (.bin .sub .none (.t 45) (.c (.int .i64 1))),oM 3 46]))
        .skip))
      (.seq
       (.region [oM 48 0,oM 49 1,oM 50 2,oM 51 4,oK 52 (.call (.c (.func 93 [] [])) [(.t 48),(.t 49),(.t 50),(.t 51)]),oM 47 52,oK 53 (.extract 0 (.t 47)),oK 54 (.extract 1 (.t 47)),oM 13 53,oM 14 54])
       (.seq
        (.seq
         (.region [oM 55 14,oK 56 (.bin .eql .none (.t 55) (.c (.int .i64 2)))])
         (.cond (.t 56)
          (.seq
           (.region [oM 57 0,oM 58 1,oM 59 2,oM 60 4,oK 61 (.call (.c (.func 94 [] [])) [(.t 57),(.t 58),(.t 59),(.t 60)])])
           (.seq
            (.region [oM 62 2,oK 63 (.bin .sub .none (.t 62) (.c (.int .i64 1))),oM 64 13,oM 65 1,oB 66 .sub 64 65,oB 67 .sub 63 66,oM 13 67])
            (.region [oK 14 (.mv (.c (.int .i64 1)))])))
          .skip))
        (.seq
         (.seq
          (.region [oM 68 10,oM 69 68,oG 70 69 true (.mv (.t 11)),oK 71 (.pick (.t 69) (.t 70) (.c (.bool false))),oM 72 71,oG 73 72 true (.mv (.t 14)),oG 74 72 true (.bin .eql .none (.t 73) (.c (.int .i64 1))),oK 75 (.pick (.t 72) (.t 74) (.c (.bool false)))])
          (.cond (.t 75)
           (.seq
            (.region [oM 76 0,oM 77 1,oM 78 2,oM 79 4,oK 80 (.call (.c (.func 95 [] [])) [(.t 76),(.t 77),(.t 78),(.t 79)])])
            (.cond (.t 80)
             .ret
             .skip))
           .skip))
         (.seq
          (.seq
           (.drawn 17 [oP 0 (oM 81 1),oP 1 (oK 82 (.bin .gtr .none (.t 81) (.c (.int .i64 0)))),oP 2 (oM 83 82),oP 3 (oG 84 83 true (.mv (.t 4))),oP 4 (oG 85 83 true (.mv (.t 0))),oP 5 (oG 86 83 true (.mv (.t 1))),oP 6 (oG 87 83 true (.bin .sub .none (.t 86) (.c (.int .i64 1)))),oP 7 (oG 88 83 true (.kz 4 (.t 85) (.t 87))),oR 8 (oG 89 83 true (.fJ 4 (.t 88))),oP 9 (oG 90 83 true (.mv (.t 0))),oP 10 (oG 91 83 true (.mv (.t 13))),oP 11 (oG 92 83 true (.kz 4 (.t 90) (.t 91))),oR 12 (oG 93 83 true (.fJ 4 (.t 92))),oW 13 (oG 94 83 true (.call (.t 84) [(.t 89),(.t 93)])),oP 14 (oG 95 83 true (.bin .lss .none (.t 94) (.c (.int .i64 0)))),oP 15 (oG 96 83 true (.not (.t 95))),oP 16 (oK 97 (.pick (.t 83) (.t 96) (.c (.bool false))))])
           (.cond (.t 97)
            (.seq
             (.region [oM 98 0,oM 99 1,oM 100 2,oM 101 13,oM 102 4,oK 103 (.call (.c (.func 96 [] [])) [(.t 98),(.t 99),(.t 100),(.t 101),(.t 102)]),oM 15 103])
             (.seq
              (.region [oM 104 15,oM 1 104])
              (.exit 1)))
            .skip))
          (.seq
           (.region [oM 106 0,oM 107 1,oM 108 2,oM 109 13,oM 110 4,oK 111 (.call (.c (.func 97 [] [])) [(.t 106),(.t 107),(.t 108),(.t 109),(.t 110)]),oM 105 111,oK 112 (.extract 0 (.t 105)),oK 113 (.extract 1 (.t 105)),oM 16 112,oM 17 113])
           (.seq
            (.region [oM 114 17,oM 11 114])
            (.seq
             (.region [oM 115 16,oM 116 1,oB 117 .sub 115 116,oM 118 2,oM 119 16,oB 120 .sub 118 119,oM 18 117,oM 19 120])
             (.seq
              (.region [oM 121 12,oK 122 (.bin .quo .none (.t 121) (.c (.int .i64 8))),oM 20 122])
              (.seq
               (.region [oM 123 18,oM 124 19,oB 125 .lss 123 124])
               (.cond (.t 125)
                (.seq
                 (.region [oM 126 18,oM 127 20,oB 128 .geq 126 127,oM 10 128])
                 (.seq
                  (.region [oM 129 0,oM 130 1,oM 131 16,oM 132 3,oM 133 4,oK 134 (.call (.c (.func 62 [] [])) [(.t 129),(.t 130),(.t 131),(.t 132),(.t 133)])])
                  (.region [oM 135 16,oK 136 (.bin .add .none (.t 135) (.c (.int .i64 1))),oM 1 136])))
                (.seq
                 (.region [oM 137 19,oM 138 20,oB 139 .geq 137 138,oM 10 139])
                 (.seq
                  (.region [oM 140 0,oM 141 16,oK 142 (.bin .add .none (.t 141) (.c (.int .i64 1))),oM 143 2,oM 144 3,oM 145 4,oK 146 (.call (.c (.func 62 [] [])) [(.t 140),(.t 142),(.t 143),(.t 144),(.t 145)])])
                  (.region [oM 147 16,oM 2 147]))))))))))))))))))
def Zl:ax :=
 (.seq
  (.region [oK 10 (.mv (.c (.bool true)))])
  (.seq
   (.region [oK 11 (.mv (.c (.bool true)))])
   (.block 0
    (.loop F'))))
def RK:E2.code 62=some (Zl,[]):=by kernel_rfl
def Lv:ax :=
 (.seq
  (.region [oK 2 (.mv (.c (.int .i64 0)))])
  (.seq
   (.seq
    (.region [oM 3 0,oK 4 (.bin .geq .none (.t 3) (.c (.int .u64 4294967296)))])
    (.cond (.t 4)
     (.seq
      (.region [oM 5 0,oK 6 (.bin .shr .none (.t 5) (.c (.int .u64 32))),oM 0 6])
      (.region [oK 2 (.mv (.c (.int .i64 32)))]))
     .skip))
   (.seq
    (.seq
     (.region [oM 7 0,oK 8 (.bin .geq .none (.t 7) (.c (.int .u64 65536)))])
     (.cond (.t 8)
      (.seq
       (.region [oM 9 0,oK 10 (.bin .shr .none (.t 9) (.c (.int .u64 16))),oM 0 10])
       (.region [oM 11 2,oK 12 (.bin .add .none (.t 11) (.c (.int .i64 16))),oM 2 12]))
      .skip))
    (.seq
     (.seq
      (.region [oM 13 0,oK 14 (.bin .geq .none (.t 13) (.c (.int .u64 256)))])
      (.cond (.t 14)
       (.seq
        (.region [oM 15 0,oK 16 (.bin .shr .none (.t 15) (.c (.int .u64 8))),oM 0 16])
        (.region [oM 17 2,oK 18 (.bin .add .none (.t 17) (.c (.int .i64 8))),oM 2 18]))
       .skip))
     (.seq
      (.region [oM 19 2,oM 20 0,oK 21 (.px .u8 (.t 20)),oK 22 (.kh (.c (.str [0,1,2,2,3,3,3,3,4,4,4,4,4,4,4,4,5,5,5,5,5,5,5,5,5,5,5,5,5,5,5,5,6,6,6,6,6,6,6,6,6,6,6,6,6,6,6,6,6,6,6,6,6,6,6,6,6,6,6,6,6,6,6,6,7,7,7,7,7,7,7,7,7,7,7,7,7,7,7,7,7,7,7,7,7,7,7,7,7,7,7,7,7,7,7,7,7,7,7,7,7,7,7,7,7,7,7,7,7,7,7,7,7,7,7,7,7,7,7,7,7,7,7,7,7,7,7,7,8,8,8,8,8,8,8,8,8,8,8,8,8,8,8,8,8,8,8,8,8,8,8,8,8,8,8,8,8,8,8,8,8,8,8,8,8,8,8,8,8,8,8,8,8,8,8,8,8,8,8,8,8,8,8,8,8,8,8,8,8,8,8,8,8,8,8,8,8,8,8,8,8,8,8,8,8,8,8,8,8,8,8,8,8,8,8,8,8,8,8,8,8,8,8,8,8,8,8,8,8,8,8,8,8,8,8,8,8,8,8,8,8,8,8,8,8,8,8,8,8,8,8,8,8,8,8,8])) (.t 21)),oK 23 (.px .i64 (.t 22)),oB 24 .add 19 23,oM 2 24])
      .ret)))))
def Jd:E2.code 89=some (Lv,[.tmp 2]):=by kernel_rfl
def Rv:ax :=
 (.seq
  (.seq
   (.drawn 17 [oP 0 (oM 18 9),oP 1 (oM 19 1),oP 2 (oB 20 .gtr 18 19),oP 3 (oM 21 20),oP 4 (oG 22 21 true (.mv (.t 3))),oP 5 (oG 23 21 true (.mv (.t 0))),oP 6 (oG 24 21 true (.mv (.t 9))),oP 7 (oG 25 21 true (.kz 4 (.t 23) (.t 24))),oR 8 (oG 26 21 true (.fJ 4 (.t 25))),oP 9 (oG 27 21 true (.mv (.t 0))),oP 10 (oG 28 21 true (.mv (.t 9))),oP 11 (oG 29 21 true (.bin .sub .none (.t 28) (.c (.int .i64 1)))),oP 12 (oG 30 21 true (.kz 4 (.t 27) (.t 29))),oR 13 (oG 31 21 true (.fJ 4 (.t 30))),oW 14 (oG 32 21 true (.call (.t 22) [(.t 26),(.t 31)])),oP 15 (oG 33 21 true (.bin .lss .none (.t 32) (.c (.int .i64 0)))),oP 16 (oK 34 (.pick (.t 21) (.t 33) (.c (.bool false))))])
   (.cond (.t 34)
    .skip
    (.exit 2)))
  (.seq
   (.block 3
    (.drawn 18 [oP 0 (oM 37 0),oP 1 (oM 38 9),oP 2 (oM 39 0),oP 3 (oM 40 9),oP 4 (oK 41 (.bin .sub .none (.t 40) (.c (.int .i64 1)))),oP 5 (oM 42 0),oP 6 (oM 43 9),oP 7 (oK 44 (.bin .sub .none (.t 43) (.c (.int .i64 1)))),oP 8 (oX 45 4 42 44),oR 9 (oQ 46 4 45),oP 10 (oM 47 0),oP 11 (oM 48 9),oP 12 (oX 49 4 47 48),oR 13 (oQ 50 4 49),oP 14 (oX 51 4 37 38),oW 15 (oS 4 51 46),oP 16 (oX 52 4 39 41),oW 17 (oS 4 52 50)]))
   (.region [oM 35 9,oK 36 (.bin .sub .none (.t 35) (.c (.int .i64 1))),oM 9 36])))
def FJ:ax :=
 (.seq
  (.seq
   (.region [oM 12 8,oM 13 2,oB 14 .lss 12 13])
   (.cond (.t 14)
    .skip
    (.exit 0)))
  (.seq
   (.block 1
    (.seq
     (.region [oM 17 8,oM 9 17])
     (.block 2
      (.loop Rv))))
   (.region [oM 15 8,oK 16 (.bin .add .none (.t 15) (.c (.int .i64 1))),oM 8 16])))
def Zi:ax :=
 (.seq
  (.region [oM 10 1,oK 11 (.bin .add .none (.t 10) (.c (.int .i64 1))),oM 8 11])
  (.block 0
   (.loop FJ)))
def RI:E2.code 90=some (Zi,[]):=by kernel_rfl
attribute [local go_sem] bQ
set_option maxRecDepth 100000 in
def QU (h:aa):Ec E2 89 [.int .u64 0] h λr h'=>r=.int .i64 0/\h'=h:=by
 refine Ec.bu (aI (by decide)) Jd ?_;unfold Lv;have hw:(IntKind.u8.wrap 0).toNat=0:=by decide
 have CO:IntKind.i64.wrap 0=0:=by decide
 have hw3:IntKind.i64.wrap (0+0)=0:=by decide
 simp only[go_sem,Nat.reduceEqDiff,Int.reduceLT,reduceCtorEq,hw];show ae.int .i64 (IntKind.i64.wrap (0+IntKind.i64.wrap 0))=_;rw[CO,hw3]
def aaG (h:aa):Ec E2 60 [.int .u64 0] h λr h'=>r=.int .i64 0/\h'=h:=by
 refine Ec.bu (aI (by decide)) RA ?_;unfold Ze;simp only[go_sem,Nat.reduceEqDiff,reduceCtorEq];refine⟨by decide,?_⟩;refine(QU h).mono ?_;rintro r h1 ⟨rfl,rfl⟩;simp only[go_sem,Nat.reduceEqDiff,reduceCtorEq]
def acx (f:ae)(hf:f.flat=true)(h:aa):Ec E2 90 [.af,.int .i64 0,.int .i64 0,f] h λ_ h'=>h'=h:=by
 refine Ec.bu (aI (by decide)) RI ?_;unfold Zi;have hw:IntKind.i64.wrap (0+1)=1:=by decide
 simp only[go_sem,Nat.reduceEqDiff,Nat.reduceAdd,reduceCtorEq,hw];refine fg (λ_ fr h'=>h'=h/\fr.get 8=some (.int .i64 1)/\fr.get 2=some (.int .i64 0)) 0 ?_ ?_
 .exact⟨rfl,by simp[T.ag],by simp[T.ag]⟩
 rintro d fr h' ⟨rfl,t8,t2⟩;unfold FJ;simp only[go_sem,Nat.reduceEqDiff,Int.reduceLT,reduceCtorEq,t8,t2]
def ac8 (f:ae)(hf:f.flat=true)(h:aa):Ec E2 62 [.af,.int .i64 0,.int .i64 0,.int .i64 0,f] h λ_ h'=>h'=h:=by
 refine Ec.bu (aI (by decide)) RK ?_;unfold Zl;simp only[go_sem,Nat.reduceAdd];refine fg (λ_ fr h'=>h'=h/\fr.get 0=some .af/\fr.get 1=some (.int .i64 0)/\fr.get 2=some (.int .i64 0)/\fr.get 4=some f) 0 ?_ ?_
 .exact⟨rfl,by simp[T.ag],by simp[T.ag],by simp[T.ag],by simp[T.ag]⟩
 rintro d fr h' ⟨rfl,t0,t1,t2,t4⟩;unfold F';have hw:IntKind.i64.wrap (0-0)=0:=by decide
 simp only[go_sem,Nat.reduceEqDiff,Int.reduceLT,reduceCtorEq,t0,t1,t2,t4,hw];refine⟨by decide,?_⟩;refine(acx f hf h').mono ?_;rintro r h1 rfl;simp only[go_sem]
def PK (f:ae)(hf:f.flat=true)(h:aa):Ec E2 40 [.af,f] h λ_ h'=>h'=h:=by
 refine Ec.bu (aI (by decide)) WI ?_;unfold aeS;have hw:IntKind.u64.wrap 0=0:=by decide
 simp only[go_sem,Nat.reduceEqDiff,Nat.reduceAdd,reduceCtorEq,hw];refine⟨by decide,?_⟩;refine(aaG h).mono ?_;rintro r h1 ⟨rfl,rfl⟩;simp only[go_sem,Nat.reduceEqDiff,reduceCtorEq];refine⟨by decide,?_⟩;refine(ac8 f hf h1).mono ?_;rintro r h2 rfl;simp only[go_sem]
def Hv (M:List aw)(c:Nat):List cI:=match M[c]? with
 |some x=>x.ak
 |none=>[]
def CU (M:List aw)(c:Nat):Int:=match M[c]? with
 |some x=>x.fin
 |none=>-1
def rF (M:List aw)(od:List Nat)(j:Nat):List dH:=match od[j]? with
 |some c=>(Hv M c).map λe=>⟨(j:Int),(od.idxOf e.to:Nat),e.letter,e.cost⟩
 |none=>[]
def fQ (M:List aw)(od:List Nat)(i:Nat):List dH:=(List.range i).flatMap (rF M od)
def oE (M:List aw)(od:List Nat)(j:Nat):List jU:=match od[j]? with
 |some c=>if 0<=CU M c then[⟨(j:Int),CU M c⟩] else[]
 |none=>[]
def fx (M:List aw)(od:List Nat)(i:Nat):List jU:=(List.range i).flatMap (oE M od)
def rG (M:List aw)(od:List Nat)(i:Nat):fQ M od (i+1)=fQ M od i++rF M od i:=by
 unfold fQ;rw[List.range_succ,List.flatMap_append];simp
def nL (M:List aw)(od:List Nat)(i:Nat):fx M od (i+1)=fx M od i++oE M od i:=by
 unfold fx;rw[List.range_succ,List.flatMap_append];simp
def tY {M:List aw}{od:List Nat}{j:Nat}{x:dH}:x∈rF M od j↔∃(c:Nat)(y:aw)(e:cI),od[j]?=some c/\M[c]?=some y/\e∈y.ak/\x=⟨(j:Int),(od.idxOf e.to:Nat),e.letter,e.cost⟩:=by
 unfold rF;cases hc:od[j]? with
 |none=>simp
 |some c =>
  simp only[qQB];unfold Hv;constructor
  .rintro⟨e,he,rfl⟩;cases hy:M[c]? with
   |none=>rw[hy]at he;cases he
   |some y=>rw[hy]at he;exact⟨c,y,e,rfl,hy,he,rfl⟩
  .rintro⟨c',y,e,h1,h2,h3,rfl⟩;cases h1;refine⟨e,?_,rfl⟩;rw[h2];exact h3
def zn {M:List aw}{od:List Nat}{i:Nat}{x:dH}:x∈fQ M od i↔∃(j c:Nat)(y:aw)(e:cI),j<i/\od[j]?=some c/\M[c]?=some y/\e∈y.ak/\x=⟨(j:Int),(od.idxOf e.to:Nat),e.letter,e.cost⟩:=by
 unfold fQ;rw[List.mem_flatMap];constructor
 .rintro⟨j,hj,hx⟩;obtain⟨c,y,e,h⟩:=tY.1 hx;exact⟨j,c,y,e,qJX.1 hj,h⟩
 .rintro⟨j,c,y,e,hj,h⟩;exact⟨j,qJX.2 hj,tY.2 ⟨c,y,e,h⟩⟩
def zY {M:List aw}{od:List Nat}{i:Nat}{x:jU}:x∈fx M od i↔∃(j c:Nat)(y:aw),j<i/\od[j]?=some c/\M[c]?=some y/\0<=y.fin/\x=⟨(j:Int),y.fin⟩:=by
 unfold fx;rw[List.mem_flatMap];constructor
 .rintro⟨j,hj,hx⟩;unfold oE at hx;cases hc:od[j]? with
  |none=>rw[hc]at hx;cases hx
  |some c =>
   rw[hc]at hx;simp only at hx;split at hx
   .rename_i h0;unfold CU at h0 hx;cases hy:M[c]? with
    |none=>rw[hy]at h0;simp at h0
    |some y =>
     rw[hy]at h0 hx;simp only[qZN]at hx;exact⟨j,c,y,qJX.1 hj,hc,hy,h0,hx⟩
   .cases hx
 .rintro⟨j,c,y,hj,hc,hy,h0,rfl⟩;refine⟨j,qJX.2 hj,?_⟩;unfold oE CU;rw[hc];simp only[hy];rw[if_pos h0];simp
def IQ (x y:dH):Prop:=¬(x.fr=y.fr/\x.l=y.l)
def zm {M:List aw}(mL:∀x,x∈M->x.ak.Pairwise (λx y=>x.letter<y.letter))(od:List Nat):∀i,(fQ M od i).Pairwise IQ
 |0=>by unfold fQ;simp
 |i+1=>by
  rw[rG,List.pairwise_append];refine⟨zm mL od i,?_,λx hx y hy=>?_⟩
  .unfold rF;cases od[i]? with
   |none=>exact .nil
   |some c =>
    simp only;rw[qKB];unfold Hv;cases hy:M[c]? with
    |none=>exact .nil
    |some y=>exact(mL y (qQK hy)).imp λ{a b} h=>by rintro⟨_,h2⟩;simp only at h2;omega
  .obtain⟨j,c,z,e,hj,_,_,_,rfl⟩:=zn.1 hx;obtain⟨c',z',e',_,_,_,rfl⟩:=tY.1 hy;rintro⟨h1,_⟩;simp only at h1;omega
def zX (M:List aw)(od:List Nat):∀i,(fx M od i).Pairwise (λx y=>x.st<y.st)
 |0=>by unfold fx;simp
 |i+1=>by
  rw[nL,List.pairwise_append];refine⟨zX M od i,?_,λx hx y hy=>?_⟩
  .unfold oE;cases od[i]? with
   |none=>exact .nil
   |some c =>
    simp only;split
    .exact List.pairwise_singleton _ _
    .exact .nil
  .obtain⟨j,c,z,hj,_,_,_,rfl⟩:=zY.1 hx;unfold oE at hy;cases hc:od[i]? with
   |none=>rw[hc]at hy;cases hy
   |some c' =>
    rw[hc]at hy;simp only at hy;split at hy
    .simp only[qZN]at hy;subst hy;show(j:Int)<(i:Int);omega
    .cases hy
def Ao {od:List Nat}(kv:od.Nodup){j c:Nat}(h:od[j]?=some c):od.idxOf c=j:=by
 obtain⟨hj,rfl⟩:=qQZ.1 h;exact List.Nodup.idxOf_getElem kv j hj
def N7 {od:List Nat}{c:Nat}(h:c∈od):od[od.idxOf c]?=some c:=by
 have hl:=List.idxOf_lt_length_of_mem h;rw[qQW hl];congr 1;exact List.getElem_idxOf hl
def JL {M:List aw}{st:Nat}{L:ff}(N:MV M st L){dp:Nat->Nat}{pa:Nat->List Nat}(Xn:∀c,c<M.length->iI (aF M c) (dp c))(acm:∀c,c<M.length->ID M st c (pa c))
 {od:List Nat} (kv:od.Nodup) (eE:∀c,c∈od↔c<M.length) (dL:od.Pairwise (λx y=>¬(dp x<dp y\/dp y=dp x/\lexB (pa y) (pa x)=true))) {aW:List dH} (tK:aW.Perm (fQ M od od.length)) (CM:aW.Pairwise (λx y=>kX y x=false)) :
 jZ L ⟨(od.length:Int),aW,fx M od od.length⟩:=by
 have agK:∀c d,c<M.length->d<M.length->pa c=pa d->c=d:=by
  intro c d hc hd h;obtain⟨k,hk⟩:=(acm c hc).1;obtain⟨k',VA⟩:=(acm d hd).1;rw[h,VA]at hk;cases hk;rfl
 refine N.form (dep:=dp) (path:=pa) Xn acm (order:=od) eE ?_ rfl (λx=>?_) ?_ (λx=>?_) (zX M od _)
 .have h2:od.Pairwise (λx y=>x≠y):=qVZ.1 kv;refine(dL.and h2).imp_of_mem λ{c d} hc hd h=>?_;obtain⟨h1,h2⟩:=h;have hc:=(eE c).1 hc;have hd:=(eE d).1 hd;unfold kLt;by_cases h3:dp d<dp c
  .exact .inl h3
  .have h4:dp c=dp d:=by
    have:¬dp c<dp d:=λh=>h1 (.inl h);omega
   refine .inr ⟨h4,?_⟩;cases h5:lexB (pa c) (pa d) with
   |true=>rfl
   |false =>
    have h6:lexB (pa d) (pa c)=false:=by
     cases h:lexB (pa d) (pa c) with
     |false=>rfl
     |true=>exact absurd (.inr ⟨h4.symm,h⟩) h1
    exact absurd (agK c d hc hd (si _ _ h5 h6)) h2
 .rw[tK.mem_iff,zn];constructor
  .rintro⟨j,c,y,e,hj,h1,h2,h3,rfl⟩
   have rq:e.to<M.length:=by
    have:=N.low c y e h2 h3;have:=(qQZ.1 h2).1;omega
   exact⟨j,od.idxOf e.to,c,y,e,h1,h2,h3,N7 ((eE _).2 rq),rfl⟩
  .rintro⟨i,j,c,y,e,h1,h2,h3,h4,rfl⟩;refine⟨i,c,y,e,(qQZ.1 h1).1,h1,h2,h3,?_⟩;rw[Ao kv h4]
 .have hk:aW.Pairwise IQ:=(tK.pairwise_iff (λ{x y} h=>λ⟨a,b⟩=>h ⟨a.symm,b.symm⟩)).2 (zm N.nq od _);refine(CM.and hk).imp λ{x y} h=>?_;obtain⟨h1,h2⟩:=h;unfold IQ at h2;unfold kX at h1 ⊢;simp only[decide_eq_false_iff_not,decide_eq_true_eq]at h1 ⊢;omega
 .rw[zY];constructor
  .rintro⟨j,c,y,hj,h1,h2,h3,rfl⟩;exact⟨j,c,y,h1,h2,h3,rfl⟩
  .rintro⟨i,c,y,h1,h2,h3,rfl⟩;exact⟨i,c,y,(qQZ.1 h1).1,h1,h2,h3,rfl⟩
attribute [local go_sem] cN cL
attribute [local go_sem] dK
section
variable{hv:aa}{M:List aw}{st ob pb p7 p4 sb:Nat}
def mZ (m:Nat)(us:List (List Nat)):List ae:=us.map ae.str++List.replicate (m-us.length) (.str [])
def ry (m n:Nat):List ae:=(List.range m).map λj=>ae.int .i64 (if j<n then(j:Int) else 0)
structure F0 (hv:aa)(M:List aw)(st ob pb p7 n:Nat)(us:List (List Nat))(h:aa):Prop where
 hle:aU hv h
 o:h.get ob=some (.cells (ry M.length n) 3)
 p:h.get pb=some (.cells (mZ M.length us) 9)
 b:h.get p7=some (.cells [.slice pb 0 M.length M.length true] 32)
 len:us.length=n
 way:∀j u,us[j]?=some u->ID M st j u
 lt:hv.next<=ob/\ob<h.next/\hv.next<=pb/\pb<h.next/\hv.next<=p7/\p7<h.next
def Ut (m n:Nat)(hn:n<m):(ry m n).set n (.int .i64 (n:Int))=ry m (n+1):=by
 unfold ry;apply qWV
 .simp
 .intro j h1 h2;rw[List.getElem_set];simp only[List.getElem_map,qXJ];by_cases e:n=j
  .subst e;simp
  .rw[if_neg e];congr 1;by_cases e2:j<n
   .rw[if_pos e2,if_pos (by omega)]
   .rw[if_neg e2,if_neg (by omega)]
def KS (m:Nat)(us:List (List Nat))(u:List Nat)(hn:us.length<m):(mZ m us).set us.length (.str u)=mZ m (us++[u]):=by
 unfold mZ;rw[List.set_append_right _ _ (by simp)];have:m-us.length=(m-(us++[u]).length)+1:=by simp;omega
 rw[this,qVB];simp
def KR (m:Nat)(us:List (List Nat))(hn:us.length<=m):(mZ m us).length=m:=by unfold mZ;simp;omega
def Xc {Qn Qr:Fr->aa->Prop}{Qx:Nat->Fr->aa->Prop}{hin:aa}{nv:ae}(hhv:aU hin hv){dv:ae}(hN:fO hv dv M)(ie:Fk M)(mL:∀x,x∈M->x.ak.Pairwise (λx y=>x.letter<y.letter))(GF:∀x e,x∈M->e∈x.ak->e.letter<256)(hM:M.length<=1000)(wG:st<M.length)(hr:∀c,c<M.length->E8 M c st)
 (g4:hv.get p4=some (.cells [.ptr sb 0] 113)) (hp4:p4<hv.next) (gs:aN hv sb 3=some dv) (Qk:sb<hv.next) (hd:ob≠pb/\ob≠p7/\pb≠p7) (fr:Fr) (h:aa) (F:F0 hv M st ob pb p7 0 [] h) (p2:Nat)
 (t2:fr.get 2=some (.ptr p2 0)) (t4:fr.get 4=some (.ptr p4 0)) (t5:fr.get 5=some (.int .i64 (st:Int))) (t6:fr.get 6=some (.slice ob 0 M.length M.length true)) (t7:fr.get 7=some (.ptr p7 0)) (t58:fr.get 58=some (.int .i64 (M.length:Int))) (t59:fr.get 59=some (.int .i64 0))
 (hq:∀fr h' us,fr.get 2=some (.ptr p2 0)->fr.get 4=some (.ptr p4 0)->fr.get 6=some (.slice ob 0 M.length M.length true)->fr.get 7=some (.ptr p7 0)->F0 hv M st ob pb p7 M.length us h'->Qx 0 fr h'):kI Tryz.prog E2 (.loop zE) fr h Qn Qx Qr:=by
 refine kf (λdd fr h'=>∃(n:Nat)(us:List (List Nat)),dd+n=M.length/\fr.get 59=some (.int .i64 (n:Int))/\fr.get 2=some (.ptr p2 0)/\fr.get 4=some (.ptr p4 0)/\fr.get 5=some (.int .i64 (st:Int))/\fr.get 6=some (.slice ob 0 M.length M.length true)/\fr.get 7=some (.ptr p7 0)/\fr.get 58=some (.int .i64 (M.length:Int))/\F0 hv M st ob pb p7 n us h') M.length ?_ ?_
 .exact⟨0,[],by omega,t59,t2,t4,t5,t6,t7,t58,F⟩
 clear t59 t2 t4 t5 t6 t7 t58 F;rintro dd fr h ⟨n,us,yG,t59,t2,t4,t5,t6,t7,t58,F⟩;unfold zE;by_cases hc:(n:Int)<(M.length:Int)
 .obtain⟨a1,a2,a3,a4,a5,a6⟩:=F.lt;obtain⟨d1,d2,d3⟩:=hd
  have XD:∀h' Q,fI 1 (.slice ob 0 M.length M.length true) (.int .i64 (n:Int)) h' Q=Q (.ptr ob n) h':=λh' Q=>by
   rw[dj rfl (by omega)];simp
  have hpx:∀h' Q,fI 1 (.slice pb 0 M.length M.length true) (.int .i64 (n:Int)) h' Q=Q (.ptr pb n) h':=λh' Q=>by
   rw[dj rfl (by omega)];simp
  have cS:=aD (o:=n) (n:=1) (vs:=[.int .i64 (n:Int)]) F.o rfl (by simp[ry];omega);rw[bW,Ut _ _ (by omega)]at cS;have o1:∀b,b≠ob->(h.put ob (.cells (ry M.length (n+1)) 3)).get b=h.get b:=λb hb=>aa.ah _ _ (Ne.symm hb);have q7:aN (h.put ob (.cells (ry M.length (n+1)) 3)) p7 0=some (.slice pb 0 M.length M.length true):=by rw[cG (o1 p7 (Ne.symm d2)),aq F.b];rfl
  have q4:aN (h.put ob (.cells (ry M.length (n+1)) 3)) p4 0=some (.ptr sb 0):=by rw[cG (o1 p4 (by omega)),F.hle.aN hp4,aq g4];rfl
  have qs:aN (h.put ob (.cells (ry M.length (n+1)) 3)) sb 3=some dv:=by rw[cG (o1 sb (by omega)),F.hle.aN Qk];exact gs
  have bh:aU hv (h.put ob (.cells (ry M.length (n+1)) 3)):=F.hle.put a1 _;have go1:(h.put ob (.cells (ry M.length (n+1)) 3)).get ob=some (.cells (ry M.length (n+1)) 3):=aa.aj _ _ _;have gn1:(h.put ob (.cells (ry M.length (n+1)) 3)).next=h.next:=rfl;simp only[go_sem,Nat.reduceEqDiff,t59,t4,t5,t6,t7,t58,hc,XD,cS,q7,q4,qs];generalize h.put ob (.cells (ry M.length (n+1)) 3)=h1 at o1 q7 q4 qs bh go1 gn1 ⊢;refine⟨by decide,?_⟩;have agd:aU hv (h1.skip 11):=bh.skip 11;refine(W6 (hin:=hv) hN ie mL GF hM (to:=n) (by omega) wG (hr n (by omega)) agd).mono ?_;rintro r h2 ⟨u,rfl,hw,hub,J',aS⟩;have GK:h1.next+11<=h2.next:=aS.next;have uP:∀b,b<h1.next->h2.get b=h1.get b:=λb hb=>aS.get b (by show b<h1.next+11;omega);have gp2:h2.get pb=some (.cells (mZ M.length us) 9):=(uP pb (by omega)).trans ((o1 pb (Ne.symm d1)).trans F.p);have gb2:h2.get p7=some (.cells [.slice pb 0 M.length M.length true] 32):=(uP p7 (by omega)).trans ((o1 p7 (Ne.symm d2)).trans F.b);have go2:h2.get ob=some (.cells (ry M.length (n+1)) 3):=(uP ob (by omega)).trans go1;have q72:aN h2 p7 0=some (.slice pb 0 M.length M.length true):=by rw[aq gb2];rfl
  have yb:=aD (o:=n) (n:=1) (vs:=[.str u]) gp2 rfl (by rw[KR _ _ (by rw[F.len];omega)];omega);rw[bW,<-F.len,KS _ _ _ (by rw[F.len];omega),F.len]at yb;have yN:IntKind.i64.wrap ((n:Int)+1)=((n+1:Nat):Int):=by rw[wrap_i64 (by omega) (by omega)];push_cast;rfl
  have y7:dz 20 (.slice pb 0 M.length M.length true) (.slice pb 0 M.length M.length true)=true:=by
   show(and (Nat.beq pb pb) _)=true;simp[aO]
  simp only[go_sem,Nat.reduceEqDiff,t59,t2,t4,t5,t6,t7,t58,q72,y7,hpx,yb,yN];refine⟨dd-1,by omega,n+1,us++[u],by omega,rfl,⟨⟨by show hv.next<=h2.next;omega,λb hb=>?_⟩,?_,aa.aj _ _ _,?_,by simp[F.len],λj v hj=>?_,⟨a1,by show ob<h2.next;omega,a3,by show pb<h2.next;omega,a5,by show p7<h2.next;omega⟩⟩⟩
  .have:=bh.next;rw[aa.ah _ _ (by omega),uP b (by omega)];exact bh.get b hb
  .rw[aa.ah _ _ (Ne.symm d1)];exact go2
  .rw[aa.ah _ _ d3];exact gb2
  .rcases lW _ _ _ _ hj with hj|⟨rfl,rfl⟩
   .exact F.way j v hj
   .rw[F.len];exact hw
 .simp only[go_sem,reduceCtorEq,t59,t58,hc];have hi:n=M.length:=by omega
  subst hi;exact hq _ _ us (by simp[T.ag,t2]) (by simp[T.ag,t4]) (by simp[T.ag,t6]) (by simp[T.ag,t7]) F
def km (m:Nat)(od:List Nat)(i:Nat):List ae:=(List.range m).map λc=>ae.int .i64 (if od.idxOf c<i then(od.idxOf c:Int) else 0)
def KU {m:Nat}{od:List Nat}(kv:od.Nodup){i c:Nat}(hc:od[i]?=some c)(LY:c<m):(km m od i).set c (.int .i64 (i:Int))=km m od (i+1):=by
 have hic:=Ao kv hc;unfold km;apply qWV
 .simp
 .intro j h1 h2;rw[List.getElem_set];simp only[List.getElem_map,qXJ];by_cases e:c=j
  .subst e;simp[hic]
  .rw[if_neg e];congr 1;by_cases e2:od.idxOf j<i
   .rw[if_pos e2,if_pos (by omega)]
   .by_cases e3:od.idxOf j<i+1
    .have e4:od.idxOf j=i:=by omega
     have DT:=(qQZ.1 hc).1
     have:od[i]?=some j:=by
      rw[<-e4];have hl:od.idxOf j<od.length:=by omega
      rw[qQW hl];congr 1;exact List.getElem_idxOf hl
     rw[hc]at this;cases this;exact absurd rfl e
    .rw[if_neg e2,if_neg e3]
def Xd {Qn Qr:Fr->aa->Prop}{Qx:Nat->Fr->aa->Prop}{od:List Nat}(kv:od.Nodup)(eE:∀c,c∈od->c<M.length)(J0:od.length=M.length)(hM:M.length<=1000){ob lb:Nat}{hs:aa}(GN:ob<hs.next)(go:hs.get ob=some (.cells (od.map λ(c:Nat)=>ae.int .i64 (c:Int)) 3))(fr:Fr)(h:aa)(hle:aU hs h)(GF:hs.next<=lb/\lb<h.next)(gl:h.get lb=some (.cells (km M.length od 0) 3))(p2:Nat)
 (t2:fr.get 2=some (.ptr p2 0)) (t4:fr.get 4=some (.ptr p4 0)) (t6:fr.get 6=some (.slice ob 0 M.length M.length true)) (t9:fr.get 9=some (.slice lb 0 M.length M.length true)) (t83:fr.get 83=some (.slice ob 0 M.length M.length true)) (t84:fr.get 84=some (.int .i64 (M.length:Int))) (t85:fr.get 85=some (.int .i64 0))
 (hq:∀fr h',fr.get 2=some (.ptr p2 0)->fr.get 4=some (.ptr p4 0)->fr.get 6=some (.slice ob 0 M.length M.length true)->fr.get 9=some (.slice lb 0 M.length M.length true)->aU hs h'->lb<h'.next->h'.get lb=some (.cells (km M.length od M.length) 3)->Qx 2 fr h'):kI Tryz.prog E2 (.loop zF) fr h Qn Qx Qr:=by
 refine kf (λdd fr h'=>∃(i:Nat),dd+i=M.length/\fr.get 85=some (.int .i64 (i:Int))/\fr.get 2=some (.ptr p2 0)/\fr.get 4=some (.ptr p4 0)/\fr.get 6=some (.slice ob 0 M.length M.length true)/\fr.get 9=some (.slice lb 0 M.length M.length true)/\fr.get 83=some (.slice ob 0 M.length M.length true)/\fr.get 84=some (.int .i64 (M.length:Int))/\aU hs h'/\lb<h'.next/\h'.get lb=some (.cells (km M.length od i) 3)) M.length ?_ ?_
 .exact⟨0,by omega,t85,t2,t4,t6,t9,t83,t84,hle,GF.2,gl⟩
 clear t85 t2 t4 t6 t9 t83 t84 hle gl;rintro dd fr h1 ⟨i,yG,t85,t2,t4,t6,t9,t83,t84,hle,Ad,gl⟩;unfold zF;by_cases hc:(i:Int)<(M.length:Int)
 .obtain⟨c,kE⟩:∃c,od[i]?=some c:=⟨_,qQW (by omega)⟩;have LY:=eE c (qQK kE)
  have XD:∀h' Q,fI 1 (.slice ob 0 M.length M.length true) (.int .i64 (i:Int)) h' Q=Q (.ptr ob i) h':=λh' Q=>by
   rw[dj rfl (by omega)];simp
  have hlx:∀h' Q,fI 1 (.slice lb 0 M.length M.length true) (.int .i64 (c:Int)) h' Q=Q (.ptr lb c) h':=λh' Q=>by
   rw[dj rfl (by omega)];simp
  have lo:aN h1 ob i=some (.int .i64 (c:Int)):=by rw[hle.aN GN,aq go,qQX,kE];rfl
  have cS:=aD (o:=c) (n:=1) (vs:=[.int .i64 (i:Int)]) gl rfl (by simp[km];omega);rw[bW,KU kv kE LY]at cS;have yN:IntKind.i64.wrap ((i:Int)+1)=((i+1:Nat):Int):=by rw[wrap_i64 (by omega) (by omega)];push_cast;rfl
  simp only[go_sem,Nat.reduceEqDiff,t85,t2,t4,t6,t9,t83,t84,hc,XD,lo,hlx,cS,yN];exact⟨dd-1,by omega,i+1,by omega,rfl,hle.put GF.1 _,Ad,aa.aj _ _ _⟩
 .simp only[go_sem,reduceCtorEq,t85,t84,hc];have hi:i=M.length:=by omega
  subst hi;exact hq _ _ (by simp[T.ag,t2]) (by simp[T.ag,t4]) (by simp[T.ag,t6]) (by simp[T.ag,t9]) hle Ad gl
end
section
variable{hv hs:aa}{M:List aw}{od:List Nat}{p12 p4 p2 sb ob lb:Nat}{dv:ae}
structure FB (hs:aa)(p12 m:Nat)(acc:List dH)(eds:List jU)(h:aa):Prop where
 next:hs.next<=h.next
 uS:∀b,b<hs.next->b≠p12->h.get b=hs.get b
 box:∃va ve,h.get p12=some (.cells [.int .i64 (m:Int),va,ve] 25)/\dO h 4 52 va (acc.map aX).flatten/\dO h 2 56 ve (eds.map gF).flatten/\(∀b,aM va b->hs.next<=b/\¬aM ve b)/\(∀b,aM ve b->hs.next<=b)/\(acc=[]->va=.af)
def uY (l:List dH):(l.map aX).flatten.length=l.length*4:=by
 induction l with
 |nil=>rfl
 |cons a l ih=>rw[qZW,qZA,qQM,ih];simp[aX];omega
def Sr (l:List jU):(l.map gF).flatten.length=l.length*2:=by
 induction l with
 |nil=>rfl
 |cons a l ih=>rw[qZW,qZA,qQM,ih];simp[gF];omega
def Xe {Qn Qr:Fr->aa->Prop}{Qx:Nat->Fr->aa->Prop}(ie:Fk M)(eE:∀c,c<M.length->c∈od)(J0:od.length=M.length)(hM:M.length<=1000){c i:Nat}{x:aw}(hx:M[c]?=some x)(tu:x.ak.length<=256)(ev:ae)(uO:cg hv 3 ev (x.ak.map aK))(hhs:aU hv hs)(hvp:hv.next<=p12)
 (agG:p12<hs.next) (GF:lb<hs.next/\lb≠p12) (gl:hs.get lb=some (.cells (km M.length od M.length) 3)) (acc:List dH) (eds:List jU) (Oc:acc.length<=256000) (fr:Fr) (h:aa) (F:FB hs p12 M.length acc eds h)
 (t2:fr.get 2=some (.ptr p2 0)) (t4:fr.get 4=some (.ptr p4 0)) (t6:fr.get 6=some (.slice ob 0 M.length M.length true)) (t9:fr.get 9=some (.slice lb 0 M.length M.length true)) (t12:fr.get 12=some (.ptr p12 0)) (t13:fr.get 13=some (.int .i64 (i:Int))) (t14:fr.get 14=some (.int .i64 (c:Int))) (t98:fr.get 98=some (.slice ob 0 M.length M.length true)) (t99:fr.get 99=some (.int .i64 (M.length:Int))) (t100:fr.get 100=some (.int .i64 (i:Int)))
 (t112:fr.get 112=some ev) (t113:fr.get 113=some (.int .i64 (x.ak.length:Int))) (t114:fr.get 114=some (.int .i64 0))
 (hq:∀fr h',fr.get 2=some (.ptr p2 0)->fr.get 4=some (.ptr p4 0)->fr.get 6=some (.slice ob 0 M.length M.length true)->fr.get 9=some (.slice lb 0 M.length M.length true)->fr.get 12=some (.ptr p12 0)->fr.get 13=some (.int .i64 (i:Int))->fr.get 14=some (.int .i64 (c:Int))->fr.get 98=some (.slice ob 0 M.length M.length true)->fr.get 99=some (.int .i64 (M.length:Int))->fr.get 100=some (.int .i64 (i:Int)) ->
  FB hs p12 M.length (acc++x.ak.map λe=>⟨(i:Int),(od.idxOf e.to:Nat),e.letter,e.cost⟩) eds h'->Qx 6 fr h'):kI Tryz.prog E2 (.loop zG) fr h Qn Qx Qr:=by
 have kM:=(qQZ.1 hx).1
 refine kf (λdd fr h'=>∃(k:Nat),dd+k=x.ak.length/\fr.get 114=some (.int .i64 (k:Int))/\fr.get 2=some (.ptr p2 0)/\fr.get 4=some (.ptr p4 0)/\fr.get 6=some (.slice ob 0 M.length M.length true)/\fr.get 9=some (.slice lb 0 M.length M.length true)/\fr.get 12=some (.ptr p12 0)/\fr.get 13=some (.int .i64 (i:Int))/\fr.get 14=some (.int .i64 (c:Int))/\fr.get 98=some (.slice ob 0 M.length M.length true)/\fr.get 99=some (.int .i64 (M.length:Int))/\fr.get 100=some (.int .i64 (i:Int))/\fr.get 112=some ev/\fr.get 113=some (.int .i64 (x.ak.length:Int)) /\
  FB hs p12 M.length (acc++(x.ak.take k).map λe=>⟨(i:Int),(od.idxOf e.to:Nat),e.letter,e.cost⟩) eds h') x.ak.length ?_ ?_
 .exact⟨0,by omega,t114,t2,t4,t6,t9,t12,t13,t14,t98,t99,t100,t112,t113,by simpa using F⟩
 clear t114 t2 t4 t6 t9 t12 t13 t14 t98 t99 t100 t112 t113 F;rintro dd fr h ⟨k,yG,t114,t2,t4,t6,t9,t12,t13,t14,t98,t99,t100,t112,t113,F⟩;unfold zG;by_cases hc:(k:Int)<(x.ak.length:Int)
 .obtain⟨e,he⟩:∃e,x.ak[k]?=some e:=⟨_,qQW (by omega)⟩;have JT:=qQK he;have rq:=ie c x e hx JT;have nO:=F.next;obtain⟨va,ve,gb,ova,ove,P9,Za,bnl⟩:=F.box;have hhn:=hhs.next;have JX:aU hv h:=⟨by omega,λb hb=>(F.uS b (by omega) (by omega)).trans (hhs.get b hb)⟩;have akt:cg h 3 ev (x.ak.map aK):=uO.mono JX;obtain⟨bb,o,di,fU⟩:=akt.ix (j:=k) (x:=aK e) (by rw[qQX,he];rfl)
  have Vs:eI h bb o 3=some (aK e):=by
   have:=di.eI (i:=0) (n:=3) (by simp[aK]);simpa[aK] using this
  have ib:over [ae.int .u8 0,.int .i64 0,.int .i64 0] 0 (aK e)=aK e:=rfl;have jX:(aK e).length=3:=rfl;have Tn:(aK e)[0]?=some (.int .u8 (e.letter:Int)):=rfl;have Fb:(aK e)[1]?=some (.int .i64 (e.to:Int)):=rfl;have pK:(aK e)[2]?=some (.int .i64 e.cost):=rfl;have bh:aU h (h.push (.cells (aK e) 124)):=(aU.refl h).push _;have yK:(h.push (.cells (aK e) 124)).next=h.next+1:=rfl;have e0:aN (h.push (.cells (aK e) 124)) h.next 0=some (.int .u8 (e.letter:Int)):=by rw[aH];rfl
  have e1:aN (h.push (.cells (aK e) 124)) h.next 1=some (.int .i64 (e.to:Int)):=by rw[aH];rfl
  have e2:aN (h.push (.cells (aK e) 124)) h.next 2=some (.int .i64 e.cost):=by rw[aH];rfl
  have Xm:p12<h.next:=by omega
  have v1:aN (h.push (.cells (aK e) 124)) p12 1=some va:=by rw[bh.aN Xm,aq gb];rfl
  have gl1:(h.push (.cells (aK e) 124)).get lb=some (.cells (km M.length od M.length) 3):=(bh.get lb (by omega)).trans ((F.uS lb GF.1 GF.2).trans gl)
  have akH:od.idxOf e.to<M.length:=by
   have:=List.idxOf_lt_length_of_mem (eE e.to (by omega));omega
  have pl:aN (h.push (.cells (aK e) 124)) lb e.to=some (.int .i64 (od.idxOf e.to:Nat)):=by
   rw[aq gl1];unfold km;rw[qQX,qJY (by omega)];simp[akH]
  have hlx:∀h' Q,fI 1 (.slice lb 0 M.length M.length true) (.int .i64 (e.to:Int)) h' Q=Q (.ptr lb e.to) h':=λh' Q=>by
   rw[dj rfl (by omega)];simp
  simp only[go_sem,Nat.reduceEqDiff,Nat.reduceAdd,t114,t12,t112,t113,hc,fU .i64 (k:Int) h,Vs,ib,jX]
  (try simp only[go_sem,Nat.reduceEqDiff,Nat.reduceAdd,Nat.reduceLeDiff,e0,e1,e2,v1,hlx,pl,t9,t13])
  generalize h.push (.cells (aK e) 124)=h1 at bh yK e0 e1 e2 v1 gl1 pl ⊢;obtain⟨hA,Qd⟩:∃y,y=aa.put ⟨h.next+1+17,(h1.skip 17).t⟩ (h.next+1+13) (aE.cells [ae.int IntKind.i64 ↑i,ae.int IntKind.i64 ↑(List.idxOf e.to od),ae.int IntKind.u8 ↑e.letter,ae.int IntKind.i64 e.cost] 52):=⟨_,rfl⟩;have nA:hA.next=h.next+18:=by rw[Qd];rfl
  have gA:hA.get (h.next+1+13)=some (.cells [.int .i64 (i:Int),.int .i64 (od.idxOf e.to:Nat),.int .u8 (e.letter:Int),.int .i64 e.cost] 52):=by rw[Qd];exact aa.aj _ _ _
  have oA:∀b,b<h.next->hA.get b=h.get b:=λb hb=>by
   rw[Qd,aa.ah _ _ (by omega)];exact bh.get b hb
  rw[<-Qd];clear Qd;have aja:∀b,aM va b->b<h.next:=λb hb=>ova.rm hb;have aeB:∀b,aM ve b->b<h.next:=λb hb=>ove.rm hb
  have anX:((x.ak.take k).map λe=>(⟨(i:Int),(od.idxOf e.to:Nat),e.letter,e.cost⟩:dH)).length<=256:=by
   rw[qQD,qWL];omega
  have Ag:(((acc++(x.ak.take k).map λe=>(⟨(i:Int),(od.idxOf e.to:Nat),e.letter,e.cost⟩:dH)).map aX).flatten).length+1<=1073741824:=by
   rw[uY,qQM];omega
  refine QP (ova.frame (h':=hA) (by omega) λb hb=>oA b (aja b hb)) (by omega) gA rfl (by decide) (by simp[ae.flat]) Ag ?_;intro v' h4 JZ JY rn SS;have Vp:h4.get p12=some (.cells [.int .i64 (M.length:Int),va,ve] 25):=(rn p12 (by omega) λhb=>by have:=(P9 _ hb).1;omega).trans ((oA _ Xm).trans gb);have gY:=aD (o:=1) (n:=1) (vs:=[v']) Vp rfl (by simp);rw[bW]at gY;have yN:IntKind.i64.wrap ((k:Int)+1)=((k+1:Nat):Int):=by rw[wrap_i64 (by omega) (by omega)];push_cast;rfl
  simp only[go_sem,Nat.reduceEqDiff,t114,t2,t4,t6,t9,t12,t13,t14,t98,t99,t100,t112,t113,bM JZ.lT,gY,yN];have yF:∀b,aM v' b->b=h.next+18:=λb hb=>by have:=fu SS hb;omega
  have o5:∀b,b≠p12->(h4.put p12 (.cells ([.int .i64 (M.length:Int),va,ve].set 1 v') 25)).get b=h4.get b:=λb hb=>aa.ah _ _ (Ne.symm hb);refine⟨dd-1,by omega,k+1,by omega,rfl,⟨by show hs.next<=h4.next;omega,λb hb dV=>?_,v',ve,aa.aj _ _ _,?_,?_,λb hb=>?_,Za,λhn=>?_⟩⟩
  .rw[o5 b dV,rn b (by omega) (λiB=>by have:=(P9 b iB).1;omega),oA b (by omega)];exact F.uS b hb dV
  .have:x.ak.take (k+1)=x.ak.take k++[e]:=by rw[qZD (by omega),(qQZ.1 he).2]
   have e2:(acc++(x.ak.take k++[e]).map λe=>(⟨(i:Int),(od.idxOf e.to:Nat),e.letter,e.cost⟩:dH))=(acc++(x.ak.take k).map λe=>(⟨(i:Int),(od.idxOf e.to:Nat),e.letter,e.cost⟩:dH))++[⟨(i:Int),(od.idxOf e.to:Nat),e.letter,e.cost⟩]:=by
    rw[qJW,<-qKY];rfl
   rw[this,e2,qJW,List.flatten_append];exact JZ.frame (by show h4.next<=h4.next;omega) λb hb=>o5 b (by have:=yF b hb;omega)
  .refine ove.frame (by show h.next<=h4.next;omega) λb hb=>?_;have h1:=Za b hb;have h2:=aeB b hb;rw[o5 b (by omega),rn b (by omega) (λiB=>(P9 b iB).2 hb),oA b h2]
  .have h1:=yF b hb;exact⟨by omega,λiB=>by have:=aeB b iB;omega⟩
  .have:x.ak.take (k+1)=x.ak.take k++[e]:=by rw[qZD (by omega),(qQZ.1 he).2]
   rw[this]at hn;simp at hn
 .simp only[go_sem,reduceCtorEq,t114,t113,hc];have hi:k=x.ak.length:=by omega
  subst hi;rw[qZY] at F;exact hq _ _ (by simp[T.ag,t2]) (by simp[T.ag,t4]) (by simp[T.ag,t6]) (by simp[T.ag,t9]) (by simp[T.ag,t12]) (by simp[T.ag,t13]) (by simp[T.ag,t14]) (by simp[T.ag,t98]) (by simp[T.ag,t99]) (by simp[T.ag,t100]) F
def tZ (tu:∀x,x∈M->x.ak.length<=256)(od:List Nat):∀i,(fQ M od i).length<=256*i
 |0=>by unfold fQ;simp
 |i+1=>by
  rw[rG,qQM];have:=tZ tu od i
  have h2:(rF M od i).length<=256:=by
   unfold rF;cases od[i]? with
   |none=>simp
   |some c =>
    simp only[qQD];unfold Hv;cases hy:M[c]? with
    |none=>simp
    |some y=>exact tu y (qQK hy)
  omega
def ue (M:List aw)(od:List Nat):∀i,(fx M od i).length<=i
 |0=>by unfold fx;simp
 |i+1=>by
  rw[nL,qQM];have:=ue M od i
  have h2:(oE M od i).length<=1:=by
   unfold oE;cases od[i]? with
   |none=>simp
   |some c=>simp only;split<;>simp
  omega
def Xf {Qn Qr:Fr->aa->Prop}{Qx:Nat->Fr->aa->Prop}(hN:fO hv dv M)(hhs:aU hv hs)(hvp:hv.next<=p12)(ie:Fk M)(tu:∀x,x∈M->x.ak.length<=256)(eE:∀c,c∈od↔c<M.length)(J0:od.length=M.length)(hM:M.length<=1000)
 (agG:p12<hs.next) (GF:lb<hs.next/\lb≠p12) (gl:hs.get lb=some (.cells (km M.length od M.length) 3)) (GN:ob<hs.next/\ob≠p12) (go:hs.get ob=some (.cells (od.map λ(c:Nat)=>ae.int .i64 (c:Int)) 3)) (g4:hv.get p4=some (.cells [.ptr sb 0] 113)) (hp4:p4<hv.next) (gs:aN hv sb 3=some dv) (Qk:sb<hv.next)
 (fr:Fr) (h:aa) (F:FB hs p12 M.length [] [] h)
 (t2:fr.get 2=some (.ptr p2 0)) (t4:fr.get 4=some (.ptr p4 0)) (t6:fr.get 6=some (.slice ob 0 M.length M.length true)) (t9:fr.get 9=some (.slice lb 0 M.length M.length true)) (t12:fr.get 12=some (.ptr p12 0)) (t98:fr.get 98=some (.slice ob 0 M.length M.length true)) (t99:fr.get 99=some (.int .i64 (M.length:Int))) (t100:fr.get 100=some (.int .i64 0))
 (hq:∀fr h',fr.get 2=some (.ptr p2 0)->fr.get 12=some (.ptr p12 0)->FB hs p12 M.length (fQ M od M.length) (fx M od M.length) h'->Qx 4 fr h'):kI Tryz.prog E2 (.loop zH) fr h Qn Qx Qr:=by
 refine kf (λdd fr h'=>∃(i:Nat),dd+i=M.length/\fr.get 100=some (.int .i64 (i:Int))/\fr.get 2=some (.ptr p2 0)/\fr.get 4=some (.ptr p4 0)/\fr.get 6=some (.slice ob 0 M.length M.length true)/\fr.get 9=some (.slice lb 0 M.length M.length true)/\fr.get 12=some (.ptr p12 0)/\fr.get 98=some (.slice ob 0 M.length M.length true)/\fr.get 99=some (.int .i64 (M.length:Int))/\FB hs p12 M.length (fQ M od i) (fx M od i) h') M.length ?_ ?_
 .exact⟨0,by omega,t100,t2,t4,t6,t9,t12,t98,t99,F⟩
 clear t100 t2 t4 t6 t9 t12 t98 t99 F;rintro dd fr h ⟨i,yG,t100,t2,t4,t6,t9,t12,t98,t99,F⟩;unfold zH;by_cases hc:(i:Int)<(M.length:Int)
 .obtain⟨c,kE⟩:∃c,od[i]?=some c:=⟨_,qQW (by omega)⟩;have LY:=(eE c).1 (qQK kE);obtain⟨x,hx⟩:∃x,M[c]?=some x:=⟨_,qQW LY⟩;have nO:=F.next;have hhn:=hhs.next;have JX:aU hv h:=⟨by omega,λb hb=>(F.uS b (by omega) (by omega)).trans (hhs.get b hb)⟩
  have XD:∀h' Q,fI 1 (.slice ob 0 M.length M.length true) (.int .i64 (i:Int)) h' Q=Q (.ptr ob i) h':=λh' Q=>by
   rw[dj rfl (by omega)];simp
  have lo:aN h ob i=some (.int .i64 (c:Int)):=by rw[cG (F.uS ob GN.1 GN.2),aq go,qQX,kE];rfl
  have l4:aN h p4 0=some (.ptr sb 0):=by rw[JX.aN hp4,aq g4];rfl
  have ls:aN h sb 3=some dv:=by rw[JX.aN Qk];exact gs
  obtain⟨nb,no,ev,pN,uO,Ky⟩:=hN.at hx;have lev:aN h nb no=some ev:=by exact(pN.mono JX).aN (i:=0) rfl
  have NP:∀h' Q,cH ev h' Q=Q (.int .i64 (x.ak.length:Int)) h':=λh' Q=>by rw[uO.len,qQD]
  have JQ:=tZ tu od i;simp only[go_sem,Nat.reduceEqDiff,t100,t4,t98,t99,hc,XD,lo,l4,ls,Ky,lev,NP];refine Xe (hv:=hv) (i:=i) (c:=c) (p2:=p2) (p4:=p4) (ob:=ob) (lb:=lb) ie (λc h=>(eE c).2 h) J0 hM hx (tu x (qQK hx)) ev uO hhs hvp agG GF gl (fQ M od i) (fx M od i) (by omega) _ h F (by simp[T.ag,t2]) (by simp[T.ag,t4]) (by simp[T.ag,t6]) (by simp[T.ag,t9]) (by simp[T.ag,t12]) (by simp[T.ag]) (by simp[T.ag]) (by simp[T.ag,t98]) (by simp[T.ag,t99]) (by simp[T.ag,t100]) (by simp[T.ag]) (by simp[T.ag]) (by simp[T.ag]) ?_;intro fr h2 t2 t4 t6 t9 t12 t13 t14 t98 t99 t100 F2
  have hA:fQ M od (i+1)=fQ M od i++x.ak.map λe=>⟨(i:Int),(od.idxOf e.to:Nat),e.letter,e.cost⟩:=by
   rw[rG];unfold rF Hv;rw[kE];simp only[hx]
  rw[<-hA] at F2;have GL:=F2.next;have Tg:aU hv h2:=⟨by omega,λb hb=>(F2.uS b (by omega) (by omega)).trans (hhs.get b hb)⟩;have l42:aN h2 p4 0=some (.ptr sb 0):=by rw[Tg.aN hp4,aq g4];rfl
  have ls2:aN h2 sb 3=some dv:=by rw[Tg.aN Qk];exact gs
  have ahh:aN h2 nb (no+1)=some (.int .i64 x.fin):=(pN.mono Tg).aN (i:=1) rfl;have yN:IntKind.i64.wrap ((i:Int)+1)=((i+1:Nat):Int):=by rw[wrap_i64 (by omega) (by omega)];push_cast;rfl
  obtain⟨va,ve,gb,ova,ove,P9,Za,bnl⟩:=F2.box;by_cases hf:x.fin<0
  .have hE:fx M od (i+1)=fx M od i:=by
    rw[nL];unfold oE CU;rw[kE];simp only[hx];rw[if_neg (by omega)];simp
   simp only[go_sem,Nat.reduceEqDiff,reduceCtorEq,t2,t4,t6,t9,t12,t14,t98,t99,t100,l42,ls2,Ky,ahh,hf,yN];exact⟨dd-1,by omega,i+1,by omega,rfl,by rw[hE];exact F2⟩
  .have hE:fx M od (i+1)=fx M od i++[⟨(i:Int),x.fin⟩]:=by
    rw[nL];unfold oE CU;rw[kE];simp only[hx];rw[if_pos (by omega)]
   have v2:aN h2 p12 2=some ve:=by rw[aq gb];rfl
   have afR:=ue M od i;have Ag:(((fx M od i).map gF).flatten).length+1<=1073741824:=by rw[Sr];omega
   simp only[go_sem,Nat.reduceEqDiff,Nat.reduceAdd,Nat.reduceLeDiff,t2,t4,t6,t9,t12,t13,t14,t98,t99,t100,l42,ls2,Ky,ahh,hf,v2];refine qd ove [.int .i64 (i:Int),.int .i64 x.fin] rfl (by decide) (by simp[ae.flat]) Ag ?_;intro v' h4 JZ JY rn SS;have Vp:h4.get p12=some (.cells [.int .i64 (M.length:Int),va,ve] 25):=(rn p12 (by omega) λhb=>by have:=Za _ hb;omega).trans gb;have gY:=aD (o:=2) (n:=1) (vs:=[v']) Vp rfl (by simp);rw[bW]at gY;simp only[go_sem,Nat.reduceEqDiff,t2,t4,t6,t9,t12,t98,t99,t100,bM JZ.lT,gY,yN];have yF:∀b,aM v' b->b=h2.next+1:=λb hb=>by have:=fu SS hb;omega
   have o5:∀b,b≠p12->(h4.put p12 (.cells ([.int .i64 (M.length:Int),va,ve].set 2 v') 25)).get b=h4.get b:=λb hb=>aa.ah _ _ (Ne.symm hb);refine⟨dd-1,by omega,i+1,by omega,rfl,⟨by show hs.next<=h4.next;omega,λb hb dV=>?_,va,v',aa.aj _ _ _,?_,?_,λb hb=>?_,λb hb=>(by have:=yF b hb;omega),λhn=>?_⟩⟩
   .rw[o5 b dV,rn b (by omega) (λiB=>by have:=Za b iB;omega)];exact F2.uS b hb dV
   .refine ova.frame (by show h2.next<=h4.next;omega) λb hb=>?_;have h1:=P9 b hb;rw[o5 b (by omega),rn b (ova.rm hb) h1.2]
   .rw[hE,qJW,List.flatten_append];exact JZ.frame (by show h4.next<=h4.next;omega) λb hb=>o5 b (by have:=yF b hb;omega)
   .have h1:=P9 b hb;exact⟨h1.1,λiB=>by have:=yF b iB;have:=ova.rm hb;omega⟩
   .have h0:fQ M od (i+1)=[]:=hn;exact bnl h0
 .simp only[go_sem,reduceCtorEq,t100,t99,hc];have hi:i=M.length:=by omega
  subst hi;exact hq _ _ (by simp[T.ag,t2]) (by simp[T.ag,t12]) F
end
def vw:ax:=lP (lP tB)
def tq.acM {n0:Nat}{aZ:Nat->Nat}{h:aa}{sb:Nat}{nv:ae}{d:wC}{S:yX}(H:tq n0 aZ h sb nv d S):fO h d.dv S.M:=by
 refine⟨d.jv,H.lJ,H.nodes.lT,?_,λi e x he hx=>H.W3 i e x he hx⟩;refine dO.cg (elem:=110) (by rw[<-sj H.lJ];exact H.nodes) (λx hx=>by obtain⟨a,_,rfl⟩:=qQB.1 hx;rfl) (by decide) λx hx=>?_;obtain⟨y,hy,lH⟩:=qJD.1 hx;obtain⟨⟨a,b⟩,Ix,rfl⟩:=qQB.1 hy;simp only[qQF,qJK,or_false]at lH;rcases lH with rfl|rfl
 .exact(H.oD _ (List.of_mem_zip Ix).1).1
 .rfl
def fO.len {h:aa}{v:ae}{M:List aw}(H:fO h v M)(h':aa)(Q:ae->aa->Prop):cH v h' Q=Q (.int .i64 (M.length:Int)) h':=by
 obtain⟨jv,n1,n2,n3,n4⟩:=H;rw[n3.len];simp[n1]
def Hc {ns:List aw}(W:ze ns):∀(s:List Nat)(i:Nat)(k:Int),cF ns s i=some k->∀b,b∈s->Ap b=true
 |[],i,k,h,b,hb=>by cases hb
 |a :: s,i,k,h,b,hb=>by
  have h:(dC ns i a).bind (λe=>(cF ns s e.to).map (·+e.cost))=some k:=h;rw[qQQ]at h;obtain⟨e,he,h⟩:=h;rw[qQC]at h;obtain⟨j,hj,rfl⟩:=h;obtain⟨x,hx,hm,hl⟩:=eo he;rcases qQF.1 hb with rfl|hb
  .rw[<-hl];exact W.lt x e (qQK hx) hm
  .exact Hc W s e.to j hj b hb
def X7 {ns M:List aw}{st:Nat}(W:ze ns)(N:MV M st (aF ns 0))(x:aw)(e:cI)(hx:x∈M)(he:e∈x.ak):e.letter<256:=by
 obtain⟨c,hc⟩:=List.getElem?_of_mem hx;have kM:=(qQZ.1 hc).1;have aci:=N.top;obtain⟨u,k,hu⟩:=N.reach c kM;have ie:=N.low c x e hc he;obtain⟨⟨w,hw⟩,_⟩:=N.norm e.to (by omega)
 have h1:cF M (e.letter :: w) c=some (0+e.cost):=by
  show(dC M c e.letter).bind (λe=>(cF M w e.to).map (·+e.cost))=_;rw[iF hc (N.nq x hx) he];show(cF M w e.to).map _=_;rw[show cF M w e.to=some 0 from hw];rfl
 have h2:aF M st (u++e.letter :: w)=some (0+e.cost+k):=by
  show cF M _ st=_;rw[sZ,hu];show(cF M (e.letter :: w) c).map _=_;rw[h1];rfl
 rw[N.start]at h2;exact uu (Hc W _ 0 _ h2 e.letter (by simp))
def Kh {h:aa}{b o:Nat}{v:ae}(H:aN h b o=some v)(hf:v.flat=true):aN h.fz b o=some v:=by
 unfold aN at H ⊢;rw[aa.qp];cases hg:h.get b with
 |none=>rw[hg] at H;exact H
 |some x =>
  rw[hg] at H;cases x with
  |cells c e =>
   have H:Go.AX.ob (fW c o) (λv=>some v)=some v:=H;show Go.AX.ob (fW c o) (λv=>aO v.flat (some v) none)=_;cases hh:fW c o with
   |none=>rw[hh] at H;exact H
   |some y =>
    rw[hh] at H;have H:some y=some v:=H;cases H;show aO v.flat (some v) none=_;rw[hf]
  |ro c e=>exact H
  |map a b=>exact H
  |mapIter a b c d=>exact H
  |dead=>exact H
def SG:ax:=lP (lP (lP (lP (lP vw))))
section
variable{hv:aa}{M:List aw}{st ob pb p7 p4 p2 sb:Nat}{dv lv:ae}{L:ff}
def SI {Qn Qr:Fr->aa->Prop}{Qx:Nat->Fr->aa->Prop}(N:MV M st L)(hM:M.length<=1000)(tu:∀x,x∈M->x.ak.length<=256){ln:List Int}(jX:∀c,c<M.length->∃m:Nat,ln[c]?=some (m:Int)/\iI (aF M c) m)
 (hNA:fO hv dv M) (Ti:cg hv 1 lv (ln.map λz=>[.int .i64 z])) (gs3:aN hv sb 3=some dv) (gs4:aN hv sb 4=some lv) (Qk:sb<hv.next) (g4:hv.get p4=some (.cells [.ptr sb 0] 113)) (hp4:p4<hv.next) (hd:ob≠pb/\ob≠p7/\pb≠p7)
 (pK:p2<hv.next) (g2:hv.get p2=some (.cells [.int .i64 0,.af,.af] 25)) (h2d:p2≠p4/\p2≠sb) (us:List (List Nat)) (fr:Fr) (h:aa) (F:F0 hv M st ob pb p7 M.length us h)
 (t2:fr.get 2=some (.ptr p2 0)) (t4:fr.get 4=some (.ptr p4 0)) (t6:fr.get 6=some (.slice ob 0 M.length M.length true)) (t7:fr.get 7=some (.ptr p7 0))
 (hr:∀fr h' (A:aY) (va ve:ae),fr.get 2=some (.ptr p2 0)->fr.get 3=some (.bool (decide (bH A=0)))->h'.get p2=some (.cells [.int .i64 A.n,va,ve] 25)->eS h' va A.aW->iO h' ve A.ends->A.aW.length<=1000000->A.ends.length<=1000->jZ L A->(∀b,aM va b\/aM ve b->hv.next<=b)->hv.next<=h'.next->(∀b,b<hv.next->b≠p2->h'.get b=hv.get b)->Qr fr h'):kI Tryz.prog E2 SG fr h Qn Qx Qr:=by
 obtain⟨a1,a2,a3,a4,a5,a6⟩:=F.lt;obtain⟨d1,d2,d3⟩:=hd;unfold SG vw;simp only[tB,lP];have hm:0<M.length:=by have:=N.top;omega
 let Lf:Fin M.length->Int:=λc=>ln.getD c.val 0
 let Pf:Fin M.length->List Nat:=λc=>us.getD c.val []
 let ps:List (Fin M.length):=List.finRange M.length
 have agm:∀c:Fin M.length,ln[c.val]?=some (Lf c):=λc=>by
  obtain⟨m,h1,_⟩:=jX c.val c.isLt;show _=some (ln.getD c.val 0);rw[qVQ,h1];rfl
 have acj:∀c:Fin M.length,us[c.val]?=some (Pf c):=λc=>by
  show _=some (us.getD c.val []);rw[qVQ,qQW (by have:=F.len;omega)];rfl
 have B5:ps.length=M.length:=List.length_finRange
 have GN:h.get ob=some (.cells (ps.map λc=>ae.int .i64 (c.val:Int)) 3):=by
  rw[F.o];congr 2;unfold ry;apply qWV
  .simp[ps]
  .intro j h1 h2;have:j<M.length:=by simpa using h1
   simp[ps,this]
 have hpc:mZ M.length us=us.map ae.str:=by unfold mZ;rw[F.len];simp
 have Vz:=F.p;rw[hpc] at Vz
 have hpv:cg h 1 (.slice pb 0 M.length M.length true) (us.map λs=>[.str s]):=by
  have hb:=cg.of1 (b:=pb) (c:=M.length) (ex:=true) a4 Vz (λx hx=>by obtain⟨y,_,rfl⟩:=qQB.1 hx;rfl);rw[qQD,F.len,qKJ]at hb;exact hb
 have CM:=PM (e:=3) Lf Pf h ob M.length true p4 p7 ps GN (by intro e;rw[e] at B5;simp at B5;omega) (by omega) (λh2 hn hg x y=>by
  have aS:aU hv h2:=⟨by have:=F.hle.next;omega,λb hb=>(hg b (by omega)).trans (F.hle.get b hb)⟩;have l4:aN h2.fz p4 0=some (.ptr sb 0):=Kh (by rw[aS.aN hp4,aq g4];rfl) rfl;have l5:aN h2.fz sb 4=some lv:=Kh (by rw[aS.aN Qk];exact gs4) (by rcases Ti.2 with⟨_,rfl⟩|⟨_,_,_,_,rfl,_⟩<;>rfl);have l7:aN h2.fz p7 0=some (.slice pb 0 M.length M.length true):=Kh (by rw[cG (hg p7 (by omega)),aq F.b];rfl) rfl;have ali:cg h2 1 (.slice pb 0 M.length M.length true) (us.map λs=>[.str s]):=cg.frame hpv (by omega) λb hb=>hg b (by obtain⟨o,n,c,e,he⟩:=hb;cases he;exact Ne.symm d1);exact Xb l4 l5 (Ti.mono aS).fz l7 ali.fz (agm x) (agm y) (acj x) (acj y))
 rw[B5] at CM;have lo1:∀h' Q,cH (.slice ob 0 M.length M.length true) h' Q=Q (.int .i64 (M.length:Int)) h':=λh' Q=>rfl;have DV:∀h' K,X2 3 [.int .i64 0] 8 (.int .i64 (M.length:Int)) (.int .i64 (M.length:Int)) h' K=K (.slice h'.next 0 M.length M.length true) (h'.push (.cells (List.replicate M.length [.int .i64 0]).flatten 3)):=λh' K=>oO rfl (by omega) (by omega);simp only[go_sem,Nat.reduceEqDiff,t4,t6,t7];refine⟨by decide,?_⟩;refine CM.mono ?_;rintro r h1 ⟨qs,tK,hpw,rfl⟩;obtain⟨od,hod⟩:∃od,od=qs.map λc=>c.val:=⟨_,rfl⟩
 have eE:∀c,c∈od↔c<M.length:=λc=>by
  rw[hod];constructor
  .intro hc;obtain⟨x,_,rfl⟩:=qQB.1 hc;exact x.isLt
  .intro hc;exact qQB.2 ⟨⟨c,hc⟩,tK.mem_iff.2 (List.mem_finRange _),rfl⟩
 have J0:od.length=M.length:=by rw[hod,qQD,tK.length_eq,B5]
 have kv:od.Nodup:=by
  rw[hod];exact qKB.2 ((qVZ.1 (tK.nodup_iff.2 (List.nodup_finRange _))).imp λh e=>h (Fin.ext e))
 obtain⟨hs,Z5⟩:∃hs,hs=h.put ob (.cells (List.map (λc=>ae.int IntKind.i64 ↑↑c) qs) 3):=⟨_,rfl⟩
 have go:hs.get ob=some (.cells (od.map λ(c:Nat)=>ae.int .i64 (c:Int)) 3):=by
  rw[Z5,aa.aj,hod,qKJ];rfl
 have J7:hs.next=h.next:=by rw[Z5];rfl
 have hsg:∀b,b≠ob->hs.get b=h.get b:=λb hb=>by rw[Z5];exact aa.ah _ _ (Ne.symm hb)
 have ab1:aU hv hs:=⟨by have:=F.hle.next;omega,λb hb=>(hsg b (by omega)).trans (F.hle.get b hb)⟩;rw[<-Z5];simp only[go_sem,Nat.reduceEqDiff,t6,iz,DV,jl]
 have gl0:(hs.push (.cells (List.replicate M.length (.int .i64 0)) 3)).get hs.next=some (.cells (km M.length od 0) 3):=by
  rw[aa.ai];congr 2;unfold km;apply qWV
  .simp
  .intro j h1 h2;simp
 refine Xd (M:=M) (p4:=p4) kv (λc hc=>(eE c).1 hc) J0 hM (lb:=hs.next) (by omega:ob<hs.next) go _ _ ((aU.refl hs).push _) ⟨by omega,by show hs.next<hs.next+1;omega⟩ gl0 p2 (by simp[T.ag,t2]) (by simp[T.ag,t4]) (by simp[T.ag,t6]) (by simp[T.ag]) (by simp[T.ag]) (by simp[T.ag]) (by simp[T.ag]) ?_;intro fr h2 t2 t4 t6 t9 aS aqM gl2;simp only[go_sem,Nat.reduceEqDiff,Nat.reduceAdd,Nat.reduceLeDiff,t6];have qx:hs.next<=h2.next:=aS.next;have cQ:aU hs (h2.push (.cells [.int .i64 (M.length:Int),.af,.af] 25)):=aS.push _;have n3:(h2.push (.cells [.int .i64 (M.length:Int),.af,.af] 25)).next=h2.next+1:=rfl;have g12:(h2.push (.cells [.int .i64 (M.length:Int),.af,.af] 25)).get h2.next=some (.cells [.int .i64 (M.length:Int),.af,.af] 25):=aa.ai _ _;have gl3:(h2.push (.cells [.int .i64 (M.length:Int),.af,.af] 25)).get hs.next=some (.cells (km M.length od M.length) 3):=(aa.aA _ _ (by omega)).trans gl2;generalize h2.push (.cells [.int .i64 (M.length:Int),.af,.af] 25)=h3 at cQ n3 g12 gl3 ⊢;have hvn:=ab1.next;refine Xf (hs:=h3) (p2:=p2) (p4:=p4) (sb:=sb) (ob:=ob) (lb:=hs.next) (p12:=h2.next) hNA (ab1.trans cQ) (by omega) N.low tu eE J0 hM (by omega) ⟨by omega,by omega⟩ gl3 ⟨by omega,by omega⟩ ((cQ.get ob (by omega)).trans go) g4 hp4 gs3 Qk _ h3 ?_ (by simp[T.ag,t2]) (by simp[T.ag,t4]) (by simp[T.ag,t6]) (by simp[T.ag,t9]) (by simp[T.ag]) (by simp[T.ag]) (by simp[T.ag]) (by simp[T.ag]) ?_
 .have e0:fQ M od 0=[]:=by unfold fQ;simp
  refine⟨qQY _,λb _ _=>rfl,.af,.af,g12,(.inl ⟨rfl,rfl⟩),(.inl ⟨rfl,rfl⟩),λb hb=>(dx hb).elim,λb hb=>(dx hb).elim,λ_=>rfl⟩
 intro fr h4 t2 t12 FB4;obtain⟨va,ve,gb,ova,ove,P9,Za,bnl⟩:=FB4.box;have v1:aN h4 h2.next 1=some va:=by rw[aq gb];rfl
 simp only[go_sem,Nat.reduceEqDiff,t12,v1];refine⟨by decide,?_⟩;have Oo:=FB4.next;have JQ:=tZ tu od M.length;have afR:=ue M od M.length
 have hso:Nc Tryz.prog 40 [va,.func 18 [] []] h4 λ_ h'=>∃aW:List dH,aW.Perm (fQ M od M.length)/\aW.Pairwise (λx y=>kX y x=false)/\h'.next=h4.next/\(∀b,¬aM va b->h'.get b=h4.get b)/\dO h' 4 52 va (aW.map aX).flatten:=by
  by_cases DX:fQ M od M.length=[]
  .have hva:=bnl DX;subst hva;refine(Nc.nW (PK _ rfl h4)).mono ?_;rintro r h' rfl;exact⟨[],by rw[DX],List.Pairwise.nil,rfl,λb _=>rfl,.inl ⟨rfl,rfl⟩⟩
  .rcases ova with⟨rfl,he⟩|⟨b,n,rfl,hb,hg,hl⟩
   .have h0:=uY (fQ M od M.length);rw[he]at h0;exact absurd (qZG (by simp only[qZE]at h0;omega)) DX
   .rw[uY]at hl;have hn:n=(fQ M od M.length).length:=by omega
    subst hn;refine(Lc h4 b _ false _ (fQ M od M.length) hg DX (by omega)).mono ?_;rintro r h' ⟨qs,q1,q2,rfl⟩;refine⟨qs,q1,q2,rfl,λc hc=>aa.ah _ _ λe=>hc ⟨0,_,_,false,by rw[e]⟩,.inr ⟨b,_,rfl,hb,aa.aj _ _ _,?_⟩⟩;rw[uY,q1.length_eq]
 refine hso.mono ?_;rintro r h5 ⟨aW,hpa,alj,n5,g5,amg⟩;have gb5:h5.get h2.next=some (.cells [.int .i64 (M.length:Int),va,ve] 25):=(g5 _ λhb=>by have:=(P9 _ hb).1;omega).trans gb;have ld5:eI h5 h2.next 0 3=some [.int .i64 (M.length:Int),va,ve]:=by rw[bX gb5 (by simp)];rfl
 simp only[go_sem,Nat.reduceEqDiff,t12,ld5]
 have hA0:eS h5 va aW:=dO.cg amg (λx hx=>by obtain⟨a,_,rfl⟩:=qQB.1 hx;rfl) (by decide) λx hx=>by
  obtain⟨y,hy,lH⟩:=qJD.1 hx;obtain⟨a,_,rfl⟩:=qQB.1 hy;simp only[aX,qQF,qJK,or_false]at lH;rcases lH with rfl|rfl|rfl|rfl<;>rfl
 have amh:dO h5 2 56 ve ((fx M od M.length).map gF).flatten:=ove.frame (by omega) λb hb=>g5 b λiB=>(P9 b iB).2 hb
 have hE0:iO h5 ve (fx M od M.length):=dO.cg amh (λx hx=>by obtain⟨a,_,rfl⟩:=qQB.1 hx;rfl) (by decide) λx hx=>by
  obtain⟨y,hy,lH⟩:=qJD.1 hx;obtain⟨a,_,rfl⟩:=qQB.1 hy;simp only[gF,qQF,qJK,or_false]at lH;rcases lH with rfl|rfl<;>rfl
 have hsk:aU h5 (h5.skip 6):=⟨by show h5.next<=h5.next+6;omega,λb hb=>rfl⟩;have aqg:aW.length<=256000:=by rw[hpa.length_eq];omega
 refine⟨by decide,?_⟩;refine(vl ⟨(M.length:Int),aW,fx M od M.length⟩ _ (h5.skip 6) ⟨va,ve,rfl,hA0.mono hsk,hE0.mono hsk,by show aW.length<=_;omega,by show(fx M od M.length).length<=_;omega⟩).mono ?_;rintro r h6 ⟨rfl,qt⟩;have GG:=hsk.trans qt;have g5v:∀b,b<hv.next->h5.get b=hv.get b:=λb hb=>(g5 b λiB=>by have:=(P9 b iB).1;omega).trans ((FB4.uS b (by omega) (by omega)).trans ((cQ.get b (by omega)).trans (ab1.get b hb)));have g6v:∀b,b<hv.next->h6.get b=hv.get b:=λb hb=>(GG.get b (by omega)).trans (g5v b hb);have ld6:eI h6 h2.next 0 3=some [.int .i64 (M.length:Int),va,ve]:=by rw[bX ((GG.get _ (by omega)).trans gb5) (by simp)];rfl
 have CL:=aD (o:=0) (n:=3) (vs:=[.int .i64 (M.length:Int),va,ve]) ((g6v p2 pK).trans g2) rfl (by simp);have ald:over [ae.int .i64 0,.af,.af] 0 [.int .i64 (M.length:Int),va,ve]=[.int .i64 (M.length:Int),va,ve]:=rfl;rw[ald] at CL;have hn6:=GG.next;simp only[go_sem,Nat.reduceEqDiff,t2,t12,ld6,CL]
 have sv:∀(u:ae)(xs:List (List ae))(k:Nat)(hh:aa),cg hh k u xs->dz 19 u u=true:=by
  intro u xs k hh H;rcases H.2 with⟨_,rfl⟩|⟨b,o,c,ex,rfl,_⟩
  .exact Bi 18
  .exact sG 18 _ _ _ _ _
 have lU:dz 20 (ae.agg [.int .i64 (M.length:Int),va,ve]) (ae.agg [.int .i64 (M.length:Int),va,ve])=true:=by
  suffices hL:il (dz 19) [ae.int .i64 (M.length:Int),va,ve] [ae.int .i64 (M.length:Int),va,ve]=true by
   show tb (some (il (dz 19) [ae.int .i64 (M.length:Int),va,ve] [ae.int .i64 (M.length:Int),va,ve]))=true;rw[hL];rfl
  refine Bk λx hx=>?_;simp only[qQF,qJK,or_false]at hx;rcases hx with rfl|rfl|rfl
  .exact dJ 18 _ _
  .exact sv _ _ _ _ hA0
  .exact sv _ _ _ _ hE0
 refine⟨lU,?_⟩;have h7:∀b,b≠p2->(h6.put p2 (.cells [.int .i64 (M.length:Int),va,ve] 25)).get b=h6.get b:=λb hb=>aa.ah _ _ (Ne.symm hb);have ZY:∀v b,(∀c,aM v c->h3.next<=c)->aM v b->b≠p2:=λv b hv hb=>by have:=hv b hb;omega
 have hA7:eS (h6.put p2 (.cells [.int .i64 (M.length:Int),va,ve] 25)) va aW:=cg.frame (hA0.mono GG) (qQY _) λb hb=>h7 b (ZY va b (λc hc=>(P9 c hc).1) hb);have hE7:iO (h6.put p2 (.cells [.int .i64 (M.length:Int),va,ve] 25)) ve (fx M od M.length):=cg.frame (hE0.mono GG) (qQY _) λb hb=>h7 b (ZY ve b Za hb)
 let dp:Nat->Nat:=λc=>(ln.getD c 0).toNat
 let pa:Nat->List Nat:=λc=>us.getD c []
 have GA:∀c,c<M.length->ln.getD c 0=(dp c:Int)/\iI (aF M c) (dp c):=λc hc=>by
  obtain⟨m,h1,h2⟩:=jX c hc;have e1:ln.getD c 0=(m:Int):=by rw[qVQ,h1];rfl
  have e2:dp c=m:=by show(ln.getD c 0).toNat=m;rw[e1];simp
  exact⟨by rw[e1,e2],by rw[e2];exact h2⟩
 have alf:∀c,c<M.length->ID M st c (pa c):=λc hc=>F.way c (pa c) (acj ⟨c,hc⟩)
 have hFP:=JL N (dp:=dp) (pa:=pa) (λc hc=>(GA c hc).2) alf kv eE (by
  rw[hod];refine qKB.2 (hpw.imp λ{x y} h g=>h ?_);obtain⟨x,hx⟩:=x;obtain⟨y,hy⟩:=y;have e1:Lf ⟨x,hx⟩=(dp x:Int):=(GA x hx).1;have e2:Lf ⟨y,hy⟩=(dp y:Int):=(GA y hy).1;rw[e1,e2];rcases g with g|⟨g1,g2⟩
  .exact .inl (by exact_mod_cast g)
  .exact .inr ⟨by exact_mod_cast g1,g2⟩) (aW:=aW) (by rw[J0];exact hpa) alj
 rw[J0]at hFP
 exact hr _ _ ⟨(M.length:Int),aW,fx M od M.length⟩ va ve (by simp[T.ag,t2]) (by simp[T.ag]) (aa.aj _ _ _) hA7 hE7 (by show aW.length<=_;omega) (by show(fx M od M.length).length<=_;omega) hFP (λb hb=>by
  rcases hb with hb|hb
  .have:=(P9 b hb).1;omega
  .have:=Za b hb;omega) (by show hv.next<=h6.next;omega) λb hb dV=>(h7 b dV).trans (g6v b hb)
end
section
variable{ns:List aw}{lo:Nat->Int}{dp:Nat->Nat}
def NZ {Qn Qr:Fr->aa->Prop}{Qx:Nat->Fr->aa->Prop}(B:P7 ns lo dp)(hlen:ns.length<=1000){hin:aa}{nv:ae}(hN:fO hin nv ns)(fr:Fr)(h:aa)(hle:aU hin h)(p2:Nat)(pK:hin.next<=p2/\p2<h.next)(g2:h.get p2=some (.cells [.int .i64 0,.af,.af] 25))
 (t0:fr.get 0=some nv) (t2:fr.get 2=some (.ptr p2 0))
 (hr:∀fr h' (A:aY) (va ve:ae),fr.get 2=some (.ptr p2 0)->fr.get 3=some (.bool (decide (bH A=0)))->h'.get p2=some (.cells [.int .i64 A.n,va,ve] 25)->eS h' va A.aW->iO h' ve A.ends->A.aW.length<=1000000->A.ends.length<=1000->jZ (aF ns 0) A->(∀b,aM va b\/aM ve b->h.next<=b)->aU hin h'->h.next<=h'.next->(∀b,b<h.next->b≠p2->h'.get b=h.get b)->Qr fr h'):kI Tryz.prog E2 vw fr h Qn Qx Qr:=by
 have VC:nv.flat=true:=by obtain⟨jv,_,h2,_⟩:=hN;exact h2
 have nO:=hle.next;unfold vw;simp only[tB,lP];have afU:iT [(1,1,ae.map h.next),(2,1,ae.map (h.next+1))] (og [nv] [ae.af,ae.b8,ae.b8,ae.af,ae.af])=some [nv,.map h.next,.map (h.next+1),.af,.af]:=rfl;have Xw:[nv].length=1:=rfl
 have hpS:∀v,putAt ((((h.push (aE.map [] 0)).push (aE.map [] 0)).push (aE.cells [nv,ae.map h.next,ae.map (h.next+1),ae.af,ae.af] 116)).push (aE.cells [ae.dt] 113)) (h.next+1+1+1) 0 1 [v]=some ((((h.push (aE.map [] 0)).push (aE.map [] 0)).push (aE.cells [nv,ae.map h.next,ae.map (h.next+1),ae.af,ae.af] 116)).push (aE.cells [v] 113)):=λv=>by
  have:=je (h:=((h.push (aE.map [] 0)).push (aE.map [] 0)).push (aE.cells [nv,ae.map h.next,ae.map (h.next+1),ae.af,ae.af] 116)) (o:=0) (n:=1) (vs:=[v]) (c:=[.dt]) (e:=113) rfl (by simp);exact this
 have n1:((((h.push (aE.map [] 0)).push (aE.map [] 0)).push (aE.cells [nv,ae.map h.next,ae.map (h.next+1),ae.af,ae.af] 116)).push (aE.cells [.ptr (h.next+1+1) 0] 113)).next=h.next+4:=rfl;have k4:((((h.push (aE.map [] 0)).push (aE.map [] 0)).push (aE.cells [nv,ae.map h.next,ae.map (h.next+1),ae.af,ae.af] 116)).push (aE.cells [.ptr (h.next+1+1) 0] 113)).get (h.next+3)=some (.cells [.ptr (h.next+2) 0] 113):=aa.ai _ _;have ks:((((h.push (aE.map [] 0)).push (aE.map [] 0)).push (aE.cells [nv,ae.map h.next,ae.map (h.next+1),ae.af,ae.af] 116)).push (aE.cells [.ptr (h.next+1+1) 0] 113)).get (h.next+2)=some (.cells [nv,.map h.next,.map (h.next+1),.af,.af] 116):=(aa.aA _ _ (by show h.next+1+1+1≠_;omega)).trans (aa.ai _ _);have km2:((((h.push (aE.map [] 0)).push (aE.map [] 0)).push (aE.cells [nv,ae.map h.next,ae.map (h.next+1),ae.af,ae.af] 116)).push (aE.cells [.ptr (h.next+1+1) 0] 113)).get (h.next+1)=some (.map [] 0):=(aa.aA _ _ (by show h.next+1+1+1≠_;omega)).trans ((aa.aA _ _ (by show h.next+1+1≠_;omega)).trans (aa.ai _ _));have km1:((((h.push (aE.map [] 0)).push (aE.map [] 0)).push (aE.cells [nv,ae.map h.next,ae.map (h.next+1),ae.af,ae.af] 116)).push (aE.cells [.ptr (h.next+1+1) 0] 113)).get h.next=some (.map [] 0):=(aa.aA _ _ (by show h.next+1+1+1≠_;omega)).trans ((aa.aA _ _ (by show h.next+1+1≠_;omega)).trans ((aa.aA _ _ (by show h.next+1≠_;omega)).trans (aa.ai _ _)));have bh:aU h ((((h.push (aE.map [] 0)).push (aE.map [] 0)).push (aE.cells [nv,ae.map h.next,ae.map (h.next+1),ae.af,ae.af] 116)).push (aE.cells [.ptr (h.next+1+1) 0] 113)):=((((aU.refl h).push _).push _).push _).push _;simp only[go_sem,Nat.reduceEqDiff,Nat.reduceAdd,Nat.reduceLeDiff,t0,bM VC,Xw,hpS];generalize (((h.push (aE.map [] 0)).push (aE.map [] 0)).push (aE.cells [nv,ae.map h.next,ae.map (h.next+1),ae.af,ae.af] 116)).push (aE.cells [.ptr (h.next+1+1) 0] 113)=h1 at n1 k4 ks km2 km1 bh ⊢
 have H1:tq hin.next (λb=>if b=h.next+2 then 1 else if b=h.next then 2 else if b=h.next+1 then 4 else 9) h1 (h.next+2) nv ⟨h.next,h.next+1,.af,.af,[],0,[],0,[]⟩ ⟨[],[],[]⟩:=by
  have nb:∀k,qf (λb=>if b=h.next+2 then 1 else if b=h.next then 2 else if b=h.next+1 then 4 else 9) hin.next h1 k .af:=λk c hc=>(dx hc).elim;refine⟨⟨by omega,by omega⟩,by simp,ks,⟨nO,by show h.next<h1.next;omega⟩,by simp,km1,uV.nil,⟨by show hin.next<=h.next+1;omega,by show h.next+1<h1.next;omega⟩,by simp,km2,uV.nil,λs k=>?_,.inl ⟨rfl,rfl⟩,nb 7,rfl,λi v m hv hm=>(by simp at hv),λv hv=>(by cases hv),.inl ⟨rfl,rfl⟩,nb 3,rfl,rfl⟩;constructor
  .intro hx;cases hx
  .rintro⟨i,m,f,_,hm,_⟩;simp at hm
 have V1:VI ns lo dp ⟨h.next,h.next+1,.af,.af,[],0,[],0,[]⟩ ⟨[],[],[]⟩ (λ_=>0):=by
  have e0:∀j:Nat,(cX ([]:List (Int×Y5×Nat)) (j:Int)).isSome=true↔False:=λj=>by simp[cX]
  refine⟨?_,λk x hk=>by simp[cX]at hk,λj x e hj=>((e0 j).1 hj).elim,rfl,λj hj=>((e0 j).1 hj).elim,λf hf=>by cases hf⟩;have:(λj:Nat=>(cX ([]:List (Int×Y5×Nat)) (j:Int)).isSome=true)=λ_=>False:=funext λj=>propext (e0 j);show MI ns [] _ (λj:Nat=>(cX ([]:List (Int×Y5×Nat)) (j:Int)).isSome=true) lo;rw[this];exact MI.nil ns _ lo
 have q4:aN h1 (h.next+1+1+1) 0=some (.ptr (h.next+2) 0):=by rw[aq k4];rfl
 simp only[go_sem,Nat.reduceEqDiff,q4];refine⟨by decide,?_⟩;refine Nc.nW ((PT B hlen hN (hle.trans bh) H1 V1).mono ?_);rintro r hv ⟨aZ,d,S,st,z,rfl,akU,SA,N,GB,jX,hMl,BY,ib⟩
 have ob4:∀b,b<hin.next\/b=p2\/b=h.next+3->b<h1.next->hv.get b=h1.get b:=λb hb hl=>ib.get b hl (by
  rcases hb with hb|rfl|rfl
  .exact .inl hb
  .right;right;show 8<(if _ then _ else _);rw[if_neg (by omega),if_neg (by omega),if_neg (by omega)];omega
  .right;right;show 8<(if _ then _ else _);rw[if_neg (by omega),if_neg (by omega),if_neg (by omega)];omega)
 have Qh:=ib.next;have g4:hv.get (h.next+3)=some (.cells [.ptr (h.next+2) 0] 113):=(ob4 _ (.inr (.inr rfl)) (by omega)).trans k4;have gp2:hv.get p2=some (.cells [.int .i64 0,.af,.af] 25):=(ob4 _ (.inr (.inl rfl)) (by omega)).trans ((bh.get p2 pK.2).trans g2);have gs:=SA.BE;have hNA:=SA.acM;have hm:0<S.M.length:=by have:=N.top;omega
 have hM:S.M.length<=1000:=by omega
 have l4:aN hv (h.next+1+1+1) 0=some (.ptr (h.next+2) 0):=by rw[aq g4];rfl
 have l3:aN hv (h.next+2) 3=some d.dv:=gs.2.2.2.1;have DV:∀h' K,X2 3 [.int .i64 0] 8 (.int .i64 (S.M.length:Int)) (.int .i64 (S.M.length:Int)) h' K=K (.slice h'.next 0 S.M.length S.M.length true) (h'.push (.cells (List.replicate S.M.length [.int .i64 0]).flatten 3)):=λh' K=>oO rfl (by omega) (by omega);have ak2:∀h' K,X2 9 [.str []] 16 (.int .i64 (S.M.length:Int)) (.int .i64 (S.M.length:Int)) h' K=K (.slice h'.next 0 S.M.length S.M.length true) (h'.push (.cells (List.replicate S.M.length [.str []]).flatten 9)):=λh' K=>oO rfl (by omega) (by omega);have pZ:=hNA.len;simp only[go_sem,Nat.reduceEqDiff,H9,l4,l3,pZ,iz,DV,jl];have l4b:aN (hv.push (.cells (List.replicate S.M.length (.int .i64 0)) 3)) (h.next+1+1+1) 0=some (.ptr (h.next+2) 0):=by rw[bt (by omega)];exact l4
 have l3b:aN (hv.push (.cells (List.replicate S.M.length (.int .i64 0)) 3)) (h.next+2) 3=some d.dv:=by rw[bt (by omega)];exact l3
 have XE:∀v,putAt (((hv.push (aE.cells (List.replicate S.M.length (ae.int IntKind.i64 0)) 3)).push (aE.cells (List.replicate S.M.length (ae.str [])) 9)).push (aE.cells [ae.af] 32)) (hv.next+1+1) 0 1 [v]=some (((hv.push (aE.cells (List.replicate S.M.length (ae.int IntKind.i64 0)) 3)).push (aE.cells (List.replicate S.M.length (ae.str [])) 9)).push (aE.cells [v] 32)):=λv=>by
  have:=je (h:=(hv.push (aE.cells (List.replicate S.M.length (ae.int IntKind.i64 0)) 3)).push (aE.cells (List.replicate S.M.length (ae.str [])) 9)) (o:=0) (n:=1) (vs:=[v]) (c:=[.af]) (e:=32) rfl (by simp);exact this
 simp only[go_sem,Nat.reduceEqDiff,l4b,l3b,pZ,iz,ak2,jl,XE];have hlF:aU hv (((hv.push (aE.cells (List.replicate S.M.length (ae.int IntKind.i64 0)) 3)).push (aE.cells (List.replicate S.M.length (ae.str [])) 9)).push (aE.cells [.slice (hv.next+1) 0 S.M.length S.M.length true] 32)):=(((aU.refl hv).push _).push _).push _;have nF:(((hv.push (aE.cells (List.replicate S.M.length (ae.int IntKind.i64 0)) 3)).push (aE.cells (List.replicate S.M.length (ae.str [])) 9)).push (aE.cells [.slice (hv.next+1) 0 S.M.length S.M.length true] 32)).next=hv.next+3:=rfl
 have oF:(((hv.push (aE.cells (List.replicate S.M.length (ae.int IntKind.i64 0)) 3)).push (aE.cells (List.replicate S.M.length (ae.str [])) 9)).push (aE.cells [.slice (hv.next+1) 0 S.M.length S.M.length true] 32)).get hv.next=some (.cells (ry S.M.length 0) 3):=by
  rw[aa.aA _ _ (by show hv.next+1+1≠_;omega),aa.aA _ _ (by show hv.next+1≠_;omega),aa.ai];congr 2;unfold ry;apply qWV
  .simp
  .intro j h1 h2;simp
 have pF:(((hv.push (aE.cells (List.replicate S.M.length (ae.int IntKind.i64 0)) 3)).push (aE.cells (List.replicate S.M.length (ae.str [])) 9)).push (aE.cells [.slice (hv.next+1) 0 S.M.length S.M.length true] 32)).get (hv.next+1)=some (.cells (mZ S.M.length []) 9):=by
  rw[aa.aA _ _ (by show hv.next+1+1≠_;omega)];have:=aa.ai (hv.push (aE.cells (List.replicate S.M.length (ae.int IntKind.i64 0)) 3)) (aE.cells (List.replicate S.M.length (ae.str [])) 9);refine this.trans ?_;unfold mZ;simp
 have bF:(((hv.push (aE.cells (List.replicate S.M.length (ae.int IntKind.i64 0)) 3)).push (aE.cells (List.replicate S.M.length (ae.str [])) 9)).push (aE.cells [.slice (hv.next+1) 0 S.M.length S.M.length true] 32)).get (hv.next+2)=some (.cells [.slice (hv.next+1) 0 S.M.length S.M.length true] 32):=aa.ai _ _;generalize (((hv.push (aE.cells (List.replicate S.M.length (ae.int IntKind.i64 0)) 3)).push (aE.cells (List.replicate S.M.length (ae.str [])) 9)).push (aE.cells [.slice (hv.next+1) 0 S.M.length S.M.length true] 32))=hF at hlF nF oF pF bF ⊢;have Ah:∀x e,x∈S.M->e∈x.ak->e.letter<256:=λx e hx he=>X7 B.W N x e hx he;have aci:=N.top
 have Ti:cg hv 1 d.lv (S.ln.map λz=>[.int .i64 z]):=by
  refine dO.cg (elem:=3) ?_ (λx hx=>by obtain⟨a,_,rfl⟩:=qQB.1 hx;rfl) (by decide) λx hx=>?_
  .have:(S.ln.map λz=>[ae.int .i64 z]).flatten=S.ln.map (ae.int .i64):=by
    rw[show(λz=>[ae.int .i64 z])=(λx=>[x])∘ae.int .i64 from rfl,<-qKJ,jS]
   rw[this];exact SA.lens
  .obtain⟨y,hy,lH⟩:=qJD.1 hx;obtain⟨z,_,rfl⟩:=qQB.1 hy;simp only[qQF,qJK,or_false]at lH;subst lH;rfl
 refine Xc (nv:=nv) (hv:=hv) (M:=S.M) (st:=st) (ob:=hv.next) (pb:=hv.next+1) (p7:=hv.next+2) (p4:=h.next+3) (sb:=h.next+2) akU hNA N.low N.nq Ah hM (by omega) (λc hc=>N.reach c hc) g4 (by omega) l3 (by omega) ⟨by omega,by omega,by omega⟩ _ hF ⟨hlF,oF,pF,bF,rfl,λj u hu=>(by simp at hu),⟨by omega,by omega,by omega,by omega,by omega,by omega⟩⟩ p2 (by simp[T.ag,t2]) (by simp[T.ag]) (by simp[T.ag]) (by simp[T.ag]) (by simp[T.ag]) (by simp[T.ag]) (by simp[T.ag]) ?_;intro fr h8 us t2 t4 t6 t7 F8
 have Of:=SI (Qn:=Qn) (Qr:=Qr) (Qx:=Qx) (L:=aF ns 0) N hM (λx hx=>sS (N.nq x hx) λe he=>Ah x e hx he) (ln:=S.ln) (λc hc=>by
  obtain⟨k,hk⟩:∃k,S.ln[c]?=some k:=⟨_,qQW (by have:=SA.ON;omega)⟩;obtain⟨m,rfl,h2,_⟩:=jX c k hk;exact⟨m,hk,h2⟩) hNA Ti l3 gs.2.2.2.2 (by omega) g4 (by omega) ⟨by omega,by omega,by omega⟩ (by omega) gp2 ⟨by omega,by omega⟩ us fr h8 F8 t2 t4 t6 t7 (λfr h' A va ve q2 q3 q4 q5 q6 q7 q8 q9 q9b q10 q11=>?_)
 .unfold SG vw at Of;simp only[tB,lP] at Of;exact Of
 have kG:∀b,b<h.next->b≠p2->h'.get b=h.get b:=λb hb dV=>(q11 b (by omega) dV).trans ((ib.get b (by omega) (by
  right;right;show 8<(if _ then _ else _);rw[if_neg (by omega),if_neg (by omega),if_neg (by omega)];omega)).trans (bh.get b hb))
 exact hr fr h' A va ve q2 q3 q4 q5 q6 q7 q8 q9 (λb hb=>by have:=q9b b hb;omega) ⟨by omega,λb hb=>(kG b (by omega) (by omega)).trans (hle.get b hb)⟩ (by omega) kG
end
end
end Go.AX
