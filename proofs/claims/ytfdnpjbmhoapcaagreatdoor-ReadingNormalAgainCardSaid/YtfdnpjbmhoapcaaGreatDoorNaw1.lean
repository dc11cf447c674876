/-
  Verification conditions of compiled code of a verified executor; no conditions but those that each lemma names.
-/
import Derived.Test.YtfdnpjbmhoapcaaGreatDoorNaa3
import Derived.Deep.Slices
import Derived.OpenShut
set_option linter.all false
set_option maxHeartbeats 32000000
namespace Go.AX
noncomputable section
open Go
def Ev (E:Env)(f:FuncId)(args:List ae)(h:aa)(v:ae)(h':aa):Prop:=∃N,∀m n,N<=m->N<=n->ba E m n f args h=some (v,h')
def Ec (E:Env)(f:FuncId)(args:List ae)(h:aa)(Q:ae->aa->Prop):Prop:=∃v h',Ev E f args h v h'/\Q v h'
def Ex (E:Env)(c:ax)(fr:Fr)(h:aa)(o:Out):Prop:=∃N,∀m n,N<=m->N<=n->exec E (ba E m n) m c fr h=some o
def ExL (E:Env)(c:ax)(fr:Fr)(h:aa)(o:Out):Prop:=∃N,∀m n k,N<=m->N<=n->N<=k->iter (exec E (ba E m n) m c) k fr h=some o
def Ends (Qn:Fr->aa->Prop)(Qx:Nat->Fr->aa->Prop)(Qr:Fr->aa->Prop)(o:Out):Prop :=
 match o.e with
 |.normal=>Qn o.fr o.h
 |.exit id=>Qx id o.fr o.h
 |.ret=>Qr o.fr o.h
def W (E:Env)(c:ax)(fr:Fr)(h:aa)(Qn:Fr->aa->Prop)(Qx:Nat->Fr->aa->Prop)(Qr:Fr->aa->Prop):Prop:=∃o,Ex E c fr h o/\Ends Qn Qx Qr o
def OpE (E:Env)(o:dS)(fr:Fr)(h:aa)(v:ae)(h':aa):Prop:=∃N,∀m n,N<=m->N<=n->Pg E (ba E m n) o fr h=some (v,h')
def OpR (E:Env)(o:aQ)(fr:Fr)(h:aa)(v:ae)(h':aa):Prop:=∃N,∀m n,N<=m->N<=n->eA E (ba E m n) o fr h=some (v,h')
def WO (E:Env):List aQ->Fr->aa->(Fr->aa->Prop)->Prop
 |[],fr,h,Q=>Q fr h
 |o :: l,fr,h,Q=>∃v h',OpR E o fr h v h'/\WO E l (dB o.dst fr v) h' Q
section
variable{E:Env}{fr bP:Fr}{h h':aa}{Qn Qr:Fr->aa->Prop}{Qx:Nat->Fr->aa->Prop}
def W.skip (hq:Qn fr h):W E .skip fr h Qn Qx Qr:=⟨⟨.normal,fr,h⟩,⟨0,λ_ _ _ _=>rfl⟩,hq⟩
def W.exit {id:Nat}(hq:Qx id fr h):W E (.exit id) fr h Qn Qx Qr:=⟨⟨.exit id,fr,h⟩,⟨0,λ_ _ _ _=>rfl⟩,hq⟩
def W.ret (hq:Qr fr h):W E .ret fr h Qn Qx Qr:=⟨⟨.ret,fr,h⟩,⟨0,λ_ _ _ _=>rfl⟩,hq⟩
def WO.ops {l:List aQ}:∀{fr:Fr}{h:aa}{Q:Fr->aa->Prop},WO E l fr h Q->∃bP h',(∃N,∀m n,N<=m->N<=n->cP E (ba E m n) l fr h=some (bP,h'))/\Q bP h':=by
 induction l with
 |nil=>intro fr h Q hq;exact⟨fr,h,⟨0,λ_ _ _ _=>rfl⟩,hq⟩
 |cons o l ih =>
  rintro fr h Q ⟨v,h1,⟨N1,JO⟩,hw⟩;obtain⟨iA,h2,⟨N2,Iw⟩,hq⟩:=ih hw;refine⟨iA,h2,⟨max N1 N2,λm n hm hn=>?_⟩,hq⟩;show ob (eA E (ba E m n) o fr h) (λr=>cP E (ba E m n) l (dB o.dst fr r.1) r.2)=_;rw[JO m n (by omega) (by omega)];exact Iw m n (by omega) (by omega)
def W.region {l:List aQ}(hw:WO E l fr h Qn):W E (.region l) fr h Qn Qx Qr:=by
 obtain⟨bP,h',⟨N,hN⟩,hq⟩:=hw.ops;refine⟨⟨.normal,bP,h'⟩,⟨N,λm n hm hn=>?_⟩,hq⟩;show ob (cP E (ba E m n) l fr h) (λp=>some (⟨.normal,p.1,p.2⟩:Out))=_;rw[hN m n hm hn]
def W.seq {a b:ax}(hw:W E a fr h (λfr h=>W E b fr h Qn Qx Qr) Qx Qr):W E (.seq a b) fr h Qn Qx Qr:=by
 obtain⟨⟨e,dM,h1⟩,⟨N1,JO⟩,hq⟩:=hw
 have hs:∀m n,N1<=m->N1<=n->exec E (ba E m n) m (.seq a b) fr h=andThen (some ⟨e,dM,h1⟩) (exec E (ba E m n) m b):=by
  intro m n hm hn;show andThen (exec E (ba E m n) m a fr h) _=_;rw[JO m n hm hn];rfl
 cases e with
 |normal =>
  obtain⟨o,⟨N2,Iw⟩,hq⟩:=hq;refine⟨o,⟨max N1 N2,λm n hm hn=>?_⟩,hq⟩;rw[hs m n (by omega) (by omega)];exact Iw m n (by omega) (by omega)
 |exit id=>exact⟨⟨.exit id,dM,h1⟩,⟨N1,λm n hm hn=>hs m n hm hn⟩,hq⟩
 |ret=>exact⟨⟨.ret,dM,h1⟩,⟨N1,λm n hm hn=>hs m n hm hn⟩,hq⟩
def W.cond {c:au}{a b:ax}(t:Bool)(hc:aJ c fr=.bool t)(ha:t=true->W E a fr h Qn Qx Qr)(hb:t=false->W E b fr h Qn Qx Qr):W E (.cond c a b) fr h Qn Qx Qr:=by
 have hs:∀m n,exec E (ba E m n) m (.cond c a b) fr h=aO t (exec E (ba E m n) m a fr h) (exec E (ba E m n) m b fr h):=by
  intro m n;show bK (aJ c fr) _=_;rw[hc];rfl
 cases t with
 |true =>
  obtain⟨o,⟨N,hN⟩,hq⟩:=ha rfl;exact⟨o,⟨N,λm n hm hn=>(hs m n).trans (hN m n hm hn)⟩,hq⟩
 |false =>
  obtain⟨o,⟨N,hN⟩,hq⟩:=hb rfl;exact⟨o,⟨N,λm n hm hn=>(hs m n).trans (hN m n hm hn)⟩,hq⟩
def W.block {id:Nat}{a:ax}(hw:W E a fr h Qn (λj fr h=>if j=id then Qn fr h else Qx j fr h) Qr):W E (.block id a) fr h Qn Qx Qr:=by
 obtain⟨⟨e,dM,h1⟩,⟨N,hN⟩,hq⟩:=hw
 have hs:∀m n,N<=m->N<=n->exec E (ba E m n) m (.block id a) fr h=mf id (some ⟨e,dM,h1⟩):=by
  intro m n hm hn;show mf id (exec E (ba E m n) m a fr h)=_;rw[hN m n hm hn]
 cases e with
 |normal=>exact⟨⟨.normal,dM,h1⟩,⟨N,hs⟩,hq⟩
 |ret=>exact⟨⟨.ret,dM,h1⟩,⟨N,hs⟩,hq⟩
 |exit j =>
  have hq:if j=id then Qn dM h1 else Qx j dM h1:=hq
  by_cases hj:j=id
  .rw[if_pos hj]at hq;refine⟨⟨.normal,dM,h1⟩,⟨N,λm n hm hn=>(hs m n hm hn).trans ?_⟩,hq⟩;show aO (Nat.beq j id) _ _=_;rw[bq,if_pos (by simp[hj])]
  .rw[if_neg hj]at hq;refine⟨⟨.exit j,dM,h1⟩,⟨N,λm n hm hn=>(hs m n hm hn).trans ?_⟩,hq⟩;show aO (Nat.beq j id) _ _=_;rw[bq,if_neg (by simp[hj])]
def W.loop {a:ax}(Inv:Nat->Fr->aa->Prop)(pL:∀d fr h,Inv d fr h->W E a fr h (λbP h'=>∃d',d'<d/\Inv d' bP h') Qx Qr){d:Nat}(h0:Inv d fr h):W E (.loop a) fr h Qn Qx Qr:=by
 have key:∀d fr h,Inv d fr h->∃o,ExL E a fr h o/\Ends (λ_ _=>False) Qx Qr o:=by
  intro d
  induction d using Nat.strongRecOn with
  |_ d ih =>
   intro fr h hi;obtain⟨⟨e,dM,h1⟩,⟨N1,JO⟩,hq⟩:=pL d fr h hi
   have hs:∀m n k,N1<=m->N1<=n->iter (exec E (ba E m n) m a) (k+1) fr h=andThen (some ⟨e,dM,h1⟩) (iter (exec E (ba E m n) m a) k):=by
    intro m n k hm hn;show andThen (exec E (ba E m n) m a fr h) _=_;rw[JO m n hm hn];rfl
   cases e with
   |normal =>
    obtain⟨d',hd,tJ⟩:=hq;obtain⟨o,⟨N2,Iw⟩,hq⟩:=ih d' hd dM h1 tJ;refine⟨o,⟨max N1 N2+1,λm n k hm hn hk=>?_⟩,hq⟩;obtain⟨k,rfl⟩:∃j,k=j+1:=⟨k-1,by omega⟩;rw[hs m n k (by omega) (by omega)];exact Iw m n k (by omega) (by omega) (by omega)
   |exit id =>
    refine⟨⟨.exit id,dM,h1⟩,⟨N1+1,λm n k hm hn hk=>?_⟩,hq⟩;obtain⟨k,rfl⟩:∃j,k=j+1:=⟨k-1,by omega⟩;rw[hs m n k (by omega) (by omega)];rfl
   |ret =>
    refine⟨⟨.ret,dM,h1⟩,⟨N1+1,λm n k hm hn hk=>?_⟩,hq⟩;obtain⟨k,rfl⟩:∃j,k=j+1:=⟨k-1,by omega⟩;rw[hs m n k (by omega) (by omega)];rfl
 obtain⟨o,⟨N,hN⟩,hq⟩:=key d fr h h0;refine⟨o,⟨N,λm n hm hn=>hN m n m hm hn hm⟩,?_⟩;obtain⟨e,dM,h1⟩:=o;cases e with
 |normal=>exact hq.elim
 |exit id=>exact hq
 |ret=>exact hq
def W.mono {c:ax}{Y3 Vi:Fr->aa->Prop}{Y4:Nat->Fr->aa->Prop}(hw:W E c fr h Qn Qx Qr)(h1:∀fr h,Qn fr h->Y3 fr h)(h2:∀i fr h,Qx i fr h->Y4 i fr h)(h3:∀fr h,Qr fr h->Vi fr h):W E c fr h Y3 Y4 Vi:=by
 obtain⟨⟨e,dM,hh⟩,hx,hq⟩:=hw;refine⟨⟨e,dM,hh⟩,hx,?_⟩;cases e with
 |normal=>exact h1 _ _ hq
 |exit id=>exact h2 _ _ _ hq
 |ret=>exact h3 _ _ hq
def Ec.X' {f:FuncId}{args:List ae}{c:ax}{rs:List ResultVar}{Q:ae->aa->Prop}(hp:E.uG.get f=none)(hc:E.code f=some (c,rs))
 (hw:W E c (dN args 0 .nil) h (λfr h=>∃v,bw E h fr rs=some v/\Q v h) (λ_ _ _=>False) (λfr h=>∃v,bw E h fr rs=some v/\Q v h)):Ec E f args h Q:=by
 obtain⟨⟨e,dM,h1⟩,⟨N,hN⟩,hq⟩:=hw
 have hs:∀m n,N<=m->N<=n->ba E m (n+1) f args h=tD E rs ⟨e,dM,h1⟩:=by
  intro m n hm hn;show @Option.rec Prim (λ_=>R) (ob (E.code f) λc=>ob (exec E (ba E m n) m c.1 (dN args 0 .nil) h) λo=>tD E c.2 o) (λp=>tP p args h) (E.uG.get f)=_;rw[hp,hc];show ob (exec E (ba E m n) m c (dN args 0 .nil) h) (λo=>tD E rs o)=_;rw[hN m n hm hn]
 have gW:∀v,bw E h1 dM rs=some v->(ob (bw E h1 dM rs) λv=>some (v,h1))=some (v,h1):=λv hv=>by rw[hv]
 cases e with
 |exit id=>exact hq.elim
 |normal =>
  obtain⟨v,hv,hq⟩:=hq;refine⟨v,h1,⟨N+1,λm n hm hn=>?_⟩,hq⟩;obtain⟨n,rfl⟩:∃j,n=j+1:=⟨n-1,by omega⟩;exact(hs m n (by omega) (by omega)).trans (gW v hv)
 |ret =>
  obtain⟨v,hv,hq⟩:=hq;refine⟨v,h1,⟨N+1,λm n hm hn=>?_⟩,hq⟩;obtain⟨n,rfl⟩:∃j,n=j+1:=⟨n-1,by omega⟩;exact(hs m n (by omega) (by omega)).trans (gW v hv)
def Ec.EC {f:FuncId}{args:List ae}{p:Prim}{v:ae}{Q:ae->aa->Prop}(hp:E.uG.get f=some p)(hr:tP p args h=some (v,h'))(hq:Q v h'):Ec E f args h Q:=by
 refine⟨v,h',⟨1,λm n hm hn=>?_⟩,hq⟩;obtain⟨n,rfl⟩:∃j,n=j+1:=⟨n-1,by omega⟩;show @Option.rec Prim (λ_=>R) _ (λp=>tP p args h) (E.uG.get f)=_;rw[hp];exact hr
def Ec.mono {f:FuncId}{args:List ae}{Q Q':ae->aa->Prop}(hc:Ec E f args h Q)(hq:∀v h',Q v h'->Q' v h'):Ec E f args h Q':=by
 obtain⟨v,h',h1,h2⟩:=hc;exact⟨v,h',h1,hq _ _ h2⟩
def rX (s:Nat)(fr:Fr):aJ (.t s) fr=((fr.get s).getD aT):=by
 show @Option.rec ae (λ_=>ae) aT (λv=>v) (fr.get s)=_;cases fr.get s<;>rfl
theorem abr (v:ae)(fr:Fr):aJ (.c v) fr=v:=rfl
def T.ag {α:Type}(t:T α)(k j:Nat)(x:α):(t.set k x).get j=if k=j then some x else t.get j:=by
 by_cases e:k=j
 .subst e;rw[if_pos rfl,T.get_set_same]
 .rw[if_neg e,T.cY _ _ e]
theorem Pr (d:Nat)(fr:Fr)(v:ae):dB (some d) fr v=fr.set d v:=rfl
theorem Pq (fr:Fr)(v:ae):dB none fr v=fr:=rfl
end
def cR {α:Type}(o:Option α)(k:α->Prop):Prop:=match o with
 |some a=>k a
 |none=>False
def jd {α:Type}(a:α)(k:α->Prop):cR (some a) k=k a:=aL
def eQ {α:Type}{o:Option α}{k:α->Prop}:cR o k↔∃a,o=some a/\k a:=by
 cases o<;>simp[cR]
def ur:dS->Bool
 |.call _ _|.invoke _ _ _=>true
 |_=>false
def xD {E:Env}{ao:b9}{o:dS}(h:ur o=false):Pg E ao o=aC o:=by
 cases o<;>first|rfl|cases h
def FD (E:Env)(v:ae)(args:List ae)(h:aa)(K:ae->aa->Prop):Prop :=
 match v with
 |.func f a c=>Nat.blt f 1000000000=true/\Ec E f (gd a (gd args c)) h K
 |_=>False
def xg (E:Env)(v:ae)(name:String)(args:List ae)(h:aa)(K:ae->aa->Prop):Prop :=
 match v with
 |.iface t x=>cR (E.qD t name) λm=>cR (sw E t m.2 x h) λy=>Ec E m.1 (y :: args) h K
 |_=>False
def wo (E:Env)(o:dS)(fr:Fr)(h:aa)(K:ae->aa->Prop):Prop :=
 match o with
 |.call f as=>FD E (aJ f fr) (jw as fr) h K
 |.invoke r n as=>xg E (aJ r fr) n (jw as fr) h K
 |o=>cR (aC o fr h) λr=>K r.1 r.2
def Bx (E:Env)(o:aQ)(fr:Fr)(h:aa)(K:ae->aa->Prop):Prop :=
 match o.guard with
 |none=>wo E o.op fr h K
 |some g=>if bj (some g) fr=true then wo E o.op fr h K else K aT h
def pc (E:Env):List aQ->Fr->aa->(Fr->aa->Prop)->Prop
 |[],fr,h,Q=>Q fr h
 |o :: l,fr,h,Q=>Bx E o fr h λv h'=>pc E l (dB o.dst fr v) h' Q
def rer (l:List aQ)(fr:Fr)(h:aa):Prop:=ko l fr h=true
def wst (E:Env)(base:Nat)(s:aP)(fr:Fr)(h:aa)(Q:Fr->aa->Prop):Prop :=
 match s.cls with
 |.pure=>Bx E s.o fr h λv h'=>Q (dB s.o.dst fr v) h'
 |.read=>Bx E s.o fr h λv h'=>Q (dB s.o.dst fr v) h'
 |.new=>Bx E s.o fr ⟨base+s.i,h.t⟩ λv h'=>Q (dB s.o.dst fr v) ⟨h.next,h'.t⟩
 |.wr=>Bx E s.o fr h λv h'=>rer s.re (dB s.o.dst fr v) h'/\Q (dB s.o.dst fr v) h'
def pX (E:Env)(base:Nat):List aP->Fr->aa->(Fr->aa->Prop)->Prop
 |[],fr,h,Q=>Q fr h
 |s :: l,fr,h,Q=>wst E base s fr h λbP h'=>pX E base l bP h' Q
def Up (v:ae)(A B:Prop):Prop:=∃t,v=.bool t/\(t=true->A)/\(t=false->B)
def wp (E:Env):ax->Fr->aa->(Fr->aa->Prop)->(Nat->Fr->aa->Prop)->(Fr->aa->Prop)->Prop
 |.skip,fr,h,Qn,_,_=>Qn fr h
 |.region l,fr,h,Qn,_,_=>pc E l fr h Qn
 |.drawn n l,fr,h,Qn,_,_=>pX E h.next l fr ⟨h.next+n,h.t⟩ Qn
 |.seq a b,fr,h,Qn,Qx,Qr=>wp E a fr h (λfr h=>wp E b fr h Qn Qx Qr) Qx Qr
 |.cond c a b,fr,h,Qn,Qx,Qr=>Up (aJ c fr) (wp E a fr h Qn Qx Qr) (wp E b fr h Qn Qx Qr)
 |.block id a,fr,h,Qn,Qx,Qr=>wp E a fr h Qn (λj fr h=>if j=id then Qn fr h else Qx j fr h) Qr
 |.loop a,fr,h,_,Qx,Qr=>∃(Inv:Nat->Fr->aa->Prop)(d:Nat),Inv d fr h/\∀d fr h,Inv d fr h->wp E a fr h (λbP h'=>∃d',d'<d/\Inv d' bP h') Qx Qr
 |.exit id,fr,h,_,Qx,_=>Qx id fr h
 |.ret,fr,h,_,_,Qr=>Qr fr h
section
variable{E:Env}{fr bP:Fr}{h h':aa}{Qn Qr:Fr->aa->Prop}{Qx:Nat->Fr->aa->Prop}
def U7 {o:dS}{K:ae->aa->Prop}(hw:wo E o fr h K):∃v h',OpE E o fr h v h'/\K v h':=by
 have ny:(∃f as,o=.call f as)\/(∃r nm as,o=.invoke r nm as)\/ur o=false:=by
  cases o<;>first|exact .inr (.inr rfl)|exact .inl ⟨_,_,rfl⟩|exact .inr (.inl ⟨_,_,_,rfl⟩)
 rcases ny with⟨f,as,rfl⟩|⟨r,nm,as,rfl⟩|hc
 .skip
  .skip
   have hw:FD E (aJ f fr) (jw as fr) h K:=hw;unfold FD at hw;split at hw
   .rename_i g a c he;obtain⟨dL,v,h',⟨N,hN⟩,hk⟩:=hw;refine⟨v,h',⟨N,λm n hm hn=>?_⟩,hk⟩;show rW (ba E m n) f as fr h=_;unfold rW;rw[he];show aO (Nat.blt g 1000000000) (ba E m n g (gd a (gd (jw as fr) c)) h) none=_;rw[dL];exact hN m n hm hn
   .exact hw.elim
 .skip
  .skip
   have hw:xg E (aJ r fr) nm (jw as fr) h K:=hw;unfold xg at hw;split at hw
   .rename_i t x he;obtain⟨m,hm,hw⟩:=eQ.1 hw;obtain⟨y,hy,hw⟩:=eQ.1 hw;obtain⟨v,h',⟨N,hN⟩,hk⟩:=hw;refine⟨v,h',⟨N,λm1 n hm1 hn=>?_⟩,hk⟩;show lg E (ba E m1 n) r nm as fr h=_;unfold lg;rw[he];show ob (E.qD t nm) (λm=>ob (sw E t m.2 x h) λv=>ba E m1 n m.1 (v :: jw as fr) h)=_;rw[hm];show ob (sw E t m.2 x h) (λv=>ba E m1 n m.1 (v :: jw as fr) h)=_;rw[hy];exact hN m1 n hm1 hn
   .exact hw.elim
 .have CO:cR (aC o fr h) (λr=>K r.1 r.2):=by
   cases o<;>first|exact hw|cases hc
  obtain⟨⟨v,h'⟩,hs,hk⟩:=eQ.1 CO;exact⟨v,h',⟨0,λm n _ _=>by rw[xD hc];exact hs⟩,hk⟩
def xQ {o:aQ}{K:ae->aa->Prop}(hw:Bx E o fr h K):∃v h',OpR E o fr h v h'/\K v h':=by
 obtain⟨d,g,o⟩:=o;cases g with
 |none =>
  obtain⟨v,h',⟨N,hN⟩,hk⟩:=U7 (E:=E) (o:=o) hw;exact⟨v,h',⟨N,λm n hm hn=>hN m n hm hn⟩,hk⟩
 |some g =>
  have hw:if bj (some g) fr=true then wo E o fr h K else K aT h:=hw
  by_cases hg:bj (some g) fr=true
  .rw[if_pos hg]at hw;obtain⟨v,h',⟨N,hN⟩,hk⟩:=U7 hw;refine⟨v,h',⟨N,λm n hm hn=>?_⟩,hk⟩;show aO (bj (some g) fr) _ _=_;rw[hg];exact hN m n hm hn
  .rw[if_neg hg]at hw;refine⟨_,_,⟨0,λm n hm hn=>?_⟩,hw⟩;show aO (bj (some g) fr) _ _=_;rw[show bj (some g) fr=false by simpa using hg]
def ML {l:List aQ}:∀{fr:Fr}{h:aa}{Q:Fr->aa->Prop},pc E l fr h Q->WO E l fr h Q:=by
 induction l with
 |nil=>exact λhq=>hq
 |cons o l ih =>
  intro fr h Q hw;obtain⟨v,h',ho,hk⟩:=xQ (show Bx E o fr h _ from hw);exact⟨v,h',ho,ih hk⟩
def YV {base:Nat}{s:aP}{Q:Fr->aa->Prop}(hw:wst E base s fr h Q):∃bP h',(∃N,∀m n,N<=m->N<=n->oq E (ba E m n) base s fr h=some (bP,h'))/\Q bP h':=by
 obtain⟨o,i,c,re⟩:=s;cases c with
 |pure =>
  obtain⟨v,h',⟨N,hN⟩,hk⟩:=xQ (show Bx E o fr h _ from hw);refine⟨_,_,⟨N,λm n hm hn=>?_⟩,hk⟩;show ob (eA E (ba E m n) o fr h) (λr=>some (dB o.dst fr r.1,r.2))=_;rw[hN m n hm hn]
 |read =>
  obtain⟨v,h',⟨N,hN⟩,hk⟩:=xQ (show Bx E o fr h _ from hw);refine⟨_,_,⟨N,λm n hm hn=>?_⟩,hk⟩;show ob (eA E (ba E m n) o fr h) (λr=>some (dB o.dst fr r.1,r.2))=_;rw[hN m n hm hn]
 |new =>
  obtain⟨v,h',⟨N,hN⟩,hk⟩:=xQ (show Bx E o fr ⟨base+i,h.t⟩ _ from hw);refine⟨_,_,⟨N,λm n hm hn=>?_⟩,hk⟩;show ob (eA E (ba E m n) o fr ⟨Nat.add base i,h.t⟩) (λr=>some (dB o.dst fr r.1,(⟨h.next,r.2.t⟩:aa)))=_;rw[show(⟨Nat.add base i,h.t⟩:aa)=⟨base+i,h.t⟩ from rfl,hN m n hm hn]
 |wr =>
  obtain⟨v,h',⟨N,hN⟩,hr,hk⟩:=xQ (show Bx E o fr h _ from hw);refine⟨_,_,⟨N,λm n hm hn=>?_⟩,hk⟩;show ob (eA E (ba E m n) o fr h) (λr=>aO (ko re (dB o.dst fr r.1) r.2) (some (dB o.dst fr r.1,r.2)) none)=_;rw[hN m n hm hn];show aO (ko re (dB o.dst fr v) h') _ _=_;have hr:ko re (dB o.dst fr v) h'=true:=hr;rw[hr]
def BB {base:Nat}{l:List aP}:∀{fr:Fr}{h:aa}{Q:Fr->aa->Prop},pX E base l fr h Q->∃bP h',(∃N,∀m n,N<=m->N<=n->bC E (ba E m n) base l fr h=some (bP,h'))/\Q bP h':=by
 induction l with
 |nil=>intro fr h Q hq;exact⟨fr,h,⟨0,λ_ _ _ _=>rfl⟩,hq⟩
 |cons s l ih =>
  intro fr h Q hw;obtain⟨dM,h1,⟨N1,JO⟩,hw⟩:=YV (show wst E base s fr h _ from hw);obtain⟨iA,h2,⟨N2,Iw⟩,hq⟩:=ih hw;refine⟨iA,h2,⟨max N1 N2,λm n hm hn=>?_⟩,hq⟩;show ob (oq E (ba E m n) base s fr h) (λr=>bC E (ba E m n) base l r.1 r.2)=_;rw[JO m n (by omega) (by omega)];exact Iw m n (by omega) (by omega)
def YU {c:ax}:∀{fr:Fr}{h:aa}{Qn Qr:Fr->aa->Prop}{Qx:Nat->Fr->aa->Prop},wp E c fr h Qn Qx Qr->W E c fr h Qn Qx Qr:=by
 induction c with
 |skip=>exact λhw=>W.skip hw
 |region l=>exact λhw=>W.region (ML hw)
 |drawn k l =>
  intro fr h Qn Qr Qx hw;obtain⟨bP,h',⟨N,hN⟩,hq⟩:=BB (show pX E h.next l fr ⟨h.next+k,h.t⟩ Qn from hw);refine⟨⟨.normal,bP,h'⟩,⟨N,λm n hm hn=>?_⟩,hq⟩;show ob (bC E (ba E m n) h.next l fr ⟨Nat.add h.next k,h.t⟩) (λp=>some (⟨.normal,p.1,p.2⟩:Out))=_;rw[show(⟨Nat.add h.next k,h.t⟩:aa)=⟨h.next+k,h.t⟩ from rfl,hN m n hm hn]
 |seq a b iha ihb=>exact λhw=>W.seq ((iha hw).mono (λ_ _ h=>ihb h) (λ_ _ _ h=>h) (λ_ _ h=>h))
 |cond c a b iha ihb =>
  rintro fr h Qn Qr Qx ⟨t,hc,h1,h2⟩;exact W.cond t hc (λe=>iha (h1 e)) (λe=>ihb (h2 e))
 |block id a ih=>exact λhw=>W.block (ih hw)
 |loop a ih =>
  rintro fr h Qn Qr Qx ⟨Inv,d,h0,hs⟩;exact W.loop Inv (λd fr h hi=>ih (hs d fr h hi)) h0
 |exit id=>exact λhw=>W.exit hw
 |ret=>exact λhw=>W.ret hw
def Ec.of_wp {f:FuncId}{args:List ae}{c:ax}{rs:List ResultVar}{Q:ae->aa->Prop}(hp:E.uG.get f=none)(hc:E.code f=some (c,rs))
 (hw:wp E c (dN args 0 .nil) h (λfr h=>cR (bw E h fr rs) λv=>Q v h) (λ_ _ _=>False) (λfr h=>cR (bw E h fr rs) λv=>Q v h)):Ec E f args h Q :=
 Ec.X' hp hc ((YU hw).mono (λ_ _ h=>eQ.1 h) (λ_ _ _ h=>h) (λ_ _ h=>eQ.1 h))
def wp_seq {a b:ax}:wp E (.seq a b) fr h Qn Qx Qr=wp E a fr h (λfr h=>wp E b fr h Qn Qx Qr) Qx Qr:=aL
def wp_skip:wp E .skip fr h Qn Qx Qr=Qn fr h:=aL
def wp_exit {id:Nat}:wp E (.exit id) fr h Qn Qx Qr=Qx id fr h:=aL
def wp_ret:wp E .ret fr h Qn Qx Qr=Qr fr h:=aL
def wp_region {l:List aQ}:wp E (.region l) fr h Qn Qx Qr=pc E l fr h Qn:=aL
def wp_block {id:Nat}{a:ax}:wp E (.block id a) fr h Qn Qx Qr=wp E a fr h Qn (λj fr h=>if j=id then Qn fr h else Qx j fr h) Qr:=aL
def wp_cond {c:au}{a b:ax}(t:Bool)(hc:aJ c fr=.bool t)(h1:t=true->wp E a fr h Qn Qx Qr)(h2:t=false->wp E b fr h Qn Qx Qr):wp E (.cond c a b) fr h Qn Qx Qr:=⟨t,hc,h1,h2⟩
def wp_loop {a:ax}(Inv:Nat->Fr->aa->Prop)(d:Nat)(h0:Inv d fr h)(hs:∀d fr h,Inv d fr h->wp E a fr h (λbP h'=>∃d',d'<d/\Inv d' bP h') Qx Qr):wp E (.loop a) fr h Qn Qx Qr:=⟨Inv,d,h0,hs⟩
def Vb {Q:Fr->aa->Prop}:pc E [] fr h Q=Q fr h:=aL
def Lk {o:dS}{d:Option Nat}{g:Nat×Bool}{l:List aQ}{Q:Fr->aa->Prop}:pc E (⟨d,some g,o⟩ :: l) fr h Q=if bj (some g) fr=true then wo E o fr h (λv h'=>pc E l (dB d fr v) h' Q) else pc E l (dB d fr aT) h Q:=aL
variable{K:ae->aa->Prop}
def ahM {x:au}:wo E (.mv x) fr h K=K (aJ x fr) h:=aL
def adA {op:BinOp}{q:yv}{x y:au}:wo E (.bin op q x y) fr h K=cR (kZ op q (aJ x fr) (aJ y fr)) λv=>K v h:=by
 show cR (ob (kZ op q (aJ x fr) (aJ y fr)) λv=>some (v,h)) _=_;cases kZ op q (aJ x fr) (aJ y fr)<;>rfl
def YQ {f:au}{as:List au}:wo E (.call f as) fr h K=FD E (aJ f fr) (jw as fr) h K:=aL
def IX {f:FuncId}{a c args:List ae}:FD E (.func f a c) args h K=(Nat.blt f 1000000000=true/\Ec E f (gd a (gd args c)) h K):=aL
end
def We (k:IntKind)(q:yv)(a b:Int):kZ .lss q (.int k a) (.int k b)=some (.bool (decide (a<b))):=by cases k<;>(show some (ae.bool (Km a b))=_;rw[lN])
def Wc (k:IntKind)(q:yv)(a b:Int):kZ .gtr q (.int k a) (.int k b)=some (.bool (decide (b<a))):=by cases k<;>(show some (ae.bool (Km b a))=_;rw[lN])
def Wd (k:IntKind)(q:yv)(a b:Int):kZ .leq q (.int k a) (.int k b)=some (.bool (!decide (b<a))):=by cases k<;>(show some (ae.bool (not (Km b a)))=_;rw[lN])
def Wb (k:IntKind)(q:yv)(a b:Int):kZ .geq q (.int k a) (.int k b)=some (.bool (!decide (a<b))):=by cases k<;>(show some (ae.bool (not (Km a b)))=_;rw[lN])
def Wa (k:IntKind)(q:yv)(a b:Int):kZ .eql q (.int k a) (.int k b)=some (.bool (decide (a=b))):=by
 cases k<;>(show some (ae.bool (NI a b))=_;rw[lK];rfl)
def Wf (k:IntKind)(q:yv)(a b:Int):kZ .neq q (.int k a) (.int k b)=some (.bool (!decide (a=b))):=by
 cases k<;>(show some (ae.bool (not (NI a b)))=_;rw[lK];rfl)
def V9 (k:IntKind)(q:yv)(a b:Int):kZ .add q (.int k a) (.int k b)=some (.int k (k.wrap (a+b))):=by
 cases k<;>(show some (ae.int _ (jt _ (V0 a b)))=_;rw[ia,Dk])
def Wg (k:IntKind)(q:yv)(a b:Int):kZ .sub q (.int k a) (.int k b)=some (.int k (k.wrap (a-b))):=by
 cases k<;>(show some (ae.int _ (jt _ (YG a b)))=_;rw[ia,MH])
def Q6 (q:yv)(a b:List Nat):kZ .eql q (.str a) (.str b)=some (.bool (decide (a=b))):=by
 show some (ae.bool (eqStr a b))=_;rw[jC]
def Q8 (q:yv)(a b:List Nat):kZ .neq q (.str a) (.str b)=some (.bool (!decide (a=b))):=by
 show some (ae.bool (not (eqStr a b)))=_;rw[jC]
def wrap_i64 {n:Int}(h0:-9223372036854775808<=n)(h1:n<9223372036854775808):IntKind.i64.wrap n=n:=by
 unfold IntKind.wrap;simp only[IntKind.signed,IntKind.bits,Bool.true_and,decide_eq_true_eq,ge_iff_le];split<;>omega
def T.Da {α:Type}(x y:Option α):∀(p:List Bool)(t:T α),T.rz x p (T.rz y p t)=T.rz x p t
 |[],t=>by cases t<;>rfl
 |b :: p,t=>by
  have ih:=T.Da x y p;cases t with
  |nil =>
   cases b
   .show T.node none .nil (T.rz x p (T.rz y p .nil))=T.node none .nil (T.rz x p .nil);rw[ih]
   .show T.node none (T.rz x p (T.rz y p .nil)) .nil=T.node none (T.rz x p .nil) .nil;rw[ih]
  |node v l r =>
   cases b
   .show T.node v l (T.rz x p (T.rz y p r))=T.node v l (T.rz x p r);rw[ih]
   .show T.node v (T.rz x p (T.rz y p l)) r=T.node v (T.rz x p l) r;rw[ih]
def T.set_set {α:Type}(t:T α)(k:Nat)(x y:α):(t.set k x).set k y=t.set k y:=T.Da _ _ _ _
def aa.UE (h:aa)(o o':aE):(h.push o).put h.next o'=h.push o':=by
 show(⟨_,(h.t.set h.next o).set h.next o'⟩:aa)=_;rw[T.set_set];rfl
def aa.Ys (h:aa)(b:Nat)(o o':aE):(h.put b o).put b o'=h.put b o':=by
 show(⟨_,(h.t.set b o).set b o'⟩:aa)=_;rw[T.set_set];rfl
def aN (h:aa)(b o:Nat):Option ae:=eJ (h.get b) λc _ own=>ob (fW c o) λv=>aO (HG own v) (some v) none
def eI (h:aa)(b o n:Nat):Option (List ae):=eJ (h.get b) λc _ own=>aO (and (Nat.ble (Nat.add o n) (cJ c)) (yk own (bD n (bG o c)))) (some (bD n (bG o c))) none
def cG {h h':aa}{b:Nat}(e:h.get b=h'.get b)(o:Nat):aN h b o=aN h' b o:=by unfold aN;rw[e]
def Ee {h h':aa}{b:Nat}(e:h.get b=h'.get b)(o n:Nat):eI h b o n=eI h' b o n:=by unfold eI;rw[e]
def aq {h:aa}{b:Nat}{c:List ae}{e:TypeId}(hb:h.get b=some (.cells c e))(o:Nat):aN h b o=c[o]?:=by
 unfold aN;rw[hb];show ob (fW c o) (λv=>some v)=_;rw[fT];cases c[o]?<;>rfl
def bX {h:aa}{b:Nat}{c:List ae}{e:TypeId}(hb:h.get b=some (.cells c e)){o n:Nat}(hn:o+n<=c.length):eI h b o n=some ((c.drop o).take n):=by
 unfold eI;rw[hb];show aO (and (Nat.ble (Nat.add o n) (cJ c)) true) (some (bD n (bG o c))) none=_;rw[bV,cW,df,bq,if_pos (by simpa using hn)]
def aH (h:aa)(c:List ae)(e:TypeId)(o:Nat):aN (h.push (.cells c e)) h.next o=c[o]?:=aq (aa.ai _ _) o
def ir (h:aa)(c:List ae)(e:TypeId){o n:Nat}(hn:o+n<=c.length):eI (h.push (.cells c e)) h.next o n=some ((c.drop o).take n):=bX (aa.ai _ _) hn
def bt {h:aa}{b:Nat}(hb:b<h.next)(x:aE)(o:Nat):aN (h.push x) b o=aN h b o:=cG (aa.aA _ _ (by omega)) o
def fh (v:ae):Option (List ae):=fM v some
def qK {β:Type}(v:ae)(k:List ae->Option β):fM v k=ob (fh v) k:=by cases v<;>rfl
theorem FF (b:Bool):fh (.bool b)=some [.bool b]:=rfl
theorem I5 (k:IntKind)(n:Int):fh (.int k n)=some [.int k n]:=rfl
theorem I8 (s:List Nat):fh (.str s)=some [.str s]:=rfl
theorem BO:fh .dt=some [.dt]:=rfl
theorem I7 (b o:Nat):fh (.ptr b o)=some [.ptr b o]:=rfl
theorem yz:fh .af=some [.af]:=rfl
theorem Dy (b o n c:Nat)(e:Bool):fh (.slice b o n c e)=some [.slice b o n c e]:=rfl
theorem BN:fh .b8=some [.b8]:=rfl
theorem I6 (r:Nat):fh (.map r)=some [.map r]:=rfl
theorem FG (f:FuncId)(a c:List ae):fh (.func f a c)=some [.func f a c]:=rfl
theorem zC:fh .fb=some [.fb]:=rfl
theorem Dx (t:TypeId)(v:ae):fh (.iface t v)=some [.iface t v]:=rfl
theorem yy:fh .dq=some [.dq]:=rfl
theorem I0 (l:List ae):fh (.agg l)=some l:=rfl
def bM {v:ae}(h:v.flat=true):fh v=some [v]:=by cases v<;>first|rfl|cases h
theorem ac2 {α:Type}(l:List α)(vs:List α):over l 0 vs=og vs l:=rfl
theorem ac3 {α:Type}(a:α)(l vs:List α):over (a :: l) 1 vs=a :: over l 0 vs:=rfl
theorem ac4 {α:Type}(a:α)(l vs:List α):over (a :: l) 2 vs=a :: over l 1 vs:=rfl
theorem ac5 {α:Type}(a:α)(l vs:List α):over (a :: l) 3 vs=a :: over l 2 vs:=rfl
theorem ac6 {α:Type}(a:α)(l vs:List α):over (a :: l) 4 vs=a :: over l 3 vs:=rfl
theorem ac7 {α:Type}(a:α)(l vs:List α):over (a :: l) 5 vs=a :: over l 4 vs:=rfl
theorem Pn {α:Type}(l:List α):og [] l=l:=rfl
theorem KO {α:Type}(v a:α)(vs l:List α):og (v :: vs) (a :: l)=v :: og vs l:=rfl
def aap (c x y:ae)(h:aa)(K:ae->aa->Prop):Prop:=match c with
 |.bool t=>K (aO t x y) h
 |_=>False
def aad (v:ae)(h:aa)(K:ae->aa->Prop):Prop:=match v with
 |.ptr b o=>cR (aN h b o) λx=>K x h
 |_=>False
def T1 (n:Nat)(v:ae)(h:aa)(K:ae->aa->Prop):Prop:=match v with
 |.ptr b o=>cR (eI h b o n) λl=>K (.agg l) h
 |_=>False
def putAt (h:aa)(b o n:Nat)(vs:List ae):Option aa:=onCells (h.get b) λc e=>aO (and (Nat.beq (cJ vs) n) (Nat.ble (Nat.add o n) (cJ c))) (some (h.put b (.cells (over c o vs) e))) none
def Le (n:Nat)(a v:ae)(h:aa)(K:ae->aa->Prop):Prop:=match a with
 |.ptr b o=>cR (fh v) λvs=>cR (putAt h b o n vs) λh'=>K aT h'
 |_=>False
def X5 (v:ae)(h:aa)(K:ae->aa->Prop):Prop:=match v with
 |.ptr b o=>K (.ptr b o) h
 |.func f a c=>K (.func f a c) h
 |.iface t x=>K (.iface t x) h
 |_=>False
def aho (v:ae)(h:aa)(K:ae->aa->Prop):Prop:=match v with
 |.bool t=>K (.bool (!t)) h
 |_=>False
def Ml (v:ae)(h:aa)(K:ae->aa->Prop):Prop:=match v with
 |.str s=>K (.int .i64 (s.length:Int)) h
 |_=>False
def cH (v:ae)(h:aa)(K:ae->aa->Prop):Prop:=match v with
 |.af=>K (.int .i64 0) h
 |.slice _ _ n _ _=>K (.int .i64 (n:Int)) h
 |_=>False
def TO (v i:ae)(h:aa)(K:ae->aa->Prop):Prop:=match v,i with
 |.str s,.int _ n=>0<=n/\cR (s[n.toNat]?) λb=>K (.int .u8 (b:Int)) h
 |_,_=>False
def fI (size:Nat)(v i:ae)(h:aa)(K:ae->aa->Prop):Prop:=match v,i with
 |.slice b o n _ _,.int _ j=>0<=j/\j.toNat<n/\K (.ptr b (o+j.toNat*size)) h
 |_,_=>False
def Sy (off:Nat)(v:ae)(h:aa)(K:ae->aa->Prop):Prop:=match v with
 |.ptr b o=>K (.ptr b (o+off)) h
 |_=>False
def Uv (off:Nat)(v:ae)(h:aa)(K:ae->aa->Prop):Prop:=match v with
 |.agg l=>cR (l[off]?) λx=>K x h
 |_=>False
def Uw (off n:Nat)(v:ae)(h:aa)(K:ae->aa->Prop):Prop:=match v with
 |.agg l=>K (.agg ((l.drop off).take n)) h
 |_=>False
def Gq (i:Nat)(v:ae)(h:aa)(K:ae->aa->Prop):Prop:=match v with
 |.eC l=>cR (l[i]?) λx=>K x h
 |_=>False
def Zk (k:IntKind)(v:ae)(h:aa)(K:ae->aa->Prop):Prop:=match v with
 |.int _ n=>K (.int k (k.wrap n)) h
 |_=>False
def ahH (v:ae)(h:aa)(K:ae->aa->Prop):Prop:=match v with
 |.str s=>K (.str s) h
 |_=>False
def T2 (h:aa)(v:ae):Option (List (ae×ae×Nat)):=ss v (some []) λr=>jb (h.get r) λes _=>some es
def vT (q:iH)(z m k:ae)(ok:Bool)(h:aa)(K:ae->aa->Prop):Prop :=
 cR (T2 h m) λes=>nT q k=true/\cR (fZ q k es 0) λr=>match r with
  |none=>K (aO ok (.eC [z,.bool false]) z) h
  |some p=>K (aO ok (.eC [p.2,.bool true]) p.2) h
section
variable{E:Env}{fr bP:Fr}{h h':aa}{K:ae->aa->Prop}
def kj {α β:Type}(o:Option α)(f:α->Option β)(k:β->Prop):cR (ob o f) k=cR o λa=>cR (f a) k:=by cases o<;>rfl
def jo {α:Type}(b:Bool)(o:Option α)(k:α->Prop):cR (aO b o none) k=(b=true/\cR o k):=by cases b<;>simp[aO,cR]
def YS {c a b:au}:wo E (.pick c a b) fr h K=aap (aJ c fr) (aJ a fr) (aJ b fr) h K:=by
 show cR (bK (aJ c fr) _) _=_;cases aJ c fr<;>rfl
def adB {t:TypeId}{x:au}:wo E (.box t x) fr h K=cR (fh (aJ x fr)) λc=>K (.ptr h.next 0) (h.push (.cells c t)):=by
 have e:wo E (.box t x) fr h K=cR (I.box t x fr h) (λr=>K r.1 r.2):=rfl;rw[e];unfold I.box;rw[qK];cases fh (aJ x fr)<;>rfl
def U4 {x:au}:wo E (.ct x) fr h K=aad (aJ x fr) h K:=by
 show cR (gu (aJ x fr) λb o=>eJ (h.get b) λc _ own=>ob (fW c o) λv=>aO (HG own v) (some (v,h)) none) (λr=>K r.1 r.2)=_;cases aJ x fr<;>first|rfl|skip
 case ptr b o =>
  show cR (eJ (h.get b) λc _ own=>ob (fW c o) λv=>aO (HG own v) (some (v,h)) none) (λr=>K r.1 r.2)=cR (aN h b o) λx=>K x h;unfold aN;cases hg:h.get b with
  |none=>rfl
  |some VH =>
   cases VH with
   |cells c e =>
    show cR (ob (fW c o) λv=>some (v,h)) _=cR (ob (fW c o) λv=>some v) _;cases fW c o<;>rfl
   |ro c e =>
    show cR (ob (fW c o) λv=>aO (HG false v) (some (v,h)) none) (λr=>K r.1 r.2)=cR (ob (fW c o) λv=>aO (HG false v) (some v) none) λx=>K x h;rw[kj,kj];simp only[jo,jd]
   |_=>rfl
def U5 {n:Nat}{x:au}:wo E (.fJ n x) fr h K=T1 n (aJ x fr) h K:=by
 show cR (gu (aJ x fr) λb o=>eJ (h.get b) λc _ own=>aO (and (Nat.ble (Nat.add o n) (cJ c)) (yk own (bD n (bG o c)))) (some (ae.agg (bD n (bG o c)),h)) none) (λr=>K r.1 r.2)=_;cases aJ x fr<;>first|rfl|skip
 case ptr b o =>
  show cR (eJ (h.get b) λc _ own=>aO (and (Nat.ble (Nat.add o n) (cJ c)) (yk own (bD n (bG o c)))) (some (ae.agg (bD n (bG o c)),h)) none) (λr=>K r.1 r.2)=cR (eI h b o n) λl=>K (.agg l) h;unfold eI;cases hg:h.get b with
  |none=>rfl
  |some VH =>
   cases VH with
   |cells c e =>
    show cR (aO _ (some (ae.agg (bD n (bG o c)),h)) none) _=cR (aO _ (some (bD n (bG o c))) none) _;rw[jo,jo];rfl
   |ro c e =>
    show cR (aO _ (some (ae.agg (bD n (bG o c)),h)) none) _=cR (aO _ (some (bD n (bG o c))) none) _;rw[jo,jo];rfl
   |_=>rfl
def Va {n:Nat}{a v:au}:wo E (.store n a v) fr h K=Le n (aJ a fr) (aJ v fr) h K:=by
 have e:wo E (.store n a v) fr h K=cR (I.store n a v fr h) (λr=>K r.1 r.2):=rfl;rw[e];unfold I.store;cases aJ a fr<;>first|rfl|skip
 case ptr b o =>
  have e2:(λ(c:List ae)(e:TypeId)=>fM (aJ v fr) λvs=>aO (and (Nat.beq (cJ vs) n) (Nat.ble (Nat.add o n) (cJ c))) (some (aT,h.put b (.cells (over c o vs) e))) none)
      = λc e=>ob (fh (aJ v fr)) λvs=>aO (and (Nat.beq (cJ vs) n) (Nat.ble (Nat.add o n) (cJ c))) (some (aT,h.put b (.cells (over c o vs) e))) none:=by
   funext c e;rw[qK]
  have e3:gu (ae.ptr b o) (λb o=>onCells (h.get b) λc e=>fM (aJ v fr) λvs=>aO (and (Nat.beq (cJ vs) n) (Nat.ble (Nat.add o n) (cJ c))) (some (aT,h.put b (.cells (over c o vs) e))) none)
      = onCells (h.get b) (λ(c:List ae)(e:TypeId)=>fM (aJ v fr) λvs=>aO (and (Nat.beq (cJ vs) n) (Nat.ble (Nat.add o n) (cJ c))) (some (aT,h.put b (.cells (over c o vs) e))) none):=rfl
  rw[e3,e2];unfold Le;cases fh (aJ v fr) with
  |none =>
   cases hg:h.get b with
   |none=>rfl
   |some VH=>cases VH<;>rfl
  |some vs =>
   show _=cR (putAt h b o n vs) λh'=>K aT h';unfold putAt;cases hg:h.get b with
   |none=>rfl
   |some VH =>
    cases VH with
    |cells c e =>
     show cR (aO (and (Nat.beq (cJ vs) n) (Nat.ble (Nat.add o n) (cJ c))) (some (aT,h.put b (.cells (over c o vs) e))) none) (λr=>K r.1 r.2)=cR (aO (and (Nat.beq (cJ vs) n) (Nat.ble (Nat.add o n) (cJ c))) (some (h.put b (.cells (over c o vs) e))) none) (λh'=>K aT h');rw[jo,jo];rfl
    |_=>rfl
def Ip {x:au}:wo E (.nilCheck x) fr h K=X5 (aJ x fr) h K:=by
 show cR (I.nilCheck x fr h) _=_;unfold I.nilCheck;cases aJ x fr<;>rfl
def adC {x:au}:wo E (.not x) fr h K=aho (aJ x fr) h K:=by
 show cR (bK (aJ x fr) _) _=_;cases aJ x fr<;>rfl
def Lh {x:au}:wo E (.len .str x) fr h K=Ml (aJ x fr) h K:=by
 show cR (kH (aJ x fr) λs=>some (ae.int .i64 (.ofNat (cJ s)),h)) (λr=>K r.1 r.2)=_;cases aJ x fr<;>first|rfl|skip
 case str s=>show K (.int .i64 (.ofNat (cJ s))) h=K (.int .i64 (s.length:Int)) h;rw[bV];rfl
def U3 {x:au}:wo E (.len .slice x) fr h K=cH (aJ x fr) h K:=by
 show cR (gR (aJ x fr) _ _) _=_;cases aJ x fr<;>rfl
def CW {β:Type}(k:IntKind)(n:Int)(f:Nat->Option β)(k2:β->Prop):cR (js (.int k n) f) k2=(0<=n/\cR (f n.toNat) k2):=by
 cases n with
 |ofNat m=>simp;rfl
 |negSucc m =>
  have:¬(0:Int)<=Int.negSucc m:=by omega
  simp only[this,false_and];rfl
def PV {x i:au}:wo E (.kh x i) fr h K=TO (aJ x fr) (aJ i fr) h K:=by
 show cR (kH (aJ x fr) λs=>js (aJ i fr) λi=>ob (fW s i) λb=>some (ae.int .u8 (.ofNat b),h)) (λr=>K r.1 r.2)=_;cases aJ x fr<;>first|rfl|skip
 case str s =>
  show cR (js (aJ i fr) λi=>ob (fW s i) λb=>some (ae.int .u8 (.ofNat b),h)) (λr=>K r.1 r.2)=_;cases aJ i fr<;>first|rfl|skip
  case int k n =>
   rw[CW,kj,fT];rfl
def YR {size:Nat}{x i:au}:wo E (.kz size x i) fr h K=fI size (aJ x fr) (aJ i fr) h K:=by
 show cR (gR (aJ x fr) none λb o n _ _=>js (aJ i fr) λi=>aO (Nat.blt i n) (some (ae.ptr b (Nat.add o (Nat.mul i size)),h)) none) (λr=>K r.1 r.2)=_;cases aJ x fr<;>first|rfl|skip
 case slice b o n c e =>
  show cR (js (aJ i fr) λi=>aO (Nat.blt i n) (some (ae.ptr b (Nat.add o (Nat.mul i size)),h)) none) (λr=>K r.1 r.2)=_;cases aJ i fr<;>first|rfl|skip
  case int k j =>
   rw[CW,jo,qJE];rfl
def U2 {off:Nat}{x:au}:wo E (.dh off x) fr h K=Sy off (aJ x fr) h K:=by
 show cR (gu (aJ x fr) _) _=_;cases aJ x fr<;>rfl
def U8 {off:Nat}{x:au}:wo E (.lV off x) fr h K=Uv off (aJ x fr) h K:=by
 show cR (jH (aJ x fr) λl=>ob (fW l off) λv=>some (v,h)) _=_;cases aJ x fr<;>first|rfl|skip
 case agg l=>show cR (ob (fW l off) λv=>some (v,h)) _=_;rw[kj,fT];rfl
def U9 {off n:Nat}{x:au}:wo E (.mY off n x) fr h K=Uw off n (aJ x fr) h K:=by
 show cR (jH (aJ x fr) λl=>some (ae.agg (bD n (bG off l)),h)) _=_;cases aJ x fr<;>first|rfl|skip
 case agg l=>show K (.agg (bD n (bG off l))) h=K (.agg ((l.drop off).take n)) h;rw[cW,df]
def Lg {i:Nat}{x:au}:wo E (.extract i x) fr h K=Gq i (aJ x fr) h K:=by
 show cR (A6 (aJ x fr) λl=>ob (fW l i) λv=>some (v,h)) _=_;cases aJ x fr<;>first|rfl|skip
 case eC l=>show cR (ob (fW l i) λv=>some (v,h)) _=_;rw[kj,fT];rfl
def YO {k:IntKind}{x:au}:wo E (.px k x) fr h K=Zk k (aJ x fr) h K:=by
 show cR (jr (aJ x fr) λ_ n=>some (ae.int k (jt k n),h)) _=_;cases aJ x fr<;>first|rfl|skip
 case int k' n=>show K (.int k (jt k n)) h=K (.int k (k.wrap n)) h;rw[ia]
def YP {x:au}:wo E (.uc x) fr h K=ahH (aJ x fr) h K:=by
 show cR (kH (aJ x fr) _) _=_;cases aJ x fr<;>rfl
def U6:wo E .mkMap fr h K=K (.map h.next) (h.push (.map [] 0)):=aL
def Lj {t:TypeId}{x:au}:wo E (.eP t x) fr h K=K (.iface t (aJ x fr)) h:=aL
def PY {f:FuncId}{a c:List au}:wo E (.iu f a c) fr h K=K (.func f (jw a fr) (jw c fr)) h:=aL
def PW {q:iH}{z:ae}{x k:au}{ok:Bool}:wo E (.lookup q z x k ok) fr h K=vT q z (aJ x fr) (aJ k fr) ok h K:=by
 show cR (ob (T2 h (aJ x fr)) λes=>aO (nT q (aJ k fr)) (ob (fZ q (aJ k fr) es 0) λr =>
  @Option.rec (Nat×ae) (λ_=>R) (some (aO ok (.eC [z,.bool false]) z,h)) (λp=>some (aO ok (.eC [p.2,.bool true]) p.2,h)) r) none) (λr=>K r.1 r.2)=_
 rw[kj];unfold vT;congr 1;funext es;rw[jo,kj];congr 2;funext r;cases r<;>rfl
def KT (t:Bool)(x y:ae):aap (.bool t) x y h K=K (aO t x y) h:=aL
theorem TD {α:Type}(x y:α):aO true x y=x:=rfl
theorem Ox {α:Type}(x y:α):aO false x y=y:=rfl
def Uc (b o:Nat):X5 (.ptr b o) h K=K (.ptr b o) h:=aL
def O0 (f:FuncId)(a c:List ae):X5 (.func f a c) h K=K (.func f a c) h:=aL
def Kw (t:TypeId)(x:ae):X5 (.iface t x) h K=K (.iface t x) h:=aL
def O3 (t:Bool):aho (.bool t) h K=K (.bool (!t)) h:=aL
def Hf (s:List Nat):Ml (.str s) h K=K (.int .i64 (s.length:Int)) h:=aL
def Ki:cH .af h K=K (.int .i64 0) h:=aL
def Ef (b o n c:Nat)(e:Bool):cH (.slice b o n c e) h K=K (.int .i64 (n:Int)) h:=aL
def sg (size b o n c:Nat)(e:Bool)(k:IntKind)(j:Int):fI size (.slice b o n c e) (.int k j) h K=(0<=j/\j.toNat<n/\K (.ptr b (o+j.toNat*size)) h):=aL
def JF (off b o:Nat):Sy off (.ptr b o) h K=K (.ptr b (o+off)) h:=aL
def KQ (off n:Nat)(l:List ae):Uw off n (.agg l) h K=K (.agg ((l.drop off).take n)) h:=aL
def Nv (k k':IntKind)(n:Int):Zk k (.int k' n) h K=K (.int k (k.wrap n)) h:=aL
def UU (s:List Nat):ahH (.str s) h K=K (.str s) h:=aL
def aD {b o n:Nat}{vs c:List ae}{e:TypeId}(hb:h.get b=some (.cells c e))(hv:vs.length=n)(hn:o+n<=c.length):putAt h b o n vs=some (h.put b (.cells (over c o vs) e)):=by
 unfold putAt;rw[hb];show aO (and (Nat.beq (cJ vs) n) (Nat.ble (Nat.add o n) (cJ c))) _ _=_;rw[bV,bV,bq,if_pos (by simpa[hv] using hn)]
def je {o n:Nat}{vs c:List ae}{e:TypeId}(hv:vs.length=n)(hn:o+n<=c.length):putAt (h.push (.cells c e)) h.next o n vs=some (h.push (.cells (over c o vs) e)):=by
 rw[aD (aa.ai _ _) hv hn,aa.UE]
theorem Sw:jw [] fr=[]:=rfl
theorem NO (x:au)(l:List au):jw (x :: l) fr=aJ x fr :: jw l fr:=rfl
theorem QN {α:Type}(l:List α):gd [] l=l:=rfl
theorem MY {α:Type}(x:α)(a l:List α):gd (x :: a) l=x :: gd a l:=rfl
def DN (s:Nat):(bj (some (s,true)) fr=true)=(aJ (.t s) fr=.bool true):=by
 rw[rX];show((@Option.rec Bool (λ_=>Bool) false (λb=>aO b true (not true)) (ob (fr.get s) λv=>bK v λb=>some b))=true)=_;cases fr.get s with
 |none=>simp[aT]
 |some v=>cases v<;>first|(rename_i b;cases b<;>simp[ob,bK,aO])|simp[ob,bK]
def BW (s:Nat):(bj (some (s,false)) fr=true)=(aJ (.t s) fr=.bool false):=by
 rw[rX];show((@Option.rec Bool (λ_=>Bool) false (λb=>aO b false (not false)) (ob (fr.get s) λv=>bK v λb=>some b))=true)=_;cases fr.get s with
 |none=>simp[aT]
 |some v=>cases v<;>first|(rename_i b;cases b<;>simp[ob,bK,aO])|simp[ob,bK]
end
theorem Hq (i:Nat)(t:Fr):dN [] i t=t:=rfl
theorem Eh (a:ae)(l:List ae)(i:Nat)(t:Fr):dN (a :: l) i t=dN l (i+1) (t.set i a):=rfl
def UJ {E:Env}{h:aa}{fr:Fr}{s:Nat}(k:ae->Prop):cR (bw E h fr [.tmp s]) k=k (aJ (.t s) fr):=aL
def UK {E:Env}{h:aa}{fr:Fr}{s r:Nat}(k:ae->Prop):cR (bw E h fr [.tmp s,.tmp r]) k=k (.eC [aJ (.t s) fr,aJ (.t r) fr]):=aL
def KX {E:Env}{h:aa}{fr:Fr}{s r q:Nat}(k:ae->Prop):cR (bw E h fr [.tmp s,.tmp r,.tmp q]) k=k (.eC [aJ (.t s) fr,aJ (.t r) fr,aJ (.t q) fr]):=aL
def rQ (v:ae)(A B:Prop):Prop:=match v with
 |.bool t=>(t=true->A)/\(t=false->B)
 |_=>False
section
variable{E:Env}{fr bP:Fr}{h h':aa}{K:ae->aa->Prop}{Qn Qr:Fr->aa->Prop}{Qx:Nat->Fr->aa->Prop}
def Vd {c:au}{a b:ax}:wp E (.cond c a b) fr h Qn Qx Qr=rQ (aJ c fr) (wp E a fr h Qn Qx Qr) (wp E b fr h Qn Qx Qr):=by
 show Up (aJ c fr) _ _=_;cases aJ c fr<;>simp[Up,rQ]
def Jn (t:Bool)(A B:Prop):rQ (.bool t) A B=((t=true->A)/\(t=false->B)):=aL
def Iq {o:dS}{d:Option Nat}{g:Nat×Bool}{l:List aQ}{Q:Fr->aa->Prop} :
 pc E (⟨d,some g,o⟩ :: l) fr h Q=((bj (some g) fr=true->wo E o fr h (λv h'=>pc E l (dB d fr v) h' Q))/\(¬bj (some g) fr=true->pc E l (dB d fr aT) h Q)):=by
 rw[Lk];by_cases e:bj (some g) fr=true<;>simp[e]
end
def vR (c a b:Prop):Prop:=(c->a)/\(¬c->b)
section
variable{E:Env}{fr bP:Fr}{h h':aa}{K:ae->aa->Prop}{Q:Fr->aa->Prop}
def Jo (t:Bool)(A B:Prop):rQ (.bool t) A B=vR (t=true) A B:=by
 rw[Jn];unfold vR;cases t<;>simp
def Ir {o:dS}{d:Option Nat}{g:Nat×Bool}{l:List aQ}:pc E (⟨d,some g,o⟩ :: l) fr h Q=vR (bj (some g) fr=true) (wo E o fr h (λv h'=>pc E l (dB d fr v) h' Q)) (pc E l (dB d fr aT) h Q):=Iq
end
structure aU (h h':aa):Prop where
 next:h.next<=h'.next
 get:∀b,b<h.next->h'.get b=h.get b
def aU.refl (h:aa):aU h h:=⟨qQY _,λ_ _=>rfl⟩
def aU.trans {a b c:aa}(h1:aU a b)(h2:aU b c):aU a c:=⟨qZC h1.next h2.next,λx hx=>(h2.get x (qQG hx h1.next)).trans (h1.get x hx)⟩
def aU.push {a b:aa}(h1:aU a b)(o:aE):aU a (b.push o):=⟨Nat.le_succ_of_le h1.next,λx hx=>(aa.aA _ _ (by have:=h1.next;omega)).trans (h1.get x hx)⟩
def aU.put {a b:aa}(h1:aU a b){x:Nat}(hx:a.next<=x)(o:aE):aU a (b.put x o):=⟨h1.next,λy hy=>(aa.ah _ _ (by omega)).trans (h1.get y hy)⟩
def aa.skip (h:aa)(n:Nat):aa:=⟨h.next+n,h.t⟩
theorem aa.OZ (h:aa)(n:Nat):(h.skip n).next=h.next+n:=rfl
def aU.skip {a b:aa}(h1:aU a b)(n:Nat):aU a (b.skip n):=⟨qZC h1.next (qKL _ _),λx hx=>h1.get x hx⟩
def aU.aN {a b:aa}(h1:aU a b){x:Nat}(hx:x<a.next)(o:Nat):AX.aN b x o=AX.aN a x o:=cG (h1.get x hx) o
def aU.eI {a b:aa}(h1:aU a b){x:Nat}(hx:x<a.next)(o n:Nat):AX.eI b x o n=AX.eI a x o n:=Ee (h1.get x hx) o n
theorem TS (h:aa)(n b o:Nat):aN (h.skip n) b o=aN h b o:=rfl
theorem TU (h:aa)(n b o k:Nat):eI (h.skip n) b o k=eI h b o k:=rfl
theorem aa.OY (h:aa)(b:Nat)(o:aE):(h.put b o).next=h.next:=rfl
theorem aa.OU (n b:Nat)(t:T aE)(o:aE):(⟨n,(aa.push ⟨b,t⟩ o).t⟩:aa)=aa.put ⟨n,t⟩ b o:=rfl
theorem aa.acG (h:aa):(⟨h.next,h.t⟩:aa)=h:=rfl
theorem aa.X3 (h:aa)(n:Nat):(⟨h.next+n,h.t⟩:aa)=h.skip n:=rfl
def fP (h:aa)(b o:Nat)(l:List ae):Prop:=b<h.next/\∃c e own,uU (h.get b) c e own/\o+l.length<=c.length/\(c.drop o).take l.length=l/\∀x,x∈l->x.flat=true
def uU.eJ {β:Type}{o:Option aE}{l:List ae}{e:TypeId}{own:Bool}(h:uU o l e own)(k:List ae->TypeId->Bool->Option β):eJ o k=k l e own:=by
 rcases h with⟨rfl,rfl⟩|⟨rfl,rfl⟩<;>rfl
def fP.eI {h:aa}{b o:Nat}{l:List ae}(H:fP h b o l){i n:Nat}(hn:i+n<=l.length):AX.eI h b (o+i) n=some ((l.drop i).take n):=by
 obtain⟨_,c,e,own,hr,hle,hl,hf⟩:=H;unfold AX.eI;rw[hr.eJ]
 have e1:(c.drop (o+i)).take n=(l.drop i).take n:=by
  rw[<-hl,List.drop_take,List.take_take,List.drop_drop];congr 1;omega
 rw[bV,cW,df,e1,bq,if_pos];rw[qZQ,qZB,nZ];exact⟨by show o+i+n<=_;omega,.inr λx hx=>hf x (List.mem_of_mem_drop (qKH hx))⟩
def fP.aN {h:aa}{b o:Nat}{l:List ae}(H:fP h b o l){i:Nat}{x:ae}(hx:l[i]?=some x):AX.aN h b (o+i)=some x:=by
 obtain⟨_,c,e,own,hr,hle,hl,hf⟩:=H;unfold AX.aN;rw[hr.eJ,fT];have hi:=(qQZ.1 hx).1
 have e1:c[o+i]?=some x:=by
  rw[<-hl,qVW,if_pos hi,qXZ]at hx;exact hx
 rw[e1];show aO (HG own x) (some x) none=_;rw[bq,if_pos (za.2 (.inr (hf x (qQK hx))))]
def fP.mono {h h':aa}(hle:aU h h'){b o:Nat}{l:List ae}(H:fP h b o l):fP h' b o l:=by
 obtain⟨hb,c,e,own,hr,h2⟩:=H;exact⟨qQG hb hle.next,c,e,own,by rw[hle.get b hb];exact hr,h2⟩
def fP.get {h h':aa}{b o:Nat}{l:List ae}(H:fP h b o l)(hb:b<h'.next)(hg:h'.get b=h.get b):fP h' b o l:=by
 obtain⟨_,c,e,own,hr,h2⟩:=H;exact⟨hb,c,e,own,by rw[hg];exact hr,h2⟩
def fP.ed {h:aa}{b:Nat}{l:List ae}{e:TypeId}(hb:b<h.next)(hg:h.get b=some (.cells l e))(hf:∀x,x∈l->x.flat=true):fP h b 0 l :=
 ⟨hb,l,e,true,.inl ⟨rfl,hg⟩,by omega,by simp,hf⟩
def fP.sub {h:aa}{b o:Nat}{l:List ae}(H:fP h b o l){i n:Nat}(hn:i+n<=l.length):fP h b (o+i) ((l.drop i).take n):=by
 obtain⟨hb,c,e,own,hr,hle,hl,hf⟩:=H;have hlen:((l.drop i).take n).length=n:=by simp;omega
 refine⟨hb,c,e,own,hr,by rw[hlen];omega,?_,λx hx=>hf x (List.mem_of_mem_drop (qKH hx))⟩;rw[hlen,<-hl,List.drop_take,List.take_take,List.drop_drop];congr 1;omega
def cg (h:aa)(size:Nat)(v:ae)(xs:List (List ae)):Prop :=
 (∀x,x∈xs->x.length=size)/\((xs=[]/\v=.af)\/∃b o c ex,v=.slice b o xs.length c ex/\(xs=[]\/fP h b o xs.flatten))
def cg.mono {h h':aa}(hle:aU h h'){size:Nat}{v:ae}{xs:List (List ae)}(H:cg h size v xs):cg h' size v xs:=by
 obtain⟨h1,h2⟩:=H;refine⟨h1,h2.imp id λ⟨b,o,c,ex,e,hr⟩=>⟨b,o,c,ex,e,hr.imp id λhr=>hr.mono hle⟩⟩
def cg.len {h:aa}{size:Nat}{v:ae}{xs:List (List ae)}(H:cg h size v xs)(h':aa)(K:ae->aa->Prop):cH v h' K=K (.int .i64 (xs.length:Int)) h':=by
 rcases H.2 with⟨rfl,rfl⟩|⟨b,o,c,ex,rfl,_⟩<;>rfl
def uj {α:Type}{size:Nat}:∀{xs:List (List α)},(∀x,x∈xs->x.length=size)->∀{j:Nat}{x:List α},xs[j]?=some x->(xs.flatten.drop (j*size)).take size=x/\j*size+size<=xs.flatten.length
 |[],_,j,x,h=>by simp at h
 |y :: xs,hl,0,x,h=>by
  simp at h;subst h;have:=hl y (by simp);simp[this]
 |y :: xs,hl,j+1,x,h=>by
  have hy:=hl y (by simp);obtain⟨h1,h2⟩:=uj (xs:=xs) (λz hz=>hl z (by simp[hz])) (j:=j) (x:=x) (by simpa using h);rw[qZA];constructor
  .rw[show(j+1)*size=y.length+j*size by rw[hy,qWX];omega,<-List.drop_drop,List.drop_left];exact h1
  .rw[qQM,hy,qWX];omega
def eH {α:Type}{size:Nat}:∀{xs:List (List α)},(∀x,x∈xs->x.length=size)->xs.flatten.length=xs.length*size
 |[],_=>by simp
 |y :: xs,hl=>by
  rw[qZA,qQM,eH (xs:=xs) (λz hz=>hl z (by simp[hz])),hl y (by simp),qZK,qWX];omega
def cg.ix {h:aa}{size:Nat}{v:ae}{xs:List (List ae)}(H:cg h size v xs){j:Nat}{x:List ae}(hx:xs[j]?=some x) :
 ∃b o,fP h b o x/\∀(k:IntKind)(i:Int)(h':aa)(K:ae->aa->Prop),i=(j:Int)->fI size v (.int k i) h' K=K (.ptr b o) h':=by
 have hj:=(qQZ.1 hx).1;obtain⟨h1,h2⟩:=H;rcases h2 with⟨rfl,rfl⟩|⟨b,o,c,ex,rfl,hr⟩
 .simp at hj
 .rcases hr with rfl|hr
  .simp at hj
  .obtain⟨e1,e2⟩:=uj h1 hx;refine⟨b,o+j*size,?_,λk i h' K hi=>?_⟩
   .have:=hr.sub e2;rw[e1]at this;exact this
   .subst hi;rw[sg];simp[hj]
def Yq (q:iH)(r:Nat)(k v:ae)(h:aa)(K:ae->aa->Prop)(o:Option aE):Prop:=match o with
 |some (.map es clock)=>nT q k=true/\cR (fZ q k es 0) λi=>match i with
  |none=>K aT (h.put r (.map (es++[(k,v,clock)]) (clock+1)))
  |some p=>cR (es[p.1]?) λe=>stays q e.1 k=true/\K aT (h.put r (.map (es.modify p.1 λe=>(k,v,e.2.2)) clock))
 |_=>False
def Yr (q:iH)(m k v:ae)(h:aa)(K:ae->aa->Prop):Prop:=match m with
 |.map r=>Yq q r k v h K (h.get r)
 |_=>False
section
variable{E:Env}{fr bP:Fr}{h h':aa}{K:ae->aa->Prop}
def PX {q:iH}{m k v:au}:wo E (.fj q m k v) fr h K=Yr q (aJ m fr) (aJ k fr) (aJ v fr) h K:=by
 have e:wo E (.fj q m k v) fr h K=cR (I.fj q m k v fr h) (λr=>K r.1 r.2):=rfl;rw[e];unfold I.fj;cases aJ m fr<;>first|rfl|skip
 case map r =>
  show cR (jb (h.get r) λes clock=>aO (nT q (aJ k fr)) (ob (fZ q (aJ k fr) es 0) λi =>
   @Option.rec (Nat×ae) (λ_=>R) (some (aT,h.put r (.map (gd es [(aJ k fr,aJ v fr,clock)]) (Nat.succ clock))))
    (λp=>ob (fW es p.1) λe=>aO (stays q e.1 (aJ k fr)) (some (aT,h.put r (.map (xo (λe=>(aJ k fr,aJ v fr,e.2.2)) es p.1) clock))) none) i) none) (λr=>K r.1 r.2)=Yq q r (aJ k fr) (aJ v fr) h K (h.get r)
  cases h.get r with
  |none=>rfl
  |some VH =>
   cases VH with
   |map es clock =>
    show cR (aO (nT q (aJ k fr)) (ob (fZ q (aJ k fr) es 0) λi =>
     @Option.rec (Nat×ae) (λ_=>R) (some (aT,h.put r (.map (gd es [(aJ k fr,aJ v fr,clock)]) (Nat.succ clock))))
      (λp=>ob (fW es p.1) λe=>aO (stays q e.1 (aJ k fr)) (some (aT,h.put r (.map (xo (λe=>(aJ k fr,aJ v fr,e.2.2)) es p.1) clock))) none) i) none) (λr=>K r.1 r.2)=_
    rw[jo,kj];congr 2;funext i;cases i with
    |none=>show K aT (h.put r (.map (gd es [(aJ k fr,aJ v fr,clock)]) (Nat.succ clock)))=_;rw[gQ]
    |some p =>
     show cR (ob (fW es p.1) λe=>aO (stays q e.1 (aJ k fr)) (some (aT,h.put r (.map (xo (λe=>(aJ k fr,aJ v fr,e.2.2)) es p.1) clock))) none) (λr=>K r.1 r.2)=_;rw[kj,fT];congr 1;funext e;rw[jo,X4];rfl
   |_=>rfl
end
def yS (E:Env)(l:List aQ)(fr:Fr)(h:aa):Prop:=rer l fr h
section
variable{E:Env}{fr bP:Fr}{h h':aa}{K:ae->aa->Prop}{Q:Fr->aa->Prop}
def P5 {n:Nat}{l:List aP}{Qx:Nat->Fr->aa->Prop}{Qr:Fr->aa->Prop}:wp E (.drawn n l) fr h Q Qx Qr=pX E h.next l fr (h.skip n) Q:=aL
def Vg {base:Nat}:pX E base [] fr h Q=Q fr h:=aL
def Vc {d:Option Nat}{o:dS}:Bx E ⟨d,none,o⟩ fr h K=wo E o fr h K:=aL
def PZ {d:Option Nat}{g:Nat×Bool}{o:dS}:Bx E ⟨d,some g,o⟩ fr h K=((bj (some g) fr=true->wo E o fr h K)/\(¬bj (some g) fr=true->K aT h)):=by
 show(if bj (some g) fr=true then wo E o fr h K else K aT h)=_;by_cases e:bj (some g) fr=true<;>simp[e]
def By {d:Option Nat}{g:Nat×Bool}{o:dS}:Bx E ⟨d,some g,o⟩ fr h K=vR (bj (some g) fr=true) (wo E o fr h K) (K aT h):=PZ
def Yy:yS E [] fr h=True:=by simp[yS,rer,ko]
def HO {d:Nat}{o:dS}{l:List aQ}(hc:ur o=false):yS E (⟨some d,none,o⟩ :: l) fr h=(wo E o fr h (λv _=>dz 20 v (aJ (.t d) fr)=true)/\yS E l fr h):=by
 have e:yS E (⟨some d,none,o⟩ :: l) fr h=(aO (uJ ⟨some d,none,o⟩ fr h) (ko l fr h) false=true):=rfl;have e2:uJ ⟨some d,none,o⟩ fr h=tb (ob (aC o fr h) λr=>some (dz 20 r.1 (aJ (.t d) fr))):=rfl
 have e3:wo E o fr h (λv _=>dz 20 v (aJ (.t d) fr)=true)=cR (aC o fr h) (λr=>dz 20 r.1 (aJ (.t d) fr)=true):=by
  cases o<;>first|rfl|cases hc
 rw[e,e2,e3];cases aC o fr h with
 |none=>simp[tb,aO,cR]
 |some r =>
  show(aO (dz 20 r.1 (aJ (.t d) fr)) _ false=true)=(dz 20 r.1 (aJ (.t d) fr)=true/\yS E l fr h);cases dz 20 r.1 (aJ (.t d) fr) with
  |false=>simp[aO]
  |true=>simp[aO,yS,rer]
def Pv {d:Nat}{x:au}{l:List aQ}:yS E (⟨some d,none,.ct x⟩ :: l) fr h=(wo E (.ct x) fr h (λv _=>dz 20 v (aJ (.t d) fr)=true)/\yS E l fr h):=HO rfl
def Pw {d n:Nat}{x:au}{l:List aQ}:yS E (⟨some d,none,.fJ n x⟩ :: l) fr h=(wo E (.fJ n x) fr h (λv _=>dz 20 v (aJ (.t d) fr)=true)/\yS E l fr h):=HO rfl
end
def JD (s:List Nat):eqStr s s=true:=by rw[jC];simp
def C0 (n:Nat)(s:List Nat):dz (n+1) (.str s) (.str s)=true:=JD s
def dJ (n:Nat)(k:IntKind)(a:Int):dz (n+1) (.int k a) (.int k a)=true:=by
 show tb (some (and (NJ k k) (NI a a)))=true;rw[uf,lK];simp[tb]
def sG (n b o k c:Nat)(e:Bool):dz (n+1) (.slice b o k c e) (.slice b o k c e)=true:=by
 show tb (some (and (Nat.beq b b) (and (Nat.beq o o) (and (Nat.beq k k) (and (Nat.beq c c) (aO e e (not e)))))))=true;cases e<;>simp[tb,aO]
theorem Bi (n:Nat):dz (n+1) .af .af=true:=rfl
def PA (n b o:Nat):dz (n+1) (.ptr b o) (.ptr b o)=true:=by
 show tb (some (and (Nat.beq b b) (Nat.beq o o)))=true;simp[tb]
def Bk {f:ae->ae->Bool}:∀{l:List ae},(∀x,x∈l->f x x=true)->il f l l=true
 |[],_=>rfl
 |x :: l,h=>by
  show aO (f x x) (il f l l) false=true;rw[h x (by simp)];exact Bk λy hy=>h y (by simp[hy])
section
variable{E:Env}{fr bP:Fr}{h:aa}{K:ae->aa->Prop}{Q:Fr->aa->Prop}
end
def uX (elem:TypeId)(size:Nat)(s x:ae)(h:aa)(K:ae->aa->Prop):Prop:=cR (I.append elem size (.c s) (.c x) .nil h) λr=>K r.1 r.2
def PU {E:Env}{fr:Fr}{h:aa}{K:ae->aa->Prop}{elem:TypeId}{size:Nat}{s x:au}:wo E (.append elem size s x) fr h K=uX elem size (aJ s fr) (aJ x fr) h K:=aL
def dO (h:aa)(size:Nat)(elem:TypeId)(v:ae)(l:List ae):Prop :=
 (v=.af/\l=[])\/∃b n,v=.slice b 0 n n false/\b<h.next/\h.get b=some (.cells l elem)/\l.length=n*size
def aM (v:ae)(b:Nat):Prop:=∃o n c e,v=.slice b o n c e
def kd {elem:TypeId}{size n:Nat}{s x:ae}{l new:List ae}{h:aa}{K:ae->aa->Prop}(H:dO h size elem s l)(hs:fS h size x=some (n,new))(hn:n≠0)(hlen:new.length=n*size)(iq:0<size)(uo:l.length+n<=1073741824)
 (hK:∀v' h',dO h' size elem v' (l++new)->h'.next=h.next+1->(∀c,c<h.next->¬aM s c->h'.get c=h.get c)->aM v' h.next->K v' h'):uX elem size s x h K:=by
 unfold uX I.append;have e1:aJ (.c x) .nil=x:=rfl;have e2:aJ (.c s) .nil=s:=rfl;rw[e1,e2,hs];show cR (aO (Nat.beq n 0) _ _) _;rw[bq,if_neg (by simpa using hn)];rcases H with⟨rfl,rfl⟩|⟨b,m,rfl,hb,hg,hl⟩
 .show cR (aO (Nat.ble n 1073741824) (some (ae.slice h.next 0 n n false,h.push (.cells new elem))) none) _;rw[bq,if_pos (by simp at uo ⊢;omega)];refine hK _ _ (.inr ⟨h.next,n,rfl,by simp[aa.bI],?_,?_⟩) rfl (λc hc _=>aa.aA _ _ (by omega)) ⟨0,n,n,false,rfl⟩
  .simpa using aa.ai _ _
  .simpa using hlen
 .show cR (eJ (h.get b) λfL e own=>aO (and (Nat.ble (Nat.add m n) 1073741824) (and (Nat.ble (Nat.add 0 (Nat.mul m size)) (cJ fL)) (yk own (bD (Nat.mul m size) (bG 0 fL)))))
   (aO (and own (and (Nat.beq e elem) (Nat.beq (Nat.mod 0 size) 0))) (some (ae.slice h.next 0 (Nat.add m n) (Nat.add m n) false,(h.put b .dead).push (.cells (gd (bD (Nat.mul m size) (bG 0 fL)) new) elem))) none) none) _
  rw[hg];have hmul:m*size=l.length:=hl.symm;have DW:m<=l.length:=by rw[hl];exact Nat.le_mul_of_pos_right _ iq
  show cR (aO (and (Nat.ble (Nat.add m n) 1073741824) (and (Nat.ble (Nat.add 0 (Nat.mul m size)) (cJ l)) true))
   (aO (and true (and (Nat.beq elem elem) (Nat.beq (Nat.mod 0 size) 0))) (some (ae.slice h.next 0 (Nat.add m n) (Nat.add m n) false,(h.put b .dead).push (.cells (gd (bD (Nat.mul m size) (bG 0 l)) new) elem))) none) none) _
  rw[bq,if_pos (by
   simp only[qZQ,qZB,bV,and_true];exact⟨by show m+n<=_;omega,by show 0+m*size<=_;omega⟩),bq,if_pos (by
   simp only[qZQ,qZX,true_and];exact Nat.zero_mod size)]
  have e3:gd (bD (Nat.mul m size) (bG 0 l)) new=l++new:=by
   rw[gQ,cW,df];have:Nat.mul m size=l.length:=hmul;rw[this];simp
  rw[e3];refine hK _ _ (.inr ⟨h.next,m+n,rfl,by simp[aa.bI,aa.eT],aa.ai _ _,?_⟩) rfl (λc hc ZY=>?_) ⟨0,_,_,false,rfl⟩
  .rw[qQM,hl,hlen,qWX]
  .rw[aa.aA _ _ (by simp[aa.eT];omega),aa.ah];rintro rfl;exact ZY ⟨0,m,m,false,rfl⟩
def dO.cg {h:aa}{size:Nat}{elem:TypeId}{v:ae}{xs:List (List ae)}(H:dO h size elem v xs.flatten)(hx:∀x,x∈xs->x.length=size)(iq:0<size)(hf:∀x,x∈xs.flatten->x.flat=true):cg h size v xs:=by
 refine⟨hx,?_⟩;have hl:=eH hx;rcases H with⟨rfl,he⟩|⟨b,n,rfl,hb,hg,Ad⟩
 .rw[he]at hl;refine .inl ⟨?_,rfl⟩;have:xs.length*size=0:=by simpa using hl.symm
  rcases Nat.mul_eq_zero.1 this with h|h
  .exact qZG h
  .omega
 .have:n=xs.length:=Nat.eq_of_mul_eq_mul_right iq (Ad.symm.trans hl);subst this;exact .inr ⟨b,0,_,false,rfl,.inr (fP.ed hb hg hf)⟩
def wk (h:aa)(s:List Nat):fS h 1 (.str s)=some (s.length,ofBytes s):=by
 show aO (Nat.beq 1 1) (some (cJ s,ofBytes s)) none=_;rw[bV];rfl
def fG {h:aa}{size:Nat}{x:ae}{xs:List (List ae)}(H:cg h size x xs)(dV:xs≠[]):fS h size x=some (xs.length,xs.flatten):=by
 rcases H.2 with⟨rfl,_⟩|⟨b,o,c,ex,rfl,hr⟩
 .exact absurd rfl dV
 .rcases hr with rfl|⟨hb,c2,e,own,hr,hle,hl,hf⟩
  .exact absurd rfl dV
  .show eJ (h.get b) (λc _ own=>aO (and (Nat.ble (Nat.add o (Nat.mul xs.length size)) (cJ c)) (yk own (bD (Nat.mul xs.length size) (bG o c)))) (some (xs.length,bD (Nat.mul xs.length size) (bG o c))) none)=_;rw[hr.eJ];have hlen:Nat.mul xs.length size=xs.flatten.length:=(eH H.1).symm;rw[hlen,bV,cW,df,hl,bq,if_pos];rw[qZQ,qZB,nZ];exact⟨hle,.inr hf⟩
open Go.RowKit Go.WideShapes Go.ChangeShapes
def kJ (N:Nat)(v:Value):ae:=match v with
 |.bool b=>.bool b
 |.int k n=>.int k n
 |.string s=>.str (s.data.toList.map UInt8.toNat)
 |.pointer none=>.dt
 |.pointer (some a)=>if a.spot=none/\a.block<N then .ptr a.block a.off else aT
 |.slice none n c=>if n=0/\c=0 then .af else aT
 |.slice (some a) n c=>if a.spot=none/\a.block<N/\n<=c then .slice a.block a.off n c true else if n=0/\c=0 then .slice 0 0 0 0 true else aT
 |.map none=>.b8
 |.nilFunc=>.fb
 |.nilIface=>.dq
 |_=>aT
def VG (N:Nat):Ren:=λn=>if n<N then some ⟨n,0,none,mz⟩ else none
def Ka {N n:Nat}(h:n<N):VG N n=some ⟨n,0,none,mz⟩:=by simp[VG,h]
def acr {N n:Nat}(h:N<=n):VG N n=none:=by simp[VG];omega
def IH {N:Nat}{v:Value}(h:(kJ N v).flat=true):V (VG N) (kJ N v) v:=by
 unfold kJ at h ⊢;split at h
 .exact .bool _
 .exact .int _ _
 .exact .str rfl
 .exact .dt
 .rename_i a;by_cases e:a.spot=none/\a.block<N
  .simp only[if_pos e];obtain⟨b,o,sp⟩:=a;obtain⟨rfl,hb⟩:=e;exact V.ptr (r:=⟨b,0,none,mz⟩) (Ka hb)
  .rw[if_neg e]at h;cases h
 .rename_i n c;by_cases e:n=0/\c=0
  .simp only[if_pos e];obtain⟨rfl,rfl⟩:=e;exact .af
  .rw[if_neg e]at h;cases h
 .rename_i a n c;by_cases e:a.spot=none/\a.block<N/\n<=c
  .simp only[if_pos e];obtain⟨b,o,sp⟩:=a;obtain⟨rfl,hb,hn⟩:=e;exact V.slice (r:=⟨b,0,none,mz⟩) (Ka hb) hn (λ_=>rfl) (λh=>by cases h)
  .rw[if_neg e]at h;simp only[if_neg e];by_cases e2:n=0/\c=0
   .simp only[if_pos e2];obtain⟨rfl,rfl⟩:=e2;exact .sH
   .rw[if_neg e2]at h;cases h
 .exact .b8
 .exact .fb
 .exact .dq
 .cases h
def Fo (W:World)(b:Nat):Option aE:=match W.heap[b]? with
 |some (.cells C e _)=>some (.ro (C.toList.map (kJ W.heap.size)) e)
 |_=>none
def Fp (W:World):Nat->T aE
 |0=>.nil
 |i+1=>match Fo W i with
  |some o=>(Fp W i).set i o
  |none=>Fp W i
def BL (W:World):aa:=⟨W.heap.size,Fp W W.heap.size⟩
def Fq (W:World)(b:Nat):∀n,(Fp W n).get b=if b<n then Fo W b else none:=by
 intro n
 induction n with
 |zero=>simp[Fp,T.get_nil]
 |succ n ih =>
  unfold Fp;cases hn:Fo W n with
  |none =>
   simp only;rw[ih];by_cases e:b=n
   .subst e;rw[if_neg (by omega),if_pos (by omega),hn]
   .by_cases h1:b<n
    .rw[if_pos h1,if_pos (by omega)]
    .rw[if_neg h1,if_neg (by omega)]
  |some o =>
   simp only;by_cases e:n=b
   .subst e;rw[T.get_set_same,if_pos (by omega),hn]
   .rw[T.cY _ _ e,ih];by_cases h1:b<n
    .rw[if_pos h1,if_pos (by omega)]
    .rw[if_neg h1,if_neg (by omega)]
def QI {W:World}{b:Nat}(hb:b<W.heap.size):(BL W).get b=Fo W b:=by
 show(Fp W W.heap.size).get b=_;rw[Fq,if_pos hb]
def wL {W:World}{b:Nat}{o:aE}(h:(BL W).get b=some o):b<W.heap.size/\Fo W b=some o:=by
 have h:(Fp W W.heap.size).get b=some o:=h;rw[Fq]at h;split at h
 .exact⟨by assumption,h⟩
 .cases h
def Cn {P:Program}{W:World}{b:Nat}{o:aE}(h:Fo W b=some o):∃l e,o=.ro l e/\BJ P (VG W.heap.size) ⟨b,0,none,mz⟩ l e (W.heap[b]?):=by
 unfold Fo at h;split at h
 .rename_i C e fz hC;cases h;refine⟨_,e,rfl,C,fz,hC,by simp,λi v hi hf=>?_,λz x hk=>by cases hk⟩;rw[qQX,qQC]at hi;obtain⟨u,hu,rfl⟩:=hi;exact⟨u,by simpa using hu,IH hf⟩
 .cases h
def VZ {P:Program}[Lay P]{W:World}(JW:∀b,Lay.dom P b->b<W.heap.size/\Lay.lay P b (W.heap[b]?)):WR P ⟨λb=>b<W.heap.size,W.heap.size,VG W.heap.size,λ_=>False⟩ W (VG W.heap.size) (BL W) W:=by
 refine⟨rfl,.refl _ _ _,rfl,qQY _,λ_ h=>h,λ_ _=>rfl,λn hn=>⟨acr hn,?_⟩,λn o hn hl=>?_,λn m o p r s hn ho=>?_,qQY _,λ_ _=>rfl,λ_ h=>h.elim,λ_ _ _ _ _ _ h=>h,JW⟩
 .cases hg:(BL W).get n with
  |none=>rfl
  |some o=>have:=(wL hg).1;have Fa:W.heap.size<=n:=hn;omega
 .obtain⟨hb,ho⟩:=wL hn;obtain⟨l,e,rfl,hR⟩:=Cn (P:=P) ho;exact⟨_,Ka hb,λh=>h.elim,hR⟩
 .obtain⟨_,h1⟩:=wL hn;obtain⟨l,e,rfl,_⟩:=Cn (P:=P) h1;exact ho.elim
def Opn {α:Type}(P:Program)(t:TypeId)(n:Nat)(R:World->α->List ae->Prop):Prop :=
 P.cellsOf t=n/\∀{H:Type}{enc:TypeId×Value->H}{w:World}{base:Nat}{held:Bool}{fuel:Nat}{cs:List Value}{x:DataW H×List MemPlace},
   DataW.trod enc P w base (λ_=>true) held fuel t cs=some x->∃a,R w a (cs.map (kJ w.heap.size))/\(∀c,c∈cs->(kJ w.heap.size c).flat=true)/\cs.length=n
def aiN {α β:Type}(R:α->β->Prop)(xs:List α)(ys:List β):Prop:=xs.length=ys.length/\∀(i:Nat) x y,xs[i]?=some x->ys[i]?=some y->R x y
def add_zero' (a:Addr):a.add 0=a:=by unfold Addr.add;simp
def sR (a:Addr)(k:Nat):(a.add k).block=a.block:=by unfold Addr.add;split<;>rfl
def Lp (a:Addr)(k:Nat):(a.add k).off=a.off+k:=by
 unfold Addr.add;split
 .subst_vars;rfl
 .rfl
def zD {w:World}{base:Nat}{a:Addr}{n:Nat}{l:List Value}(h:w.cells? base a n=some l)(hn:0<n):a.spot=none/\a.block<w.heap.size:=by
 obtain⟨_,h4,h5⟩:=World.cells?_some h;have h0:=h5 0 hn;have hl:l[0]?=some l[0]:=qQW (by omega);rw[hl]at h0;unfold World.cell? at h0;split at h0
 .rename_i C e fz hC;rw[add_zero']at hC h0;split at h0
  .cases h0
  .rename_i hs;refine⟨?_,(qJZ.1 hC).1⟩;cases hsp:a.spot with
   |none=>rfl
   |some x=>rw[hsp]at hs;simp at hs
 .cases h0
def CX {α:Type}{P:Program}{t e:TypeId}{n:Nat}{R:World->α->List ae->Prop}(hR:Opn P e n R)(hn:0<n)(ht:P.underlying t=some (.slice e))(hc:P.cellsOf t=1) :
 Opn P t 1 (λw (xs:List α) l=>∃v rows,l=[v]/\cg (BL w) n v rows/\aiN (R w) xs rows/\xs.length<=maxLen):=by
 refine⟨hc,λ{H enc w base held fuel cs x} h=>?_⟩;rcases DataW.trod_slice ht h with⟨rfl,_⟩|⟨a,len,cap,elems,rest,m,_,rfl,_,_,hlc,LY,tu,jm,hsp,_⟩
 .refine⟨[],⟨.af,[],rfl,⟨by simp,.inl ⟨rfl,rfl⟩⟩,⟨rfl,λi x y hx=>by simp at hx⟩,by simp⟩,(λc hc=>by simp at hc;subst hc;rfl),rfl⟩
 .obtain⟨hre,tL⟩:=hsp rfl
  have each:∀i,i<len->∃q:α×List Value,w.cells? base (a.add (i*P.cellsOf e)) (P.cellsOf e)=some q.2/\R w q.1 (q.2.map (kJ w.heap.size))/\(∀c,c∈q.2->(kJ w.heap.size c).flat=true)/\q.2.length=n:=by
   intro i hi;have h1:=jm i hi;obtain⟨y,hy⟩:∃y,elems[i]?=some y:=⟨_,qQW (by omega)⟩;rw[hy]at h1;obtain⟨oz,h3,h4⟩:=qQQ.1 h1;obtain⟨b,h5,h6,h7⟩:=hR.2 h4;exact⟨(b,oz),h3,h5,h6,h7⟩
  by_cases lL:cap=0
  .subst lL;have Xv:len=0:=by omega
   subst Xv
   have hv:(kJ w.heap.size (.slice (some a) 0 0)).flat=true/\∃b o c ex,kJ w.heap.size (.slice (some a) 0 0)=.slice b o 0 c ex:=by
    unfold kJ;simp only;split
    .exact⟨rfl,_,_,_,_,rfl⟩
    .simp[ae.flat]
   obtain⟨XJ,b,o,c,ex,Fe⟩:=hv;refine⟨[],⟨_,[],rfl,⟨by simp,.inr ⟨b,o,c,ex,Fe,.inl rfl⟩⟩,⟨rfl,λi x y hx=>by simp at hx⟩,by simp⟩,(λc hc=>by simp at hc;subst hc;exact XJ),rfl⟩
  .have abQ:a.spot=none/\a.block<w.heap.size:=by
    have dV:0<P.cellsOf e:=by rw[hR.1];exact hn
    by_cases hl:len=0
    .have h1:=tL 0 (by omega);obtain⟨y,hy⟩:∃y,rest[0]?=some y:=⟨_,qQW (by omega)⟩;rw[hy]at h1;obtain⟨oz,h3,_⟩:=qQQ.1 h1;have g:=zD h3 dV;rw[hl,Nat.add_zero,Nat.zero_mul,add_zero']at g;exact g
    .obtain⟨q,hq,_⟩:=each 0 (by omega);have g:=zD hq dV;rw[Nat.zero_mul,add_zero']at g;exact g
   obtain⟨agV,hblk⟩:=abQ
   have hav:kJ w.heap.size (.slice (some a) len cap)=.slice a.block a.off len cap true:=by
    unfold kJ;simp only;rw[if_pos ⟨agV,hblk,hlc⟩]
   by_cases hl:len=0
   .subst hl;refine⟨[],⟨_,[],rfl,⟨by simp,.inr ⟨_,_,_,_,hav,.inl rfl⟩⟩,⟨rfl,λi x y hx=>by simp at hx⟩,by simp⟩,(λc hc=>by simp at hc;subst hc;rw[hav];rfl),rfl⟩
   .obtain⟨q0,_⟩:=each 0 (by omega)
    haveI:Inhabited (α×List Value):=⟨q0⟩
    obtain⟨q,hq⟩:=Go.Deep.choose_lt each;refine⟨(List.range len).map λi=>(q i).1,⟨_,(List.range len).map λi=>(q i).2.map (kJ w.heap.size),rfl,⟨λy hy=>?_,.inr ⟨a.block,a.off,cap,true,by rw[hav];simp,.inr ?_⟩⟩,⟨by simp,λi x y hx hy=>?_⟩,by simp;omega⟩,(λc hc=>by simp at hc;subst hc;rw[hav];rfl),rfl⟩
    .obtain⟨i,hi,rfl⟩:=qQB.1 hy;simpa using(hq i (qJX.1 hi)).2.2.2
    .
     have hlen:∀y,y∈((List.range len).map λi=>(q i).2.map (kJ w.heap.size))->y.length=n:=by
      intro y hy;obtain⟨i,hi,rfl⟩:=qQB.1 hy;simpa using(hq i (qJX.1 hi)).2.2.2
     have ic:=eH hlen;rw[qQD,qKA]at ic
     obtain⟨C,et,fz,hC⟩:∃C et fz,w.heap[a.block]?=some (.cells C et fz):=by
      have h0:=(hq 0 (by omega)).1;obtain⟨_,h4,h5⟩:=World.cells?_some h0;have h5:=h5 0 (by rw[hR.1];exact hn);obtain⟨u0,Ad⟩:∃u0,(q 0).2[0]?=some u0:=⟨_,qQW (by rw[h4,hR.1];exact hn)⟩;rw[Ad]at h5;unfold World.cell? at h5;split at h5
      .rename_i C e fz hC;rw[sR,sR]at hC;exact⟨C,e,fz,hC⟩
      .cases h5
     have qY:∀k,k<len*n->∃u,C[a.off+k]?=some u/\((List.range len).map λi=>(q i).2.map (kJ w.heap.size)).flatten[k]?=some (kJ w.heap.size u)/\(kJ w.heap.size u).flat=true:=by
      intro k hk;have hj:k / n<len:=Nat.div_lt_of_lt_mul (by rw[Nat.mul_comm];exact hk);have hm:k % n<n:=Nat.mod_lt _ hn;have ZH:k=k / n*n+k % n:=by rw[Nat.mul_comm];exact(Nat.div_add_mod k n).symm
      obtain⟨h1,h2,h3,h4⟩:=hq (k / n) hj;obtain⟨_,h5,h6⟩:=World.cells?_some h1;have h7:=h6 (k % n) (by rw[hR.1];exact hm);obtain⟨u,hu⟩:∃u,(q (k / n)).2[k % n]?=some u:=⟨_,qQW (by omega)⟩;rw[hu]at h7;refine⟨u,?_,?_,h3 _ (qQK hu)⟩
      .unfold World.cell? at h7;rw[sR,sR,hC]at h7;simp only at h7;split at h7
       .cases h7
       .rw[<-h7];congr 1;rw[Lp,Lp,hR.1];omega
      .have hx:((List.range len).map λi=>(q i).2.map (kJ w.heap.size))[k / n]?=some ((q (k / n)).2.map (kJ w.heap.size)):=by
        rw[qQX,qJY hj];rfl
       obtain⟨e1,e2⟩:=uj hlen hx;have e3:(((List.range len).map λi=>(q i).2.map (kJ w.heap.size)).flatten.drop (k / n*n)).take n=(q (k / n)).2.map (kJ w.heap.size):=e1;have e4:=congrArg (·[k % n]?) e3;rw[qVW,if_pos hm,qXZ,<-ZH,qQX,hu]at e4;exact e4
     have iq:a.off+len*n<=C.size:=by
      have DY:0<len*n:=Nat.mul_pos (by omega) hn;obtain⟨u,hu,_⟩:=qY (len*n-1) (by omega);have:=(qJZ.1 hu).1;omega
     refine⟨hblk,C.toList.map (kJ w.heap.size),et,false,.inr ⟨rfl,?_⟩,by rw[ic];simpa using iq,?_,λy hy=>?_⟩
     .rw[QI hblk];unfold Fo;rw[hC]
     .rw[ic];apply qJF;intro k;rw[qVW];split
      .rename_i hk;obtain⟨u,h1,h2,_⟩:=qY k hk;rw[h2,qXZ,qQX];have:C.toList[a.off+k]?=some u:=by simpa using h1
       rw[this];rfl
      .rename_i hk
       symm
       apply qJL;rw[ic];omega
     .obtain⟨k,hk⟩:=qQL.1 hy;have ZI:=(qQZ.1 hk).1;rw[ic] at ZI;obtain⟨u,_,h2,h3⟩:=qY k ZI;rw[h2]at hk;cases hk;exact h3
    .rw[qQX,qQC]at hx hy;obtain⟨j,hj,rfl⟩:=hx;obtain⟨j',Te,rfl⟩:=hy;obtain⟨L5,hj2⟩:=qQZ.1 hj;rw[qKA] at L5;rw[qXJ]at hj2;subst hj2
     have:i=j':=by
      obtain⟨_,h2⟩:=qQZ.1 Te;rw[qXJ]at h2;exact h2
     subst this;exact(hq i L5).2.1
def sK {P:Program}{t:TypeId}{fs:Array Field}(ht:P.underlying t=some (.struct fs))(hc:P.cellsOf t=fs.size)(hf:∀(i:Nat)(f:Field),fs[i]?=some f->f.offset=i/\P.cellsOf f.type=1)
 {H:Type} {enc:TypeId×Value->H} {w:World} {base:Nat} {sp:Nat->Bool} {held:Bool} {fuel:Nat} {cs:List Value} {x:DataW H×List MemPlace} (h:DataW.trod enc P w base sp held fuel t cs=some x) :
 cs.length=fs.size/\∃n,∀(i:Nat)(f:Field)(c:Value),fs[i]?=some f->cs[i]?=some c->∃y,DataW.trod enc P w base sp held n f.type [c]=some y:=by
 obtain⟨xs,n,_,_,hl,hlen,hg⟩:=DataW.trod_struct ht h;refine⟨hl.trans hc,n,λi f c hi Vv=>?_⟩;have g:=hg i f hi;obtain⟨ho,h1⟩:=hf i f hi;rw[ho,h1]at g
 have e:(cs.drop i).take 1=[c]:=by
  obtain⟨DT,hic⟩:=qQZ.1 Vv;rw[List.drop_eq_getElem_cons DT,hic];rfl
 rw[e]at g
 have fU:i<xs.length:=by
  rw[hlen];exact(qJZ.1 hi).1
 exact⟨xs[i],g.trans (qQW fU)⟩
inductive Tok {α:Type}(a:α):Type
 |mk
def bx {α:Type}(a:α)(_:Tok a):α:=a
section
variable{E:Env}{fr bP:Fr}{h h':aa}{K:ae->aa->Prop}{Q Qn Qr:Fr->aa->Prop}{Qx:Nat->Fr->aa->Prop}
def ajc (k:ae->aa->Prop)(t:Tok k)(v:ae)(h:aa):bx k t v h=k v h:=aL
def Du (k:Fr->aa->Prop)(t:Tok k)(f:Fr)(h:aa):bx k t f h=k f h:=aL
def Re (k:Nat->Fr->aa->Prop)(t:Tok k)(i:Nat)(f:Fr)(h:aa):bx k t i f h=k i f h:=aL
def ajb {α:Type}(k:α->Prop)(t:Tok k)(a:α):bx k t a=k a:=aL
def aey {a b:ax}:wp E (.seq a b) fr h Qn Qx Qr=wp E a fr h (bx (λfr h=>wp E b fr h Qn Qx Qr) .mk) Qx Qr:=aL
def V4 {id:Nat}{a:ax}:wp E (.block id a) fr h Qn Qx Qr=wp E a fr h Qn (bx (λj fr h=>if j=id then Qn fr h else Qx j fr h) .mk) Qr:=aL
def aaH {c:au}{a b:ax}:wp E (.cond c a b) fr h Qn Qx Qr=rQ (aJ c fr) (bx (wp E a fr h Qn Qx Qr) .mk) (bx (wp E b fr h Qn Qx Qr) .mk):=Vd
def Fu (a b:Prop)(t:Tok a):vR True (bx a t) b=a:=by simp[vR,bx]
def Dq (a b:Prop)(t:Tok b):vR False a (bx b t)=b:=by simp[vR,bx]
def QW {c a b:Prop}{t:Tok a}{t':Tok b}(h1:c->a)(h2:¬c->b):vR c (bx a t) (bx b t'):=⟨h1,h2⟩
def aew {o:dS}{d:Option Nat}{l:List aQ}:pc E (⟨d,none,o⟩ :: l) fr h Q=wo E o fr h (bx (λv h'=>pc E l (dB d fr v) h' Q) .mk):=aL
def aaI {o:dS}{d:Option Nat}{g:Nat×Bool}{l:List aQ}:pc E (⟨d,some g,o⟩ :: l) fr h Q=vR (bj (some g) fr=true) (bx (wo E o fr h (bx (λv h'=>pc E l (dB d fr v) h' Q) .mk)) .mk) (bx (pc E l (dB d fr aT) h Q) .mk):=Ir
def aaJ {base i:Nat}{o:aQ}{re:List aQ}{l:List aP}:pX E base (⟨o,i,.pure,re⟩ :: l) fr h Q=Bx E o fr h (bx (λv h'=>pX E base l (dB o.dst fr v) h' Q) .mk):=aL
def aaK {base i:Nat}{o:aQ}{re:List aQ}{l:List aP}:pX E base (⟨o,i,.read,re⟩ :: l) fr h Q=Bx E o fr h (bx (λv h'=>pX E base l (dB o.dst fr v) h' Q) .mk):=aL
def aev {base i:Nat}{o:aQ}{re:List aQ}{l:List aP}:pX E base (⟨o,i,.new,re⟩ :: l) fr h Q=Bx E o fr ⟨base+i,h.t⟩ (bx (λv h'=>pX E base l (dB o.dst fr v) ⟨h.next,h'.t⟩ Q) .mk):=aL
def ai7 {base i:Nat}{o:aQ}{re:List aQ}{l:List aP}:pX E base (⟨o,i,.wr,re⟩ :: l) fr h Q=Bx E o fr h (bx (λv h'=>yS E re (dB o.dst fr v) h'/\pX E base l (dB o.dst fr v) h' Q) .mk):=aL
def aex {d:Option Nat}{g:Nat×Bool}{o:dS}:Bx E ⟨d,some g,o⟩ fr h K=vR (bj (some g) fr=true) (bx (wo E o fr h K) .mk) (bx (K aT h) .mk):=By
def aet {op:BinOp}{q:yv}{x y:au}:wo E (.bin op q x y) fr h K=cR (kZ op q (aJ x fr) (aJ y fr)) (bx (λv=>K v h) .mk):=adA
def aeu {t:TypeId}{x:au}:wo E (.box t x) fr h K=cR (fh (aJ x fr)) (bx (λc=>K (.ptr h.next 0) (h.push (.cells c t))) .mk):=adB
def V7 (b o:Nat):aad (.ptr b o) h K=cR (aN h b o) (bx (λx=>K x h) .mk):=aL
def QX (n b o:Nat):T1 n (.ptr b o) h K=cR (eI h b o n) (bx (λl=>K (.agg l) h) .mk):=aL
def QZ (n b o:Nat)(v:ae):Le n (.ptr b o) v h K=cR (fh v) (bx (λvs=>cR (putAt h b o n vs) (bx (λh'=>K aT h') .mk)) .mk):=aL
def QV (s:List Nat)(k:IntKind)(n:Int):TO (.str s) (.int k n) h K=(0<=n/\cR (s[n.toNat]?) (bx (λb=>K (.int .u8 (b:Int)) h) .mk)):=aL
def QY (off:Nat)(l:List ae):Uv off (.agg l) h K=cR (l[off]?) (bx (λx=>K x h) .mk):=aL
def IT (i:Nat)(l:List ae):Gq i (.eC l) h K=cR (l[i]?) (bx (λx=>K x h) .mk):=aL
def Ec.bu {f:FuncId}{args:List ae}{c:ax}{rs:List ResultVar}{Q:ae->aa->Prop}(hp:E.uG.get f=none)(hc:E.code f=some (c,rs))
 (hw:wp E c (dN args 0 .nil) h (bx (λfr h=>cR (bw E h fr rs) λv=>Q v h) .mk) (λ_ _ _=>False) (bx (λfr h=>cR (bw E h fr rs) λv=>Q v h) .mk)):Ec E f args h Q:=Ec.of_wp hp hc hw
def fg {a:ax}(Inv:Nat->Fr->aa->Prop)(d:Nat)(h0:Inv d fr h)(hs:∀d fr h,Inv d fr h->wp E a fr h (bx (λbP h'=>∃d',d'<d/\Inv d' bP h') .mk) Qx Qr):wp E (.loop a) fr h Qn Qx Qr:=wp_loop Inv d h0 hs
end
end
def Ii (b:Bool):(aT=ae.bool b)=False:=by simp[aT]
noncomputable section
open Go
def al6 (a b:Nat):Nat.beq a b=decide (a=b):=by
 by_cases h:a=b
 .subst h;simp
 .simp only[h,decide_false];exact qWC.2 (λe=>h (qZX▸e))
def al7 (a b:Nat):Nat.ble a b=decide (a<=b):=by
 by_cases h:a<=b
 .simp only[h,decide_true];rw[qZB];exact h
 .simp only[h,decide_false];refine qWC.2 (λe=>h ?_);rw[qZB]at e;exact e
def acI (a b:Nat):Nat.add a b=a+b:=Eq.trans rfl rfl
def acJ (a b:Nat):Nat.mul a b=a*b:=Eq.trans rfl rfl
theorem Gp (fr:Fr):I.fE [] fr=[]:=rfl
theorem DL (a b:Nat)(c:au)(l:List (Nat×Nat×au))(fr:Fr):I.fE ((a,b,c) :: l) fr=(a,b,aJ c fr) :: I.fE l fr:=rfl
def JG (o n:Nat)(v:ae)(ps:List (Nat×Nat×ae))(cells:List ae):iT ((o,n,v) :: ps) cells=ob (fh v) λc=>aO (and (Nat.beq (cJ c) n) (Nat.ble (Nat.add o n) (cJ cells))) (iT ps (over cells o c)) none:=by
 have e:iT ((o,n,v) :: ps) cells=fM v λc=>aO (and (Nat.beq (cJ c) n) (Nat.ble (Nat.add o n) (cJ cells))) (iT ps (over cells o c)) none:=rfl;rw[e,qK]
def Ft (c:List ae)(k:List ae->Prop):cR (iT [] c) k=k c:=aL
def V6 (o n:Nat)(v:ae)(ps:List (Nat×Nat×ae))(cells:List ae)(k:List ae->Prop) :
 cR (iT ((o,n,v) :: ps) cells) k=cR (fh v) (bx (λc=>(c.length=n/\o+n<=cells.length)/\cR (iT ps (over cells o c)) k) .mk):=by
 rw[JG,kj];unfold bx;congr 1;funext c;rw[jo,qZQ,qZX,qZB,bV,bV];rfl
def MZ {α:Type}(l:List α):gd l []=l:=by rw[gQ];simp
def UH {α:Type}(z:List α):sy 1 z=z:=by show gd z []=z;exact MZ z
def UI {α:Type}(z:List α):sy 2 z=gd z z:=by show gd z (sy 1 z)=_;rw[UH]
def ado {α:Type}(z:List α):sy 3 z=gd z (gd z z):=by show gd z (sy 2 z)=_;rw[UI]
section
variable{E:Env}{fr bP:Fr}{h h':aa}{K:ae->aa->Prop}
def V5 {z:List ae}{ps:List (Nat×Nat×au)}:wo E (.build z ps) fr h K=cR (iT (I.fE ps fr) z) (bx (λl=>K (.agg l) h) .mk):=by
 show cR (ob (iT (I.fE ps fr) z) λl=>some (ae.agg l,h)) _=_;rw[kj];exact aL
def Dp {e:TypeId}{n:Nat}{z:List ae}{ps:List (Nat×Nat×au)}:wo E (.buildSlice e n z ps) fr h K=cR (iT (I.fE ps fr) (sy n z)) (bx (λl=>K (.slice h.next 0 n n true) (h.push (.cells l e))) .mk):=by
 show cR (ob (iT (I.fE ps fr) (sy n z)) λl=>some (ae.slice h.next 0 n n true,h.push (.cells l e))) _=_;rw[kj];exact aL
def sdV (v:ae)(h:aa)(K:ae->aa->Prop):Prop:=match v with
 |.af=>K .dt h
 |.slice b o _ c _=>0<c/\K (.ptr b o) h
 |_=>False
def E3 {x:au}:wo E (.dR x) fr h K=sdV (aJ x fr) h K:=by
 show cR (gR (aJ x fr) _ λb o _ c _=>aO (Nat.blt 0 c) (some (ae.ptr b o,h)) none) _=_;cases aJ x fr<;>first|rfl|skip
 case slice b o n c e=>show cR (aO (Nat.blt 0 c) (some (ae.ptr b o,h)) none) _=_;rw[jo,qJE];rfl
def YA:sdV .af h K=K .dt h:=aL
def PE (b o n c:Nat)(e:Bool):sdV (.slice b o n c e) h K=(0<c/\K (.ptr b o) h):=aL
def usV (u:TypeId)(x n:ae)(h:aa)(K:ae->aa->Prop):Prop:=cR (I.eF u (.c x) (.c n) .nil h) λr=>K r.1 r.2
def E4 {u:TypeId}{x n:au}:wo E (.eF u x n) fr h K=usV u (aJ x fr) (aJ n fr) h K:=aL
def YL (u:TypeId)(k:IntKind):usV u .dt (.int k 0) h K=K (.str []) h:=aL
def pw:∀{l:List Nat},(∀b,b∈l->b<256)->eD (ofBytes l)=some l
 |[],_=>rfl
 |x :: l,hl=>by
  show jr (ae.int .u8 (Int.ofNat x)) (λk n=>aO (NJ k .u8) (@Int.rec (λ_=>Option (List Nat)) (λm=>aO (Nat.blt m 256) (ob (eD (ofBytes l)) λl=>some (m :: l)) none) (λ_=>none) n) none)=_;rw[pw λb hb=>hl b (by simp[hb])];show aO (Nat.blt x 256) (some (x :: l)) none=_;rw[bq,if_pos (by simpa using hl x (by simp))]
def jT (l:List Nat):(ofBytes l).length=l.length:=by unfold ofBytes;rw[gq];simp
def Hy (a b:List Nat):ofBytes (a++b)=ofBytes a++ofBytes b:=by unfold ofBytes;rw[gq,gq,gq];simp
def YM {u:TypeId}{b:Nat}{l:List Nat}{k:IntKind}{n:Int}(hn:n=(l.length:Int))(hg:h.get b=some (.cells (ofBytes l) u))(hl:∀b,b∈l->b<256)(h0:0<l.length)(h1:l.length<1073741824):usV u (.ptr b 0) (.int k n) h K=K (.str l) (h.put b .dead):=by
 subst hn;show cR (onCells (h.get b) λc e=>aO (and (Nat.beq e u) (and (Nat.blt 0 l.length) (and (Nat.blt l.length 1073741824) (Nat.ble (Nat.add 0 l.length) (cJ c))))) (ob (eD (bD l.length (bG 0 c))) λl=>some (ae.str l,h.put b .dead)) none) _=_;rw[hg];show cR (aO (and (Nat.beq u u) (and (Nat.blt 0 l.length) (and (Nat.blt l.length 1073741824) (Nat.ble (Nat.add 0 l.length) (cJ (ofBytes l)))))) (ob (eD (bD l.length (bG 0 (ofBytes l)))) λl=>some (ae.str l,h.put b .dead)) none) _=_;rw[bq,if_pos (by simp[bV,jT,h0,h1])]
 have e:bD l.length (bG 0 (ofBytes l))=ofBytes l:=by
  rw[cW,df,List.drop_zero,<-jT l,qZY]
 rw[e,pw hl];exact aL
def UN (v:ae)(lo hi:Option ae)(h:aa)(K:ae->aa->Prop):Prop:=match v with
 |.str s=>cR (dA hi s.length s.length) (bx (λu=>cR (dA lo 0 u) (bx (λl=>K (.str ((s.take u).drop l)) h) .mk)) .mk)
 |_=>False
def U' {x:au}{lo hi:Option au}:wo E (.nk x lo hi) fr h K=UN (aJ x fr) (jE lo fr) (jE hi fr) h K:=by
 show cR (kH (aJ x fr) λs=>ob (dA (jE hi fr) (cJ s) (cJ s)) λu=>ob (dA (jE lo fr) 0 u) λl=>some (ae.str (bG l (bD u s)),h)) (λr=>K r.1 r.2)=_;cases aJ x fr<;>first|rfl|skip
 case str s =>
  show cR (ob (dA (jE hi fr) (cJ s) (cJ s)) λu=>ob (dA (jE lo fr) 0 u) λl=>some (ae.str (bG l (bD u s)),h)) (λr=>K r.1 r.2)=_;rw[kj,bV];congr 1;funext u;rw[kj];congr 1;funext l;show K (.str (bG l (bD u s))) h=K (.str ((s.take u).drop l)) h;rw[cW,df]
def La (s:List Nat)(lo hi:Option ae):UN (.str s) lo hi h K=cR (dA hi s.length s.length) (bx (λu=>cR (dA lo 0 u) (bx (λl=>K (.str ((s.take u).drop l)) h) .mk)) .mk):=aL
theorem NM:jE none fr=none:=rfl
theorem NN (x:au):jE (some x) fr=some (aJ x fr):=rfl
theorem Fy (d y:Nat):dA none d y=some d:=rfl
def Li {isMax:Bool}{x y:au}:wo E (.fk isMax [x,y]) fr h K↔∃k a k' b,aJ x fr=.int k a/\aJ y fr=.int k' b/\K (.int k (if isMax=true then max a b else min a b)) h:=by
 have e:wo E (.fk isMax [x,y]) fr h K=cR (I.fk isMax [x,y] fr h) (λr=>K r.1 r.2):=rfl;rw[e];unfold I.fk
 show cR (match[aJ x fr,aJ y fr] with
  |x :: rest=>jr x λk x=>ob (I.mW isMax k rest x) λv=>some (v,h)
  |_=>none) (λr=>K r.1 r.2)↔_
 simp only;cases hx:aJ x fr<;>first|(simp[jr,cR];done)|skip
 case int k a =>
  show cR (ob (I.mW isMax k [aJ y fr] a) λv=>some (v,h)) (λr=>K r.1 r.2)↔_;cases hy:aJ y fr<;>first|(simp[I.mW,jr,cR,ob];done)|skip
  case int k' b =>
   show cR (some (ae.int k (aO isMax (aO (Km a b) b a) (aO (Km b a) b a)),h)) (λr=>K r.1 r.2)↔_;rw[lN,lN]
   have e2:aO isMax (aO (decide (a<b)) b a) (aO (decide (b<a)) b a)=if isMax=true then max a b else min a b:=by
    cases isMax with
    |true =>
     simp only[aO,if_true];by_cases Ix:a<b
     .simp only[Ix,decide_true];rw[Int.max_eq_right (by omega)]
     .simp only[Ix,decide_false];rw[Int.max_eq_left (by omega)]
    |false =>
     simp only[aO,qZJ,if_false];by_cases Ix:b<a
     .simp only[Ix,decide_true];rw[Int.min_eq_right (by omega)]
     .simp only[Ix,decide_false];rw[Int.min_eq_left (by omega)]
   rw[e2];constructor
   .intro hk;exact⟨k,a,k',b,rfl,rfl,hk⟩
   .rintro⟨_,_,_,_,h1,h2,hk⟩;cases h1;cases h2;exact hk
def ahn (isMax:Bool)(x y:ae)(h:aa)(K:ae->aa->Prop):Prop:=∃k a k' b,x=.int k a/\y=.int k' b/\K (.int k (if isMax=true then max a b else min a b)) h
def Io {isMax:Bool}{x y:au}:wo E (.fk isMax [x,y]) fr h K=ahn isMax (aJ x fr) (aJ y fr) h K:=propext Li
def Hr (isMax:Bool)(k k':IntKind)(a b:Int):ahn isMax (.int k a) (.int k' b) h K=K (.int k (if isMax=true then max a b else min a b)) h :=
 propext ⟨λ⟨_,_,_,_,h1,h2,hk⟩=>by cases h1;cases h2;exact hk,λhk=>⟨_,_,_,_,rfl,rfl,hk⟩⟩
end
def iQ {q:yv}{a b:List Nat}(hl:a.length+b.length<=1073741824):kZ .add q (.str a) (.str b)=some (.str (a++b)):=by
 show aO (Nat.ble (Nat.add (cJ a) (cJ b)) 1073741824) (some (ae.str (gd a b))) none=_;rw[bV,bV,gQ,bq,if_pos (by simpa using hl)]
def M7 {elem:TypeId}{size:Nat}{s x:ae}{new:List ae}{h:aa}{K:ae->aa->Prop}(hs:fS h size x=some (0,new))(hv:s=.af\/∃b o n c e,s=.slice b o n c e)(hk:K s h):uX elem size s x h K:=by
 unfold uX I.append;have e1:aJ (.c x) .nil=x:=rfl;have e2:aJ (.c s) .nil=s:=rfl;rw[e1,e2,hs];rcases hv with rfl|⟨b,o,n,c,e,rfl⟩<;>exact hk
def dO.form {h:aa}{size:Nat}{elem:TypeId}{v:ae}{l:List ae}(H:dO h size elem v l):v=.af\/∃b o n c e,v=.slice b o n c e:=by
 rcases H with⟨rfl,_⟩|⟨b,n,rfl,_⟩
 .exact .inl rfl
 .exact .inr ⟨_,_,_,_,_,rfl⟩
def dO.frame {h h':aa}{size:Nat}{elem:TypeId}{v:ae}{l:List ae}(H:dO h size elem v l)(hn:h.next<=h'.next)(hg:∀b,aM v b->h'.get b=h.get b):dO h' size elem v l:=by
 rcases H with H|⟨b,n,rfl,hb,uP,hl⟩
 .exact .inl H
 .exact .inr ⟨b,n,rfl,qQG hb hn,by rw[hg b ⟨_,_,_,_,rfl⟩];exact uP,hl⟩
def dO.rm {h:aa}{size:Nat}{elem:TypeId}{v:ae}{l:List ae}(H:dO h size elem v l){b:Nat}(hb:aM v b):b<h.next:=by
 obtain⟨o,n,c,e,rfl⟩:=hb;rcases H with⟨h1,_⟩|⟨b',n',h1,vC,_⟩
 .cases h1
 .cases h1;exact vC
end
end Go.AX
