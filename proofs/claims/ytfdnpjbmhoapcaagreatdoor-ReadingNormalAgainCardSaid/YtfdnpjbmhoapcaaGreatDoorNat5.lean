/-
  Contracts of functions of this seat, for every input that each theorem names.
-/
import Derived.Test.YtfdnpjbmhoapcaaGreatDoorNat3
set_option linter.all false
set_option maxHeartbeats 32000000
namespace Go.AX
open Go Go.RowKit
noncomputable section
section
variable{E:Env}{fr:Fr}{h:aa}{Kp:ae->aa->Prop}{Q:Fr->aa->Prop}
def acH {o:dS}{d:Option Nat}{l:List aQ}:sM E (⟨d,none,o⟩ :: l) fr h Q=lQ E o fr h (bx (λv h'=>sM E l (dB d fr v) h' Q) .mk):=aL
def Ey (it:au):lQ E (.next it) fr h Kp=yh (aJ it fr) h Kp:=aL
def Ug (x:au):lQ E (.mv x) fr h Kp=wo E (.mv x) fr h Kp:=aL
def Ez (c a b:au):lQ E (.pick c a b) fr h Kp=wo E (.pick c a b) fr h Kp:=aL
def KA (t:TypeId)(x:au):lQ E (.box t x) fr h Kp=wo E (.box t x) fr h Kp:=aL
def AL (zero:List ae)(parts:List (Nat×Nat×au)):lQ E (.build zero parts) fr h Kp=wo E (.build zero parts) fr h Kp:=aL
def oV (elem:TypeId)(len:Nat)(zero:List ae)(parts:List (Nat×Nat×au)):lQ E (.buildSlice elem len zero parts) fr h Kp=wo E (.buildSlice elem len zero parts) fr h Kp:=aL
def AQ (x:au):lQ E (.ct x) fr h Kp=wo E (.ct x) fr h Kp:=aL
def AR (n:Nat)(x:au):lQ E (.fJ n x) fr h Kp=wo E (.fJ n x) fr h Kp:=aL
def AZ (n:Nat)(a v:au):lQ E (.store n a v) fr h Kp=wo E (.store n a v) fr h Kp:=aL
def sn (x:au):lQ E (.nilCheck x) fr h Kp=wo E (.nilCheck x) fr h Kp:=aL
def Kz (op:BinOp)(q:yv)(x y:au):lQ E (.bin op q x y) fr h Kp=wo E (.bin op q x y) fr h Kp:=aL
def KD (x:au):lQ E (.not x) fr h Kp=wo E (.not x) fr h Kp:=aL
def KC (x:au):lQ E (.neg x) fr h Kp=wo E (.neg x) fr h Kp:=aL
def Eo (k:IntKind)(x:au):lQ E (.px k x) fr h Kp=wo E (.px k x) fr h Kp:=aL
def Ep (x:au):lQ E (.uc x) fr h Kp=wo E (.uc x) fr h Kp:=aL
def qG (e:TypeId)(x:au):lQ E (.dQ e x) fr h Kp=wo E (.dQ e x) fr h Kp:=aL
def qF (x:au):lQ E (.dw x) fr h Kp=wo E (.dw x) fr h Kp:=aL
def uC (t:TypeId)(x:au):lQ E (.eP t x) fr h Kp=wo E (.eP t x) fr h Kp:=aL
def xA (f:FuncId)(first captured:List au):lQ E (.iu f first captured) fr h Kp=wo E (.iu f first captured) fr h Kp:=aL
def AS:lQ E (.mkMap ) fr h Kp=wo E (.mkMap ) fr h Kp:=aL
def uD (elem:TypeId)(zero:List ae)(bytes:Nat)(l c:au):lQ E (.mkSlice elem zero bytes l c) fr h Kp=wo E (.mkSlice elem zero bytes l c) fr h Kp:=aL
def AY (x:au)(lo hi:Option au):lQ E (.nk x lo hi) fr h Kp=wo E (.nk x lo hi) fr h Kp:=aL
def EA (elem:TypeId)(size:Nat)(x:au)(lo hi mx:Option au):lQ E (.qR elem size x lo hi mx) fr h Kp=wo E (.qR elem size x lo hi mx) fr h Kp:=aL
def AW (n size:Nat)(x:au)(lo hi:Option au):lQ E (.ox n size x lo hi) fr h Kp=wo E (.ox n size x lo hi) fr h Kp:=aL
def AN (off:Nat)(x:au):lQ E (.dh off x) fr h Kp=wo E (.dh off x) fr h Kp:=aL
def AT (off:Nat)(x:au):lQ E (.lV off x) fr h Kp=wo E (.lV off x) fr h Kp:=aL
def AU (off n:Nat)(x:au):lQ E (.mY off n x) fr h Kp=wo E (.mY off n x) fr h Kp:=aL
def AO (len size:Nat)(x i:au):lQ E (.nR len size x i) fr h Kp=wo E (.nR len size x i) fr h Kp:=aL
def Et (size:Nat)(x i:au):lQ E (.kz size x i) fr h Kp=wo E (.kz size x i) fr h Kp:=aL
def Eu (len size:Nat)(x i:au):lQ E (.vM len size x i) fr h Kp=wo E (.vM len size x i) fr h Kp:=aL
def Ew (len size:Nat)(x i:au):lQ E (.vN len size x i) fr h Kp=wo E (.vN len size x i) fr h Kp:=aL
def AP (x i:au):lQ E (.kh x i) fr h Kp=wo E (.kh x i) fr h Kp:=aL
def xx (q:iH)(zero:ae)(x k:au)(ok:Bool):lQ E (.lookup q zero x k ok) fr h Kp=wo E (.lookup q zero x k ok) fr h Kp:=aL
def xy (q:iH)(m k v:au):lQ E (.fj q m k v) fr h Kp=wo E (.fj q m k v) fr h Kp:=aL
def sk (q:iH)(zero:ae)(m k:au):lQ E (.mapEntry q zero m k) fr h Kp=wo E (.mapEntry q zero m k) fr h Kp:=aL
def oY (m s v:au):lQ E (.entryStore m s v) fr h Kp=wo E (.entryStore m s v) fr h Kp:=aL
def AV (x:au):lQ E (.range x) fr h Kp=wo E (.range x) fr h Kp:=aL
def AM (it:au):lQ E (.entry it) fr h Kp=wo E (.entry it) fr h Kp:=aL
def xu (t:TypeId)(zero:ae)(ok:Bool)(x:au):lQ E (.assert t zero ok x) fr h Kp=wo E (.assert t zero ok x) fr h Kp:=aL
def uB (i:Nat)(x:au):lQ E (.extract i x) fr h Kp=wo E (.extract i x) fr h Kp:=aL
def KB (s:Src)(x:au):lQ E (.len s x) fr h Kp=wo E (.len s x) fr h Kp:=aL
def xr (elem:TypeId)(size:Nat)(s x:au):lQ E (.append elem size s x) fr h Kp=wo E (.append elem size s x) fr h Kp:=aL
def Es (size:Nat)(s x:au):lQ E (.copy size s x) fr h Kp=wo E (.copy size s x) fr h Kp:=aL
def xz (isMax:Bool)(l:List au):lQ E (.fk isMax l) fr h Kp=wo E (.fk isMax l) fr h Kp:=aL
def qH (x:au):lQ E (.dR x) fr h Kp=wo E (.dR x) fr h Kp:=aL
def qI (u:TypeId)(x n:au):lQ E (.eF u x n) fr h Kp=wo E (.eF u x n) fr h Kp:=aL
def Er (f:au)(args:List au):lQ E (.call f args) fr h Kp=wo E (.call f args) fr h Kp:=aL
def xw (recv:au)(name:String)(args:List au):lQ E (.invoke recv name args) fr h Kp=wo E (.invoke recv name args) fr h Kp:=aL
end
def FA (P:Program)[Lay P](v:ae)(args:List ae)(h:aa)(K:ae->aa->Prop):Prop :=
 match v with
 |.func f a c=>Nat.blt f 1000000000=true/\Nc P f (gd a (gd args c)) h K
 |_=>False
def Oy (P:Program)[Lay P](E:Env)(v:ae)(name:String)(args:List ae)(h:aa)(K:ae->aa->Prop):Prop :=
 match v with
 |.iface t x=>cR (E.qD t name) λm=>cR (sw E t m.2 x h) λy=>Nc P m.1 (y :: args) h K
 |_=>False
def kS (P:Program)[Lay P](E:Env)(o:dS)(fr:Fr)(h:aa)(Kp:ae->aa->Prop):Prop :=
 match o with
 |.next it=>yh (aJ it fr) h Kp
 |.call f as=>FA P (aJ f fr) (jw as fr) h Kp
 |.invoke r n as=>Oy P E (aJ r fr) n (jw as fr) h Kp
 |o=>wo E o fr h Kp
def adD (P:Program)[Lay P](E:Env)(o:aQ)(fr:Fr)(h:aa)(Kp:ae->aa->Prop):Prop :=
 match o.guard with
 |none=>kS P E o.op fr h Kp
 |some g=>if bj (some g) fr=true then kS P E o.op fr h Kp else Kp aT h
def rj (P:Program)[Lay P](E:Env):List aQ->Fr->aa->(Fr->aa->Prop)->Prop
 |[],fr,h,Q=>Q fr h
 |o :: l,fr,h,Q=>adD P E o fr h λv h'=>rj P E l (dB o.dst fr v) h' Q
def kI (P:Program)[Lay P](E:Env):ax->Fr->aa->(Fr->aa->Prop)->(Nat->Fr->aa->Prop)->(Fr->aa->Prop)->Prop
 |.skip,fr,h,Qn,_,_=>Qn fr h
 |.region l,fr,h,Qn,_,_=>rj P E l fr h Qn
 |.drawn n l,fr,h,Qn,_,_=>pX E h.next l fr ⟨h.next+n,h.t⟩ Qn
 |.seq a b,fr,h,Qn,Qx,Qr=>kI P E a fr h (λfr h=>kI P E b fr h Qn Qx Qr) Qx Qr
 |.cond c a b,fr,h,Qn,Qx,Qr=>Up (aJ c fr) (kI P E a fr h Qn Qx Qr) (kI P E b fr h Qn Qx Qr)
 |.block id a,fr,h,Qn,Qx,Qr=>kI P E a fr h Qn (λj fr h=>if j=id then Qn fr h else Qx j fr h) Qr
 |.loop a,fr,h,_,Qx,Qr=>∃(Inv:Nat->Fr->aa->Prop)(d:Nat),Inv d fr h/\∀d fr h,Inv d fr h->kI P E a fr h (λbP h'=>∃d',d'<d/\Inv d' bP h') Qx Qr
 |.exit id,fr,h,_,Qx,_=>Qx id fr h
 |.ret,fr,h,_,_,Qr=>Qr fr h
section
variable{E:Env}{P:Program}[Lay P]{K:cu}{W0:World}{ρ:Ren}{fr:Fr}{h:aa}{w:World}{a:Act}
def aen (P:Program)[Lay P](o:Oper)(a:Act)(K:cu)(W0:World)(ρ:Ren)(w:World)(Kp:ae->aa->Prop):Prop :=
 ∀(next:Act->World->Prop)(Q:Exit->Act->World->Prop),(∀v h' v' w' bn,Kp v h'->ρ.le bn->V bn v v'->WR P K W0 bn h' w'->next (a.put o.dst v') w')->o.wp P a w next Q
def Calls.ahs {o:Oper}{f:FuncId}{args':Array Value}{Kp:ae->aa->Prop}(hx:(execOp a.eval o).run P w=.ok (.enter f args') w)(hc:Calls P f args' w λe w'=>∃v h',Kp v h'/\jY P K W0 ρ v h' e w'):aen P o a K W0 ρ w Kp:=by
 intro next Q hn
 unfold Oper.wp;rw[hx,Oper.upon_enter];refine Calls.mono hc λe w' he=>?_;obtain⟨v,h',hk,v',bn,rfl,h1,h2,h3⟩:=he;exact hn _ _ _ _ _ hk h1 h2 h3
def Ur (hE:bl E P)(bJ:∀m n,fC P (ba E m n)){o:Oper}{co:dS}(hc:iJ E o.op=some co)(hf:FR ρ fr a.tmps)(H:WR P K W0 ρ h w){Kp:ae->aa->Prop}(hs:kS P E co fr h Kp):aen P o a K W0 ρ w Kp:=by
 by_cases h1:∃f as,co=.call f as
 .obtain⟨f,as,rfl⟩:=h1;obtain⟨c,x,ho,tr,fX,ny⟩:=vc hc;have ar:FA P (aJ f fr) (jw as fr) h Kp:=hs;unfold FA at ar;split at ar
  case h_2=>exact ar.elim
  rename_i g first cap GB
  obtain⟨dL,ar⟩:=ar;have vx:=aB hf fX;have va:=mj hf ny;rw[GB]at vx;obtain⟨wV,cap',ex,v1,v2⟩:=vx.pG dL;rw[gQ,gQ]at ar;obtain⟨vF,um⟩:=ar;refine Calls.ahs (f:=g) (args':=wV++c.args.map a.eval++cap') ?_ (um K W0 ρ w _ ?_ H)
  .unfold execOp;rw[ho];simp only[resolve,tr,ex,Deferred.ofValue,Sem.run_bind,Sem.run_pure,Result.andThen_ok,invoke];exact kp vF _
  .simp only[qKX,qKY];exact v1.append (va.append v2)
 .by_cases h2:∃f n as,co=.invoke f n as
  .obtain⟨r,name,as,rfl⟩:=h2;obtain⟨c,x,ho,tr,fX,ny⟩:=rK hc;have ar:Oy P E (aJ r fr) name (jw as fr) h Kp:=hs;unfold Oy at ar;split at ar
   case h_2=>exact ar.elim
   rename_i t y hy;obtain⟨m,hm,ar⟩:=eQ.1 ar;obtain⟨rv,Qj,ar⟩:=eQ.1 ar;have vx:=aB hf fX;have va:=mj hf ny;rw[hy]at vx;obtain⟨y',ex,vy⟩:=vx.xf;obtain⟨f,pr⟩:=m;obtain⟨vF,um⟩:=ar;unfold Env.qD at hm;simp only[qQV,qQQ]at hm;obtain⟨i,hi,mm,hmm,hm⟩:=hm;split at hm
   case isFalse=>cases hm
   rename_i x9;obtain⟨rv',rf,se⟩:=Bg (P:=P) hE H vy Qj ((name.splitOn ".").getLastD name);have sa:=hE.info _ _ hi;have hp:mm.path.toList=[]:=by simpa using x9
   have DU:∀n,(method (n+1) t y' name).run P w=.ok (f,rv') w:=by
    intro n;unfold method;simp only[Sem.run_bind,run_typeInfo _ sa,Result.andThen_ok,hmm,hp,follow,Sem.run_pure,hm,x9,if_true,rf]
   refine Calls.ahs (f:=f) (args':=#[rv']++c.args.map a.eval) ?_ (um K W0 ρ w _ ?_ H)
   .unfold execOp;rw[ho];simp only[resolve,tr,ex,Sem.run_bind,Sem.run_pure,Result.andThen_ok,invoke];have e0:(#[Value.iface t y']++c.args.map a.eval)[0]?=some (.iface t y'):=by rw[qKM (by simp)];rfl
    simp only[e0,callMethod,Sem.run_bind,run_program,Result.andThen_ok]
    have e1:P.types.size+Made.depth=(P.types.size+(Made.depth-1))+1:=by
     have:0<Made.depth:=by decide
     omega
    rw[e1,DU];simp only[Result.andThen_ok]
    have e2:(#[Value.iface t y']++c.args.map a.eval).extract 1 (#[Value.iface t y']++c.args.map a.eval).size=c.args.map a.eval:=by
     apply qKG;rw[qWF,qKX,qVK];simp;exact qVJ (by simp)
    rw[e2];exact kp vF _
   .simp only[qKX,List.singleton_append];exact .cons se va
  .by_cases hx:∃it,co=.next it
   .obtain⟨it,rfl⟩:=hx;have ar:yh (aJ it fr) h Kp:=hs;obtain⟨x,XD,fX⟩:=vd hc;obtain⟨v,h',J7,hk⟩:=AF XD fX hf H ar;intro next Q hn
    exact J7.opW next Q λv' w' bn h1 h2 h3=>hn v h' v' w' bn hk h1 h2 h3
   .have qx:wo E co fr h Kp:=by
     cases co<;>first|exact hs|exact absurd ⟨_,rfl⟩ hx|exact absurd ⟨_,_,rfl⟩ h1|exact absurd ⟨_,_,_,rfl⟩ h2
    obtain⟨v,h',⟨N,hN⟩,hk⟩:=U7 qx;intro next Q hn
    exact Mu hE (bJ N N) hc hf H (hN N N (qQY _) (qQY _)) next Q λv' w' bn h1 h2 h3=>hn v h' v' w' bn hk h1 h2 h3
def Pe (hE:bl E P)(bJ:∀m n,fC P (ba E m n)){nt:Nat}{ops:Array Oper}{i:Nat}{o:Oper}{co:aQ}(ho:ops[i]?=some o)(hc:gi E nt ops o=some co)
 (hf:FR ρ fr a.tmps) (H:WR P K W0 ρ h w) {Kp:ae->aa->Prop} (hs:adD P E co fr h Kp) {next:Act->World->Prop} {Q:Exit->Act->World->Prop}
 (hn:∀v h' v' w' bn,Kp v h'->ρ.le bn->V bn v v'->WR P K W0 bn h' w'->next (a.put o.dst v') w'):wpOp P ops Q i next a w:=by
 obtain⟨nH,hd,nP⟩:=gU hc;have hgu:=pH hc hf
 have ar:(if bj co.guard fr=true then kS P E co.op fr h Kp else Kp aT h):=by
  obtain⟨d,g,op⟩:=co;cases g with
  |none=>exact hs
  |some g=>exact hs
 rw[hgu]at ar;unfold wpOp;simp only[ho];split at ar
 .rename_i hw;rw[if_pos hw];left;cases CE:iJ E o.op with
  |none =>
   rw[CE]at nP;rw[nP]at ar;exact(eQ.1 (show cR (aC .bad fr h) (λr=>Kp r.1 r.2) from ar)).elim λr hr=>by cases hr.1
  |some c =>
   rw[CE]at nP;rw[nP]at ar;exact Ur hE bJ CE hf H ar next Q hn
 .rename_i hw;rw[if_neg hw];exact hn _ _ undef w ρ ar (Ren.le_refl _) (wx _) H
end
end
section
variable{E:Env}{P:Program}[Lay P]{K:cu}{W0:World}{ρ:Ren}{fr:Fr}{h:aa}{w:World}{a:Act}
def KL (hE:bl E P)(bJ:∀m n,fC P (ba E m n)){nt:Nat}{ops:Array Oper}:∀(l:List aQ)(is:List Nat),is.mapM (λi=>(ops[i]?).bind (gi E nt ops))=some l ->
 ∀{ρ:Ren}{fr:Fr}{h:aa}{w:World}{a:Act}{ds:List Deferred}{Qn:Fr->aa->Prop}{Qx:Nat->Fr->aa->Prop}{Qr:Fr->aa->Prop},nt<=a.tmps.size->FR ρ fr a.tmps->WR P K W0 ρ h w->a.defers=ds->rj P E l fr h Qn->wpOps P ops (kc P K W0 nt ρ ds Qn Qx Qr) is a w:=by
 intro l
 induction l with
 |nil =>
  intro is w9 ρ fr h w a ds Qn Qx Qr hn hf H hd hs;cases is with
  |nil=>exact⟨hd,hn,⟨.normal,fr,h⟩,ρ,rfl,hs,Ren.le_refl _,hf,H⟩
  |cons i is =>
   simp only[qZF,qQV,qQQ]at w9;obtain⟨_,_,_,_,h3⟩:=w9;cases h3
 |cons c l ih =>
  intro is w9 ρ fr h w a ds Qn Qx Qr hn hf H hd hs;cases is with
  |nil=>simp at w9
  |cons i is =>
   simp only[qZF,qQV,qQQ]at w9;obtain⟨co,⟨o,ho,hc⟩,l',h2,h3⟩:=w9;cases h3;obtain⟨nH,yG,_⟩:=gU hc;rw[wpOps_cons];refine Pe hE bJ ho hc hf H (show adD P E c fr h _ from hs) λv h' v' w' bn hk k1 k2 k3=>?_;have Xp:FR bn (dB c.dst fr v) (a.put o.dst v').tmps:=by rw[nH];exact FR.put (hf.mono k1) yG hn k2
   have:=ih is h2 (a:=a.put o.dst v') (ds:=ds) (Qx:=Qx) (Qr:=Qr) (by rw[nf];exact hn) Xp k3 (by rw[lD];exact hd) hk;refine oy ?_ is _ _ this;rintro e a1 w1 ⟨e1,e2,o2,yW,e3,e4,e5,e6,e7⟩;exact⟨e1,e2,o2,yW,e3,e4,Ren.le_trans k1 e5,e6,e7⟩
def Hh {c:Code}{nt:Nat}{cx:ax}{Qx:Nat->Fr->aa->Prop}{Qr:Fr->aa->Prop}{Inv:Nat->Fr->aa->Prop}
 (ih:∀{ρ:Ren}{fr:Fr}{h:aa}{w:World}{a:Act}{ds:List Deferred}{Qn:Fr->aa->Prop},nt<=a.tmps.size->FR ρ fr a.tmps->WR P K W0 ρ h w->a.defers=ds->kI P E cx fr h Qn Qx Qr->c.wp P (kc P K W0 nt ρ ds Qn Qx Qr) a w)
 (hs:∀d fr h,Inv d fr h->kI P E cx fr h (λbP h'=>∃d',d'<d/\Inv d' bP h') Qx Qr) :
 ∀(n d:Nat){ρ:Ren}{fr:Fr}{h:aa}{w:World}{a:Act}{ds:List Deferred}{Qn:Fr->aa->Prop},d<n->Inv d fr h->nt<=a.tmps.size->FR ρ fr a.tmps->WR P K W0 ρ h w->a.defers=ds ->
  ∀(b:Frame)(k:List Item)(cs:List Frame),∃e a' w',kc P K W0 nt ρ ds Qn Qx Qr e a' w'/\Arrives P (lone (b.at a (.code c :: .inLoop c :: k)) cs w) b k cs e a' w':=by
 intro n
 induction n with
 |zero=>intro d _ _ _ _ _ _ _ hd;omega
 |succ n ihn =>
  intro d ρ fr h w a ds Qn hd hi hn hf H hds b k cs;obtain⟨e,a1,w1,hq,nE⟩:=ih hn hf H hds (hs d fr h hi) b (.inLoop c :: k) cs;obtain⟨q1,q2,o,ju,q3,q4,q5,q6,q7⟩:=hq;obtain⟨oe,kG,oh⟩:=o;cases oe with
  |normal =>
   have e1:e=.normal:=q3;subst e1;obtain⟨d',nG,tJ⟩:=q4;obtain⟨e2,a2,w2,wF,Gx⟩:=ihn d' (Qn:=Qn) (by omega) tJ q2 q6 q7 q1 b k cs;exact⟨e2,a2,w2,wF.le q5,.of_steps (Steps.trans nE (.one step_inLoop)) Gx⟩
  |exit id =>
   have e1:e≠.normal:=by rw[q3];simp[fe.out]
   exact⟨e,a1,w1,⟨q1,q2,⟨.exit id,kG,oh⟩,ju,q3,q4,q5,q6,q7⟩,.pass (x:=.inLoop c) rfl (λ_ _=>.inl e1) nE⟩
  |ret =>
   have e1:e≠.normal:=by rw[q3];simp[fe.out]
   exact⟨e,a1,w1,⟨q1,q2,⟨.ret,kG,oh⟩,ju,q3,q4,q5,q6,q7⟩,.pass (x:=.inLoop c) rfl (λ_ _=>.inl e1) nE⟩
def xR (hE:bl E P)(bJ:∀m n,fC P (ba E m n))(lr:∀m n,tW E P (ba E m n)){nt:Nat}{dy:List (Nat×List Nat)} :
 ∀(c:Code){cc:ax},bR E nt dy c=some cc->∀{ρ:Ren}{fr:Fr}{h:aa}{w:World}{a:Act}{ds:List Deferred}{Qn:Fr->aa->Prop}{Qx:Nat->Fr->aa->Prop}{Qr:Fr->aa->Prop},nt<=a.tmps.size->FR ρ fr a.tmps->WR P K W0 ρ h w->a.defers=ds->kI P E cc fr h Qn Qx Qr ->
  c.wp P (kc P K W0 nt ρ ds Qn Qx Qr) a w:=by
 intro c
 have mO:∀{fr h}{Qn:Fr->aa->Prop}{Qx:Nat->Fr->aa->Prop}{Qr:Fr->aa->Prop},kI P E sT fr h Qn Qx Qr->False:=by
  intro fr h Qn Qx Qr hs;have ar:cR (aC .bad fr h) (λr=>Qn (dB none fr r.1) r.2):=hs;exact ar
 induction c with
 |skip =>
  intro cc hc ρ fr h w a ds Qn Qx Qr hn hf H hd hs;cases hc;exact Go.wp_skip ⟨hd,hn,⟨.normal,fr,h⟩,ρ,rfl,hs,Ren.le_refl _,hf,H⟩
 |label l =>
  intro cc hc ρ fr h w a ds Qn Qx Qr hn hf H hd hs;cases hc;exact Go.wp_label ⟨hd,hn,⟨.normal,fr,h⟩,ρ,rfl,hs,Ren.le_refl _,hf,H⟩
 |ret =>
  intro cc hc ρ fr h w a ds Qn Qx Qr hn hf H hd hs;cases hc;exact Go.wp_ret ⟨hd,hn,⟨.ret,fr,h⟩,ρ,rfl,hs,Ren.le_refl _,hf,H⟩
 |exit id =>
  intro cc hc ρ fr h w a ds Qn Qx Qr hn hf H hd hs;cases hc;exact Go.wp_exit ⟨hd,hn,⟨.exit id,fr,h⟩,ρ,rfl,hs,Ren.le_refl _,hf,H⟩
 |region id ops draw =>
  intro cc hc ρ fr h w a ds Qn Qx Qr hn hf H hd hs;unfold bR at hc;cases draw with
  |true =>
   simp only[if_true]at hc;split at hc
   .rename_i ma hp;cases yG:qi E nt ops ma with
    |none =>
     rw[yG]at hc;cases hc;exact(mO hs).elim
    |some d =>
     rw[yG]at hc;cases hc;have nG:=yG;simp only[qi,qQV,qQQ]at nG;obtain⟨cops,Ab,nG⟩:=nG;split at nG
     case isFalse=>cases nG
     simp only[qQQ]at nG;obtain⟨l,hl,nG⟩:=nG;cases nG;obtain⟨bP,h',⟨N,hN⟩,hq⟩:=BB (show pX E h.next l fr ⟨h.next+ops.size,h.t⟩ Qn from hs);refine wp_region_any hE.mixed ?_;have hx:=lr N N K W0 nt ops ma ops.size l ρ fr h _ a bP h' yG (hN N N (qQY _) (qQY _)) hn hf (H.drawn (w.drawn+1));exact sN (λe a1 w1 hx=>kc.aak (o:=⟨.normal,bP,h'⟩) hd hx hq) _ _ _ _ hx
   .cases hc;exact(mO hs).elim
  |false =>
   simp only[qZJ,if_false,qQV,qQQ]at hc;obtain⟨l,hl,hc⟩:=hc;cases hc;exact Go.wp_region (KL hE bJ l _ (qP _ ops hl) hn hf H hd hs)
 |seq x y ihx Kb =>
  intro cc hc ρ fr h w a ds Qn Qx Qr hn hf H hd hs;simp only[bR,qQV,qQQ]at hc;obtain⟨cx,hx,cy,hy,hc⟩:=hc;cases hc;refine Go.wp_seq (Go.wp_mono (ihx hx hn hf H hd (show kI P E cx fr h (λfr h=>kI P E cy fr h Qn Qx Qr) Qx Qr from hs)) λe a1 w1 hq=>?_);obtain⟨q1,q2,o,ju,q3,q4,q5,q6,q7⟩:=hq;obtain⟨oe,kG,oh⟩:=o;cases oe with
  |normal =>
   have e1:e=.normal:=q3;subst e1;exact Go.wp_mono (Kb hy q2 q6 q7 q1 q4) λe a2 w2 wF=>wF.le q5
  |exit id =>
   have e1:e=.exit id:=q3;subst e1;exact⟨q1,q2,⟨.exit id,kG,oh⟩,ju,rfl,q4,q5,q6,q7⟩
  |ret =>
   have e1:e=.ret:=q3;subst e1;exact⟨q1,q2,⟨.ret,kG,oh⟩,ju,rfl,q4,q5,q6,q7⟩
 |cond x y z Kb ihz =>
  intro cc hc ρ fr h w a ds Qn Qx Qr hn hf H hd hs;simp only[bR,qQV,qQQ]at hc;obtain⟨cx,hx,cy,hy,cz,hz,hc⟩:=hc;cases hc;obtain⟨b,hb,h1,h2⟩:=(show Up (aJ cx fr) (kI P E cy fr h Qn Qx Qr) (kI P E cz fr h Qn Qx Qr) from hs);have vx:=aB hf hx;rw[hb]at vx;refine Go.wp_cond vx.iD ?_;cases b with
  |true=>exact Kb hy hn hf H hd (h1 rfl)
  |false=>exact ihz hz hn hf H hd (h2 rfl)
 |block id body ih =>
  intro cc hc ρ fr h w a ds Qn Qx Qr hn hf H hd hs;simp only[bR,qQV,qQQ]at hc;obtain⟨cx,hx,hc⟩:=hc;cases hc;refine Go.wp_block (Go.wp_mono (ih hx hn hf H hd (show kI P E cx fr h Qn (λj fr h=>if j=id then Qn fr h else Qx j fr h) Qr from hs)) λe a1 w1 hq=>?_);obtain⟨q1,q2,o,ju,q3,q4,q5,q6,q7⟩:=hq;obtain⟨oe,kG,oh⟩:=o;cases oe with
  |normal =>
   have e1:e=.normal:=q3;subst e1;exact⟨q1,q2,⟨.normal,kG,oh⟩,ju,rfl,q4,q5,q6,q7⟩
  |ret =>
   have e1:e=.ret:=q3;subst e1;exact⟨q1,q2,⟨.ret,kG,oh⟩,ju,rfl,q4,q5,q6,q7⟩
  |exit j =>
   have e1:e=.exit j:=q3;subst e1;have q4:if j=id then Qn kG oh else Qx j kG oh:=q4
   show(if j=id then kc P K W0 nt ρ ds Qn Qx Qr .normal a1 w1 else kc P K W0 nt ρ ds Qn Qx Qr (.exit j) a1 w1);by_cases hj:j=id
   .rw[if_pos hj]at q4 ⊢;exact⟨q1,q2,⟨.normal,kG,oh⟩,ju,rfl,q4,q5,q6,q7⟩
   .rw[if_neg hj]at q4 ⊢;exact⟨q1,q2,⟨.exit j,kG,oh⟩,ju,rfl,q4,q5,q6,q7⟩
 |loop body ih =>
  intro cc hc ρ fr h w a ds Qn Qx Qr hn hf H hd hs;simp only[bR,qQV,qQQ]at hc;obtain⟨cx,hx,hc⟩:=hc;cases hc;obtain⟨Inv,d,h0,pL⟩:=(show ∃(Inv:Nat->Fr->aa->Prop)(d:Nat),Inv d fr h/\∀d fr h,Inv d fr h->kI P E cx fr h (λbP h'=>∃d',d'<d/\Inv d' bP h') Qx Qr from hs);intro b k cs;obtain⟨e,a1,w1,hq,nE⟩:=Hh (Qn:=Qn) (λhn hf H hd hs=>ih hx hn hf H hd hs) pL (d+1) d (by omega) h0 hn hf H hd b k cs;exact⟨e,a1,w1,hq,.of_steps (.one step_loop) nE⟩
 |scope body ih =>
  intro cc hc ρ fr h w a ds Qn Qx Qr hn hf H hd hs;refine BA (λl a1 w1 hq=>?_) (ih hc hn hf H hd hs);obtain⟨q1,q2,o,ju,q3,q4,q5,q6,q7⟩:=hq;obtain⟨oe,kG,oh⟩:=o;cases oe<;>cases q3
 |_ =>
  intro cc hc ρ fr h w a ds Qn Qx Qr hn hf H hd hs;cases hc;exact(mO hs).elim
def Nc.qJ {E:Env}(hE:bl E P)(bJ:∀m n,fC P (ba E m n))(lr:∀m n,tW E P (ba E m n)){f:FuncId}{fn:Func}{cc:ax}{rs:List ResultVar}{args:List ae}{h:aa}{Q:ae->aa->Prop}
 (GB:E.fn.get f=some fn) (Aj:(fn.name == "runtime.NumGoroutine")=false) (nM:E.code f=some (cc,rs))
 (hw:kI P E cc (dN args 0 .nil) h (bx (λfr h=>cR (bw E h fr rs) λv=>Q v h) .mk) (λ_ _ _=>False) (bx (λfr h=>cR (bw E h fr rs) λv=>Q v h) .mk)):Nc P f args h Q:=by
 simp only[Env.code,qQV,qQQ]at nM;obtain⟨fn',Ta,c,hc,cc',kE,nM⟩:=nM;cases nM;rw[GB] at Ta;cases Ta;have B1:=hE.fn _ _ GB;refine⟨⟨fn,B1,Aj,by rw[hc];rfl⟩,λK W0 ρ w args' dG H=>?_⟩;have kF:fn.ntmps<=(args'++Array.replicate (fn.ntmps-args'.size) undef).size:=by simp;omega
 have hwp:=xR hE bJ lr c kE (a:={tmps:=args'++Array.replicate (fn.ntmps-args'.size) undef,defers:=[]}) (ds:=[]) kF (jR dG _) H rfl hw;refine calls_of_wp B1 hc (Go.wp_mono hwp λe a1 w1 hq=>?_);obtain⟨q1,q2,o,ju,q3,q4,q5,q6,q7⟩:=hq;obtain⟨oe,kG,oh⟩:=o
 have gW:∀(hr:cR (bw E oh kG fn.results.toList) λv=>Q v oh),a1.defers=[]/\∃v,(results fn a1.tmps).run P w1=.ok v w1/\∃v2 h2,Q v2 h2/\jY P K W0 ρ v2 h2 (.returned v) w1:=by
  intro hr;obtain⟨v2,h1,h2⟩:=eQ.1 hr;obtain⟨v',r1,r2⟩:=gH hE q6 q7 h1;exact⟨q1,v',r1,v2,oh,h2,v',ju,rfl,q5,r2,q7⟩
 cases oe with
 |exit id=>exact q4.elim
 |normal =>
  have e1:e=.normal:=q3;subst e1;exact gW q4
 |ret =>
  have e1:e=.ret:=q3;subst e1;exact gW q4
section
variable{P:Program}[Lay P]{E:Env}{fr bP:Fr}{h h':aa}{Kp:ae->aa->Prop}{Q Qn Qr:Fr->aa->Prop}{Qx:Nat->Fr->aa->Prop}
def aeG {a b:ax}:kI P E (.seq a b) fr h Qn Qx Qr=kI P E a fr h (bx (λfr h=>kI P E b fr h Qn Qx Qr) .mk) Qx Qr:=aL
def aaU:kI P E .skip fr h Qn Qx Qr=Qn fr h:=aL
def aaS {id:Nat}:kI P E (.exit id) fr h Qn Qx Qr=Qx id fr h:=aL
def aeF:kI P E .ret fr h Qn Qx Qr=Qr fr h:=aL
def Ri {l:List aQ}:kI P E (.region l) fr h Qn Qx Qr=rj P E l fr h Qn:=aL
def Wj {n:Nat}{l:List aP}:kI P E (.drawn n l) fr h Qn Qx Qr=pX E h.next l fr (h.skip n) Qn:=aL
def Wi {id:Nat}{a:ax}:kI P E (.block id a) fr h Qn Qx Qr=kI P E a fr h Qn (bx (λj fr h=>if j=id then Qn fr h else Qx j fr h) .mk) Qr:=aL
def aaR {c:au}{a b:ax}:kI P E (.cond c a b) fr h Qn Qx Qr=rQ (aJ c fr) (bx (kI P E a fr h Qn Qx Qr) .mk) (bx (kI P E b fr h Qn Qx Qr) .mk):=by
 show Up (aJ c fr) _ _=rQ (aJ c fr) _ _;cases aJ c fr<;>simp[Up,rQ,bx]
def kf {a:ax}(Inv:Nat->Fr->aa->Prop)(d:Nat)(h0:Inv d fr h)(hs:∀d fr h,Inv d fr h->kI P E a fr h (bx (λbP h'=>∃d',d'<d/\Inv d' bP h') .mk) Qx Qr):kI P E (.loop a) fr h Qn Qx Qr:=⟨Inv,d,h0,hs⟩
def aeE:rj P E [] fr h Q=Q fr h:=aL
def aji {o:dS}{d:Option Nat}{l:List aQ}:rj P E (⟨d,none,o⟩ :: l) fr h Q=kS P E o fr h (bx (λv h'=>rj P E l (dB d fr v) h' Q) .mk):=aL
def aaT {o:dS}{d:Option Nat}{g:Nat×Bool}{l:List aQ}:rj P E (⟨d,some g,o⟩ :: l) fr h Q=vR (bj (some g) fr=true) (bx (kS P E o fr h (bx (λv h'=>rj P E l (dB d fr v) h' Q) .mk)) .mk) (bx (rj P E l (dB d fr aT) h Q) .mk):=by
 show(if bj (some g) fr=true then kS P E o fr h (λv h'=>rj P E l (dB d fr v) h' Q) else rj P E l (dB d fr aT) h Q)=_;unfold vR bx;by_cases hg:bj (some g) fr=true<;>simp[hg]
def WY (it:au):kS P E (.next it) fr h Kp=yh (aJ it fr) h Kp:=aL
def WT (f:au)(args:List au):kS P E (.call f args) fr h Kp=FA P (aJ f fr) (jw args fr) h Kp:=aL
def Ny (r:au)(n:String)(args:List au):kS P E (.invoke r n args) fr h Kp=Oy P E (aJ r fr) n (jw args fr) h Kp:=aL
def IW {f:FuncId}{as cap args:List ae}{K:ae->aa->Prop}:FA P (.func f as cap) args h K=(Nat.blt f 1000000000=true/\Nc P f (gd as (gd args cap)) h K):=aL
def aeT (x:au):kS P E (.mv x) fr h Kp=wo E (.mv x) fr h Kp:=aL
def WZ (c a b:au):kS P E (.pick c a b) fr h Kp=wo E (.pick c a b) fr h Kp:=aL
def aa8 (t:TypeId)(x:au):kS P E (.box t x) fr h Kp=wo E (.box t x) fr h Kp:=aL
def R3 (zero:List ae)(parts:List (Nat×Nat×au)):kS P E (.build zero parts) fr h Kp=wo E (.build zero parts) fr h Kp:=aL
def BS (elem:TypeId)(len:Nat)(zero:List ae)(parts:List (Nat×Nat×au)):kS P E (.buildSlice elem len zero parts) fr h Kp=wo E (.buildSlice elem len zero parts) fr h Kp:=aL
def R8 (x:au):kS P E (.ct x) fr h Kp=wo E (.ct x) fr h Kp:=aL
def R9 (n:Nat)(x:au):kS P E (.fJ n x) fr h Kp=wo E (.fJ n x) fr h Kp:=aL
def Sg (n:Nat)(a v:au):kS P E (.store n a v) fr h Kp=wo E (.store n a v) fr h Kp:=aL
def Gh (x:au):kS P E (.nilCheck x) fr h Kp=wo E (.nilCheck x) fr h Kp:=aL
def aa7 (op:BinOp)(q:yv)(x y:au):kS P E (.bin op q x y) fr h Kp=wo E (.bin op q x y) fr h Kp:=aL
def abb (x:au):kS P E (.not x) fr h Kp=wo E (.not x) fr h Kp:=aL
def aba (x:au):kS P E (.neg x) fr h Kp=wo E (.neg x) fr h Kp:=aL
def WQ (k:IntKind)(x:au):kS P E (.px k x) fr h Kp=wo E (.px k x) fr h Kp:=aL
def WS (x:au):kS P E (.uc x) fr h Kp=wo E (.uc x) fr h Kp:=aL
def DF (e:TypeId)(x:au):kS P E (.dQ e x) fr h Kp=wo E (.dQ e x) fr h Kp:=aL
def DE (x:au):kS P E (.dw x) fr h Kp=wo E (.dw x) fr h Kp:=aL
def Js (t:TypeId)(x:au):kS P E (.eP t x) fr h Kp=wo E (.eP t x) fr h Kp:=aL
def NC (f:FuncId)(first captured:List au):kS P E (.iu f first captured) fr h Kp=wo E (.iu f first captured) fr h Kp:=aL
def Sa:kS P E (.mkMap ) fr h Kp=wo E (.mkMap ) fr h Kp:=aL
def Jt (elem:TypeId)(zero:List ae)(bytes:Nat)(l c:au):kS P E (.mkSlice elem zero bytes l c) fr h Kp=wo E (.mkSlice elem zero bytes l c) fr h Kp:=aL
def Sf (x:au)(lo hi:Option au):kS P E (.nk x lo hi) fr h Kp=wo E (.nk x lo hi) fr h Kp:=aL
def W1 (elem:TypeId)(size:Nat)(x:au)(lo hi mx:Option au):kS P E (.qR elem size x lo hi mx) fr h Kp=wo E (.qR elem size x lo hi mx) fr h Kp:=aL
def Se (n size:Nat)(x:au)(lo hi:Option au):kS P E (.ox n size x lo hi) fr h Kp=wo E (.ox n size x lo hi) fr h Kp:=aL
def R5 (off:Nat)(x:au):kS P E (.dh off x) fr h Kp=wo E (.dh off x) fr h Kp:=aL
def Sb (off:Nat)(x:au):kS P E (.lV off x) fr h Kp=wo E (.lV off x) fr h Kp:=aL
def Sc (off n:Nat)(x:au):kS P E (.mY off n x) fr h Kp=wo E (.mY off n x) fr h Kp:=aL
def R6 (len size:Nat)(x i:au):kS P E (.nR len size x i) fr h Kp=wo E (.nR len size x i) fr h Kp:=aL
def WV (size:Nat)(x i:au):kS P E (.kz size x i) fr h Kp=wo E (.kz size x i) fr h Kp:=aL
def WW (len size:Nat)(x i:au):kS P E (.vM len size x i) fr h Kp=wo E (.vM len size x i) fr h Kp:=aL
def WX (len size:Nat)(x i:au):kS P E (.vN len size x i) fr h Kp=wo E (.vN len size x i) fr h Kp:=aL
def R7 (x i:au):kS P E (.kh x i) fr h Kp=wo E (.kh x i) fr h Kp:=aL
def Nz (q:iH)(zero:ae)(x k:au)(ok:Bool):kS P E (.lookup q zero x k ok) fr h Kp=wo E (.lookup q zero x k ok) fr h Kp:=aL
def NA (q:iH)(m k v:au):kS P E (.fj q m k v) fr h Kp=wo E (.fj q m k v) fr h Kp:=aL
def Gg (q:iH)(zero:ae)(m k:au):kS P E (.mapEntry q zero m k) fr h Kp=wo E (.mapEntry q zero m k) fr h Kp:=aL
def BT (m s v:au):kS P E (.entryStore m s v) fr h Kp=wo E (.entryStore m s v) fr h Kp:=aL
def Sd (x:au):kS P E (.range x) fr h Kp=wo E (.range x) fr h Kp:=aL
def R4 (it:au):kS P E (.entry it) fr h Kp=wo E (.entry it) fr h Kp:=aL
def Nx (t:TypeId)(zero:ae)(ok:Bool)(x:au):kS P E (.assert t zero ok x) fr h Kp=wo E (.assert t zero ok x) fr h Kp:=aL
def Jr (i:Nat)(x:au):kS P E (.extract i x) fr h Kp=wo E (.extract i x) fr h Kp:=aL
def aa9 (s:Src)(x:au):kS P E (.len s x) fr h Kp=wo E (.len s x) fr h Kp:=aL
def Nw (elem:TypeId)(size:Nat)(s x:au):kS P E (.append elem size s x) fr h Kp=wo E (.append elem size s x) fr h Kp:=aL
def WU (size:Nat)(s x:au):kS P E (.copy size s x) fr h Kp=wo E (.copy size s x) fr h Kp:=aL
def NB (isMax:Bool)(l:List au):kS P E (.fk isMax l) fr h Kp=wo E (.fk isMax l) fr h Kp:=aL
def DG (x:au):kS P E (.dR x) fr h Kp=wo E (.dR x) fr h Kp:=aL
def DH (u:TypeId)(x n:au):kS P E (.eF u x n) fr h Kp=wo E (.eF u x n) fr h Kp:=aL
end
end
end Go.AX
