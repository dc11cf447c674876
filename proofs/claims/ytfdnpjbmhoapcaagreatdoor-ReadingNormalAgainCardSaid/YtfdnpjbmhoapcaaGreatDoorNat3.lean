/-
  Contracts of functions of this seat, for every input that each theorem names.
-/
import Derived.Test.YtfdnpjbmhoapcaaGreatDoorNaw1
set_option linter.all false
set_option maxHeartbeats 32000000
namespace Go.AX
open Go Go.RowKit
noncomputable section
def yh (v:ae)(h:aa)(Kp:ae->aa->Prop):Prop :=
 ∃r m since seen last es clock,v=.ptr r 0/\h.get r=some (.mapIter (some m) since seen last)/\h.get m=some (.map es clock) /\
  (!seen.isEmpty && !es.isEmpty && es.all (λe=>Nat.ble last e.2.2))=false /\
  (∀e,e∈es->seen.contains e.2.2=false->e.2.2<since) /\
  ((∀e,e∈es->seen.contains e.2.2=true)->Kp (.eC [.bool false]) h) /\
  (∀e,e∈es->seen.contains e.2.2=false->Kp (.eC [.bool true,e.1,e.2.1]) (h.put r (.mapIter (some m) since (seen++[e.2.2]) clock)))
def lQ (E:Env)(o:dS)(fr:Fr)(h:aa)(Kp:ae->aa->Prop):Prop :=
 match o with
 |.next it=>yh (aJ it fr) h Kp
 |o=>wo E o fr h Kp
def YT (E:Env)(o:aQ)(fr:Fr)(h:aa)(Kp:ae->aa->Prop):Prop :=
 match o.guard with
 |none=>lQ E o.op fr h Kp
 |some _=>Bx E o fr h Kp
def sM (E:Env):List aQ->Fr->aa->(Fr->aa->Prop)->Prop
 |[],fr,h,Q=>Q fr h
 |o :: l,fr,h,Q=>YT E o fr h λv h'=>sM E l (dB o.dst fr v) h' Q
def rC (E:Env):ax->Fr->aa->(Fr->aa->Prop)->(Nat->Fr->aa->Prop)->(Fr->aa->Prop)->Prop
 |.skip,fr,h,Qn,_,_=>Qn fr h
 |.region l,fr,h,Qn,_,_=>sM E l fr h Qn
 |.drawn n l,fr,h,Qn,_,_=>pX E h.next l fr ⟨h.next+n,h.t⟩ Qn
 |.seq a b,fr,h,Qn,Qx,Qr=>rC E a fr h (λfr h=>rC E b fr h Qn Qx Qr) Qx Qr
 |.cond c a b,fr,h,Qn,Qx,Qr=>Up (aJ c fr) (rC E a fr h Qn Qx Qr) (rC E b fr h Qn Qx Qr)
 |.block id a,fr,h,Qn,Qx,Qr=>rC E a fr h Qn (λj fr h=>if j=id then Qn fr h else Qx j fr h) Qr
 |.loop a,fr,h,_,Qx,Qr=>∃(Inv:Nat->Fr->aa->Prop)(d:Nat),Inv d fr h/\∀d fr h,Inv d fr h->rC E a fr h (λbP h'=>∃d',d'<d/\Inv d' bP h') Qx Qr
 |.exit id,fr,h,_,Qx,_=>Qx id fr h
 |.ret,fr,h,_,_,Qr=>Qr fr h
structure kc (P:Program)[Lay P](K:cu)(W0:World)(nt:Nat)(ρ:Ren)(ds:List Deferred)(Qn:Fr->aa->Prop)(Qx:Nat->Fr->aa->Prop)(Qr:Fr->aa->Prop)(e:Exit)(a:Act)(w:World):Prop where
 defers:a.defers=ds
 size:nt<=a.tmps.size
 rest:∃(o:Out)(bn:Ren),e=o.e.out/\Ends Qn Qx Qr o/\ρ.le bn/\FR bn o.fr a.tmps/\WR P K W0 bn o.h w
end
section
variable{E:Env}{P:Program}[Lay P]{K:cu}{W0:World}{ρ:Ren}{fr:Fr}{h:aa}{w:World}{a:Act}
def AF {it:Operand}{o:Oper}{cx:au}{Kp:ae->aa->Prop}(ho:o.op=.next it false)(fX:cO it=some cx)(hf:FR ρ fr a.tmps)(H:WR P K W0 ρ h w)
 (hw:yh (aJ cx fr) h Kp):∃v h',Sound P (execOp a.eval o) K W0 ρ w v h'/\Kp v h':=by
 have kx:execOp a.eval o=(do pure (.value (<-Instr.next (a.eval it) false o.type))):=by unfold execOp;rw[ho]
 rw[kx];obtain⟨b,m,since,seen,last,es,clock,hp,hb,hm,r9,hold,mP,agt⟩:=hw;have vx:=aB hf fX;rw[hp]at vx;obtain⟨r,hr,ex⟩:=vx.gv;obtain⟨hd,m',g1,g2⟩:=Eb H hb hr;rw[ex,show 0+r.d=0 by omega];have jx:=sE (P:=P) g1 (λ_ _ _ h=>by cases h);rcases g2 with⟨h,_⟩|⟨m1,s,h,tw,rfl⟩
 case inl=>cases h
 cases h;obtain⟨dX,k1,k2,k3⟩:=qC H hm tw;have hlen:=k2.length
 have wY:dX.isEmpty=es.isEmpty:=by
  rw[qZL];simp at hlen ⊢;rw[<-Array.size_eq_zero_iff,<-hlen,List.length_eq_zero_iff]
 have jm:(dX.all λe=>decide (e.born>=last))=es.all λe=>Nat.ble last e.2.2:=by
  have:=k2.all (p:=λn=>Nat.ble last n);rw[<-this];simp only[Array.all_toList];congr 1;funext e;rw[qZL];simp
 have Aa:(!seen.toArray.isEmpty && !dX.isEmpty && dX.all (λe=>decide (e.born>=last)))=false:=by
  rw[wY,jm,<-r9];simp
 have pJ:EL ρ (es.filter λe=>!seen.contains e.2.2) (dX.filter λe=>!seen.toArray.contains e.born).toList:=by
  have:=k2.filter (p:=λn=>!seen.contains n);rw[Array.toList_filter];simpa using this
 have eE:∀e,e∈(es.filter λe=>!seen.contains e.2.2)↔e∈es/\seen.contains e.2.2=false:=by
  intro e;rw[qZM];simp
 generalize ic:(es.filter λe=>!seen.contains e.2.2)=fl at pJ eE;generalize S9:(dX.filter λe=>!seen.toArray.contains e.born)=uN at pJ;have ZP:=pJ.length;by_cases hz:fl=[]
 .subst hz
  have:uN=#[]:=by
   generalize hq:uN.toList=q at pJ;cases pJ;exact qKE.1 hq
  subst this;refine⟨.eC [.bool false],h,.fc (v':=.tuple #[.bool false]) ?_ (.eC (.cons (.bool _) .nil)) H,mP λe he=>?_⟩
  .unfold Instr.next;simp only[Sem.run_bind,jx,Result.andThen_ok,cD k1];rw[Aa];simp only[qZJ,if_false,S9,Array.filter_empty,Array.isEmpty_empty,if_true,Sem.run_bind];simp[Question.forced]
  .cases hc:seen.contains e.2.2 with
   |true=>rfl
   |false=>have:=(eE e).2 ⟨he,hc⟩;simp at this
 .have Tb:∀j:Nat,j<uN.size->∃e e',fl[j]?=some e/\uN[j]?=some e'/\V ρ e.1 e'.key/\V ρ e.2.1 e'.val/\e.2.2=e'.born:=by
   intro j hj
   have key:∀{l:List (ae×ae×Nat)}{l':List MapEntry},EL ρ l l'->∀j,j<l'.length->∃e e',l[j]?=some e/\l'[j]?=some e'/\V ρ e.1 e'.key/\V ρ e.2.1 e'.val/\e.2.2=e'.born:=by
    intro l l' hl
    induction hl with
    |nil=>intro j hj;simp at hj
    |cons a b c _ ih =>
     intro j hj;cases j with
     |zero=>exact⟨_,_,rfl,rfl,a,b,c⟩
     |succ j=>exact ih j (by simpa using hj)
   obtain⟨e,e',h1,h2,h3⟩:=key pJ j (by simpa using hj);exact⟨e,e',h1,by simpa using h2,h3⟩
  have dV:uN.isEmpty=false:=by
   cases fl with
   |nil=>exact absurd rfl hz
   |cons x l =>
    rw[qWC];intro hc;rw[Array.isEmpty_iff_size_eq_zero]at hc;simp at ZP;omega
  have DY:0<uN.size:=by
   rw[qWC]at dV;have:¬uN.size=0:=λh=>dV (by rw[Array.isEmpty_iff_size_eq_zero];exact h);omega
  have agA:uN.filter (λe=>decide (e.born<since))=uN:=by
   rw[Array.filter_eq_self];intro e' mQ;obtain⟨j,hj,hje⟩:=Array.mem_iff_getElem.1 mQ;obtain⟨e,e2,h1,h2,_,_,h5⟩:=Tb j hj;rw[qJG hj,hje]at h2;cases h2;have:=(eE e).1 (qQK h1);have:=hold e this.1 this.2;simp;omega
  have agw:uN.filter (λe=>decide (e.born>=since))=#[]:=by
   rw[Array.filter_eq_empty_iff];intro e' mQ;obtain⟨j,hj,hje⟩:=Array.mem_iff_getElem.1 mQ;obtain⟨e,e2,h1,h2,_,_,h5⟩:=Tb j hj;rw[qJG hj,hje]at h2;cases h2;have:=(eE e).1 (qQK h1);have:=hold e this.1 this.2;simp;omega
  have afH:((if uN.isEmpty=true then #[none] else #[])++(uN++(#[]:Array MapEntry)).map some:Array (Option MapEntry))=uN.map some:=by
   rw[dV];simp
  obtain⟨j,w1,hj,XK,SV⟩:∃(j:Nat)(w1:World),j<uN.size/\(w1=w\/w1={w with drawn:=w.drawn+1})/\(choose (.mapNext (uN.map some).size):Sem Nat).run P w=.ok j w1:=by
   have iq:(uN.map some).size=uN.size:=by simp
   rw[iq];by_cases hq:uN.size<=1
   .refine⟨0,w,DY,.inl rfl,?_⟩;have:(Question.mapNext uN.size).forced=true:=by simpa[Question.forced] using hq
    show(if(Question.mapNext uN.size).forced=true then _ else _)=_;rw[if_pos this];rfl
   .refine⟨w.tape w.drawn (.mapNext uN.size) % uN.size,{w with drawn:=w.drawn+1},Nat.mod_lt _ DY,.inr rfl,?_⟩;have:¬(Question.mapNext uN.size).forced=true:=by simpa[Question.forced] using hq
    show(if(Question.mapNext uN.size).forced=true then _ else _)=_;rw[if_neg this];rfl
  obtain⟨e,e',h1,h2,va,vb,ec⟩:=Tb j hj;have hin:=(eE e).1 (qQK h1);have hK:=agt e hin.1 hin.2
  have H1:WR P K W0 ρ h w1:=by
   rcases XK with rfl|rfl
   .exact H
   .exact H.drawn _
  have g1':w1.heap[r.b]?=some (.mapIter (some s.b) since seen.toArray last):=by
   rcases XK with rfl|rfl<;>exact g1
  have hcj:(uN.map some)[j]?=some (some e'):=by
   rw[Array.getElem?_map,h2];rfl
  refine⟨_,_,.val (v':=.tuple #[.bool true,e'.key,e'.val]) (w':={w1 with heap:=w1.heap.setIfInBounds r.b (.mapIter (some s.b) since (seen.toArray.push e'.born) clock)}) ?_ (Ren.le_refl _) (.eC (.cons (.bool _) (.cons va (.cons vb .nil)))) ?_,hK⟩
  .unfold Instr.next;simp only[Sem.run_bind,jx,Result.andThen_ok,cD k1];rw[Aa];simp only[qZJ,if_false,S9,Sem.run_pure,Result.andThen_ok,Sem.run_bind,agA,agw,afH,SV,hcj];simp[nj (P:=P) g1' (λ_ _ _ h=>by cases h)]
  .have ht:=Bm w1 r.b (.mapIter (some s.b) since (seen.toArray.push e'.born) clock);refine H1.put hb trivial hr ht.os ht.tape ht.output ht.size ht.eN λ_=>?_;rw[K8 w1 g1'];exact⟨hd,some s.b,by rw[ec];simp,.inr ⟨m,s,rfl,tw,rfl⟩⟩
def A8 (hE:bl E P)(bJ:∀m n,fC P (ba E m n)){nt:Nat}{ops:Array Oper}{i:Nat}{o:Oper}{co:aQ}(ho:ops[i]?=some o)(hc:gi E nt ops o=some co)
 (hf:FR ρ fr a.tmps) (H:WR P K W0 ρ h w) {Kp:ae->aa->Prop} (hw:Bx E co fr h Kp) {next:Act->World->Prop} {Q:Exit->Act->World->Prop}
 (hn:∀v h' v' w' bn,Kp v h'->ρ.le bn->V bn v v'->WR P K W0 bn h' w'->next (a.put o.dst v') w'):wpOp P ops Q i next a w:=by
 obtain⟨v,h',⟨N,hN⟩,hk⟩:=xQ hw;exact jg hE (bJ N N) ho hc hf H (hN N N (qQY _) (qQY _)) λv' w' bn h1 h2 h3=>hn v h' v' w' bn hk h1 h2 h3
def vd {op:Op}{it:au}(h:iJ E op=some (.next it)):∃x,op=.next x false/\cO x=some it:=by
 cases op
 case next x s =>
  cases s with
  |true=>simp[iJ]at h
  |false =>
   simp only[iJ,qQV,qQQ]at h;obtain⟨c,h1,h2⟩:=h;cases h2;exact⟨x,rfl,h1⟩
 case call c =>
  cases hc:c.callee with
  |value x =>
   simp only[iJ,hc,qQV,qQQ]at h;obtain⟨f',h1,as',h2,h3⟩:=h;cases h3
  |invoke r n =>
   simp only[iJ,hc,qQV,qQQ]at h;obtain⟨f',h1,as',h2,h3⟩:=h;cases h3
  |builtin b =>
   simp only[iJ,hc]at h;unfold mD at h;exfalso;revert h
   repeat' split
   all_goals (intro h)
   all_goals (try (unfold IV at h))
   all_goals (try (unfold qh at h))
   all_goals (try (unfold zq at h))
   all_goals (try (unfold jN at h))
   all_goals repeat' (first|(cases h;done)|(obtain⟨_,_,h⟩:=h)|(simp only[qQV,qQQ]at h)|split at h)
 all_goals exfalso
 all_goals (unfold iJ at h)
 all_goals repeat' (first|(cases h;done)|(cases ‹(_:Op)=Op.call _›;done)|(cases ‹(_:Op)=Op.next _ _›;done)|(obtain⟨_,_,h⟩:=h)|(simp only[qQV,qQQ,qQC]at h)|split at h)
def Pj (hE:bl E P)(bJ:∀m n,fC P (ba E m n)){nt:Nat}{ops:Array Oper}{i:Nat}{o:Oper}{co:aQ}(ho:ops[i]?=some o)(hc:gi E nt ops o=some co)
 (hf:FR ρ fr a.tmps) (H:WR P K W0 ρ h w) {Kp:ae->aa->Prop} (hw:YT E co fr h Kp) {next:Act->World->Prop} {Q:Exit->Act->World->Prop}
 (hn:∀v h' v' w' bn,Kp v h'->ρ.le bn->V bn v v'->WR P K W0 bn h' w'->next (a.put o.dst v') w'):wpOp P ops Q i next a w:=by
 obtain⟨d,g,op⟩:=co;cases g with
 |some g=>exact A8 hE bJ ho hc hf H (co:=⟨d,some g,op⟩) hw hn
 |none =>
  by_cases hx:∃it,op=.next it
  .obtain⟨it,rfl⟩:=hx;have hw:yh (aJ it fr) h Kp:=hw;obtain⟨nH,hd,nP⟩:=gU hc;have hgu:=pH hc hf
   have ala:iJ E o.op=some (.next it):=by
    cases CE:iJ E o.op with
    |none=>rw[CE]at nP;cases nP
    |some c=>rw[CE]at nP;rw[<-show dS.next it=c from nP]
   obtain⟨x,XD,fX⟩:=vd ala;obtain⟨v,h',hs,hk⟩:=AF XD fX hf H hw;unfold wpOp;simp only[ho];rw[if_pos (by rw[<-hgu];rfl)];left;exact hs.opW next Q λv' w' bn h1 h2 h3=>hn v h' v' w' bn hk h1 h2 h3
  .have CO:Bx E ⟨d,none,op⟩ fr h Kp:=by
    have e:YT E ⟨d,none,op⟩ fr h Kp=lQ E op fr h Kp:=rfl;rw[e]at hw;show wo E op fr h Kp;cases op<;>first|exact hw|exact absurd ⟨_,rfl⟩ hx
   exact A8 hE bJ ho hc hf H CO hn
def KM (hE:bl E P)(bJ:∀m n,fC P (ba E m n)){nt:Nat}{ops:Array Oper}:∀(l:List aQ)(is:List Nat),is.mapM (λi=>(ops[i]?).bind (gi E nt ops))=some l ->
 ∀{ρ:Ren}{fr:Fr}{h:aa}{w:World}{a:Act}{ds:List Deferred}{Qn:Fr->aa->Prop}{Qx:Nat->Fr->aa->Prop}{Qr:Fr->aa->Prop},nt<=a.tmps.size->FR ρ fr a.tmps->WR P K W0 ρ h w->a.defers=ds->sM E l fr h Qn->wpOps P ops (kc P K W0 nt ρ ds Qn Qx Qr) is a w:=by
 intro l
 induction l with
 |nil =>
  intro is w9 ρ fr h w a ds Qn Qx Qr hn hf H hd hs;cases is with
  |nil=>exact⟨hd,hn,⟨.normal,fr,h⟩,ρ,rfl,hs,Ren.le_refl _,hf,H⟩
  |cons i is =>
   simp only[qZF,qQV,qQQ]at w9;obtain⟨_,_,_,_,h3⟩:=w9;cases h3
 |cons c l ih =>
  intro is w9 ρ fr h w a ds Qn Qx Qr hn hf H hd hs;cases is with
  |nil=>simp at w9
  |cons i is =>
   simp only[qZF,qQV,qQQ]at w9;obtain⟨co,⟨o,ho,hc⟩,l',h2,h3⟩:=w9;cases h3;obtain⟨nH,yG,_⟩:=gU hc;rw[wpOps_cons];refine Pj hE bJ ho hc hf H (show YT E c fr h _ from hs) λv h' v' w' bn hk k1 k2 k3=>?_;have Xp:FR bn (dB c.dst fr v) (a.put o.dst v').tmps:=by rw[nH];exact FR.put (hf.mono k1) yG hn k2
   have:=ih is h2 (a:=a.put o.dst v') (ds:=ds) (Qx:=Qx) (Qr:=Qr) (by rw[nf];exact hn) Xp k3 (by rw[lD];exact hd) hk;refine oy ?_ is _ _ this;rintro e a1 w1 ⟨e1,e2,o2,yW,e3,e4,e5,e6,e7⟩;exact⟨e1,e2,o2,yW,e3,e4,Ren.le_trans k1 e5,e6,e7⟩
def kc.le {nt:Nat}{bn:Ren}{ds:List Deferred}{Qn:Fr->aa->Prop}{Qx:Nat->Fr->aa->Prop}{Qr:Fr->aa->Prop}{e:Exit}(hle:ρ.le bn)(hq:kc P K W0 nt bn ds Qn Qx Qr e a w):kc P K W0 nt ρ ds Qn Qx Qr e a w:=by
 obtain⟨e1,e2,o2,yW,e3,e4,e5,e6,e7⟩:=hq;exact⟨e1,e2,o2,yW,e3,e4,Ren.le_trans hle e5,e6,e7⟩
def kc.aak {nt:Nat}{ds:List Deferred}{Qn:Fr->aa->Prop}{Qx:Nat->Fr->aa->Prop}{Qr:Fr->aa->Prop}{e:Exit}{a0:Act}{o:Out}(hd:a0.defers=ds)(hq:XQ P K W0 nt ρ a0 o e a w)(he:Ends Qn Qx Qr o):kc P K W0 nt ρ ds Qn Qx Qr e a w:=by
 obtain⟨bn,k1,k2,k3⟩:=hq.rest;exact⟨hq.defers.trans hd,hq.size,o,bn,hq.e,he,k1,k2,k3⟩
def Hi {c:Code}{nt:Nat}{cx:ax}{Qx:Nat->Fr->aa->Prop}{Qr:Fr->aa->Prop}{Inv:Nat->Fr->aa->Prop}
 (ih:∀{ρ:Ren}{fr:Fr}{h:aa}{w:World}{a:Act}{ds:List Deferred}{Qn:Fr->aa->Prop},nt<=a.tmps.size->FR ρ fr a.tmps->WR P K W0 ρ h w->a.defers=ds->rC E cx fr h Qn Qx Qr->c.wp P (kc P K W0 nt ρ ds Qn Qx Qr) a w)
 (hs:∀d fr h,Inv d fr h->rC E cx fr h (λbP h'=>∃d',d'<d/\Inv d' bP h') Qx Qr) :
 ∀(n d:Nat){ρ:Ren}{fr:Fr}{h:aa}{w:World}{a:Act}{ds:List Deferred}{Qn:Fr->aa->Prop},d<n->Inv d fr h->nt<=a.tmps.size->FR ρ fr a.tmps->WR P K W0 ρ h w->a.defers=ds ->
  ∀(b:Frame)(k:List Item)(cs:List Frame),∃e a' w',kc P K W0 nt ρ ds Qn Qx Qr e a' w'/\Arrives P (lone (b.at a (.code c :: .inLoop c :: k)) cs w) b k cs e a' w':=by
 intro n
 induction n with
 |zero=>intro d _ _ _ _ _ _ _ hd;omega
 |succ n ihn =>
  intro d ρ fr h w a ds Qn hd hi hn hf H hds b k cs;obtain⟨e,a1,w1,hq,nE⟩:=ih hn hf H hds (hs d fr h hi) b (.inLoop c :: k) cs;obtain⟨q1,q2,o,ju,q3,q4,q5,q6,q7⟩:=hq;obtain⟨oe,kG,oh⟩:=o;cases oe with
  |normal =>
   have e1:e=.normal:=q3;subst e1;obtain⟨d',nG,tJ⟩:=q4;obtain⟨e2,a2,w2,wF,Gx⟩:=ihn d' (Qn:=Qn) (by omega) tJ q2 q6 q7 q1 b k cs;exact⟨e2,a2,w2,wF.le q5,.of_steps (Steps.trans nE (.one step_inLoop)) Gx⟩
  |exit id =>
   have e1:e≠.normal:=by rw[q3];simp[fe.out]
   exact⟨e,a1,w1,⟨q1,q2,⟨.exit id,kG,oh⟩,ju,q3,q4,q5,q6,q7⟩,.pass (x:=.inLoop c) rfl (λ_ _=>.inl e1) nE⟩
  |ret =>
   have e1:e≠.normal:=by rw[q3];simp[fe.out]
   exact⟨e,a1,w1,⟨q1,q2,⟨.ret,kG,oh⟩,ju,q3,q4,q5,q6,q7⟩,.pass (x:=.inLoop c) rfl (λ_ _=>.inl e1) nE⟩
def sN {md:Region.Mode}{ops:Array Oper}{Q Q':Exit->Act->World->Prop}(hq:∀e a w,Q e a w->Q' e a w):∀(fuel:Nat)(l:Array Bool)(a:Act)(w:World),wpAny P md ops Q fuel l a w->wpAny P md ops Q' fuel l a w
 |0,_,_,_,h=>⟨h.1,hq _ _ _ h.2⟩
 |fuel+1,_,_,_,h=>⟨λe=>hq _ _ _ (h.1 e),λi hi=>Bz hq (sN hq fuel _) (h.2 i hi)⟩
def P4 (hE:bl E P)(bJ:∀m n,fC P (ba E m n))(lr:∀m n,tW E P (ba E m n)){nt:Nat}{dy:List (Nat×List Nat)} :
 ∀(c:Code){cc:ax},bR E nt dy c=some cc->∀{ρ:Ren}{fr:Fr}{h:aa}{w:World}{a:Act}{ds:List Deferred}{Qn:Fr->aa->Prop}{Qx:Nat->Fr->aa->Prop}{Qr:Fr->aa->Prop},nt<=a.tmps.size->FR ρ fr a.tmps->WR P K W0 ρ h w->a.defers=ds->rC E cc fr h Qn Qx Qr ->
  c.wp P (kc P K W0 nt ρ ds Qn Qx Qr) a w:=by
 intro c
 have mO:∀{fr h}{Qn:Fr->aa->Prop}{Qx:Nat->Fr->aa->Prop}{Qr:Fr->aa->Prop},rC E sT fr h Qn Qx Qr->False:=by
  intro fr h Qn Qx Qr hs;have ar:cR (aC .bad fr h) (λr=>Qn (dB none fr r.1) r.2):=hs;exact ar
 induction c with
 |skip =>
  intro cc hc ρ fr h w a ds Qn Qx Qr hn hf H hd hs;cases hc;exact Go.wp_skip ⟨hd,hn,⟨.normal,fr,h⟩,ρ,rfl,hs,Ren.le_refl _,hf,H⟩
 |label l =>
  intro cc hc ρ fr h w a ds Qn Qx Qr hn hf H hd hs;cases hc;exact Go.wp_label ⟨hd,hn,⟨.normal,fr,h⟩,ρ,rfl,hs,Ren.le_refl _,hf,H⟩
 |ret =>
  intro cc hc ρ fr h w a ds Qn Qx Qr hn hf H hd hs;cases hc;exact Go.wp_ret ⟨hd,hn,⟨.ret,fr,h⟩,ρ,rfl,hs,Ren.le_refl _,hf,H⟩
 |exit id =>
  intro cc hc ρ fr h w a ds Qn Qx Qr hn hf H hd hs;cases hc;exact Go.wp_exit ⟨hd,hn,⟨.exit id,fr,h⟩,ρ,rfl,hs,Ren.le_refl _,hf,H⟩
 |region id ops draw =>
  intro cc hc ρ fr h w a ds Qn Qx Qr hn hf H hd hs;unfold bR at hc;cases draw with
  |true =>
   simp only[if_true]at hc;split at hc
   .rename_i ma hp;cases yG:qi E nt ops ma with
    |none =>
     rw[yG]at hc;cases hc;exact(mO hs).elim
    |some d =>
     rw[yG]at hc;cases hc;have nG:=yG;simp only[qi,qQV,qQQ]at nG;obtain⟨cops,Ab,nG⟩:=nG;split at nG
     case isFalse=>cases nG
     simp only[qQQ]at nG;obtain⟨l,hl,nG⟩:=nG;cases nG;obtain⟨bP,h',⟨N,hN⟩,hq⟩:=BB (show pX E h.next l fr ⟨h.next+ops.size,h.t⟩ Qn from hs);refine wp_region_any hE.mixed ?_;have hx:=lr N N K W0 nt ops ma ops.size l ρ fr h _ a bP h' yG (hN N N (qQY _) (qQY _)) hn hf (H.drawn (w.drawn+1));exact sN (λe a1 w1 hx=>kc.aak (o:=⟨.normal,bP,h'⟩) hd hx hq) _ _ _ _ hx
   .cases hc;exact(mO hs).elim
  |false =>
   simp only[qZJ,if_false,qQV,qQQ]at hc;obtain⟨l,hl,hc⟩:=hc;cases hc;exact Go.wp_region (KM hE bJ l _ (qP _ ops hl) hn hf H hd hs)
 |seq x y ihx Kb =>
  intro cc hc ρ fr h w a ds Qn Qx Qr hn hf H hd hs;simp only[bR,qQV,qQQ]at hc;obtain⟨cx,hx,cy,hy,hc⟩:=hc;cases hc;refine Go.wp_seq (Go.wp_mono (ihx hx hn hf H hd (show rC E cx fr h (λfr h=>rC E cy fr h Qn Qx Qr) Qx Qr from hs)) λe a1 w1 hq=>?_);obtain⟨q1,q2,o,ju,q3,q4,q5,q6,q7⟩:=hq;obtain⟨oe,kG,oh⟩:=o;cases oe with
  |normal =>
   have e1:e=.normal:=q3;subst e1;exact Go.wp_mono (Kb hy q2 q6 q7 q1 q4) λe a2 w2 wF=>wF.le q5
  |exit id =>
   have e1:e=.exit id:=q3;subst e1;exact⟨q1,q2,⟨.exit id,kG,oh⟩,ju,rfl,q4,q5,q6,q7⟩
  |ret =>
   have e1:e=.ret:=q3;subst e1;exact⟨q1,q2,⟨.ret,kG,oh⟩,ju,rfl,q4,q5,q6,q7⟩
 |cond x y z Kb ihz =>
  intro cc hc ρ fr h w a ds Qn Qx Qr hn hf H hd hs;simp only[bR,qQV,qQQ]at hc;obtain⟨cx,hx,cy,hy,cz,hz,hc⟩:=hc;cases hc;obtain⟨b,hb,h1,h2⟩:=(show Up (aJ cx fr) (rC E cy fr h Qn Qx Qr) (rC E cz fr h Qn Qx Qr) from hs);have vx:=aB hf hx;rw[hb]at vx;refine Go.wp_cond vx.iD ?_;cases b with
  |true=>exact Kb hy hn hf H hd (h1 rfl)
  |false=>exact ihz hz hn hf H hd (h2 rfl)
 |block id body ih =>
  intro cc hc ρ fr h w a ds Qn Qx Qr hn hf H hd hs;simp only[bR,qQV,qQQ]at hc;obtain⟨cx,hx,hc⟩:=hc;cases hc;refine Go.wp_block (Go.wp_mono (ih hx hn hf H hd (show rC E cx fr h Qn (λj fr h=>if j=id then Qn fr h else Qx j fr h) Qr from hs)) λe a1 w1 hq=>?_);obtain⟨q1,q2,o,ju,q3,q4,q5,q6,q7⟩:=hq;obtain⟨oe,kG,oh⟩:=o;cases oe with
  |normal =>
   have e1:e=.normal:=q3;subst e1;exact⟨q1,q2,⟨.normal,kG,oh⟩,ju,rfl,q4,q5,q6,q7⟩
  |ret =>
   have e1:e=.ret:=q3;subst e1;exact⟨q1,q2,⟨.ret,kG,oh⟩,ju,rfl,q4,q5,q6,q7⟩
  |exit j =>
   have e1:e=.exit j:=q3;subst e1;have q4:if j=id then Qn kG oh else Qx j kG oh:=q4
   show(if j=id then kc P K W0 nt ρ ds Qn Qx Qr .normal a1 w1 else kc P K W0 nt ρ ds Qn Qx Qr (.exit j) a1 w1);by_cases hj:j=id
   .rw[if_pos hj]at q4 ⊢;exact⟨q1,q2,⟨.normal,kG,oh⟩,ju,rfl,q4,q5,q6,q7⟩
   .rw[if_neg hj]at q4 ⊢;exact⟨q1,q2,⟨.exit j,kG,oh⟩,ju,rfl,q4,q5,q6,q7⟩
 |loop body ih =>
  intro cc hc ρ fr h w a ds Qn Qx Qr hn hf H hd hs;simp only[bR,qQV,qQQ]at hc;obtain⟨cx,hx,hc⟩:=hc;cases hc;obtain⟨Inv,d,h0,pL⟩:=(show ∃(Inv:Nat->Fr->aa->Prop)(d:Nat),Inv d fr h/\∀d fr h,Inv d fr h->rC E cx fr h (λbP h'=>∃d',d'<d/\Inv d' bP h') Qx Qr from hs);intro b k cs;obtain⟨e,a1,w1,hq,nE⟩:=Hi (Qn:=Qn) (λhn hf H hd hs=>ih hx hn hf H hd hs) pL (d+1) d (by omega) h0 hn hf H hd b k cs;exact⟨e,a1,w1,hq,.of_steps (.one step_loop) nE⟩
 |scope body ih =>
  intro cc hc ρ fr h w a ds Qn Qx Qr hn hf H hd hs;refine BA (λl a1 w1 hq=>?_) (ih hc hn hf H hd hs);obtain⟨q1,q2,o,ju,q3,q4,q5,q6,q7⟩:=hq;obtain⟨oe,kG,oh⟩:=o;cases oe<;>cases q3
 |_ =>
  intro cc hc ρ fr h w a ds Qn Qx Qr hn hf H hd hs;cases hc;exact(mO hs).elim
section
variable{E:Env}{fr bP:Fr}{h h':aa}{Kp:ae->aa->Prop}{Q Qn Qr:Fr->aa->Prop}{Qx:Nat->Fr->aa->Prop}
def T' {a b:ax}:rC E (.seq a b) fr h Qn Qx Qr=rC E a fr h (bx (λfr h=>rC E b fr h Qn Qx Qr) .mk) Qx Qr:=aL
def Ku:rC E .skip fr h Qn Qx Qr=Qn fr h:=aL
def Ks {id:Nat}:rC E (.exit id) fr h Qn Qx Qr=Qx id fr h:=aL
def T9:rC E .ret fr h Qn Qx Qr=Qr fr h:=aL
def AB {l:List aQ}:rC E (.region l) fr h Qn Qx Qr=sM E l fr h Qn:=aL
def Ej {n:Nat}{l:List aP}:rC E (.drawn n l) fr h Qn Qx Qr=pX E h.next l fr (h.skip n) Qn:=aL
def Ei {id:Nat}{a:ax}:rC E (.block id a) fr h Qn Qx Qr=rC E a fr h Qn (bx (λj fr h=>if j=id then Qn fr h else Qx j fr h) .mk) Qr:=aL
def Kr {c:au}{a b:ax}:rC E (.cond c a b) fr h Qn Qx Qr=rQ (aJ c fr) (bx (rC E a fr h Qn Qx Qr) .mk) (bx (rC E b fr h Qn Qx Qr) .mk):=by
 show Up (aJ c fr) _ _=rQ (aJ c fr) _ _;cases aJ c fr<;>simp[Up,rQ,bx]
def Ek {a:ax}(Inv:Nat->Fr->aa->Prop)(d:Nat)(h0:Inv d fr h)(hs:∀d fr h,Inv d fr h->rC E a fr h (bx (λbP h'=>∃d',d'<d/\Inv d' bP h') .mk) Qx Qr):rC E (.loop a) fr h Qn Qx Qr:=⟨Inv,d,h0,hs⟩
def T8:sM E [] fr h Q=Q fr h:=aL
def Kt {o:dS}{d:Option Nat}{g:Nat×Bool}{l:List aQ}:sM E (⟨d,some g,o⟩ :: l) fr h Q=vR (bj (some g) fr=true) (bx (wo E o fr h (bx (λv h'=>sM E l (dB d fr v) h' Q) .mk)) .mk) (bx (sM E l (dB d fr aT) h Q) .mk):=by
 show Bx E ⟨d,some g,o⟩ fr h (λv h'=>sM E l (dB d fr v) h' Q)=_;rw[By];rfl
end
section
variable{P:Program}[Lay P]
def Nc (P:Program)[Lay P](f:FuncId)(args:List ae)(h:aa)(Q:ae->aa->Prop):Prop :=
 Enters P f/\∀(K:cu)(W0:World)(ρ:Ren)(w:World)(args':Array Value),VL ρ args args'.toList->WR P K W0 ρ h w->Calls P f args' w λe w'=>∃v h',Q v h'/\jY P K W0 ρ v h' e w'
def Nc.acT {E:Env}(hE:bl E P)(bJ:∀m n,fC P (ba E m n))(lr:∀m n,tW E P (ba E m n)){f:FuncId}{fn:Func}{cc:ax}{rs:List ResultVar}{args:List ae}{h:aa}{Q:ae->aa->Prop}
 (GB:E.fn.get f=some fn) (Aj:(fn.name == "runtime.NumGoroutine")=false) (nM:E.code f=some (cc,rs))
 (hw:rC E cc (dN args 0 .nil) h (bx (λfr h=>cR (bw E h fr rs) λv=>Q v h) .mk) (λ_ _ _=>False) (bx (λfr h=>cR (bw E h fr rs) λv=>Q v h) .mk)):Nc P f args h Q:=by
 simp only[Env.code,qQV,qQQ]at nM;obtain⟨fn',Ta,c,hc,cc',kE,nM⟩:=nM;cases nM;rw[GB] at Ta;cases Ta;have B1:=hE.fn _ _ GB;refine⟨⟨fn,B1,Aj,by rw[hc];rfl⟩,λK W0 ρ w args' dG H=>?_⟩;have kF:fn.ntmps<=(args'++Array.replicate (fn.ntmps-args'.size) undef).size:=by simp;omega
 have hwp:=P4 hE bJ lr c kE (a:={tmps:=args'++Array.replicate (fn.ntmps-args'.size) undef,defers:=[]}) (ds:=[]) kF (jR dG _) H rfl hw;refine calls_of_wp B1 hc (Go.wp_mono hwp λe a1 w1 hq=>?_);obtain⟨q1,q2,o,ju,q3,q4,q5,q6,q7⟩:=hq;obtain⟨oe,kG,oh⟩:=o
 have gW:∀(hr:cR (bw E oh kG fn.results.toList) λv=>Q v oh),a1.defers=[]/\∃v,(results fn a1.tmps).run P w1=.ok v w1/\∃v2 h2,Q v2 h2/\jY P K W0 ρ v2 h2 (.returned v) w1:=by
  intro hr;obtain⟨v2,h1,h2⟩:=eQ.1 hr;obtain⟨v',r1,r2⟩:=gH hE q6 q7 h1;exact⟨q1,v',r1,v2,oh,h2,v',ju,rfl,q5,r2,q7⟩
 cases oe with
 |exit id=>exact q4.elim
 |normal =>
  have e1:e=.normal:=q3;subst e1;exact gW q4
 |ret =>
  have e1:e=.ret:=q3;subst e1;exact gW q4
def Nc.ahr {E:Env}(bJ:∀m n,fC P (ba E m n)){f:FuncId}{args:List ae}{h:aa}{Q:ae->aa->Prop}(hc:Ec E f args h Q):Nc P f args h Q:=by
 obtain⟨v,h',⟨N,hN⟩,hq⟩:=hc;obtain⟨h1,h2⟩:=bJ N N f args h v h' (hN N N (qQY _) (qQY _));exact⟨h1,λK W0 ρ w args' ha H=>(h2 K W0 ρ w args' ha H).mono λe w' hp=>⟨v,h',hq,hp⟩⟩
def Nc.mono {f:FuncId}{args:List ae}{h:aa}{Q Q':ae->aa->Prop}(hc:Nc P f args h Q)(hq:∀v h',Q v h'->Q' v h'):Nc P f args h Q' :=
 ⟨hc.1,λK W0 ρ w args' ha H=>(hc.2 K W0 ρ w args' ha H).mono λe w' ⟨v,h',h1,h2⟩=>⟨v,h',hq _ _ h1,h2⟩⟩
end
def aE.fz:aE->aE
 |.cells l e=>.ro l e
 |.ro l e=>.ro l e
 |_=>.dead
namespace T
def T4 {α β:Type}(f:α->β):T α->T β
 |.nil=>.nil
 |.node v l r=>.node (v.map f) (T4 f l) (T4 f r)
def wW {α β:Type}(f:α->β):∀(p:List Bool)(t:T α),(t.T4 f).N6 p=(t.N6 p).map f
 |[],.nil=>rfl
 |[],.node v l r=>rfl
 |b :: p,.nil=>rfl
 |b :: p,.node v l r=>by
  cases b
  .exact wW f p r
  .exact wW f p l
def SM {α β:Type}(f:α->β)(t:T α)(k:Nat):(t.T4 f).get k=(t.get k).map f:=wW f _ t
end T
def aa.fz (h:aa):aa:=⟨h.next,h.t.T4 aE.fz⟩
def aa.qp (h:aa)(b:Nat):h.fz.get b=(h.get b).map aE.fz:=T.SM _ _ _
section
variable{P:Program}[Lay P]{K:cu}{W0:World}{ρ:Ren}{h:aa}{w:World}
def fzK (K:cu)(ρ:Ren)(h:aa):cu:=⟨λb=>K b\/∃m o r,h.get m=some o/\o.live/\ρ m=some r/\b=r.b,h.next,ρ,K.g⟩
def WR.freeze (H:WR P K W0 ρ h w):WR P (fzK K ρ h) w ρ h.fz w:=by
 refine⟨rfl,IG.refl _ _ _,rfl,qQY _,λb hb=>?_,λ_ _=>rfl,λn hn=>?_,λn o hn hl=>?_,λn m o p r s hn ho=>?_,qQY _,λ_ _=>rfl,λb hb=>.inl (H.gk b hb),λn o r hn hl hr=>?_,λb hb=>⟨.inl (H.lay b hb).1,?_⟩⟩
 .rcases hb with hb|⟨m,o,r,h1,h2,h3,rfl⟩
  .exact qQG (H.yP b hb) H.size
  .exact H.lt h1 h2 h3
 .obtain⟨h1,h2⟩:=H.fresh n hn;exact⟨h1,by rw[aa.qp,h2];rfl⟩
 .rw[aa.qp,qQC]at hn;obtain⟨o',hn,rfl⟩:=hn;cases o' with
  |cells l e =>
   obtain⟨r,h1,h2,h3⟩:=H.obj n _ hn trivial;exact⟨r,h1,λhx=>hx.elim,h3.1.hold⟩
  |ro l e =>
   obtain⟨r,h1,h2,h3⟩:=H.obj n _ hn trivial;exact⟨r,h1,λhx=>hx.elim,h3⟩
  |map _ _=>exact hl.elim
  |mapIter _ _ _ _=>exact hl.elim
  |dead=>exact hl.elim
 .rw[aa.qp,qQC]at hn;obtain⟨o',hn,rfl⟩:=hn;cases o'<;>exact ho.elim
 .rw[aa.qp,qQC]at hn;obtain⟨o',hn,rfl⟩:=hn;have:o'.live:=by cases o'<;>first|trivial|exact hl.elim
  exact H.hid n o' r hn this hr
 .rw[H.eN b (H.lay b hb).1];exact(H.lay b hb).2
def WR.amv (H:WR P K W0 ρ h w){bn:Ren}{h':aa}{w':World}(H':WR P (fzK K ρ h) w bn h' w'):WR P K W0 ρ h w':=by
 refine⟨H'.os.trans H.os,H'.tape.trans H.tape,H'.output.trans H.output,qZC H.size H'.size,H.yP,λb hb=>(H'.eN b (.inl hb)).trans (H.eN b hb),H.fresh,λn o hn hl=>?_,H.inj,H.nx,H.fL,H.gk,H.hid,H.lay⟩;obtain⟨r,h1,h2,h3⟩:=H.obj n o hn hl;exact⟨r,h1,h2,by rw[H'.eN r.b (.inr ⟨n,o,r,hn,hl,h1,rfl⟩)];exact h3⟩
def ae.plain:ae->Bool
 |.bool _|.int _ _|.str _|.dt|.af|.b8|.fb|.dq=>true
 |_=>false
def V.plain {ρ bn:Ren}{v:ae}{v':Value}(hp:v.plain=true)(hv:V ρ v v'):V bn v v':=by
 cases hv<;>first|(cases hp;done)|exact .bool _|exact .int _ _|exact .str ‹_›|exact .dt|exact .af|exact .b8|exact .fb|exact .dq
def Nc.still {f:FuncId}{args:List ae}{h:aa}{v:ae}(hv:∀(ρ bn:Ren)(v':Value),V ρ v v'->V bn v v')(hc:Nc P f args h.fz λu _=>u=v) :
 Enters P f/\∀(K:cu)(W0:World)(ρ:Ren)(w:World)(args':Array Value),VL ρ args args'.toList->WR P K W0 ρ h w->Calls P f args' w (jY P K W0 ρ v h):=by
 refine⟨hc.1,λK W0 ρ w args' ha H=>(hc.2 (fzK K ρ h) w ρ w args' ha H.freeze).mono λe w' hp=>?_⟩;obtain⟨u,h',rfl,v',bn,rfl,hle,hV,H'⟩:=hp;exact⟨v',ρ,rfl,Ren.le_refl _,hv _ _ _ hV,H.amv H'⟩
end
end
end Go.AX
