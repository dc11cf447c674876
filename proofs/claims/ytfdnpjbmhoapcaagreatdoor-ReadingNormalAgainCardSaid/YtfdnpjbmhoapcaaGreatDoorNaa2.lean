/-
  The executor over abstract heaps and its soundness, for the lemmas that the card needs; no conditions but those that each lemma names.
-/
import Derived.Test.YtfdnpjbmhoapcaaGreatDoorNaa1
import Derived.Lib.UnsafeStr
set_option linter.all false
set_option maxHeartbeats 32000000
namespace Go.AX
open Go.RowKit
section
variable{E:Env}{P:Program}[Lay P]{K:cu}{W0:World}{ρ:Ren}{fr:Fr}{h:aa}{w:World}{a:Act}
def N9 (N:Nat):∀r c,Builtin.growBy N r c<=c+r*(N+768):=by
 intro r
 induction r with
 |zero=>intro c;simp[Builtin.growBy]
 |succ r ih =>
  intro c;unfold Builtin.growBy;split
  .have:=qZH ((r+1)*(N+768));omega
  .have:=ih (c+(c+768) / 4);have e:(r+1)*(N+768)=r*(N+768)+(N+768):=Nat.succ_mul _ _;omega
def Kv {need cap:Nat}(h:cap<need):Builtin.nextslicecap need cap<=5*need+4000:=by
 have h4:Builtin.growBy need 4 cap<=cap+4*need+3072:=by
  have h4:=N9 need 4 cap;rw[Nat.mul_add,<-Nat.add_assoc]at h4;exact h4
 have h5:Builtin.nextslicecap need cap=if need > 2*cap then need else if cap<256 then 2*cap else Builtin.growBy need 4 cap:=rfl
 rw[h5];revert h4;generalize Builtin.growBy need 4 cap=g;intro h4;by_cases h6:need > 2*cap
 .rw[if_pos h6];clear h5;omega
 .rw[if_neg h6];by_cases h7:cap<256
  .rw[if_pos h7];clear h5;omega
  .rw[if_neg h7];clear h5;omega
def De (H:WR P K W0 ρ h w){size n:Nat}{x:ae}{x':Value}{new:List ae}(hx:V ρ x x')(hs:fS h size x=some (n,new)) :
 (Builtin.lenOf x').run P w=.ok n w/\∃ig:Array Value,(Builtin.firstCells size n x').run P w=.ok ig w/\VL ρ new ig.toList/\(∀y,y∈new->y.flat=true)/\new.length=n*size:=by
 unfold fS at hs;split at hs
 .rename_i s;simp only[aG,qZX,qQJ,qQA,bV]at hs;obtain⟨rfl,rfl,rfl⟩:=hs;obtain⟨bs,rfl,wD⟩:=hx.kq;have hl:s.length=bs.size:=by rw[<-wD];simp
  refine⟨by rw[hl];rfl,(bs.extract 0 s.length).data.map λb=>.int .u8 b.toNat,by simp[Builtin.firstCells],?_,?_,?_⟩
  .unfold ofBytes;rw[gq];refine VL.xB (by simp[hl]) λi v v' hi tJ=>?_;rw[qQX,qQC]at hi;obtain⟨m,hm,rfl⟩:=hi;rw[<-wD,qQX,qQC]at hm;obtain⟨b,hb,rfl⟩:=hm
   have:v'=.int .u8 (b.toNat:Int):=by
    simp[hl]at tJ;obtain⟨b',vC,rfl⟩:=tJ;simp at hb;rw[hb]at vC;cases vC;rfl
   rw[this];exact .int _ _
  .intro y hy;unfold ofBytes at hy;rw[gq,qQB]at hy;obtain⟨m,_,rfl⟩:=hy;rfl
  .unfold ofBytes;rw[gq];simp
 .rw[dI]at hs;rcases hs with⟨rfl,hs⟩|⟨b,o,m,c,ex,rfl,hs⟩
  .simp only[qQJ,qQA]at hs;obtain⟨rfl,rfl⟩:=hs;rw[hx.fF];exact⟨rfl,#[],rfl,.nil,(λ_ h=>by cases h),(by simp)⟩
  .obtain⟨l,e,own,di,hs⟩:=fw hs;rw[aG]at hs;obtain⟨hle,hs⟩:=hs;simp only[qQJ,qQA]at hs;obtain⟨rfl,rfl⟩:=hs;simp only[qZQ,qZB,bV,nZ,cW,df]at hle;have iN:o+m*size<=l.length:=hle.1;rw[cW,df];have hlen:((l.drop o).take (m*size)).length=m*size:=by simp;omega
   rcases hx.eW with⟨r,c',hr,rfl,_⟩|⟨rfl,rfl,ad,rfl⟩
   .obtain⟨C,fz,hC,_,hd,kM,_,_⟩:=iR H di hr;obtain⟨g1,g2⟩:=tj kM hd iN hle.2;refine⟨rfl,_,?_,g1,g2,hlen⟩;unfold Builtin.firstCells;exact run_loadCells hC (by omega)
   .refine⟨rfl,#[],by simp[Builtin.firstCells,loadCells,loadCellsFrom],by simpa using VL.nil,by simp,by simp⟩
def E5 {z:List ae}{zc:Array Value}(hz:VL ρ z zc.toList)(n:Nat):VL ρ (List.replicate n z).flatten (Builtin.zeroCells zc n).toList:=by
 have hlen:z.length=zc.size:=by have:=hz.length;simpa using this
 have:=sO hz n zc.size hlen;exact this
def x6 (hE:bl E P)(H:WR P K W0 ρ h w){elem:TypeId}{z:List ae×Nat}(hz:lG E elem=some z){fL new:List ae}{old' ig:Array Value}(hold:VL ρ fL old'.toList)(fR:VL ρ new ig.toList)
 (ZF:∀y,y∈fL->y.flat=true) (GB:∀y,y∈new->y.flat=true) {n len need sCap:Nat} (hn:need=len+n) (J0:fL.length=len*z.2) (pZ:new.length=n*z.2) {s x:Value}
 (ho:∀q,(Builtin.firstCells z.2 len s).run P {w with drawn:=q}=.ok old' {w with drawn:=q}) (hnw:∀q,(Builtin.firstCells z.2 n x).run P {w with drawn:=q}=.ok ig {w with drawn:=q}) {bytes:Nat} :
 ∃v' w' bn,(do
  let uy <-choose (.appendCap need sCap elem)
  askRoom (uy*bytes)
  let fL <-Builtin.firstCells z.2 len s
  let new <-Builtin.firstCells z.2 n x
  let rest:=Builtin.zeroCells (<-zeroValue elem).cells (uy-need)
  pure (.slice (some (<-newRow elem (fL++new++rest))) need uy):Sem Value).run P w=.ok v' w'/\ρ.le bn/\V bn (.slice h.next 0 need need false) v'/\WR P K W0 bn (h.push (.cells (fL++new) elem)) w':=by
 obtain⟨zv,hr,iq,ny,hv,ic,hlen⟩:=hE.lG hz;have ru:=(H.fresh h.next (qQY _)).1
 let t:=w.tape w.drawn (.appendCap need sCap elem)
 let cap:=need+t % (2 ^ 63-need)
 have lL:need<=cap:=by simp[cap]
 let rest:=Builtin.zeroCells zv.cells (cap-need)
 have tL:=E5 (hv ρ) (cap-need)
 have Tq:rest.size=(cap-need)*z.2:=by
  have:=tL.length;simp[hlen]at this;exact this.symm
 let C:=old'++ig++rest
 have hoS:old'.size=len*z.2:=by have:=hold.length;simp at this;omega
 have hnS:ig.size=n*z.2:=by have:=fR.length;simp at this;omega
 have hC:C.size=cap*z.2:=by
  simp only[C,Array.size_append,hoS,hnS,Tq];rw[<-qWX,<-qWX];congr 1;omega
 refine⟨.slice (some ⟨w.heap.size,0,none⟩) need cap,{w with drawn:=w.drawn+1,heap:=w.heap.push (.cells C elem (0,0))},ρ.rB h.next ⟨w.heap.size,0,some (z.2,cap*z.2),mz⟩,?_,Ren.iZ _ ru,?_,?_⟩
 .simp only[Sem.run_bind,run_choose,Question.forced,qZJ,if_false,Result.andThen_ok,run_askRoom];have e1:(Question.appendCap need sCap elem).cut (w.tape w.drawn (.appendCap need sCap elem))=cap:=rfl;rw[e1,ho];simp only[Result.andThen_ok];rw[hnw];simp only[Result.andThen_ok,hr,newRow,Sem.run_bind,run_newObj,Sem.run_pure];rfl
 .have:=V.slice (ρ:=ρ.rB h.next ⟨w.heap.size,0,some (z.2,cap*z.2),mz⟩) (o:=0) (n:=need) (c:=need) (c':=cap) (ex:=false) (Ren.fq _ _ _) (qQY _) (λh=>by cases h)
   (λ_=>⟨lL,z.2,cap*z.2,rfl,by omega⟩)
  simpa using this
 .refine(H.drawn (w.drawn+1)).newRow (h':=h.push (.cells (fL++new) elem)) (aa.ai _ _) (λm hm=>aa.aA _ _ (Ne.symm hm)) rfl (λx hx=>by simp) (λi v hi=>?_) ny ?_ (by rw[hC];exact qQY _)
  .have jm:=VL.append hold fR;obtain⟨v',g1,g2⟩:=jm.get hi;refine⟨?_,v',?_,g2⟩
   .rcases qQE.1 (qQK hi) with h|h
    .exact ZF _ h
    .exact GB _ h
   .have dL:i<(old'++ig).size:=by
     have:=(qQZ.1 g1).1;simpa using this
    show(old'++ig++rest)[i]?=some v';rw[qKM dL,<-qVG,qKX];exact g1
  .simp only[qQM,J0,pZ];rw[hC,<-qWX,<-hn];exact Nat.mul_le_mul_right _ lL
def IP (hE:bl E P){t u:TypeId}{Ls:Array TypeId}(ht:Ls[0]?=some t)(hu:Ls[1]?=some u){elem:TypeId}(hd:E.mr t=some (.slice elem)){du:TypeDesc}(CI:E.mr u=some du)(Ol:∀k,du≠.int k)
 {z:List ae×Nat} (hz:lG E elem=some z) {i:TypeInfo} (hi:E.info elem=some i) (hb:0<i.bytes) (wX:i.bytes<=4096) {ty:TypeId} {base:Option Addr} {len cap n:Nat} {x:Value} (hx:(Builtin.lenOf x).run P w=.ok n w) :
 (len+n<=cap->∀(new:Array Value)(ad:Addr)(w':World),base=some ad->(Builtin.firstCells z.2 n x).run P w=.ok new w->(storeCells (ad.add (len*z.2)) new.toList).run P w=.ok () w' ->
  (Builtin.append_ Ls ty #[.slice base len cap,x]).run P w=.ok (.slice base (len+n) cap) w') /\
 (len+n<=cap->∀(new:Array Value),base=none->(Builtin.firstCells z.2 n x).run P w=.ok new w->(Builtin.append_ Ls ty #[.slice base len cap,x]).run P w=.ok (.slice base (len+n) cap) w) /\
 (¬len+n<=cap->len+n<=1073741824->(Builtin.append_ Ls ty #[.slice base len cap,x]).run P w=((do
  let uy <-choose (.appendCap (len+n) cap elem)
  askRoom (uy*i.bytes)
  let fL <-Builtin.firstCells z.2 len (.slice base len cap)
  let new <-Builtin.firstCells z.2 n x
  let rest:=Builtin.zeroCells (<-zeroValue elem).cells (uy-(len+n))
  pure (.slice (some (<-newRow elem (fL++new++rest))) (len+n) uy)):Sem Value).run P w):=by
 obtain⟨zv,hr,iq,ny,hv,ic,hlen⟩:=hE.lG hz;have h0:(#[Value.slice base len cap,x]:Array Value)[0]?=some (.slice base len cap):=rfl;have h1:(#[Value.slice base len cap,x]:Array Value)[1]?=some x:=rfl;refine⟨?_,?_,?_⟩
 .rintro hle new ad w' rfl hn oH;unfold Builtin.append_;simp only[ht,hu,h0,h1,Sem.run_bind,hE.bz hd,Result.andThen_ok,iq,hE.bz CI,Sem.run_pure]
  cases du<;>first
   |(exact absurd rfl (Ol _))
   |(simp only[qZJ,if_false,Bool.not_false,if_true,hx,Sem.run_bind,Result.andThen_ok]
     rw[if_pos hle];simp only[Sem.run_bind,hn,Result.andThen_ok,oH,Sem.run_pure])
 .rintro hle new rfl hn;unfold Builtin.append_;simp only[ht,hu,h0,h1,Sem.run_bind,hE.bz hd,Result.andThen_ok,iq,hE.bz CI,Sem.run_pure]
  cases du<;>first
   |(exact absurd rfl (Ol _))
   |(simp only[qZJ,if_false,Bool.not_false,if_true,hx,Sem.run_bind,Result.andThen_ok]
     rw[if_pos hle];simp only[Sem.run_bind,hn,Result.andThen_ok,Sem.run_pure])
 .intro hle aS;unfold Builtin.append_;simp only[ht,hu,h0,h1,Sem.run_bind,hE.bz hd,Result.andThen_ok,iq,hE.bz CI,Sem.run_pure,qZJ,if_false,hx,Bool.not_false,if_true];rw[if_neg hle];have sa:=hE.info _ _ hi;have afI:=Kv (need:=len+n) (cap:=cap) (by omega)
  have nN:¬(Builtin.nextslicecap (len+n) cap*i.bytes > 2 ^ 48):=by
   have h5:Builtin.nextslicecap (len+n) cap*i.bytes<=(5*(len+n)+4000)*4096:=Nat.mul_le_mul afI wX;generalize Builtin.nextslicecap (len+n) cap*i.bytes=q at h5 ⊢;have:(2:Nat) ^ 48=281474976710656:=by decide
   omega
  have Iz:IntKind.i64.max=9223372036854775807:=by decide
  have Xk:¬i.bytes=0:=by omega
  simp only[Sem.run_bind,run_typeInfo _ sa,Result.andThen_ok];rw[if_neg (by rw[Iz];omega)];simp only[Sem.run_bind,Result.andThen_ok,run_typeInfo _ sa];rw[if_neg nN];simp only[Sem.run_pure,Sem.run_bind];congr 1;funext q w';simp only[run_typeInfo _ sa,Result.andThen_ok]
def pB {size n:Nat}(y:Value)(q:Nat)(r:Array Value)(hy:(Builtin.firstCells size n y).run P w=.ok r w):(Builtin.firstCells size n y).run P {w with drawn:=q}=.ok r {w with drawn:=q}:=by
 cases y with
 |slice ad m c=>cases ad with
  |none=>simp only[Builtin.firstCells,Sem.run_pure,Result.ok.injEq,and_true]at hy ⊢;exact hy
  |some ad =>
   simp only[Builtin.firstCells]at hy ⊢
   have lc:∀(m i:Nat)(acc r:Array Value),(loadCellsFrom ad i m acc).run P w=.ok r w->(loadCellsFrom ad i m acc).run P {w with drawn:=q}=.ok r {w with drawn:=q}:=by
    intro m
    induction m with
    |zero=>intro i acc r h;simp only[loadCellsFrom,Sem.run_pure,Result.ok.injEq,and_true]at h ⊢;exact h
    |succ m ih =>
     intro i acc r h;simp only[loadCellsFrom,Sem.run_bind,run_load]at h ⊢;have ec:World.cell? {w with drawn:=q} (ad.add i)=w.cell? (ad.add i):=rfl;rw[ec];cases qY:w.cell? (ad.add i) with
     |some v=>rw[qY]at h;simp only[Result.andThen_ok]at h ⊢;exact ih _ _ _ h
     |none =>
      rw[qY]at h;have ef:World.farLoad P {w with drawn:=q} (ad.add i) (Mode.plain == Mode.atomic)=World.farLoad P w (ad.add i) (Mode.plain == Mode.atomic):=rfl;rw[ef];cases afT:World.farLoad P w (ad.add i) (Mode.plain == Mode.atomic) with
      |ok p=>rw[afT]at h;simp only[Result.andThen_ok]at h ⊢;exact ih _ _ _ h
      |error e=>rw[afT]at h;simp only[Result.andThen_halt]at h;cases h
   exact lc _ 0 #[] r hy
 |string sb=>simp only[Builtin.firstCells,Sem.run_pure,Result.ok.injEq,and_true]at hy ⊢;exact hy
 |_=>simp[Builtin.firstCells]at hy
def Pd (H:WR P K W0 ρ h w){b off len c z:Nat}{ex:Bool}{s':Value}(vs:V ρ (.slice b off len c ex) s'){fL:List ae}{e:TypeId}{own:Bool}(di:uU (h.get b) fL e own)(hle:off+len*z<=fL.length)(kN:own=true\/∀x,x∈(fL.drop off).take (len*z)->x.flat=true) :
 ∃old':Array Value,(∀q,(Builtin.firstCells z len s').run P {w with drawn:=q}=.ok old' {w with drawn:=q})/\VL ρ ((fL.drop off).take (len*z)) old'.toList/\(∀y,y∈(fL.drop off).take (len*z)->y.flat=true) /\
  ((fL.drop off).take (len*z)).length=len*z:=by
 have hlen:((fL.drop off).take (len*z)).length=len*z:=by simp;omega
 rcases vs.eW with⟨r,c',hr,rfl,_⟩|⟨rfl,rfl,ad,rfl⟩
 .obtain⟨C,fz,hC,_,hd,kM,_,_⟩:=iR H di hr;obtain⟨g1,g2⟩:=tj kM hd hle kN;exact⟨_,λq=>pB _ q _ (by unfold Builtin.firstCells;exact run_loadCells hC (by omega)),g1,g2,hlen⟩
 .refine⟨#[],λq=>by simp[Builtin.firstCells,loadCells,loadCellsFrom],by simpa using VL.nil,by simp,hlen⟩
def JN (H:WR P K W0 ρ h w){b off len n c' z:Nat}{r:RB}(hr:ρ b=some r){fL new:List ae}{ig:Array Value}{e:TypeId}(hb:h.get b=some (.cells fL e))(hle:off+len*z<=fL.length)
 (Qh:VL ρ new ig.toList) (VC:∀y,y∈new->y.flat=true) (pZ:new.length=n*z) (hc:len+n<=c') {ee:Nat} (hk:r.k=some (z,ee)) (kE:off+c'*z<=ee) (hz:P.cellsOf e=z) (ho:off % z=0) :
 ∃w' bn,(storeCells ⟨r.b,off+r.d+len*z,none⟩ ig.toList).run P w=.ok () w'/\ρ.le bn/\V bn (.slice h.next 0 (len+n) (len+n) false) (.slice (some ⟨r.b,off+r.d,none⟩) (len+n) c') /\
  WR P K W0 bn ((h.put b .dead).push (.cells ((fL.drop off).take (len*z)++new) e)) w':=by
 obtain⟨C,fz,hC,DR,hd,kM,ZH,hK⟩:=iR H (own:=true) (.inl ⟨rfl,hb⟩) hr;have DR:=DR rfl;obtain⟨hee,_⟩:=ZH _ _ hk;have hlen:=Qh.length;have aqX:ig.toList.length=n*z:=by rw[<-hlen,pZ]
 have hmul:len*z+n*z<=c'*z:=by rw[<-qWX];exact Nat.mul_le_mul_right _ hc
 obtain⟨w',C',h1,ht,h2,h3,h4⟩:=sF (P:=P) r.b (off+r.d+len*z) e fz ig.toList 0 w C hC (by omega) DR (by
  intro v tM;obtain⟨i,hi⟩:=qQL.1 tM;obtain⟨u,B7,J9⟩:=Qh.get' hi;exact yl J9 (VC u (qQK B7)))
 have ru:=(H.fresh h.next (qQY _)).1
 have JQ:alP (r.d+off) (some (z,c'*z)):=by
  refine⟨(λh=>nomatch h),λz' x hx=>?_⟩;cases hx;exact Nat.dvd_add (r.al.2 _ _ hk) (Nat.dvd_of_mod_eq_zero ho)
 have VE:=Ren.iZ (⟨r.b,r.d+off,some (z,c'*z),JQ⟩:RB) ru;have H1:WR P K W0 ρ (h.put b .dead) w':=H.put hb trivial hr ht.os ht.tape ht.output ht.size ht.eN (λh=>h.elim);refine⟨w',_,h1,VE,?_,H1.Y6 (r:=⟨r.b,r.d+off,some (z,c'*z),JQ⟩) (n:=h.next) ru (aa.ai _ _) (λm hm=>aa.aA _ _ (Ne.symm hm)) (by simp[aa.bI]) (by simp[aa.bI,aa.eT]) H.nx (hK rfl) (λm p s hm hl hs ebb=>?_) ?_⟩
 .have:=V.slice (ρ:=ρ.rB h.next ⟨r.b,r.d+off,some (z,c'*z),JQ⟩) (o:=0) (n:=len+n) (c:=len+n) (c':=c') (ex:=false) (Ren.fq _ _ _) (qQY _) (λh=>by cases h)
   (λ_=>⟨hc,z,c'*z,rfl,by omega⟩)
  rw[show(0:Nat)+(r.d+off)=off+r.d by omega]at this;exact this
 .by_cases e1:m=b
  .subst e1;rw[aa.aj]at hm;cases hm;exact hl.elim
  .rw[aa.ah _ _ (Ne.symm e1)]at hm;exact e1 (H.inj _ _ _ _ _ _ hb trivial hm hl hr hs ebb.symm).symm
 .refine⟨⟨C',fz,h2,?_,λi v hi=>?_,λz' x VF=>?_⟩,λD fz' hD x hx=>by rw[h2]at hD;cases hD;exact DR x (by omega)⟩
  .simp only[qQM,qWL,List.length_drop,pZ];omega
  .have h4':=h4 (r.d+off+i);by_cases Oh:i<len*z
   .rw[qQN (by simp;omega),qVW,if_pos Oh,qXZ]at hi;obtain⟨g1,v',g2,g3⟩:=kM _ _ hi (.inl rfl);refine⟨g1,v',?_,g3.mono VE⟩;show C'[r.d+off+i]?=some v';rw[h4',if_neg (by omega),<-g2];congr 1;omega
   .rw[qVC (by simp;omega)]at hi;have e0:(List.take (len*z) (List.drop off fL)).length=len*z:=by simp;omega
    rw[e0]at hi;obtain⟨u,B7,J9⟩:=Qh.get hi;refine⟨VC v (qQK hi),u,?_,J9.mono VE⟩;show C'[r.d+off+i]?=some u;have hi3:=(qQZ.1 B7).1;rw[h4',if_pos (by omega),<-B7];congr 1;omega
  .cases VF;exact⟨by show r.d+off+c'*z<=C'.size;omega,hz⟩
def KF (hE:bl E P){c0:Call}(h0:c0.callee=.builtin .append){s x:Operand}(uq:c0.args.toList=[s,x]){t u:TypeId}(ht:c0.argTypes[0]?=some t)(hu:c0.argTypes[1]?=some u)
 {o:Oper} {co:dS} {v:ae} {h':aa} (ho:o.op=.call c0) (hc:qh E t u s x=some co) (hf:FR ρ fr a.tmps) (H:WR P K W0 ρ h w) (hs:aC co fr h=some (v,h')) :
 Sound P (execOp a.eval o) K W0 ρ w v h':=by
 simp only[qh,qQV,qQQ]at hc;obtain⟨d,hd,hc⟩:=hc;split at hc
 case h_2=>cases hc
 rename_i elem;simp only[qQQ]at hc;obtain⟨du,CI,hc⟩:=hc;split at hc
 .cases hc
 rename_i Ol;simp only[qQQ]at hc;obtain⟨i,hi,z,hz,hc⟩:=hc;split at hc
 case isFalse=>cases hc
 rename_i hby
 simp only[qQQ]at hc;obtain⟨cs,ny,cx,fX,hc⟩:=hc;cases hc;have dG:c0.args.map a.eval=#[a.eval s,a.eval x]:=by apply qKG;simp[uq]
 have kx:execOp a.eval o=(do pure (.value (<-Builtin.append_ c0.argTypes o.type #[a.eval s,a.eval x]))):=by
  unfold execOp;rw[ho];simp only[resolve,h0,dG];rfl
 rw[kx];have ar:I.append elem z.2 cs cx fr h=some (v,h'):=hs;unfold I.append at ar;rw[av]at ar;obtain⟨⟨n,new⟩,Tv,ar⟩:=ar;have vs:=aB hf ny;have vx:=aB hf fX;obtain⟨hlen,ig,fR,Qh,VC,pZ⟩:=De (P:=P) H vx Tv;generalize Z5:aJ cs fr=sv at vs ar;generalize a.eval s=s' at vs;generalize a.eval x=x' at hlen fR vx;have hnw:∀q,(Builtin.firstCells z.2 n x').run P {w with drawn:=q}=.ok ig {w with drawn:=q}:=λq=>pB _ q _ fR;have IS:=λ(base:Option Addr)(len cap:Nat)=>IP (w:=w) (base:=base) (len:=len) (cap:=cap) (ty:=o.type) hE ht hu hd CI Ol hz hi hby.2 hby.1 hlen;obtain⟨zv,hr,iq,SU,hzv,hzf,hzl⟩:=hE.lG hz;rw[bq]at ar;split at ar
 .
  rename_i qZ;rw[qZX]at qZ;simp only at qZ;subst qZ
  have wY:ig.toList=[]:=by
   have:=Qh.length;rw[pZ]at this;simp at this;simpa using this.symm
  rw[dI]at ar;rcases ar with⟨rfl,ar⟩|⟨b,off,len,c,ex,rfl,ar⟩
  .simp only[qQJ,qQA]at ar;obtain⟨rfl,rfl⟩:=ar;rw[vs.fF];exact .fc (v':=.slice none 0 0) ((IS none 0 0).2.1 (by omega) ig rfl fR) .af H
  .simp only[qQJ,qQA]at ar;obtain⟨rfl,rfl⟩:=ar;rcases vs.eW with⟨r,c',oH,rfl,XB,hex,Al⟩|⟨rfl,rfl,ad,rfl⟩
   .have kE:len<=c':=by
     cases ex with
     |true=>rw[hex rfl];exact XB
     |false=>have:=(Al rfl).1;omega
    exact .fc ((IS _ len c').1 (by omega) ig _ w rfl fR (by rw[wY];rfl)) vs H
   .exact .fc ((IS _ 0 0).1 (by omega) ig _ w rfl fR (by rw[wY];rfl)) vs H
 .rename_i qZ;have agv:n≠0:=by simpa using qZ
  rw[dI]at ar;rcases ar with⟨rfl,ar⟩|⟨b,off,len,c,ex,rfl,ar⟩
  .
   rw[aG]at ar;obtain⟨hle,ar⟩:=ar;simp only[qZB]at hle;simp only[qQJ,qQA]at ar;obtain⟨rfl,rfl⟩:=ar;rw[vs.fF];obtain⟨v',w',bn,r1,r2,r3,r4⟩:=x6 (P:=P) (bytes:=i.bytes) (sCap:=0) (s:=.slice none 0 0) (x:=x') (len:=0) (n:=n) (need:=0+n) hE H hz (fL:=[]) (old':=#[]) .nil Qh (λ_ h=>by cases h) VC rfl (by simp) pZ (λq=>rfl) hnw;refine .val (v':=v') (w':=w') (bn:=bn) ?_ r2 (by simpa using r3) (by simpa using r4);rw[(IS none 0 0).2.2 (by omega) (by omega)];exact r1
  .obtain⟨fL,e,own,di,ar⟩:=fw ar;rw[aG]at ar;obtain⟨hle,ar⟩:=ar;simp only[qZQ,qZB,bV,nZ,cW,df]at hle;obtain⟨bh,aS,kN⟩:=hle;have aga:len+n<=1073741824:=bh;have vH:off+len*z.2<=fL.length:=aS;simp only[cW,df,gQ]at ar;obtain⟨old',ho1,GM,VD,JZ⟩:=Pd (P:=P) H vs di vH kN
   have LZ:∀(cap:Nat)(base:Option Addr),s'=.slice base len cap->¬len+n<=cap->∀{h1:aa},WR P K W0 ρ h1 w->h1.next=h.next->Sound P (do pure (.value (<-Builtin.append_ c0.argTypes o.type #[s',x']))) K W0 ρ w (.slice h.next 0 (len+n) (len+n) false) (h1.push (.cells ((fL.drop off).take (len*z.2)++new) elem)):=by
    intro cap base hsc XB h1 H1 ra;obtain⟨v',w',bn,r1,r2,r3,r4⟩:=x6 (P:=P) (bytes:=i.bytes) (sCap:=cap) (s:=s') (x:=x') (len:=len) (n:=n) (need:=len+n) hE H1 hz GM Qh VD VC rfl JZ pZ ho1 hnw;rw[ra]at r3;refine .val (v':=v') (w':=w') (bn:=bn) ?_ r2 r3 r4;rw[hsc,(IS base len cap).2.2 XB aga,<-hsc];exact r1
   rw[bq]at ar;cases ex with
   |true =>
    simp only[if_true]at ar;rw[bq]at ar;split at ar
    .
     rename_i lL;have LX:len+n<=c:=by simpa using lL
     rw[aG]at ar;obtain⟨Tm,ar⟩:=ar;simp only[qZQ,qZB,bV] at Tm;obtain⟨Tm,hin⟩:=Tm;have akI:off+(len+n)*z.2<=fL.length:=hin;simp only[qQJ,qQA]at ar;obtain⟨rfl,rfl⟩:=ar;rcases vs.eW with⟨r,c',hr,rfl,XB,hex,Al⟩|⟨rfl,rfl,ad,rfl⟩
     .have kE:=hex rfl;subst kE
      have hb:h.get b=some (.cells fL e):=by
       rcases di with⟨_,hb⟩|⟨uR,_⟩
       .exact hb
       .rw[uR] at Tm;cases Tm
      obtain⟨w',g1,g2⟩:=mX (P:=P) (o:=off+len*z.2) H hr hb Qh VC (by rw[pZ,Nat.add_assoc,<-qWX];exact akI)
      have hap:=(IS (some ⟨r.b,off+r.d,none⟩) len c').1 LX ig _ w' rfl fR (by
       rw[add_eq,<-g1];congr 3;omega)
      exact .val hap (Ren.le_refl _) (.slice hr LX (λ_=>rfl) (λh=>by cases h)) g2
     .omega
    .rename_i lL;have LX:¬len+n<=c:=by simpa using lL
     simp only[qQJ,qQA]at ar;obtain⟨rfl,rfl⟩:=ar;rcases vs.eW with⟨r,c',hr,rfl,XB,hex,Al⟩|⟨rfl,rfl,ad,rfl⟩
     .have kE:=hex rfl;subst kE;exact LZ _ _ rfl LX H rfl
     .exact LZ _ _ rfl (by omega) H rfl
   |false =>
    simp only[qZJ,if_false]at ar;rw[aG]at ar;obtain⟨Tm,ar⟩:=ar;simp only[qZQ,qZX] at Tm;obtain⟨Tm,rfl,GJ⟩:=Tm;have GJ:off % z.2=0:=GJ;simp only[qQJ,qQA]at ar;obtain⟨rfl,rfl⟩:=ar
    have hb:h.get b=some (.cells fL e):=by
     rcases di with⟨_,hb⟩|⟨uR,_⟩
     .exact hb
     .rw[uR] at Tm;cases Tm
    rcases vs.eW with⟨r,c',hr,rfl,XB,hex,Al⟩|⟨rfl,rfl,ad,rfl⟩
    .obtain⟨kE,zz,ee,hk,Vu⟩:=Al rfl;by_cases lL:len+n<=c'
     .obtain⟨C,fz,hC,DR,nG,kM,ZH,hK⟩:=iR H di hr;have hzz:zz=z.2:=by rw[<-(ZH _ _ hk).2,SU]
      subst hzz;obtain⟨w',bn,g1,g2,g3,g4⟩:=JN (P:=P) H hr hb vH Qh VC pZ lL hk Vu SU GJ;have hap:=(IS (some ⟨r.b,off+r.d,none⟩) len c').1 lL ig _ w' rfl fR (by rw[add_eq];exact g1);exact .val hap g2 g3 g4
     .exact LZ _ _ rfl lL (H.kill hb trivial) rfl
    .exact LZ _ _ rfl (by omega) (H.kill hb trivial) rfl
def Bp (H:WR P K W0 ρ h w){size n m:Nat}{x:ae}{x':Value}{new:List ae}(hx:V ρ x x')(hs:fS h size x=some (n,new))(hm:m<=n) :
 ∃ig:Array Value,(Builtin.firstCells size m x').run P w=.ok ig w/\VL ρ (new.take (m*size)) ig.toList/\(∀y,y∈new.take (m*size)->y.flat=true):=by
 unfold fS at hs;split at hs
 .rename_i s;simp only[aG,qZX,qQJ,qQA,bV]at hs;obtain⟨rfl,rfl,rfl⟩:=hs;obtain⟨bs,rfl,wD⟩:=hx.kq;have hl:s.length=bs.size:=by rw[<-wD];simp
  refine⟨(bs.extract 0 m).data.map λb=>.int .u8 b.toNat,by simp[Builtin.firstCells],?_,?_⟩
  .unfold ofBytes;rw[gq];refine VL.xB (by simp[hl]) λi v v' hi tJ=>?_;rw[qVW]at hi;split at hi
   case isFalse=>cases hi
   rename_i him;rw[qQX,qQC]at hi;obtain⟨q,hq,rfl⟩:=hi;rw[<-wD,qQX,qQC]at hq;obtain⟨b,hb,rfl⟩:=hq
   have:v'=.int .u8 (b.toNat:Int):=by
    simp at tJ hb;rw[qVW,if_pos (by omega)]at tJ;simp at tJ;obtain⟨b',vC,rfl⟩:=tJ;rw[hb]at vC;cases vC;rfl
   rw[this];exact .int _ _
  .intro y hy;have hy:=qKH hy;unfold ofBytes at hy;rw[gq,qQB]at hy;obtain⟨m,_,rfl⟩:=hy;rfl
 .rw[dI]at hs;rcases hs with⟨rfl,hs⟩|⟨b,o,k,c,ex,rfl,hs⟩
  .simp only[qQJ,qQA]at hs;obtain⟨rfl,rfl⟩:=hs;rw[hx.fF];exact⟨#[],rfl,by simpa using VL.nil,(λ_ h=>by simp at h)⟩
  .obtain⟨l,e,own,di,hs⟩:=fw hs;rw[aG]at hs;obtain⟨hle,hs⟩:=hs;simp only[qQJ,qQA]at hs;obtain⟨rfl,rfl⟩:=hs;simp only[qZQ,qZB,bV,nZ,cW,df]at hle;have iN:o+k*size<=l.length:=hle.1;have kN:=hle.2;rw[cW,df,List.take_take];have hmul:m*size<=k*size:=Nat.mul_le_mul_right _ hm;have e0:min (m*size) (Nat.mul k size)=m*size:=Nat.min_eq_left hmul;rw[e0];rcases hx.eW with⟨r,c',hr,rfl,_⟩|⟨rfl,rfl,ad,rfl⟩
   .obtain⟨C,fz,hC,_,hd,kM,_,_⟩:=iR H di hr
    obtain⟨g1,g2⟩:=tj (o:=o) (n:=m*size) kM hd (by omega) (kN.imp id λh x hx=>h x (by
     have:(l.drop o).take (m*size)=((l.drop o).take (Nat.mul k size)).take (m*size):=by rw[List.take_take,e0]
     rw[this]at hx;exact qKH hx))
    refine⟨_,?_,g1,g2⟩;unfold Builtin.firstCells;exact run_loadCells hC (by omega)
   .have:m=0:=by omega
    subst this;refine⟨#[],by simp[Builtin.firstCells,loadCells,loadCellsFrom],by simpa using VL.nil,by simp⟩
def Ul (hE:bl E P){c0:Call}(h0:c0.callee=.builtin .copy){s x:Operand}(uq:c0.args.toList=[s,x]){t:TypeId}(ht:c0.argTypes[0]?=some t)
 {o:Oper} {co:dS} {v:ae} {h':aa} (ho:o.op=.call c0) (hc:zq E t s x=some co) (hf:FR ρ fr a.tmps) (H:WR P K W0 ρ h w) (hs:aC co fr h=some (v,h')) :
 Sound P (execOp a.eval o) K W0 ρ w v h':=by
 simp only[zq,qQV,qQQ]at hc;obtain⟨d,hd,hc⟩:=hc;split at hc
 case h_2=>cases hc
 rename_i elem;simp only[qQQ]at hc;obtain⟨z,hz,cs,ny,cx,fX,hc⟩:=hc;cases hc;have dG:c0.args.map a.eval=#[a.eval s,a.eval x]:=by apply qKG;simp[uq]
 have kx:execOp a.eval o=(do pure (.value (<-Builtin.copy_ c0.argTypes o.type #[a.eval s,a.eval x]))):=by
  unfold execOp;rw[ho];simp only[resolve,h0,dG];rfl
 rw[kx];have ar:I.copy z cs cx fr h=some (v,h'):=hs;unfold I.copy at ar;rw[av]at ar;obtain⟨⟨n,new⟩,Tv,ar⟩:=ar;have vs:=aB hf ny;have vx:=aB hf fX;generalize aJ cs fr=sv at vs ar;generalize a.eval s=s' at vs;generalize a.eval x=x' at vx;obtain⟨hlen,_⟩:=De (P:=P) H vx Tv
 have run:∀(base:Option Addr)(len cap:Nat)(ig:Array Value)(w':World),(Builtin.firstCells z (Nat.min n len) x').run P w=.ok ig w ->
     ((match base with|some ad=>storeCells ad ig.toList|none=>pure ()):Sem Unit).run P w=.ok () w'->(Builtin.copy_ c0.argTypes o.type #[.slice base len cap,x']).run P w=.ok (goInt (Nat.min n len)) w':=by
  intro base len cap ig w' h1 h2;have e0:(#[Value.slice base len cap,x']:Array Value)[0]?=some (.slice base len cap):=rfl;have e1:(#[Value.slice base len cap,x']:Array Value)[1]?=some x':=rfl;unfold Builtin.copy_;simp only[ht,e0,e1,Sem.run_bind,hE.bz hd,Result.andThen_ok,hlen,hE.gy hz,h1];cases base with
  |none =>
   simp only[Sem.run_pure]at h2;cases h2;simp
  |some ad =>
   simp only at h2;simp only[Sem.run_bind,h2,Result.andThen_ok,Sem.run_pure]
 rw[dI]at ar;rcases ar with⟨rfl,ar⟩|⟨b,off,len,c,ex,rfl,ar⟩
 .simp only[qQJ,qQA]at ar;obtain⟨rfl,rfl⟩:=ar;rw[vs.fF];obtain⟨ig,g1,g2,g3⟩:=Bp (P:=P) (m:=Nat.min n 0) H vx Tv (Nat.min_le_left _ _);have:=run none 0 0 ig w g1 rfl;rw[show Nat.min n 0=0 from Nat.min_eq_right (qZH _)]at this;exact .fc this (.int _ _) H
 .rw[ki]at ar;obtain⟨fL,e,hb,ar⟩:=ar;rw[aG]at ar;obtain⟨hle,ar⟩:=ar;simp only[qZB,bV]at hle;have iN:off+len*z<=fL.length:=hle;simp only[qQJ,qQA,cW]at ar;obtain⟨rfl,rfl⟩:=ar;obtain⟨ig,g1,g2,g3⟩:=Bp (P:=P) (m:=Nat.min n len) H vx Tv (Nat.min_le_left _ _);have DW:Nat.min n len*z<=len*z:=Nat.mul_le_mul_right _ (Nat.min_le_right _ _)
  have hbound:off+(new.take (Nat.min n len*z)).length<=fL.length:=by
   simp only[qWL];omega
  rcases vs.eW with⟨r,c',hr,rfl,XB,hex,Al⟩|⟨rfl,rfl,ad,rfl⟩
  .obtain⟨w',k1,k2⟩:=mX (P:=P) (o:=off) H hr hb g2 g3 hbound;exact .val (run (some _) len c' ig w' g1 k1) (Ren.le_refl _) (.int _ _) k2
  .obtain⟨r,hr,_⟩:=H.obj b _ hb trivial;obtain⟨w',k1,k2⟩:=mX (P:=P) (o:=off) H hr hb g2 g3 hbound;have em:Nat.min n 0=0:=Nat.min_eq_right (qZH _)
   have e0:ig.toList=[]:=by
    have:=g2.length;rw[em]at this;simp at this;simpa using this.symm
   rw[e0]at k1
   have ew:w'=w:=by
    simp only[storeCells,Sem.run_pure,Result.ok.injEq,true_and]at k1;exact k1.symm
   subst ew;exact .val (run (some ad) 0 0 ig w' g1 (by rw[e0];rfl)) (Ren.le_refl _) (.int _ _) k2
def Hl (hf:FR ρ fr a.tmps):∀{l:List Operand}{cs:List au},l.mapM cO=some cs->VL ρ (jw cs fr) (l.map a.eval)
 |[],cs,h=>by simp at h;subst h;exact .nil
 |x :: l,cs,h=>by
  simp only[qZF,qQV,qQQ]at h;obtain⟨c,h1,r,h2,h3⟩:=h;cases h3;exact .cons (aB hf h1) (Hl hf h2)
def A4 {c0:Call}{isMax:Bool}(h0:c0.callee=.builtin (if isMax then .max else .min)){cs:List au}(ny:c0.args.toList.mapM cO=some cs)
 {o:Oper} {v:ae} {h':aa} (ho:o.op=.call c0) (hf:FR ρ fr a.tmps) (H:WR P K W0 ρ h w) (hs:aC (.fk isMax cs) fr h=some (v,h')) :
 Sound P (execOp a.eval o) K W0 ρ w v h':=by
 have hv:=Hl (a:=a) hf ny;have ar:I.fk isMax cs fr h=some (v,h'):=hs;unfold I.fk at ar;split at ar
 case h_2=>cases ar
 rename_i x rest uO;rw[fA]at ar;obtain⟨k,m,rfl,ar⟩:=ar;simp only[av,qQJ,qQA]at ar;obtain⟨u,wZ,rfl,rfl⟩:=ar;rw[uO]at hv;have dG:(c0.args.map a.eval).toList=c0.args.toList.map a.eval:=by simp
 generalize c0.args.toList.map a.eval=l' at dG hv;cases hv with
 |cons hm tL =>
  rw[hm.eZ]at dG;obtain⟨v',r1,r2⟩:=Az (P:=P) (w:=w) (isMax:=isMax) tL wZ
  have kx:execOp a.eval o=(do pure (.value (<-(if isMax then Builtin.max_ else Builtin.min_) c0.argTypes o.type (c0.args.map a.eval)))):=by
   unfold execOp;rw[ho];simp only[resolve,h0];cases isMax<;>rfl
  rw[kx];refine .fc (v':=v') ?_ r2 H;cases isMax with
  |true=>simp only[if_true]at r1 ⊢;unfold Builtin.max_;rw[dG];exact r1
  |false=>simp only[qZJ,if_false]at r1 ⊢;unfold Builtin.min_;rw[dG];exact r1
def Cf {c0:Call}(h0:c0.callee=.builtin .unsafeSliceData){x:Operand}(uq:c0.args.toList=[x]){cx:au}(fX:cO x=some cx)
 {o:Oper} {v:ae} {h':aa} (ho:o.op=.call c0) (hf:FR ρ fr a.tmps) (H:WR P K W0 ρ h w) (hs:aC (.dR cx) fr h=some (v,h')) :
 Sound P (execOp a.eval o) K W0 ρ w v h':=by
 have dG:c0.args.map a.eval=#[a.eval x]:=by apply qKG;simp[uq]
 have kx:execOp a.eval o=(do pure (.value (<-Builtin.unsafeSliceData_ c0.argTypes o.type #[a.eval x]))):=by
  unfold execOp;rw[ho];simp only[resolve,h0,dG];rfl
 rw[kx];have ar:I.dR cx fr h=some (v,h'):=hs;unfold I.dR at ar;rw[dI]at ar;rcases ar with⟨hp,ar⟩|⟨b,off,n,c,ex,hp,ar⟩
 .cases ar;have vx:=aB hf fX;rw[hp]at vx;rw[vx.fF];exact .fc rfl .dt H
 .simp only[aG,qJE,qQJ,qQA]at ar;obtain⟨dL,rfl,rfl⟩:=ar;have vx:=aB hf fX;rw[hp]at vx;rcases vx.eW with⟨r,c',hr,e,XB,hex,Al⟩|⟨_,rfl,_⟩
  .rw[e]
   have ku:c'≠0:=by
    cases ex with
    |true=>rw[hex rfl];omega
    |false=>have:=(Al rfl).1;omega
   exact .fc (Go.Lib.run_unsafeSliceData_row (P:=P) w c0.argTypes o.type _ n c' ku) (.ptr hr) H
  .omega
def B' {e:TypeId}(hc:P.cellsOf e=1)(count off n:Nat)(hn:off+n<=count):liesAt P P.depth e count off e n=true:=by
 have hd:P.depth=(2*(P.types.size+Made.depth)+1)+1:=rfl;rw[hd];simp only[liesAt,qKC];left;rw[hd];simp[rowAt,hc,hn,sameLayout,Nat.mod_one]
def Gv (w:World)(b o n:Nat):zj b w (w.freeze ⟨b,o,none⟩ n):=by
 unfold World.freeze;split
 .exact zj.refl b w
 .exact⟨rfl,rfl,rfl,by simp,λk hk=>by
   simp only[qVF];rw[if_neg (Ne.symm hk)]⟩
def Cg (hE:bl E P){c0:Call}(h0:c0.callee=.builtin .unsafeString){x n:Operand}(uq:c0.args.toList=[x,n]){t:TypeId}(ht:c0.argTypes[0]?=some t)
 {o:Oper} {co:dS} {v:ae} {h':aa} (ho:o.op=.call c0) (hc:jN E t x n=some co) (hf:FR ρ fr a.tmps) (H:WR P K W0 ρ h w) (hs:aC co fr h=some (v,h')) :
 Sound P (execOp a.eval o) K W0 ρ w v h':=by
 simp only[jN,qQV,qQQ]at hc;obtain⟨d,hd,hc⟩:=hc;split at hc
 case h_2=>cases hc
 rename_i u;split at hc
 case isFalse=>cases hc
 rename_i B7;simp only[qQQ]at hc;obtain⟨cx,fX,cn,Oe,hc⟩:=hc;cases hc;have dG:c0.args.map a.eval=#[a.eval x,a.eval n]:=by apply qKG;simp[uq]
 have kx:execOp a.eval o=(do pure (.value (<-Builtin.unsafeString_ c0.argTypes o.type #[a.eval x,a.eval n]))):=by
  unfold execOp;rw[ho];simp only[resolve,h0,dG];rfl
 rw[kx];have ar:I.eF u cx cn fr h=some (v,h'):=hs;unfold I.eF at ar;have vx:=aB hf fX;have vn:=aB hf Oe;rw[bq]at ar;by_cases DX:TK (aJ cx fr)=true
 .rw[if_pos DX]at ar
  have uq:aJ cx fr=.dt:=by
   cases hv:aJ cx fr<;>rw[hv] at DX<;>first|rfl|cases DX
  rw[eV]at ar;obtain⟨k,m,hm,ar⟩:=ar;rw[aG,qZX]at ar;obtain⟨rfl,ar⟩:=ar;cases ar;rw[uq]at vx;rw[hm]at vn;rw[vx.Kx,vn.eZ];refine .fc (v':=.string .empty) ?_ (.str rfl) H;have uo:IntKind.i64.max=9223372036854775807:=rfl
  have abJ:Builtin.unsafeString_ c0.argTypes o.type #[.pointer none,.int k (Int.ofNat 0)] =
      (do
       let n <-asInt (.int k (Int.ofNat 0))
       let some pt:=c0.argTypes[0]?|stuck "unsafe.String: no argument types"
       if n<0 then runtimePanic (.error "unsafe.String: len out of range")
       if n > IntKind.i64.max then unsupported (.unsafePointer "String: a length above the largest int")
       if n=0 then pure (.string .empty)
       else runtimePanic (.error "unsafe.String: ptr is nil and len is not zero")):=rfl
  rw[abJ];simp[asInt,asIntOf,uo,ht]
 rw[if_neg DX]at ar;rw[cZ]at ar;obtain⟨b,off,hp,ar⟩:=ar;rw[hp]at vx;obtain⟨r,hr,ex⟩:=vx.gv;rw[eV]at ar;obtain⟨k,m,hm,ar⟩:=ar;rw[hm]at vn;rw[ki]at ar;obtain⟨l,e,hb,ar⟩:=ar;rw[aG]at ar;obtain⟨r9,ar⟩:=ar;simp only[qZQ,qZX,qJE,qZB,bV]at r9;obtain⟨rfl,ZS,hm1,hle⟩:=r9;have iN:off+m<=l.length:=hle;simp only[av,qQJ,qQA,cW,df]at ar;obtain⟨s,wD,rfl,rfl⟩:=ar;obtain⟨C,fz,hC,DR,hdC,kM,ZH,hK⟩:=iR H (own:=true) (.inl ⟨rfl,hb⟩) hr;obtain⟨g1,g2⟩:=tj kM hdC iN (.inl rfl);obtain⟨bs,DQ,wX⟩:=xW g1 wD;have ny:P.cellsOf e=1:=hE.cellsOf B7
 have JR:bs.length=m:=by
  have:=congrArg List.length DQ;simp at this;omega
 have Tt:w.shape? r.b=some (e,C.size):=by simp[World.shape?,hC]
 have qY:∀j (y:UInt8),bs[j]?=some y->w.cell? ((⟨r.b,off+r.d,none⟩:Addr).add j)=some (.int .u8 y.toNat):=by
  intro j y hy;rw[add_eq,cell_of hC];have hj:=(qQZ.1 hy).1;have h2:(C.extract (off+r.d) (off+r.d+m)).toList[j]?=some (.int .u8 y.toNat):=by rw[DQ];simp[hy]
  simp only[qVG,Array.getElem?_extract]at h2;split at h2
  .exact h2
  .cases h2
 have GF:=Go.Lib.run_loadBytes (P:=P) w bs ⟨r.b,off+r.d,none⟩ .empty qY;rw[JR] at GF;have agl:=B' (P:=P) ny (C.size / P.cellsOf e) (off+r.d) m (by rw[ny];simp;omega);have uo:IntKind.i64.max=9223372036854775807:=rfl;rw[ex,vn.eZ];have J8:=Gv w r.b (off+r.d) m;refine .val (v':=.string ⟨bs.toArray⟩) (w':=w.freeze ⟨r.b,off+r.d,none⟩ m) (bn:=ρ) ?_ (Ren.le_refl _) (.str ?_) (H.put hb trivial hr J8.os J8.tape J8.output J8.size J8.eN (λh=>h.elim))
 .have abJ:Builtin.unsafeString_ c0.argTypes o.type #[.pointer (some ⟨r.b,off+r.d,none⟩),.int k (Int.ofNat m)] =
      (do
       let n <-asInt (.int k (Int.ofNat m))
       let some pt:=c0.argTypes[0]?|stuck "unsafe.String: no argument types"
       if n<0 then runtimePanic (.error "unsafe.String: len out of range")
       if n > IntKind.i64.max then unsupported (.unsafePointer "String: a length above the largest int")
       if n=0 then pure (.string .empty)
       else if <-variablesAt ⟨r.b,off+r.d,none⟩ (<-elemOf pt) n.toNat then do
        let s <-loadBytes ⟨r.b,off+r.d,none⟩ .empty n.toNat
        freeze ⟨r.b,off+r.d,none⟩ n.toNat
        pure (.string s)
       else unsupported (.unsafePointer "String: not so many bytes at ptr")):=rfl
  rw[abJ];have e0:(Int.ofNat m:Int)=(m:Int):=rfl;have Ak:¬(m:Int)<0:=by omega
  have ajM:¬(9223372036854775807:Int)<(m:Int):=by omega
  have aqR:¬(m:Int)=0:=by omega
  have agq:¬m=0:=by omega
  simp[asInt,asIntOf,uo,ht,Ak,ajM,agq,variablesAt,Tt,elemOf,hE.bz hd,agl,GF]
 .rw[wX]
def EL.get:∀{l:List (ae×ae×Nat)}{l':List MapEntry},EL ρ l l'->∀{i:Nat}{e:ae×ae×Nat},l[i]?=some e->∃e',l'[i]?=some e'/\V ρ e.1 e'.key/\V ρ e.2.1 e'.val/\e.2.2=e'.born
 |_,_,.nil,i,e,h=>by simp at h
 |_,_,.cons (e':=e') a b c hl,i,e,h=>by
  cases i with
  |zero=>simp at h;subst h;exact⟨e',rfl,a,b,c⟩
  |succ i=>simp at h ⊢;exact EL.get hl h
def EL.append:∀{l:List (ae×ae×Nat)}{l':List MapEntry},EL ρ l l'->∀{k v:ae}{k' v':Value}{n:Nat},V ρ k k'->V ρ v v'->EL ρ (l++[(k,v,n)]) (l'++[{key:=k',val:=v',born:=n}])
 |_,_,.nil,_,_,_,_,_,hk,hv=>.cons hk hv rfl .nil
 |_,_,.cons a b c hl,_,_,_,_,_,hk,hv=>.cons a b c (EL.append hl hk hv)
theorem T7 {α:Type}(f:α->α)(i:Nat):xo f [] i=[]:=rfl
theorem OW {α:Type}(f:α->α)(a:α)(l:List α):xo f (a :: l) 0=f a :: l:=rfl
theorem OV {α:Type}(f:α->α)(a:α)(l:List α)(i:Nat):xo f (a :: l) (i+1)=a :: xo f l i:=rfl
def EL.mod {f:ae×ae×Nat->ae×ae×Nat}{g:MapEntry->MapEntry}(hfg:∀e e',V ρ e.1 e'.key->V ρ e.2.1 e'.val->e.2.2=e'.born->V ρ (f e).1 (g e').key/\V ρ (f e).2.1 (g e').val/\(f e).2.2=(g e').born) :
 ∀{l:List (ae×ae×Nat)}{l':List MapEntry},EL ρ l l'->∀i,EL ρ (xo f l i) (l'.modify i g)
 |_,_,.nil,i=>by rw[T7];simpa using EL.nil
 |_,_,.cons (e:=e) (e':=e') a b c hl,i=>by
  cases i with
  |zero =>
   rw[OW];simp only[List.modify_zero_cons];obtain⟨x,y,z⟩:=hfg e e' a b c;exact .cons x y z hl
  |succ i =>
   rw[OV,List.modify_succ_cons];exact .cons a b c (EL.mod hfg hl i)
def FKD (k:FK)(d:TypeDesc):Prop:=match k with|.b=>d=.bool|.i=>∃ik,d=.int ik|.s=>d=.string
def Ci {k:FK}{x y:Value}{b:Bool}{d:TypeDesc}(hd:FKD k d)(h:EqF k x y b):Instr.sameNow d x y=some b:=by
 cases k with
 |b=>obtain⟨p,q,rfl,rfl,rfl⟩:=h;subst hd;rfl
 |i=>obtain⟨k,p,q,rfl,rfl,rfl⟩:=h;obtain⟨ik,rfl⟩:=hd;simp[Instr.sameNow]
 |s =>
  obtain⟨p,q,rfl,rfl,rfl⟩:=h;subst hd;simp only[Instr.sameNow,qQJ];have e1:(p == q)=(p.data == q.data):=by cases p;cases q;rfl
  rw[e1,ByteArray.toList_eq,ByteArray.toList_eq,qZL,beq_iff_eq,beq_iff_eq];exact⟨λh=>by rw[h],λh=>qKG h⟩
def VR (E:Env)(t:TypeId)(q:iH):Prop :=
 match q with
 |.one .b=>E.mr t=some .bool
 |.one .i=>∃k,E.mr t=some (.int k)
 |.one .s=>E.mr t=some .string
 |.agg eU=>(∃f,E.mr t=some (.struct f))/\E.eqs.get t=some eU
def zy {t:TypeId}{q:iH}(h:M8 E t=some q):∃k v,E.mr t=some (.map k v)/\VR E k q:=by
 unfold M8 at h;split at h
 .rename_i k v hk;refine⟨k,v,hk,?_⟩;split at h
  .rename_i hu;cases h;exact⟨_,hu⟩
  .rename_i hu;cases h;exact hu
  .rename_i hu;cases h;exact hu
  .rename_i f hu;simp only[qQC]at h;obtain⟨eU,h1,rfl⟩:=h;exact⟨⟨_,hu⟩,h1⟩
  .cases h
 .cases h
def IL (l:List ae):∀{eU:List (Nat×FK)},Dl l eU=true->∀o,o∈eU->(l[o.1]?).isSome=true:=by
 intro eU
 induction eU with
 |nil=>intro _ o ho;cases ho
 |cons x eU ih =>
  intro h o ho;have h':(@Option.rec ae (λ_=>Bool) false (λ_=>Dl l eU) (fW l x.1))=true:=h;rw[fT]at h';cases hx:l[x.1]? with
  |none=>rw[hx]at h';cases h'
  |some y =>
   rw[hx]at h';rcases qQF.1 ho with rfl|ho
   .rw[hx];rfl
   .exact ih h' o ho
def rP (hE:bl E P){t:TypeId}{q:iH}(hq:VR E t q){k:ae}{k':Value}(hk:V ρ k k')(h:nT q k=true)(e:Bool):(Instr.checkKey e 10000 t k').run P w=.ok () w:=by
 cases q with
 |one f =>
  have hu:∃d,E.mr t=some d/\(d=.bool\/d=.string\/∃ik,d=.int ik):=by
   cases f with
   |b=>exact⟨_,hq,.inl rfl⟩
   |i=>obtain⟨ik,hu⟩:=hq;exact⟨_,hu,.inr (.inr ⟨_,rfl⟩)⟩
   |s=>exact⟨_,hq,.inr (.inl rfl)⟩
  obtain⟨d,hu,hd⟩:=hu
  have key:∀n,(Instr.checkKey e (n+1) t k').run P w=.ok () w:=by
   intro n;simp only[Instr.checkKey,Sem.run_bind,hE.bz hu,Result.andThen_ok];rcases hd with rfl|rfl|⟨ik,rfl⟩<;>rfl
  exact key 9999
 |agg eU =>
  obtain⟨⟨f,hu⟩,ho⟩:=hq;have hs:=hE.eqs _ _ ho;cases hk with
  |agg hf hl =>
   refine hs.key w _ e λo ho=>?_;have:=IL _ h o ho;rw[qWZ]at this ⊢;obtain⟨y,hy⟩:=this;obtain⟨y',Ou,_⟩:=hl.get hy;exact⟨y',by simpa using Ou⟩
  |_=>cases h
def Found (q:iH)(ρ:Ren)(k:ae)(es:List (ae×ae×Nat))(i:Nat):Option (Nat×ae)->Option (Nat×Value)->Prop
 |none,none=>True
 |some (j,v),some (j',v')=>j=j'/\V ρ v v'/\i<=j/\∃e,es[j-i]?=some e/\Dt q k e.1=some true/\e.2.1=v
 |_,_=>False
def Found.step {q:iH}{k:ae}{e:ae×ae×Nat}{es:List (ae×ae×Nat)}{i:Nat}{r:Option (Nat×ae)}{r':Option (Nat×Value)}(h:Found q ρ k es (i+1) r r'):Found q ρ k (e :: es) i r r':=by
 cases r with
 |none=>cases r' with
  |none=>trivial
  |some p=>exact h.elim
 |some p=>cases r' with
  |none=>exact h.elim
  |some p' =>
   obtain⟨j,v⟩:=p;obtain⟨j',v'⟩:=p';obtain⟨rfl,h2,h3,e',h4,h5⟩:=h;refine⟨rfl,h2,by omega,e',?_,h5⟩;have:j-i=(j-(i+1))+1:=by omega
   rw[this];simpa using h4
theorem zZ (q:iH)(k:ae)(e:ae×ae×Nat)(es:List (ae×ae×Nat))(i:Nat):fZ q k (e :: es) i=ob (Dt q k e.1) λt=>aO t (some (some (i,e.2.1))) (fZ q k es (i+1)):=rfl
def tF {f:FK}{d:TypeDesc}(hd:FKD f d){k:ae}{k':Value}(hk:V ρ k k') :
 ∀{es:List (ae×ae×Nat)}{dX:List MapEntry},EL ρ es dX->∀{i:Nat}{r:Option (Nat×ae)},fZ (.one f) k es i=some r->∃r',Instr.findNow d k' dX i=some r'/\Found (.one f) ρ k es i r r'
 |_,_,.nil,i,r,h=>by
  simp only[fZ,qQJ]at h;subst h;exact⟨none,rfl,trivial⟩
 |_,_,.cons (e:=e) (e':=e') (l:=l) (l':=l') a b c hl,i,r,h=>by
  rw[zZ,av]at h;obtain⟨t,ht,h⟩:=h;have heq:=mC hk a (show jM f k e.1=some t from ht);have hs:=Ci hd heq;unfold Instr.findNow;rw[hs];cases t with
  |true =>
   have h:some (some (i,e.2.1))=some r:=h;cases h;exact⟨_,rfl,rfl,b,qQY _,e,by simp,ht,rfl⟩
  |false =>
   obtain⟨r',h1,h2⟩:=tF hd hk hl h;exact⟨r',h1,h2.step⟩
def pA {t:TypeId}{eU:List (Nat×FK)}(hs:StructEq P t eU){k:ae}{k':Value}(hk:V ρ k k') :
 ∀{es:List (ae×ae×Nat)}{dX:List MapEntry},EL ρ es dX->∀{i:Nat}{r:Option (Nat×ae)},fZ (.agg eU) k es i=some r->∃r',(Instr.findAsking t k' dX i).run P w=.ok r' w/\Found (.agg eU) ρ k es i r r'
 |_,_,.nil,i,r,h=>by
  simp only[fZ,qQJ]at h;subst h;exact⟨none,rfl,trivial⟩
 |_,_,.cons (e:=e) (e':=e') (l:=l) (l':=l') a b c hl,i,r,h=>by
  rw[zZ,av]at h;obtain⟨tt,ht,h⟩:=h;have J8:(jH k λx=>jH e.1 λy=>sW x y eU)=some tt:=ht;rw[iv] at J8;obtain⟨x,rfl,J8⟩:=J8;rw[iv] at J8;obtain⟨y,hy,J8⟩:=J8;rw[hy]at a;obtain⟨x',rfl,_,vx⟩:=hk.kT;obtain⟨y',Ou,_,vy⟩:=a.kT;have heq:=tA vx vy J8;have hr:=hs.eq w _ _ _ heq;unfold Instr.findAsking;simp only[Op.equal,Ou,Sem.run_bind];have e1:Op.maxDepth=10000:=rfl;rw[e1,hr];simp only[Result.andThen_ok];cases tt with
  |true =>
   have h:some (some (i,e.2.1))=some r:=h;cases h;exact⟨_,rfl,rfl,b,qQY _,e,by simp,ht,rfl⟩
  |false =>
   obtain⟨r',h1,h2⟩:=pA hs (.agg (by assumption) vx) hl h;exact⟨r',by simpa using h1,h2.step⟩
def z7 (hE:bl E P){t:TypeId}{q:iH}(hq:VR E t q){k:ae}{k':Value}(hk:V ρ k k'){es:List (ae×ae×Nat)}{dX:List MapEntry}(BZ:EL ρ es dX){r:Option (Nat×ae)}(h:fZ q k es 0=some r) :
 ∃r',(Instr.findKey t k' dX).run P w=.ok r' w/\Found q ρ k es 0 r r':=by
 cases q with
 |one f =>
  have hu:∃d,E.mr t=some d/\FKD f d:=by
   cases f with
   |b=>exact⟨_,hq,rfl⟩
   |i=>obtain⟨ik,hu⟩:=hq;exact⟨_,hu,ik,rfl⟩
   |s=>exact⟨_,hq,rfl⟩
  obtain⟨d,hu,hd⟩:=hu;obtain⟨r',h1,h2⟩:=tF hd hk BZ h;refine⟨r',?_,h2⟩;unfold Instr.findKey;simp only[Sem.run_bind,hE.bz hu,Result.andThen_ok,h1,Sem.run_pure]
 |agg eU =>
  obtain⟨⟨f,hu⟩,ho⟩:=hq;have hs:=hE.eqs _ _ ho;obtain⟨r',h1,h2⟩:=pA (w:=w) hs hk BZ h;refine⟨r',?_,h2⟩;unfold Instr.findKey;simp only[Sem.run_bind,hE.bz hu,Result.andThen_ok];cases dX with
  |nil=>simpa[Instr.findNow,Instr.findAsking] using h1
  |cons e dX =>
   have:Instr.findNow (.struct f) k' (e :: dX) 0=none:=by simp[Instr.findNow,Instr.sameNow]
   rw[this];exact h1
def KI (hE:bl E P)(t:TypeId)(x y:Operand)(ok:Bool):tl E P K W0 (.lookup t x y ok):=by
 intro ρ fr h w a o co v h' ho hc hf H hs;simp only[iJ,qQV,qQQ]at hc;obtain⟨d,hd,hc⟩:=hc;split at hc
 case h_2=>cases hc
 rename_i kt elem;simp only[qQQ]at hc;obtain⟨q,hq,z,hz,cx,fX,cy,hcy,hc⟩:=hc;cases hc;obtain⟨kt',_,nG,Xu⟩:=zy hq;rw[hd]at nG;cases nG;obtain⟨zv,hzr,hzv⟩:=hE.zero hz;have kx:execOp a.eval o=(do pure (.value (<-Instr.lookup t (a.eval x) (a.eval y) ok))):=by unfold execOp;rw[ho]
 rw[kx];have ar:I.lookup q z cx cy ok fr h=some (v,h'):=hs;unfold I.lookup at ar;rw[av]at ar;obtain⟨es,BZ,ar⟩:=ar;rw[aG]at ar;obtain⟨vG,ar⟩:=ar;rw[av]at ar;obtain⟨r,hr,ar⟩:=ar;have vx:=aB hf fX;have vy:=aB hf hcy;generalize aJ cy fr=ky at vy vG hr;generalize a.eval y=y' at vy
 have akZ:∃dX:Array MapEntry,EL ρ es dX.toList/\(a.eval x=.map none/\dX=#[]\/∃m ck,a.eval x=.map (some m)/\w.heap[m]?=some (.map dX ck)):=by
  rw[jc] at BZ;rcases BZ with⟨hp,BZ⟩|⟨m,hp,BZ⟩
  .simp only[qQJ] at BZ;subst BZ;rw[hp]at vx;rw[vx.uz];exact⟨#[],.nil,.inl ⟨rfl,rfl⟩⟩
  .rw[fK] at BZ;obtain⟨es2,ck,hm,BZ⟩:=BZ;cases BZ;rw[hp]at vx;obtain⟨s,tw,e⟩:=vx.s5;obtain⟨dX,h1,h2,_⟩:=qC H hm tw;exact⟨dX,h2,.inr ⟨_,ck,e,h1⟩⟩
 obtain⟨dX,tu,eX⟩:=akZ;obtain⟨r',hf1,Xq⟩:=z7 (w:=w) hE Xu vy tu hr;have Gz:=rP (w:=w) hE Xu vy vG dX.isEmpty
 have ZQ:∀(v0:Value)(b:Bool),(match r' with|some (_,v)=>v0=v/\b=true|none=>v0=zv/\b=false) ->
     (Instr.lookup t (a.eval x) y' ok).run P w=.ok (if ok then .tuple #[v0,.bool b] else v0) w:=by
  intro v0 b hb;unfold Instr.lookup;rw[Sem.run_bind,hE.bz hd];simp only[Result.andThen_ok];rcases eX with⟨e,rfl⟩|⟨m,ck,e,hm⟩
  .rw[e];simp only[Sem.run_pure,Sem.run_bind,Result.andThen_ok,Gz,hf1];cases r' with
   |none=>obtain⟨rfl,rfl⟩:=hb;simp only[Sem.run_bind,hzr,Result.andThen_ok,Sem.run_pure]
   |some p=>obtain⟨rfl,rfl⟩:=hb;simp only[Sem.run_pure,Sem.run_bind,Result.andThen_ok]
  .rw[e];simp only[Sem.run_pure,Sem.run_bind,cD hm,Result.andThen_ok,Gz,hf1];cases r' with
   |none=>obtain⟨rfl,rfl⟩:=hb;simp only[Sem.run_bind,hzr,Result.andThen_ok,Sem.run_pure]
   |some p=>obtain⟨rfl,rfl⟩:=hb;simp only[Sem.run_pure,Sem.run_bind,Result.andThen_ok]
 cases r with
 |none =>
  cases r' with
  |some p=>exact Xq.elim
  |none =>
   simp only[qQJ,qQA]at ar;obtain⟨rfl,rfl⟩:=ar;refine .fc (ZQ zv false ⟨rfl,rfl⟩) ?_ H;rw[bq];cases ok with
   |true=>exact .eC (.cons (hzv _) (.cons (.bool _) .nil))
   |false=>exact hzv _
 |some p =>
  cases r' with
  |none=>exact Xq.elim
  |some p' =>
   obtain⟨j,u⟩:=p;obtain⟨j',u'⟩:=p';obtain⟨rfl,hv,_⟩:=Xq;simp only[qQJ,qQA]at ar;obtain⟨rfl,rfl⟩:=ar;refine .fc (ZQ u' true ⟨rfl,rfl⟩) ?_ H;rw[bq];cases ok with
   |true=>exact .eC (.cons hv (.cons (.bool _) .nil))
   |false=>exact hv
def nj {b:Nat}{o o':Obj}(hb:w.heap[b]?=some o')(hn:∀C e fz,o'≠.cells C e fz):(setObj b o).run P w=.ok () {w with heap:=w.heap.setIfInBounds b o}:=by
 cases o' with
 |cells C e fz=>exact absurd rfl (hn C e fz)
 |_=>simp[setObj,Sem.run,hb]
def sE {b:Nat}{o:Obj}(hb:w.heap[b]?=some o)(hn:∀C e fz,o≠.cells C e fz):(getObj b).run P w=.ok o w:=by
 cases o with
 |cells C e fz=>exact absurd rfl (hn C e fz)
 |_=>simp[getObj,Sem.run,hb]
def Bm (w:World)(b:Nat)(o:Obj):zj b w {w with heap:=w.heap.setIfInBounds b o} :=
 ⟨rfl,rfl,rfl,by simp,λc hc=>by simp only[Array.getElem?_setIfInBounds];rw[if_neg (Ne.symm hc)]⟩
def K8 (w:World){b:Nat}{o o':Obj}(hb:w.heap[b]?=some o'):({w with heap:=w.heap.setIfInBounds b o}:World).heap[b]?=some o:=by
 have:=(qJZ.1 hb).1;show(w.heap.setIfInBounds b o)[b]?=some o;simp[this]
def WR.Bl (H:WR P K W0 ρ h w){m:Nat}{es:List (ae×ae×Nat)}{ck:Nat}(hm:h.get m=some (.map es ck)){r:RB}(hr:ρ m=some r){es1:List (ae×ae×Nat)}{W4:Array MapEntry}{ck1:Nat}(he:EL ρ es1 W4.toList) :
 WR P K W0 ρ (h.put m (.map es1 ck1)) {w with heap:=w.heap.setIfInBounds r.b (.map W4 ck1)}:=by
 obtain⟨dX,h1,h2,h3⟩:=qC H hm hr;have ht:=Bm w r.b (.map W4 ck1);refine H.put hm trivial hr ht.os ht.tape ht.output ht.size ht.eN λ_=>?_;rw[K8 w h1];exact⟨h3,W4,rfl,he⟩
def yq {x y:ae}{x' y':Value}(hx:V ρ x x')(hy:V ρ y y')(h:HV x y=some true)(n:Nat):Instr.sameBits n x' y'=true:=by
 cases x with
 |bool b =>
  obtain⟨p,q,rfl,rfl,e⟩:=mC hx hy (show jM .b _ y=some true from h);cases n<;>simpa[Instr.sameBits] using e.symm
 |int k m =>
  obtain⟨k,p,q,rfl,rfl,e⟩:=mC hx hy (show jM .i _ y=some true from h);cases n<;>simpa[Instr.sameBits] using e.symm
 |str s =>
  obtain⟨p,q,rfl,rfl,e⟩:=mC hx hy (show jM .s _ y=some true from h)
  have e1:p=q:=by
   have e:=e.symm;rw[beq_iff_eq,ByteArray.toList_eq,ByteArray.toList_eq]at e;exact ByteArray.ext (qKG e)
  subst e1
  have e2:(p == p)=true:=by
   have:(p == p)=(p.data == p.data):=by cases p;rfl
   rw[this];simp
  cases n<;>simpa[Instr.sameBits] using e2
 |_=>cases h
def wj:∀{a b:List ae}{a' b':List Value},VL ρ a a'->VL ρ b b'->Bj a b=true->∀n,a'.length=b'.length/\(a'.zip b').all (λ(x,y)=>Instr.sameBits n x y)=true
 |[],b,_,_,.nil,hb,h,n=>by
  cases hb with
  |nil=>exact⟨rfl,rfl⟩
  |cons _ _=>cases h
 |x :: a,b,_,_,.cons hx ha,hb,h,n=>by
  cases hb with
  |nil=>cases h
  |cons hy hb =>
   rename_i y y' b b';have h':(@Option.rec Bool (λ_=>Bool) false (λt=>aO t (Bj a b) false) (HV x y))=true:=h;cases hs:HV x y with
   |none=>rw[hs]at h';cases h'
   |some t =>
    rw[hs]at h';cases t with
    |false=>cases h'
    |true =>
     obtain⟨h1,h2⟩:=wj ha hb h' n;refine⟨by simp[h1],?_⟩;simp only[List.zip_cons_cons,List.all_cons,qZQ];exact⟨yq hx hy hs n,h2⟩
def G6 {q:iH}{fL new:ae}{old' ig:Value}(ho:V ρ fL old')(hn:V ρ new ig)(heq:Dt q new fL=some true)(h:stays q fL new=true):(Instr.keyThatStays old' ig).run P w=.ok ig w:=by
 have hs:Instr.sameBits 10000 old' ig=true:=by
  cases q with
  |one f =>
   have hc:HV fL new=some true:=by
    have he:jM f new fL=some true:=heq;cases f with
    |b =>
     simp only[jM,eh,qQJ]at he;obtain⟨p,rfl,q,rfl,he⟩:=he
     have g:jM .b (.bool q) (.bool p)=some true:=by
      simp only[jM,eh,qQJ];refine⟨_,rfl,_,rfl,?_⟩;rw[vL]at he ⊢;rw[beq_iff_eq]at he ⊢;exact he.symm
     exact g
    |i =>
     simp only[jM,fA,aG,qQJ]at he;obtain⟨k,p,rfl,k',q,rfl,hk,he⟩:=he
     have g:jM .i (.int k' q) (.int k p)=some true:=by
      simp only[jM,fA,aG,qQJ];refine⟨_,_,rfl,_,_,rfl,?_,?_⟩
      .rw[uf,decide_eq_true_iff]at hk ⊢;exact hk.symm
      .rw[lK,beq_iff_eq]at he ⊢;exact he.symm
     exact g
    |s =>
     simp only[jM,fB,qQJ]at he;obtain⟨p,rfl,q,rfl,he⟩:=he
     have g:jM .s (.str q) (.str p)=some true:=by
      simp only[jM,fB,qQJ];refine⟨_,rfl,_,rfl,?_⟩;rw[jC,decide_eq_true_iff]at he ⊢;exact he.symm
     exact g
   exact yq ho hn hc _
  |agg eU =>
   have h':(@Option.rec Bool (λ_=>Bool) false (λt=>t) (jH fL λa=>jH new λb=>some (Bj a b)))=true:=h;cases hq:(jH fL λa=>jH new λb=>some (Bj a b)) with
   |none=>rw[hq]at h';cases h'
   |some t =>
    rw[hq]at h';have ht:t=true:=h';subst ht;rw[iv]at hq;obtain⟨x,rfl,hq⟩:=hq;rw[iv]at hq;obtain⟨y,rfl,hq⟩:=hq;simp only[qQJ]at hq;obtain⟨x',rfl,_,vx⟩:=ho.kT;obtain⟨y',rfl,_,vy⟩:=hn.kT;obtain⟨g1,g2⟩:=wj vx vy hq 9999
    have key:∀n,(x'.toList.zip y'.toList).all (λ(x,y)=>Instr.sameBits n x y)=true->Instr.sameBits (n+1) (.agg x') (.agg y')=true:=by
     intro n hn;have:x'.size=y'.size:=by simpa using g1
     simp only[Instr.sameBits,this,beq_self_eq_true,Bool.true_and];exact hn
    exact key 9999 g2
 unfold Instr.keyThatStays;rw[if_pos hs];rfl
def yn (hE:bl E P)(H:WR P K W0 ρ h w){kt:TypeId}{q:iH}(Xu:VR E kt q){k:ae}{k':Value}(vk:V ρ k k'){m:Nat}{es:List (ae×ae×Nat)}{ck:Nat}(hm:h.get m=some (.map es ck))
 {r:RB} (hr:ρ m=some r) (vG:nT q k=true) {i:Option (Nat×ae)} (hi:fZ q k es 0=some i) :
 ∃dX:Array MapEntry,w.heap[r.b]?=some (.map dX ck)/\EL ρ es dX.toList/\(Instr.checkKey false 10000 kt k').run P w=.ok () w /\
  (i=none->(Instr.findKey kt k' dX.toList).run P w=.ok none w) /\
  (∀j v,i=some (j,v)->∃e e',es[j]?=some e/\dX[j]?=some e'/\V ρ e.1 e'.key/\V ρ e.2.1 e'.val/\e.2.2=e'.born/\e.2.1=v/\Dt q k e.1=some true/\∃v',V ρ v v'/\(Instr.findKey kt k' dX.toList).run P w=.ok (some (j,v')) w):=by
 obtain⟨dX,h1,h2,h3⟩:=qC H hm hr;obtain⟨r',hf1,Xq⟩:=z7 (w:=w) hE Xu vk h2 hi;refine⟨dX,h1,h2,rP hE Xu vk vG false,?_,?_⟩
 .rintro rfl;cases r' with
  |none=>exact hf1
  |some p=>exact Xq.elim
 .rintro j v rfl;cases r' with
  |none=>exact Xq.elim
  |some p =>
   obtain⟨j',v'⟩:=p;obtain⟨rfl,g1,_,e,g2,g3,g4⟩:=Xq;obtain⟨e',g5,g6,g7,g8⟩:=h2.get g2;exact⟨e,e',by simpa using g2,by simpa using g5,g6,g7,g8,g4,g3,v',g1,hf1⟩
def A3 (hE:bl E P)(t:TypeId)(m k x:Operand){op:Op}(nP:op=.insert t m k x\/op=.mapUpdate t m k x):tl E P K W0 op:=by
 intro ρ fr h w a o co v h' ho hc hf H hs
 have kx:execOp a.eval o=(do Instr.mapUpdate t (a.eval m) (a.eval k) (a.eval x);pure .skip):=by
  unfold execOp;rw[ho];rcases nP with rfl|rfl<;>rfl
 have ku:(do pure (.fj (<-M8 E t) (<-cO m) (<-cO k) (<-cO x)):Option dS)=some co:=by
  rcases nP with rfl|rfl<;>exact hc
 simp only[qQV,qQQ]at ku;obtain⟨q,hq,cm,LY,ck,Gz,cx,fX,ku⟩:=ku;cases ku;rw[kx];obtain⟨kt,el,hd,Xu⟩:=zy hq;have ar:I.fj q cm ck cx fr h=some (v,h'):=hs;unfold I.fj at ar;rw[jc]at ar;rcases ar with⟨_,ar⟩|⟨b,hp,ar⟩
 .cases ar
 rw[fK]at ar;obtain⟨es,clock,hm,ar⟩:=ar;rw[aG]at ar;obtain⟨vG,ar⟩:=ar;rw[av]at ar;obtain⟨i,hi,ar⟩:=ar;have vm:=aB hf LY;have vk:=aB hf Gz;have vx:=aB hf fX;rw[hp]at vm;obtain⟨r,hr,em⟩:=vm.s5;generalize aJ ck fr=ka at vk vG hi ar;generalize aJ cx fr=xa at vx ar;generalize a.eval k=k' at vk;generalize a.eval x=x' at vx;obtain⟨dX,g1,g2,g3,g4,g5⟩:=yn hE H Xu vk hm hr vG hi;have jF:∀o,(setObj r.b o).run P w=.ok () {w with heap:=w.heap.setIfInBounds r.b o}:=λo=>nj g1 (λ_ _ _ h=>by cases h);rw[em];cases i with
 |none =>
  simp only[qQJ,qQA]at ar;obtain⟨rfl,rfl⟩:=ar;rw[gQ];refine .unit (w':={w with heap:=w.heap.setIfInBounds r.b (.map (dX.push {key:=k',val:=x',born:=clock}) (clock+1))}) ?_ (Ren.le_refl _) (H.Bl hm hr (by simpa using g2.append vk vx));unfold Instr.mapUpdate;simp only[Sem.run_bind,hE.bz hd,Result.andThen_ok,cD g1,g3,g4 rfl,jF]
 |some p =>
  obtain⟨j,u⟩:=p;obtain⟨e,e',q1,q2,q3,q4,q5,q6,q7,v',q8,q9⟩:=g5 j u rfl;have ar:=av.1 ar;obtain⟨e2,wE,ar⟩:=ar;rw[fT,q1]at wE;cases wE;rw[aG]at ar;obtain⟨wG,ar⟩:=ar;simp only[qQJ,qQA]at ar;obtain⟨rfl,rfl⟩:=ar;have hks:=G6 (P:=P) (w:=w) q3 vk q7 wG;refine .unit (w':={w with heap:=w.heap.setIfInBounds r.b (.map (dX.modify j λe=>{e with key:=k',val:=x'}) clock)}) ?_ (Ren.le_refl _) (H.Bl hm hr ?_)
  .unfold Instr.mapUpdate;simp only[Sem.run_bind,hE.bz hd,Result.andThen_ok,cD g1,g3,q9,q2,qWB,qWW,hks,jF]
  .simp only[Array.toList_modify];exact EL.mod (f:=λe=>(ka,xa,e.2.2)) (g:=λe=>{e with key:=k',val:=x'}) (λe e' _ _ c=>⟨vk,vx,c⟩) g2 j
def EF (hE:bl E P)(t:TypeId)(m k:Operand):tl E P K W0 (.mapEntry t m k):=by
 intro ρ fr h w a o co v h' ho hc hf H hs;simp only[iJ,qQV,qQQ]at hc;obtain⟨d,hd,hc⟩:=hc;split at hc
 case h_2=>cases hc
 rename_i kt elem;simp only[qQQ]at hc;obtain⟨q,hq,z,hz,cm,LY,ck,Gz,hc⟩:=hc;cases hc;obtain⟨kt',_,nG,Xu⟩:=zy hq;rw[hd]at nG;cases nG;obtain⟨zv,hzr,hzv⟩:=hE.zero hz;have kx:execOp a.eval o=(do pure (.value (<-Instr.mapEntry t (a.eval m) (a.eval k)))):=by unfold execOp;rw[ho]
 rw[kx];have ar:I.mapEntry q z cm ck fr h=some (v,h'):=hs;unfold I.mapEntry at ar;rw[jc]at ar;rcases ar with⟨_,ar⟩|⟨b,hp,ar⟩
 .cases ar
 rw[fK]at ar;obtain⟨es,clock,hm,ar⟩:=ar;rw[aG]at ar;obtain⟨vG,ar⟩:=ar;rw[av]at ar;obtain⟨i,hi,ar⟩:=ar;have vm:=aB hf LY;have vk:=aB hf Gz;rw[hp]at vm;obtain⟨r,hr,em⟩:=vm.s5;generalize aJ ck fr=ka at vk vG hi ar;generalize a.eval k=k' at vk;obtain⟨dX,g1,g2,g3,g4,g5⟩:=yn hE H Xu vk hm hr vG hi;have jF:∀o,(setObj r.b o).run P w=.ok () {w with heap:=w.heap.setIfInBounds r.b o}:=λo=>nj g1 (λ_ _ _ h=>by cases h);rw[em];cases i with
 |none =>
  simp only[qQJ,qQA]at ar;obtain⟨rfl,rfl⟩:=ar;rw[gQ];refine .val (v':=.tuple #[zv,goInt clock]) (w':={w with heap:=w.heap.setIfInBounds r.b (.map (dX.push {key:=k',val:=zv,born:=clock}) (clock+1))}) ?_ (Ren.le_refl _) (.eC (.cons (hzv _) (.cons (.int _ _) .nil))) (H.Bl hm hr (by simpa using g2.append vk (hzv _)));unfold Instr.mapEntry;simp only[Sem.run_bind,hE.bz hd,Result.andThen_ok,cD g1,g3,g4 rfl,hzr,jF,Sem.run_pure]
 |some p =>
  obtain⟨j,u⟩:=p;obtain⟨e,e',q1,q2,q3,q4,q5,q6,q7,v',q8,q9⟩:=g5 j u rfl;have ar:=av.1 ar;obtain⟨e2,wE,ar⟩:=ar;rw[fT,q1]at wE;cases wE;rw[aG]at ar;obtain⟨wG,ar⟩:=ar;simp only[qQJ,qQA]at ar;obtain⟨rfl,rfl⟩:=ar;have hks:=G6 (P:=P) (w:=w) q3 vk q7 wG;refine .val (v':=.tuple #[v',goInt e'.born]) (w':={w with heap:=w.heap.setIfInBounds r.b (.map (dX.modify j λe=>{e with key:=k'}) clock)}) ?_ (Ren.le_refl _) (.eC (.cons q8 (.cons ?_ .nil))) (H.Bl hm hr ?_)
  .unfold Instr.mapEntry;simp only[Sem.run_bind,hE.bz hd,Result.andThen_ok,cD g1,g3,q9,q2,qWB,qWW,hks,jF,Sem.run_pure]
  .rw[q5];exact .int _ _
  .simp only[Array.toList_modify];exact EL.mod (f:=λe=>(ka,e.2.1,e.2.2)) (g:=λe=>{e with key:=k'}) (λe e' _ b c=>⟨vk,b,c⟩) g2 j
def tN:∀{es:List (ae×ae×Nat)}{dX:List MapEntry},EL ρ es dX->∀{n i j:Nat},I.D4 n es i=some j->i<=j/\dX.findIdx? (λe=>(e.born:Int) == (n:Int))=some (j-i)
 |_,_,.nil,n,i,j,h=>by cases h
 |_,_,.cons (e:=e) (e':=e') (l:=l) (l':=l') a b c hl,n,i,j,h=>by
  have h':aO (Nat.beq e.2.2 n) (some i) (I.D4 n l (i+1))=some j:=h;rw[bq]at h';rw[List.findIdx?_cons];split at h'
  .rename_i hb;rw[qZX]at hb;cases h';refine⟨qQY _,?_⟩;rw[if_pos (by rw[<-c,hb];simp)];simp
  .rename_i hb;rw[qZX]at hb;obtain⟨h1,h2⟩:=tN hl h';refine⟨by omega,?_⟩;rw[if_neg (by rw[<-c];simp;omega),h2];simp;omega
def A2 (t:TypeId)(m s x:Operand):tl E P K W0 (.entryStore t m s x):=by
 intro ρ fr h w a o co v h' ho hc hf H hs;simp only[iJ,qQV,qQQ]at hc;obtain⟨cm,LY,cs,ny,cx,fX,hc⟩:=hc;cases hc;have kx:execOp a.eval o=(do Instr.entryStore t (a.eval m) (a.eval s) (a.eval x);pure .skip):=by unfold execOp;rw[ho]
 rw[kx];have ar:I.entryStore cm cs cx fr h=some (v,h'):=hs;unfold I.entryStore at ar;rw[jc]at ar;rcases ar with⟨_,ar⟩|⟨b,hp,ar⟩
 .cases ar
 rw[eV]at ar;obtain⟨kk,n,hn,ar⟩:=ar;rw[fK]at ar;obtain⟨es,clock,hm,ar⟩:=ar;rw[av]at ar;obtain⟨i,hi,ar⟩:=ar;simp only[qQJ,qQA]at ar;obtain⟨rfl,rfl⟩:=ar;have vm:=aB hf LY;have vn:=aB hf ny;have vx:=aB hf fX;rw[hp]at vm;rw[hn]at vn;obtain⟨r,hr,em⟩:=vm.s5;obtain⟨dX,g1,g2,g3⟩:=qC H hm hr;obtain⟨_,hfi⟩:=tN g2 hi
 have abP:dX.findIdx? (λe=>(e.born:Int) == (n:Int))=some i:=by
  rw[show dX=dX.toList.toArray by simp,List.findIdx?_toArray];simpa using hfi
 rw[em,vn.eZ];refine .unit (w':={w with heap:=w.heap.setIfInBounds r.b (.map (dX.modify i λe=>{e with val:=a.eval x}) clock)}) ?_ (Ren.le_refl _) (H.Bl hm hr ?_)
 .unfold Instr.entryStore;have e0:(Int.ofNat n:Int)=(n:Int):=rfl;simp only[Sem.run_bind,cD g1,Result.andThen_ok,asInt,asIntOf,e0,Sem.run_pure,abP];exact nj g1 (λ_ _ _ h=>by cases h)
 .simp only[Array.toList_modify];exact EL.mod (f:=λe=>(e.1,aJ cx fr,e.2.2)) (g:=λe=>{e with val:=a.eval x}) (λe e' p _ c=>⟨p,vx,c⟩) g2 i
def O' (hE:bl E P)(t:TypeId)(x:Operand):tl E P K W0 (.range t x):=by
 intro ρ fr h w a o co v h' ho hc hf H hs;simp only[iJ,qQV,qQQ]at hc;obtain⟨d,hd,hc⟩:=hc;split at hc
 case h_2=>cases hc
 rename_i kt elem;simp only[qQQ]at hc;obtain⟨cx,fX,hc⟩:=hc;cases hc;have kx:execOp a.eval o=(do pure (.value (<-Instr.range t (a.eval x)))):=by unfold execOp;rw[ho]
 rw[kx];have ar:I.range cx fr h=some (v,h'):=hs;unfold I.range at ar;have vx:=aB hf fX;have ru:=(H.fresh h.next (qQY _)).1
 have hV:∀r:RB,r.b=w.heap.size->r.d=0->V (ρ.rB h.next r) (.ptr h.next 0) (.pointer (some ⟨w.heap.size,0,none⟩)):=by
  intro r h1 h2;have:=V.ptr (ρ:=ρ.rB h.next r) (o:=0) (Ren.fq ρ h.next r);rw[h1,h2]at this;exact this
 rw[jc]at ar;rcases ar with⟨hp,ar⟩|⟨m,hp,ar⟩
 .simp only[qQJ,qQA]at ar;obtain⟨rfl,rfl⟩:=ar;rw[hp]at vx;rw[vx.uz]
  refine .val (v':=.pointer (some ⟨w.heap.size,0,none⟩)) (w':={w with heap:=w.heap.push (.mapIter none 0 #[] 0)}) (bn:=ρ.rB h.next ⟨w.heap.size,0,none,mz⟩) ?_ (Ren.iZ _ ru) (hV _ rfl rfl)
   (H.push (r:=⟨w.heap.size,0,none,mz⟩) _ ru (aa.ai _ _) (λm hm=>aa.aA _ _ (Ne.symm hm)) (by simp[aa.bI]) (by simp[aa.bI]) H.nx rfl ⟨rfl,none,rfl,.inl ⟨rfl,rfl⟩⟩)
  unfold Instr.range;simp only[Sem.run_bind,hE.bz hd,Result.andThen_ok,Sem.run_pure,run_newObj]
 .rw[fK]at ar;obtain⟨es,clock,hm,ar⟩:=ar;simp only[qQJ,qQA]at ar;obtain⟨rfl,rfl⟩:=ar;rw[hp]at vx;obtain⟨r,hr,em⟩:=vx.s5;obtain⟨dX,g1,g2,g3⟩:=qC H hm hr;rw[em]
  refine .val (v':=.pointer (some ⟨w.heap.size,0,none⟩)) (w':={w with heap:=w.heap.push (.mapIter (some r.b) clock #[] clock)}) (bn:=ρ.rB h.next ⟨w.heap.size,0,none,mz⟩) ?_ (Ren.iZ _ ru) (hV _ rfl rfl)
   (H.push (r:=⟨w.heap.size,0,none,mz⟩) _ ru (aa.ai _ _) (λm hm=>aa.aA _ _ (Ne.symm hm)) (by simp[aa.bI]) (by simp[aa.bI]) H.nx rfl ⟨rfl,some r.b,rfl,.inr ⟨m,r,rfl,Ren.iZ _ ru _ _ hr,rfl⟩⟩)
  unfold Instr.range;simp only[Sem.run_bind,hE.bz hd,Result.andThen_ok,Sem.run_pure,run_newObj,cD g1]
def Eb (H:WR P K W0 ρ h w){b:Nat}{m:Option Nat}{since:Nat}{seen:List Nat}{last:Nat}(hb:h.get b=some (.mapIter m since seen last)){r:RB}(hr:ρ b=some r) :
 r.d=0/\∃m',w.heap[r.b]?=some (.mapIter m' since seen.toArray last)/\(m=none/\m'=none\/∃a s,m=some a/\ρ a=some s/\m'=some s.b):=by
 obtain⟨s,hs,_,h0,m',h1,h2⟩:=H.obj b _ hb trivial;rw[hr]at hs;cases hs;exact⟨h0,m',h1,h2⟩
def EL.filter {p:Nat->Bool}:∀{l:List (ae×ae×Nat)}{l':List MapEntry},EL ρ l l'->EL ρ (l.filter λe=>p e.2.2) (l'.filter λe=>p e.born)
 |_,_,.nil=>.nil
 |_,_,.cons (e:=e) (e':=e') a b c hl=>by
  simp only[List.filter_cons];rw[<-c];split
  .exact .cons a b c (EL.filter hl)
  .exact EL.filter hl
def EL.all {p:Nat->Bool}:∀{l:List (ae×ae×Nat)}{l':List MapEntry},EL ρ l l'->(l'.all λe=>p e.born)=l.all λe=>p e.2.2
 |_,_,.nil=>rfl
 |_,_,.cons (e:=e) (e':=e') a b c hl=>by
  simp only[List.all_cons,EL.all hl,c]
def EL.find {p:Nat->Bool}:∀{l:List (ae×ae×Nat)}{l':List MapEntry},EL ρ l l'->∀{e:ae×ae×Nat},(l.find? λe=>p e.2.2)=some e->∃e',(l'.find? λe=>p e.born)=some e'/\V ρ e.1 e'.key/\V ρ e.2.1 e'.val
 |_,_,.nil,_,h=>by cases h
 |_,_,.cons (e:=e) (e':=e') a b c hl,x,h=>by
  rw[List.find?_cons]at h ⊢;rw[<-c];cases hp:p e.2.2 with
  |true=>rw[hp]at h;cases h;exact⟨e',rfl,a,b⟩
  |false=>rw[hp]at h;exact EL.find hl h
def Un (it:Operand):tl E P K W0 (.next it false):=by
 intro ρ fr h w a o co v h' ho hc hf H hs;simp only[iJ,qQV,qQQ]at hc;obtain⟨cx,fX,hc⟩:=hc;cases hc;have kx:execOp a.eval o=(do pure (.value (<-Instr.next (a.eval it) false o.type))):=by unfold execOp;rw[ho]
 rw[kx];have ar:I.next cx fr h=some (v,h'):=hs;unfold I.next at ar;rw[cZ]at ar;obtain⟨b,off,hp,ar⟩:=ar;rw[aG]at ar;obtain⟨h0,ar⟩:=ar;rw[qZX]at h0;subst h0;rw[qM]at ar;obtain⟨m,since,seen,last,hb,ar⟩:=ar;have vx:=aB hf fX;rw[hp]at vx;obtain⟨r,hr,ex⟩:=vx.gv;obtain⟨hd,m',g1,g2⟩:=Eb H hb hr;rw[ex,show 0+r.d=0 by omega];have jx:=sE (P:=P) g1 (λ_ _ _ h=>by cases h);cases m with
 |none =>
  rcases g2 with⟨_,rfl⟩|⟨_,_,h,_⟩
  case inr=>cases h
  simp only[qQJ,qQA]at ar;obtain⟨rfl,rfl⟩:=ar;refine .fc (v':=.tuple #[.bool false]) ?_ (.eC (.cons (.bool _) .nil)) H;unfold Instr.next;simp only[Sem.run_bind,jx,Result.andThen_ok,Sem.run_pure]
 |some m =>
  rcases g2 with⟨h,_⟩|⟨m1,s,h,tw,rfl⟩
  case inl=>cases h
  cases h
  have ar:(jb (h.get m) λes clock =>
   bif !seen.isEmpty && !es.isEmpty && es.all (λe=>Nat.ble last e.2.2) then none else
   match es.filter λe=>!seen.contains e.2.2 with
   |[]=>some (.eC [.bool false],h)
   |[e]=>bif Nat.blt e.2.2 since then some (.eC [.bool true,e.1,e.2.1],h.put b (.mapIter (some m) since (seen++[e.2.2]) clock)) else none
   |_=>none)=some (v,h'):=ar
  rw[fK]at ar;obtain⟨es,clock,hm,ar⟩:=ar;obtain⟨dX,k1,k2,k3⟩:=qC H hm tw;have hlen:=k2.length
  have wY:dX.isEmpty=es.isEmpty:=by
   rw[qZL];simp at hlen ⊢;rw[<-Array.size_eq_zero_iff,<-hlen,List.length_eq_zero_iff]
  have jm:(dX.all λe=>decide (e.born>=last))=es.all λe=>Nat.ble last e.2.2:=by
   have:=k2.all (p:=λn=>Nat.ble last n);rw[<-this];simp only[Array.all_toList];congr 1;funext e;rw[qZL];simp
  cases r9:(!seen.isEmpty && !es.isEmpty && es.all (λe=>Nat.ble last e.2.2)) with
  |true=>rw[r9]at ar;cases ar
  |false =>
   rw[r9]at ar;simp only[cond_false]at ar
   have Aa:(!seen.toArray.isEmpty && !dX.isEmpty && dX.all (λe=>decide (e.born>=last)))=false:=by
    rw[wY,jm,<-r9];simp
   have pJ:EL ρ (es.filter λe=>!seen.contains e.2.2) (dX.filter λe=>!seen.toArray.contains e.born).toList:=by
    have:=k2.filter (p:=λn=>!seen.contains n);rw[Array.toList_filter];simpa using this
   generalize ic:(es.filter λe=>!seen.contains e.2.2)=fl at ar pJ;generalize S9:(dX.filter λe=>!seen.toArray.contains e.born)=uN at pJ;split at ar
   .
    simp only[qQJ,qQA]at ar;obtain⟨rfl,rfl⟩:=ar
    have:uN=#[]:=by
     generalize hq:uN.toList=q at pJ;cases pJ;exact qKE.1 hq
    subst this;refine .fc (v':=.tuple #[.bool false]) ?_ (.eC (.cons (.bool _) .nil)) H;unfold Instr.next;simp only[Sem.run_bind,jx,Result.andThen_ok,cD k1];rw[Aa];simp only[qZJ,if_false,S9,Array.filter_empty,Array.isEmpty_empty,if_true,Sem.run_bind];simp[Question.forced]
   .rename_i e;cases dL:Nat.blt e.2.2 since with
    |false=>rw[dL]at ar;cases ar
    |true =>
     rw[dL]at ar;simp only[cond_true,qQJ,qQA]at ar;obtain⟨rfl,rfl⟩:=ar
     have:∃e',uN=#[e']/\V ρ e.1 e'.key/\V ρ e.2.1 e'.val/\e.2.2=e'.born:=by
      generalize hq:uN.toList=q at pJ;cases pJ with
      |cons a b c hl =>
       rename_i e' l';cases hl;refine⟨e',?_,a,b,c⟩;apply qKG;rw[hq]
     obtain⟨e',rfl,va,vb,ec⟩:=this;rw[qJE]at dL;have ab2:decide (e'.born<since)=true:=by rw[<-ec];simpa using dL
     have akB:decide (e'.born>=since)=false:=by rw[<-ec];simp;omega
     have hold:(#[e']:Array MapEntry).filter (λe=>decide (e.born<since))=#[e']:=by
      apply qKG;simp only[Array.toList_filter,List.filter_cons,ab2,if_true,List.filter_nil]
     have fR:(#[e']:Array MapEntry).filter (λe=>decide (e.born>=since))=#[]:=by
      apply qKG;simp only[Array.toList_filter,List.filter_cons,akB,qZJ,if_false,List.filter_nil]
     refine .val (v':=.tuple #[.bool true,e'.key,e'.val]) (w':={w with heap:=w.heap.setIfInBounds r.b (.mapIter (some s.b) since (seen.toArray.push e'.born) clock)}) ?_ (Ren.le_refl _) (.eC (.cons (.bool _) (.cons va (.cons vb .nil)))) ?_
     .unfold Instr.next;simp only[Sem.run_bind,jx,Result.andThen_ok,cD k1];rw[Aa];simp only[qZJ,if_false,S9,Sem.run_bind,hold,fR];simp[Question.forced,nj (P:=P) g1 (λ_ _ _ h=>by cases h)]
     .have ht:=Bm w r.b (.mapIter (some s.b) since (seen.toArray.push e'.born) clock);refine H.put hb trivial hr ht.os ht.tape ht.output ht.size ht.eN λ_=>?_;rw[K8 w g1];exact⟨hd,some s.b,by rw[ec];simp,.inr ⟨m,s,rfl,tw,rfl⟩⟩
   .cases ar
def O7 (it:Operand):tl E P K W0 (.entry it):=by
 intro ρ fr h w a o co v h' ho hc hf H hs;simp only[iJ,qQV,qQQ]at hc;obtain⟨cx,fX,hc⟩:=hc;cases hc;have kx:execOp a.eval o=(do pure (.value (<-Instr.entry (a.eval it)))):=by unfold execOp;rw[ho]
 rw[kx];have ar:I.entry cx fr h=some (v,h'):=hs;unfold I.entry at ar;rw[cZ]at ar;obtain⟨b,off,hp,ar⟩:=ar;rw[aG]at ar;obtain⟨h0,ar⟩:=ar;rw[qZX]at h0;subst h0;rw[qM]at ar;obtain⟨m,since,seen,th,hb,ar⟩:=ar;rw[av]at ar;obtain⟨m,rfl,ar⟩:=ar;rw[av]at ar;obtain⟨ri,wG,ar⟩:=ar;rw[fK]at ar;obtain⟨es,clock,hm,ar⟩:=ar;rw[aG]at ar;obtain⟨Gz,ar⟩:=ar;rw[qZX] at Gz;subst Gz;simp only[av,qQJ,qQA]at ar;obtain⟨e,he,rfl,rfl⟩:=ar;have vx:=aB hf fX;rw[hp]at vx;obtain⟨r,hr,ex⟩:=vx.gv;obtain⟨hd,m',g1,g2⟩:=Eb H hb hr;rw[ex,show 0+r.d=0 by omega];have jx:=sE (P:=P) g1 (λ_ _ _ h=>by cases h);rcases g2 with⟨h,_⟩|⟨m1,s,h,tw,rfl⟩
 case inl=>cases h
 cases h;obtain⟨dX,k1,k2,k3⟩:=qC H hm tw;obtain⟨e',mQ,va,vb⟩:=k2.find (p:=λn=>Nat.beq n ri) he
 have afV:dX.find? (λe=>e.born == ri)=some e':=by
  rw[<-Array.find?_toList]
  have e1:(λe:MapEntry=>e.born == ri)=λe=>Nat.beq e.born ri:=by
   funext e;rw[qZL,beq_iff_eq,qZX]
  rw[e1];exact mQ
 have LV:seen.toArray.back?=some ri:=by simpa using wG
 refine .fc (v':=.tuple #[e'.key,e'.val]) ?_ (.eC (.cons va (.cons vb .nil))) H;unfold Instr.entry;simp only[Sem.run_bind,jx,Result.andThen_ok,LV,cD k1];simp[afV]
end
section
variable{E:Env}{P:Program}[Lay P]{K:cu}{W0:World}
def Hz (hE:bl E P){ρ:Ren}{fr:Fr}{h:aa}{w:World}{a:Act}{c0:Call}{b:Builtin}(h0:c0.callee=.builtin b){o:Oper}{co:dS}{v:ae}{h':aa}(ho:o.op=.call c0)
 (hc:mD E b c0.args.toList c0.argTypes=some co) (hf:FR ρ fr a.tmps) (H:WR P K W0 ρ h w) (hs:aC co fr h=some (v,h')):Sound P (execOp a.eval o) K W0 ρ w v h':=by
 unfold mD at hc;split at hc
 .rename_i x uq;simp only[qQV,qQQ]at hc;obtain⟨t,ht,hc⟩:=hc;exact Yd hE h0 uq ht ho hc hf H hs
 .rename_i s x uq;simp only[qQV,qQQ]at hc;obtain⟨t,ht,u,hu,hc⟩:=hc;exact KF hE h0 uq ht hu ho hc hf H hs
 .rename_i s x uq;simp only[qQV,qQQ]at hc;obtain⟨t,ht,hc⟩:=hc;exact Ul hE h0 uq ht ho hc hf H hs
 .simp only[qQV,qQQ]at hc;obtain⟨cs,ny,hc⟩:=hc;cases hc;exact A4 (isMax:=true) h0 ny ho hf H hs
 .simp only[qQV,qQQ]at hc;obtain⟨cs,ny,hc⟩:=hc;cases hc;exact A4 (isMax:=false) h0 ny ho hf H hs
 .rename_i x uq;simp only[qQV,qQQ]at hc;obtain⟨cx,fX,hc⟩:=hc;cases hc;exact Cf h0 uq fX ho hf H hs
 .rename_i x n uq;simp only[qQV,qQQ]at hc;obtain⟨t,ht,hc⟩:=hc;exact Cg hE h0 uq ht ho hc hf H hs
 .cases hc
def Mt (hE:bl E P)(op:Op):tl E P K W0 op:=by
 cases op with
 |move x=>exact acW x
 |assign x=>exact KH x
 |pick x y z=>exact Uo x y z
 |alloc t=>exact O5 hE t
 |box t x=>exact Yc t x
 |build t ps=>exact O6 hE t ps
 |buildSlice t n ps=>exact A1 hE t n ps
 |load t x=>exact Um hE t x
 |store t x y=>exact Pc hE t x y
 |nilCheck x=>exact EG x
 |binOp op t x y yt=>exact Yb hE op t x y yt
 |unOp u t x =>
  cases u with
  |not=>exact Yf t x
  |neg=>exact Ye t x
  |_=>intro ρ fr h w a o co v h' ho hc;cases hc
 |convert s d x=>exact HC hE s d x
 |makeInterface t x=>exact vX hE t x
 |makeFunc f x y =>
  cases f with
  |func f=>exact EE f x y
  |_=>intro ρ fr h w a o co v h' ho hc;cases hc
 |makeMap t r =>
  cases r with
  |none=>exact HF t
  |some r=>intro ρ fr h w a o co v h' ho hc;cases hc
 |makeSlice t x y=>exact Ce hE t x y
 |slice t x lo hi mx=>exact Pb hE t x lo hi mx
 |fieldAddr s x f=>exact Cc hE s x f
 |field s x f=>exact O8 hE s x f
 |indexAddr t x y=>exact Cd hE t x y
 |index t x y=>exact O9 hE t x y
 |lookup t x y ok=>exact KI hE t x y ok
 |insert t m k v=>exact A3 hE t m k v (.inl rfl)
 |mapUpdate t m k v=>exact A3 hE t m k v (.inr rfl)
 |mapEntry t m k=>exact EF hE t m k
 |entryStore t m s v=>exact A2 t m s v
 |range t x=>exact O' hE t x
 |next it s =>
  cases s with
  |false=>exact Un it
  |true=>intro ρ fr h w a o co v h' ho hc;cases hc
 |entry it=>exact O7 it
 |typeAssert x xt t ok=>exact KG hE x xt t ok
 |extract x i=>exact HD x i
 |call c =>
  intro ρ fr h w a o co v h' ho hc hf H hs;cases tr:c.callee with
  |builtin b =>
   simp only[iJ,tr]at hc;exact Hz hE tr ho hc hf H hs
  |value f =>
   simp only[iJ,tr,qQV,qQQ]at hc;obtain⟨f,_,as,_,hc⟩:=hc;cases hc;cases hs
  |invoke r n =>
   simp only[iJ,tr,qQV,qQQ]at hc;obtain⟨f,_,as,_,hc⟩:=hc;cases hc;cases hs
 |_=>intro ρ fr h w a o co v h' ho hc;cases hc
end
section
variable{E:Env}{P:Program}[Lay P]{K:cu}{W0:World}{ρ:Ren}{fr:Fr}{h:aa}{w:World}{a:Act}
def Enters (P:Program)[Lay P](f:FuncId):Prop:=∃fn,P.funcs[f]?=some fn/\(fn.name == "runtime.NumGoroutine")=false/\fn.body.isNone=false
def jY (P:Program)[Lay P](K:cu)(W0:World)(ρ:Ren)(v:ae)(h':aa):Ending->World->Prop :=
 λe w'=>∃v' bn,e=.returned v'/\ρ.le bn/\V bn v v'/\WR P K W0 bn h' w'
def fC (P:Program)[Lay P](ao:b9):Prop :=
 ∀f args h v h',ao f args h=some (v,h')->Enters P f/\∀(K:cu)(W0:World)(ρ:Ren)(w:World)(args':Array Value),VL ρ args args'.toList->WR P K W0 ρ h w->Calls P f args' w (jY P K W0 ρ v h')
def kp {f:FuncId}(hf:Enters P f)(args:Array Value):(callFunc f args).run P w=.ok (.enter f args) w:=by
 obtain⟨fn,h1,h2,h3⟩:=hf;unfold callFunc;simp only[Sem.run_bind,run_program,Result.andThen_ok,h1,h2,h3,qZJ,if_false,Sem.run_pure]
def OpW (P:Program)[Lay P](o:Oper)(a:Act)(K:cu)(W0:World)(ρ:Ren)(w:World)(v:ae)(h':aa):Prop :=
 ∀(next:Act->World->Prop)(Q:Exit->Act->World->Prop),(∀v' w' bn,ρ.le bn->V bn v v'->WR P K W0 bn h' w'->next (a.put o.dst v') w')->o.wp P a w next Q
def Sound.opW {o:Oper}{v:ae}{h':aa}(hs:Sound P (execOp a.eval o) K W0 ρ w v h'):OpW P o a K W0 ρ w v h':=by
 intro next Q hn
 obtain⟨n,v',w',bn,h1,h2,h3,h4,h5⟩:=hs;unfold Oper.wp;rw[h1];rcases h2 with rfl|⟨rfl,rfl⟩
 .exact hn _ _ _ h3 h4 h5
 .exact hn _ _ _ h3 h4 h5
def vc {op:Op}{f:au}{as:List au}(h:iJ E op=some (.call f as)):∃c x,op=.call c/\c.callee=.value x/\cO x=some f/\Zd c.args=some as:=by
 cases op
 case call c =>
  cases hc:c.callee with
  |value x =>
   simp only[iJ,hc,qQV,qQQ]at h;obtain⟨f',h1,as',h2,h3⟩:=h;cases h3;exact⟨c,x,rfl,hc,h1,h2⟩
  |invoke r n =>
   simp only[iJ,hc,qQV,qQQ]at h;obtain⟨f',h1,as',h2,h3⟩:=h;cases h3
  |builtin b =>
   simp only[iJ,hc]at h;unfold mD at h;exfalso;revert h
   repeat' split
   all_goals (intro h)
   all_goals (try (unfold IV at h))
   all_goals (try (unfold qh at h))
   all_goals (try (unfold zq at h))
   all_goals (try (unfold jN at h))
   all_goals repeat' (first|(cases h;done)|(obtain⟨_,_,h⟩:=h)|(simp only[qQV,qQQ]at h)|split at h)
 all_goals exfalso
 all_goals (unfold iJ at h)
 all_goals repeat' (first|(cases h;done)|(cases ‹(_:Op)=Op.call _›;done)|(obtain⟨_,_,h⟩:=h)|(simp only[qQV,qQQ,qQC]at h)|split at h)
def rK {op:Op}{f:au}{name:String}{as:List au}(h:iJ E op=some (.invoke f name as)):∃c x,op=.call c/\c.callee=.invoke x name/\cO x=some f/\Zd c.args=some as:=by
 cases op
 case call c =>
  cases hc:c.callee with
  |value x =>
   simp only[iJ,hc,qQV,qQQ]at h;obtain⟨f',h1,as',h2,h3⟩:=h;cases h3
  |invoke r n =>
   simp only[iJ,hc,qQV,qQQ]at h;obtain⟨f',h1,as',h2,h3⟩:=h;cases h3;exact⟨c,r,rfl,hc,h1,h2⟩
  |builtin b =>
   simp only[iJ,hc]at h;unfold mD at h;exfalso;revert h
   repeat' split
   all_goals (intro h)
   all_goals (try (unfold IV at h))
   all_goals (try (unfold qh at h))
   all_goals (try (unfold zq at h))
   all_goals (try (unfold jN at h))
   all_goals repeat' (first|(cases h;done)|(obtain⟨_,_,h⟩:=h)|(simp only[qQV,qQQ]at h)|split at h)
 all_goals exfalso
 all_goals (unfold iJ at h)
 all_goals repeat' (first|(cases h;done)|(cases ‹(_:Op)=Op.call _›;done)|(obtain⟨_,_,h⟩:=h)|(simp only[qQV,qQQ,qQC]at h)|split at h)
def xC {ao:b9}{co:dS}(h1:∀f as,co≠.call f as)(h2:∀f n as,co≠.invoke f n as):Pg E ao co=aC co:=by
 cases co
 case call f as=>exact absurd rfl (h1 f as)
 case invoke f n as=>exact absurd rfl (h2 f n as)
 all_goals rfl
def Calls.opW {o:Oper}{f:FuncId}{args':Array Value}{v:ae}{h':aa}(hx:(execOp a.eval o).run P w=.ok (.enter f args') w)(hc:Calls P f args' w (jY P K W0 ρ v h')):OpW P o a K W0 ρ w v h':=by
 intro next Q hn
 unfold Oper.wp;rw[hx,Oper.upon_enter];refine Calls.mono hc λe w' he=>?_;obtain⟨v',bn,rfl,h1,h2,h3⟩:=he;exact hn _ _ _ h1 h2 h3
def Bg (hE:bl E P)(H:WR P K W0 ρ h w){t:TypeId}{pr:Bool}{x v:ae}{x':Value}(hx:V ρ x x')(hs:sw E t pr x h=some v)(nm:String) :
 ∃v',(receiverAt t (.val x') pr (some nm)).run P w=.ok v' w/\V ρ v v':=by
 unfold sw at hs;split at hs
 .rename_i hu;cases hs;refine⟨x',?_,hx⟩;unfold receiverAt;simp only[Sem.run_bind,hE.bz hu,Result.andThen_ok,Place.get,Sem.run_pure]
 .rename_i elem hu
  have eX:∀(r:RB)(o:Nat)(v':Value),x'=.pointer (some ⟨r.b,o+r.d,none⟩)->(loadVar elem ⟨r.b,o+r.d,none⟩).run P w=.ok v' w->(receiverAt t (.val x') false (some nm)).run P w=.ok v' w:=by
   intro r o v' e hl;have Tz:∀ad:Addr,Builtin.ssaWrapNilChk_ #[t] t #[.pointer (some ad),strVal "",strVal nm]=pure (.pointer (some ad)):=fun _=>rfl;unfold receiverAt;simp only[Sem.run_bind,hE.bz hu,Result.andThen_ok,Place.get,Sem.run_pure,e,Tz,asAddr,hl]
  split at hs
  .rename_i n SR hn;rw[cZ]at hs;obtain⟨b,o,rfl,hs⟩:=hs;obtain⟨l,e,own,hb,hs⟩:=fw hs;rw[aG]at hs;obtain⟨hle,hs⟩:=hs;simp only[qZQ,qZB,bV,nZ,qQJ,cW,df]at hle hs;subst hs;obtain⟨r,hr,e2⟩:=hx.gv;obtain⟨v',h1,h2⟩:=(kO hE H (t:=elem) hr hb).1 n SR hn hle.1 hle.2;exact⟨v',eX r o v' e2 h1,h2⟩
  .rename_i SR;rw[cZ]at hs;obtain⟨b,o,rfl,hs⟩:=hs;obtain⟨l,e,own,hb,hs⟩:=fw hs;simp only[av,fT,aG,za,qQJ]at hs;obtain⟨_,qx,kN,rfl⟩:=hs;obtain⟨r,hr,e2⟩:=hx.gv;obtain⟨v',h1,h2⟩:=(kO hE H (t:=elem) hr hb).2 _ SR qx kN;exact⟨v',eX r o v' e2 h1,h2⟩
  .cases hs
 .rename_i d hnp hu;cases hs;refine⟨x',?_,hx⟩;unfold receiverAt;simp only[Sem.run_bind,hE.bz hu,Result.andThen_ok]
  cases d<;>first
   |(exact absurd rfl (hnp _))
   |rfl
 .cases hs
def Mu (hE:bl E P){ao:b9}(bJ:fC P ao){o:Oper}{co:dS}(hc:iJ E o.op=some co)(hf:FR ρ fr a.tmps)(H:WR P K W0 ρ h w){v:ae}{h':aa}(hs:Pg E ao co fr h=some (v,h')):OpW P o a K W0 ρ w v h':=by
 by_cases h1:∃f as,co=.call f as
 .obtain⟨f,as,rfl⟩:=h1;obtain⟨c,x,ho,tr,fX,ny⟩:=vc hc;have ar:rW ao f as fr h=some (v,h'):=hs;unfold rW at ar;rw[oa]at ar;obtain⟨g,first,cap,GB,ar⟩:=ar;rw[aG]at ar;obtain⟨dL,ar⟩:=ar;have vx:=aB hf fX;have va:=mj hf ny;rw[GB]at vx;obtain⟨wV,cap',ex,v1,v2⟩:=vx.pG dL;rw[gQ,gQ]at ar;obtain⟨vF,um⟩:=bJ _ _ _ _ _ ar;refine Calls.opW (f:=g) (args':=wV++c.args.map a.eval++cap') ?_ (um K W0 ρ w _ ?_ H)
  .unfold execOp;rw[ho];simp only[resolve,tr,ex,Deferred.ofValue,Sem.run_bind,Sem.run_pure,Result.andThen_ok,invoke];exact kp vF _
  .simp only[qKX,qKY];exact v1.append (va.append v2)
 .by_cases h2:∃f n as,co=.invoke f n as
  .obtain⟨r,name,as,rfl⟩:=h2;obtain⟨c,x,ho,tr,fX,ny⟩:=rK hc;have ar:lg E ao r name as fr h=some (v,h'):=hs;unfold lg at ar;rw[qL]at ar;rcases ar with⟨_,ar⟩|⟨t,y,hy,ar⟩
   .cases ar
   rw[av]at ar;obtain⟨m,hm,ar⟩:=ar;rw[av]at ar;obtain⟨rv,Qj,ar⟩:=ar;have vx:=aB hf fX;have va:=mj hf ny;rw[hy]at vx;obtain⟨y',ex,vy⟩:=vx.xf;obtain⟨f,pr⟩:=m;obtain⟨vF,um⟩:=bJ _ _ _ _ _ ar;unfold Env.qD at hm;simp only[qQV,qQQ]at hm;obtain⟨i,hi,mm,hmm,hm⟩:=hm;split at hm
   case isFalse=>cases hm
   rename_i x9;obtain⟨rv',rf,se⟩:=Bg (P:=P) hE H vy Qj ((name.splitOn ".").getLastD name);have sa:=hE.info _ _ hi;have hp:mm.path.toList=[]:=by simpa using x9
   have DU:∀n,(method (n+1) t y' name).run P w=.ok (f,rv') w:=by
    intro n;unfold method;simp only[Sem.run_bind,run_typeInfo _ sa,Result.andThen_ok,hmm,hp,follow,Sem.run_pure,hm,x9,if_true,rf]
   refine Calls.opW (f:=f) (args':=#[rv']++c.args.map a.eval) ?_ (um K W0 ρ w _ ?_ H)
   .unfold execOp;rw[ho];simp only[resolve,tr,ex,Sem.run_bind,Sem.run_pure,Result.andThen_ok,invoke];have e0:(#[Value.iface t y']++c.args.map a.eval)[0]?=some (.iface t y'):=by rw[qKM (by simp)];rfl
    simp only[e0,callMethod,Sem.run_bind,run_program,Result.andThen_ok]
    have e1:P.types.size+Made.depth=(P.types.size+(Made.depth-1))+1:=by
     have:0<Made.depth:=by decide
     omega
    rw[e1,DU];simp only[Result.andThen_ok]
    have e2:(#[Value.iface t y']++c.args.map a.eval).extract 1 (#[Value.iface t y']++c.args.map a.eval).size=c.args.map a.eval:=by
     apply qKG;rw[qWF,qKX,qVK];simp;exact qVJ (by simp)
    rw[e2];exact kp vF _
   .simp only[qKX,List.singleton_append];exact .cons se va
  .rw[xC (λf as e=>h1 ⟨f,as,e⟩) (λf n as e=>h2 ⟨f,n,as,e⟩)]at hs;exact(Mt hE o.op rfl hc hf H hs).opW
def V.Rc {v:ae}{b:Bool}(h:V ρ v (.bool b)):v=.bool b:=by cases h;rfl
def pH {nt:Nat}{ops:Array Oper}{o:Oper}{co:aQ}(hc:gi E nt ops o=some co)(hf:FR ρ fr a.tmps):bj co.guard fr=Region.wanted o (yielded ops a.tmps):=by
 unfold gi at hc;split at hc
 case isFalse=>cases hc
 split at hc
 .rename_i hg;cases hc;simp only[Region.wanted,hg];rfl
 .rename_i j want hg;simp only[qQV,qQQ]at hc;obtain⟨oj,hoj,s,hs,hc⟩:=hc;cases hc;simp only[Region.wanted,hg,yielded,hoj,Option.bind_some,hs];have hv:=hf s;show(@Option.rec Bool (λ_=>Bool) false (λb=>aO b want (not want)) (ob (fr.get s) λv=>bK v λb=>some b))=_;cases hq:(ob (fr.get s) λv=>bK v λb=>some b) with
  |some b =>
   rw[av]at hq;obtain⟨v,XJ,Fe⟩:=hq;rw[eh] at Fe;obtain⟨b',rfl,hb⟩:=Fe;cases hb;rw[XJ]at hv;have e:=hv.iD;rw[qZV]at e;cases ht:a.tmps[s]? with
   |none=>rw[ht]at e;cases e
   |some u =>
    rw[ht]at e;simp only[qWW]at e;subst e;cases b<;>cases want<;>rfl
  |none =>
   cases ht:a.tmps[s]? with
   |none=>rfl
   |some u =>
    cases u with
    |bool b =>
     rw[qZV,ht]at hv;have e:=hv.Rc;cases hg:fr.get s with
     |none=>rw[hg]at e;cases e
     |some v =>
      rw[hg]at e;simp only[qWW]at e;subst e;rw[hg]at hq;cases hq
    |_=>rfl
def gU {nt:Nat}{ops:Array Oper}{o:Oper}{co:aQ}(hc:gi E nt ops o=some co):co.dst=o.dst/\(∀d,o.dst=some d->d<nt)/\co.op=(iJ E o.op).getD .bad:=by
 unfold gi at hc;split at hc
 case isFalse=>cases hc
 rename_i hd
 have nG:∀d,o.dst=some d->d<nt:=by
  intro d e;rw[e]at hd;simpa using hd
 split at hc
 .cases hc;exact⟨rfl,nG,rfl⟩
 .simp only[qQV,qQQ]at hc;obtain⟨oj,hoj,s,hs,hc⟩:=hc;cases hc;exact⟨rfl,nG,rfl⟩
def FR.put {nt:Nat}(hf:FR ρ fr a.tmps){d:Option Nat}(hd:∀x,d=some x->x<nt)(hn:nt<=a.tmps.size){v:ae}{v':Value}(hv:V ρ v v'):FR ρ (dB d fr v) (a.put d v').tmps:=by
 cases d with
 |none=>exact hf
 |some d=>exact hf.set (qQG (hd d rfl) hn) hv
def nf (a:Act)(d:Option Nat)(v:Value):(a.put d v).tmps.size=a.tmps.size:=by cases d<;>simp[Act.put]
def lD (a:Act)(d:Option Nat)(v:Value):(a.put d v).defers=a.defers:=by cases d<;>rfl
def jg (hE:bl E P){ao:b9}(bJ:fC P ao){nt:Nat}{ops:Array Oper}{i:Nat}{o:Oper}{co:aQ}(ho:ops[i]?=some o)(hc:gi E nt ops o=some co)
 (hf:FR ρ fr a.tmps) (H:WR P K W0 ρ h w) {v:ae} {h':aa} (hs:eA E ao co fr h=some (v,h')) {next:Act->World->Prop} {Q:Exit->Act->World->Prop}
 (hn:∀v' w' bn,ρ.le bn->V bn v v'->WR P K W0 bn h' w'->next (a.put o.dst v') w'):wpOp P ops Q i next a w:=by
 obtain⟨nH,hd,nP⟩:=gU hc;unfold eA at hs;rw[pH hc hf,bq]at hs;unfold wpOp;simp only[ho];split at hs
 .rename_i hw;rw[if_pos hw];left;cases CE:iJ E o.op with
  |none =>
   rw[CE]at nP;rw[nP]at hs;cases hs
  |some c =>
   rw[CE]at nP;rw[nP]at hs;exact Mu hE bJ CE hf H hs next Q hn
 .rename_i hw;rw[if_neg hw];cases hs;exact hn undef w ρ (Ren.le_refl _) (wx _) H
def fe.out:fe->Exit
 |.normal=>.normal
 |.exit id=>.exit id
 |.ret=>.ret
structure XQ (P:Program)[Lay P](K:cu)(W0:World)(nt:Nat)(ρ:Ren)(a0:Act)(o:Out)(e:Exit)(a:Act)(w:World):Prop where
 e:e=o.e.out
 defers:a.defers=a0.defers
 size:nt<=a.tmps.size
 rest:∃bn,ρ.le bn/\FR bn o.fr a.tmps/\WR P K W0 bn o.h w
def LetsOut.mono {Q Q':Exit->Act->World->Prop}(hq:∀e a w,Q e a w->Q' e a w)(h:LetsOut Q):LetsOut Q':=let⟨a,w,h⟩:=h;⟨a,w,hq _ _ _ h⟩
def Oper.Ve {o:Oper}{Q Q':Exit->Act->World->Prop}{N N':Act->World->Prop}(hq:∀e a w,Q e a w->Q' e a w)(hn:∀a w,N a w->N' a w)(h:o.wp P a w N Q):o.wp P a w N' Q':=by
 unfold Oper.wp at *;generalize (execOp a.eval o).run P w=r at *;cases r with
 |ok n w' =>
  cases n<;>simp only[Oper.upon]at h ⊢ <;>
   first
    |exact hn _ _ h
    |exact Calls.mono h (λe w'' he=>by cases e<;>first|exact hn _ _ he|exact hq _ _ _ he|exact LetsOut.mono hq he)
    |exact Rows.mono h (λ_ _ he=>hn _ _ he)
 |halt x w'=>cases x<;>simp only[Oper.upon]at h ⊢<;>exact hq _ _ _ h
def Bz {ops:Array Oper}{i:Nat}{Q Q':Exit->Act->World->Prop}{N N':Act->World->Prop}(hq:∀e a w,Q e a w->Q' e a w)(hn:∀a w,N a w->N' a w)(h:wpOp P ops Q i N a w):wpOp P ops Q' i N' a w:=by
 unfold wpOp at *;split
 .rename_i ho;rw[ho]at h;exact hn _ _ h
 .rename_i o ho;simp only[ho]at h;split
  .rename_i hw;rw[if_pos hw]at h;exact h.imp (Oper.Ve hq hn) (λh=>⟨h.1,LetsOut.mono hq h.2⟩)
  .rename_i hw;rw[if_neg hw]at h;exact hn _ _ h
def oy {ops:Array Oper}{Q Q':Exit->Act->World->Prop}(hq:∀e a w,Q e a w->Q' e a w):∀(l:List Nat)(a:Act)(w:World),wpOps P ops Q l a w->wpOps P ops Q' l a w
 |[],a,w,h=>hq _ _ _ h
 |i :: l,a,w,h=>by
  rw[wpOps_cons]at h ⊢;exact Bz hq (oy hq l) h
def EP (hE:bl E P){ao:b9}(bJ:fC P ao){nt:Nat}{ops:Array Oper}:∀(l:List aQ)(is:List Nat),is.mapM (λi=>(ops[i]?).bind (gi E nt ops))=some l ->
 ∀{ρ:Ren}{fr:Fr}{h:aa}{w:World}{a:Act}{bP:Fr}{h':aa},nt<=a.tmps.size->FR ρ fr a.tmps->WR P K W0 ρ h w->cP E ao l fr h=some (bP,h')->wpOps P ops (XQ P K W0 nt ρ a ⟨.normal,bP,h'⟩) is a w:=by
 intro l
 induction l with
 |nil =>
  intro is w9 ρ fr h w a bP h' hn hf H hs;cases is with
  |nil =>
   simp only[cP,qQJ,qQA]at hs;obtain⟨rfl,rfl⟩:=hs;exact⟨rfl,rfl,hn,ρ,Ren.le_refl _,hf,H⟩
  |cons i is =>
   simp only[qZF,qQV,qQQ]at w9;obtain⟨_,_,_,_,h3⟩:=w9;cases h3
 |cons c l ih =>
  intro is w9 ρ fr h w a bP h' hn hf H hs;cases is with
  |nil=>simp at w9
  |cons i is =>
   simp only[qZF,qQV,qQQ]at w9;obtain⟨co,⟨o,ho,hc⟩,l',h2,h3⟩:=w9;cases h3;have ar:(ob (eA E ao c fr h) λr=>cP E ao l (dB c.dst fr r.1) r.2)=some (bP,h'):=hs;rw[av]at ar;obtain⟨⟨v,h1⟩,hr,ar⟩:=ar;obtain⟨nH,hd,_⟩:=gU hc;rw[wpOps_cons];refine jg hE bJ ho hc hf H hr λv' w' bn k1 k2 k3=>?_;have Xp:FR bn (dB c.dst fr v) (a.put o.dst v').tmps:=by rw[nH];exact FR.put (hf.mono k1) hd hn k2
   have:=ih is h2 (a:=a.put o.dst v') (by rw[nf];exact hn) Xp k3 ar;refine oy ?_ is _ _ this;rintro e a1 w1 ⟨e1,e2,e3,yW,e4,e5,e6⟩;exact⟨e1,by rw[e2,lD],e3,yW,Ren.le_trans k1 e4,e5,e6⟩
def tW (E:Env)(P:Program)[Lay P](ao:b9):Prop :=
 ∀(K:cu)(W0:World)(nt:Nat)(ops:Array Oper)(ma:List Nat)(n:Nat)(l:List aP)(ρ:Ren)(fr:Fr)(h:aa)(w:World)(a:Act)(bP:Fr)(h':aa),
  qi E nt ops ma=some (.drawn n l)->bC E ao h.next l fr ⟨h.next+n,h.t⟩=some (bP,h')->nt<=a.tmps.size->FR ρ fr a.tmps->WR P K W0 ρ h w ->
   wpAny P .any ops (XQ P K W0 nt ρ a ⟨.normal,bP,h'⟩) ops.size (Array.replicate ops.size false) a w
def XQ.trans {nt:Nat}{ρ bn:Ren}{a0 a1:Act}{o:Out}{e:Exit}{a:Act}{w:World}(hle:ρ.le bn)(hd:a1.defers=a0.defers)(h:XQ P K W0 nt bn a1 o e a w):XQ P K W0 nt ρ a0 o e a w :=
 ⟨h.e,h.defers.trans hd,h.size,let⟨r,x,y,z⟩:=h.rest;⟨r,Ren.le_trans hle x,y,z⟩⟩
def XQ.re {nt:Nat}{a0:Act}{o o':Out}{e e':Exit}(h:XQ P K W0 nt ρ a0 o e a w)(he:e'=o'.e.out)(hf:o'.fr=o.fr)(hh:o'.h=o.h):XQ P K W0 nt ρ a0 o' e' a w :=
 ⟨he,h.defers,h.size,by rw[hf,hh];exact h.rest⟩
def qc {r:XR}{k:Fr->aa->XR}{o:Out}(h:andThen r k=some o):∃o1,r=some o1/\((o1.e=.normal/\k o1.fr o1.h=some o)\/(o1.e≠.normal/\o=o1)):=by
 unfold andThen at h;rw[av]at h;obtain⟨o1,h1,h2⟩:=h;refine⟨o1,h1,?_⟩;obtain⟨e,f,hh⟩:=o1;cases e with
 |normal=>exact .inl ⟨rfl,h2⟩
 |exit id=>cases h2;exact .inr ⟨by simp,rfl⟩
 |ret=>cases h2;exact .inr ⟨by simp,rfl⟩
def fe.uE {e:fe}:e.out=.normal↔e=.normal:=by cases e<;>simp[fe.out]
def step_scope {b:Frame}{a:Act}{k:List Item}{cs:List Frame}{w:World}{c:Code} :
 step P (lone (b.at a (.code (.scope c) :: k)) cs w)=.next (lone (b.at a (.code c :: .inScope c :: k)) cs w) :=
 step_lone_go (by simp[stepG,stepG.exec,Frame.at])
def step_inScope {b:Frame}{a:Act}{k:List Item}{cs:List Frame}{w:World}{c:Code} :
 step P (lone (b.at a (.inScope c :: k)) cs w)=.next (lone (b.at a k) cs w) :=
 step_lone_go (by simp[stepG,stepG.exec,Frame.at])
def BA {c:Code}{Q:Exit->Act->World->Prop}(hq:∀l a w,¬Q (.goto l) a w)(h:c.wp P Q a w):(Code.scope c).wp P Q a w:=by
 intro b k cs;obtain⟨e,a1,w1,hQ,nE⟩:=h b (.inScope c :: k) cs;cases e with
 |normal=>exact⟨.normal,a1,w1,hQ,.head step_scope (Steps.trans nE (.one step_inScope))⟩
 |exit id=>exact⟨.exit id,a1,w1,hQ,λk' hk=>.head step_scope (nE k' (by simp[exitTo,hk]))⟩
 |goto l=>exact(hq _ _ _ hQ).elim
 |ret=>exact⟨_,a1,w1,hQ,.of_steps (.one step_scope) nE⟩
 |panic ch=>exact⟨_,a1,w1,hQ,.of_steps (.one step_scope) nE⟩
 |outgrown=>exact⟨_,a1,w1,hQ,.of_steps (b:=b) (k:=k) (cs:=cs) (e:=.outgrown) (.one step_scope) nE⟩
def Kl {c:Code}{nt:Nat}{body:Fr->aa->XR}
 (ih:∀{ρ:Ren}{fr:Fr}{h:aa}{w:World}{a:Act}{o:Out},nt<=a.tmps.size->FR ρ fr a.tmps->WR P K W0 ρ h w->body fr h=some o->c.wp P (XQ P K W0 nt ρ a o) a w) :
 ∀(n:Nat){ρ:Ren}{fr:Fr}{h:aa}{w:World}{a:Act}{o:Out},nt<=a.tmps.size->FR ρ fr a.tmps->WR P K W0 ρ h w->iter body n fr h=some o ->
  ∀(b:Frame)(k:List Item)(cs:List Frame),∃e a' w',XQ P K W0 nt ρ a o e a' w'/\Arrives P (lone (b.at a (.code c :: .inLoop c :: k)) cs w) b k cs e a' w':=by
 intro n
 induction n with
 |zero=>intro ρ fr h w a o _ _ _ hs;cases hs
 |succ n ihn =>
  intro ρ fr h w a o hn hf H hs b k cs;have ar:andThen (body fr h) (iter body n)=some o:=hs;obtain⟨o1,h1,h2⟩:=qc ar;obtain⟨e,a1,w1,hq,nE⟩:=ih hn hf H h1 b (.inLoop c :: k) cs;rcases h2 with⟨he,h2⟩|⟨he,rfl⟩
  .have e1:e=.normal:=by rw[hq.e,he];rfl
   subst e1;obtain⟨ju,k1,k2,k3⟩:=hq.rest;obtain⟨e2,a2,w2,wF,Gx⟩:=ihn hq.size k2 k3 h2 b k cs;exact⟨e2,a2,w2,wF.trans k1 hq.defers,.of_steps (Steps.trans nE (.one step_inLoop)) Gx⟩
  .have e1:e≠.normal:=by rw[hq.e];exact λh=>he (fe.uE.1 h)
   exact⟨e,a1,w1,hq,.pass (x:=.inLoop c) rfl (λ_ _=>.inl e1) nE⟩
def qP {α:Type}(g:Oper->Option α)(ops:Array Oper):∀{l:List α},ops.toList.mapM g=some l->(List.range ops.size).mapM (λi=>(ops[i]?).bind g)=some l:=by
 have key:∀(xs pre:List Oper)(l:List α),pre++xs=ops.toList->xs.mapM g=some l->(List.range' pre.length xs.length).mapM (λi=>(ops[i]?).bind g)=some l:=by
  intro xs
  induction xs with
  |nil=>intro pre l _ h;simpa using h
  |cons x xs ih =>
   intro pre l hp h;simp only[qZF,qQV,qQQ]at h;obtain⟨y,h1,l',h2,h3⟩:=h;cases h3;have:=ih (pre++[x]) l' (by simpa using hp) h2
   have hx:ops[pre.length]?=some x:=by
    rw[<-qVG,<-hp];simp
   simp only[qQM,qZK,qZE]at this;rw[qZK,List.range'_succ,qZF];simp only[hx,qQV,Option.bind_some,h1,this];rfl
 intro l h;have:=key ops.toList [] l (by simp) h;rw[List.range_eq_range'];simpa using this
def jP (hE:bl E P){ao:b9}(bJ:fC P ao)(lr:tW E P ao)(lf:Nat){nt:Nat}{dy:List (Nat×List Nat)} :
 ∀(c:Code){cc:ax},bR E nt dy c=some cc->∀{ρ:Ren}{fr:Fr}{h:aa}{w:World}{a:Act}{o:Out},nt<=a.tmps.size->FR ρ fr a.tmps->WR P K W0 ρ h w->exec E ao lf cc fr h=some o ->
  c.wp P (XQ P K W0 nt ρ a o) a w:=by
 intro c
 have mO:∀{fr h}{o:Out},exec E ao lf sT fr h=some o->False:=by
  intro fr h o hs;have ar:(ob (cP E ao [⟨none,none,.bad⟩] fr h) λp=>some (⟨.normal,p.1,p.2⟩:Out))=some o:=hs;rw[av]at ar;obtain⟨p,hp,_⟩:=ar;cases hp
 induction c with
 |skip =>
  intro cc hc ρ fr h w a o hn hf H hs;cases hc;cases hs;exact wp_skip ⟨rfl,rfl,hn,ρ,Ren.le_refl _,hf,H⟩
 |label l =>
  intro cc hc ρ fr h w a o hn hf H hs;cases hc;cases hs;exact wp_label ⟨rfl,rfl,hn,ρ,Ren.le_refl _,hf,H⟩
 |ret =>
  intro cc hc ρ fr h w a o hn hf H hs;cases hc;cases hs;exact wp_ret ⟨rfl,rfl,hn,ρ,Ren.le_refl _,hf,H⟩
 |exit id =>
  intro cc hc ρ fr h w a o hn hf H hs;cases hc;cases hs;exact wp_exit ⟨rfl,rfl,hn,ρ,Ren.le_refl _,hf,H⟩
 |region id ops draw =>
  intro cc hc ρ fr h w a o hn hf H hs;unfold bR at hc;cases draw with
  |true =>
   simp only[if_true]at hc;split at hc
   .rename_i ma hp;cases hd:qi E nt ops ma with
    |none =>
     rw[hd]at hc;cases hc;exact(mO hs).elim
    |some d =>
     rw[hd]at hc;cases hc;have nG:=hd;simp only[qi,qQV,qQQ]at nG;obtain⟨cops,Ab,nG⟩:=nG;split at nG
     case isFalse=>cases nG
     simp only[qQQ]at nG;obtain⟨l,hl,nG⟩:=nG;cases nG;have ar:(ob (bC E ao h.next l fr ⟨h.next+ops.size,h.t⟩) λp=>some (⟨.normal,p.1,p.2⟩:Out))=some o:=hs;rw[av]at ar;obtain⟨⟨bP,h'⟩,hr,ho⟩:=ar;cases ho;exact wp_region_any hE.mixed (lr K W0 nt ops ma ops.size l ρ fr h _ a bP h' hd hr hn hf (H.drawn _))
   .cases hc;exact(mO hs).elim
  |false =>
   simp only[qZJ,if_false,qQV,qQQ]at hc;obtain⟨l,hl,hc⟩:=hc;cases hc;have ar:(ob (cP E ao l fr h) λp=>some (⟨.normal,p.1,p.2⟩:Out))=some o:=hs;rw[av]at ar;obtain⟨⟨bP,h'⟩,hr,ho⟩:=ar;cases ho;exact wp_region (EP hE bJ l _ (qP _ ops hl) hn hf H hr)
 |seq x y ihx Kb =>
  intro cc hc ρ fr h w a o hn hf H hs;simp only[bR,qQV,qQQ]at hc;obtain⟨cx,hx,cy,hy,hc⟩:=hc;cases hc;have ar:andThen (exec E ao lf cx fr h) (exec E ao lf cy)=some o:=hs;obtain⟨o1,h1,h2⟩:=qc ar;refine wp_seq (wp_mono (ihx hx hn hf H h1) λe a1 w1 hq=>?_);rcases h2 with⟨he,h2⟩|⟨he,rfl⟩
  .have e1:e=.normal:=by rw[hq.e,he];rfl
   subst e1;obtain⟨ju,k1,k2,k3⟩:=hq.rest;exact wp_mono (Kb hy hq.size k2 k3 h2) λe a2 w2 wF=>wF.trans k1 hq.defers
  .have e1:e≠.normal:=by rw[hq.e];exact λh=>he (fe.uE.1 h)
   cases e<;>first|exact absurd rfl e1|exact hq
 |cond x y z Kb ihz =>
  intro cc hc ρ fr h w a o hn hf H hs;simp only[bR,qQV,qQQ]at hc;obtain⟨cx,hx,cy,hy,cz,hz,hc⟩:=hc;cases hc;have ar:(bK (aJ cx fr) λb=>aO b (exec E ao lf cy fr h) (exec E ao lf cz fr h))=some o:=hs;rw[eh]at ar;obtain⟨b,hb,ar⟩:=ar;have vx:=aB hf hx;rw[hb]at vx;refine wp_cond vx.iD ?_;cases b with
  |true=>exact Kb hy hn hf H ar
  |false=>exact ihz hz hn hf H ar
 |block id body ih =>
  intro cc hc ρ fr h w a o hn hf H hs;simp only[bR,qQV,qQQ]at hc;obtain⟨cx,hx,hc⟩:=hc;cases hc;have ar:mf id (exec E ao lf cx fr h)=some o:=hs;unfold mf at ar;rw[av]at ar;obtain⟨o1,h1,h2⟩:=ar;refine wp_block (wp_mono (ih hx hn hf H h1) λe a1 w1 hq=>?_);have he:=hq.e;obtain⟨e1,f1,ZG⟩:=o1;cases e1 with
  |normal=>cases h2;rw[he];exact hq.re rfl rfl rfl
  |ret=>cases h2;rw[he];exact hq.re rfl rfl rfl
  |exit j =>
   have tH:aO (Nat.beq j id) (some (⟨.normal,f1,ZG⟩:Out)) (some ⟨.exit j,f1,ZG⟩)=some o:=h2;rw[bq]at tH;rw[he];show(if j=id then XQ P K W0 nt ρ a o .normal a1 w1 else XQ P K W0 nt ρ a o (.exit j) a1 w1);split at tH
   .rename_i hj;rw[qZX]at hj;rw[if_pos hj];cases tH;exact hq.re rfl rfl rfl
   .rename_i hj;rw[qZX]at hj;rw[if_neg hj];cases tH;exact hq.re rfl rfl rfl
 |loop body ih =>
  intro cc hc ρ fr h w a o hn hf H hs;simp only[bR,qQV,qQQ]at hc;obtain⟨cx,hx,hc⟩:=hc;cases hc;have ar:iter (exec E ao lf cx) lf fr h=some o:=hs;intro b k cs;obtain⟨e,a1,w1,hq,nE⟩:=Kl (λhn hf H hs=>ih hx hn hf H hs) lf hn hf H ar b k cs;exact⟨e,a1,w1,hq,.of_steps (.one step_loop) nE⟩
 |scope body ih =>
  intro cc hc ρ fr h w a o hn hf H hs;refine BA (λl a1 w1 hq=>?_) (ih hc hn hf H hs);have:=hq.e;obtain⟨e1,f1,ZG⟩:=o;cases e1<;>cases this
 |_ =>
  intro cc hc ρ fr h w a o hn hf H hs;cases hc;exact(mO hs).elim
def EO (tmps:Array Value):ResultVar->Sem Value
 |.tmp t=>pure (tmps.getD t undef)
 |.cell a t=>do loadVar t (<-asAddr (tmps.getD a undef))
def HQ (fn:Func)(tmps:Array Value):results fn tmps=(do
 let vs <-fn.results.mapM (EO tmps)
 pure (if h:vs.size=1 then vs[0] else .tuple vs)):=by
 unfold results;congr 1
def sA (hE:bl E P){tmps:Array Value}(hf:FR ρ fr tmps)(H:WR P K W0 ρ h w):∀{l:List ResultVar}{vs:List ae},wi E h fr l=some vs ->
 ∃vs':List Value,(l.mapM (EO tmps)).run P w=.ok vs' w/\VL ρ vs vs'
 |[],vs,h=>by cases h;exact⟨[],rfl,.nil⟩
 |r :: l,vs,hs=>by
  unfold wi at hs;rw[av]at hs;obtain⟨v,hv,hs⟩:=hs;rw[av]at hs;obtain⟨vs1,hvs,hs⟩:=hs;cases hs;obtain⟨vs',h1,h2⟩:=sA hE hf H hvs
  have qu:∃v',(EO tmps r).run P w=.ok v' w/\V ρ v v':=by
   cases r with
   |tmp t =>
    simp only[gS,qQJ]at hv;subst hv;rw[mI];exact⟨_,rfl,hf t⟩
   |cell c t =>
    simp only[gS,av]at hv;obtain⟨g,hg,n,hn,hv⟩:=hv;rw[cZ]at hv;obtain⟨b,o,hp,hv⟩:=hv;obtain⟨l,e,own,hb,hv⟩:=fw hv;rw[mI]at hp;have hx:=hf c;rw[hp]at hx;obtain⟨rr,hr,e2⟩:=hx.gv;simp only[EO,e2,asAddr,Sem.run_bind,Sem.run_pure,Result.andThen_ok];cases g with
    |true =>
     have tM:aO (and (Nat.ble (Nat.add o n) (cJ l)) (yk own (bD n (bG o l)))) (some (ae.agg (bD n (bG o l)))) none=some v:=hv;rw[aG]at tM;obtain⟨hle,tM⟩:=tM;simp only[qZQ,qZB,bV,nZ,qQJ,cW,df]at hle tM;subst tM;exact(kO hE H (t:=t) hr hb).1 n hg hn hle.1 hle.2
    |false =>
     have tM:ob (fW l o) (λv=>aO (HG own v) (some v) none)=some v:=hv;simp only[av,fT,aG,za,qQJ]at tM;obtain⟨_,Fe,kN,rfl⟩:=tM;exact(kO hE H (t:=t) hr hb).2 _ hg Fe kN
  obtain⟨v',h3,h4⟩:=qu;refine⟨v' :: vs',?_,.cons h4 h2⟩;rw[qZF];simp only[Sem.run_bind,h3,Result.andThen_ok,h1,Sem.run_pure]
def gH (hE:bl E P){tmps:Array Value}(hf:FR ρ fr tmps)(H:WR P K W0 ρ h w){fn:Func}{v:ae}(hs:bw E h fr fn.results.toList=some v) :
 ∃v',(results fn tmps).run P w=.ok v' w/\V ρ v v':=by
 unfold bw at hs;rw[av]at hs;obtain⟨vs,hvs,hs⟩:=hs;obtain⟨vs',h1,h2⟩:=sA hE hf H hvs
 have hr:(results fn tmps).run P w=.ok (if h:vs'.toArray.size=1 then vs'.toArray[0] else .tuple vs'.toArray) w:=by
  rw[HQ,Array.mapM_eq_mapM_toList];simp only[map_eq_pure_bind,bind_assoc,Sem.run_bind,h1,Result.andThen_ok,pure_bind,Sem.run_pure]
 refine⟨_,hr,?_⟩;split at hs
 .rename_i v0;cases hs;cases h2 with
  |cons hv hl =>
   cases hl;simpa using hv
 .rename_i dV;cases hs
  have iq:vs'.toArray.size≠1:=by
   intro Iu;have hl:=h2.length;simp at Iu;rw[Iu]at hl;obtain⟨x,rfl⟩:=List.length_eq_one_iff.1 hl;exact dV x rfl
  simp only[iq,dite_false];exact .eC (by simpa using h2)
def Hp:∀(l:List ae)(i:Nat)(t:Fr)(j:Nat),(dN l i t).get j=if i<=j/\j<i+l.length then l[j-i]? else t.get j:=by
 intro l
 induction l with
 |nil=>intro i t j;simp[dN];intro h1 h2;omega
 |cons x l ih =>
  intro i t j;have e:dN (x :: l) i t=dN l (i+1) (t.set i x):=rfl;rw[e,ih];by_cases h1:i+1<=j/\j<i+1+l.length
  .rw[if_pos h1,if_pos (by simp;omega)];have:j-i=(j-(i+1))+1:=by omega
   rw[this];rfl
  .rw[if_neg h1];by_cases h2:j=i
   .subst h2;rw[T.get_set_same,if_pos (by simp)];simp
   .rw[T.cY _ _ (Ne.symm h2),if_neg (by simp;omega)]
def jR {args:List ae}{args':Array Value}(h:VL ρ args args'.toList)(n:Nat):FR ρ (dN args 0 .nil) (args'++Array.replicate n undef):=by
 intro i;have hl:=h.length;simp at hl;rw[Hp,qZV];by_cases hi:i<args.length
 .rw[if_pos (by omega),qKM (by omega)];simp only[Nat.sub_zero];have h1:args[i]?=some args[i]:=qQW hi;obtain⟨v',h2,h3⟩:=h.get h1;rw[h1];have tH:args'[i]?=some v':=by simpa using h2
  rw[tH];exact h3
 .rw[if_neg (by omega),T.get_nil,Array.getElem?_append_right (by omega)]
  have:((Array.replicate n undef)[i-args'.size]?).getD undef=undef:=by
   rw[Array.getElem?_replicate];split<;>rfl
  rw[this];exact wx _
def zh (E:Env)(P:Program)[Lay P]:Prop :=
 ∀f p,E.uG.get f=some p->∀args h v h',tP p args h=some (v,h')->Enters P f/\∀(K:cu)(W0:World)(ρ:Ren)(w:World)(args':Array Value),VL ρ args args'.toList->WR P K W0 ρ h w->Calls P f args' w (jY P K W0 ρ v h')
def FC (hE:bl E P)(Aj:∀f x,E.fn.get f=some x->(x.name == "runtime.NumGoroutine")=false) (To:zh E P) (lr:∀ao,fC P ao->tW E P ao) (lf:Nat):∀n,fC P (ba E lf n):=by
 intro n
 induction n with
 |zero=>intro f args h v h' hs;cases hs
 |succ n ih =>
  intro f args h v h' hs
  have ar:@Option.rec Prim (λ_=>R)
   (ob (E.code f) λc=>ob (exec E (ba E lf n) lf c.1 (dN args 0 .nil) h) λo=>tD E c.2 o)
   (λp=>tP p args h) (E.uG.get f)=some (v,h'):=hs
  cases hp:E.uG.get f with
  |some p =>
   rw[hp]at ar;exact To f p hp args h v h' ar
  |none =>
   rw[hp]at ar;have ar:(ob (E.code f) λc=>ob (exec E (ba E lf n) lf c.1 (dN args 0 .nil) h) λo=>tD E c.2 o)=some (v,h'):=ar;rw[av]at ar;obtain⟨⟨cc,rs⟩,nM,ar⟩:=ar;rw[av]at ar;obtain⟨o,hex,qw⟩:=ar;simp only[Env.code,qQV,qQQ]at nM;obtain⟨fn,GB,c,hc,cc',kE,nM⟩:=nM;cases nM;have B1:=hE.fn _ _ GB;refine⟨⟨fn,B1,Aj _ _ GB,by rw[hc];rfl⟩,λK W0 ρ w args' dG H=>?_⟩;have kF:fn.ntmps<=(args'++Array.replicate (fn.ntmps-args'.size) undef).size:=by simp;omega
   have hwp:=jP hE ih (lr _ ih) lf c kE (a:={tmps:=args'++Array.replicate (fn.ntmps-args'.size) undef,defers:=[]}) kF (jR dG _) H hex;refine calls_of_wp B1 hc (wp_mono hwp λe a1 w1 hq=>?_);obtain⟨ju,k1,k2,k3⟩:=hq.rest;have hd:a1.defers=[]:=hq.defers;have he:=hq.e
   have gW:∀(hr:bw E o.h o.fr fn.results.toList=some v)(hh:o.h=h'),a1.defers=[]/\∃v,(results fn a1.tmps).run P w1=.ok v w1/\jY P K W0 ρ ‹ae› h' (.returned v) w1:=by
    intro hr hh;obtain⟨v',r1,r2⟩:=gH hE k2 k3 hr;exact⟨hd,v',r1,v',ju,rfl,k1,r2,hh▸k3⟩
   obtain⟨oe,kG,oh⟩:=o;cases oe with
   |exit id=>cases qw
   |normal =>
    have gj:(ob (bw E oh kG fn.results.toList) λv=>some (v,oh))=some (v,h'):=qw;rw[av]at gj;obtain⟨v1,hr,gj⟩:=gj;cases gj;rw[he];exact gW hr rfl
   |ret =>
    have gj:(ob (bw E oh kG fn.results.toList) λv=>some (v,oh))=some (v,h'):=qw;rw[av]at gj;obtain⟨v1,hr,gj⟩:=gj;cases gj;rw[he];exact gW hr rfl
end
def NL {x:au}{fr bP:Fr}(h:∀t,t∈x.adx->fr.get t=bP.get t):aJ x fr=aJ x bP:=by
 cases x with
 |t s=>rw[mI,mI,h s (by simp[au.adx])]
 |c v=>rfl
def mJ {l:List au}{fr bP:Fr}(h:∀x,x∈l->aJ x fr=aJ x bP):jw l fr=jw l bP:=by
 unfold jw;rw[gq,gq];exact qJH h
def tE {l:List (Nat×Nat×au)}{fr bP:Fr}(h:∀x,x∈l.map (·.2.2)->aJ x fr=aJ x bP):I.fE l fr=I.fE l bP:=by
 unfold I.fE;rw[gq,gq];refine qJH λp hp=>?_;rw[h p.2.2 (qQB.2 ⟨p,hp,rfl⟩)]
def jO {x:Option au}{fr bP:Fr}(h:∀y,y∈x.toList->aJ y fr=aJ y bP):jE x fr=jE x bP:=by
 cases x with
 |none=>rfl
 |some y =>
  show some (aJ y fr)=some (aJ y bP);rw[h y (by simp)]
def wu {co:dS}{fr bP:Fr}(h:∀x,x∈co.cU->aJ x fr=aJ x bP)(hp:aa):aC co fr hp=aC co bP hp:=by
 cases co
 case mv x=>have h1:=h x (by simp[dS.cU]);simp only[aC,I.mv,h1]
 case pick a b c=>have h1:=h a (by simp[dS.cU]);have h2:=h b (by simp[dS.cU]);have h3:=h c (by simp[dS.cU]);simp only[aC,I.pick,h1,h2,h3]
 case box t x=>have h1:=h x (by simp[dS.cU]);simp only[aC,I.box,h1]
 case build z ps=>have h1:=tE (l:=ps) (λx hx=>h x hx);simp only[aC,I.build,h1]
 case buildSlice e n z ps=>have h1:=tE (l:=ps) (λx hx=>h x hx);simp only[aC,I.buildSlice,h1]
 case ct x=>have h1:=h x (by simp[dS.cU]);simp only[aC,I.ct,h1]
 case fJ n x=>have h1:=h x (by simp[dS.cU]);simp only[aC,I.fJ,h1]
 case store n a v=>have h1:=h a (by simp[dS.cU]);have h2:=h v (by simp[dS.cU]);simp only[aC,I.store,h1,h2]
 case nilCheck x=>have h1:=h x (by simp[dS.cU]);simp only[aC,I.nilCheck,h1]
 case bin op q x y=>have h1:=h x (by simp[dS.cU]);have h2:=h y (by simp[dS.cU]);simp only[aC,I.bin,h1,h2]
 case not x=>have h1:=h x (by simp[dS.cU]);simp only[aC,I.not,h1]
 case neg x=>have h1:=h x (by simp[dS.cU]);simp only[aC,I.neg,h1]
 case px k x=>have h1:=h x (by simp[dS.cU]);simp only[aC,I.px,h1]
 case uc x=>have h1:=h x (by simp[dS.cU]);simp only[aC,I.uc,h1]
 case dQ e x=>have h1:=h x (by simp[dS.cU]);simp only[aC,I.dQ,h1]
 case dw x=>have h1:=h x (by simp[dS.cU]);simp only[aC,I.dw,h1]
 case eP t x=>have h1:=h x (by simp[dS.cU]);simp only[aC,I.eP,h1]
 case iu f a c =>
  have h1:=mJ (l:=a) (λx hx=>h x (by simp[dS.cU,hx]));have h2:=mJ (l:=c) (λx hx=>h x (by simp[dS.cU,hx]));simp only[aC,I.iu,h1,h2]
 case mkMap=>rfl
 case mkSlice e z b x y=>have h1:=h x (by simp[dS.cU]);have h2:=h y (by simp[dS.cU]);simp only[aC,I.mkSlice,h1,h2]
 case nk x lo hi =>
  have h1:=h x (by simp[dS.cU]);have h2:=jO (x:=lo) (λy hy=>h y (by simp[dS.cU];right;left;simpa using hy));have h3:=jO (x:=hi) (λy hy=>h y (by simp[dS.cU];right;right;simpa using hy));simp only[aC,I.nk,h1,h2,h3]
 case qR e n x lo hi mx =>
  have h1:=h x (by simp[dS.cU]);have h2:=jO (x:=lo) (λy hy=>h y (by simp[dS.cU];right;left;simpa using hy));have h3:=jO (x:=hi) (λy hy=>h y (by simp[dS.cU];right;right;left;simpa using hy));have h4:=jO (x:=mx) (λy hy=>h y (by simp[dS.cU];right;right;right;simpa using hy));simp only[aC,I.qR,h1,h2,h3,h4]
 case ox n s x lo hi =>
  have h1:=h x (by simp[dS.cU]);have h2:=jO (x:=lo) (λy hy=>h y (by simp[dS.cU];right;left;simpa using hy));have h3:=jO (x:=hi) (λy hy=>h y (by simp[dS.cU];right;right;simpa using hy));simp only[aC,I.ox,h1,h2,h3]
 case dh o x=>have h1:=h x (by simp[dS.cU]);simp only[aC,I.dh,h1]
 case lV o x=>have h1:=h x (by simp[dS.cU]);simp only[aC,I.lV,h1]
 case mY o n x=>have h1:=h x (by simp[dS.cU]);simp only[aC,I.mY,h1]
 case nR l s x y=>have h1:=h x (by simp[dS.cU]);have h2:=h y (by simp[dS.cU]);simp only[aC,I.nR,h1,h2]
 case kz s x y=>have h1:=h x (by simp[dS.cU]);have h2:=h y (by simp[dS.cU]);simp only[aC,I.kz,h1,h2]
 case vM l s x y=>have h1:=h x (by simp[dS.cU]);have h2:=h y (by simp[dS.cU]);simp only[aC,I.vM,h1,h2]
 case vN l s x y=>have h1:=h x (by simp[dS.cU]);have h2:=h y (by simp[dS.cU]);simp only[aC,I.vN,h1,h2]
 case kh x y=>have h1:=h x (by simp[dS.cU]);have h2:=h y (by simp[dS.cU]);simp only[aC,I.kh,h1,h2]
 case lookup q z x y ok=>have h1:=h x (by simp[dS.cU]);have h2:=h y (by simp[dS.cU]);simp only[aC,I.lookup,h1,h2]
 case fj q x y z=>have h1:=h x (by simp[dS.cU]);have h2:=h y (by simp[dS.cU]);have h3:=h z (by simp[dS.cU]);simp only[aC,I.fj,h1,h2,h3]
 case mapEntry q z x y=>have h1:=h x (by simp[dS.cU]);have h2:=h y (by simp[dS.cU]);simp only[aC,I.mapEntry,h1,h2]
 case entryStore x y z=>have h1:=h x (by simp[dS.cU]);have h2:=h y (by simp[dS.cU]);have h3:=h z (by simp[dS.cU]);simp only[aC,I.entryStore,h1,h2,h3]
 case range x=>have h1:=h x (by simp[dS.cU]);simp only[aC,I.range,h1]
 case next x=>have h1:=h x (by simp[dS.cU]);simp only[aC,I.next,h1]
 case entry x=>have h1:=h x (by simp[dS.cU]);simp only[aC,I.entry,h1]
 case assert t z ok x=>have h1:=h x (by simp[dS.cU]);simp only[aC,I.assert,h1]
 case extract i x=>have h1:=h x (by simp[dS.cU]);simp only[aC,I.extract,h1]
 case len s x=>have h1:=h x (by simp[dS.cU]);simp only[aC,I.len,h1]
 case append e n x y=>have h1:=h x (by simp[dS.cU]);have h2:=h y (by simp[dS.cU]);simp only[aC,I.append,h1,h2]
 case copy n x y=>have h1:=h x (by simp[dS.cU]);have h2:=h y (by simp[dS.cU]);simp only[aC,I.copy,h1,h2]
 case fk m l=>have h1:=mJ (l:=l) (λx hx=>h x hx);simp only[aC,I.fk,h1]
 case dR x=>have h1:=h x (by simp[dS.cU]);simp only[aC,I.dR,h1]
 case eF u x y=>have h1:=h x (by simp[dS.cU]);have h2:=h y (by simp[dS.cU]);simp only[aC,I.eF,h1,h2]
 case call f as=>rfl
 case invoke r n as=>rfl
 case bad=>rfl
def Ph {E:Env}{ao:b9}{co:dS}{fr bP:Fr}(h:∀x,x∈co.cU->aJ x fr=aJ x bP)(hp:aa):Pg E ao co fr hp=Pg E ao co bP hp:=by
 by_cases h1:∃f as,co=.call f as
 .obtain⟨f,as,rfl⟩:=h1;have h1:=h f (by simp[dS.cU]);have h2:=mJ (l:=as) (λx hx=>h x (by simp[dS.cU,hx]));simp only[Pg,rW,h1,h2]
 .by_cases h2:∃f n as,co=.invoke f n as
  .obtain⟨r,n,as,rfl⟩:=h2;have h1:=h r (by simp[dS.cU]);have h2:=mJ (l:=as) (λx hx=>h x (by simp[dS.cU,hx]));simp only[Pg,lg,h1,h2]
  .rw[xC (λf as e=>h1 ⟨f,as,e⟩) (λf n as e=>h2 ⟨f,n,as,e⟩)];exact wu h hp
def Dj (o:aQ)(fr bP:Fr):Prop:=∀t,t∈o.looks->fr.get t=bP.get t
def Dj.cU {o:aQ}{fr bP:Fr}(h:Dj o fr bP):∀x,x∈o.op.cU->aJ x fr=aJ x bP:=λx hx =>
 NL λt ht=>h t (List.mem_append_right _ (List.mem_flatMap.2 ⟨x,hx,ht⟩))
def Dj.guard {o:aQ}{fr bP:Fr}(h:Dj o fr bP):bj o.guard fr=bj o.guard bP:=by
 unfold Dj aQ.looks at h;cases hg:o.guard with
 |none=>rfl
 |some p =>
  obtain⟨s,want⟩:=p;have:=h s (by rw[hg];simp);simp only[bj,this]
def oi {E:Env}{ao:b9}{o:aQ}{fr bP:Fr}(h:Dj o fr bP)(hp:aa):eA E ao o fr hp=eA E ao o bP hp:=by
 unfold eA;rw[h.guard,Ph h.cU]
def dT (F:aa->R):Prop:=∃g:Option ae,∀h,F h=ob g λv=>some (v,h)
namespace dT
def val (v:ae):dT λh=>some (v,h):=⟨some v,λ_=>rfl⟩
def no:dT λ_=>none:=⟨none,λ_=>rfl⟩
def sq {α:Type}{o:Option α}{k:α->aa->R}(h:∀a,dT (k a)):dT λhp=>ob o λa=>k a hp:=by
 cases o with
 |none=>exact no
 |some a=>exact h a
def ift {b:Bool}{x y:aa->R}(h1:dT x)(h2:dT y):dT λhp=>aO b (x hp) (y hp):=by
 cases b with
 |true=>exact h1
 |false=>exact h2
def aah {v:ae}{k:Bool->aa->R}(h:∀b,dT (k b)):dT λhp=>bK v λb=>k b hp:=by
 cases v<;>first|exact h _|exact no
def acV {v:ae}{k:IntKind->Int->aa->R}(h:∀a b,dT (k a b)):dT λhp=>jr v λa b=>k a b hp:=by
 cases v<;>first|exact h _ _|exact no
def Uq {v:ae}{k:Nat->aa->R}(h:∀a,dT (k a)):dT λhp=>js v λa=>k a hp:=by
 cases v<;>first|exact no|skip
 rename_i kk n;cases n<;>first|exact h _|exact no
def Yj {v:ae}{k:List Nat->aa->R}(h:∀b,dT (k b)):dT λhp=>kH v λb=>k b hp:=by
 cases v<;>first|exact h _|exact no
def ac0 {v:ae}{k:Nat->Nat->aa->R}(h:∀a b,dT (k a b)):dT λhp=>gu v λa b=>k a b hp:=by
 cases v<;>first|exact h _ _|exact no
def KN {v:ae}{z:aa->R}{k:Nat->Nat->Nat->Nat->Bool->aa->R}(hz:dT z)(h:∀a b c d e,dT (k a b c d e)):dT λhp=>gR v (z hp) λa b c d e=>k a b c d e hp:=by
 cases v<;>first|exact h _ _ _ _ _|exact hz|exact no
def acU {v:ae}{z:aa->R}{k:TypeId->ae->aa->R}(hz:dT z)(h:∀a b,dT (k a b)):dT λhp=>s6 v (z hp) λa b=>k a b hp:=by
 cases v<;>first|exact h _ _|exact hz|exact no
def X8 {v:ae}{k:List ae->aa->R}(h:∀b,dT (k b)):dT λhp=>jH v λb=>k b hp:=by
 cases v<;>first|exact h _|exact no
def ame {v:ae}{k:List ae->aa->R}(h:∀b,dT (k b)):dT λhp=>A6 v λb=>k b hp:=by
 cases v<;>first|exact h _|exact no
end dT
def HM {co:dS}(hc:lR co=.pure)(fr:Fr):dT (aC co fr):=by
 cases co
 case len s x =>
  cases s
  case map=>cases hc
  case len n=>exact .val _
  case str=>exact .Yj λ_=>.val _
  case slice=>exact .KN (.val _) λ_ _ _ _ _=>.val _
 case mv x=>exact .val _
 case pick a b c=>exact .aah λ_=>.val _
 case build z ps=>exact .sq λ_=>.val _
 case nilCheck x =>
  show dT (I.nilCheck x fr);unfold I.nilCheck;cases aJ x fr<;>first|exact .val _|exact .no
 case bin op q x y=>exact .sq λ_=>.val _
 case not x=>exact .aah λ_=>.val _
 case neg x=>exact .acV λ_ _=>.val _
 case px k x=>exact .acV λ_ _=>.val _
 case uc x=>exact .Yj λ_=>.val _
 case eP t x=>exact .val _
 case iu f a c=>exact .val _
 case nk x lo hi=>exact .Yj λ_=>.sq λ_=>.sq λ_=>.val _
 case ox n s x lo hi=>exact .ac0 λ_ _=>.sq λ_=>.sq λ_=>.val _
 case dh o x=>exact .ac0 λ_ _=>.val _
 case lV o x=>exact .X8 λ_=>.sq λ_=>.val _
 case mY o n x=>exact .X8 λ_=>.val _
 case nR l s x y=>exact .ac0 λ_ _=>.Uq λ_=>.ift (.val _) .no
 case kz s x y=>exact .KN .no λ_ _ _ _ _=>.Uq λ_=>.ift (.val _) .no
 case vM l s x y=>exact .X8 λ_=>.Uq λ_=>.ift (.sq λ_=>.val _) .no
 case vN l s x y=>exact .X8 λ_=>.Uq λ_=>.ift (.val _) .no
 case kh x y=>exact .Yj λ_=>.Uq λ_=>.sq λ_=>.val _
 case assert t z ok x=>exact .acU (.ift (.val _) .no) λ_ _=>.ift (.val _) (.ift (.val _) .no)
 case extract i x=>exact .ame λ_=>.sq λ_=>.val _
 case fk m l =>
  show dT (I.fk m l fr);unfold I.fk;cases jw l fr with
  |nil=>exact .no
  |cons x r=>exact .acV λ_ _=>.sq λ_=>.val _
 case dR x=>exact .KN (.val _) λ_ _ _ _ _=>.ift (.val _) .no
 all_goals cases hc
def Pp {co:dS}(hc:lR co=.pure){fr:Fr}{h:aa}{v:ae}{h1:aa}(hs:aC co fr h=some (v,h1)):h1=h/\∀h2,aC co fr h2=some (v,h2):=by
 obtain⟨g,hg⟩:=HM hc fr;rw[hg,av]at hs;obtain⟨v',h2,h3⟩:=hs;cases h3;exact⟨rfl,λtH=>by rw[hg,h2]⟩
def CZ {co:dS}(hc:lR co=.read){fr:Fr}{h:aa}{v:ae}{h1:aa}(hs:aC co fr h=some (v,h1)):h1=h:=by
 cases co
 case len s x =>
  cases s
  case map =>
   simp only[aC,I.len,jc,fK,qQJ,qQA]at hs;rcases hs with⟨_,_,rfl⟩|⟨_,_,_,_,_,_,rfl⟩<;>rfl
  all_goals cases hc
 case qR e n x lo hi mx =>
  have ar:aO _ none _=some (v,h1):=hs;rw[bq]at ar;split at ar
  .cases ar
  .rw[dI]at ar;simp only[av,qQJ,qQA]at ar;rcases ar with⟨_,_,_,_,_,_,_,_,rfl⟩|⟨_,_,_,_,_,_,_,_,_,_,_,_,_,_,_,rfl⟩<;>rfl
 case ct x =>
  simp only[aC,I.ct,cZ]at hs;obtain⟨b,off,hp,hs⟩:=hs;obtain⟨l,e,own,hb,hs⟩:=fw hs;simp only[av,aG,qQJ,qQA]at hs;obtain⟨_,_,_,_,rfl⟩:=hs;rfl
 case fJ n x =>
  simp only[aC,I.fJ,cZ]at hs;obtain⟨b,off,hp,hs⟩:=hs;obtain⟨l,e,own,hb,hs⟩:=fw hs;simp only[aG,qQJ,qQA]at hs;obtain⟨_,_,rfl⟩:=hs;rfl
 case lookup q z x k ok =>
  have ar:I.lookup q z x k ok fr h=some (v,h1):=hs;unfold I.lookup at ar;rw[av]at ar;obtain⟨es,_,ar⟩:=ar;rw[aG]at ar;obtain⟨_,ar⟩:=ar;rw[av]at ar;obtain⟨r,_,ar⟩:=ar;cases r<;>cases ar<;>rfl
 case entry x =>
  have ar:I.entry x fr h=some (v,h1):=hs;unfold I.entry at ar;rw[cZ]at ar;obtain⟨b,off,hp,ar⟩:=ar;rw[aG,qM]at ar;obtain⟨_,m,since,seen,th,hb,ar⟩:=ar;rw[av]at ar;obtain⟨m,rfl,ar⟩:=ar;rw[av]at ar;obtain⟨ri,wG,ar⟩:=ar;rw[fK]at ar;obtain⟨es,clock,hm,ar⟩:=ar;simp only[aG,av,qQJ,qQA]at ar;obtain⟨_,_,_,_,rfl⟩:=ar;rfl
 case dw x =>
  have ar:I.dw x fr h=some (v,h1):=hs;unfold I.dw at ar;rw[dI]at ar;rcases ar with⟨_,ar⟩|⟨b,off,n,c,ex,hp,ar⟩
  .cases ar;rfl
  .obtain⟨l,e,own,hb,ar⟩:=fw ar;simp only[aG,av,qQJ,qQA]at ar;obtain⟨_,_,_,_,rfl⟩:=ar;rfl
 all_goals cases hc
section
variable{E:Env}{P:Program}[Lay P]{ρ:Ren}{fr:Fr}{h:aa}{w:World}{a:Act}
def wJ (P:Program)[Lay P](s:Sem Next)(id:Nat)(ρ:Ren)(w:World)(v:ae)(ob:aE):Prop :=
 ∃v' d Ob k,(w.drawn<=d/\s.run P w=.ok (.value v') {w with drawn:=d,heap:=w.heap.push Ob}) /\
  ∀bn:Ren,ρ.le bn->bn id=some ⟨w.heap.size,0,k,mz⟩->V bn v v'/\pj P bn ⟨w.heap.size,0,k,mz⟩ ob (some Ob)
def wJ.mk {s:Sem Value}{id:Nat}{v:ae}{ob:aE}{v':Value}{d:Nat}{Ob:Obj}{k:Option (Nat×Nat)}(hr:s.run P w=.ok v' {w with drawn:=d,heap:=w.heap.push Ob})
 (h:∀bn:Ren,ρ.le bn->bn id=some ⟨w.heap.size,0,k,mz⟩->V bn v v'/\pj P bn ⟨w.heap.size,0,k,mz⟩ ob (some Ob)) (hd:w.drawn<=d:=by first|exact qQY _|exact qKL _ _|omega):wJ P (do pure (.value (<-s))) id ρ w v ob :=
 ⟨v',d,Ob,k,⟨hd,by simp[hr]⟩,h⟩
def IZ {l:List ae}{C:Array Value}{e:TypeId}(b:Nat)(hl:VL ρ l C.toList)(ic:∀x,x∈l->x.flat=true){bn:Ren}(hle:ρ.le bn):pj P bn ⟨b,0,none,mz⟩ (.cells l e) (some (.cells C e (0,0))):=by
 have hlen:=hl.length;refine⟨⟨C,(0,0),rfl,by simp at hlen ⊢;omega,λi v hi=>⟨ic v (qQK hi),?_⟩,λz x hz=>by cases hz⟩,λC' fz hC x _=>by cases hC;simp⟩;obtain⟨v',h1,h2⟩:=hl.get hi;exact⟨v',by simpa using h1,h2.mono hle⟩
def amo {bn:Ren}{n b:Nat}{k:Option (Nat×Nat)}(h:bn n=some ⟨b,0,k,mz⟩):V bn (.ptr n 0) (.pointer (some ⟨b,0,none⟩)):=by
 have:=V.ptr (o:=0) h;simpa using this
def ME {bn:Ren}{n b l c:Nat}{k:Option (Nat×Nat)}(h:bn n=some ⟨b,0,k,mz⟩)(hl:l<=c):V bn (.slice n 0 l c true) (.slice (some ⟨b,0,none⟩) l c):=by
 have:=V.slice (o:=0) (n:=l) (c:=c) (c':=c) (ex:=true) h hl (λ_=>rfl) (λh=>by cases h);simpa using this
def Mq {t:TypeId}{c:au}{x':Value}(hx:V ρ (aJ c fr) x'){v:ae}{h':aa}(hs:I.box t c fr h=some (v,h')) :
 ∃ob:aE,h'=h.push ob/\ob.own/\∀w,wJ P (do pure (.value (<-(do pure (.pointer (some (<-newVar t x'))):Sem Value)))) h.next ρ w v ob:=by
 obtain⟨l,hk,hl,ic⟩:=yY hx hs;simp only[qQJ,qQA]at hk;obtain⟨rfl,rfl⟩:=hk;refine⟨_,rfl,trivial,λw=>wJ.mk (v':=.pointer (some ⟨w.heap.size,0,none⟩)) (d:=w.drawn) (Ob:=.cells x'.cells t (0,0)) (k:=none) (by simp[newVar,newRow]) λbn hle hid=>?_⟩;exact⟨amo hid,IZ _ hl ic hle⟩
def AE (hE:bl E P){t:TypeId}{len:Nat}{parts:Array (Nat×Operand)}{o:Oper}{co:dS}{v:ae}{h':aa}(ho:o.op=.buildSlice t len parts)(hc:iJ E (.buildSlice t len parts)=some co)(hf:FR ρ fr a.tmps)
 (hs:aC co fr h=some (v,h')):∃ob:aE,h'=h.push ob/\ob.own/\∀w,wJ P (execOp a.eval o) h.next ρ w v ob:=by
 simp only[iJ,qQV,qQQ]at hc;obtain⟨d,hd,hc⟩:=hc;split at hc
 case h_2=>cases hc
 rename_i elem;simp only[qQQ]at hc;obtain⟨z,hz,ps,J5,hc⟩:=hc;split at hc
 case isFalse=>cases hc
 rename_i hle;cases hc;obtain⟨zv,hr,iq,ny,hv,ic,hlen⟩:=hE.lG hz;have ar:ob (iT (I.fE ps fr) (sy len z.1)) (λl=>some (.slice h.next 0 len len true,h.push (.cells l elem)))=some (v,h'):=hs;rw[av,zd]at ar;obtain⟨l,hl,he⟩:=ar;simp only[qQJ,qQA]at he;obtain⟨rfl,rfl⟩:=he;obtain⟨q,q1,q2,q3⟩:=lX hf J5;obtain⟨l',e1,e2,e3⟩:=qm (place:=λi=>some (i*z.2,z.2)) ⟨q,q1,q2,q3⟩ (sO (hv ρ) len z.2 hlen) (qU ic len) hl;unfold execOp;rw[ho];refine⟨_,rfl,trivial,λw=>wJ.mk (v':=.slice (some ⟨w.heap.size,0,none⟩) len len) (d:=w.drawn) (Ob:=.cells l' elem (0,0)) (k:=none) ?_ λbn iN hid=>⟨ME hid (qQY _),IZ _ e2 e3 iN⟩⟩;unfold Instr.buildSlice;simp only[Sem.run_bind,hE.bz hd,Result.andThen_ok,iq]
 rw[if_neg (by have:(2:Nat)^20<=2^24:=by decide
               omega)]
 by_cases h0:len*z.2=0
 .rw[if_pos h0];have e4:(Array.range (len*z.2)).map (λi=>zv.cells[i % zv.cells.size]!)=(Array.range (len*z.2)).map (λi=>(#[]:Array Value)[i % (#[]:Array Value).size]!):=by rw[h0];simp
  rw[e4]at e1;simp only[Sem.run_bind,Sem.run_pure,Result.andThen_ok,e1,newRow,run_newObj]
 .rw[if_neg h0];simp only[Sem.run_bind,Sem.run_pure,Result.andThen_ok,hr,e1,newRow,run_newObj]
def Cb (hE:bl E P){t:TypeId}{x y:Operand}{o:Oper}{co:dS}{v:ae}{h':aa}(ho:o.op=.makeSlice t x y)(hc:iJ E (.makeSlice t x y)=some co)(hf:FR ρ fr a.tmps)
 (hs:aC co fr h=some (v,h')):∃ob:aE,h'=h.push ob/\ob.own/\∀w,wJ P (execOp a.eval o) h.next ρ w v ob:=by
 simp only[iJ,qQV,qQQ]at hc;obtain⟨d,hd,hc⟩:=hc;split at hc
 case h_2=>cases hc
 rename_i elem;simp only[qQQ]at hc;obtain⟨z,hz,i,hi,cx,hx,cy,hy,hc⟩:=hc;cases hc;obtain⟨zv,hr,iq,ny,hv,ic,hlen⟩:=hE.lG hz;simp only[aC,I.mkSlice,eV,aG,qQJ,qQA]at hs;obtain⟨k1,l,h1,k2,c,h2,hle,rfl,rfl⟩:=hs;simp only[qZQ,qZB]at hle;obtain⟨bh,aS,cQ⟩:=hle;have vH:c*i.bytes<=1073741824:=aS;have e1:=kV (aB hf hx) h1;have e2:=kV (aB hf hy) h2;have qz:execOp a.eval o=(do pure (.value (<-Instr.makeSlice t (a.eval x) (a.eval y)))):=by unfold execOp;rw[ho]
 rw[qz,e1,e2,zd];have wl:IntKind.i64.wrap (l:Int)=l:=qT (by omega);have wc:IntKind.i64.wrap (c:Int)=c:=qT (by omega);have sa:=hE.info _ _ hi
 refine⟨_,rfl,trivial,λw=>wJ.mk (v':=.slice (some ⟨w.heap.size,0,none⟩) l c) (d:=w.drawn) (Ob:=.cells ((Array.range (c*z.2)).map (zv.cells[· % zv.cells.size]!)) elem (0,0)) (k:=none) ?_
  λbn iN hid=>⟨ME hid bh,IZ _ (sO (hv ρ) c z.2 hlen) (qU ic c) iN⟩⟩
 unfold Instr.makeSlice;simp only[Sem.run_bind,hE.bz hd,Result.andThen_ok,asInt,asIntOf,Sem.run_pure,typeInfo,run_program,sa,wl,wc]
 have Md:∀n:Nat,n<=c->¬((decide ((n:Int)<0) || decide ((i.bytes:Int)*(n:Int) > 2 ^ 48))=true):=by
  intro n hn;have h3:i.bytes*n<=c*i.bytes:=by rw[Nat.mul_comm c];exact Nat.mul_le_mul_left _ hn
  have h4:((i.bytes*n:Nat):Int)<=1073741824:=by omega
  rw[Int.natCast_mul]at h4;simp only[qKC,decide_eq_true_eq];omega
 have hc0:((decide ((c:Int)<0) || decide ((i.bytes:Int)*(c:Int) > 2 ^ 48)))=false:=by simpa using Md c (qQY _)
 rw[if_neg (by simp only[hc0];simp;omega)];simp only[qWJ,run_askRoom,Sem.run_bind,Result.andThen_ok,iq];by_cases h0:c*z.2=0
 .rw[if_pos h0];simp only[Sem.run_pure,Result.andThen_ok,newRow,Sem.run_bind,run_newObj];congr 2;have e0:Array.range 0=#[]:=rfl;rw[h0,e0];simp only[Array.map_empty]
 .rw[if_neg h0];simp only[Sem.run_pure,Sem.run_bind,hr,Result.andThen_ok,newRow,run_newObj]
def Hu {t:TypeId}{o:Oper}{v:ae}{h':aa}(ho:o.op=.makeMap t none)(hs:aC .mkMap fr h=some (v,h')) :
 ∃ob:aE,h'=h.push ob/\ob.own/\∀w,wJ P (execOp a.eval o) h.next ρ w v ob:=by
 simp only[aC,I.mkMap,qQJ,qQA]at hs;obtain⟨rfl,rfl⟩:=hs;have qz:execOp a.eval o=(do pure (.value (<-Instr.makeMap t none))):=by unfold execOp;rw[ho];rfl
 rw[qz];exact⟨_,rfl,trivial,λw=>wJ.mk (v':=.map (some w.heap.size)) (d:=w.drawn) (Ob:=.map #[] 0) (k:=none) rfl λbn hle hid=>⟨.map hid,rfl,#[],rfl,.nil⟩⟩
def Em (hE:bl E P){e:TypeId}{c:au}{x':Value}(hx:V ρ (aJ c fr) x')(h1:E.size e=some 1){v:ae}{h':aa}(hs:I.dQ e c fr h=some (v,h')) :
 ∃bs,x'=.string bs/\∃ob:aE,h'=h.push ob/\ob.own/\∀w,wJ P (do pure (.value (<-Conv.stringToBytes e bs))) h.next ρ w v ob:=by
 simp only[I.dQ,fB,qQJ,qQA,bV]at hs;obtain⟨n,hb,rfl,rfl⟩:=hs;rw[hb]at hx;obtain⟨bs,rfl,wD⟩:=hx.kq;have hlen:n.length=bs.size:=by rw[<-wD];simp
 refine⟨bs,rfl,_,rfl,trivial,λw=>?_⟩
 let t:=w.tape w.drawn (.appendCap bs.size 0 e)
 let cap:=bs.size+t % (2 ^ 63-bs.size)
 let C:Array Value:=bs.data.map (λb=>Value.int .u8 b.toNat)++Array.replicate (cap-bs.size) (.int .u8 0)
 have hC:C.size=cap:=by simp[C,cap]
 have lL:bs.size<=cap:=by simp[cap]
 refine wJ.mk (v':=.slice (some ⟨w.heap.size,0,none⟩) bs.size cap) (d:=w.drawn+1) (Ob:=.cells C e (C.size,C.size+1)) (k:=some (1,cap)) ?_ λbn hle hid=>⟨?_,?_⟩
 .simp only[Conv.stringToBytes,Sem.run_bind,run_choose,Question.forced,qZJ,if_false,Result.andThen_ok,newRow,run_newObj,Sem.run_pure,markStringish,run_shape];have Tt:({w with drawn:=w.drawn+1,heap:=w.heap.push (.cells C e (0,0))}:World).shape? w.heap.size=some (e,C.size):=by simp[World.shape?]
  have e1:(Question.appendCap bs.size 0 e).cut (w.tape w.drawn (.appendCap bs.size 0 e))=cap:=rfl;rw[e1];have e2:bs.data.map (λb=>Value.int .u8 b.toNat)++Array.replicate (cap-bs.size) (.int .u8 0)=C:=rfl;rw[e2];rw[show((({w with drawn:=w.drawn+1,heap:=w.heap.push (Obj.cells C e (0,0))}:World).shape? w.heap.size))=some (e,C.size) from Tt];simp only[run_freeze,Result.andThen_ok,World.freeze];rw[if_neg (by decide)];congr 1;congr 1;rw[yg];simp
 .have:=V.slice (ρ:=bn) (o:=0) (n:=bs.size) (c:=bs.size) (c':=cap) (ex:=false) hid (qQY _) (λh=>by cases h)
   (λ_=>⟨lL,1,cap,rfl,by omega⟩)
  rw[hlen];simpa using this
 .refine⟨⟨C,(C.size,C.size+1),rfl,?_,λi v hi=>?_,λz x VF=>?_⟩,λC' fz' hC' x hx=>by cases hC';simp;omega⟩
  .unfold ofBytes;rw[gq];simp;omega
  .unfold ofBytes at hi;rw[gq,qQX,qQC]at hi;obtain⟨m,hm,rfl⟩:=hi;rw[<-wD,qQX,qQC]at hm;obtain⟨b,vC,rfl⟩:=hm;refine⟨rfl,.int .u8 b.toNat,?_,.int _ _⟩
   have dL:i<bs.data.size:=by
    have:=(qQZ.1 vC).1;simpa using this
   simp only[C];simp only[qWQ];rw[qKM (by simpa using dL)];simp at vC ⊢;exact⟨b,vC,rfl⟩
  .cases VF;exact⟨by show 0+cap<=C.size;omega,hE.cellsOf h1⟩
def OX (hE:bl E P){o:Oper}{co:dS}(hc:iJ E o.op=some co)(hn:lR co=.new)(hf:FR ρ fr a.tmps){v:ae}{h':aa}(hs:aC co fr h=some (v,h')) :
 ∃ob:aE,h'=h.push ob/\ob.own/\∀w,wJ P (execOp a.eval o) h.next ρ w v ob:=by
 cases nP:o.op
 case alloc t =>
  rw[nP]at hc;simp only[iJ,qQV,qQQ]at hc;obtain⟨z,hz,hc⟩:=hc;cases hc;obtain⟨zv,hr,hv⟩:=hE.zero hz;obtain⟨ob,h1,h2,h3⟩:=Mq (P:=P) (c:=.c z) (hv ρ) hs;refine⟨ob,h1,h2,λw=>?_⟩;obtain⟨v',d,Ob,k,⟨hd,h4⟩,h5⟩:=h3 w;refine⟨v',d,Ob,k,⟨hd,?_⟩,h5⟩;unfold execOp;rw[nP];simp only[Instr.alloc,Sem.run_bind,hr,Result.andThen_ok]at h4 ⊢;exact h4
 case box t x =>
  rw[nP]at hc;simp only[iJ,qQV,qQQ]at hc;obtain⟨c,hx,hc⟩:=hc;cases hc;unfold execOp;rw[nP];exact Mq (P:=P) (aB hf hx) hs
 case buildSlice t len parts =>
  rw[nP]at hc;exact AE hE nP hc hf hs
 case makeSlice t x y =>
  rw[nP]at hc;exact Cb hE nP hc hf hs
 case makeMap t r =>
  rw[nP]at hc;cases r with
  |none=>cases hc;exact Hu nP hs
  |some r=>cases hc
 case convert s d x =>
  rw[nP]at hc;simp only[iJ,qQV,qQQ]at hc;obtain⟨ds,hds,dd,yG,hc⟩:=hc;split at hc
  .simp only[qQQ]at hc;obtain⟨c,hx,hc⟩:=hc;cases hc;cases hn
  .simp only[qQQ]at hc;obtain⟨c,hx,hc⟩:=hc;cases hc;cases hn
  .simp only[qQQ]at hc;obtain⟨de,hde,hc⟩:=hc;split at hc
   case h_2=>cases hc
   split at hc
   case isFalse=>cases hc
   rename_i iq;simp only[qQQ]at hc;obtain⟨c,hx,hc⟩:=hc;cases hc;obtain⟨bs,hb,ob,h1,h2,h3⟩:=Em (P:=P) hE (aB hf hx) iq hs;refine⟨ob,h1,h2,λw=>?_⟩;obtain⟨v',dn,Ob,k,⟨Vx,h4⟩,h5⟩:=h3 w;refine⟨v',dn,Ob,k,⟨Vx,?_⟩,h5⟩;unfold execOp;rw[nP];simp only[convert,Sem.run_bind,λw=>hE.bz hds w,λw=>hE.bz yG w,λw=>hE.bz hde w,Result.andThen_ok,hb]at h4 ⊢;exact h4
  .simp only[qQQ]at hc;obtain⟨de,hde,hc⟩:=hc;split at hc
   case h_2=>cases hc
   simp only[qQQ]at hc;obtain⟨c,hx,hc⟩:=hc;cases hc;cases hn
  .cases hc
 case call c =>
  exfalso;rw[nP]at hc;cases tr:c.callee with
  |value x =>
   simp only[iJ,tr,qQV,qQQ]at hc;obtain⟨f',h1,as',h2,h3⟩:=hc;cases h3;cases hn
  |invoke r n =>
   simp only[iJ,tr,qQV,qQQ]at hc;obtain⟨f',h1,as',h2,h3⟩:=hc;cases h3;cases hn
  |builtin b =>
   simp only[iJ,tr]at hc;unfold mD at hc;revert hc
   repeat' split
   all_goals (intro hc)
   all_goals (try (unfold IV at hc))
   all_goals (try (unfold qh at hc))
   all_goals (try (unfold zq at hc))
   all_goals (try (unfold jN at hc))
   all_goals repeat' (first|(cases hc;cases hn;done)|(cases hc;done)|(obtain⟨_,_,hc⟩:=hc)|(simp only[qQV,qQQ]at hc)|split at hc)
 all_goals exfalso
 all_goals (rw[nP]at hc)
 all_goals (unfold iJ at hc)
 all_goals repeat' (first|(cases ‹(_:Op)=_›;done)|(cases hc;cases hn;done)|(cases hc;done)|(cases ‹(_:Op)=Op.call _›;done)|(obtain⟨_,_,hc⟩:=hc)|(simp only[qQV,qQQ,qQC]at hc)|split at hc)
end
section
variable{pre:Array Nat}{cops:List aQ}{n:Nat}
structure Di (pre:Array Nat)(cops:List aQ)(L:List aP)(s:aP):Prop where
 op:cops[s.i]?=some s.o
 cls:s.cls=lR s.o.op
 new:∀t,t∈L->t.i≠s.i
 prd:∀j,(pre.getD s.i 0).testBit j=true->∃t,t∈L/\t.i=j
 ord:s.cls=.read\/s.cls=.wr->∀t,t∈L->t.cls=.new\/t.cls=.wr->(pre.getD s.i 0).testBit t.i=true
 re:s.cls=.wr->∀t,t∈L->t.cls=.read->(pre.getD s.i 0).testBit t.i=true\/t.o∈s.re
def fm (a i j:Nat):(a ||| 2 ^ i).testBit j=(a.testBit j || decide (i=j)):=by
 rw[Nat.testBit_or,Nat.testBit_two_pow]
def QM {a b:Nat}(h:(a &&& b != a)=false)(j:Nat)(hj:a.testBit j=true):b.testBit j=true:=by
 have h':a &&& b=a:=by simpa using h
 have:=congrArg (λx=>x.testBit j) h';simp only[Nat.testBit_and,hj,Bool.true_and]at this;exact this
def UT:∀(ma:List Nat)(L0:List aP)(done nw w:Nat)(reads:List (Nat×aQ)){l:List aP},
 (∀j,done.testBit j=true↔∃t,t∈L0/\t.i=j)->(∀j,(∃t,t∈L0/\t.i=j/\(t.cls=.new\/t.cls=.wr))->nw.testBit j=true)->(∀t,t∈L0->t.cls=.read->(t.i,t.o)∈reads) ->
 steps pre cops n ma done nw w reads=some l->(∀L s R,l=L++s :: R->Di pre cops (L0++L) s)/\(∀j,j<n->∃t,t∈L0++l/\t.i=j):=by
 intro ma
 induction ma with
 |nil =>
  intro L0 done nw w reads l h1 h2 h3 hs;unfold steps at hs;split at hs
  case isFalse=>cases hs
  rename_i hd;cases hs;refine⟨λL s R e=>by simp at e,λj hj=>?_⟩;have:done.testBit j=true:=by rw[hd,Nat.testBit_two_pow_sub_one];simpa using hj
  simpa using(h1 j).1 this
 |cons j ma ih =>
  intro L0 done nw w reads l h1 h2 h3 hs;unfold steps at hs;simp only[qQV,qQQ]at hs;obtain⟨o,ho,hs⟩:=hs;split at hs
  case isTrue=>cases hs
  rename_i r9;simp only[qKC,not_or,Bool.not_eq_true]at r9;obtain⟨Iy,uk⟩:=r9
  have fR:∀t,t∈L0->t.i≠j:=λt ht e=>by
   have:=(h1 j).2 ⟨t,ht,e⟩;rw[Iy]at this;cases this
  have yL:∀k,(pre.getD j 0).testBit k=true->∃t,t∈L0/\t.i=k:=λk hk=>(h1 k).1 (QM uk k hk)
  have key:∀(s:aP)(nw' w':Nat)(Bf:List (Nat×aQ))(l':List aP),s.i=j->s.o=o->Di pre cops L0 s ->
      (∀k,nw.testBit k=true->nw'.testBit k=true)->(s.cls=.new\/s.cls=.wr->nw'.testBit j=true)->(∀x,x∈reads->x∈Bf)->(s.cls=.read->(j,o)∈Bf) ->
      steps pre cops n ma (done ||| 2 ^ j) nw' w' Bf=some l'->(∀L t R,s :: l'=L++t :: R->Di pre cops (L0++L) t)/\(∀j,j<n->∃t,t∈L0++(s :: l')/\t.i=j):=by
   intro s nw' w' Bf l' XH hso kN k1 k2 k3 k4 ar
   obtain⟨g1,g2⟩:=ih (L0++[s]) (done ||| 2 ^ j) nw' w' Bf (l:=l') (λk=>by
    rw[fm,qKC,h1 k];constructor
    .rintro(⟨t,ht,e⟩|e)
     .exact⟨t,by simp[ht],e⟩
     .exact⟨s,by simp,by rw[XH];simpa using e⟩
    .rintro⟨t,ht,e⟩;rcases qQE.1 ht with ht|ht
     .exact .inl ⟨t,ht,e⟩
     .simp at ht;subst ht;right;rw[<-e,XH];simp)
    (λk=>by
     rintro⟨t,ht,e,hc⟩;rcases qQE.1 ht with ht|ht
     .exact k1 k (h2 k ⟨t,ht,e,hc⟩)
     .simp at ht;subst ht;rw[<-e,XH];exact k2 hc)
    (λt ht hc=>by
     rcases qQE.1 ht with ht|ht
     .exact k3 _ (h3 t ht hc)
     .simp at ht;subst ht;rw[XH,hso];exact k4 hc) ar
   refine⟨λL t R e=>?_,λj hj=>?_⟩
   .cases L with
    |nil =>
     simp only[List.nil_append,qJV]at e;obtain⟨rfl,_⟩:=e;simpa using kN
    |cons x L =>
     simp only[qVD,qJV]at e;obtain⟨rfl,e⟩:=e;have:=g1 L t R e;simpa using this
   .have:=g2 j hj;simpa using this
  have Z2:(nw &&& pre.getD j 0 != nw)=false->∀t,t∈L0->t.cls=.new\/t.cls=.wr->(pre.getD j 0).testBit t.i=true:=λhw t ht hc=>QM hw t.i (h2 t.i ⟨t,ht,rfl,hc⟩);split at hs
  .rename_i lM;simp only[qQQ]at hs;obtain⟨l',pf,hs⟩:=hs;cases hs;exact key ⟨o,j,.pure,[]⟩ nw w reads l' rfl rfl ⟨ho,lM.symm,fR,yL,(λh=>by rcases h with h|h<;>cases h),(λh=>by cases h)⟩ (λ_ h=>h) (λh=>by rcases h with h|h<;>cases h) (λ_ h=>h) (λh=>by cases h) pf
  .rename_i lM;split at hs
   case isTrue=>cases hs
   rename_i hw;simp only[qQQ]at hs;obtain⟨l',pf,hs⟩:=hs;cases hs;exact key ⟨o,j,.read,[]⟩ nw w ((j,o) :: reads) l' rfl rfl ⟨ho,lM.symm,fR,yL,(λ_=>Z2 (by simpa using hw)),(λh=>by cases h)⟩ (λ_ h=>h) (λh=>by rcases h with h|h<;>cases h) (λ_ h=>qZZ _ h) (λ_=>qKD) pf
  .rename_i lM;simp only[qQQ]at hs;obtain⟨l',pf,hs⟩:=hs;cases hs;exact key ⟨o,j,.new,[]⟩ (nw ||| 2 ^ j) w reads l' rfl rfl ⟨ho,lM.symm,fR,yL,(λh=>by rcases h with h|h<;>cases h),(λh=>by cases h)⟩ (λk h=>by rw[fm,h];rfl) (λ_=>by rw[fm];simp) (λ_ h=>h) (λh=>by cases h) pf
  .rename_i lM;split at hs
   case isTrue=>cases hs
   rename_i hw;simp only[qQQ]at hs;obtain⟨l',pf,hs⟩:=hs;cases hs;refine key ⟨o,j,.wr,(reads.filter λr=>!(pre.getD j 0).testBit r.1).map (·.2)⟩ (nw ||| 2 ^ j) (w ||| 2 ^ j) reads l' rfl rfl ⟨ho,lM.symm,fR,yL,(λ_=>Z2 (by simpa using hw)),(λ_ t ht hc=>?_)⟩ (λk h=>by rw[fm,h];rfl) (λ_=>by rw[fm];simp) (λ_ h=>h) (λh=>by cases h) pf;by_cases hb:(pre.getD j 0).testBit t.i=true
   .exact .inl hb
   .right;refine qQB.2 ⟨(t.i,t.o),qZM.2 ⟨h3 t ht hc,?_⟩,rfl⟩;simpa using hb
end
def Dr (acc:Array Nat)(o:Oper):Nat:=o.after.foldl (λs e=>if Region.binds .any e then s ||| 2 ^ e.on ||| acc.getD e.on 0 else s) 0
def mB (acc:Array Nat)(l:List Oper):Array Nat:=l.foldl (λacc o=>acc.push (Dr acc o)) acc
def wM (ops:Array Oper):Region.before ops=mB #[] ops.toList:=by
 unfold Region.before mB;rw[<-Array.foldl_toList];rfl
def sU:∀(l:List Oper)(acc:Array Nat)(i:Nat),i<acc.size->(mB acc l).getD i 0=acc.getD i 0
 |[],acc,i,h=>rfl
 |o :: l,acc,i,h=>by
  show(mB (acc.push (Dr acc o)) l).getD i 0=_;rw[sU l _ i (by simp;omega)];simp[qKW,Nat.ne_of_lt h]
def sV:∀(l:List Oper)(acc:Array Nat),(mB acc l).size=acc.size+l.length
 |[],acc=>rfl
 |o :: l,acc=>by
  show(mB (acc.push (Dr acc o)) l).size=_;rw[sV l];simp;omega
def rI (xs ys:List Oper)(acc:Array Nat):mB acc (xs++ys)=mB (mB acc xs) ys:=by
 unfold mB;rw[List.foldl_append]
def Gu (acc:Array Nat)(j:Nat):∀(es:List Edge)(s:Nat),(es.foldl (λs e=>if Region.binds .any e then s ||| 2 ^ e.on ||| acc.getD e.on 0 else s) s).testBit j=true ->
 s.testBit j=true\/∃e,e∈es/\Region.binds .any e=true/\(e.on=j\/(acc.getD e.on 0).testBit j=true)
 |[],s,h=>.inl h
 |e :: es,s,h=>by
  rw[List.foldl_cons]at h;rcases Gu acc j es _ h with h|⟨e',h1,h2⟩
  .split at h
   .rename_i hb;rw[Nat.testBit_or,qKC,fm,qKC]at h;rcases h with(h|h)|h
    .exact .inl h
    .exact .inr ⟨e,qKD,hb,.inl (by simpa using h)⟩
    .exact .inr ⟨e,qKD,hb,.inr h⟩
   .exact .inl h
  .exact .inr ⟨e',qZZ _ h1,h2⟩
def Ds {ops:Array Oper}{i:Nat}{o:Oper}(ho:ops[i]?=some o){j:Nat}(hj:((Region.before ops).getD i 0).testBit j=true) :
 ∃e,e∈o.after/\Region.binds .any e=true/\(e.on=j\/((Region.before ops).getD e.on 0).testBit j=true):=by
 have hl:ops.toList[i]?=some o:=by simpa using ho
 obtain⟨hi,hio⟩:=qQZ.1 hl
 have oI:ops.toList=ops.toList.take i++o :: ops.toList.drop (i+1):=by
  rw[<-hio,List.getElem_cons_drop,List.take_append_drop]
 have hlen:(ops.toList.take i).length=i:=by rw[qWL];omega
 have jG:(Region.before ops).getD i 0=Dr (mB #[] (ops.toList.take i)) o:=by
  rw[wM,oI,rI];show(mB ((mB #[] (ops.toList.take i)).push (Dr (mB #[] (ops.toList.take i)) o)) (ops.toList.drop (i+1))).getD i 0=_;have hs:(mB #[] (ops.toList.take i)).size=i:=by rw[sV,hlen];simp
  rw[sU _ _ _ (by simp[hs])];rw[<-oI,qZV,qKW,if_pos hs.symm];rfl
 rw[jG]at hj;unfold Dr at hj;rw[<-Array.foldl_toList]at hj;rcases Gu _ j _ _ hj with h|⟨e,h1,h2,h3⟩
 .simp at h
 .refine⟨e,by simpa using h1,h2,h3.imp id λh=>?_⟩;have hs:(mB #[] (ops.toList.take i)).size=i:=by rw[sV,hlen];simp
  have dL:e.on<(mB #[] (ops.toList.take i)).size:=by
   refine Nat.lt_of_not_le λhge=>?_;rw[qZV,Array.getElem?_eq_none hge]at h;simp at h
  have:(Region.before ops).getD e.on 0=(mB #[] (ops.toList.take i)).getD e.on 0:=by
   rw[wM]
   conv=>lhs;rw[oI,rI]
   exact sU _ _ _ dL
  rw[this];exact h
def Pu {ops:Array Oper}{listed:Array Bool}{i:Nat}(hr:i∈Region.ready .any ops listed)(kM:∀k,listed.getD k false=true->∀j,((Region.before ops).getD k 0).testBit j=true->listed.getD j false=true) :
 listed.getD i true=false/\(∃o,ops[i]?=some o)/\∀j,((Region.before ops).getD i 0).testBit j=true->listed.getD j false=true:=by
 obtain⟨h1,o,ho,h2⟩:=mem_ready.1 hr;refine⟨h1,⟨o,ho⟩,λj hj=>?_⟩;obtain⟨e,he,hb,ZE⟩:=Ds ho hj;have hl:=h2 e he hb;rcases ZE with rfl|ZE
 .exact hl
 .exact kM _ hl j ZE
section
variable{E:Env}{ao:b9}{base:Nat}{pre:Array Nat}{cops:List aQ}{n:Nat}
structure gE (pre:Array Nat)(cops:List aQ)(n:Nat)(l:List aP):Prop where
 ok:∀L s R,l=L++s :: R->Di pre cops L s
 all:∀j,j<n->∃t,t∈l/\t.i=j
 dst:∀t u,t∈l->u∈l->t.i≠u.i->∀d,t.o.dst=some d->u.o.dst≠some d
 look:∀t u,t∈l->u∈l->∀d,d∈t.o.looks->u.o.dst=some d->(pre.getD t.i 0).testBit u.i=true\/((pre.getD u.i 0).testBit t.i=true/\t.cls≠.read)
def jn {α:Type}{a:α}{l:List α}(h:a∈l):∃L R,l=L++a :: R:=List.append_of_mem h
def gE.at {l:List aP}(H:gE pre cops n l){t:aP}(ht:t∈l):cops[t.i]?=some t.o/\t.cls=lR t.o.op:=by
 obtain⟨L,R,e⟩:=jn ht;exact⟨(H.ok L t R e).op,(H.ok L t R e).cls⟩
def gE.before {l L R:List aP}{t:aP}(H:gE pre cops n l)(e:l=L++t :: R){u:aP}(hu:u∈L):u.i≠t.i:=(H.ok L t R e).new u hu
def gE.behind {l L R:List aP}{t:aP}(H:gE pre cops n l)(e:l=L++t :: R){u:aP}(hu:u∈R):u.i≠t.i:=by
 obtain⟨R1,R2,e2⟩:=jn hu;have:=(H.ok (L++t :: R1) u R2 (by rw[e,e2];simp)).new t (by simp);exact Ne.symm this
def gE.inj {l:List aP}(H:gE pre cops n l){t u:aP}(ht:t∈l)(hu:u∈l)(e:t.i=u.i):t=u:=by
 obtain⟨L,R,hl⟩:=jn ht;rw[hl]at hu;rcases qQE.1 hu with h|h
 .exact absurd e.symm (H.before hl h)
 .rcases qQF.1 h with h|h
  .exact h.symm
  .exact absurd e.symm (H.behind hl h)
def Po (ht:EV cops pre=true){ma:List Nat}{l:List aP}(hs:steps pre cops n ma 0 0 0 []=some l):gE pre cops n l:=by
 obtain⟨h1,h2⟩:=UT (pre:=pre) (cops:=cops) (n:=n) ma [] 0 0 0 [] (l:=l) (λj=>by simp) (λj=>by rintro⟨t,ht,_⟩;cases ht) (λt ht=>by cases ht) hs
 have hat:∀t,t∈l->cops[t.i]?=some t.o/\t.cls=lR t.o.op:=by
  intro t nQ;obtain⟨L,R,e⟩:=jn nQ;exact⟨(h1 L t R e).op,(h1 L t R e).cls⟩
 unfold EV at ht;simp only[qZQ,List.all_eq_true]at ht;obtain⟨ht1,ht2⟩:=ht;have eE:∀t,t∈l->(t.o,t.i)∈cops.zipIdx:=λt nQ=>List.mem_zipIdx_iff_getElem?.2 (hat t nQ).1;refine⟨λL s R e=>by simpa using h1 L s R e,λj hj=>by simpa using h2 j hj,?_,?_⟩
 .intro t u nQ J' dV d hd hu;have:=ht1 _ (eE t nQ) _ (eE u J');simp only[qKC]at this;rcases this with(h|h)|h
  .exact dV (by simpa using h)
  .rw[hd]at h;cases h
  .rw[hd,hu]at h;simp at h
 .intro t u nQ J' d hd hu;have:=ht2 _ (eE t nQ) d hd _ (eE u J');simp only[qKC,qZQ]at this;rcases this with(h|h)|h
  .rw[hu]at h;simp at h
  .exact .inl h
  .refine .inr ⟨h.1,?_⟩;rw[(hat t nQ).2];intro e;rw[e]at h;exact absurd h.2 (by decide)
theorem dU (s:aP)(l:List aP)(fr:Fr)(h:aa):bC E ao base (s :: l) fr h=ob (oq E ao base s fr h) λr=>bC E ao base l r.1 r.2:=rfl
def yT (L R:List aP):∀(fr:Fr)(h:aa){r:Fr×aa},bC E ao base (L++R) fr h=some r->∃dM h1,bC E ao base L fr h=some (dM,h1)/\bC E ao base R dM h1=some r:=by
 induction L with
 |nil=>intro fr h r hs;exact⟨fr,h,rfl,hs⟩
 |cons s L ih =>
  intro fr h r hs;rw[qVD,dU,av]at hs;obtain⟨⟨f1,h1⟩,tw,hs⟩:=hs;obtain⟨f2,h2,k1,k2⟩:=ih f1 h1 hs;exact⟨f2,h2,by rw[dU,tw];exact k1,k2⟩
def gJ {L R:List aP}:∀{fr:Fr}{h:aa}{dM:Fr}{h1:aa},bC E ao base L fr h=some (dM,h1)->bC E ao base (L++R) fr h=bC E ao base R dM h1:=by
 induction L with
 |nil=>intro fr h dM h1 hs;cases hs;rfl
 |cons s L ih =>
  intro fr h dM h1 hs;rw[dU,av]at hs;obtain⟨⟨f1,Iu⟩,tw,hs⟩:=hs;rw[qVD,dU,tw];exact ih hs
def ij {s:aP}{fr:Fr}{h:aa}{dM:Fr}{h1:aa}(hs:oq E ao base s fr h=some (dM,h1)) :
 ∃v hO,dM=dB s.o.dst fr v /\
  ((s.cls=.pure\/s.cls=.read)/\eA E ao s.o fr h=some (v,hO)/\h1=hO \/
   s.cls=.new/\eA E ao s.o fr ⟨base+s.i,h.t⟩=some (v,hO)/\h1=⟨h.next,hO.t⟩ \/
   s.cls=.wr/\eA E ao s.o fr h=some (v,hO)/\h1=hO/\ko s.re dM h1=true):=by
 obtain⟨o,i,cls,re⟩:=s;cases cls with
 |pure =>
  have ar:(ob (eA E ao o fr h) λr=>some (dB o.dst fr r.1,r.2))=some (dM,h1):=hs;rw[av]at ar;obtain⟨⟨v,hO⟩,h2,h3⟩:=ar;cases h3;exact⟨v,hO,rfl,.inl ⟨.inl rfl,h2,rfl⟩⟩
 |read =>
  have ar:(ob (eA E ao o fr h) λr=>some (dB o.dst fr r.1,r.2))=some (dM,h1):=hs;rw[av]at ar;obtain⟨⟨v,hO⟩,h2,h3⟩:=ar;cases h3;exact⟨v,hO,rfl,.inl ⟨.inr rfl,h2,rfl⟩⟩
 |new =>
  have ar:(ob (eA E ao o fr ⟨Nat.add base i,h.t⟩) λr=>some (dB o.dst fr r.1,(⟨h.next,r.2.t⟩:aa)))=some (dM,h1):=hs;rw[av]at ar;obtain⟨⟨v,hO⟩,h2,h3⟩:=ar;cases h3;exact⟨v,hO,rfl,.inr (.inl ⟨rfl,h2,rfl⟩)⟩
 |wr =>
  have ar:(ob (eA E ao o fr h) λr=>aO (ko re (dB o.dst fr r.1) r.2) (some (dB o.dst fr r.1,r.2)) none)=some (dM,h1):=hs;rw[av]at ar;obtain⟨⟨v,hO⟩,h2,h3⟩:=ar;rw[aG]at h3;obtain⟨h4,h3⟩:=h3;cases h3;exact⟨v,hO,rfl,.inr (.inr ⟨rfl,h2,rfl,h4⟩)⟩
def Mz {d:Option Nat}{fr:Fr}{v:ae}{k:Nat}(h:d≠some k):(dB d fr v).get k=fr.get k:=by
 cases d with
 |none=>rfl
 |some d=>exact T.cY _ _ (λe=>h (by rw[e]))
def xL {fr:Fr}{v:ae}{k:Nat}:(dB (some k) fr v).get k=some v:=T.get_set_same _ _ _
def jh {L:List aP}:∀{fr:Fr}{h:aa}{dM:Fr}{h1:aa},bC E ao base L fr h=some (dM,h1)->∀{d:Nat},(∀t,t∈L->t.o.dst≠some d)->dM.get d=fr.get d:=by
 induction L with
 |nil=>intro fr h dM h1 hs d _;cases hs;rfl
 |cons s L ih =>
  intro fr h dM h1 hs d hd;rw[dU,av]at hs;obtain⟨⟨f1,Iu⟩,tw,hs⟩:=hs;rw[ih hs (λt ht=>hd t (qZZ _ ht))];obtain⟨v,hO,e,_⟩:=ij tw;show f1.get d=_;rw[e];exact Mz (hd s qKD)
def su {l L R:List aP}(H:gE pre cops n l)(e:l=L++R){ez dM bP:Fr}{h0 h1 h':aa}(hL:bC E ao base L ez h0=some (dM,h1))(hR:bC E ao base R dM h1=some (bP,h'))(d:Nat) :
 ((∃t,t∈L/\t.o.dst=some d)->dM.get d=bP.get d)/\((¬∃t,t∈L/\t.o.dst=some d)->dM.get d=ez.get d):=by
 refine⟨λ⟨t,ht,hd⟩=>?_,λnN=>jh hL λt ht hd=>nN ⟨t,ht,hd⟩⟩
 symm
 refine jh hR λu hu=>?_;have nQ:t∈l:=by rw[e];simp[ht]
 have J':u∈l:=by rw[e];simp[hu]
 have dV:t.i≠u.i:=by
  obtain⟨L1,L2,e1⟩:=jn ht;have el:l=L1++t :: (L2++R):=by rw[e,e1];simp
  exact Ne.symm (H.behind el (by simp[hu]))
 exact H.dst t u nQ J' dV d hd
end
section
variable{E:Env}{P:Program}[Lay P]{K:cu}{W0:World}{ρ:Ren}{h:aa}{w:World}
def Ub {co:dS}(hc:lR co=.new){fr:Fr}{v:ae}{h1:aa}(hs:aC co fr h=some (v,h1)):∃ob:aE,h1=h.push ob/\ob.own:=by
 cases co
 case box t x =>
  have ar:fM (aJ x fr) (λc=>some (ae.ptr h.next 0,h.push (.cells c t)))=some (v,h1):=hs;rcases sr.1 ar with⟨l,_,hk⟩|⟨_,hk⟩<;>cases hk<;>exact⟨_,rfl,trivial⟩
 case buildSlice e n z ps =>
  have ar:ob (iT (I.fE ps fr) (sy n z)) (λl=>some (ae.slice h.next 0 n n true,h.push (.cells l e)))=some (v,h1):=hs;rw[av]at ar;obtain⟨l,_,hk⟩:=ar;cases hk;exact⟨_,rfl,trivial⟩
 case mkSlice e z b x y =>
  simp only[aC,I.mkSlice,eV,aG,qQJ,qQA]at hs;obtain⟨_,_,_,_,_,_,_,_,rfl⟩:=hs;exact⟨_,rfl,trivial⟩
 case mkMap=>cases hs;exact⟨_,rfl,trivial⟩
 case dQ e x =>
  simp only[aC,I.dQ,fB,qQJ,qQA]at hs;obtain⟨_,_,_,rfl⟩:=hs;exact⟨_,rfl,trivial⟩
 case len s x=>cases s<;>cases hc
 all_goals cases hc
def vY {ao:b9}{co:dS}(hc:lR co≠.wr):Pg E ao co=aC co:=by
 refine xC (λf as e=>?_) (λf n as e=>?_)<;>(subst e;exact hc rfl)
def uK {ao:b9}{o:aQ}(hc:lR o.op=.pure){fr:Fr}{v:ae}{h1:aa}(hs:eA E ao o fr h=some (v,h1)):h1=h/\∀h2,eA E ao o fr h2=some (v,h2):=by
 unfold eA at hs ⊢;rw[vY (by rw[hc];decide)]at hs ⊢;cases hg:bj o.guard fr with
 |true =>
  rw[hg]at hs;obtain⟨e,h2⟩:=Pp hc (show aC o.op fr h=some (v,h1) from hs);exact⟨e,λh'=>h2 h'⟩
 |false=>rw[hg]at hs;cases hs;exact⟨rfl,λ_=>rfl⟩
def uL {ao:b9}{o:aQ}(hc:lR o.op=.read){fr:Fr}{v:ae}{h1:aa}(hs:eA E ao o fr h=some (v,h1)):h1=h:=by
 unfold eA at hs;rw[vY (by rw[hc];decide)]at hs;cases hg:bj o.guard fr with
 |true=>rw[hg]at hs;exact CZ hc (show aC o.op fr h=some (v,h1) from hs)
 |false=>rw[hg]at hs;cases hs;rfl
def xM {ao:b9}{o:aQ}(hc:lR o.op=.new){fr:Fr}{v:ae}{h1:aa}(hs:eA E ao o fr h=some (v,h1)) :
 (bj o.guard fr=false/\v=aT/\h1=h)\/(bj o.guard fr=true/\aC o.op fr h=some (v,h1)/\∃ob:aE,h1=h.push ob/\ob.own):=by
 unfold eA at hs;rw[vY (by rw[hc];decide)]at hs;cases hg:bj o.guard fr with
 |true=>rw[hg]at hs;exact .inr ⟨rfl,hs,Ub hc (show aC o.op fr h=some (v,h1) from hs)⟩
 |false=>rw[hg]at hs;cases hs;exact .inl ⟨rfl,rfl,rfl⟩
def WR.aaE (H:WR P K W0 ρ h w){h':aa}{n:Nat}{o:aE}{r:RB}(hr:ρ n=some r)(jx:h'.get n=some o)(dV:∀m,m≠n->h'.get m=h.get m)
 (ra:h'.next=h.next) (hk:¬K r.b) (tI:∀m p s,h.get m=some p->p.live->ρ m=some s->s.b≠r.b) (ho:pj P ρ r o (w.heap[r.b]?)):WR P K W0 ρ h' w:=by
 refine⟨H.os,H.tape,H.output,H.size,H.yP,H.eN,λm hm=>?_,λm p hm hl=>?_,λm m' p p' s s' hm hl E' pf hs ar e=>?_,by rw[ra];exact H.nx,H.fL,H.gk,λm p s hm hl hs hg=>?_,H.lay⟩
 .rw[ra]at hm;have h1:=H.fresh m hm;have GI:m≠n:=λe=>by rw[e,hr]at h1;cases h1.1
  exact⟨h1.1,by rw[dV _ GI];exact h1.2⟩
 .by_cases e:m=n
  .subst e;rw[jx]at hm;cases hm;exact⟨r,hr,λ_=>hk,ho⟩
  .rw[dV _ e]at hm;exact H.obj m p hm hl
 .by_cases e1:m=n
  .by_cases e2:m'=n
   .omega
   .subst e1;rw[dV _ e2] at E';rw[hr]at hs;cases hs;exact(tI m' p' s' E' pf ar e.symm).elim
  .rw[dV _ e1]at hm;by_cases e2:m'=n
   .subst e2;rw[hr]at ar;cases ar;exact(tI m p s hm hl.live hs e).elim
   .rw[dV _ e2] at E';exact H.inj _ _ _ _ _ _ hm hl E' pf hs ar e
 .by_cases e1:m=n
  .subst e1;rw[hr]at hs;cases hs;exact hk (H.gk _ hg)
  .rw[dV _ e1]at hm;exact H.hid _ _ _ hm hl hs hg
def WR.forget (H:WR P K W0 ρ h w){h':aa}(ra:h'.next=h.next)(qy:∀m o,h'.get m=some o->o.live->h.get m=some o)(x8:∀m,h.next<=m->h'.get m=none):WR P K W0 ρ h' w :=
 ⟨H.os,H.tape,H.output,H.size,H.yP,H.eN,λm hm=>⟨(H.fresh m (by omega)).1,x8 m (by omega)⟩,λm o hm hl=>H.obj m o (qy m o hm hl) hl,
   λm m' p p' s s' hm hl E' pf hs ar e=>H.inj _ _ _ _ _ _ (qy m p hm hl.live) hl (qy m' p' E' pf) pf hs ar e,by rw[ra];exact H.nx,H.fL,H.gk,λm o r hm hl hs hg=>H.hid _ _ _ (qy m o hm hl) hl hs hg,H.lay⟩
def WR.UG (H:WR P K W0 ρ h w){K':cu}{bn:Ren}{h':aa}{w':World}(H':WR P K' w bn h' w')(hk:∀b,K b->K' b)(hg:∀b,K.g b->K'.g b)(hn:K.n0<=K'.n0)(ru:∀n,n<K'.n0->K'.pY n=ρ n):WR P K W0 bn h' w' :=
 ⟨H'.os.trans H.os,H'.tape.trans H.tape,H'.output.trans H.output,qZC H.size H'.size,H.yP,λb hb=>(H'.eN b (hk b hb)).trans (H.eN b hb),H'.fresh,
  λm o hm hl=>let⟨r,h1,h2,h3⟩:=H'.obj m o hm hl;⟨r,h1,λho hkb=>h2 ho (hk _ hkb),h3⟩,H'.inj,qZC hn H'.nx,
  λn Fa=>by rw[H'.fL n (by omega),ru n (by omega)];exact H.fL n Fa,H.gk,λm o r hm hl hs Qf=>H'.hid m o r hm hl hs (hg _ Qf),H.lay⟩
def WR.MB (H:WR P K W0 ρ h w){n0:Nat}(hn:n0<=h.next){G:Nat->Prop}(hG:∀b,G b->b<w.heap.size)(tI:∀m p s,h.get m=some p->p.live->ρ m=some s->¬G s.b) :
 WR P ⟨λb=>K b\/G b,n0,ρ,λb=>K.g b\/G b⟩ w ρ h w :=
 ⟨rfl,IG.refl _ _ _,rfl,qQY _,λb hb=>hb.elim (λh=>qQG (H.yP b h) H.size) (hG b),λ_ _=>rfl,H.fresh,
  λm o hm hl=>let⟨r,h1,h2,h3⟩:=H.obj m o hm hl;⟨r,h1,λho hk=>hk.elim (h2 ho) (tI m o r hm hl h1),h3⟩,H.inj,hn,λ_ _=>rfl,
  λb hb=>hb.imp (H.gk b) id,λm o r hm hl hs hg=>hg.elim (H.hid m o r hm hl hs) (tI m o r hm hl hs),λb hl=>⟨.inl (H.lay b hl).1,by rw[H.eN b (H.lay b hl).1];exact(H.lay b hl).2⟩⟩
end
end Go.AX
