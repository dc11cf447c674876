/-
  strconv.Itoa at this program, and the executor with Itoa and alive taken by their contracts; no further conditions.
-/
import Derived.Shelf.Strconv.Itoa3
import Derived.Shelf.LaysM
import Derived.Test.YtfdnpjbmhoapcaaGreatDoorProg
import Derived.Test.YtfdnpjbmhoapcaaGreatDoorNar4
import Derived.Test.YtfdnpjbmhoapcaaGreatDoorNaw1
set_option linter.all false
set_option maxHeartbeats 32000000
namespace Go.Proofs
open Go.Shelf
def Tryz.Ed:Go.Shelf.Ren:=⟨λ| 171=>45|243=>67|246=>101|283=>128|284=>129|285=>130|286=>131|129=>89|317=>140|318=>141|319=>142|320=>143|337=>147|338=>148|n=>n,λ| 3=>3|9=>9|2=>2|4=>4|171=>240|0=>0|53=>201|37=>127|5=>5|173=>242|212=>258|51=>199|20=>20|213=>259|46=>165|232=>265|233=>266|n=>n,λ| 17=>2|18=>3|19=>4|n=>n⟩
def Tryz.TR:Go.Proofs.LaysM.n171 Tryz.prog Tryz.Ed:={
 mixed:=by kernel_rfl
 f129:=Tryz.func89.trans (congrArg some (by kernel_rfl))
 f171:=Tryz.func45.trans (congrArg some (by kernel_rfl))
 f243:=Tryz.func67.trans (congrArg some (by kernel_rfl))
 f246:=Tryz.func101.trans (congrArg some (by kernel_rfl))
 f283:=Tryz.func128.trans (congrArg some (by kernel_rfl))
 f284:=Tryz.func129.trans (congrArg some (by kernel_rfl))
 f285:=Tryz.func130.trans (congrArg some (by kernel_rfl))
 f286:=Tryz.func131.trans (congrArg some (by kernel_rfl))
 f317:=Tryz.func140.trans (congrArg some (by kernel_rfl))
 f318:=Tryz.func141.trans (congrArg some (by kernel_rfl))
 f319:=Tryz.func142.trans (congrArg some (by kernel_rfl))
 f320:=Tryz.func143.trans (congrArg some (by kernel_rfl))
 f337:=Tryz.func147.trans (congrArg some (by kernel_rfl))
 f338:=Tryz.func148.trans (congrArg some (by kernel_rfl))
 t0:=Tryz.underlying0
 a0:=Tryz.isAgg0
 z0:=Tryz.sizeOf0
 v0:=Tryz.zeroValue0
 t2:=Tryz.underlying2
 a2:=Tryz.isAgg2
 z2:=Tryz.sizeOf2
 v2:=Tryz.zeroValue2
 t3:=Tryz.underlying3
 a3:=Tryz.isAgg3
 z3:=Tryz.sizeOf3
 v3:=Tryz.zeroValue3
 t4:=Tryz.underlying4
 a4:=Tryz.isAgg4
 z4:=Tryz.sizeOf4
 v4:=Tryz.zeroValue4
 t5:=Tryz.underlying5
 a5:=Tryz.isAgg5
 z5:=Tryz.sizeOf5
 v5:=Tryz.zeroValue5
 t9:=Tryz.underlying9
 a9:=Tryz.isAgg9
 z9:=Tryz.sizeOf9
 v9:=Tryz.zeroValue9
 t20:=Tryz.underlying20
 a20:=Tryz.isAgg20
 z20:=Tryz.sizeOf20
 v20:=Tryz.zeroValue20
 t37:=Tryz.underlying127
 a37:=Tryz.isAgg127
 z37:=Tryz.sizeOf127
 v37:=Tryz.zeroValue127
 t46:=Tryz.underlying165
 a46:=Tryz.isAgg165
 z46:=Tryz.sizeOf165
 v46:=Tryz.zeroValue165
 t51:=Tryz.underlying199
 a51:=Tryz.isAgg199
 z51:=Tryz.sizeOf199
 v51:=Tryz.zeroValue199
 t53:=Tryz.underlying201
 a53:=Tryz.isAgg201
 z53:=Tryz.sizeOf201
 v53:=Tryz.zeroValue201
 t171:=Tryz.underlying240
 a171:=Tryz.isAgg240
 z171:=Tryz.sizeOf240
 v171:=Tryz.zeroValue240
 t173:=Tryz.underlying242
 a173:=Tryz.isAgg242
 z173:=Tryz.sizeOf242
 v173:=Tryz.zeroValue242
 t212:=Tryz.underlying258
 a212:=Tryz.isAgg258
 z212:=Tryz.sizeOf258
 v212:=Tryz.zeroValue258
 t213:=Tryz.underlying259
 a213:=Tryz.isAgg259
 z213:=Tryz.sizeOf259
 t232:=Tryz.underlying265
 a232:=Tryz.isAgg265
 z232:=Tryz.sizeOf265
 v232:=Tryz.zeroValue265
 t233:=Tryz.underlying266
 a233:=Tryz.isAgg266
 z233:=Tryz.sizeOf266
 v233:=Tryz.zeroValue266
 g17:=by kernel_rfl
 g18:=by kernel_rfl
 g19:=by kernel_rfl
 i0:=by kernel_rfl
 i2:=by kernel_rfl
 i3:=by kernel_rfl
 i4:=by kernel_rfl
 i5:=by kernel_rfl
 i9:=by kernel_rfl
 i20:=by kernel_rfl
 i37:=by kernel_rfl
 i46:=by kernel_rfl
 i51:=by kernel_rfl
 i53:=by kernel_rfl
 i171:=by kernel_rfl
 i173:=by kernel_rfl
 i212:=by kernel_rfl
 i232:=by kernel_rfl
 i233:=by kernel_rfl
 m17:=by kernel_rfl
 m18:=by kernel_rfl
 m19:=by kernel_rfl}
open Go.RowKit Go.Sort Go.Lib in
def Tryz.strconv_Itoa (n:Int)(h0:-9223372036854775808<=n)(h1:n<=9223372036854775807)(w:World)(alC:Lib.TabIs Tryz.prog w "internal/strconv.uint64pow10" .u64 Lib.pow10Tab) :
 Calls Tryz.prog 45 #[.int .i64 n] w λe w'=>e=.returned (.string ⟨(Lib.itoa n).toArray⟩)/\∃k os,w'=grow (w.drewN k) os:=Any.strconv_Itoa Tryz.TR n h0 h1 w alC
end Go.Proofs
namespace Go.AX
open Go Go.Proofs Go.RowKit
noncomputable section
def cE (n:Int):List Nat:=(Lib.itoa n).map UInt8.toNat
def sf (args:List ae)(h:aa):R:=match args with
 |[.int .i64 n]=>if -9223372036854775808<=n/\n<=9223372036854775807 then some (.str (cE n),h) else none
 |_=>none
def qa (args:List ae)(h:aa):R:=match args with
 |[]=>some (.bool true,h)
 |_=>none
section
variable{K:cu}{W0:World}{ρ:Ren}{h:aa}{w:World}
def Hd (H:WR Tryz.prog K W0 ρ h w):Laid w:=by
 obtain⟨hk,hl,_⟩:=H.lay 2 (show 2<=2 by omega);obtain⟨hk1,_,Xw⟩:=H.lay 0 (show 0<=2 by omega);obtain⟨hk2,_,Ad⟩:=H.lay 1 (show 1<=2 by omega);obtain⟨e,fz,hC⟩:=hl rfl;rw[<-H.eN 2 hk]at hC;obtain⟨te1,pe1,e1,f1,h1⟩:=Xw (by omega);rw[<-H.eN 0 hk1]at h1;obtain⟨te2,pe2,e2,f2,h2⟩:=Ad (by omega);rw[<-H.eN 1 hk2]at h2;exact⟨⟨e,fz,hC⟩,⟨te1,pe1,e1,f1,h1⟩,⟨te2,pe2,e2,f2,h2⟩⟩
def ajG:Tryz.prog.globalNamed "internal/strconv.uint64pow10" = some 2:=by kernel_rfl
def XW (H:WR Tryz.prog K W0 ρ h w):Lib.TabIs Tryz.prog w "internal/strconv.uint64pow10" .u64 Lib.pow10Tab:=by
 obtain⟨⟨e,fz,hC⟩,_,_⟩:=Hd H;unfold Lib.TabIs World.var?;rw[ajG];simp only[Option.bind_some,hC]
def WR.grow {P:Program}[Lay P](H:WR P K W0 ρ h w)(os:Array Obj):WR P K W0 ρ h (Sort.grow w os):=by
 obtain⟨l⟩:=os
 induction l generalizing w with
 |nil=>simpa using H
 |cons o l ih =>
  have h1:=ih (H.alloc o)
  have e:Sort.grow {w with heap:=w.heap.push o} ⟨l⟩=Sort.grow w ⟨o :: l⟩:=by
   unfold Sort.grow;congr 1;apply qKG;simp
  rw[e]at h1;exact h1
end
def XU:zg 45 (.fn sf):=by
 intro args h v h' hp;refine⟨⟨_,Tryz.func45,by kernel_rfl,by kernel_rfl⟩,λK W0 ρ w args' dG H=>?_⟩;have jz:sf args h=some (v,h'):=hp;unfold sf at jz;split at jz
 .rename_i n;split at jz
  .rename_i hn;cases jz;rw[s7 dG];refine(Tryz.strconv_Itoa n hn.1 hn.2 w (XW H)).mono ?_;rintro e w' ⟨rfl,k,os,rfl⟩;refine⟨_,ρ,rfl,Ren.le_refl _,.str ?_,?_⟩
   .simp[cE]
   .have h1:WR Tryz.prog K W0 ρ h (w.drewN k):=H.drawn _;exact h1.grow os
  .cases jz
 .cases jz
def QL:zg 5 (.fn qa):=by
 intro args h v h' hp;refine⟨⟨_,Tryz.func5,by kernel_rfl,by kernel_rfl⟩,λK W0 ρ w args' dG H=>?_⟩;have jz:qa args h=some (v,h'):=hp;unfold qa at jz;split at jz
 .cases jz
  have ha:args'=#[]:=by
   rcases args' with⟨al⟩;have h2:VL ρ [] al:=dG;cases h2;rfl
  subst ha;refine(IK w (Hd H)).mono ?_;rintro e w' ⟨rfl,hb⟩;refine⟨_,ρ,rfl,Ren.le_refl _,.bool true,?_⟩;refine⟨hb.os.trans H.os,⟨hb.tape.trans H.tape.tp,λx=>x.elim⟩,hb.output.trans H.output,qZC H.size hb.size,H.yP,λb hk=>?_,H.fresh,λn o hn hl=>?_,H.inj,H.nx,H.fL,H.gk,H.hid,H.lay⟩
  .rw[hb.block b (qQG (H.yP b hk) H.size)];exact H.eN b hk
  .obtain⟨r,hr,hk,ho⟩:=H.obj n o hn hl;refine⟨r,hr,hk,?_⟩;rw[hb.block _ (H.lt hn hl hr)];exact ho
 .cases jz
def adf:List (Nat×Prim):=[(66,.gg 133),(45,.fn sf),(5,.fn qa)]
def E2:Env:=⟨adf.foldl (λt p=>t.set p.1 p.2) .nil,tiT,Xa,eqT,plT⟩
def kr:bl E2 Tryz.prog:=Sv rfl rfl rfl
def adi:zh E2 Tryz.prog:=by
 refine Bc (L:=adf) rfl λf p yH=>?_;simp only[adf,qQF,qJK,or_false,qQA]at yH;rcases yH with⟨rfl,rfl⟩|⟨rfl,rfl⟩|⟨rfl,rfl⟩
 .exact λargs h v h' hp=>mG hp
 .exact XU
 .exact QL
def call2 (lf n:Nat):fC Tryz.prog (ba E2 lf n):=lY kr (vW rfl) adi lf n
def aI {f:FuncId}(h:f≠66/\f≠45/\f≠5):E2.uG.get f=none:=by
 show(((T.nil.set 66 (.gg 133)).set 45 (.fn sf)).set 5 (.fn qa):T Prim).get f=none;rw[T.cY _ _ (Ne.symm h.2.2),T.cY _ _ (Ne.symm h.2.1),T.cY _ _ (Ne.symm h.1),T.get_nil]
def UC:E2.uG.get 66=some (.gg 133):=by
 show(((T.nil.set 66 (.gg 133)).set 45 (.fn sf)).set 5 (.fn qa):T Prim).get 66=_;rw[T.cY _ _ (by omega),T.cY _ _ (by omega),T.get_set_same]
def xh (n:Int)(h:aa)(h0:-9223372036854775808<=n)(h1:n<=9223372036854775807):Ec E2 45 [.int .i64 n] h λv h'=>v=.str (cE n)/\h'=h:=by
 refine Ec.EC (p:=.fn sf) (v:=.str (cE n)) (h':=h) ?_ ?_ ⟨rfl,rfl⟩
 .show(((T.nil.set 66 (.gg 133)).set 45 (.fn sf)).set 5 (.fn qa):T Prim).get 45=_;rw[T.cY _ _ (by omega),T.get_set_same]
 .show sf [.int .i64 n] h=_;unfold sf;simp only;rw[if_pos ⟨h0,h1⟩]
def Lq (h:aa):Ec E2 5 [] h λv h'=>v=.bool true/\h'=h:=by
 refine Ec.EC (p:=.fn qa) (v:=.bool true) (h':=h) ?_ rfl ⟨rfl,rfl⟩;show(((T.nil.set 66 (.gg 133)).set 45 (.fn sf)).set 5 (.fn qa):T Prim).get 5=_;rw[T.get_set_same]
end
end Go.AX
