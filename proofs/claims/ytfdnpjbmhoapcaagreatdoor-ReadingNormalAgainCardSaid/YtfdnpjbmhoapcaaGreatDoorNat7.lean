/-
  Contracts of functions of this seat, for every input that each theorem names.
-/
import Derived.Shelf.SlSortCmp.WholeK
import Derived.Shelf.SlSortCmp.Whole1
import Derived.Shelf.SlicesG.Cmp
import Derived.Ground.SlsfProg
import Derived.Ground.SlgcProg
import Derived.Test.YtfdnpjbmhoapcaaGreatDoorProg
import Derived.Test.YtfdnpjbmhoapcaaGreatDoorNas1
set_option linter.all false
set_option maxHeartbeats 32000000
namespace Go.Proofs
open Go.Shelf
def Tryz.Uy:Go.Shelf.Ren:=⟨λ| 14=>77|20=>106|21=>107|22=>108|23=>109|24=>110|25=>111|26=>112|27=>113|46=>132|47=>116|48=>117|49=>133|50=>134|15=>60|57=>144|28=>88|29=>89|n=>n,λ| 24=>154|22=>102|3=>3|25=>156|4=>4|0=>0|46=>193|45=>192|50=>46|66=>226|39=>165|55=>201|70=>230|76=>247|77=>248|53=>199|5=>5|9=>9|n=>n,λ| n=>n⟩
def Tryz.aml:Go.Proofs.SlLaysF0.n14 Tryz.prog Tryz.Uy:={
 mixed:=by kernel_rfl
 f14:=⟨Tryz.f77.name,by decide,Tryz.func77.trans (congrArg some (by kernel_rfl))⟩
 f15:=Tryz.func60.trans (congrArg some (by kernel_rfl))
 f20:=⟨Tryz.f106.name,by decide,Tryz.func106.trans (congrArg some (by kernel_rfl))⟩
 f21:=⟨Tryz.f107.name,by decide,Tryz.func107.trans (congrArg some (by kernel_rfl))⟩
 f22:=⟨Tryz.f108.name,by decide,Tryz.func108.trans (congrArg some (by kernel_rfl))⟩
 f23:=⟨Tryz.f109.name,by decide,Tryz.func109.trans (congrArg some (by kernel_rfl))⟩
 f24:=⟨Tryz.f110.name,by decide,Tryz.func110.trans (congrArg some (by kernel_rfl))⟩
 f25:=⟨Tryz.f111.name,by decide,Tryz.func111.trans (congrArg some (by kernel_rfl))⟩
 f26:=⟨Tryz.f112.name,by decide,Tryz.func112.trans (congrArg some (by kernel_rfl))⟩
 f27:=⟨Tryz.f113.name,by decide,Tryz.func113.trans (congrArg some (by kernel_rfl))⟩
 f28:=Tryz.func88.trans (congrArg some (by kernel_rfl))
 f29:=Tryz.func89.trans (congrArg some (by kernel_rfl))
 f46:=⟨Tryz.f132.name,by decide,Tryz.func132.trans (congrArg some (by kernel_rfl))⟩
 f47:=Tryz.func116.trans (congrArg some (by kernel_rfl))
 f48:=Tryz.func117.trans (congrArg some (by kernel_rfl))
 f49:=⟨Tryz.f133.name,by decide,Tryz.func133.trans (congrArg some (by kernel_rfl))⟩
 f50:=⟨Tryz.f134.name,by decide,Tryz.func134.trans (congrArg some (by kernel_rfl))⟩
 f57:=⟨Tryz.f144.name,by decide,Tryz.func144.trans (congrArg some (by kernel_rfl))⟩
 t0:=Tryz.underlying0
 a0:=Tryz.isAgg0
 z0:=Tryz.sizeOf0
 v0:=Tryz.zeroValue0
 t3:=Tryz.underlying3
 a3:=Tryz.isAgg3
 z3:=Tryz.sizeOf3
 v3:=Tryz.zeroValue3
 t4:=Tryz.underlying4
 a4:=Tryz.isAgg4
 z4:=Tryz.sizeOf4
 v4:=Tryz.zeroValue4
 t5:=Tryz.underlying5
 a5:=Tryz.isAgg5
 z5:=Tryz.sizeOf5
 v5:=Tryz.zeroValue5
 t9:=Tryz.underlying9
 a9:=Tryz.isAgg9
 z9:=Tryz.sizeOf9
 v9:=Tryz.zeroValue9
 t22:=Tryz.underlying102
 a22:=Tryz.isAgg102
 z22:=Tryz.sizeOf102
 v22:=Tryz.zeroValue102
 t25:=Tryz.underlying156
 a25:=Tryz.isAgg156
 z25:=Tryz.sizeOf156
 v25:=Tryz.zeroValue156
 t39:=Tryz.underlying165
 a39:=Tryz.isAgg165
 z39:=Tryz.sizeOf165
 v39:=Tryz.zeroValue165
 t45:=Tryz.underlying192
 a45:=Tryz.isAgg192
 z45:=Tryz.sizeOf192
 v45:=Tryz.zeroValue192
 t46:=Tryz.underlying193
 a46:=Tryz.isAgg193
 z46:=Tryz.sizeOf193
 v46:=Tryz.zeroValue193
 t50:=Tryz.underlying46
 a50:=Tryz.isAgg46
 z50:=Tryz.sizeOf46
 v50:=Tryz.zeroValue46
 t53:=Tryz.underlying199
 a53:=Tryz.isAgg199
 z53:=Tryz.sizeOf199
 v53:=Tryz.zeroValue199
 t55:=Tryz.underlying201
 a55:=Tryz.isAgg201
 z55:=Tryz.sizeOf201
 v55:=Tryz.zeroValue201
 t66:=Tryz.underlying226
 a66:=Tryz.isAgg226
 z66:=Tryz.sizeOf226
 v66:=Tryz.zeroValue226
 t70:=Tryz.underlying230
 a70:=Tryz.isAgg230
 z70:=Tryz.sizeOf230
 v70:=Tryz.zeroValue230
 t76:=Tryz.underlying247
 a76:=Tryz.isAgg247
 z76:=Tryz.sizeOf247
 v76:=Tryz.zeroValue247
 t77:=Tryz.underlying248
 a77:=Tryz.isAgg248
 z77:=Tryz.sizeOf248
 v77:=Tryz.zeroValue248}
def Tryz.PL:Go.Shelf.Ren:=⟨λ| 6=>37|15=>60|14=>59|28=>88|29=>89|20=>80|21=>81|22=>82|23=>83|24=>84|25=>85|26=>86|27=>87|46=>115|47=>116|48=>117|49=>118|50=>119|57=>135|n=>n,λ| 22=>66|24=>3|25=>95|3=>3|39=>165|0=>0|53=>199|55=>201|4=>4|46=>193|45=>192|50=>46|5=>5|9=>9|66=>226|70=>230|76=>247|77=>248|n=>n,λ| n=>n⟩
def Tryz.ahG:Go.Proofs.SlLaysF.n6 Tryz.prog Tryz.PL:={
 mixed:=by kernel_rfl
 f6:=⟨Tryz.f37.name,by decide,Tryz.func37.trans (congrArg some (by kernel_rfl))⟩
 f14:=⟨Tryz.f59.name,by decide,Tryz.func59.trans (congrArg some (by kernel_rfl))⟩
 f15:=Tryz.func60.trans (congrArg some (by kernel_rfl))
 f20:=⟨Tryz.f80.name,by decide,Tryz.func80.trans (congrArg some (by kernel_rfl))⟩
 f21:=⟨Tryz.f81.name,by decide,Tryz.func81.trans (congrArg some (by kernel_rfl))⟩
 f22:=⟨Tryz.f82.name,by decide,Tryz.func82.trans (congrArg some (by kernel_rfl))⟩
 f23:=⟨Tryz.f83.name,by decide,Tryz.func83.trans (congrArg some (by kernel_rfl))⟩
 f24:=⟨Tryz.f84.name,by decide,Tryz.func84.trans (congrArg some (by kernel_rfl))⟩
 f25:=⟨Tryz.f85.name,by decide,Tryz.func85.trans (congrArg some (by kernel_rfl))⟩
 f26:=⟨Tryz.f86.name,by decide,Tryz.func86.trans (congrArg some (by kernel_rfl))⟩
 f27:=⟨Tryz.f87.name,by decide,Tryz.func87.trans (congrArg some (by kernel_rfl))⟩
 f28:=Tryz.func88.trans (congrArg some (by kernel_rfl))
 f29:=Tryz.func89.trans (congrArg some (by kernel_rfl))
 f46:=⟨Tryz.f115.name,by decide,Tryz.func115.trans (congrArg some (by kernel_rfl))⟩
 f47:=Tryz.func116.trans (congrArg some (by kernel_rfl))
 f48:=Tryz.func117.trans (congrArg some (by kernel_rfl))
 f49:=⟨Tryz.f118.name,by decide,Tryz.func118.trans (congrArg some (by kernel_rfl))⟩
 f50:=⟨Tryz.f119.name,by decide,Tryz.func119.trans (congrArg some (by kernel_rfl))⟩
 f57:=⟨Tryz.f135.name,by decide,Tryz.func135.trans (congrArg some (by kernel_rfl))⟩
 t0:=Tryz.underlying0
 a0:=Tryz.isAgg0
 z0:=Tryz.sizeOf0
 v0:=Tryz.zeroValue0
 t3:=Tryz.underlying3
 a3:=Tryz.isAgg3
 z3:=Tryz.sizeOf3
 v3:=Tryz.zeroValue3
 t4:=Tryz.underlying4
 a4:=Tryz.isAgg4
 z4:=Tryz.sizeOf4
 v4:=Tryz.zeroValue4
 t5:=Tryz.underlying5
 a5:=Tryz.isAgg5
 z5:=Tryz.sizeOf5
 v5:=Tryz.zeroValue5
 t9:=Tryz.underlying9
 a9:=Tryz.isAgg9
 z9:=Tryz.sizeOf9
 v9:=Tryz.zeroValue9
 t22:=Tryz.underlying66
 a22:=Tryz.isAgg66
 z22:=Tryz.sizeOf66
 v22:=Tryz.zeroValue66
 a24:=Tryz.isAgg3
 z24:=Tryz.sizeOf3
 t25:=Tryz.underlying95
 a25:=Tryz.isAgg95
 z25:=Tryz.sizeOf95
 v25:=Tryz.zeroValue95
 t39:=Tryz.underlying165
 a39:=Tryz.isAgg165
 z39:=Tryz.sizeOf165
 v39:=Tryz.zeroValue165
 t45:=Tryz.underlying192
 a45:=Tryz.isAgg192
 z45:=Tryz.sizeOf192
 v45:=Tryz.zeroValue192
 t46:=Tryz.underlying193
 a46:=Tryz.isAgg193
 z46:=Tryz.sizeOf193
 v46:=Tryz.zeroValue193
 t50:=Tryz.underlying46
 a50:=Tryz.isAgg46
 z50:=Tryz.sizeOf46
 v50:=Tryz.zeroValue46
 t53:=Tryz.underlying199
 a53:=Tryz.isAgg199
 z53:=Tryz.sizeOf199
 v53:=Tryz.zeroValue199
 t55:=Tryz.underlying201
 a55:=Tryz.isAgg201
 z55:=Tryz.sizeOf201
 v55:=Tryz.zeroValue201
 t66:=Tryz.underlying226
 a66:=Tryz.isAgg226
 z66:=Tryz.sizeOf226
 v66:=Tryz.zeroValue226
 t70:=Tryz.underlying230
 a70:=Tryz.isAgg230
 z70:=Tryz.sizeOf230
 v70:=Tryz.zeroValue230
 t76:=Tryz.underlying247
 a76:=Tryz.isAgg247
 z76:=Tryz.sizeOf247
 v76:=Tryz.zeroValue247
 t77:=Tryz.underlying248
 a77:=Tryz.isAgg248
 z77:=Tryz.sizeOf248
 v77:=Tryz.zeroValue248}
def Tryz.Dc:Go.Shelf.Ren:=⟨λ| 6=>40|15=>60|14=>62|28=>88|29=>89|20=>90|21=>91|22=>92|23=>93|24=>94|25=>95|26=>96|27=>97|46=>120|47=>116|48=>117|49=>121|50=>122|57=>136|n=>n,λ| 22=>22|24=>52|25=>54|3=>3|39=>165|0=>0|53=>199|55=>201|4=>4|46=>193|45=>192|50=>46|5=>5|9=>9|66=>226|70=>230|76=>247|77=>248|n=>n,λ| n=>n⟩
def Tryz.aau:Go.Proofs.SlLaysF0.n6 Tryz.prog Tryz.Dc:={
 mixed:=by kernel_rfl
 f6:=⟨Tryz.f40.name,by decide,Tryz.func40.trans (congrArg some (by kernel_rfl))⟩
 f14:=⟨Tryz.f62.name,by decide,Tryz.func62.trans (congrArg some (by kernel_rfl))⟩
 f15:=Tryz.func60.trans (congrArg some (by kernel_rfl))
 f20:=⟨Tryz.f90.name,by decide,Tryz.func90.trans (congrArg some (by kernel_rfl))⟩
 f21:=⟨Tryz.f91.name,by decide,Tryz.func91.trans (congrArg some (by kernel_rfl))⟩
 f22:=⟨Tryz.f92.name,by decide,Tryz.func92.trans (congrArg some (by kernel_rfl))⟩
 f23:=⟨Tryz.f93.name,by decide,Tryz.func93.trans (congrArg some (by kernel_rfl))⟩
 f24:=⟨Tryz.f94.name,by decide,Tryz.func94.trans (congrArg some (by kernel_rfl))⟩
 f25:=⟨Tryz.f95.name,by decide,Tryz.func95.trans (congrArg some (by kernel_rfl))⟩
 f26:=⟨Tryz.f96.name,by decide,Tryz.func96.trans (congrArg some (by kernel_rfl))⟩
 f27:=⟨Tryz.f97.name,by decide,Tryz.func97.trans (congrArg some (by kernel_rfl))⟩
 f28:=Tryz.func88.trans (congrArg some (by kernel_rfl))
 f29:=Tryz.func89.trans (congrArg some (by kernel_rfl))
 f46:=⟨Tryz.f120.name,by decide,Tryz.func120.trans (congrArg some (by kernel_rfl))⟩
 f47:=Tryz.func116.trans (congrArg some (by kernel_rfl))
 f48:=Tryz.func117.trans (congrArg some (by kernel_rfl))
 f49:=⟨Tryz.f121.name,by decide,Tryz.func121.trans (congrArg some (by kernel_rfl))⟩
 f50:=⟨Tryz.f122.name,by decide,Tryz.func122.trans (congrArg some (by kernel_rfl))⟩
 f57:=⟨Tryz.f136.name,by decide,Tryz.func136.trans (congrArg some (by kernel_rfl))⟩
 t0:=Tryz.underlying0
 a0:=Tryz.isAgg0
 z0:=Tryz.sizeOf0
 v0:=Tryz.zeroValue0
 t3:=Tryz.underlying3
 a3:=Tryz.isAgg3
 z3:=Tryz.sizeOf3
 v3:=Tryz.zeroValue3
 t4:=Tryz.underlying4
 a4:=Tryz.isAgg4
 z4:=Tryz.sizeOf4
 v4:=Tryz.zeroValue4
 t5:=Tryz.underlying5
 a5:=Tryz.isAgg5
 z5:=Tryz.sizeOf5
 v5:=Tryz.zeroValue5
 t9:=Tryz.underlying9
 a9:=Tryz.isAgg9
 z9:=Tryz.sizeOf9
 v9:=Tryz.zeroValue9
 t22:=Tryz.underlying22
 a22:=Tryz.isAgg22
 z22:=Tryz.sizeOf22
 v22:=Tryz.zeroValue22
 t25:=Tryz.underlying54
 a25:=Tryz.isAgg54
 z25:=Tryz.sizeOf54
 v25:=Tryz.zeroValue54
 t39:=Tryz.underlying165
 a39:=Tryz.isAgg165
 z39:=Tryz.sizeOf165
 v39:=Tryz.zeroValue165
 t45:=Tryz.underlying192
 a45:=Tryz.isAgg192
 z45:=Tryz.sizeOf192
 v45:=Tryz.zeroValue192
 t46:=Tryz.underlying193
 a46:=Tryz.isAgg193
 z46:=Tryz.sizeOf193
 v46:=Tryz.zeroValue193
 t50:=Tryz.underlying46
 a50:=Tryz.isAgg46
 z50:=Tryz.sizeOf46
 v50:=Tryz.zeroValue46
 t53:=Tryz.underlying199
 a53:=Tryz.isAgg199
 z53:=Tryz.sizeOf199
 v53:=Tryz.zeroValue199
 t55:=Tryz.underlying201
 a55:=Tryz.isAgg201
 z55:=Tryz.sizeOf201
 v55:=Tryz.zeroValue201
 t66:=Tryz.underlying226
 a66:=Tryz.isAgg226
 z66:=Tryz.sizeOf226
 v66:=Tryz.zeroValue226
 t70:=Tryz.underlying230
 a70:=Tryz.isAgg230
 z70:=Tryz.sizeOf230
 v70:=Tryz.zeroValue230
 t76:=Tryz.underlying247
 a76:=Tryz.isAgg247
 z76:=Tryz.sizeOf247
 v76:=Tryz.zeroValue247
 t77:=Tryz.underlying248
 a77:=Tryz.isAgg248
 z77:=Tryz.sizeOf248
 v77:=Tryz.zeroValue248}
def Tryz.Rw:Go.Shelf.Ren:=⟨λ| 5=>29|7=>51|n=>n,λ| 22=>3|3=>3|4=>4|n=>n,λ| n=>n⟩
def Tryz.ajl:Go.Proofs.SlLaysC2.n5 Tryz.prog Tryz.Rw:={
 mixed:=by kernel_rfl
 f5:=⟨Tryz.f29.name,by decide,Tryz.func29.trans (congrArg some (by kernel_rfl))⟩
 f7:=⟨Tryz.f51.name,by decide,Tryz.func51.trans (congrArg some (by kernel_rfl))⟩
 t3:=Tryz.underlying3
 a3:=Tryz.isAgg3
 z3:=Tryz.sizeOf3
 v3:=Tryz.zeroValue3
 t4:=Tryz.underlying4
 a4:=Tryz.isAgg4
 z4:=Tryz.sizeOf4
 v4:=Tryz.zeroValue4
 t22:=Tryz.underlying3
 a22:=Tryz.isAgg3
 z22:=Tryz.sizeOf3
 v22:=Tryz.zeroValue3}
end Go.Proofs
namespace Go.Proofs
open Go.Shelf Go.RowKit Go.Lib Go.Sort
def BU (x:Int×Int):List Value:=[.int .i64 x.1,.int .i64 x.2]
def Jc (x y:Int×Int)(W:World):Calls Tryz.prog 54 #[.agg #[.int .i64 x.1,.int .i64 x.2],.agg #[.int .i64 y.1,.int .i64 y.2]] W λe w'=>e=.returned (.int .i64 (Lib.compareInt x.1 y.1))/\∃q os',w'=grow (W.drewN q) os':=by
 have abI:=λW'=>AnyG.cmp_Compare_int Tryz.ajl x.1 y.1 W';change ∀W',Calls Tryz.prog 29 _ _ _ at abI;generalize Lib.compareInt x.1 y.1=r at abI ⊢
 go_enter Tryz.func54,Tryz.ntmps54
 go_wp2_with (go_at_call 29;refine(abI _).mono ?_;rintro e w' ⟨rfl,rfl⟩)
 go_ret
 exact⟨rfl,0,_,by rw[alloc_eq_grow,alloc_eq_grow,grow_grow];rfl⟩
def ltP (x y:Int×Int):ltOf (λx y:Int×Int=>Lib.compareInt x.1 y.1) x y=decide (x.1<y.1):=by
 unfold ltOf Lib.compareInt;by_cases h1:x.1<y.1
 .simp[h1]
 .by_cases h2:y.1<x.1<;>simp[h1,h2]
def ahI:SWO (ltOf λx y:Int×Int=>Lib.compareInt x.1 y.1) where
 irrefl x:=by rw[ltP];simp
 trans x y z h1 h2:=by rw[ltP] at *;simp at *;omega
 ntrans x y z h1 h2:=by rw[ltP] at *;simp at *;omega
set_option maxRecDepth 100000 in
def Ib (rm off cap:Nat)(d:Array (Int×Int))(w:World)(hH:HoldsK BU 2 w rm off d)(hblk:rm<w.heap.size)(iq:d.size<4611686018427387904) :
 Calls Tryz.prog 53 #[.slice (some ⟨rm,off,none⟩) d.size cap,.func (.func 54) #[] #[]] w λe w'=>e=.returned (.tuple #[])/\∃d' n os,PermIn 0 d.size d d'/\SortedIn (ltOf λx y:Int×Int=>Lib.compareInt x.1 y.1) 0 d.size d'/\w'=sortWorldK BU 2 w rm off n d' os:=by
 have eg:∀args w,(callFunc 54 args).run Tryz.prog w=.ok (.enter 54 args) w:=enters_of Tryz.func54 (by kernel_rfl) rfl;have hk:∀x,(BU x).length=2:=λ_=>rfl;have h1:∀x,∀v∈BU x,v.oneCell'=true:=λx v hv=>by simp[BU]at hv;rcases hv with rfl|rfl<;>rfl
 have akV:Lib.bitLen d.size<4611686018427387904:=Nat.lt_of_le_of_lt (Lib.bitLen_le d.size 62 (by omega) (by omega)) (by omega);have hp:=AnyQ.pdqsortCmpFunc_all Tryz.aml 2 Tryz.isAgg154 Tryz.sizeOf154 BU (λx y=>Lib.compareInt x.1 y.1) 54 #[] ahI rm off cap d w eg (λ_ _ _ _ x y=>Jc x y _) ⟨hk,h1,hH,hblk⟩ (d.size+1) 0 d.size (Lib.bitLen d.size) d w (by omega) rfl (SWK.start hH) (qZH _) (qQY _) iq akV (Or.inl rfl);change Calls Tryz.prog 77 _ _ _ at hp
 have hl:Calls Tryz.prog 60 #[.int .u64 (d.size:Int)] w λe w'=>e=.returned (.int .i64 (Lib.bitLen d.size:Nat))/\w'=w:=by
  have h:=Any.bits_Len (SlLaysF0.n15.bits (P:=Tryz.prog) (ρ:=Tryz.Dc) {Tryz.aau with}) (d.size:Int) w (by omega) (by omega)
  rwa [qWJ]at h
 have wr:IntKind.u64.wrap (d.size:Int)=d.size:=by simp[IntKind.wrap,IntKind.bits,IntKind.signed];omega
 have J5:=pdq_sorts (ltOf λx y:Int×Int=>Lib.compareInt x.1 y.1) ahI d 0 d.size (Lib.bitLen d.size) true true (qZH _) (qQY _) (Or.inl rfl);clear hH hk h1;generalize pdq (ltOf λx y:Int×Int=>Lib.compareInt x.1 y.1) d 0 d.size (Lib.bitLen d.size) true true=d' at hp J5
 go_enter Tryz.func53,Tryz.ntmps53
 go_wp2_with (first|(go_at_call 60;refine hl.mono ?_;rintro e w' ⟨rfl,rfl⟩)|(go_at_call 77;refine hp.mono ?_;rintro e w' ⟨rfl,n,os,rfl⟩))
 go_end0
 exact⟨rfl,d',n,os,J5.1,J5.2,rfl⟩
end Go.Proofs
