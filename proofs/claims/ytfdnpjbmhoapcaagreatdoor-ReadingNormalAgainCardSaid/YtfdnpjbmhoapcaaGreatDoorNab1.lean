/-
  The executor at the program of this seat; no further conditions.
-/
import Derived.Test.YtfdnpjbmhoapcaaGreatDoorNaa3
import Derived.KernelRfl
import Derived.Test.YtfdnpjbmhoapcaaGreatDoorProg
import Derived.Lib.LaidTab
import Derived.Lib.ItoaNum
import Derived.WalkKit
import Derived.Lib.Builder
import Derived.Laws.Externs
import GoSem.Claims
import Derived.Laws.IdiomCopy
import Derived.Defers
import Derived.Recover
import Derived.Laws.Pointers
set_option linter.all false
set_option maxHeartbeats 32000000
namespace Go.AX
open Go Go.Proofs
def a7 {α:Type}(x:α)(l r:T α):T α:=.node (some x) l r
def bZ {α:Type}(x:α):T α:=.node (some x) .nil .nil
open Tryz in
noncomputable def tiT:T TypeInfo :=
 (a7 t0 (a7 t1 (a7 t3 (a7 t7 (a7 t15 (a7 t31 (a7 t63 (a7 t127 (bZ t255) .nil) (bZ t191)) (a7 t95 (bZ t159) (bZ t223))) (a7 t47 (a7 t79 (a7 t143 (bZ t271) .nil) (bZ t207)) (a7 t111 (bZ t175) (bZ t239)))) (a7 t23 (a7 t39 (a7 t71 (a7 t135 (bZ t263) .nil)
 (bZ t199)) (a7 t103 (bZ t167) (bZ t231))) (a7 t55 (a7 t87 (a7 t151 (bZ t279) .nil) (bZ t215)) (a7 t119 (bZ t183) (bZ t247))))) (a7 t11 (a7 t19 (a7 t35 (a7 t67 (a7 t131 (bZ t259) .nil) (bZ t195)) (a7 t99 (bZ t163) (bZ t227))) (a7 t51 (a7 t83 (a7 t147 (bZ t275) .nil) (bZ t211)) (a7 t115 (bZ t179)
 (bZ t243)))) (a7 t27 (a7 t43 (a7 t75 (a7 t139 (bZ t267) .nil) (bZ t203)) (a7 t107 (bZ t171) (bZ t235))) (a7 t59 (a7 t91 (bZ t155) (bZ t219)) (a7 t123 (bZ t187) (bZ t251)))))) (a7 t5 (a7 t9 (a7 t17 (a7 t33 (a7 t65 (a7 t129 (bZ t257) .nil) (bZ t193)) (a7 t97 (bZ t161) (bZ t225))) (a7 t49 (a7 t81
 (a7 t145 (bZ t273) .nil) (bZ t209)) (a7 t113 (bZ t177) (bZ t241)))) (a7 t25 (a7 t41 (a7 t73 (a7 t137 (bZ t265) .nil) (bZ t201)) (a7 t105 (bZ t169) (bZ t233))) (a7 t57 (a7 t89 (bZ t153) (bZ t217)) (a7 t121 (bZ t185) (bZ t249))))) (a7 t13 (a7 t21 (a7 t37 (a7 t69 (a7 t133 (bZ t261) .nil) (bZ t197)) (a7 t101 (bZ t165) (bZ t229))) (a7 t53 (a7 t85 (a7 t149 (bZ t277) .nil) (bZ t213)) (a7 t117 (bZ t181)
 (bZ t245)))) (a7 t29 (a7 t45 (a7 t77 (a7 t141 (bZ t269) .nil) (bZ t205)) (a7 t109 (bZ t173) (bZ t237))) (a7 t61 (a7 t93 (bZ t157) (bZ t221)) (a7 t125 (bZ t189) (bZ t253))))))) (a7 t2 (a7 t4 (a7 t8 (a7 t16 (a7 t32 (a7 t64 (a7 t128 (bZ t256) .nil) (bZ t192)) (a7 t96 (bZ t160) (bZ t224))) (a7 t48
 (a7 t80 (a7 t144 (bZ t272) .nil) (bZ t208)) (a7 t112
 (bZ t176) (bZ t240)))) (a7 t24 (a7 t40 (a7 t72 (a7 t136 (bZ t264) .nil) (bZ t200)) (a7 t104 (bZ t168) (bZ t232))) (a7 t56 (a7 t88 (a7 t152 (bZ t280)
 .nil) (bZ t216)) (a7 t120 (bZ t184) (bZ t248))))) (a7 t12 (a7 t20 (a7 t36 (a7 t68 (a7 t132 (bZ t260) .nil)
 (bZ t196)) (a7 t100 (bZ t164) (bZ t228))) (a7 t52 (a7 t84 (a7 t148 (bZ t276) .nil) (bZ t212)) (a7 t116 (bZ t180) (bZ t244)))) (a7 t28 (a7 t44 (a7 t76 (a7 t140 (bZ t268) .nil) (bZ t204)) (a7 t108 (bZ t172) (bZ t236))) (a7 t60 (a7 t92 (bZ t156) (bZ t220)) (a7 t124 (bZ t188) (bZ t252)))))) (a7 t6
 (a7 t10 (a7 t18 (a7 t34 (a7 t66 (a7 t130 (bZ t258) .nil) (bZ t194)) (a7 t98 (bZ t162) (bZ t226))) (a7 t50 (a7 t82 (a7 t146 (bZ t274) .nil) (bZ t210)) (a7 t114 (bZ t178) (bZ t242)))) (a7 t26 (a7 t42 (a7 t74 (a7 t138 (bZ t266) .nil) (bZ t202)) (a7 t106 (bZ t170) (bZ t234))) (a7 t58 (a7 t90 (bZ t154) (bZ t218)) (a7 t122 (bZ t186) (bZ t250))))) (a7 t14
 (a7 t22 (a7 t38 (a7 t70 (a7 t134 (bZ t262) .nil) (bZ t198)) (a7 t102 (bZ t166) (bZ t230))) (a7 t54 (a7 t86 (a7 t150 (bZ t278) .nil) (bZ t214)) (a7 t118 (bZ t182) (bZ t246)))) (a7 t30 (a7 t46 (a7 t78 (a7 t142 (bZ t270) .nil) (bZ t206)) (a7 t110 (bZ t174)
 (bZ t238))) (a7 t62 (a7 t94 (bZ t158) (bZ t222)) (a7 t126 (bZ t190) (bZ t254))))))))
open Tryz in
noncomputable def Xa:T Func :=
 (a7 f0 (a7 f1 (a7 f3 (a7 f7 (a7 f15 (a7 f31 (a7 f63 (bZ f127) (bZ f191)) (a7 f95 (bZ f159) .nil))
 (a7 f47 (a7 f79 (bZ f143) .nil) (a7 f111 (bZ f175)
 .nil))) (a7 f23 (a7 f39 (a7 f71 (bZ f135) .nil) (a7 f103 (bZ f167) .nil)) (a7 f55 (a7 f87 (bZ f151) .nil) (a7 f119
 (bZ f183) .nil)))) (a7 f11 (a7 f19 (a7 f35 (a7 f67 (bZ f131) .nil) (a7 f99 (bZ f163) .nil)) (a7 f51 (a7 f83 (bZ f147) .nil) (a7 f115 (bZ f179) .nil))) (a7 f27 (a7 f43
 (a7 f75 (bZ f139) .nil) (a7 f107 (bZ f171) .nil)) (a7 f59 (a7 f91 (bZ f155) .nil) (a7 f123 (bZ f187) .nil))))) (a7 f5 (a7 f9 (a7 f17 (a7 f33 (a7 f65 (bZ f129) (bZ f193)) (a7 f97 (bZ f161) .nil)) (a7 f49 (a7 f81 (bZ f145) .nil) (a7 f113 (bZ f177) .nil))) (a7 f25 (a7 f41
 (a7 f73 (bZ f137) .nil) (a7 f105 (bZ f169) .nil)) (a7 f57 (a7 f89 (bZ f153) .nil) (a7 f121 (bZ f185) .nil)))) (a7 f13 (a7 f21 (a7 f37 (a7 f69 (bZ f133) .nil) (a7 f101
 (bZ f165) .nil)) (a7 f53 (a7 f85 (bZ f149) .nil) (a7 f117 (bZ f181) .nil))) (a7 f29 (a7 f45 (a7 f77 (bZ f141) .nil) (a7 f109 (bZ f173) .nil)) (a7 f61 (a7 f93 (bZ f157) .nil) (a7 f125 (bZ f189) .nil)))))) (a7 f2 (a7 f4 (a7 f8 (a7 f16 (a7 f32 (a7 f64 (bZ f128) (bZ f192)) (a7 f96 (bZ f160) .nil)) (a7 f48 (a7 f80 (bZ f144) .nil) (a7 f112 (bZ f176) .nil))) (a7 f24 (a7 f40 (a7 f72
 (bZ f136) .nil) (a7 f104 (bZ f168) .nil)) (a7 f56 (a7 f88 (bZ f152) .nil) (a7 f120 (bZ f184) .nil)))) (a7 f12 (a7 f20 (a7 f36 (a7 f68 (bZ f132) .nil) (a7 f100 (bZ f164) .nil)) (a7 f52 (a7 f84 (bZ f148) .nil) (a7 f116 (bZ f180) .nil))) (a7 f28 (a7 f44 (a7 f76 (bZ f140) .nil)
 (a7 f108 (bZ f172) .nil)) (a7 f60 (a7 f92 (bZ f156)
 .nil) (a7 f124 (bZ f188) .nil))))) (a7 f6 (a7 f10 (a7 f18 (a7 f34 (a7 f66 (bZ f130) .nil) (a7 f98 (bZ f162) .nil))
 (a7 f50 (a7 f82 (bZ f146) .nil) (a7 f114 (bZ f178)
 .nil))) (a7 f26 (a7 f42 (a7 f74 (bZ f138) .nil) (a7 f106 (bZ f170) .nil)) (a7 f58 (a7 f90 (bZ f154) .nil) (a7 f122
 (bZ f186) .nil)))) (a7 f14 (a7 f22 (a7 f38 (a7 f70 (bZ f134) .nil) (a7 f102 (bZ f166) .nil)) (a7 f54 (a7 f86 (bZ f150) .nil) (a7 f118 (bZ f182) .nil))) (a7 f30 (a7 f46
 (a7 f78 (bZ f142) .nil) (a7 f110 (bZ f174) .nil)) (a7 f62 (a7 f94 (bZ f158) .nil) (a7 f126 (bZ f190) .nil)))))))
open Tryz in
noncomputable def prT:T Prim :=
 (.node none (.node none .nil (.node none (.node none (.node none (.node none (.node none (.node (some (.consts [([.int .u64 1],.int .i64 1),([.int
 .u64 101],.int .i64 3),([.int .u64 109],.int .i64 3),([.int .u64 110],.int .i64 3),([.int .u64 114],.int .i64 3)])) .nil .nil) .nil) .nil)
 .nil) .nil) .nil)) (.node none .nil (.node none (.node none (.node none (.node none (.node (some (.gg 133)) .nil .nil) .nil) .nil) .nil)
 .nil)))
noncomputable def eqT:T (List (Nat×FK)) :=
 (.node none (.node none .nil (.node none (.node none (.node none .nil (.node (some [(0,.s),(1,.i)]) .nil .nil)) .nil) .nil)) (.node none (.node none
 (.node none .nil (.node none .nil (.node (some [(0,.i),(1,.i)]) (.node (some [(0,.i),(1,.s)]) .nil .nil) .nil))) (.node none (.node none .nil
 (.node (some [(0,.i),(1,.i),(2,.i),(3,.i)]) .nil .nil)) .nil)) .nil))
noncomputable def plT:T (List (Nat×List Nat)) :=
 (.node none (.node none (.node none (.node (some [(6,[0,1,2,3,4,5,6,7,8,9,10]),(11,[0,1,2,3,4,5,6,7,8,9,10])]) (.node (some
 [(15,[0,1,2,3,4,5])]) (.node (some [(5,[0,1,2,3,4,5,6,7,8,9,10,11,12,13])]) (.node (some [(2,[0,1,2,3,4,5,6,7,8,9,10,
 11,12,13,14,15,16,17,18,19,20,21,22]),(4,[0,1,2,3,4,5,6,7,8,9,10])]) .nil .nil) (.node (some [(5,[0,1,2,3,4,5,6,7,8,
 9,10,11,12,13,14,15,16,17]),(11,[0,1,2,3,4,5,6,7,8,9,10,11,12,13,14,15,16,17]),(16,[0,1,2,3,4,5,6,7,8,9,10,
 11,12]),(17,[0,1,2,3,4,5,6,7,8,9,10,11,12,13,14,15,16,17]),(22,[0,1,2,3,4,5,6,7,8,9,10,11,12]),(23,[0,1,2,3,
 4,5,6,7,8,9,10,11,12,13,14,15,16,17])]) .nil .nil)) (.node none .nil (.node (some [(5,[0,1,2,3,4,5,6,7,8,9,10,11,12,13,
 14,15,16,17]),(11,[0,1,2,3,4,5,6,7,8,9,10,11,12,13,14,15,16,17]),(16,[0,1,2,3,4,5,6,7,8,9,10,11,12]),(17,[0,1,
 2,3,4,5,6,7,8,9,10,11,12,13,14,15,16,17]),(22,[0,1,2,3,4,5,6,7,8,9,10,11,12]),(23,[0,1,2,3,4,5,6,7,8,9,10,
 11,12,13,14,15,16,17])]) .nil .nil))) (.node (some [(9,[0,1,2,3,4,5,6,7])]) (.node none (.node none (.node (some [(1,[0,1,2,3,4,
 5,6,7,8,9,10])]) .nil .nil) .nil) .nil) (.node (some [(5,[0,1,4,5,2,3,6,7,8,9])]) (.node (some [(1,[0,1,2,3,4,5,6,7,8,9,10,
 11,12,13,14,15]),(3,[0,1,2,3,4,5,6,7,8,9,10,11,12,13,14,15]),(5,[0,1,2,3,4,5,6,7,8,9,10,11,12,13,14,15,16]),
 (8,[0,1,2,3,4,5,6,7,8,9,10,11,12,13,14,15]),(10,[0,1,2,3,4,5,6,7,8,9,10,11,12,13,14,15]),(13,[0,1,2,3,4,5,6,
 7,8,9,10,11,12,13,14,15]),(15,[0,1,2,3,4,5,6,7,8,9,10,11,12,13,14,15,16]),(18,[0,1,2,3,4,5,6,7,8,9,10,11,12,
 13,14,15]),(21,[0,1,2,3,4,5,6,7,8,9,10,11,12,13,14,15])]) .nil .nil) .nil))) (.node (some [(1,[0,2,3,5,1,4,6,7,8]),(5,
 [0,1,2,3,4,5,6,7,8,9,10,11,12,13,14,15]),(9,[0,1,2,3,4,5,6,7,8,9,10,11,12,13,14,15,16,17,18,19,20,21,22,
 23])]) (.node (some [(12,[0,1,2,3,4,5,6,7,8,9,10,11])]) (.node (some [(28,[0,1,2,3,4,5,6,7,8]),(32,[0,1,2,3,4,5,6])])
 .nil .nil) (.node none .nil (.node (some [(3,[0,1,2,3,4,5,6,7,8,9,10,11,12,13,14,15,16,17,18,19,20,21]),(5,[0,1,2,3,4,5,
 6,7,8,9,10,11,12,13,14,15]),(6,[0,1,2,3,4,5,6,7,8,9,10,11,12,13,14,15,16,17,18,19,20,21,22,23])]) (.node (some [(1,
 [0,1,2,3,5,6,7,8,4,9,10,11,12])]) .nil .nil) .nil))) (.node none (.node none .nil (.node (some [(10,[0,1,2,3,4,5,6,7,8,9,10,
 11,12,13,14,15,16,17,18,19])]) .nil .nil)) (.node (some [(17,[0,1,2,3,4,5,6,7,8,9,10,11,12,13,14,15,16])]) (.node (some
 [(10,[0,1,2,3,4,5,6,7,8,9,10,11,12,13,14,15,16,17,18,19])]) .nil .nil) .nil)))) (.node none (.node none (.node none (.node none
 .nil (.node (some [(1,[0,1,2,3,4,5,6,7,8,9,10,11,12,13,14,15]),(3,[0,1,2,3,4,5,6,7,8,9,10,11,12,13,14,15]),(5,[0,
 1,2,3,4,5,6,7,8,9,10,11,12,13,14,15,16]),(8,[0,1,2,3,4,5,6,7,8,9,10,11,12,13,14,15]),(10,[0,1,2,3,4,5,6,7,
 8,9,10,11,12,13,14,15]),(13,[0,1,2,3,4,5,6,7,8,9,10,11,12,13,14,15]),(15,[0,1,2,3,4,5,6,7,8,9,10,11,12,13,14,
 15,16]),(18,[0,1,2,3,4,5,6,7,8,9,10,11,12,13,14,15]),(21,[0,1,2,3,4,5,6,7,8,9,10,11,12,13,14,15])]) .nil .nil))
 (.node (some [(0,[0,2,3,1,4,5,6,7])]) (.node (some [(10,[0,1,2,3,4,5,6,7,8,9,10,11,12,13,14,15,16,17,18,19])]) .nil .nil)
 (.node (some [(1,[0,1,2,3,4,5,6,7,8,9,10,11,12,13,14,15]),(3,[0,1,2,3,4,5,6,7,8,9,10,11,12,13,14,15]),(5,[0,1,2,
 3,4,5,6,7,8,9,10,11,12,13,14,15,16]),(8,[0,1,2,3,4,5,6,7,8,9,10,11,12,13,14,15]),(10,[0,1,2,3,4,5,6,7,8,9,
 10,11,12,13,14,15]),(13,[0,1,2,3,4,5,6,7,8,9,10,11,12,13,14,15]),(15,[0,1,2,3,4,5,6,7,8,9,10,11,12,13,14,15,
 16]),(18,[0,1,2,3,4,5,6,7,8,9,10,11,12,13,14,15]),(21,[0,1,2,3,4,5,6,7,8,9,10,11,12,13,14,15])]) (.node (some [(1,
 [0,1,2,3,4,5,6,7,8,9,10,11,12])]) .nil .nil) .nil))) (.node none (.node (some [(1,[0,1,2,3,4,5,6,7,8,9]),(2,[0,1,2,3,4,
 5,6,7,8,9])]) .nil .nil) (.node (some [(5,[0,1,2,3,7,8,12,13,4,5,6,9,10,11,14,15,16,17]),(11,[0,1,2,3,4,5,6,7,8,9,
 10])]) .nil .nil))) (.node none (.node (some [(1,[0,1,3,4,2,5,6,7,8]),(10,[0,1,2,3,4,5,6,7,8,9,10,11,12,13,14])]) (.node
 none (.node (some [(5,[0,1,2,3,4,5,6,7,8,9,10,11,12,13])]) .nil .nil) .nil) (.node none (.node (some [(5,[0,1,2,3,4,5,6,7,8,
 9,10,11,12,13,14,15,16,17]),(11,[0,1,2,3,4,5,6,7,8,9,10,11,12,13,14,15,16,17]),(16,[0,1,2,3,4,5,6,7,8,9,10,
 11,12]),(17,[0,1,2,3,4,5,6,7,8,9,10,11,12,13,14,15,16,17]),(22,[0,1,2,3,4,5,6,7,8,9,10,11,12]),(23,[0,1,2,3,
 4,5,6,7,8,9,10,11,12,13,14,15,16,17])]) .nil .nil) (.node (some [(1,[0,1,2,3,4,5,6,7,8,9]),(2,[0,1,2,3,4,5,6,7,8,
 9]),(3,[0,1,2,3,4,5,6,7,8,9])]) (.node (some [(0,[0,1,2,3,4,5,6,7,8,9])]) .nil .nil) .nil))) (.node none (.node none (.node
 (some [(17,[0,1,2,3,4,5,6,7,8,9,10,11,12,13,14,15,16])]) .nil .nil) (.node none (.node (some [(3,[0,1,2,3,4,5,6,7]),(12,
 [0,1,2,3,4,5,6,7,8,9,10,11])]) .nil .nil) .nil)) (.node none .nil (.node (some [(1,[0,1,3,2,4,5,6])]) .nil .nil)))))) (.node none
 (.node none (.node none (.node (some [(6,[0,1,2,3,4,5,6,7,8])]) (.node none .nil (.node (some [(1,[0,1,2,3,4,5,6,7,8,9,10,11,
 12,13,14,15]),(3,[0,1,2,3,4,5,6,7,8,9,10,11,12,13,14,15,16]),(5,[0,1,2,3,4,5,6,7,8,9,10,11,12,13,14,15]),(8,
 [0,1,2,3,4,5,6,7,8,9,10,11,12,13,14,15])]) .nil .nil)) (.node (some [(12,[0,1,2,3,4,5,6,7,8,9,10,11])]) (.node (some [(4,
 [0,1,2,3,4,5,6,7,8,9,10,11,12,13,14,15,16]),(6,[0,1,2,3,4,5,6,7,8,9,10,11,12,13,14,15,16,17])]) (.node (some [(1,
 [0,1,2,3,4,5,6,7,8,9,10])]) .nil .nil) .nil) (.node (some [(1,[0,1,2,3,4,5,6,7,8,9,10,11,12,13,14,15]),(3,[0,1,2,3,4,
 5,6,7,8,9,10,11,12,13,14,15,16]),(5,[0,1,2,3,4,5,6,7,8,9,10,11,12,13,14,15]),(8,[0,1,2,3,4,5,6,7,8,9,10,11,
 12,13,14,15])]) .nil .nil))) (.node none (.node none (.node (some [(4,[0,1,2,3,4,5,6,7,8,9,10,11,12,13,14,15,16,17,18,19]),
 (5,[0,1,2,3,4,5,6,7,8,9,10,11,12,13,14,15,16,17,18,19,20,21,22,23,24,25,26]),(6,[0,1,2,3,4,5,6,7,8,9,10,11]),
 (15,[0,1,2,3,4,5,6,7,8,9,10,11,12,13,14,15,16,17]),(20,[0,1,2,3,4,5,6,7,8,9,10,11,12,13,14,15,16,17,18,19,20,
 21,22])]) (.node (some [(1,[0,1,2,3,4,5,6,7,8,9,10])]) .nil .nil) .nil) .nil) (.node none .nil (.node (some [(3,[0,1,2,3,4,5,6,7,
 8,9,10,11,12,13,14,15,16,17,18,19,20,21]),(5,[0,1,2,3,4,5,6,7,8,9,10,11,12,13,14,15]),(6,[0,1,2,3,4,5,6,7,8,
 9,10,11,12,13,14,15,16,17,18,19,20,21,22,23])]) .nil .nil)))) (.node (some [(6,[0,1,2,3,4,5])]) (.node (some [(11,[0,1,2,3,
 4,5,6,7,8,9,10]),(27,[0,1,2,3,4,5,6,7,8,9,10,11,12,13,14,15,16]),(34,[0,1,2,3,4,5])]) (.node none (.node none (.node
 (some [(3,[0,1,2,3,4,5,6,7,8,9,10,11,12,13,14,15,16,17,18,19,20,21]),(5,[0,1,2,3,4,5,6,7,8,9,10,11,12,13,14,
 15]),(6,[0,1,2,3,4,5,6,7,8,9,10,11,12,13,14,15,16,17,18,19,20,21,22,23])]) .nil .nil) .nil) .nil) (.node none (.node (some
 [(3,[0,1,2,3,4,5,6,7,8,9,10,11,12,13,14,15])]) .nil .nil) .nil)) (.node none (.node none .nil (.node (some [(10,[0,1,2,3,4,5,
 6,7,8,9,10,11,12,13,14,15,16,17,18,19])]) .nil .nil)) (.node none (.node (some [(10,[0,1,2,3,4,5,6,7,8,9,10,11,12,13,14,
 15,16,17,18,19])]) .nil .nil) (.node (some [(1,[0,1,3,2,4,5,6])]) .nil .nil))))) (.node (some [(10,[0,1,2,3,4,5,6,7,8,9,10,11,
 12]),(16,[0,1,2,3,4,5,6,7,8,9,10,11,12,13,14,15,16,17,18,19,20,21,22,23,24,25,26,27,28,29,30,31,32,33,34,35])])
 (.node none (.node (some [(1,[0,1,2,3,5,6,7,8,10,11,12,13,4,9,14,15,16,17])]) (.node (some [(4,[0,1,2,3,4,5,6,7,8,9,10,
 11,12,13,14,15,16,17,18,19]),(5,[0,1,2,3,4,5,6,7,8,9,10,11,12,13,14,15,16,17,18,19,20,21,22,23,24,25,26]),(6,
 [0,1,2,3,4,5,6,7,8,9,10,11]),(15,[0,1,2,3,4,5,6,7,8,9,10,11,12,13,14,15,16,17]),(20,[0,1,2,3,4,5,6,7,8,9,
 10,11,12,13,14,15,16,17,18,19,20,21,22])]) (.node none (.node (some [(7,[0,1,2,3,4,5,6,7,8,9,10,11,12,13,14]),(8,[0,1,
 2,3,4,5,6,7,8,9,10,11,12,13,14]),(9,[0,1,2,3,4,5,6,7,8,9,10,11,12,13,14]),(10,[0,1,2,3,4,5,6,7,8,9,10,11,
 12,13,14]),(17,[0,1,2,3,4,5,6,7,8,9,10,11,12,13,14]),(18,[0,1,2,3,4,5,6,7,8,9,10,11,12,13,14]),(23,[0,1,2,3,
 4,5,6,7,8,9,10,11,12,13,14])]) .nil .nil) .nil) .nil) (.node (some [(14,[0,1,2,3,4,5,6,7,8,9,10,11])]) (.node (some [(10,[0,
 1,2,3,4,5,6,7,8,9,10,11,12,13,14,15,16,17,18,19])]) .nil .nil) (.node none (.node (some [(0,[0,1,2,3,4,5,6,7,8,9,10,11,
 12,13,14,15])]) .nil .nil) .nil))) (.node none (.node none (.node (some [(3,[0,1,2,3,4,5,6,7,8,9,12,13,15,16,17,18,19,21,22,
 10,11,14,20,23,24,25])]) .nil .nil) (.node (some [(4,[0,1,2,3,4,5,6,7,8,9,10,11,12,13,14,15,16]),(6,[0,1,2,3,4,5,6,7,
 8,9,10,11,12,13,14,15,16,17])]) .nil .nil)) (.node none (.node (some [(4,[0,1,2,3,4,5,6,7,8,9,10,11,12,13,14,15,16]),(6,
 [0,1,2,3,4,5,6,7,8,9,10,11,12,13,14,15,16,17])]) .nil .nil) .nil))) (.node none (.node none (.node (some [(1,[0,1,2,3,4,5,6,
 7,8,9,10,11,12,13,15,16,17,18,19,20,21,22,14,23,24,25,26])]) (.node (some [(1,[0,1,2,3,4,5,6,7,8,9,10]),(4,[0,1,2,
 3,4,5,6]),(5,[0,1,2,3,4,5,6,7,8,9,10])]) .nil .nil) .nil) (.node none (.node (some [(1,[0,1,2,3,4,5,6,7,8,9,10,11,12,13,
 14,15]),(3,[0,1,2,3,4,5,6,7,8,9,10,11,12,13,14,15,16]),(5,[0,1,2,3,4,5,6,7,8,9,10,11,12,13,14,15]),(8,[0,1,2,
 3,4,5,6,7,8,9,10,11,12,13,14,15])]) .nil .nil) .nil)) (.node none (.node (some [(1,[0,1,2,3,5,6,7,8,9,4,10,11])]) .nil (.node
 (some [(3,[0,1,2,3,4,5,6,7,8,9,10,11,12,13,14,15])]) .nil .nil)) (.node (some [(17,[0,1,2,3,4,5,6,7,8,9,10,11,12,13,
 14,15,16])]) (.node (some [(3,[0,1,2,3,4,5,6,7,8,9,10,11,12,13,14,15])]) .nil .nil) .nil))))))
noncomputable def E0:Env:=⟨prT,tiT,Xa,eqT,plT⟩
open Go.RowKit
instance asg:Lay Tryz.prog:=⟨λb=>b<=2,λb o=>(b=2->∃e fz,o=some (.cells (Lib.pow10Tab.map λz=>Value.int .u64 z).toArray e fz))/\(b≠2->∃te pe e fz,o=some (.cells #[.iface te pe] e fz)),False⟩
def adz:tiT=T.ofL Tryz.types.toList:=by kernel_rfl
def SF:Xa=T.ofL Tryz.funcs.toList:=by kernel_rfl
def UZ:Tryz.prog.types=Tryz.types:=by kernel_rfl
def SJ:Tryz.prog.funcs=Tryz.funcs:=by kernel_rfl
def YY:E0.ti=tiT:=by kernel_rfl
def YX:E0.fn=Xa:=by kernel_rfl
def aaw:E0.eqs=eqT:=by kernel_rfl
def TF (P:Program)(t:TypeId)(i:TypeInfo)(h:P.types[t]?=some i):P.info? t=some i:=by
 have dL:=(qJZ.1 h).1;show(if t<P.types.size then P.types[t]? else _)=_;rw[if_pos dL,h]
def D8 {E:Env}(hE:E.ti=tiT):∀t i,E.info t=some i->Tryz.prog.info? t=some i:=by
 intro t i h;unfold Env.info at h;rw[hE]at h;have:=T.EB adz h;rw[qVG]at this;refine TF _ _ _ ?_;rw[UZ];exact this
def Zu {E:Env}(hE:E.fn=Xa):∀f x,E.fn.get f=some x->Tryz.prog.funcs[f]?=some x:=by
 intro f x h;rw[hE]at h;have:=T.EB SF h;rw[qVG]at this;rw[SJ];exact this
def Ua:Tryz.funcs.toList.all (fun x=>!(x.name == "runtime.NumGoroutine"))=true:=by kernel_rfl
def vW {E:Env}(hE:E.fn=Xa):∀f x,E.fn.get f=some x->(x.name == "runtime.NumGoroutine")=false:=by
 intro f x h;rw[hE]at h;have:=T.EB SF h;have h2:=List.all_eq_true.1 Ua x (qQK this);simpa using h2
def T.vA {α:Type}:∀(l:List (Nat×α))(t:T α)(k:Nat)(x:α),(l.foldl (λt p=>t.set p.1 p.2) t).get k=some x->(k,x)∈l\/t.get k=some x:=by
 intro l
 induction l with
 |nil=>intro t k x h;exact .inr h
 |cons p l ih =>
  intro t k x h;rcases ih _ _ _ h with h|h
  .exact .inl (qZZ _ h)
  .by_cases e:k=p.1
   .subst e;rw[T.get_set_same]at h;cases h;exact .inl (by simp)
   .rw[T.cY _ _ (Ne.symm e)]at h;exact .inr h
noncomputable def eqL:List (Nat×List (Nat×FK)):=[(88,[(0,.i),(1,.s)]),(49,[(0,.s),(1,.i)]),(56,[(0,.i),(1,.i)]),(52,[(0,.i),(1,.i),(2,.i),(3,.i)])]
def abg:eqT=eqL.foldl (λt p=>t.set p.1 p.2) .nil:=by kernel_rfl
def ae2:CC E0 88=some [(0,.i),(1,.s)]:=by kernel_rfl
def abk:Tryz.prog.eqGuardType Tryz.prog.depth 88=false:=by kernel_rfl
def abo:Tryz.prog.stoodInHeld 88=false:=by kernel_rfl
def aeZ:CC E0 49=some [(0,.s),(1,.i)]:=by kernel_rfl
def abh:Tryz.prog.eqGuardType Tryz.prog.depth 49=false:=by kernel_rfl
def abl:Tryz.prog.stoodInHeld 49=false:=by kernel_rfl
def ae1:CC E0 56=some [(0,.i),(1,.i)]:=by kernel_rfl
def abj:Tryz.prog.eqGuardType Tryz.prog.depth 56=false:=by kernel_rfl
def abn:Tryz.prog.stoodInHeld 56=false:=by kernel_rfl
def ae0:CC E0 52=some [(0,.i),(1,.i),(2,.i),(3,.i)]:=by kernel_rfl
def abi:Tryz.prog.eqGuardType Tryz.prog.depth 52=false:=by kernel_rfl
def abm:Tryz.prog.stoodInHeld 52=false:=by kernel_rfl
def abp {E:Env}(h1:E.eqs=eqT):∀t eU,E.eqs.get t=some eU->StructEq Tryz.prog t eU:=by
 intro t eU h;rw[h1,abg]at h;rcases T.vA _ _ _ _ h with h|h
 .have hi:=D8 YY;simp only[eqL,qQF,qJK,or_false,qQA]at h;rcases h with⟨rfl,rfl⟩|⟨rfl,rfl⟩|⟨rfl,rfl⟩|⟨rfl,rfl⟩
  .exact kW hi ae2 abk abo
  .exact kW hi aeZ abh abl
  .exact kW hi ae1 abj abn
  .exact kW hi ae0 abi abm
 .rw[T.get_nil]at h;cases h
def Ho:Tryz.prog.follows .mixedOrders=true:=by kernel_rfl
def Sv {E:Env}(h1:E.ti=tiT)(h2:E.fn=Xa)(h3:E.eqs=eqT):bl E Tryz.prog:=⟨D8 h1,Zu h2,Ho,abp h3⟩
def KZ {p:Program}{fits:TypeId->Bool}{d e count off n:Nat}(hs:p.cellsOf e≠0)(ho:off % p.cellsOf e=0)(hn:off / p.cellsOf e+n<=count)(hf:fits e=true):rowAt p fits (d+1) e count off n=true:=by
 unfold rowAt;simp[hs,ho,hn,hf]
def yV {p:Program}{d t:Nat}:sameLayout p (d+1) t t=true:=by
 unfold sameLayout;simp
def TE:(Tryz.prog.info? 133).isSome=true:=by kernel_rfl
set_option maxRecDepth 100000 in
def zP (b off:Nat)(w:World)(h0:w.cell? ⟨b,off,none⟩=some (.pointer (some ⟨b,off,none⟩))) :
 Calls Tryz.prog 66 #[.pointer (some ⟨b,off,none⟩)] w λe w'=>e=.returned (.tuple #[])/\w'=w:=by
 obtain⟨j,hj⟩:=qWZ.1 TE
 go_enter Tryz.func66,Tryz.ntmps66
 go_wp2
 rw[Lib.run_neq_ptr_same w _ Tryz.underlying131 hj]
 go_wp2
 go_end0
 exact⟨rfl,rfl⟩
def sX:Tryz.prog.cellsOf 133=2:=by kernel_rfl
def Ju:∃d,Tryz.prog.depth=d+1:=by
 have h:Nat.blt 0 Tryz.prog.depth=true:=by kernel_rfl
 rw[qJE]at h;exact⟨Tryz.prog.depth-1,by omega⟩
def acE {n off:Nat}(h1:off % 2=0)(h2:off+2<=n):liesAt Tryz.prog Tryz.prog.depth 133 (n / Tryz.prog.cellsOf 133) off 133 1=true:=by
 obtain⟨d,hd⟩:=Ju;rw[sX];rw[hd];unfold liesAt;simp only[hd];rw[KZ (by rw[sX];decide) (by rw[sX];exact h1) (by rw[sX];omega) (fits:=λx=>sameLayout Tryz.prog (d+1) x 133) yV];rfl
set_option maxRecDepth 100000 in
def yB (b off n:Nat)(w:World)(h0:w.cell? ⟨b,off,none⟩=some (.pointer none))(Tt:w.shape? b=some (133,n))(sd:off % 2=0)(hle:off+2<=n)(DR:w.frozen? ⟨b,off,none⟩=false) :
 Calls Tryz.prog 66 #[.pointer (some ⟨b,off,none⟩)] w λe w'=>e=.returned (.tuple #[])/\w'=w.setCell ⟨b,off,none⟩ (.pointer (some ⟨b,off,none⟩)):=by
 obtain⟨j,hj⟩:=qWZ.1 TE
 have hjs:j.size≠0:=by
  have h1:=sX;unfold Program.cellsOf at h1;rw[hj]at h1;have:j.size=2:=h1;omega
 go_enter Tryz.func66,Tryz.ntmps66
 go_wp2
 rw[Lib.run_to_unsafe w ⟨b,off,none⟩ Tryz.underlying131 Tryz.underlying208 hj hjs Tt (by show off<n;omega)];simp only[Result.andThen];rw[Oper.upon_value]
 go_wp2
 rw[run_callFunc_extern Tryz.func100 (by kernel_rfl) (by kernel_rfl) (by kernel_rfl) (e:=Extern.AbiNoEscape.same) (by kernel_rfl)];rw[Lib.run_noEscape];simp only[Result.andThen];rw[Oper.upon_value]
 go_wp2
 rw[Lib.run_from_unsafe w ⟨b,off,none⟩ Tryz.underlying208 Tryz.underlying131 hj Tt (acE sd hle)];simp only[Result.andThen];rw[Oper.upon_value]
 go_wp2
 go_end0
 exact⟨rfl,rfl⟩
set_option maxRecDepth 100000 in
def XY (w:World):Calls Tryz.prog 89 #[.int .u64 1] w λe w'=>e=.returned (.int .i64 1)/\w'=w:=by
 go_enter Tryz.func89,Tryz.ntmps89
 go_wp2
 go_ret
 refine⟨?_,rfl⟩
 kernel_rfl
set_option maxRecDepth 100000 in
def OI (w:World):Calls Tryz.prog 89 #[.int .u64 101] w λe w'=>e=.returned (.int .i64 7)/\w'=w:=by
 go_enter Tryz.func89,Tryz.ntmps89
 go_wp2
 go_ret
 refine⟨?_,rfl⟩
 kernel_rfl
set_option maxRecDepth 100000 in
def OJ (w:World):Calls Tryz.prog 89 #[.int .u64 109] w λe w'=>e=.returned (.int .i64 7)/\w'=w:=by
 go_enter Tryz.func89,Tryz.ntmps89
 go_wp2
 go_ret
 refine⟨?_,rfl⟩
 kernel_rfl
set_option maxRecDepth 100000 in
def OK (w:World):Calls Tryz.prog 89 #[.int .u64 110] w λe w'=>e=.returned (.int .i64 7)/\w'=w:=by
 go_enter Tryz.func89,Tryz.ntmps89
 go_wp2
 go_ret
 refine⟨?_,rfl⟩
 kernel_rfl
set_option maxRecDepth 100000 in
def OL (w:World):Calls Tryz.prog 89 #[.int .u64 114] w λe w'=>e=.returned (.int .i64 7)/\w'=w:=by
 go_enter Tryz.func89,Tryz.ntmps89
 go_wp2
 go_ret
 refine⟨?_,rfl⟩
 kernel_rfl
set_option maxRecDepth 100000 in
def XZ (w:World):Calls Tryz.prog 140 #[.int .i64 1] w λe w'=>e=.returned (.int .i64 0)/\w'=w:=by
 go_enter Tryz.func140,Tryz.ntmps140
 go_wp2
 go_ret
 refine⟨?_,rfl⟩
 kernel_rfl
set_option maxRecDepth 100000 in
def y8 (w:World):Calls Tryz.prog 140 #[.int .i64 7] w λe w'=>e=.returned (.int .i64 2)/\w'=w:=by
 go_enter Tryz.func140,Tryz.ntmps140
 go_wp2
 go_ret
 refine⟨?_,rfl⟩
 kernel_rfl
set_option maxRecDepth 100000 in
def Sj (w:World)(h0:w.cell? ⟨2,0,none⟩=some (.int .u64 1)) :
 Calls Tryz.prog 129 #[.int .u64 1] w λe w'=>e=.returned (.int .i64 1)/\w'=w:=by
 go_enter Tryz.func129,Tryz.ntmps129
 go_wp2_with (first
  |(go_at_call 89;refine(XY _).mono ?_;rintro e w' ⟨rfl,rfl⟩)
  |(go_at_call 140;refine(XZ _).mono ?_;rintro e w' ⟨rfl,rfl⟩)
  |go_in)
 go_ret
 exact⟨rfl,rfl⟩
set_option maxRecDepth 100000 in
def Jw (w:World)(h0:w.cell? ⟨2,2,none⟩=some (.int .u64 100)) :
 Calls Tryz.prog 129 #[.int .u64 101] w λe w'=>e=.returned (.int .i64 3)/\w'=w:=by
 go_enter Tryz.func129,Tryz.ntmps129
 go_wp2_with (first
  |(go_at_call 89;refine(OI _).mono ?_;rintro e w' ⟨rfl,rfl⟩)
  |(go_at_call 140;refine(y8 _).mono ?_;rintro e w' ⟨rfl,rfl⟩)
  |go_in)
 go_ret
 exact⟨rfl,rfl⟩
set_option maxRecDepth 100000 in
def Jx (w:World)(h0:w.cell? ⟨2,2,none⟩=some (.int .u64 100)) :
 Calls Tryz.prog 129 #[.int .u64 109] w λe w'=>e=.returned (.int .i64 3)/\w'=w:=by
 go_enter Tryz.func129,Tryz.ntmps129
 go_wp2_with (first
  |(go_at_call 89;refine(OJ _).mono ?_;rintro e w' ⟨rfl,rfl⟩)
  |(go_at_call 140;refine(y8 _).mono ?_;rintro e w' ⟨rfl,rfl⟩)
  |go_in)
 go_ret
 exact⟨rfl,rfl⟩
set_option maxRecDepth 100000 in
def Jy (w:World)(h0:w.cell? ⟨2,2,none⟩=some (.int .u64 100)) :
 Calls Tryz.prog 129 #[.int .u64 110] w λe w'=>e=.returned (.int .i64 3)/\w'=w:=by
 go_enter Tryz.func129,Tryz.ntmps129
 go_wp2_with (first
  |(go_at_call 89;refine(OK _).mono ?_;rintro e w' ⟨rfl,rfl⟩)
  |(go_at_call 140;refine(y8 _).mono ?_;rintro e w' ⟨rfl,rfl⟩)
  |go_in)
 go_ret
 exact⟨rfl,rfl⟩
set_option maxRecDepth 100000 in
def Jz (w:World)(h0:w.cell? ⟨2,2,none⟩=some (.int .u64 100)) :
 Calls Tryz.prog 129 #[.int .u64 114] w λe w'=>e=.returned (.int .i64 3)/\w'=w:=by
 go_enter Tryz.func129,Tryz.ntmps129
 go_wp2_with (first
  |(go_at_call 89;refine(OL _).mono ?_;rintro e w' ⟨rfl,rfl⟩)
  |(go_at_call 140;refine(y8 _).mono ?_;rintro e w' ⟨rfl,rfl⟩)
  |go_in)
 go_ret
 exact⟨rfl,rfl⟩
def mG {h:aa}{args:List ae}{v:ae}{h':aa}(hp:tP (.gg 133) args h=some (v,h')) :
 Enters Tryz.prog 66/\∀(K:cu)(W0:World)(ρ:Ren)(w:World)(args':Array Value),VL ρ args args'.toList->WR Tryz.prog K W0 ρ h w->Calls Tryz.prog 66 args' w (jY Tryz.prog K W0 ρ v h'):=by
 refine⟨⟨_,Tryz.func66,by kernel_rfl,by kernel_rfl⟩,λK W0 ρ w args' dG H=>?_⟩
 match args,hp,dG with
 |[x],hp,dG =>
  have jz:(gu x λb o=>onCells (h.get b) λc e =>
   aO (and (Nat.beq e 133) (and (Nat.beq (Nat.mod o 2) 0) (Nat.ble (Nat.add o 2) (cJ c))))
    (ob (fW c o) λw=>match w with
     |.dt=>some (.eC [],h.put b (.cells (over c o [.ptr b o]) e))
     |.ptr b' o'=>aO (and (Nat.beq b b') (Nat.beq o o')) (some (.eC [],h)) none
     |_=>none) none)=some (v,h'):=hp
  rw[cZ]at jz;obtain⟨b,o,rfl,jz⟩:=jz;rw[ki]at jz;obtain⟨c,e,hb,jz⟩:=jz;rw[aG]at jz;obtain⟨hc,jz⟩:=jz;simp only[qZQ,qZX,qZB,bV]at hc;obtain⟨rfl,GJ,hle⟩:=hc;have GJ:o % 2=0:=GJ;have hle:o+2<=c.length:=hle;rw[av]at jz;obtain⟨y,hy,jz⟩:=jz;rw[fT]at hy;obtain⟨r,hr,hnk,GN⟩:=H.obj b _ hb trivial;obtain⟨C,fz,hC,DR,hd,kM,ZH,hK⟩:=iR H (own:=true) (.inl ⟨rfl,hb⟩) hr;obtain⟨_,y',hy1,Ov⟩:=kM _ _ hy (.inl rfl)
  have ha:args'=#[.pointer (some ⟨r.b,o+r.d,none⟩)]:=by
   rcases args' with⟨al⟩;have abG:VL ρ [.ptr b o] al:=dG;cases abG with
   |cons hx hl =>
    cases hl;obtain⟨r1,rf,e1⟩:=hx.gv;rw[hr]at rf;cases rf;subst e1;rfl
  subst ha
  have hdm:(o+r.d) % 2=0:=by
   have h2:2∣r.d:=by
    cases hk:r.k with
    |none=>rw[r.al.1 hk];exact Nat.dvd_zero 2
    |some p =>
     obtain⟨z,x⟩:=p;have h3:=(ZH z x hk).2;rw[sX]at h3;subst h3;exact r.al.2 _ _ hk
   omega
  have qY:w.cell? ⟨r.b,o+r.d,none⟩=some y':=by
   unfold World.cell?;simp only[hC];rw[Nat.add_comm];exact hy1
  match y,jz,Ov with
  |.dt,jz,Ov =>
   cases jz;cases Ov
   have B0:w.frozen? ⟨r.b,o+r.d,none⟩=false:=by
    unfold World.frozen?;simp only[hC];have:=DR rfl (o+r.d) (by omega);simpa using this
   refine(yB r.b (o+r.d) C.size w qY (by unfold World.shape?;rw[hC]) hdm (by omega) B0).mono ?_
   .rintro e w' ⟨rfl,rfl⟩;obtain⟨w1,hs,XK⟩:=mX (P:=Tryz.prog) (o:=o) H hr hb (vs:=[.ptr b o]) (vs':=[.pointer (some ⟨r.b,o+r.d,none⟩)]) (.cons (.ptr hr) .nil) (by simp;rfl) (by simp;omega)
    have jF:=run_storeCells_cells (P:=Tryz.prog) r.b (o+r.d) [.pointer (some ⟨r.b,o+r.d,none⟩)] 0 w (λj hj=>by
     have:j=0:=by simpa using hj
     subst this;simp only[Nat.add_zero,qY,qWY]) (λj hj=>by
     have:j=0:=by simpa using hj
     subst this;exact B0) (λv hv=>by simp at hv;subst hv;rfl)
    have agU:(storeCells ⟨r.b,o+r.d,none⟩ [.pointer (some ⟨r.b,o+r.d,none⟩)]).run Tryz.prog w=.ok () (w.setCell ⟨r.b,o+r.d,none⟩ (.pointer (some ⟨r.b,o+r.d,none⟩))):=jF;rw[agU]at hs;cases hs;exact⟨_,ρ,rfl,Ren.le_refl _,.eC .nil,XK⟩
  |.ptr b' o',jz,Ov =>
   have pK:aO (and (Nat.beq b b') (Nat.beq o o')) (some (ae.eC [],h)) none=some (v,h'):=jz;clear jz;rw[aG]at pK;obtain⟨he,XE⟩:=pK;simp only[qZQ,qZX]at he;obtain⟨rfl,rfl⟩:=he;cases XE;obtain⟨r1,rf,e1⟩:=Ov.gv;rw[hr]at rf;cases rf;subst e1;refine(zP r.b (o+r.d) w qY).mono ?_;rintro e w' ⟨rfl,rfl⟩;exact⟨_,ρ,rfl,Ren.le_refl _,.eC .nil,H⟩
def zg (f:FuncId)(p:Prim):Prop :=
 ∀args h v h',tP p args h=some (v,h')->Enters Tryz.prog f/\∀(K:cu)(W0:World)(ρ:Ren)(w:World)(args':Array Value),VL ρ args args'.toList->WR Tryz.prog K W0 ρ h w->Calls Tryz.prog f args' w (jY Tryz.prog K W0 ρ v h')
def Bc {E:Env}{L:List (Nat×Prim)}(hL:E.uG=L.foldl (λt p=>t.set p.1 p.2) .nil)(h:∀f p,(f,p)∈L->zg f p):zh E Tryz.prog:=by
 intro f p hp;rw[hL]at hp;rcases T.vA _ _ _ _ hp with h1|h1
 .exact h f p h1
 .rw[T.get_nil]at h1;cases h1
def JH:∀{l:List (List ae×ae)}{args:List ae}{v:ae},LO l args=some v->(args,v)∈l:=by
 intro l
 induction l with
 |nil=>intro args v h;cases h
 |cons p l ih =>
  intro args v h;have h':aO (il (dz 20) args p.1) (some p.2) (LO l args)=some v:=h;cases hs:il (dz 20) args p.1 with
  |true =>
   rw[hs]at h';have h':some p.2=some v:=h';cases h';have:=gD (λx y=>ji 20 x y) hs;subst this;exact qKD
  |false =>
   rw[hs]at h';exact qZZ _ (ih h')
noncomputable def Si:List (List ae×ae):=[([.int .u64 1],.int .i64 1),([.int .u64 101],.int .i64 3),([.int .u64 109],.int .i64 3),([.int .u64 110],.int .i64 3),([.int .u64 114],.int .i64 3)]
def s7 {ρ:Ren}{k:IntKind}{n:Int}{args':Array Value}(h:VL ρ [.int k n] args'.toList):args'=#[.int k n]:=by
 rcases args' with⟨al⟩;have h2:VL ρ [.int k n] al:=h;cases h2 with
 |cons hx hl=>cases hl;cases hx;rfl
def Yn:(Lib.pow10Tab.map λz=>Value.int .u64 z).toArray[0]?=some (.int .u64 1):=by kernel_rfl
def Yo:(Lib.pow10Tab.map λz=>Value.int .u64 z).toArray[2]?=some (.int .u64 100):=by kernel_rfl
def OH {K:cu}{W0:World}{ρ:Ren}{h:aa}{w:World}(H:WR Tryz.prog K W0 ρ h w):w.cell? ⟨2,0,none⟩=some (.int .u64 1)/\w.cell? ⟨2,2,none⟩=some (.int .u64 100):=by
 obtain⟨hk,hl,_⟩:=H.lay 2 (show 2<=2 by omega);obtain⟨e,fz,hC⟩:=hl rfl;rw[<-H.eN 2 hk]at hC;rw[cell_of hC,cell_of hC];exact⟨Yn,Yo⟩
def CA:zg 129 (.consts Si):=by
 intro args h v h' hp;refine⟨⟨_,Tryz.func129,by kernel_rfl,by kernel_rfl⟩,λK W0 ρ w args' dG H=>?_⟩;have jz:(ob (LO Si args) λv=>some (v,h))=some (v,h'):=hp;rw[av]at jz;obtain⟨x,hx,jz⟩:=jz;cases jz;have hx:=JH hx;have hc:=OH H
 have fin:∀{k:IntKind}{n:Int}(e:Ending)(w':World),(e=.returned (.int k n)/\w'=w)->jY Tryz.prog K W0 ρ (.int k n) h e w':=by
  rintro k n e w' ⟨rfl,rfl⟩;exact⟨_,ρ,rfl,Ren.le_refl _,.int k n,H⟩
 simp only[Si,qQF,qJK,or_false,qQA]at hx;rcases hx with⟨rfl,rfl⟩|⟨rfl,rfl⟩|⟨rfl,rfl⟩|⟨rfl,rfl⟩|⟨rfl,rfl⟩
 .rw[s7 dG];exact(Sj w hc.1).mono fin
 .rw[s7 dG];exact(Jw w hc.2).mono fin
 .rw[s7 dG];exact(Jx w hc.2).mono fin
 .rw[s7 dG];exact(Jy w hc.2).mono fin
 .rw[s7 dG];exact(Jz w hc.2).mono fin
def UD:E0.uG=[(66,.gg 133),(129,.consts Si)].foldl (λt p=>t.set p.1 p.2) .nil:=by kernel_rfl
def adg:zh E0 Tryz.prog:=by
 refine Bc UD λf p yH=>?_;simp only[qQF,qJK,or_false,qQA]at yH;rcases yH with⟨rfl,rfl⟩|⟨rfl,rfl⟩
 .exact λargs h v h' hp=>mG hp
 .exact CA
def abe:bl E0 Tryz.prog:=Sv YY YX aaw
def Rj (lf n:Nat):fC Tryz.prog (ba E0 lf n):=lY abe (vW YX) adg lf n
def HH (p q:Addr)(w:World) :
 CallsD Tryz.prog 22 #[.pointer (some p),.pointer (some q)] .returning w λe u' w'=>e=.returned (.tuple #[])/\u'=.returning/\w'=w:=by
 refine callsD_of_wpS Tryz.func22 rfl λajp cs hu=>?_;apply wpS_seq;apply wpS_region;simp[wpOpsS,go_sem,recoverD,hu,Tryz.ntmps22,Exit.thenS];apply wpS_seq;apply wpS_region;simp[wpOpsS,go_sem,Exit.thenS];refine wpS_cond (t:=false) (by simp[Act.eval,Array.replicate]) ?_;simp only[qZJ,if_false];refine wpS_of_wp (wp_skip ?_);cases ajp
 simp_all [bodyPostS,results,Tryz.results22]
noncomputable def PF:Code->Code|.seq a _=>a|c=>c
noncomputable def ES:Code->Code|.seq _ b=>b|c=>c
noncomputable def Wh:Code:=Tryz.f12.body.getD .skip
def aaM:Tryz.f12.body=some (.seq (PF Wh) (.seq (PF (ES Wh)) (ES (ES Wh)))):=by kernel_rfl
def ahm:PF (ES Wh)=.region 1 #[⟨some 7,.makeFunc (.func 22) #[] #[.tmp 2,.tmp 3],1, "cells.go:161",#[],none⟩,⟨none,.defer ⟨.value (.tmp 7),#[],#[]⟩,0, "cells.go:161",#[⟨0,.data⟩],none⟩] false:=by kernel_rfl
def ntmps16:Tryz.f12.ntmps=39:=by kernel_rfl
noncomputable def EM (E:Env)(ao:b9)(lf:Nat)(args:List ae)(h:aa):R :=
 ob (bR E 39 ((E.dy.get 12).getD []) (PF Wh)) λc0=>ob (bR E 39 ((E.dy.get 12).getD []) (ES (ES Wh))) λc2 =>
 ob (exec E ao lf c0 (dN args 0 .nil) h) λo0=>@fe.rec (λ_=>R)
   (gu (aJ (.t 2) o0.fr) λb2 i2=>gu (aJ (.t 3) o0.fr) λb3 i3 =>
    ob (exec E ao lf c2 (o0.fr.set 7 (.func 22 [] [.ptr b2 i2,.ptr b3 i3])) o0.h) λo2=>tD E Tryz.f12.results.toList o2)
   (λ_=>none) none o0.e
def TI (p q:Addr)(w:World):(invoke (.fn (.func 22) #[.pointer (some p),.pointer (some q)]) #[]).run Tryz.prog w=.ok (.enter 22 #[.pointer (some p),.pointer (some q)]) w:=by
 simp[go_sem]
def T6 {Q:Exit->Act->World->Prop}{a:Act}{w:World}{p q:Addr}(hs:39<=a.tmps.size)(h2:a.tmps.getD 2 undef=.pointer (some p))(h3:a.tmps.getD 3 undef=.pointer (some q))
 (hQ:Q .normal {tmps:=a.tmps.setIfInBounds 7 (.func (.func 22) #[] #[.pointer (some p),.pointer (some q)]),defers:={target:=.fn (.func 22) #[.pointer (some p),.pointer (some q)],args:=#[]} :: a.defers} w) :
 (PF (ES Wh)).wp Tryz.prog Q a w:=by
 rw[ahm];apply wp_region;have hmf:∀(fn:Fn)(first cap:Array Value)(w:World),(Instr.makeFunc fn first cap).run Tryz.prog w=.ok (.func fn first cap) w:=λ_ _ _ _=>rfl
 have e7:(a.tmps.setIfInBounds 7 (.func (.func 22) #[] #[.pointer (some p),.pointer (some q)])).getD 7 undef=.func (.func 22) #[] #[.pointer (some p),.pointer (some q)]:=by
  simp[qZV,qKN (show 7<a.tmps.size by omega)]
 have tH:a.eval (.tmp 2)=.pointer (some p):=h2;have h3':a.eval (.tmp 3)=.pointer (some q):=h3;have h7:7<a.tmps.size:=by omega
 have ajI:a.tmps[2]?.getD undef=.pointer (some p):=by rw[<-qZV];exact h2
 have ajL:a.tmps[3]?.getD undef=.pointer (some q):=by rw[<-qZV];exact h3
 show wpOps _ _ _ [0,1] a w;unfold wpOps;simp only[List.getElem?_toArray,qWM];rw[if_pos (by simp[Region.wanted])];left;simp[Oper.wp,go_sem,Oper.upon,ajI,ajL];unfold wpOps;simp only[List.getElem?_toArray,qWM,qJC];rw[if_pos (by simp[Region.wanted])];left;simp[Oper.wp,go_sem,Oper.upon,Act.put,Act.eval,e7,wpOps];exact hQ
def HI {E:Env}(hE:bl E Tryz.prog){ao:b9}(bJ:fC Tryz.prog ao)(lf:Nat){args:List ae}{h:aa}{v:ae}{h':aa}(hp:EM E ao lf args h=some (v,h')) :
 Enters Tryz.prog 12/\∀(K:cu)(W0:World)(ρ:Ren)(w:World)(args':Array Value),VL ρ args args'.toList->WR Tryz.prog K W0 ρ h w->Calls Tryz.prog 12 args' w (jY Tryz.prog K W0 ρ v h'):=by
 refine⟨⟨_,Tryz.func12,by kernel_rfl,by kernel_rfl⟩,λK W0 ρ w args' dG H=>?_⟩;have lr:=iS hE bJ;unfold EM at hp;rw[av]at hp;obtain⟨c0,hc0,hp⟩:=hp;rw[av]at hp;obtain⟨c2,uk,hp⟩:=hp;rw[av]at hp;obtain⟨o0,aku,hp⟩:=hp;obtain⟨oe0,KE,oh0⟩:=o0;cases oe0 with
 |exit id=>cases hp
 |ret=>cases hp
 |normal =>
  have hp:(gu (aJ (.t 2) KE) λb2 i2=>gu (aJ (.t 3) KE) λb3 i3 =>
   ob (exec E ao lf c2 (KE.set 7 (.func 22 [] [.ptr b2 i2,.ptr b3 i3])) oh0) λo2=>tD E Tryz.f12.results.toList o2)=some (v,h'):=hp
  rw[cZ]at hp;obtain⟨b2,i2,wX,hp⟩:=hp;rw[cZ]at hp;obtain⟨b3,i3,yE,hp⟩:=hp;rw[av]at hp;obtain⟨o2,abL,qw⟩:=hp;have kF:39<=(args'++Array.replicate (Tryz.f12.ntmps-args'.size) undef).size:=by rw[ntmps16];simp;omega
  refine calls_of_wp_defers Tryz.func12 aaM ?_;apply wp_seq;refine wp_mono (jP hE bJ lr lf (nt:=39) (PF Wh) hc0 (a:={tmps:=args'++Array.replicate (Tryz.f12.ntmps-args'.size) undef,defers:=[]}) kF (jR dG _) H aku) λe a1 w1 hq=>?_;obtain⟨ju,k1,k2,k3⟩:=hq.rest;have hd:a1.defers=[]:=hq.defers;have he:e=.normal:=hq.e;subst he;have tw:=hq.size;show Code.wp _ _ _ a1 w1;have x2:=k2 2;have x3:=k2 3;rw[mI]at wX yE;have k22:FR ju KE a1.tmps:=k2;rw[show(((⟨.normal,KE,oh0⟩:Out).fr.get 2).getD aT)=.ptr b2 i2 from wX]at x2;rw[show(((⟨.normal,KE,oh0⟩:Out).fr.get 3).getD aT)=.ptr b3 i3 from yE]at x3;obtain⟨r2,se,e2⟩:=x2.gv;obtain⟨r3,hr3,e3⟩:=x3.gv;apply wp_seq;refine T6 tw e2 e3 ?_;show Code.wp _ _ _ _ w1
  have B0:FR ju (KE.set 7 (.func 22 [] [.ptr b2 i2,.ptr b3 i3])) (a1.tmps.setIfInBounds 7 (.func (.func 22) #[] #[.pointer (some ⟨r2.b,i2+r2.d,none⟩),.pointer (some ⟨r3.b,i3+r3.d,none⟩)])) :=
   k22.set (by omega) (.func rfl .nil (.cons (.ptr se) (.cons (.ptr hr3) .nil)))
  refine wp_mono (jP hE bJ lr lf (nt:=39) (ES (ES Wh)) uk (a:={tmps:=a1.tmps.setIfInBounds 7 (.func (.func 22) #[] #[.pointer (some ⟨r2.b,i2+r2.d,none⟩),.pointer (some ⟨r3.b,i3+r3.d,none⟩)]),defers:={target:=.fn (.func 22) #[.pointer (some ⟨r2.b,i2+r2.d,none⟩),.pointer (some ⟨r3.b,i3+r3.d,none⟩)],args:=#[]} :: a1.defers}) (by simpa using tw) B0 k3 abL) λe a2 w2 wF=>?_;obtain⟨yW,m1,m2,m3⟩:=wF.rest;have hd2:a2.defers={target:=.fn (.func 22) #[.pointer (some ⟨r2.b,i2+r2.d,none⟩),.pointer (some ⟨r3.b,i3+r3.d,none⟩)],args:=#[]} :: []:=by rw[wF.defers,hd]
  have gW:∀{oh:aa}{kG:Fr},oh=o2.h->kG=o2.fr->(hr:bw E oh kG Tryz.f12.results.toList=some v)->oh=h'->Leaves Tryz.prog Tryz.f12 a2.tmps (jY Tryz.prog K W0 ρ v h') a2.defers .returning w2:=by
   intro oh kG e1 e2 hr hh;subst e1;subst e2;rw[hd2];refine leaves_cons (f:=22) (args:=#[.pointer (some ⟨r2.b,i2+r2.d,none⟩),.pointer (some ⟨r3.b,i3+r3.d,none⟩)]) (by simp) (TI _ _ _) ?_;refine(HH _ _ _).mono ?_;rintro e u' w'' ⟨rfl,rfl,rfl⟩;obtain⟨v',q1,q2⟩:=gH hE m2 m3 hr;show Leaves Tryz.prog Tryz.f12 a2.tmps _ [] .returning w'';exact⟨v',q1,v',yW,rfl,Ren.le_trans k1 m1,q2,hh▸m3⟩
  obtain⟨oe,kG,oh⟩:=o2;have wE:=wF.e;cases oe with
  |exit id=>cases qw
  |normal =>
   have gj:(ob (bw E oh kG Tryz.f12.results.toList) λv=>some (v,oh))=some (v,h'):=qw;rw[av]at gj;obtain⟨v1,hr,gj⟩:=gj;cases gj;rw[wE];exact gW rfl rfl hr rfl
  |ret =>
   have gj:(ob (bw E oh kG Tryz.f12.results.toList) λv=>some (v,oh))=some (v,h'):=qw;rw[av]at gj;obtain⟨v1,hr,gj⟩:=gj;cases gj;rw[wE];exact gW rfl rfl hr rfl
noncomputable def nJ:Code->Code|.seq a _=>a|c=>c
noncomputable def gL:Code->Code|.seq _ b=>b|c=>c
noncomputable def aaP:Code->Code|.block _ b=>b|c=>c
noncomputable def aeD:Code->Code|.loop b=>b|c=>c
noncomputable def ajg:Code->Array Oper|.region _ ops _=>ops|_=>#[]
noncomputable def cRA:Code->Code|.rangeFunc _ _ a _=>a|c=>c
noncomputable def cRB:Code->Code|.rangeFunc _ _ _ b=>b|c=>c
noncomputable def c69:Code:=Tryz.f49.body.getD .skip
noncomputable def i0:Code:=nJ c69
noncomputable def i1:Code:=nJ (gL c69)
noncomputable def iLB:Code:=aeD (aaP (gL (gL c69)))
noncomputable def iX:Code:=aaP (nJ iLB)
noncomputable def i2:Code:=gL iLB
noncomputable def i3:Code:=nJ iX
noncomputable def kP:Array Oper:=ajg (nJ (gL iX))
def aaN:Tryz.f49.body=some (.seq i0 (.seq i1 (.block 0 (.loop (.seq (.block 1 (.seq i3 (.seq (.region 4 kP false) (.cond (.tmp 29) .ret .skip)))) i2))))):=by kernel_rfl
noncomputable def o5:Oper:=(kP[5]?).getD default
def aaf:kP[5]?=some o5:=by kernel_rfl
def aag:o5.op=.call {callee:=.value (.tmp 25),args:=#[.tmp 26],argTypes:=#[49]}:=by kernel_rfl
def acO:o5.dst=some 27:=by kernel_rfl
def Pl:kP.size=8:=by kernel_rfl
def ntmps69:Tryz.f49.ntmps=30:=by kernel_rfl
def ahA:Tryz.f49.results=#[]:=by kernel_rfl
noncomputable def c38:Code:=Tryz.f14.body.getD .skip
noncomputable def b0:Code:=nJ c38
noncomputable def b1:Code:=nJ (gL c38)
noncomputable def b2:Code:=nJ (gL (gL c38))
noncomputable def b3:Code:=nJ (gL (gL (gL c38)))
noncomputable def b4:Code:=nJ (gL (gL (gL (gL c38))))
noncomputable def b5:Code:=nJ (gL (gL (gL (gL (gL c38)))))
noncomputable def bT:Code:=gL (gL (gL (gL (gL (gL c38)))))
noncomputable def b6:Code:=nJ (nJ bT)
noncomputable def bRF:Code:=aaP (gL (nJ bT))
noncomputable def bA:Code:=cRA bRF
noncomputable def bB:Code:=cRB bRF
noncomputable def b7:Code:=gL bT
def Rb:Tryz.f14.body=some (.seq b0 (.seq b1 (.seq b2 (.seq b3 (.seq b4 (.seq b5 (.seq (.seq b6 (.block 0 (.rangeFunc (.tmp 27) #[28] bA bB))) b7))))))):=by kernel_rfl
def ntmps38:Tryz.f14.ntmps=38:=by kernel_rfl
def adb:lO bA=true:=by kernel_rfl
def ade:lO bB=true:=by kernel_rfl
def JE {a:Act}{w:World}{l:Nat}{x:Value}{r:Loop}(hl:w.heap[l]?=some (.loop r))(hp:r.params=#[28])(Qc:a.eval (.tmp 25)=.func (.yield l) #[] #[])(h26:a.eval (.tmp 26)=x) :
 (execOp a.eval o5).run Tryz.prog w=.ok (.round l r.fn (r.tmps.setIfInBounds 28 x) r.assign r.body) w:=by
 have hy:=run_yield (P:=Tryz.prog) (args:=#[x]) hl (by rw[hp];rfl);rw[hp]at hy;unfold execOp;rw[aag];have ajJ:a.tmps[25]?.getD undef=.func (.yield l) #[] #[]:=by rw[<-qZV];exact Qc
 have ajK:a.tmps[26]?.getD undef=x:=by rw[<-qZV];exact h26
 have Ou:(Instr.yield l #[x]).run Tryz.prog w=.ok (.round l r.fn (r.tmps.setIfInBounds 28 x) r.assign r.body) w:=by simpa using hy
 simp[go_sem,ajJ,ajK,Ou]
noncomputable def ni (E:Env)(fo:Fr)(arg:ae)(h:aa):Option (aa×Bool) :=
 ob (bR E 38 ((E.dy.get 14).getD []) bA) λcA=>ob (bR E 38 ((E.dy.get 14).getD []) bB) λcB =>
 ob (exec E cj 0 cA (fo.set 28 arg) h) λo1=>@fe.rec (λ_=>Option (aa×Bool))
   (ob (exec E cj 0 cB o1.fr o1.h) λo2=>@fe.rec (λ_=>Option (aa×Bool)) (some (o2.h,true)) (λi=>aO (Nat.beq i 0) (some (o2.h,false)) none) none o2.e) (λ_=>none) none o1.e
def yR (g:Bool)(rec:Loop):Loop:=match g with
 |true=>rec
 |false=>{rec with state:=.done,pending:=some (.exit 0)}
section
variable{E:Env}{K:cu}{W0:World}{ρ:Ren}{h:aa}{w:World}
def HS (hE:bl E Tryz.prog){n l D:Nat}{rec:Loop}(H:LW Tryz.prog K W0 ρ h w l D rec)(hlD:l≠D)(wG:rec.state=.ready)(hpe:rec.pending=none)(iq:38<=rec.tmps.size)
 {fo:Fr} (ZF:FR ρ fo rec.tmps) {arg:ae} {x:Value} (hx:V ρ arg x) {h2:aa} {g:Bool} (hr:ni E fo arg h=some (h2,g)) :
 RoundIn Fence.wide n Tryz.prog l rec.fn (rec.tmps.setIfInBounds 28 x) bA bB w λe w'=>e=.returned (.bool g)/\∃bn,ρ.le bn/\LW Tryz.prog K W0 bn h2 w' l D (yR g rec):=by
 unfold ni at hr;rw[av]at hr;obtain⟨cA,hcA,hr⟩:=hr;rw[av]at hr;obtain⟨cB,hcB,hr⟩:=hr;rw[av]at hr;obtain⟨o1,akv,hr⟩:=hr;obtain⟨e1,f1,h1⟩:=o1;cases e1 with
 |exit id=>cases hr
 |ret=>cases hr
 |normal =>
  have hr:(ob (exec E cj 0 cB f1 h1) λo2=>@fe.rec (λ_=>Option (aa×Bool)) (some (o2.h,true)) (λi=>aO (Nat.beq i 0) (some (o2.h,false)) none) none o2.e)=some (h2,g):=hr;rw[av]at hr;obtain⟨o2,abL,hr⟩:=hr;obtain⟨e2,f2,tH⟩:=o2;have hF:∀f,(Fence.wide.inRound l).fn f:=λ_=>trivial
  have fin:∀{jump:Option Code}{g':Bool},jump.isNone=g'->({rec with state:=if jump.isNone then .ready else .done,pending:=jump}:Loop)=yR g' rec->g'=g->tH=h2 ->
      ∀{w2:World}{ju yW:Ren},ρ.le ju->ju.le yW->LW Tryz.prog K W0 yW tH w2 l D {rec with state:=.busy} ->
      ∃v w',(Instr.endRound l jump).run Tryz.prog w2=.ok v w'/\(Ending.returned v=.returned (.bool g)/\∃bn,ρ.le bn/\LW Tryz.prog K W0 bn h2 w' l D (yR g rec)):=by
   intro jump g' hj vK hg hh w2 ju yW k1 m1 H3;subst hg;subst hh;refine⟨_,_,run_endRound jump H3.hl,by rw[hj],yW,Ren.le_trans k1 m1,?_⟩;have H4:=H3.put (rec':=yR g' rec) hlD;rw[<-vK] at H4 ⊢;exact H4
  refine roundIn_of_wpIn trivial ?_;refine wpIn_mono (LN hF hE 0 bA adb hcA (a:={tmps:=rec.tmps.setIfInBounds 28 x,defers:=[]}) (by simpa using iq) (ZF.set (by omega) hx) H.go akv) λe a1 w1 hq=>?_;have he:e=.normal:=hq.e;subst he;obtain⟨ju,k1,k2,k3⟩:=hq.rest;have H1:=H.back k3;refine⟨_,run_beginRound H1.hl wG,?_⟩;have H2:=H1.put (rec':={rec with state:=.busy}) hlD;refine wpIn_mono (LN hF hE 0 bB ade hcB hq.size k2 H2.go abL) λe a2 w2 wF=>?_;obtain⟨yW,m1,m2,m3⟩:=wF.rest;have H3:=H2.back m3;have wE:=wF.e;cases e2 with
  |ret=>cases hr
  |normal =>
   obtain⟨e1,e2⟩:=Prod.mk.inj (qKK (show some (tH,true)=some (h2,g) from hr));have wE:e=.normal:=wE;subst wE;exact fin (jump:=none) rfl (by cases rec;simp only at wG hpe;subst wG;subst hpe;rfl) e2 e1 k1 m1 H3
  |exit id =>
   have se:aO (Nat.beq id 0) (some (tH,false)) none=some (h2,g):=hr;rw[aG]at se;obtain⟨hid,se⟩:=se;have hid:id=0:=qVH hid;subst hid;obtain⟨e1,e2⟩:=Prod.mk.inj (qKK se);have wE:e=.exit 0:=wE;subst wE;exact fin (jump:=some (.exit 0)) rfl rfl e2 e1 k1 m1 H3
end
noncomputable def Qm (E:Env)(ao:b9)(lf:Nat)(fo:Fr)(nY:Nat)(c3 c2:ax)(lA:List aQ)(k5:aQ)(lB:List aQ)(m:Nat):Fr->aa->Option (aa×Bool) :=
 @Nat.rec (λ_=>Fr->aa->Option (aa×Bool)) (λ_ _=>none) (λ_ ih fr h =>
  ob (exec E ao lf c3 fr h) λo=>@fe.rec (λ_=>Option (aa×Bool))
    (ob (cP E cj lA o.fr o.h) λp=>bK (aJ (.t 24) p.1) λt24=>aO t24
     (ob (cP E cj (k5 :: lB) p.1 p.2) λq=>bK (aJ (.t 29) q.1) λt29=>aO t29 (some (q.2,true)) none)
     (aO (and (bj k5.guard p.1) (dz 5 (aJ (.t 25) p.1) (.func (1000000000+nY) [] [])))
      (ob (ni E fo (aJ (.t 26) p.1) p.2) λh2=>ob (cP E cj lB (p.1.set 27 (.bool h2.2)) h2.1) λq=>bK (aJ (.t 29) q.1) λt29=>aO t29 (aO h2.2 none (some (q.2,false)))
       (aO h2.2 (ob (exec E ao lf c2 q.1 q.2) λo2=>@fe.rec (λ_=>Option (aa×Bool)) (ih o2.fr o2.h) (λ_=>none) none o2.e) none)) none))
    (λ_=>none) none o.e) m
def V.YW {ρ:Ren}{m:Nat}{v:Value}(h:V ρ (.func m [] []) v)(hm:1000000000<=m):∃n r,m=1000000000+n/\ρ n=some r/\v=.func (.yield r.b) #[] #[]:=by
 cases h with
 |func dL _ _=>rw[qJE]at dL;omega
 |yld he=>exact⟨_,_,rfl,he,rfl⟩
section
variable{E:Env}{K:cu}{W0:World}
def ItQ (K:cu)(W0:World)(ρs:Ren)(h':aa)(l D:Nat)(rec:Loop)(e:Exit)(a:Act)(w:World):Prop :=
 e=.ret/\a.defers=[]/\∃bn,ρs.le bn/\LW Tryz.prog K W0 bn h' w l D rec
def OC (hE:bl E Tryz.prog){ao:b9}(bJ:fC Tryz.prog ao)(lf:Nat){n l D:Nat}{rec:Loop}(hlD:l≠D)(wG:rec.state=.ready)(hpe:rec.pending=none)(iq:38<=rec.tmps.size)(hpa:rec.params=#[28])
 (hra:rec.assign=bA) (hrb:rec.body=bB) {fo:Fr} {nY:Nat} {pl:List (Nat×List Nat)} {c3 c2:ax} {lA lB:List aQ} {k5:aQ} (hc3:bR E 30 pl i3=some c3) (uk:bR E 30 pl i2=some c2)
 (hlA:[0,1,2,3,4].mapM (λi=>(kP[i]?).bind (gi E 30 kP))=some lA) (hk5:gi E 30 kP o5=some k5) (hlB:[6,7].mapM (λi=>(kP[i]?).bind (gi E 30 kP))=some lB) {h':aa} {g:Bool} {ρs:Ren} :
 ∀(m:Nat){fr:Fr}{h:aa}{ρ:Ren}{a:Act}{w:World},ρs.le ρ->(∃r,ρ nY=some r/\r.b=l)->a.defers=[]->30<=a.tmps.size->FR ρ fr a.tmps->FR ρ fo rec.tmps->LW Tryz.prog K W0 ρ h w l D rec ->
  Qm E ao lf fo nY c3 c2 lA k5 lB m fr h=some (h',g) ->
  Code.roundsIn Fence.wide n Tryz.prog (.seq (.block 1 (.seq i3 (.seq (.region 4 kP false) (.cond (.tmp 29) .ret .skip)))) i2) (ItQ K W0 ρs h' l D (yR g rec)) m a w:=by
 have lr:=iS hE bJ;have hF:∀f,Fence.wide.fn f:=λ_=>trivial;intro m
 induction m with
 |zero=>intro fr h ρ a w _ _ _ _ _ _ _ hs;cases hs
 |succ m ih =>
  intro fr h ρ a w hle hY hd tw hf ZF H hs
  have ar:(ob (exec E ao lf c3 fr h) λo=>@fe.rec (λ_=>Option (aa×Bool))
   (ob (cP E cj lA o.fr o.h) λp=>bK (aJ (.t 24) p.1) λt24=>aO t24
    (ob (cP E cj (k5 :: lB) p.1 p.2) λq=>bK (aJ (.t 29) q.1) λt29=>aO t29 (some (q.2,true)) none)
    (aO (and (bj k5.guard p.1) (dz 5 (aJ (.t 25) p.1) (.func (1000000000+nY) [] [])))
     (ob (ni E fo (aJ (.t 26) p.1) p.2) λh2=>ob (cP E cj lB (p.1.set 27 (.bool h2.2)) h2.1) λq=>bK (aJ (.t 29) q.1) λt29=>aO t29 (aO h2.2 none (some (q.2,false)))
      (aO h2.2 (ob (exec E ao lf c2 q.1 q.2) λo2=>@fe.rec (λ_=>Option (aa×Bool)) (Qm E ao lf fo nY c3 c2 lA k5 lB m o2.fr o2.h) (λ_=>none) none o2.e) none)) none))
   (λ_=>none) none o.e)=some (h',g):=hs
  rw[av]at ar;obtain⟨o,hex,ar⟩:=ar;obtain⟨e1,f1,h1⟩:=o;cases e1 with
  |exit id=>cases ar
  |ret=>cases ar
  |normal =>
   have qx:(ob (cP E cj lA f1 h1) λp=>bK (aJ (.t 24) p.1) λt24=>aO t24
    (ob (cP E cj (k5 :: lB) p.1 p.2) λq=>bK (aJ (.t 29) q.1) λt29=>aO t29 (some (q.2,true)) none)
    (aO (and (bj k5.guard p.1) (dz 5 (aJ (.t 25) p.1) (.func (1000000000+nY) [] [])))
     (ob (ni E fo (aJ (.t 26) p.1) p.2) λh2=>ob (cP E cj lB (p.1.set 27 (.bool h2.2)) h2.1) λq=>bK (aJ (.t 29) q.1) λt29=>aO t29 (aO h2.2 none (some (q.2,false)))
      (aO h2.2 (ob (exec E ao lf c2 q.1 q.2) λo2=>@fe.rec (λ_=>Option (aa×Bool)) (Qm E ao lf fo nY c3 c2 lA k5 lB m o2.fr o2.h) (λ_=>none) none o2.e) none)) none))=some (h',g):=ar
   clear ar hs;rw[av]at qx;obtain⟨⟨f2,h2⟩,hrA,qx⟩:=qx;rw[eh]at qx;obtain⟨t24,arh,qx⟩:=qx;rw[roundsIn_succ];apply wpIn_seq;apply wpIn_block;apply wpIn_seq;refine wpIn_mono (wpIn_wide.2 (jP hE bJ lr lf i3 hc3 tw hf H.go hex)) λe a1 w1 hq=>?_;have he:e=.normal:=hq.e;subst he;obtain⟨ju,k1,k2,k3⟩:=hq.rest;have H1:=H.back k3;show Code.wpIn _ _ _ _ _ a1 w1;apply wpIn_seq;apply wpIn_region;rw[Pl];show wpOpsIn _ _ _ _ _ ([0,1,2,3,4]++[5,6,7]) a1 w1;refine td hF hE lA [0,1,2,3,4] hlA hq.size k2 H1.go hrA λa2 w2 wF=>?_;obtain⟨d2,z2,yW,m1,m2,m3⟩:=wF;have H2:=H1.back m3;have aS:ρ.le yW:=Ren.le_trans k1 m1;have akO:(kP[5]?).bind (gi E 30 kP)=some k5:=by rw[aaf];exact hk5
   cases t24 with
   |true =>
    have yM:(ob (cP E cj (k5 :: lB) f2 h2) λq=>bK (aJ (.t 29) q.1) λt29=>aO t29 (some (q.2,true)) none)=some (h',g):=qx;rw[av]at yM;obtain⟨⟨f3,h3⟩,hrB,yM⟩:=yM;rw[eh]at yM;obtain⟨t29,Tx,yM⟩:=yM;rw[aG]at yM;obtain⟨rfl,yM⟩:=yM;cases yM
    have hl5:[5,6,7].mapM (λi=>(kP[i]?).bind (gi E 30 kP))=some (k5 :: lB):=by
     rw[qZF,akO,hlB];rfl
    rw[show([5,6,7]:List Nat)=[5,6,7]++[] from rfl];refine td hF hE (k5 :: lB) [5,6,7] hl5 z2 m2 H2.go hrB λa3 w3 hq3=>?_;obtain⟨d3,z3,ρ3,p1,p2,p3⟩:=hq3;have H3:=H2.back p3;show Code.wpIn _ _ _ _ _ a3 w3;have x29:=p2 29;rw[mI] at Tx;rw[show((f3.get 29).getD aT)=.bool true from Tx]at x29;refine wpIn_cond (t:=true) x29.iD ?_;simp only[if_true];apply wpIn_ret;exact⟨rfl,by rw[d3,d2];exact hq.defers.trans hd,ρ3,Ren.le_trans hle (Ren.le_trans aS p1),H3⟩
   |false =>
    have yM:aO (and (bj k5.guard f2) (dz 5 (aJ (.t 25) f2) (.func (1000000000+nY) [] [])))
     (ob (ni E fo (aJ (.t 26) f2) h2) λh2=>ob (cP E cj lB (f2.set 27 (.bool h2.2)) h2.1) λq=>bK (aJ (.t 29) q.1) λt29=>aO t29 (aO h2.2 none (some (q.2,false)))
      (aO h2.2 (ob (exec E ao lf c2 q.1 q.2) λo2=>@fe.rec (λ_=>Option (aa×Bool)) (Qm E ao lf fo nY c3 c2 lA k5 lB m o2.fr o2.h) (λ_=>none) none o2.e) none)) none=some (h',g):=qx
    rw[aG]at yM;obtain⟨hg,yM⟩:=yM;rw[qZQ]at hg;obtain⟨hg,Qc⟩:=hg;have Qc:=ji _ _ _ Qc;rw[av]at yM;obtain⟨⟨h4,g4⟩,acg,yM⟩:=yM;rw[av]at yM;obtain⟨⟨f5,h5⟩,hrB,yM⟩:=yM;rw[eh]at yM;obtain⟨t29,Tx,yM⟩:=yM;have hw:Region.wanted o5 (yielded kP a2.tmps)=true:=by rw[<-pH hk5 m2];exact hg
    have x25:=m2 25;rw[mI] at Qc;rw[show((f2.get 25).getD aT)=_ from Qc]at x25
    have e25:a2.eval (.tmp 25)=.func (.yield l) #[] #[]:=by
     obtain⟨r,hr,Tq⟩:=hY;have se:=aS _ _ hr;have hx:V yW (.func (1000000000+nY) [] []) (a2.eval (.tmp 25)):=x25;obtain⟨n',r',e1,e2,e3⟩:=hx.YW (by omega);have:n'=nY:=by omega
     subst this;rw[se]at e2;cases e2;rw[e3,Tq]
    have x26:V yW (aJ (.t 26) f2) (a2.eval (.tmp 26)):=by rw[mI];exact m2 26
    show wpOpsIn _ _ _ _ _ (5 :: [6,7]) a2 w2;unfold wpOpsIn;rw[aaf];simp only[hw,if_true];refine⟨λf _=>hF f,?_⟩;rw[Oper.semAt_plain Fence.wide a2.eval o5 (λc e=>by rw[aag]at e;cases e),JE H2.hl hpa e25 rfl];refine⟨λh=>(by cases h),?_⟩;rw[hra,hrb];refine RoundIn.mono (HS hE H2 hlD wG hpe iq (ZF.mono aS) x26 acg) ?_;rintro e w3 ⟨rfl,ρ3,q1,H3⟩;show wpOpsIn _ _ _ _ _ [6,7] (a2.put o5.dst (.bool g4)) w3
    have hf3:FR ρ3 (f2.set 27 (.bool g4)) (a2.put o5.dst (.bool g4)).tmps:=by
     rw[acO];exact(m2.mono q1).set (by omega) (.bool g4)
    rw[show([6,7]:List Nat)=[6,7]++[] from rfl];refine td hF hE lB [6,7] hlB (by rw[nf];exact z2) hf3 H3.go hrB λa4 w4 hq4=>?_;obtain⟨d4,z4,ρ4,r1,r2,r3⟩:=hq4;have H4:=H3.back r3;show Code.wpIn _ _ _ _ _ a4 w4;have x29:=r2 29;rw[mI] at Tx;rw[show((f5.get 29).getD aT)=.bool t29 from Tx]at x29;refine wpIn_cond (t:=t29) x29.iD ?_;cases t29 with
    |true =>
     have Oo:aO g4 none (some (h5,false))=some (h',g):=yM;cases g4 with
     |true=>cases Oo
     |false =>
      cases Oo;simp only[if_true];apply wpIn_ret;exact⟨rfl,by rw[d4,lD,d2];exact hq.defers.trans hd,ρ4,Ren.le_trans hle (Ren.le_trans aS (Ren.le_trans q1 r1)),H4⟩
    |false =>
     have Oo:aO g4 (ob (exec E ao lf c2 f5 h5) λo2=>@fe.rec (λ_=>Option (aa×Bool)) (Qm E ao lf fo nY c3 c2 lA k5 lB m o2.fr o2.h) (λ_=>none) none o2.e) none=some (h',g):=yM;rw[aG] at Oo;obtain⟨rfl,Oo⟩:=Oo;rw[av] at Oo;obtain⟨o6,akw,Oo⟩:=Oo;obtain⟨e6,f6,h6⟩:=o6;simp only[qZJ,if_false];apply wpIn_skip;show Code.wpIn _ _ _ _ _ a4 w4;cases e6 with
     |exit id=>cases Oo
     |ret=>cases Oo
     |normal =>
      refine wpIn_mono (wpIn_wide.2 (jP hE bJ lr lf i2 uk z4 r2 H4.go akw)) λe a5 w5 hq5=>?_;have he5:e=.normal:=hq5.e;subst he5;obtain⟨ρ5,s1,s2,s3⟩:=hq5.rest;have H5:=H4.back s3;have jy:ρ.le ρ5:=Ren.le_trans aS (Ren.le_trans q1 (Ren.le_trans r1 s1));show Code.roundsIn _ _ _ _ _ m a5 w5;refine ih (Ren.le_trans hle jy) (hY.imp λr hr=>⟨jy _ _ hr.1,hr.2⟩) ?_ hq5.size s2 (ZF.mono jy) H5 Oo;rw[hq5.defers,d4,lD,d2];exact hq.defers.trans hd
end
noncomputable def It (E:Env)(ao:b9)(lf:Nat)(c:Option ax)(fr:Fr)(h:aa):Option (Fr×aa) :=
 ob c λc=>ob (exec E ao lf c fr h) λo=>@fe.rec (λ_=>Option (Fr×aa)) (some (o.fr,o.h)) (λ_=>none) none o.e
noncomputable def tO (E:Env)(ao:b9)(lf:Nat)(fo:Fr)(nY:Nat)(cap:ae)(h:aa):Option (aa×Bool) :=
 ob (bR E 30 ((E.dy.get 49).getD []) i3) λc3=>ob (bR E 30 ((E.dy.get 49).getD []) i2) λc2 =>
 ob ([0,1,2,3,4].mapM λi=>(kP[i]?).bind (gi E 30 kP)) λlA=>ob (gi E 30 kP o5) λk5=>ob ([6,7].mapM λi=>(kP[i]?).bind (gi E 30 kP)) λlB =>
 ob (It E ao lf (bR E 30 ((E.dy.get 49).getD []) i0) (dN [.func (1000000000+nY) [] [],cap] 0 .nil) h) λp =>
 ob (It E ao lf (bR E 30 ((E.dy.get 49).getD []) i1) p.1 p.2) λq=>Qm E ao lf fo nY c3 c2 lA k5 lB 1100 q.1 q.2
section
variable{E:Env}{K:cu}{W0:World}
def wq {P:Program}[Lay P](hE:bl E P){ao:b9}(bJ:fC P ao)(lf:Nat){n nt:Nat}{pl:List (Nat×List Nat)}{c y:Code}{ρ:Ren}{fr f1:Fr}{h h1:aa}{w:World}{a:Act}{Q:Exit->Act->World->Prop}
 (hex:It E ao lf (bR E nt pl c) fr h=some (f1,h1)) (hn:nt<=a.tmps.size) (hf:FR ρ fr a.tmps) (H:WR P K W0 ρ h w)
 (hk:∀a1 w1 ju,ρ.le ju->a1.defers=a.defers->nt<=a1.tmps.size->FR ju f1 a1.tmps->WR P K W0 ju h1 w1->y.wpIn Fence.wide n P Q a1 w1):(Code.seq c y).wpIn Fence.wide n P Q a w:=by
 unfold It at hex;rw[av]at hex;obtain⟨cc,hc,hex⟩:=hex;rw[av]at hex;obtain⟨o,hx,hex⟩:=hex;obtain⟨e1,g1,q1⟩:=o;cases e1 with
 |exit id=>cases hex
 |ret=>cases hex
 |normal =>
  cases hex;apply wpIn_seq;refine wpIn_mono (wpIn_wide.2 (jP hE bJ (iS hE bJ) lf c hc hn hf H hx)) λe a1 w1 hq=>?_;have he:e=.normal:=hq.e;subst he;obtain⟨ju,k1,k2,k3⟩:=hq.rest;exact hk a1 w1 ju k1 hq.defers hq.size k2 k3
def Kf (hE:bl E Tryz.prog){ao:b9}(bJ:fC Tryz.prog ao)(lf:Nat){n l D:Nat}{rec:Loop}(hlD:l≠D)(wG:rec.state=.ready)(hpe:rec.pending=none)(iq:38<=rec.tmps.size)(hpa:rec.params=#[28])
 (hra:rec.assign=bA) (hrb:rec.body=bB) {fo:Fr} {nY:Nat} {cap:ae} {vh:Value} {h h':aa} {g:Bool} {ρ:Ren} {w:World} (hY:∃r,ρ nY=some r/\r.b=l) (lL:V ρ cap vh) (ZF:FR ρ fo rec.tmps)
 (H:LW Tryz.prog K W0 ρ h w l D rec) (hs:tO E ao lf fo nY cap h=some (h',g)) :
 CallsIn Fence.wide n Tryz.prog 49 #[.func (.yield l) #[] #[],vh] w λe w'=>(∃v,e=.returned v)/\∃bn,ρ.le bn/\LW Tryz.prog K W0 bn h' w' l D (yR g rec):=by
 unfold tO at hs;rw[av]at hs;obtain⟨c3,hc3,hs⟩:=hs;rw[av]at hs;obtain⟨c2,uk,hs⟩:=hs;rw[av]at hs;obtain⟨lA,hlA,hs⟩:=hs;rw[av]at hs;obtain⟨k5,hk5,hs⟩:=hs;rw[av]at hs;obtain⟨lB,hlB,hs⟩:=hs;rw[av]at hs;obtain⟨⟨f0,h0⟩,uq,hs⟩:=hs;rw[av]at hs;obtain⟨⟨f1,h1⟩,Ff,hs⟩:=hs;refine callsIn_wide.2 (calls_of_wp Tryz.func49 aaN ((wpIn_wide (n:=n)).1 ?_));obtain⟨rY,hrY,Tq⟩:=hY
 have dG:VL ρ [.func (1000000000+nY) [] [],cap] (#[.func (.yield l) #[] #[],vh]:Array Value).toList:=by
  refine .cons ?_ (.cons lL .nil);rw[<-Tq];exact .yld hrY
 have kF:30<=((#[.func (.yield l) #[] #[],vh]:Array Value)++Array.replicate (Tryz.f49.ntmps-(#[.func (.yield l) #[] #[],vh]:Array Value).size) undef).size:=by rw[ntmps69];simp
 refine wq hE bJ lf uq (a:={tmps:=(#[.func (.yield l) #[] #[],vh]:Array Value)++Array.replicate (Tryz.f49.ntmps-(#[.func (.yield l) #[] #[],vh]:Array Value).size) undef,defers:=[]}) kF (jR dG _) H.go λa1 w1 ju k1 d1 z1 g1 H1=>?_;have L1:=H.back H1;refine wq hE bJ lf Ff z1 g1 L1.go λa2 w2 yW k2 d2 z2 g2 H2=>?_;have L2:=L1.back H2;apply wpIn_block;refine wpIn_loop_rounds 1100 ?_;have hle:=Ren.le_trans k1 k2;have hr:=OC (n:=n) (ρs:=ρ) hE bJ lf hlD wG hpe iq hpa hra hrb hc3 uk hlA hk5 hlB 1100 hle ⟨rY,hle _ _ hrY,Tq⟩ (by rw[d2,d1]) z2 g2 (ZF.mono hle) L2 hs
 have key:∀(m:Nat)(a:Act)(w:World),Code.roundsIn Fence.wide n Tryz.prog (.seq (.block 1 (.seq i3 (.seq (.region 4 kP false) (.cond (.tmp 29) .ret .skip)))) i2) (ItQ K W0 ρ h' l D (yR g rec)) m a w ->
     Code.roundsIn Fence.wide n Tryz.prog (.seq (.block 1 (.seq i3 (.seq (.region 4 kP false) (.cond (.tmp 29) .ret .skip)))) i2) (Exit.inBlock 0 (bodyPost Tryz.prog Tryz.f49 λe w'=>(∃v,e=.returned v)/\∃bn,ρ.le bn/\LW Tryz.prog K W0 bn h' w' l D (yR g rec))) m a w:=by
  intro m
  induction m with
  |zero=>intro a w h;exact h
  |succ m ih =>
   intro a w h;rw[roundsIn_succ]at h ⊢;refine wpIn_mono h λe a1 w1 hq=>?_
   have nN:∀e,ItQ K W0 ρ h' l D (yR g rec) e a1 w1->Exit.inBlock 0 (bodyPost Tryz.prog Tryz.f49 λe w'=>(∃v,e=.returned v)/\∃bn,ρ.le bn/\LW Tryz.prog K W0 bn h' w' l D (yR g rec)) e a1 w1:=by
    rintro e ⟨rfl,hd,hR⟩
    have als:(results Tryz.f49 a1.tmps).run Tryz.prog w1=.ok (.tuple #[]) w1:=by
     unfold results;rw[ahA];simp
    exact⟨hd,_,als,⟨_,rfl⟩,hR⟩
   cases e with
   |normal=>exact ih a1 w1 hq
   |exit id=>exact nN _ hq
   |goto id=>exact nN _ hq
   |ret=>exact nN _ hq
   |panic c=>exact nN _ hq
   |outgrown=>exact nN _ hq
 exact key 1100 _ _ hr
end
noncomputable def Lt (E:Env)(ao:b9)(lf:Nat)(args:List ae)(h:aa):R :=
 ob (It E ao lf (bR E 38 ((E.dy.get 14).getD []) b0) (dN args 0 .nil) h) λp0 =>
 ob (It E ao lf (bR E 38 ((E.dy.get 14).getD []) b1) p0.1 p0.2) λp1 =>
 ob (It E ao lf (bR E 38 ((E.dy.get 14).getD []) b2) p1.1 p1.2) λp2 =>
 ob (It E ao lf (bR E 38 ((E.dy.get 14).getD []) b3) p2.1 p2.2) λp3 =>
 ob (It E ao lf (bR E 38 ((E.dy.get 14).getD []) b4) p3.1 p3.2) λp4 =>
 ob (It E ao lf (bR E 38 ((E.dy.get 14).getD []) b5) p4.1 p4.2) λp5 =>
 ob (It E ao lf (bR E 38 ((E.dy.get 14).getD []) b6) p5.1 p5.2) λp6 =>
 A5 (aJ (.t 27) p6.1) λf fs cs=>match fs,cs with
  |[],[cap]=>aO (Nat.beq f 49) (ob (tO E ao lf p6.1 p6.2.next cap ⟨Nat.succ p6.2.next,p6.2.t⟩) λh2 =>
     ob (bR E 38 ((E.dy.get 14).getD []) b7) λc7=>ob (exec E ao lf c7 p6.1 h2.1) λo=>tD E Tryz.f14.results.toList o) none
  |_,_=>none
section
variable{E:Env}
def yo (hE:bl E Tryz.prog){ao:b9}(bJ:fC Tryz.prog ao)(lf:Nat){K:cu}{W0:World}{MM:Ren}{f6:Fr}{h6 hI:aa}{gI:Bool}{w6:World}{a6:Act}{cap:ae}{Q:Exit->Act->World->Prop}
 (Zw:aJ (.t 27) f6=.func 49 [] [cap]) (B3:tO E ao lf f6 h6.next cap ⟨Nat.succ h6.next,h6.t⟩=some (hI,gI)) (z6:38<=a6.tmps.size) (g6:FR MM f6 a6.tmps) (H6:WR Tryz.prog K W0 MM h6 w6)
 (hk:∀(w8:World)(ρ7:Ren)(rec':Loop),MM.le ρ7->LW Tryz.prog K W0 ρ7 hI w8 (w6.heap.size+1) w6.heap.size rec'->Q .normal {a6 with defers:=[{target:=.collected w6.heap.size,args:=#[]}]++a6.defers} w8) :
 (Code.block 0 (.rangeFunc (.tmp 27) #[28] bA bB)).wpIn Fence.wide 0 Tryz.prog Q a6 w6:=by
 have x27:=g6 27;rw[mI] at Zw;rw[Zw]at x27;obtain⟨wV,cap',e27,v1,v2⟩:=x27.pG rfl
 have abP:wV=#[]:=by
  rcases wV with⟨fl⟩;have v1':VL MM [] fl:=v1;cases v1';rfl
 obtain⟨vh,hcv,lL⟩:∃vh,cap'=#[vh]/\V MM cap vh:=by
  rcases cap' with⟨cl⟩;have v2':VL MM [cap] cl:=v2;cases v2' with
  |cons hx hl=>cases hl;exact⟨_,rfl,hx⟩
 subst abP;subst hcv;have e27:a6.eval (.tmp 27)=.func (.func 49) #[] #[vh]:=e27;apply wpIn_block;refine wpIn_rangeFunc λfn _=>?_
 let rc:Loop:={state:=.ready,pending:=none,fn,tmps:=a6.tmps,params:=#[28],assign:=bA,body:=bB,defers:=w6.heap.size}
 have SP:LW Tryz.prog K W0 MM h6 ((w6.alloc (.deferred (some []))).alloc (.loop rc)) (w6.heap.size+1) w6.heap.size rc:=LW.start H6 rc;have hL1:LW Tryz.prog K W0 MM ⟨Nat.succ h6.next,h6.t⟩ ((w6.alloc (.deferred (some []))).alloc (.loop rc)) (w6.heap.size+1) w6.heap.size rc:=SP.bump (Nat.le_succ _);have x8:MM h6.next=none:=(H6.fresh _ (qQY _)).1
 have hL2:LW Tryz.prog K W0 (MM.rB h6.next ⟨w6.heap.size+1,0,none,mz⟩) ⟨Nat.succ h6.next,h6.t⟩ ((w6.alloc (.deferred (some []))).alloc (.loop rc)) (w6.heap.size+1) w6.heap.size rc :=
  hL1.rB x8 (qJA _) H6.nx
 have VE:=Ren.iZ (⟨w6.heap.size+1,0,none,mz⟩:RB) x8
 refine⟨w6.heap.size+1,[{target:=.collected w6.heap.size,args:=#[]}],(w6.alloc (.deferred (some []))).alloc (.loop rc),{target:=.fn (.func 49) #[vh],args:=#[.func (.yield (w6.heap.size+1)) #[] #[]]},
  (w6.alloc (.deferred (some []))).alloc (.loop rc),49,#[.func (.yield (w6.heap.size+1)) #[] #[],vh],(w6.alloc (.deferred (some []))).alloc (.loop rc),?_,?_,λ_ _=>trivial,?_,λh=>(by cases h),?_⟩
 .exact run_enterLoop_outer _ _ _ _ _
 .simp only[resolve,e27];simp[go_sem]
 .have hcf:∀args w,(callFunc 49 args).run Tryz.prog w=.ok (.enter 49 args) w:=λargs w=>kp (P:=Tryz.prog) (f:=49) ⟨_,Tryz.func49,by kernel_rfl,by kernel_rfl⟩ args;simp[invoke,go_sem,hcf]
 .have akK:=Kf (n:=0-1) hE bJ lf (l:=w6.heap.size+1) (D:=w6.heap.size) (rec:=rc) (by omega) rfl rfl z6 rfl rfl rfl (fo:=f6) ⟨_,Ren.fq _ _ _,rfl⟩ (lL.mono VE) (g6.mono VE) hL2 B3;refine akK.mono ?_;rintro e w7 ⟨⟨vr,rfl⟩,ρ7,k7,L7⟩;refine⟨_,_,run_endLoop L7.hl (by cases gI<;>simp[rc,yR]),?_⟩;have L8:=L7.put (rec':={yR gI rc with state:=.exhausted}) (by omega);have hq:=hk _ ρ7 _ (Ren.le_trans VE k7) L8;cases gI with
  |true=>exact hq
  |false =>
   show Code.wpIn _ _ _ _ _ _ _;apply wpIn_exit;exact hq
def IU (hE:bl E Tryz.prog){ao:b9}(bJ:fC Tryz.prog ao)(lf:Nat){args:List ae}{h:aa}{v:ae}{h':aa}(hp:Lt E ao lf args h=some (v,h')) :
 Enters Tryz.prog 14/\∀(K:cu)(W0:World)(ρ:Ren)(w:World)(args':Array Value),VL ρ args args'.toList->WR Tryz.prog K W0 ρ h w->Calls Tryz.prog 14 args' w (jY Tryz.prog K W0 ρ v h'):=by
 refine⟨⟨_,Tryz.func14,by kernel_rfl,by kernel_rfl⟩,λK W0 ρ w args' dG H=>?_⟩;unfold Lt at hp;rw[av]at hp;obtain⟨⟨f0,h0⟩,uq,hp⟩:=hp;rw[av]at hp;obtain⟨⟨f1,h1⟩,Ff,hp⟩:=hp;rw[av]at hp;obtain⟨⟨f2,h2⟩,kx,hp⟩:=hp;rw[av]at hp;obtain⟨⟨f3,h3⟩,Ot,hp⟩:=hp;rw[av]at hp;obtain⟨⟨f4,h4⟩,hx4,hp⟩:=hp;rw[av]at hp;obtain⟨⟨f5,h5⟩,TB,hp⟩:=hp;rw[av]at hp;obtain⟨⟨f6,h6⟩,hx6,hp⟩:=hp;rw[oa]at hp;obtain⟨fi,fs,cs,Zw,hp⟩:=hp
 match fs,cs,Zw,hp with
 |[],[cap],Zw,hp =>
  have pK:aO (Nat.beq fi 49) (ob (tO E ao lf f6 h6.next cap ⟨Nat.succ h6.next,h6.t⟩) λh2 =>
      ob (bR E 38 ((E.dy.get 14).getD []) b7) λc7=>ob (exec E ao lf c7 f6 h2.1) λo=>tD E Tryz.f14.results.toList o) none=some (v,h'):=hp
  rw[aG]at pK;obtain⟨hfi,pK⟩:=pK;have hfi:fi=49:=qVH hfi;subst hfi;rw[av]at pK;obtain⟨⟨hI,gI⟩,B3,pK⟩:=pK;rw[av]at pK;obtain⟨c7,hc7,pK⟩:=pK;rw[av]at pK;obtain⟨o7,XL,qw⟩:=pK;refine(callsIn_wide (n:=0)).1 (callsIn_of_wp_marks Tryz.func14 Rb trivial ?_);have kF:38<=(args'++Array.replicate (Tryz.f14.ntmps-args'.size) undef).size:=by rw[ntmps38];simp;omega
  refine wq hE bJ lf uq (a:={tmps:=args'++Array.replicate (Tryz.f14.ntmps-args'.size) undef,defers:=[]}) kF (jR dG _) H λa0 w0 pY k0 d0 z0 g0 H0=>?_;refine wq hE bJ lf Ff z0 g0 H0 λa1 w1 ju k1 d1 z1 g1 H1=>?_;refine wq hE bJ lf kx z1 g1 H1 λa2 w2 yW k2 d2 z2 g2 H2=>?_;refine wq hE bJ lf Ot z2 g2 H2 λa3 w3 ρ3 k3 d3 z3 g3 H3=>?_;refine wq hE bJ lf hx4 z3 g3 H3 λa4 w4 ρ4 k4 d4 z4 g4 H4=>?_;refine wq hE bJ lf TB z4 g4 H4 λa5 w5 ρ5 k5 d5 z5 g5 H5=>?_;apply wpIn_seq;refine wq hE bJ lf hx6 z5 g5 H5 λa6 w6 MM k6 d6 z6 g6 H6=>?_;have hd6:a6.defers=[]:=by rw[d6,d5,d4,d3,d2,d1,d0]
  have qt:ρ.le MM:=Ren.le_trans k0 (Ren.le_trans k1 (Ren.le_trans k2 (Ren.le_trans k3 (Ren.le_trans k4 (Ren.le_trans k5 k6)))));refine yo hE bJ lf Zw B3 z6 g6 H6 λw8 ρ7 rec' k7 L8=>?_;have yJ:ρ.le ρ7:=Ren.le_trans qt k7;show Code.wpIn _ _ _ _ _ _ _;refine wpIn_mono (wpIn_wide.2 (jP hE bJ (iS hE bJ) lf b7 hc7 (a:={a6 with defers:=[{target:=.collected w6.heap.size,args:=#[]}]++a6.defers}) z6 (g6.mono k7) L8.go XL)) λe a8 w8 hq=>?_;obtain⟨ρ8,k8,g8,H8⟩:=hq.rest;have L9:=L8.back H8;have hd8:a8.defers=[{target:=.collected w6.heap.size,args:=#[]}]:=by rw[hq.defers,hd6];rfl
  have gW:∀{oh:aa}{kG:Fr},oh=o7.h->kG=o7.fr->(hr:bw E oh kG Tryz.f14.results.toList=some v)->oh=h'->LeavesInM Fence.wide 0 Tryz.prog Tryz.f14 a8.tmps (jY Tryz.prog K W0 ρ v h') a8.defers .returning w8:=by
   intro oh kG e1 e2 hr hh;subst e1;subst e2;rw[hd8];refine⟨by simp,.inl ⟨_,_,rfl,run_takeDeferred L9.hD,?_⟩⟩;have H10:WR Tryz.prog K W0 ρ8 o7.h (w8.putObj w6.heap.size (.deferred none)):=L9.wr.other (L9.ho _ (.inr rfl)).2 λm p s hm hl hs e=>L9.hid m p s hm hl hs (.inr e);obtain⟨v',q1,q2⟩:=gH hE g8 H10 hr;exact⟨v',q1,v',ρ8,rfl,Ren.le_trans yJ k8,q2,hh▸H10⟩
  obtain⟨oe,kG,oh⟩:=o7;have wE:=hq.e;cases oe with
  |exit id=>cases qw
  |normal =>
   have gj:(ob (bw E oh kG Tryz.f14.results.toList) λv=>some (v,oh))=some (v,h'):=qw;rw[av]at gj;obtain⟨v1,hr,gj⟩:=gj;cases gj;rw[wE];exact gW rfl rfl hr rfl
  |ret =>
   have gj:(ob (bw E oh kG Tryz.f14.results.toList) λv=>some (v,oh))=some (v,h'):=qw;rw[av]at gj;obtain⟨v1,hr,gj⟩:=gj;cases gj;rw[wE];exact gW rfl rfl hr rfl
end
noncomputable def aar:List (Nat×List ae×TypeId) :=
 [(804,[.slice 31 0 1 1 true,.slice 314 0 2 2 false,.slice 783 0 3 3 false],81),(31,[.str [99],.int .i64 0],129),(314,[.str [97],.int .i64 0,.str [101],.int .i64 2],129),
  (783,[.str [114,110],.int .i64 0,.str [109],.int .i64 1,.str [],.int .i64 9],129)]
noncomputable def Rk:ae:=.slice 804 0 3 3 false
noncomputable def ahK:ae:=.str [99,40,97,124,101,58,50,41,40,114,110,124,109,58,49,124,58,57,41]
noncomputable def r5:Fix:=⟨0,[ahK],[],.eC [Rk,.int .i64 0],aar,863⟩
noncomputable def aas:List (Nat×List ae×TypeId) :=
 [(8400,[.int .i64 0,.int .i64 1,.int .u8 99,.int .i64 0,.int .i64 1,.int .i64 2,.int .u8 97,.int .i64 0,.int .i64 1,.int .i64 2,.int .u8 101,.int .i64 2,.int .i64 2,.int .i64 3,.int .u8 114,.int .i64 0,.int .i64 2,.int .i64 4,.int .u8 109,.int .i64 1,.int .i64 3,.int .i64 4,.int .u8 110,.int .i64 0],52),
  (8402,[.int .i64 2,.int .i64 9,.int .i64 4,.int .i64 0],56)]
noncomputable def Y8:ae:=.agg [.int .i64 5,.slice 8400 0 6 6 false,.slice 8402 0 2 2 false]
noncomputable def Gs:Fix:=⟨863,[Rk],aar,.eC [Y8,.int .i64 0],aas,8909⟩
noncomputable def ahB:List (Nat×List ae×TypeId):=[(18150,[.str [99,97,114,110],.int .i64 0,.str [99,97,109],.int .i64 1,.str [99,101,114,110],.int .i64 2,.str [99,101,109],.int .i64 3,.str [99,97],.int .i64 9,.str [99,101],.int .i64 11],49)]
noncomputable def ahy:ae:=.slice 18150 0 6 6 false
noncomputable def vv:Fix:=⟨8910,[Y8,.int .i64 10],aas,.eC [ahy,.int .i64 0],ahB,18153⟩
end Go.AX
