/-
  The executor at the program of this seat: what it reads of the program stands there; Parse and Best are sound for every input on which the executor ends; no further conditions.
-/
import Derived.Test.YtdlebiapcceneaaGreatDoorNfa3
import Derived.KernelRfl
import Derived.Test.YtdlebiapcceneaaGreatDoorProg
import Derived.Lib.LaidTab
import Derived.Lib.ItoaNum
import Derived.WalkKit
import Derived.Lib.Builder
import Derived.Laws.Externs
import GoSem.Claims
import Derived.Laws.IdiomCopy
import Derived.Defers
import Derived.Recover
import Derived.Laws.Pointers
set_option linter.unusedVariables false
set_option linter.unusedSimpArgs false
set_option linter.unusedSectionVars false
namespace Go.AX
open Go Go.Proofs
noncomputable def tiT : T TypeInfo :=
  (.node (some Tryz.t0) (.node (some Tryz.t1) (.node (some Tryz.t3) (.node (some Tryz.t7) (.node (some Tryz.t15) (.node (some Tryz.t31) (.node (some
  Tryz.t63) (.node (some Tryz.t127) (.node (some Tryz.t255) .nil .nil) .nil) (.node (some Tryz.t191) .nil .nil)) (.node (some Tryz.t95) (.node (some
  Tryz.t159) (.node (some Tryz.t287) .nil .nil) .nil) (.node (some Tryz.t223) .nil .nil))) (.node (some Tryz.t47) (.node (some Tryz.t79) (.node (some
  Tryz.t143) (.node (some Tryz.t271) .nil .nil) .nil) (.node (some Tryz.t207) .nil .nil)) (.node (some Tryz.t111) (.node (some Tryz.t175) .nil .nil)
  (.node (some Tryz.t239) .nil .nil)))) (.node (some Tryz.t23) (.node (some Tryz.t39) (.node (some Tryz.t71) (.node (some Tryz.t135) (.node (some
  Tryz.t263) .nil .nil) .nil) (.node (some Tryz.t199) .nil .nil)) (.node (some Tryz.t103) (.node (some Tryz.t167) .nil .nil) (.node (some Tryz.t231)
  .nil .nil))) (.node (some Tryz.t55) (.node (some Tryz.t87) (.node (some Tryz.t151) (.node (some Tryz.t279) .nil .nil) .nil) (.node (some Tryz.t215)
  .nil .nil)) (.node (some Tryz.t119) (.node (some Tryz.t183) .nil .nil) (.node (some Tryz.t247) .nil .nil))))) (.node (some Tryz.t11) (.node (some
  Tryz.t19) (.node (some Tryz.t35) (.node (some Tryz.t67) (.node (some Tryz.t131) (.node (some Tryz.t259) .nil .nil) .nil) (.node (some Tryz.t195) .nil
  .nil)) (.node (some Tryz.t99) (.node (some Tryz.t163) (.node (some Tryz.t291) .nil .nil) .nil) (.node (some Tryz.t227) .nil .nil))) (.node (some
  Tryz.t51) (.node (some Tryz.t83) (.node (some Tryz.t147) (.node (some Tryz.t275) .nil .nil) .nil) (.node (some Tryz.t211) .nil .nil)) (.node (some
  Tryz.t115) (.node (some Tryz.t179) .nil .nil) (.node (some Tryz.t243) .nil .nil)))) (.node (some Tryz.t27) (.node (some Tryz.t43) (.node (some
  Tryz.t75) (.node (some Tryz.t139) (.node (some Tryz.t267) .nil .nil) .nil) (.node (some Tryz.t203) .nil .nil)) (.node (some Tryz.t107) (.node (some
  Tryz.t171) .nil .nil) (.node (some Tryz.t235) .nil .nil))) (.node (some Tryz.t59) (.node (some Tryz.t91) (.node (some Tryz.t155) (.node (some
  Tryz.t283) .nil .nil) .nil) (.node (some Tryz.t219) .nil .nil)) (.node (some Tryz.t123) (.node (some Tryz.t187) .nil .nil) (.node (some Tryz.t251)
  .nil .nil)))))) (.node (some Tryz.t5) (.node (some Tryz.t9) (.node (some Tryz.t17) (.node (some Tryz.t33) (.node (some Tryz.t65) (.node (some
  Tryz.t129) (.node (some Tryz.t257) .nil .nil) .nil) (.node (some Tryz.t193) .nil .nil)) (.node (some Tryz.t97) (.node (some Tryz.t161) (.node (some
  Tryz.t289) .nil .nil) .nil) (.node (some Tryz.t225) .nil .nil))) (.node (some Tryz.t49) (.node (some Tryz.t81) (.node (some Tryz.t145) (.node (some
  Tryz.t273) .nil .nil) .nil) (.node (some Tryz.t209) .nil .nil)) (.node (some Tryz.t113) (.node (some Tryz.t177) .nil .nil) (.node (some Tryz.t241)
  .nil .nil)))) (.node (some Tryz.t25) (.node (some Tryz.t41) (.node (some Tryz.t73) (.node (some Tryz.t137) (.node (some Tryz.t265) .nil .nil) .nil)
  (.node (some Tryz.t201) .nil .nil)) (.node (some Tryz.t105) (.node (some Tryz.t169) .nil .nil) (.node (some Tryz.t233) .nil .nil))) (.node (some
  Tryz.t57) (.node (some Tryz.t89) (.node (some Tryz.t153) (.node (some Tryz.t281) .nil .nil) .nil) (.node (some Tryz.t217) .nil .nil)) (.node (some
  Tryz.t121) (.node (some Tryz.t185) .nil .nil) (.node (some Tryz.t249) .nil .nil))))) (.node (some Tryz.t13) (.node (some Tryz.t21) (.node (some
  Tryz.t37) (.node (some Tryz.t69) (.node (some Tryz.t133) (.node (some Tryz.t261) .nil .nil) .nil) (.node (some Tryz.t197) .nil .nil)) (.node (some
  Tryz.t101) (.node (some Tryz.t165) (.node (some Tryz.t293) .nil .nil) .nil) (.node (some Tryz.t229) .nil .nil))) (.node (some Tryz.t53) (.node (some
  Tryz.t85) (.node (some Tryz.t149) (.node (some Tryz.t277) .nil .nil) .nil) (.node (some Tryz.t213) .nil .nil)) (.node (some Tryz.t117) (.node (some
  Tryz.t181) .nil .nil) (.node (some Tryz.t245) .nil .nil)))) (.node (some Tryz.t29) (.node (some Tryz.t45) (.node (some Tryz.t77) (.node (some
  Tryz.t141) (.node (some Tryz.t269) .nil .nil) .nil) (.node (some Tryz.t205) .nil .nil)) (.node (some Tryz.t109) (.node (some Tryz.t173) .nil .nil)
  (.node (some Tryz.t237) .nil .nil))) (.node (some Tryz.t61) (.node (some Tryz.t93) (.node (some Tryz.t157) (.node (some Tryz.t285) .nil .nil) .nil)
  (.node (some Tryz.t221) .nil .nil)) (.node (some Tryz.t125) (.node (some Tryz.t189) .nil .nil) (.node (some Tryz.t253) .nil .nil))))))) (.node (some
  Tryz.t2) (.node (some Tryz.t4) (.node (some Tryz.t8) (.node (some Tryz.t16) (.node (some Tryz.t32) (.node (some Tryz.t64) (.node (some Tryz.t128)
  (.node (some Tryz.t256) .nil .nil) .nil) (.node (some Tryz.t192) .nil .nil)) (.node (some Tryz.t96) (.node (some Tryz.t160) (.node (some Tryz.t288)
  .nil .nil) .nil) (.node (some Tryz.t224) .nil .nil))) (.node (some Tryz.t48) (.node (some Tryz.t80) (.node (some Tryz.t144) (.node (some Tryz.t272)
  .nil .nil) .nil) (.node (some Tryz.t208) .nil .nil)) (.node (some Tryz.t112) (.node (some Tryz.t176) .nil .nil) (.node (some Tryz.t240) .nil .nil))))
  (.node (some Tryz.t24) (.node (some Tryz.t40) (.node (some Tryz.t72) (.node (some Tryz.t136) (.node (some Tryz.t264) .nil .nil) .nil) (.node (some
  Tryz.t200) .nil .nil)) (.node (some Tryz.t104) (.node (some Tryz.t168) .nil .nil) (.node (some Tryz.t232) .nil .nil))) (.node (some Tryz.t56) (.node
  (some Tryz.t88) (.node (some Tryz.t152) (.node (some Tryz.t280) .nil .nil) .nil) (.node (some Tryz.t216) .nil .nil)) (.node (some Tryz.t120) (.node
  (some Tryz.t184) .nil .nil) (.node (some Tryz.t248) .nil .nil))))) (.node (some Tryz.t12) (.node (some Tryz.t20) (.node (some Tryz.t36) (.node (some
  Tryz.t68) (.node (some Tryz.t132) (.node (some Tryz.t260) .nil .nil) .nil) (.node (some Tryz.t196) .nil .nil)) (.node (some Tryz.t100) (.node (some
  Tryz.t164) (.node (some Tryz.t292) .nil .nil) .nil) (.node (some Tryz.t228) .nil .nil))) (.node (some Tryz.t52) (.node (some Tryz.t84) (.node (some
  Tryz.t148) (.node (some Tryz.t276) .nil .nil) .nil) (.node (some Tryz.t212) .nil .nil)) (.node (some Tryz.t116) (.node (some Tryz.t180) .nil .nil)
  (.node (some Tryz.t244) .nil .nil)))) (.node (some Tryz.t28) (.node (some Tryz.t44) (.node (some Tryz.t76) (.node (some Tryz.t140) (.node (some
  Tryz.t268) .nil .nil) .nil) (.node (some Tryz.t204) .nil .nil)) (.node (some Tryz.t108) (.node (some Tryz.t172) .nil .nil) (.node (some Tryz.t236)
  .nil .nil))) (.node (some Tryz.t60) (.node (some Tryz.t92) (.node (some Tryz.t156) (.node (some Tryz.t284) .nil .nil) .nil) (.node (some Tryz.t220)
  .nil .nil)) (.node (some Tryz.t124) (.node (some Tryz.t188) .nil .nil) (.node (some Tryz.t252) .nil .nil)))))) (.node (some Tryz.t6) (.node (some
  Tryz.t10) (.node (some Tryz.t18) (.node (some Tryz.t34) (.node (some Tryz.t66) (.node (some Tryz.t130) (.node (some Tryz.t258) .nil .nil) .nil)
  (.node (some Tryz.t194) .nil .nil)) (.node (some Tryz.t98) (.node (some Tryz.t162) (.node (some Tryz.t290) .nil .nil) .nil) (.node (some Tryz.t226)
  .nil .nil))) (.node (some Tryz.t50) (.node (some Tryz.t82) (.node (some Tryz.t146) (.node (some Tryz.t274) .nil .nil) .nil) (.node (some Tryz.t210)
  .nil .nil)) (.node (some Tryz.t114) (.node (some Tryz.t178) .nil .nil) (.node (some Tryz.t242) .nil .nil)))) (.node (some Tryz.t26) (.node (some
  Tryz.t42) (.node (some Tryz.t74) (.node (some Tryz.t138) (.node (some Tryz.t266) .nil .nil) .nil) (.node (some Tryz.t202) .nil .nil)) (.node (some
  Tryz.t106) (.node (some Tryz.t170) .nil .nil) (.node (some Tryz.t234) .nil .nil))) (.node (some Tryz.t58) (.node (some Tryz.t90) (.node (some
  Tryz.t154) (.node (some Tryz.t282) .nil .nil) .nil) (.node (some Tryz.t218) .nil .nil)) (.node (some Tryz.t122) (.node (some Tryz.t186) .nil .nil)
  (.node (some Tryz.t250) .nil .nil))))) (.node (some Tryz.t14) (.node (some Tryz.t22) (.node (some Tryz.t38) (.node (some Tryz.t70) (.node (some
  Tryz.t134) (.node (some Tryz.t262) .nil .nil) .nil) (.node (some Tryz.t198) .nil .nil)) (.node (some Tryz.t102) (.node (some Tryz.t166) .nil .nil)
  (.node (some Tryz.t230) .nil .nil))) (.node (some Tryz.t54) (.node (some Tryz.t86) (.node (some Tryz.t150) (.node (some Tryz.t278) .nil .nil) .nil)
  (.node (some Tryz.t214) .nil .nil)) (.node (some Tryz.t118) (.node (some Tryz.t182) .nil .nil) (.node (some Tryz.t246) .nil .nil)))) (.node (some
  Tryz.t30) (.node (some Tryz.t46) (.node (some Tryz.t78) (.node (some Tryz.t142) (.node (some Tryz.t270) .nil .nil) .nil) (.node (some Tryz.t206) .nil
  .nil)) (.node (some Tryz.t110) (.node (some Tryz.t174) .nil .nil) (.node (some Tryz.t238) .nil .nil))) (.node (some Tryz.t62) (.node (some Tryz.t94)
  (.node (some Tryz.t158) (.node (some Tryz.t286) .nil .nil) .nil) (.node (some Tryz.t222) .nil .nil)) (.node (some Tryz.t126) (.node (some Tryz.t190)
  .nil .nil) (.node (some Tryz.t254) .nil .nil))))))))
noncomputable def fnT : T Func :=
  (.node (some Tryz.f0) (.node (some Tryz.f1) (.node (some Tryz.f3) (.node (some Tryz.f7) (.node (some Tryz.f15) (.node (some Tryz.f31) (.node (some
  Tryz.f63) (.node (some Tryz.f127) .nil .nil) (.node (some Tryz.f191) .nil .nil)) (.node (some Tryz.f95) (.node (some Tryz.f159) .nil .nil) .nil))
  (.node (some Tryz.f47) (.node (some Tryz.f79) (.node (some Tryz.f143) .nil .nil) (.node (some Tryz.f207) .nil .nil)) (.node (some Tryz.f111) (.node
  (some Tryz.f175) .nil .nil) .nil))) (.node (some Tryz.f23) (.node (some Tryz.f39) (.node (some Tryz.f71) (.node (some Tryz.f135) .nil .nil) (.node
  (some Tryz.f199) .nil .nil)) (.node (some Tryz.f103) (.node (some Tryz.f167) .nil .nil) .nil)) (.node (some Tryz.f55) (.node (some Tryz.f87) (.node
  (some Tryz.f151) .nil .nil) (.node (some Tryz.f215) .nil .nil)) (.node (some Tryz.f119) (.node (some Tryz.f183) .nil .nil) .nil)))) (.node (some
  Tryz.f11) (.node (some Tryz.f19) (.node (some Tryz.f35) (.node (some Tryz.f67) (.node (some Tryz.f131) .nil .nil) (.node (some Tryz.f195) .nil .nil))
  (.node (some Tryz.f99) (.node (some Tryz.f163) .nil .nil) .nil)) (.node (some Tryz.f51) (.node (some Tryz.f83) (.node (some Tryz.f147) .nil .nil)
  (.node (some Tryz.f211) .nil .nil)) (.node (some Tryz.f115) (.node (some Tryz.f179) .nil .nil) .nil))) (.node (some Tryz.f27) (.node (some Tryz.f43)
  (.node (some Tryz.f75) (.node (some Tryz.f139) .nil .nil) (.node (some Tryz.f203) .nil .nil)) (.node (some Tryz.f107) (.node (some Tryz.f171) .nil
  .nil) .nil)) (.node (some Tryz.f59) (.node (some Tryz.f91) (.node (some Tryz.f155) .nil .nil) (.node (some Tryz.f219) .nil .nil)) (.node (some
  Tryz.f123) (.node (some Tryz.f187) .nil .nil) .nil))))) (.node (some Tryz.f5) (.node (some Tryz.f9) (.node (some Tryz.f17) (.node (some Tryz.f33)
  (.node (some Tryz.f65) (.node (some Tryz.f129) .nil .nil) (.node (some Tryz.f193) .nil .nil)) (.node (some Tryz.f97) (.node (some Tryz.f161) .nil
  .nil) .nil)) (.node (some Tryz.f49) (.node (some Tryz.f81) (.node (some Tryz.f145) .nil .nil) (.node (some Tryz.f209) .nil .nil)) (.node (some
  Tryz.f113) (.node (some Tryz.f177) .nil .nil) .nil))) (.node (some Tryz.f25) (.node (some Tryz.f41) (.node (some Tryz.f73) (.node (some Tryz.f137)
  .nil .nil) (.node (some Tryz.f201) .nil .nil)) (.node (some Tryz.f105) (.node (some Tryz.f169) .nil .nil) .nil)) (.node (some Tryz.f57) (.node (some
  Tryz.f89) (.node (some Tryz.f153) .nil .nil) (.node (some Tryz.f217) .nil .nil)) (.node (some Tryz.f121) (.node (some Tryz.f185) .nil .nil) .nil))))
  (.node (some Tryz.f13) (.node (some Tryz.f21) (.node (some Tryz.f37) (.node (some Tryz.f69) (.node (some Tryz.f133) .nil .nil) (.node (some
  Tryz.f197) .nil .nil)) (.node (some Tryz.f101) (.node (some Tryz.f165) .nil .nil) .nil)) (.node (some Tryz.f53) (.node (some Tryz.f85) (.node (some
  Tryz.f149) .nil .nil) (.node (some Tryz.f213) .nil .nil)) (.node (some Tryz.f117) (.node (some Tryz.f181) .nil .nil) .nil))) (.node (some Tryz.f29)
  (.node (some Tryz.f45) (.node (some Tryz.f77) (.node (some Tryz.f141) .nil .nil) (.node (some Tryz.f205) .nil .nil)) (.node (some Tryz.f109) (.node
  (some Tryz.f173) .nil .nil) .nil)) (.node (some Tryz.f61) (.node (some Tryz.f93) (.node (some Tryz.f157) .nil .nil) .nil) (.node (some Tryz.f125)
  (.node (some Tryz.f189) .nil .nil) .nil)))))) (.node (some Tryz.f2) (.node (some Tryz.f4) (.node (some Tryz.f8) (.node (some Tryz.f16) (.node (some
  Tryz.f32) (.node (some Tryz.f64) (.node (some Tryz.f128) .nil .nil) (.node (some Tryz.f192) .nil .nil)) (.node (some Tryz.f96) (.node (some
  Tryz.f160) .nil .nil) .nil)) (.node (some Tryz.f48) (.node (some Tryz.f80) (.node (some Tryz.f144) .nil .nil) (.node (some Tryz.f208) .nil .nil))
  (.node (some Tryz.f112) (.node (some Tryz.f176) .nil .nil) .nil))) (.node (some Tryz.f24) (.node (some Tryz.f40) (.node (some Tryz.f72) (.node (some
  Tryz.f136) .nil .nil) (.node (some Tryz.f200) .nil .nil)) (.node (some Tryz.f104) (.node (some Tryz.f168) .nil .nil) .nil)) (.node (some Tryz.f56)
  (.node (some Tryz.f88) (.node (some Tryz.f152) .nil .nil) (.node (some Tryz.f216) .nil .nil)) (.node (some Tryz.f120) (.node (some Tryz.f184) .nil
  .nil) .nil)))) (.node (some Tryz.f12) (.node (some Tryz.f20) (.node (some Tryz.f36) (.node (some Tryz.f68) (.node (some Tryz.f132) .nil .nil) (.node
  (some Tryz.f196) .nil .nil)) (.node (some Tryz.f100) (.node (some Tryz.f164) .nil .nil) .nil)) (.node (some Tryz.f52) (.node (some Tryz.f84) (.node
  (some Tryz.f148) .nil .nil) (.node (some Tryz.f212) .nil .nil)) (.node (some Tryz.f116) (.node (some Tryz.f180) .nil .nil) .nil))) (.node (some
  Tryz.f28) (.node (some Tryz.f44) (.node (some Tryz.f76) (.node (some Tryz.f140) .nil .nil) (.node (some Tryz.f204) .nil .nil)) (.node (some
  Tryz.f108) (.node (some Tryz.f172) .nil .nil) .nil)) (.node (some Tryz.f60) (.node (some Tryz.f92) (.node (some Tryz.f156) .nil .nil) (.node (some
  Tryz.f220) .nil .nil)) (.node (some Tryz.f124) (.node (some Tryz.f188) .nil .nil) .nil))))) (.node (some Tryz.f6) (.node (some Tryz.f10) (.node (some
  Tryz.f18) (.node (some Tryz.f34) (.node (some Tryz.f66) (.node (some Tryz.f130) .nil .nil) (.node (some Tryz.f194) .nil .nil)) (.node (some Tryz.f98)
  (.node (some Tryz.f162) .nil .nil) .nil)) (.node (some Tryz.f50) (.node (some Tryz.f82) (.node (some Tryz.f146) .nil .nil) (.node (some Tryz.f210)
  .nil .nil)) (.node (some Tryz.f114) (.node (some Tryz.f178) .nil .nil) .nil))) (.node (some Tryz.f26) (.node (some Tryz.f42) (.node (some Tryz.f74)
  (.node (some Tryz.f138) .nil .nil) (.node (some Tryz.f202) .nil .nil)) (.node (some Tryz.f106) (.node (some Tryz.f170) .nil .nil) .nil)) (.node (some
  Tryz.f58) (.node (some Tryz.f90) (.node (some Tryz.f154) .nil .nil) (.node (some Tryz.f218) .nil .nil)) (.node (some Tryz.f122) (.node (some
  Tryz.f186) .nil .nil) .nil)))) (.node (some Tryz.f14) (.node (some Tryz.f22) (.node (some Tryz.f38) (.node (some Tryz.f70) (.node (some Tryz.f134)
  .nil .nil) (.node (some Tryz.f198) .nil .nil)) (.node (some Tryz.f102) (.node (some Tryz.f166) .nil .nil) .nil)) (.node (some Tryz.f54) (.node (some
  Tryz.f86) (.node (some Tryz.f150) .nil .nil) (.node (some Tryz.f214) .nil .nil)) (.node (some Tryz.f118) (.node (some Tryz.f182) .nil .nil) .nil)))
  (.node (some Tryz.f30) (.node (some Tryz.f46) (.node (some Tryz.f78) (.node (some Tryz.f142) .nil .nil) (.node (some Tryz.f206) .nil .nil)) (.node
  (some Tryz.f110) (.node (some Tryz.f174) .nil .nil) .nil)) (.node (some Tryz.f62) (.node (some Tryz.f94) (.node (some Tryz.f158) .nil .nil) .nil)
  (.node (some Tryz.f126) (.node (some Tryz.f190) .nil .nil) .nil)))))))
noncomputable def prT : T Prim :=
  (.node none .nil (.node none (.node none .nil (.node none (.node none .nil (.node (some (.copyCheck 52)) .nil .nil)) .nil)) (.node none .nil (.node
  none .nil (.node none (.node none (.node (some (.consts [([.int .u64 1], .int .i64 1), ([.int .u64 101], .int .i64 3), ([.int .u64 109], .int .i64
  3), ([.int .u64 110], .int .i64 3), ([.int .u64 114], .int .i64 3)])) .nil .nil) .nil) .nil)))))
noncomputable def eqT : T (List (Nat × FK)) :=
  (.node none (.node none (.node none (.node none .nil (.node none (.node none (.node (some [(0, .s), (1, .i)]) .nil .nil) .nil) (.node none (.node (some
  [(0, .i), (1, .i)]) .nil .nil) .nil))) .nil) (.node none (.node none .nil (.node none .nil (.node (some [(0, .s), (1, .i)]) .nil .nil))) .nil))
  (.node none (.node none .nil (.node none (.node none (.node none .nil (.node (some [(0, .i), (1, .s)]) .nil .nil)) (.node none (.node (some [(0, .i),
  (1, .i), (2, .i), (3, .i)]) .nil .nil) .nil)) .nil)) .nil))
noncomputable def plT : T (List (Nat × List Nat)) :=
  (.node none (.node none (.node none (.node none (.node none (.node (some [(18, [0, 1, 2, 3, 4, 5, 6, 7])]) .nil .nil) (.node none (.node (some [(7, [0,
  1, 2, 3, 4, 5, 6, 7, 8, 9, 10, 11, 12, 13, 14]), (8, [0, 1, 2, 3, 4, 5, 6, 7, 8, 9, 10, 11, 12, 13, 14]), (9, [0, 1, 2, 3, 4, 5, 6, 7, 8, 9, 10, 11,
  12, 13, 14]), (10, [0, 1, 2, 3, 4, 5, 6, 7, 8, 9, 10, 11, 12, 13, 14]), (17, [0, 1, 2, 3, 4, 5, 6, 7, 8, 9, 10, 11, 12, 13, 14]), (18, [0, 1, 2, 3,
  4, 5, 6, 7, 8, 9, 10, 11, 12, 13, 14]), (23, [0, 1, 2, 3, 4, 5, 6, 7, 8, 9, 10, 11, 12, 13, 14])]) (.node (some [(5, [0, 1, 2, 3, 4, 5, 6, 7, 8, 9,
  10, 11, 12, 13, 14, 15, 16, 17]), (11, [0, 1, 2, 3, 4, 5, 6, 7, 8, 9, 10, 11, 12, 13, 14, 15, 16, 17]), (16, [0, 1, 2, 3, 4, 5, 6, 7, 8, 9, 10, 11,
  12]), (17, [0, 1, 2, 3, 4, 5, 6, 7, 8, 9, 10, 11, 12, 13, 14, 15, 16, 17]), (22, [0, 1, 2, 3, 4, 5, 6, 7, 8, 9, 10, 11, 12]), (23, [0, 1, 2, 3, 4, 5,
  6, 7, 8, 9, 10, 11, 12, 13, 14, 15, 16, 17])]) .nil .nil) .nil) (.node none (.node (some [(1, [0, 1, 2, 3, 4, 5, 6, 7, 8, 9, 10])]) .nil .nil)
  .nil))) (.node none (.node (some [(6, [0, 1, 2, 3, 4, 5, 6, 7, 8])]) (.node (some [(2, [0, 1, 2, 3, 4, 5, 6, 7, 8, 9, 10, 11, 12, 13, 14, 15, 16, 17,
  18, 19, 20, 21, 22]), (4, [0, 1, 2, 3, 4, 5, 6, 7, 8, 9, 10])]) (.node (some [(1, [0, 1, 2, 3, 4, 5, 6, 7, 8, 9, 10, 11, 12, 13, 14, 15]), (3, [0, 1,
  2, 3, 4, 5, 6, 7, 8, 9, 10, 11, 12, 13, 14, 15, 16]), (5, [0, 1, 2, 3, 4, 5, 6, 7, 8, 9, 10, 11, 12, 13, 14, 15]), (8, [0, 1, 2, 3, 4, 5, 6, 7, 8, 9,
  10, 11, 12, 13, 14, 15])]) .nil .nil) .nil) .nil) (.node none (.node none (.node (some [(4, [0, 1, 2, 3, 4, 5, 6, 7, 8, 9, 10, 11, 12, 13, 14, 15,
  16]), (6, [0, 1, 2, 3, 4, 5, 6, 7, 8, 9, 10, 11, 12, 13, 14, 15, 16, 17])]) .nil .nil) .nil) .nil))) (.node none (.node (some [(10, [0, 1, 2, 3, 4,
  5, 6, 7, 8, 9, 10, 11, 12]), (16, [0, 1, 2, 3, 4, 5, 6, 7, 8, 9, 10, 11, 12, 13, 14, 15, 16, 17, 18, 19, 20, 21, 22, 23, 24, 25, 26, 27, 28, 29, 30,
  31, 32, 33, 34, 35])]) (.node (some [(1, [0, 1, 2, 3, 5, 6, 7, 8, 9, 4, 10, 11])]) (.node none (.node (some [(10, [0, 1, 2, 3, 4, 5, 6, 7, 8, 9, 10,
  11, 12, 13, 14, 15, 16, 17, 18, 19])]) .nil .nil) .nil) .nil) .nil) (.node none (.node (some [(9, [0, 1, 2, 3, 4, 5, 6, 7])]) (.node none (.node
  (some [(10, [0, 1, 2, 3, 4, 5, 6, 7, 8, 9, 10, 11, 12, 13, 14, 15, 16, 17, 18, 19])]) .nil .nil) .nil) (.node (some [(5, [0, 1, 2, 3, 7, 8, 12, 13,
  4, 5, 6, 9, 10, 11, 14, 15, 16, 17]), (11, [0, 1, 2, 3, 4, 5, 6, 7, 8, 9, 10])]) .nil .nil)) (.node none (.node (some [(12, [0, 1, 2, 3, 4, 5, 6, 7,
  8, 9, 10, 11])]) (.node (some [(3, [0, 1, 2, 3, 4, 5, 6, 7, 8, 9, 10, 11, 12, 13, 14, 15])]) .nil .nil) .nil) .nil)))) (.node none (.node none (.node
  none (.node none (.node (some [(12, [0, 1, 2, 3, 4, 5, 6, 7, 8, 9, 10, 11])]) (.node (some [(4, [0, 1, 2, 3, 4, 5, 6, 7, 8, 9, 10, 11, 12, 13, 14,
  15, 16]), (6, [0, 1, 2, 3, 4, 5, 6, 7, 8, 9, 10, 11, 12, 13, 14, 15, 16, 17])]) .nil .nil) .nil) .nil) (.node none (.node (some [(5, [0, 1, 2, 3, 4,
  5, 6, 7, 8, 9, 10, 11, 12, 13])]) (.node (some [(1, [0, 1, 2, 3, 4, 5, 6, 7, 8, 9, 10, 11, 12, 13, 14, 15]), (3, [0, 1, 2, 3, 4, 5, 6, 7, 8, 9, 10,
  11, 12, 13, 14, 15]), (5, [0, 1, 2, 3, 4, 5, 6, 7, 8, 9, 10, 11, 12, 13, 14, 15, 16]), (8, [0, 1, 2, 3, 4, 5, 6, 7, 8, 9, 10, 11, 12, 13, 14, 15]),
  (10, [0, 1, 2, 3, 4, 5, 6, 7, 8, 9, 10, 11, 12, 13, 14, 15]), (13, [0, 1, 2, 3, 4, 5, 6, 7, 8, 9, 10, 11, 12, 13, 14, 15]), (15, [0, 1, 2, 3, 4, 5,
  6, 7, 8, 9, 10, 11, 12, 13, 14, 15, 16]), (18, [0, 1, 2, 3, 4, 5, 6, 7, 8, 9, 10, 11, 12, 13, 14, 15]), (21, [0, 1, 2, 3, 4, 5, 6, 7, 8, 9, 10, 11,
  12, 13, 14, 15])]) .nil .nil) .nil) (.node (some [(5, [0, 1, 2, 3, 4, 5, 6, 7, 8, 9, 10, 11, 12, 13])]) .nil .nil))) (.node none (.node (some [(12,
  [0, 1, 2, 3, 4, 5, 6, 7, 8, 9, 10, 11, 12])]) .nil (.node (some [(5, [0, 1, 4, 5, 2, 3, 6, 7, 8, 9])]) .nil .nil)) (.node (some [(1, [0, 1, 2, 3, 4,
  5, 6, 7, 8, 9]), (2, [0, 1, 2, 3, 4, 5, 6, 7, 8, 9])]) (.node none (.node (some [(10, [0, 1, 2, 3, 4, 5, 6, 7, 8, 9, 10, 11, 12, 13, 14, 15, 16, 17,
  18, 19])]) .nil .nil) .nil) (.node (some [(1, [0, 1, 3, 2, 4, 5, 6])]) .nil .nil)))) (.node none (.node (some [(15, [0, 1, 2, 3, 4, 5])]) (.node none
  (.node (some [(0, [0, 2, 3, 1, 4, 5, 6, 7])]) (.node (some [(3, [0, 1, 2, 3, 4, 5, 6, 7, 8, 9, 10, 11, 12, 13, 14, 15])]) .nil .nil) .nil) (.node
  none (.node (some [(3, [0, 1, 2, 3, 4, 5, 6, 7, 8, 9, 10, 11, 12, 13, 14, 15, 16, 17, 18, 19, 20, 21]), (5, [0, 1, 2, 3, 4, 5, 6, 7, 8, 9, 10, 11,
  12, 13, 14, 15]), (6, [0, 1, 2, 3, 4, 5, 6, 7, 8, 9, 10, 11, 12, 13, 14, 15, 16, 17, 18, 19, 20, 21, 22, 23])]) .nil .nil) .nil)) (.node none (.node
  (some [(28, [0, 1, 2, 3, 4, 5, 6, 7, 8]), (32, [0, 1, 2, 3, 4, 5, 6])]) .nil .nil) .nil)) (.node (some [(6, [0, 1, 2, 3, 4, 5, 6, 7, 8, 9, 10]), (11,
  [0, 1, 2, 3, 4, 5, 6, 7, 8, 9, 10])]) (.node (some [(1, [0, 1, 2, 3, 5, 6, 7, 8, 10, 11, 12, 13, 4, 9, 14, 15, 16, 17])]) (.node none .nil (.node
  (some [(0, [0, 1, 2, 3, 4, 5, 6, 7, 8, 9, 10, 11, 12, 13, 14, 15])]) .nil .nil)) (.node (some [(17, [0, 1, 2, 3, 4, 5, 6, 7, 8, 9, 10, 11, 12, 13,
  14, 15, 16])]) (.node (some [(1, [0, 1, 2, 3, 4, 5, 6, 7, 8, 9, 10])]) .nil .nil) .nil)) (.node none (.node (some [(3, [0, 1, 2, 3, 4, 5, 6, 7, 8, 9,
  12, 13, 15, 16, 17, 18, 19, 21, 22, 10, 11, 14, 20, 23, 24, 25])]) (.node (some [(1, [0, 1, 2, 3, 4, 5, 6, 7, 8, 9, 10, 11, 12, 13, 14, 15]), (3, [0,
  1, 2, 3, 4, 5, 6, 7, 8, 9, 10, 11, 12, 13, 14, 15, 16]), (5, [0, 1, 2, 3, 4, 5, 6, 7, 8, 9, 10, 11, 12, 13, 14, 15]), (8, [0, 1, 2, 3, 4, 5, 6, 7, 8,
  9, 10, 11, 12, 13, 14, 15])]) .nil .nil) .nil) .nil))))) (.node none (.node none (.node none (.node (some [(6, [0, 1, 2, 3, 4, 5])]) (.node none .nil
  (.node none (.node (some [(3, [0, 1, 2, 3, 4, 5, 6, 7, 8, 9, 10, 11, 12, 13, 14, 15, 16, 17, 18, 19, 20, 21]), (5, [0, 1, 2, 3, 4, 5, 6, 7, 8, 9, 10,
  11, 12, 13, 14, 15]), (6, [0, 1, 2, 3, 4, 5, 6, 7, 8, 9, 10, 11, 12, 13, 14, 15, 16, 17, 18, 19, 20, 21, 22, 23])]) .nil .nil) .nil)) (.node (some
  [(1, [0, 1, 3, 4, 2, 5, 6, 7, 8]), (10, [0, 1, 2, 3, 4, 5, 6, 7, 8, 9, 10, 11, 12, 13, 14])]) (.node none (.node (some [(1, [0, 1, 2, 3, 4, 5, 6, 7,
  8, 9, 10, 11, 12, 13, 14, 15]), (3, [0, 1, 2, 3, 4, 5, 6, 7, 8, 9, 10, 11, 12, 13, 14, 15, 16]), (5, [0, 1, 2, 3, 4, 5, 6, 7, 8, 9, 10, 11, 12, 13,
  14, 15]), (8, [0, 1, 2, 3, 4, 5, 6, 7, 8, 9, 10, 11, 12, 13, 14, 15])]) .nil .nil) (.node (some [(0, [0, 1, 2, 3, 4, 5, 6, 7, 8, 9])]) .nil .nil))
  (.node (some [(17, [0, 1, 2, 3, 4, 5, 6, 7, 8, 9, 10, 11, 12, 13, 14, 15, 16])]) .nil .nil))) (.node none (.node none (.node none (.node (some [(1,
  [0, 1, 2, 3, 4, 5, 6, 7, 8, 9, 10, 11, 12, 13, 14, 15]), (3, [0, 1, 2, 3, 4, 5, 6, 7, 8, 9, 10, 11, 12, 13, 14, 15]), (5, [0, 1, 2, 3, 4, 5, 6, 7, 8,
  9, 10, 11, 12, 13, 14, 15, 16]), (8, [0, 1, 2, 3, 4, 5, 6, 7, 8, 9, 10, 11, 12, 13, 14, 15]), (10, [0, 1, 2, 3, 4, 5, 6, 7, 8, 9, 10, 11, 12, 13, 14,
  15]), (13, [0, 1, 2, 3, 4, 5, 6, 7, 8, 9, 10, 11, 12, 13, 14, 15]), (15, [0, 1, 2, 3, 4, 5, 6, 7, 8, 9, 10, 11, 12, 13, 14, 15, 16]), (18, [0, 1, 2,
  3, 4, 5, 6, 7, 8, 9, 10, 11, 12, 13, 14, 15]), (21, [0, 1, 2, 3, 4, 5, 6, 7, 8, 9, 10, 11, 12, 13, 14, 15])]) .nil .nil) .nil) .nil) (.node none
  (.node (some [(1, [0, 1, 2, 3, 4, 5, 6, 7, 8, 9, 10, 11, 12, 13, 15, 16, 17, 18, 19, 20, 21, 22, 14, 23, 24, 25, 26])]) (.node (some [(10, [0, 1, 2,
  3, 4, 5, 6, 7, 8, 9, 10, 11, 12, 13, 14, 15, 16, 17, 18, 19])]) .nil .nil) .nil) (.node (some [(1, [0, 1, 3, 2, 4, 5, 6])]) .nil .nil)))) (.node none
  (.node (some [(12, [0, 1, 2, 3, 4, 5, 6, 7, 8]), (19, [0, 1, 2, 3, 4, 5, 6, 7, 8, 9, 10, 11, 12, 13, 14, 15, 16, 17, 18, 19, 20, 21, 22, 23, 24, 25,
  26, 27, 28, 29, 30, 31, 32, 33, 34, 35])]) (.node (some [(3, [0, 1, 2, 3, 4, 5, 6, 7])]) (.node (some [(1, [0, 2, 3, 5, 1, 4, 6, 7, 8]), (5, [0, 1,
  2, 3, 4, 5, 6, 7, 8, 9, 10, 11, 12, 13, 14, 15]), (9, [0, 1, 2, 3, 4, 5, 6, 7, 8, 9, 10, 11, 12, 13, 14, 15, 16, 17, 18, 19, 20, 21, 22, 23])]) .nil
  .nil) .nil) (.node none (.node (some [(4, [0, 1, 2, 3, 4, 5, 6, 7, 8, 9, 10, 11, 12, 13, 14, 15, 16, 17, 18, 19]), (5, [0, 1, 2, 3, 4, 5, 6, 7, 8, 9,
  10, 11, 12, 13, 14, 15, 16, 17, 18, 19, 20, 21, 22, 23, 24, 25, 26]), (6, [0, 1, 2, 3, 4, 5, 6, 7, 8, 9, 10, 11]), (15, [0, 1, 2, 3, 4, 5, 6, 7, 8,
  9, 10, 11, 12, 13, 14, 15, 16, 17]), (20, [0, 1, 2, 3, 4, 5, 6, 7, 8, 9, 10, 11, 12, 13, 14, 15, 16, 17, 18, 19, 20, 21, 22])]) .nil .nil) (.node
  (some [(4, [0, 1, 2, 3, 4, 5, 6, 7, 8, 9, 10, 11, 12, 13, 14, 15, 16, 17, 18, 19]), (5, [0, 1, 2, 3, 4, 5, 6, 7, 8, 9, 10, 11, 12, 13, 14, 15, 16,
  17, 18, 19, 20, 21, 22, 23, 24, 25, 26]), (6, [0, 1, 2, 3, 4, 5, 6, 7, 8, 9, 10, 11]), (15, [0, 1, 2, 3, 4, 5, 6, 7, 8, 9, 10, 11, 12, 13, 14, 15,
  16, 17]), (20, [0, 1, 2, 3, 4, 5, 6, 7, 8, 9, 10, 11, 12, 13, 14, 15, 16, 17, 18, 19, 20, 21, 22])]) .nil .nil))) (.node (some [(10, [0, 1, 2, 3, 4,
  5, 6, 7, 8, 9, 10, 11, 12, 13])]) (.node none (.node none (.node (some [(10, [0, 1, 2, 3, 4, 5, 6, 7, 8, 9, 10, 11, 12, 13, 14, 15, 16, 17, 18,
  19])]) .nil .nil) (.node (some [(1, [0, 1, 2, 3, 4, 5, 6, 7, 8, 9, 10, 11, 12])]) .nil .nil)) .nil) (.node none (.node none (.node (some [(5, [0, 1,
  2, 3, 4, 5, 6, 7, 8, 9, 10, 11, 12, 13, 14, 15, 16, 17]), (11, [0, 1, 2, 3, 4, 5, 6, 7, 8, 9, 10, 11, 12, 13, 14, 15, 16, 17]), (16, [0, 1, 2, 3, 4,
  5, 6, 7, 8, 9, 10, 11, 12]), (17, [0, 1, 2, 3, 4, 5, 6, 7, 8, 9, 10, 11, 12, 13, 14, 15, 16, 17]), (22, [0, 1, 2, 3, 4, 5, 6, 7, 8, 9, 10, 11, 12]),
  (23, [0, 1, 2, 3, 4, 5, 6, 7, 8, 9, 10, 11, 12, 13, 14, 15, 16, 17])]) .nil .nil) .nil) .nil)))) (.node (some [(1, [0, 1, 2, 4, 3, 5, 6, 7, 8])])
  (.node none (.node (some [(6, [0, 1, 2, 3, 4, 5, 6, 7, 8, 9, 10, 11, 12]), (11, [0, 1, 2, 3, 4, 5, 6, 7, 8, 9, 10, 11, 12, 13, 14, 15, 16])]) (.node
  none (.node (some [(11, [0, 1, 2, 3, 4, 5, 6, 7, 8, 9, 10]), (27, [0, 1, 2, 3, 4, 5, 6, 7, 8, 9, 10, 11, 12, 13, 14, 15, 16]), (34, [0, 1, 2, 3, 4,
  5])]) (.node (some [(10, [0, 1, 2, 3, 4, 5, 6, 7, 8, 9, 10, 11, 12, 13, 14, 15, 16, 17, 18, 19])]) .nil .nil) .nil) (.node none (.node (some [(1, [0,
  1, 2, 3, 4, 5, 6, 7, 8, 9]), (2, [0, 1, 2, 3, 4, 5, 6, 7, 8, 9]), (3, [0, 1, 2, 3, 4, 5, 6, 7, 8, 9])]) .nil .nil) .nil)) (.node none (.node (some
  [(1, [0, 1, 2, 3, 4, 5, 6, 7, 8, 9, 10]), (4, [0, 1, 2, 3, 4, 5, 6]), (5, [0, 1, 2, 3, 4, 5, 6, 7, 8, 9, 10])]) .nil .nil) .nil)) (.node none (.node
  none (.node none (.node (some [(4, [0, 1, 2, 3, 4, 5, 6, 7, 8, 9, 10, 11, 12, 13, 14, 15, 16]), (6, [0, 1, 2, 3, 4, 5, 6, 7, 8, 9, 10, 11, 12, 13,
  14, 15, 16, 17])]) .nil .nil) .nil) (.node none (.node (some [(3, [0, 1, 2, 3, 4, 5, 6, 7, 8, 9, 10, 11, 12, 13, 14, 15, 16, 17, 18, 19, 20, 21]),
  (5, [0, 1, 2, 3, 4, 5, 6, 7, 8, 9, 10, 11, 12, 13, 14, 15]), (6, [0, 1, 2, 3, 4, 5, 6, 7, 8, 9, 10, 11, 12, 13, 14, 15, 16, 17, 18, 19, 20, 21, 22,
  23])]) .nil .nil) .nil)) .nil)) (.node none (.node (some [(14, [0, 1, 2, 3, 4, 5, 6, 7, 8, 9, 10, 11, 12, 13, 14, 15, 16, 17, 18, 19, 20, 21, 22, 23,
  24, 25, 26, 27, 28, 29, 30, 31, 32, 33, 34, 35, 36, 37]), (15, [0, 1, 2, 3, 4, 5, 6, 7, 8, 9, 10, 11, 12])]) (.node none (.node (some [(14, [0, 1, 2,
  3, 4, 5, 6, 7, 8, 9, 10, 11])]) (.node (some [(5, [0, 1, 2, 3, 4, 5, 6, 7, 8, 9, 10, 11, 12, 13, 14, 15, 16, 17]), (11, [0, 1, 2, 3, 4, 5, 6, 7, 8,
  9, 10, 11, 12, 13, 14, 15, 16, 17]), (16, [0, 1, 2, 3, 4, 5, 6, 7, 8, 9, 10, 11, 12]), (17, [0, 1, 2, 3, 4, 5, 6, 7, 8, 9, 10, 11, 12, 13, 14, 15,
  16, 17]), (22, [0, 1, 2, 3, 4, 5, 6, 7, 8, 9, 10, 11, 12]), (23, [0, 1, 2, 3, 4, 5, 6, 7, 8, 9, 10, 11, 12, 13, 14, 15, 16, 17])]) .nil .nil) (.node
  (some [(3, [0, 1, 2, 3, 4, 5, 6, 7]), (12, [0, 1, 2, 3, 4, 5, 6, 7, 8, 9, 10, 11])]) .nil .nil)) .nil) .nil) (.node none (.node none (.node none
  (.node (some [(3, [0, 1, 2, 3, 4, 5, 6, 7, 8, 9, 10, 11, 12, 13, 14, 15])]) .nil .nil) (.node (some [(1, [0, 1, 2, 3, 5, 6, 7, 8, 4, 9, 10, 11,
  12])]) .nil .nil)) (.node none (.node (some [(1, [0, 1, 2, 3, 4, 5, 6, 7, 8, 9, 10])]) .nil .nil) .nil)) (.node none (.node none (.node (some [(1,
  [0, 1, 2, 3, 4, 5, 6, 7, 8, 9, 10, 11, 12, 13, 14, 15]), (3, [0, 1, 2, 3, 4, 5, 6, 7, 8, 9, 10, 11, 12, 13, 14, 15]), (5, [0, 1, 2, 3, 4, 5, 6, 7, 8,
  9, 10, 11, 12, 13, 14, 15, 16]), (8, [0, 1, 2, 3, 4, 5, 6, 7, 8, 9, 10, 11, 12, 13, 14, 15]), (10, [0, 1, 2, 3, 4, 5, 6, 7, 8, 9, 10, 11, 12, 13, 14,
  15]), (13, [0, 1, 2, 3, 4, 5, 6, 7, 8, 9, 10, 11, 12, 13, 14, 15]), (15, [0, 1, 2, 3, 4, 5, 6, 7, 8, 9, 10, 11, 12, 13, 14, 15, 16]), (18, [0, 1, 2,
  3, 4, 5, 6, 7, 8, 9, 10, 11, 12, 13, 14, 15]), (21, [0, 1, 2, 3, 4, 5, 6, 7, 8, 9, 10, 11, 12, 13, 14, 15])]) .nil .nil) .nil) (.node (some [(17, [0,
  1, 2, 3, 4, 5, 6, 7, 8, 9, 10, 11, 12, 13, 14, 15, 16])]) .nil .nil)))))))
noncomputable def E0 : Env := ⟨prT, tiT, fnT, eqT, plT⟩
end Go.AX
namespace Go.AX
open Go Go.Proofs Go.RowKit
instance layT : Lay Tryz.prog := ⟨fun b => b ≤ 2, fun b o => (b = 0 → ∃ e fz, o = some (.cells (Lib.pow10Tab.map fun z => Value.int .u64 z).toArray e fz)) ∧ (b ≠ 0 → ∃ te pe e fz, o = some (.cells #[.iface te pe] e fz))⟩
theorem tiT_eq : tiT = T.ofL Tryz.types.toList := by kernel_rfl
theorem fnT_eq : fnT = T.ofL Tryz.funcs.toList := by kernel_rfl
theorem types_eq : Tryz.prog.types = Tryz.types := by kernel_rfl
theorem funcs_eq : Tryz.prog.funcs = Tryz.funcs := by kernel_rfl
theorem E0_ti : E0.ti = tiT := by kernel_rfl
theorem E0_fn : E0.fn = fnT := by kernel_rfl
theorem E0_eqs : E0.eqs = eqT := by kernel_rfl
theorem info_def (P : Program) (t : TypeId) (i : TypeInfo) (h : P.types[t]? = some i) : P.info? t = some i := by
  have hlt := (Array.getElem?_eq_some_iff.1 h).1
  show (if t < P.types.size then P.types[t]? else _) = _
  rw [if_pos hlt, h]
theorem info_of {E : Env} (hE : E.ti = tiT) : ∀ t i, E.info t = some i → Tryz.prog.info? t = some i := by
  intro t i h
  unfold Env.info at h
  rw [hE] at h
  have := T.of_list tiT_eq h
  rw [Array.getElem?_toList] at this
  refine info_def _ _ _ ?_
  rw [types_eq]
  exact this
theorem fn_of {E : Env} (hE : E.fn = fnT) : ∀ f x, E.fn.get f = some x → Tryz.prog.funcs[f]? = some x := by
  intro f x h
  rw [hE] at h
  have := T.of_list fnT_eq h
  rw [Array.getElem?_toList] at this
  rw [funcs_eq]
  exact this
theorem names_ok : Tryz.funcs.toList.all (fun x => !(x.name == "runtime.NumGoroutine")) = true := by kernel_rfl
theorem names_of {E : Env} (hE : E.fn = fnT) : ∀ f x, E.fn.get f = some x → (x.name == "runtime.NumGoroutine") = false := by
  intro f x h
  rw [hE] at h
  have := T.of_list fnT_eq h
  have h2 := List.all_eq_true.1 names_ok x (List.mem_of_getElem? this)
  simpa using h2
theorem T.get_of_pairs {α : Type} : ∀ (l : List (Nat × α)) (t : T α) (k : Nat) (x : α), (l.foldl (fun t p => t.set p.1 p.2) t).get k = some x → (k, x) ∈ l ∨ t.get k = some x := by
  intro l
  induction l with
  | nil => intro t k x h; exact .inr h
  | cons p l ih =>
    intro t k x h
    rcases ih _ _ _ h with h | h
    · exact .inl (List.mem_cons_of_mem _ h)
    · by_cases e : k = p.1
      · subst e
        rw [T.get_set_same] at h; cases h
        exact .inl (by simp)
      · rw [T.get_set_ne _ _ (Ne.symm e)] at h
        exact .inr h
noncomputable def eqL : List (Nat × List (Nat × FK)) := [(100, [(0, .i), (1, .s)]), (71, [(0, .s), (1, .i)]), (87, [(0, .i), (1, .i)]), (84, [(0, .i), (1, .i), (2, .i), (3, .i)]), (57, [(0, .s), (1, .i)])]
theorem eqT_eq : eqT = eqL.foldl (fun t p => t.set p.1 p.2) .nil := by kernel_rfl
theorem eq_100 : flatS E0 100 = some [(0, .i), (1, .s)] := by kernel_rfl
theorem eqg_100 : Tryz.prog.eqGuardType Tryz.prog.depth 100 = false := by kernel_rfl
theorem eqs_100 : Tryz.prog.stoodInHeld 100 = false := by kernel_rfl
theorem eq_71 : flatS E0 71 = some [(0, .s), (1, .i)] := by kernel_rfl
theorem eqg_71 : Tryz.prog.eqGuardType Tryz.prog.depth 71 = false := by kernel_rfl
theorem eqs_71 : Tryz.prog.stoodInHeld 71 = false := by kernel_rfl
theorem eq_87 : flatS E0 87 = some [(0, .i), (1, .i)] := by kernel_rfl
theorem eqg_87 : Tryz.prog.eqGuardType Tryz.prog.depth 87 = false := by kernel_rfl
theorem eqs_87 : Tryz.prog.stoodInHeld 87 = false := by kernel_rfl
theorem eq_84 : flatS E0 84 = some [(0, .i), (1, .i), (2, .i), (3, .i)] := by kernel_rfl
theorem eqg_84 : Tryz.prog.eqGuardType Tryz.prog.depth 84 = false := by kernel_rfl
theorem eqs_84 : Tryz.prog.stoodInHeld 84 = false := by kernel_rfl
theorem eq_57 : flatS E0 57 = some [(0, .s), (1, .i)] := by kernel_rfl
theorem eqg_57 : Tryz.prog.eqGuardType Tryz.prog.depth 57 = false := by kernel_rfl
theorem eqs_57 : Tryz.prog.stoodInHeld 57 = false := by kernel_rfl
theorem eqs_of {E : Env} (h1 : E.eqs = eqT) : ∀ t offs, E.eqs.get t = some offs → StructEq Tryz.prog t offs := by
  intro t offs h
  rw [h1, eqT_eq] at h
  rcases T.get_of_pairs _ _ _ _ h with h | h
  · have hi := info_of E0_ti
    simp only [eqL, List.mem_cons, List.not_mem_nil, or_false, Prod.mk.injEq] at h
    rcases h with ⟨rfl, rfl⟩ | ⟨rfl, rfl⟩ | ⟨rfl, rfl⟩ | ⟨rfl, rfl⟩ | ⟨rfl, rfl⟩
    · exact structEq_flat hi eq_100 eqg_100 eqs_100
    · exact structEq_flat hi eq_71 eqg_71 eqs_71
    · exact structEq_flat hi eq_87 eqg_87 eqs_87
    · exact structEq_flat hi eq_84 eqg_84 eqs_84
    · exact structEq_flat hi eq_57 eqg_57 eqs_57
  · rw [T.get_nil] at h; cases h
theorem mixed_ok : Tryz.prog.follows .mixedOrders = true := by kernel_rfl
theorem envOK {E : Env} (h1 : E.ti = tiT) (h2 : E.fn = fnT) (h3 : E.eqs = eqT) : EnvOK E Tryz.prog := ⟨info_of h1, fn_of h2, mixed_ok, eqs_of h3⟩
end Go.AX
namespace Go.AX
open Go Go.Proofs Go.RowKit
theorem rowAt_here {p : Program} {fits : TypeId → Bool} {d e count off n : Nat} (hs : p.cellsOf e ≠ 0) (ho : off % p.cellsOf e = 0) (hn : off / p.cellsOf e + n ≤ count) (hf : fits e = true) : rowAt p fits (d + 1) e count off n = true := by
  unfold rowAt
  simp [hs, ho, hn, hf]
theorem sameLayout_self {p : Program} {d t : Nat} : sameLayout p (d + 1) t t = true := by
  unfold sameLayout
  simp
theorem info52 : (Tryz.prog.info? 52).isSome = true := by kernel_rfl
set_option maxHeartbeats 1000000 in
set_option maxRecDepth 100000 in
theorem copyCheck_used (b off : Nat) (w : World) (h0 : w.cell? ⟨b, off, none⟩ = some (.pointer (some ⟨b, off, none⟩))) :
    Calls Tryz.prog 52 #[.pointer (some ⟨b, off, none⟩)] w fun e w' => e = .returned (.tuple #[]) ∧ w' = w := by
  obtain ⟨j, hj⟩ := Option.isSome_iff_exists.1 info52
  go_enter Tryz.func52, Tryz.ntmps52
  go_wp2
  rw [Lib.run_neq_ptr_same w _ Tryz.underlying49 hj]
  go_wp2
  go_end0
  exact ⟨rfl, rfl⟩
theorem cells52 : Tryz.prog.cellsOf 52 = 2 := by kernel_rfl
theorem depth_succ : ∃ d, Tryz.prog.depth = d + 1 := by
  have h : Nat.blt 0 Tryz.prog.depth = true := by kernel_rfl
  rw [Nat.blt_eq] at h
  exact ⟨Tryz.prog.depth - 1, by omega⟩
theorem lies52 {n off : Nat} (h1 : off % 2 = 0) (h2 : off + 2 ≤ n) : liesAt Tryz.prog Tryz.prog.depth 52 (n / Tryz.prog.cellsOf 52) off 52 1 = true := by
  obtain ⟨d, hd⟩ := depth_succ
  rw [cells52]
  rw [hd]
  unfold liesAt
  simp only [hd]
  rw [rowAt_here (by rw [cells52]; decide) (by rw [cells52]; exact h1) (by rw [cells52]; omega) (fits := fun x => sameLayout Tryz.prog (d + 1) x 52) sameLayout_self]
  rfl
set_option maxHeartbeats 1000000 in
set_option maxRecDepth 100000 in
theorem copyCheck_fresh (b off n : Nat) (w : World) (h0 : w.cell? ⟨b, off, none⟩ = some (.pointer none)) (hsh : w.shape? b = some (52, n)) (hoff : off % 2 = 0) (hle : off + 2 ≤ n) (hfz : w.frozen? ⟨b, off, none⟩ = false) :
    Calls Tryz.prog 52 #[.pointer (some ⟨b, off, none⟩)] w fun e w' => e = .returned (.tuple #[]) ∧ w' = w.setCell ⟨b, off, none⟩ (.pointer (some ⟨b, off, none⟩)) := by
  obtain ⟨j, hj⟩ := Option.isSome_iff_exists.1 info52
  have hjs : j.size ≠ 0 := by
    have h1 := cells52
    unfold Program.cellsOf at h1
    rw [hj] at h1
    have : j.size = 2 := h1
    omega
  go_enter Tryz.func52, Tryz.ntmps52
  go_wp2
  rw [Lib.run_to_unsafe w ⟨b, off, none⟩ Tryz.underlying49 Tryz.underlying114 hj hjs hsh (by show off < n; omega)]
  simp only [Result.andThen]
  rw [Oper.upon_value]
  go_wp2
  rw [run_callFunc_extern Tryz.func63 (by kernel_rfl) (by kernel_rfl) (by kernel_rfl) (e := Extern.AbiNoEscape.same) (by kernel_rfl)]
  rw [Lib.run_noEscape]
  simp only [Result.andThen]
  rw [Oper.upon_value]
  go_wp2
  rw [Lib.run_from_unsafe w ⟨b, off, none⟩ Tryz.underlying114 Tryz.underlying49 hj hsh (lies52 hoff hle)]
  simp only [Result.andThen]
  rw [Oper.upon_value]
  go_wp2
  go_end0
  exact ⟨rfl, rfl⟩
end Go.AX
namespace Go.AX
open Go Go.Proofs Go.RowKit
set_option maxHeartbeats 1000000 in
set_option maxRecDepth 100000 in
theorem len64_1 (w : World) : Calls Tryz.prog 99 #[.int .u64 1] w fun e w' => e = .returned (.int .i64 1) ∧ w' = w := by
  go_enter Tryz.func99, Tryz.ntmps99
  go_wp2
  go_ret
  refine ⟨?_, rfl⟩
  kernel_rfl
set_option maxHeartbeats 1000000 in
set_option maxRecDepth 100000 in
theorem len64_101 (w : World) : Calls Tryz.prog 99 #[.int .u64 101] w fun e w' => e = .returned (.int .i64 7) ∧ w' = w := by
  go_enter Tryz.func99, Tryz.ntmps99
  go_wp2
  go_ret
  refine ⟨?_, rfl⟩
  kernel_rfl
set_option maxHeartbeats 1000000 in
set_option maxRecDepth 100000 in
theorem len64_109 (w : World) : Calls Tryz.prog 99 #[.int .u64 109] w fun e w' => e = .returned (.int .i64 7) ∧ w' = w := by
  go_enter Tryz.func99, Tryz.ntmps99
  go_wp2
  go_ret
  refine ⟨?_, rfl⟩
  kernel_rfl
set_option maxHeartbeats 1000000 in
set_option maxRecDepth 100000 in
theorem len64_110 (w : World) : Calls Tryz.prog 99 #[.int .u64 110] w fun e w' => e = .returned (.int .i64 7) ∧ w' = w := by
  go_enter Tryz.func99, Tryz.ntmps99
  go_wp2
  go_ret
  refine ⟨?_, rfl⟩
  kernel_rfl
set_option maxHeartbeats 1000000 in
set_option maxRecDepth 100000 in
theorem len64_114 (w : World) : Calls Tryz.prog 99 #[.int .u64 114] w fun e w' => e = .returned (.int .i64 7) ∧ w' = w := by
  go_enter Tryz.func99, Tryz.ntmps99
  go_wp2
  go_ret
  refine ⟨?_, rfl⟩
  kernel_rfl
set_option maxHeartbeats 1000000 in
set_option maxRecDepth 100000 in
theorem log10_1 (w : World) : Calls Tryz.prog 98 #[.int .i64 1] w fun e w' => e = .returned (.int .i64 0) ∧ w' = w := by
  go_enter Tryz.func98, Tryz.ntmps98
  go_wp2
  go_ret
  refine ⟨?_, rfl⟩
  kernel_rfl
set_option maxHeartbeats 1000000 in
set_option maxRecDepth 100000 in
theorem log10_7 (w : World) : Calls Tryz.prog 98 #[.int .i64 7] w fun e w' => e = .returned (.int .i64 2) ∧ w' = w := by
  go_enter Tryz.func98, Tryz.ntmps98
  go_wp2
  go_ret
  refine ⟨?_, rfl⟩
  kernel_rfl
set_option maxHeartbeats 1000000 in
set_option maxRecDepth 100000 in
theorem digits_1 (w : World) (h0 : w.cell? ⟨0, 0, none⟩ = some (.int .u64 1)) :
    Calls Tryz.prog 78 #[.int .u64 1] w fun e w' => e = .returned (.int .i64 1) ∧ w' = w := by
  go_enter Tryz.func78, Tryz.ntmps78
  go_wp2_with (first
    | (go_at_call 99; refine (len64_1 _).mono ?_; rintro e w' ⟨rfl, rfl⟩)
    | (go_at_call 98; refine (log10_1 _).mono ?_; rintro e w' ⟨rfl, rfl⟩)
    | go_in)
  go_ret
  exact ⟨rfl, rfl⟩
set_option maxHeartbeats 1000000 in
set_option maxRecDepth 100000 in
theorem digits_101 (w : World) (h0 : w.cell? ⟨0, 2, none⟩ = some (.int .u64 100)) :
    Calls Tryz.prog 78 #[.int .u64 101] w fun e w' => e = .returned (.int .i64 3) ∧ w' = w := by
  go_enter Tryz.func78, Tryz.ntmps78
  go_wp2_with (first
    | (go_at_call 99; refine (len64_101 _).mono ?_; rintro e w' ⟨rfl, rfl⟩)
    | (go_at_call 98; refine (log10_7 _).mono ?_; rintro e w' ⟨rfl, rfl⟩)
    | go_in)
  go_ret
  exact ⟨rfl, rfl⟩
set_option maxHeartbeats 1000000 in
set_option maxRecDepth 100000 in
theorem digits_109 (w : World) (h0 : w.cell? ⟨0, 2, none⟩ = some (.int .u64 100)) :
    Calls Tryz.prog 78 #[.int .u64 109] w fun e w' => e = .returned (.int .i64 3) ∧ w' = w := by
  go_enter Tryz.func78, Tryz.ntmps78
  go_wp2_with (first
    | (go_at_call 99; refine (len64_109 _).mono ?_; rintro e w' ⟨rfl, rfl⟩)
    | (go_at_call 98; refine (log10_7 _).mono ?_; rintro e w' ⟨rfl, rfl⟩)
    | go_in)
  go_ret
  exact ⟨rfl, rfl⟩
set_option maxHeartbeats 1000000 in
set_option maxRecDepth 100000 in
theorem digits_110 (w : World) (h0 : w.cell? ⟨0, 2, none⟩ = some (.int .u64 100)) :
    Calls Tryz.prog 78 #[.int .u64 110] w fun e w' => e = .returned (.int .i64 3) ∧ w' = w := by
  go_enter Tryz.func78, Tryz.ntmps78
  go_wp2_with (first
    | (go_at_call 99; refine (len64_110 _).mono ?_; rintro e w' ⟨rfl, rfl⟩)
    | (go_at_call 98; refine (log10_7 _).mono ?_; rintro e w' ⟨rfl, rfl⟩)
    | go_in)
  go_ret
  exact ⟨rfl, rfl⟩
set_option maxHeartbeats 1000000 in
set_option maxRecDepth 100000 in
theorem digits_114 (w : World) (h0 : w.cell? ⟨0, 2, none⟩ = some (.int .u64 100)) :
    Calls Tryz.prog 78 #[.int .u64 114] w fun e w' => e = .returned (.int .i64 3) ∧ w' = w := by
  go_enter Tryz.func78, Tryz.ntmps78
  go_wp2_with (first
    | (go_at_call 99; refine (len64_114 _).mono ?_; rintro e w' ⟨rfl, rfl⟩)
    | (go_at_call 98; refine (log10_7 _).mono ?_; rintro e w' ⟨rfl, rfl⟩)
    | go_in)
  go_ret
  exact ⟨rfl, rfl⟩
end Go.AX
namespace Go.AX
open Go Go.Proofs Go.RowKit
theorem copyCheck_prim {h : AHeap} {args : List AVal} {v : AVal} {h' : AHeap} (hp : primA (.copyCheck 52) args h = some (v, h')) :
    Enters Tryz.prog 52 ∧ ∀ (K : Keep) (W0 : World) (ρ : Ren) (w : World) (args' : Array Value), VL ρ args args'.toList → WR Tryz.prog K W0 ρ h w → Calls Tryz.prog 52 args' w (CPost Tryz.prog K W0 ρ v h') := by
  refine ⟨⟨_, Tryz.func52, by kernel_rfl, by kernel_rfl⟩, fun K W0 ρ w args' hargs H => ?_⟩
  match args, hp, hargs with
  | [x], hp, hargs =>
    have hp' : (onPtr x fun b o => onCells (h.get b) fun c e =>
      ifT (and (Nat.beq e 52) (and (Nat.beq (Nat.mod o 2) 0) (Nat.ble (Nat.add o 2) (lenL c))))
        (ob (getL c o) fun w => match w with
          | .nilptr => some (.tup [], h.put b (.cells (over c o [.ptr b o]) e))
          | .ptr b' o' => ifT (and (Nat.beq b b') (Nat.beq o o')) (some (.tup [], h)) none
          | _ => none) none) = some (v, h') := hp
    rw [onPtr_some] at hp'
    obtain ⟨b, o, rfl, hp'⟩ := hp'
    rw [onCells_some] at hp'
    obtain ⟨c, e, hb, hp'⟩ := hp'
    rw [ifT_some] at hp'
    obtain ⟨hc, hp'⟩ := hp'
    simp only [Bool.and_eq_true, Nat.beq_eq, Nat.ble_eq, lenL_eq] at hc
    obtain ⟨rfl, hmod, hle⟩ := hc
    have hmod : o % 2 = 0 := hmod
    have hle : o + 2 ≤ c.length := hle
    rw [ob_some] at hp'
    obtain ⟨y, hy, hp'⟩ := hp'
    rw [getL_eq] at hy
    obtain ⟨r, hr, hnk, hob⟩ := H.obj b _ hb trivial
    obtain ⟨C, fz, hC, hfz, hd, hcl, hkk, hK⟩ := cells_at H (own := true) (.inl ⟨rfl, hb⟩) hr
    obtain ⟨_, y', hy1, hy2⟩ := hcl _ _ hy (.inl rfl)
    have ha : args' = #[.pointer (some ⟨r.b, o + r.d, none⟩)] := by
      rcases args' with ⟨al⟩
      have hargs2 : VL ρ [.ptr b o] al := hargs
      cases hargs2 with
      | cons hx hl =>
        cases hl
        obtain ⟨r1, hr1, e1⟩ := hx.ptr_inv
        rw [hr] at hr1; cases hr1
        subst e1
        rfl
    subst ha
    have hdm : (o + r.d) % 2 = 0 := by
      have h2 : 2 ∣ r.d := by
        cases hk : r.k with
        | none => rw [r.al.1 hk]; exact Nat.dvd_zero 2
        | some p =>
          obtain ⟨z, x⟩ := p
          have h3 := (hkk z x hk).2
          rw [cells52] at h3
          subst h3
          exact r.al.2 _ _ hk
      omega
    have hcell : w.cell? ⟨r.b, o + r.d, none⟩ = some y' := by
      unfold World.cell?
      simp only [hC]
      rw [Nat.add_comm]
      exact hy1
    match y, hp', hy2 with
    | .nilptr, hp', hy2 =>
      cases hp'
      cases hy2
      have hfr : w.frozen? ⟨r.b, o + r.d, none⟩ = false := by
        unfold World.frozen?
        simp only [hC]
        have := hfz rfl (o + r.d) (by omega)
        simpa using this
      refine (copyCheck_fresh r.b (o + r.d) C.size w hcell (by unfold World.shape?; rw [hC]) hdm (by omega) hfr).mono ?_
      · rintro e w' ⟨rfl, rfl⟩
        obtain ⟨w1, hs, hw1⟩ := over_sound (P := Tryz.prog) (o := o) H hr hb (vs := [.ptr b o]) (vs' := [.pointer (some ⟨r.b, o + r.d, none⟩)]) (.cons (.ptr hr) .nil) (by simp; rfl) (by simp; omega)
        have hset := run_storeCells_cells (P := Tryz.prog) r.b (o + r.d) [.pointer (some ⟨r.b, o + r.d, none⟩)] 0 w (fun j hj => by
          have : j = 0 := by simpa using hj
          subst this
          simp only [Nat.add_zero, hcell, Option.isSome_some]) (fun j hj => by
          have : j = 0 := by simpa using hj
          subst this
          exact hfr) (fun v hv => by simp at hv; subst hv; rfl)
        have hset2 : (storeCells ⟨r.b, o + r.d, none⟩ [.pointer (some ⟨r.b, o + r.d, none⟩)]).run Tryz.prog w = .ok () (w.setCell ⟨r.b, o + r.d, none⟩ (.pointer (some ⟨r.b, o + r.d, none⟩))) := hset
        rw [hset2] at hs
        cases hs
        exact ⟨_, ρ, rfl, Ren.le_refl _, .tup .nil, hw1⟩
    | .ptr b' o', hp', hy2 =>
      have hp2 : ifT (and (Nat.beq b b') (Nat.beq o o')) (some (AVal.tup [], h)) none = some (v, h') := hp'
      clear hp'
      rw [ifT_some] at hp2
      obtain ⟨he, hp3⟩ := hp2
      simp only [Bool.and_eq_true, Nat.beq_eq] at he
      obtain ⟨rfl, rfl⟩ := he
      cases hp3
      obtain ⟨r1, hr1, e1⟩ := hy2.ptr_inv
      rw [hr] at hr1; cases hr1
      subst e1
      refine (copyCheck_used r.b (o + r.d) w hcell).mono ?_
      rintro e w' ⟨rfl, rfl⟩
      exact ⟨_, ρ, rfl, Ren.le_refl _, .tup .nil, H⟩
end Go.AX
namespace Go.AX
open Go Go.Proofs Go.RowKit
def PrimOK (f : FuncId) (p : Prim) : Prop :=
  ∀ args h v h', primA p args h = some (v, h') → Enters Tryz.prog f ∧ ∀ (K : Keep) (W0 : World) (ρ : Ren) (w : World) (args' : Array Value), VL ρ args args'.toList → WR Tryz.prog K W0 ρ h w → Calls Tryz.prog f args' w (CPost Tryz.prog K W0 ρ v h')
theorem primS_of {E : Env} {L : List (Nat × Prim)} (hL : E.prim = L.foldl (fun t p => t.set p.1 p.2) .nil) (h : ∀ f p, (f, p) ∈ L → PrimOK f p) : PrimS E Tryz.prog := by
  intro f p hp
  rw [hL] at hp
  rcases T.get_of_pairs _ _ _ _ hp with h1 | h1
  · exact h f p h1
  · rw [T.get_nil] at h1; cases h1
theorem findC_some : ∀ {l : List (List AVal × AVal)} {args : List AVal} {v : AVal}, findC l args = some v → (args, v) ∈ l := by
  intro l
  induction l with
  | nil => intro args v h; cases h
  | cons p l ih =>
    intro args v h
    have h' : ifT (sameL (sameA 20) args p.1) (some p.2) (findC l args) = some v := h
    cases hs : sameL (sameA 20) args p.1 with
    | true =>
      rw [hs] at h'
      have h' : some p.2 = some v := h'
      cases h'
      have := sameL_sound (fun x y => sameA_sound 20 x y) hs
      subst this
      exact List.mem_cons_self
    | false =>
      rw [hs] at h'
      exact List.mem_cons_of_mem _ (ih h')
noncomputable def digL : List (List AVal × AVal) := [([.int .u64 1], .int .i64 1), ([.int .u64 101], .int .i64 3), ([.int .u64 109], .int .i64 3), ([.int .u64 110], .int .i64 3), ([.int .u64 114], .int .i64 3)]
theorem one_arg {ρ : Ren} {k : IntKind} {n : Int} {args' : Array Value} (h : VL ρ [.int k n] args'.toList) : args' = #[.int k n] := by
  rcases args' with ⟨al⟩
  have h2 : VL ρ [.int k n] al := h
  cases h2 with
  | cons hx hl => cases hl; cases hx; rfl
theorem pow10_0 : (Lib.pow10Tab.map fun z => Value.int .u64 z).toArray[0]? = some (.int .u64 1) := by kernel_rfl
theorem pow10_2 : (Lib.pow10Tab.map fun z => Value.int .u64 z).toArray[2]? = some (.int .u64 100) := by kernel_rfl
theorem lay_cells {K : Keep} {W0 : World} {ρ : Ren} {h : AHeap} {w : World} (H : WR Tryz.prog K W0 ρ h w) : w.cell? ⟨0, 0, none⟩ = some (.int .u64 1) ∧ w.cell? ⟨0, 2, none⟩ = some (.int .u64 100) := by
  obtain ⟨hk, hl, _⟩ := H.lay 0 (Nat.zero_le _)
  obtain ⟨e, fz, hC⟩ := hl rfl
  rw [← H.keep 0 hk] at hC
  rw [cell_of hC, cell_of hC]
  exact ⟨pow10_0, pow10_2⟩
theorem digits_ok : PrimOK 78 (.consts digL) := by
  intro args h v h' hp
  refine ⟨⟨_, Tryz.func78, by kernel_rfl, by kernel_rfl⟩, fun K W0 ρ w args' hargs H => ?_⟩
  have hp' : (ob (findC digL args) fun v => some (v, h)) = some (v, h') := hp
  rw [ob_some] at hp'
  obtain ⟨x, hx, hp'⟩ := hp'
  cases hp'
  have hx := findC_some hx
  have hc := lay_cells H
  have fin : ∀ {k : IntKind} {n : Int} (e : Ending) (w' : World), (e = .returned (.int k n) ∧ w' = w) → CPost Tryz.prog K W0 ρ (.int k n) h e w' := by
    rintro k n e w' ⟨rfl, rfl⟩
    exact ⟨_, ρ, rfl, Ren.le_refl _, .int k n, H⟩
  simp only [digL, List.mem_cons, List.not_mem_nil, or_false, Prod.mk.injEq] at hx
  rcases hx with ⟨rfl, rfl⟩ | ⟨rfl, rfl⟩ | ⟨rfl, rfl⟩ | ⟨rfl, rfl⟩ | ⟨rfl, rfl⟩
  · rw [one_arg hargs]; exact (digits_1 w hc.1).mono fin
  · rw [one_arg hargs]; exact (digits_101 w hc.2).mono fin
  · rw [one_arg hargs]; exact (digits_109 w hc.2).mono fin
  · rw [one_arg hargs]; exact (digits_110 w hc.2).mono fin
  · rw [one_arg hargs]; exact (digits_114 w hc.2).mono fin
theorem prims_E0 : E0.prim = [(52, .copyCheck 52), (78, .consts digL)].foldl (fun t p => t.set p.1 p.2) .nil := by kernel_rfl
theorem primS0 : PrimS E0 Tryz.prog := by
  refine primS_of prims_E0 fun f p hfp => ?_
  simp only [List.mem_cons, List.not_mem_nil, or_false, Prod.mk.injEq] at hfp
  rcases hfp with ⟨rfl, rfl⟩ | ⟨rfl, rfl⟩
  · exact fun args h v h' hp => copyCheck_prim hp
  · exact digits_ok
theorem env0 : EnvOK E0 Tryz.prog := envOK E0_ti E0_fn E0_eqs
theorem call0 (lf n : Nat) : CallS Tryz.prog (callN E0 lf n) := callN_sound' env0 (names_of E0_fn) primS0 lf n
end Go.AX
namespace Go.AX
open Go Go.Proofs Go.RowKit
theorem parse1_idle (p q : Addr) (w : World) :
    CallsD Tryz.prog 42 #[.pointer (some p), .pointer (some q)] .returning w fun e u' w' => e = .returned (.tuple #[]) ∧ u' = .returning ∧ w' = w := by
  refine callsD_of_wpS Tryz.func42 rfl fun c₀ cs hu => ?_
  apply wpS_seq
  apply wpS_region
  simp [wpOpsS, go_sem, recoverD, hu, Tryz.ntmps42, Exit.thenS]
  apply wpS_seq
  apply wpS_region
  simp [wpOpsS, go_sem, Exit.thenS]
  refine wpS_cond (t := false) (by simp [Act.eval, Array.replicate]) ?_
  simp only [Bool.false_eq_true, if_false]
  refine wpS_of_wp (wp_skip ?_)
  cases c₀
  simp_all [bodyPostS, results, Tryz.results42]
end Go.AX
namespace Go.AX
open Go Go.Proofs Go.RowKit
noncomputable def seqA : Code → Code | .seq a _ => a | c => c
noncomputable def seqB : Code → Code | .seq _ b => b | c => c
noncomputable def c16 : Code := Tryz.f16.body.getD .skip
theorem body16 : Tryz.f16.body = some (.seq (seqA c16) (.seq (seqA (seqB c16)) (seqB (seqB c16)))) := by kernel_rfl
theorem mid16 : seqA (seqB c16) = .region 1 #[⟨some 7, .makeFunc (.func 42) #[] #[.tmp 2, .tmp 3], 1, "cells.go:161", #[], none⟩, ⟨none, .defer ⟨.value (.tmp 7), #[], #[]⟩, 0, "cells.go:161", #[⟨0, .data⟩], none⟩] false := by kernel_rfl
theorem ntmps16 : Tryz.f16.ntmps = 39 := by kernel_rfl
noncomputable def parseR (E : Env) (callf : CallF) (lf : Nat) (args : List AVal) (h : AHeap) : R :=
  ob (cCode E 39 ((E.plans.get 16).getD []) (seqA c16)) fun c0 => ob (cCode E 39 ((E.plans.get 16).getD []) (seqB (seqB c16))) fun c2 =>
  ob (exec E callf lf c0 (mkFrame args 0 .nil) h) fun o0 => @AExit.rec (fun _ => R)
    (onPtr (evC (.t 2) o0.fr) fun b2 i2 => onPtr (evC (.t 3) o0.fr) fun b3 i3 =>
      ob (exec E callf lf c2 (o0.fr.set 7 (.func 42 [] [.ptr b2 i2, .ptr b3 i3])) o0.h) fun o2 => doRet E Tryz.f16.results.toList o2)
    (fun _ => none) none o0.e
theorem invoke42 (p q : Addr) (w : World) : (invoke (.fn (.func 42) #[.pointer (some p), .pointer (some q)]) #[]).run Tryz.prog w = .ok (.enter 42 #[.pointer (some p), .pointer (some q)]) w := by
  simp [go_sem]
theorem mid16_wp {Q : Exit → Act → World → Prop} {a : Act} {w : World} {p q : Addr} (hs : 39 ≤ a.tmps.size) (h2 : a.tmps.getD 2 undef = .pointer (some p)) (h3 : a.tmps.getD 3 undef = .pointer (some q))
    (hQ : Q .normal { tmps := a.tmps.setIfInBounds 7 (.func (.func 42) #[] #[.pointer (some p), .pointer (some q)]), defers := { target := .fn (.func 42) #[.pointer (some p), .pointer (some q)], args := #[] } :: a.defers } w) :
    (seqA (seqB c16)).wp Tryz.prog Q a w := by
  rw [mid16]
  apply wp_region
  have hmf : ∀ (fn : Fn) (first cap : Array Value) (w : World), (Instr.makeFunc fn first cap).run Tryz.prog w = .ok (.func fn first cap) w := fun _ _ _ _ => rfl
  have e7 : (a.tmps.setIfInBounds 7 (.func (.func 42) #[] #[.pointer (some p), .pointer (some q)])).getD 7 undef = .func (.func 42) #[] #[.pointer (some p), .pointer (some q)] := by
    simp [Array.getD_eq_getD_getElem?, Array.getElem?_setIfInBounds_self_of_lt (show 7 < a.tmps.size by omega)]
  have h2' : a.eval (.tmp 2) = .pointer (some p) := h2
  have h3' : a.eval (.tmp 3) = .pointer (some q) := h3
  have h7 : 7 < a.tmps.size := by omega
  have h2'' : a.tmps[2]?.getD undef = .pointer (some p) := by rw [← Array.getD_eq_getD_getElem?]; exact h2
  have h3'' : a.tmps[3]?.getD undef = .pointer (some q) := by rw [← Array.getD_eq_getD_getElem?]; exact h3
  show wpOps _ _ _ [0, 1] a w
  unfold wpOps
  simp only [List.getElem?_toArray, List.getElem?_cons_zero]
  rw [if_pos (by simp [Region.wanted])]
  left
  simp [Oper.wp, go_sem, h2', h3', hmf, Oper.upon, h2'', h3'']
  unfold wpOps
  simp only [List.getElem?_toArray, List.getElem?_cons_zero, List.getElem?_cons_succ]
  rw [if_pos (by simp [Region.wanted])]
  left
  simp [Oper.wp, go_sem, Oper.upon, Act.put, Act.eval, e7, h7, h2'', h3'', wpOps]
  exact hQ
end Go.AX
namespace Go.AX
open Go Go.Proofs Go.RowKit
theorem parse_sound {E : Env} (hE : EnvOK E Tryz.prog) {callf : CallF} (hcall : CallS Tryz.prog callf) (lf : Nat) {args : List AVal} {h : AHeap} {v : AVal} {h' : AHeap} (hp : parseR E callf lf args h = some (v, h')) :
    Enters Tryz.prog 16 ∧ ∀ (K : Keep) (W0 : World) (ρ : Ren) (w : World) (args' : Array Value), VL ρ args args'.toList → WR Tryz.prog K W0 ρ h w → Calls Tryz.prog 16 args' w (CPost Tryz.prog K W0 ρ v h') := by
  refine ⟨⟨_, Tryz.func16, by kernel_rfl, by kernel_rfl⟩, fun K W0 ρ w args' hargs H => ?_⟩
  have hdraw := drawnS hE hcall
  unfold parseR at hp
  rw [ob_some] at hp
  obtain ⟨c0, hc0, hp⟩ := hp
  rw [ob_some] at hp
  obtain ⟨c2, hc2, hp⟩ := hp
  rw [ob_some] at hp
  obtain ⟨o0, hex0, hp⟩ := hp
  obtain ⟨oe0, ofr0, oh0⟩ := o0
  cases oe0 with
  | exit id => cases hp
  | ret => cases hp
  | normal =>
    have hp : (onPtr (evC (.t 2) ofr0) fun b2 i2 => onPtr (evC (.t 3) ofr0) fun b3 i3 =>
      ob (exec E callf lf c2 (ofr0.set 7 (.func 42 [] [.ptr b2 i2, .ptr b3 i3])) oh0) fun o2 => doRet E Tryz.f16.results.toList o2) = some (v, h') := hp
    rw [onPtr_some] at hp
    obtain ⟨b2, i2, hb2, hp⟩ := hp
    rw [onPtr_some] at hp
    obtain ⟨b3, i3, hb3, hp⟩ := hp
    rw [ob_some] at hp
    obtain ⟨o2, hex2, hret⟩ := hp
    have hsize : 39 ≤ (args' ++ Array.replicate (Tryz.f16.ntmps - args'.size) undef).size := by rw [ntmps16]; simp; omega
    refine calls_of_wp_defers Tryz.func16 body16 ?_
    apply wp_seq
    refine wp_mono (exec_sound hE hcall hdraw lf (nt := 39) (seqA c16) hc0 (a := { tmps := args' ++ Array.replicate (Tryz.f16.ntmps - args'.size) undef, defers := [] }) hsize (mkFrame_FR hargs _) H hex0) fun e a1 w1 hq => ?_
    obtain ⟨ρ1, k1, k2, k3⟩ := hq.rest
    have hd : a1.defers = [] := hq.defers
    have he : e = .normal := hq.e
    subst he
    have hs1 := hq.size
    show Code.wp _ _ _ a1 w1
    have x2 := k2 2
    have x3 := k2 3
    rw [evC_t] at hb2 hb3
    have k22 : FR ρ1 ofr0 a1.tmps := k2
    rw [show (((⟨.normal, ofr0, oh0⟩ : Out).fr.get 2).getD undefA) = .ptr b2 i2 from hb2] at x2
    rw [show (((⟨.normal, ofr0, oh0⟩ : Out).fr.get 3).getD undefA) = .ptr b3 i3 from hb3] at x3
    obtain ⟨r2, hr2, e2⟩ := x2.ptr_inv
    obtain ⟨r3, hr3, e3⟩ := x3.ptr_inv
    apply wp_seq
    refine mid16_wp hs1 e2 e3 ?_
    show Code.wp _ _ _ _ w1
    have hfr : FR ρ1 (ofr0.set 7 (.func 42 [] [.ptr b2 i2, .ptr b3 i3])) (a1.tmps.setIfInBounds 7 (.func (.func 42) #[] #[.pointer (some ⟨r2.b, i2 + r2.d, none⟩), .pointer (some ⟨r3.b, i3 + r3.d, none⟩)])) :=
      k22.set (by omega) (.func rfl .nil (.cons (.ptr hr2) (.cons (.ptr hr3) .nil)))
    refine wp_mono (exec_sound hE hcall hdraw lf (nt := 39) (seqB (seqB c16)) hc2 (a := { tmps := a1.tmps.setIfInBounds 7 (.func (.func 42) #[] #[.pointer (some ⟨r2.b, i2 + r2.d, none⟩), .pointer (some ⟨r3.b, i3 + r3.d, none⟩)]), defers := { target := .fn (.func 42) #[.pointer (some ⟨r2.b, i2 + r2.d, none⟩), .pointer (some ⟨r3.b, i3 + r3.d, none⟩)], args := #[] } :: a1.defers }) (by simpa using hs1) hfr k3 hex2) fun e a2 w2 hq2 => ?_
    obtain ⟨ρ2, m1, m2, m3⟩ := hq2.rest
    have hd2 : a2.defers = { target := .fn (.func 42) #[.pointer (some ⟨r2.b, i2 + r2.d, none⟩), .pointer (some ⟨r3.b, i3 + r3.d, none⟩)], args := #[] } :: [] := by rw [hq2.defers, hd]
    have hfin : ∀ {oh : AHeap} {ofr : Fr}, oh = o2.h → ofr = o2.fr → (hr : resultsA E oh ofr Tryz.f16.results.toList = some v) → oh = h' → Leaves Tryz.prog Tryz.f16 a2.tmps (CPost Tryz.prog K W0 ρ v h') a2.defers .returning w2 := by
      intro oh ofr e1 e2 hr hh
      subst e1; subst e2
      rw [hd2]
      refine leaves_cons (f := 42) (args := #[.pointer (some ⟨r2.b, i2 + r2.d, none⟩), .pointer (some ⟨r3.b, i3 + r3.d, none⟩)]) (by simp) (invoke42 _ _ _) ?_
      refine (parse1_idle _ _ _).mono ?_
      rintro e u' w'' ⟨rfl, rfl, rfl⟩
      obtain ⟨v', q1, q2⟩ := results_sound hE m2 m3 hr
      show Leaves Tryz.prog Tryz.f16 a2.tmps _ [] .returning w''
      exact ⟨v', q1, v', ρ2, rfl, Ren.le_trans k1 m1, q2, hh ▸ m3⟩
    obtain ⟨oe, ofr, oh⟩ := o2
    have he2 := hq2.e
    cases oe with
    | exit id => cases hret
    | normal =>
      have hret' : (ob (resultsA E oh ofr Tryz.f16.results.toList) fun v => some (v, oh)) = some (v, h') := hret
      rw [ob_some] at hret'
      obtain ⟨v1, hr, hret'⟩ := hret'
      cases hret'
      rw [he2]
      exact hfin rfl rfl hr rfl
    | ret =>
      have hret' : (ob (resultsA E oh ofr Tryz.f16.results.toList) fun v => some (v, oh)) = some (v, h') := hret
      rw [ob_some] at hret'
      obtain ⟨v1, hr, hret'⟩ := hret'
      cases hret'
      rw [he2]
      exact hfin rfl rfl hr rfl
end Go.AX
namespace Go.AX
open Go Go.Proofs Go.RowKit
noncomputable def cSeqA : Code → Code | .seq a _ => a | c => c
noncomputable def cSeqB : Code → Code | .seq _ b => b | c => c
noncomputable def cBlk : Code → Code | .block _ b => b | c => c
noncomputable def cLoop : Code → Code | .loop b => b | c => c
noncomputable def cOps : Code → Array Oper | .region _ ops _ => ops | _ => #[]
noncomputable def cRA : Code → Code | .rangeFunc _ _ a _ => a | c => c
noncomputable def cRB : Code → Code | .rangeFunc _ _ _ b => b | c => c
noncomputable def c69 : Code := Tryz.f69.body.getD .skip
noncomputable def i0 : Code := cSeqA c69
noncomputable def i1 : Code := cSeqA (cSeqB c69)
noncomputable def iLB : Code := cLoop (cBlk (cSeqB (cSeqB c69)))
noncomputable def iX : Code := cBlk (cSeqA iLB)
noncomputable def i2 : Code := cSeqB iLB
noncomputable def i3 : Code := cSeqA iX
noncomputable def ops4 : Array Oper := cOps (cSeqA (cSeqB iX))
theorem body69 : Tryz.f69.body = some (.seq i0 (.seq i1 (.block 0 (.loop (.seq (.block 1 (.seq i3 (.seq (.region 4 ops4 false) (.cond (.tmp 29) .ret .skip)))) i2))))) := by kernel_rfl
noncomputable def o5 : Oper := (ops4[5]?).getD default
theorem o5_at : ops4[5]? = some o5 := by kernel_rfl
theorem o5_op : o5.op = .call { callee := .value (.tmp 25), args := #[.tmp 26], argTypes := #[71] } := by kernel_rfl
theorem o5_dst : o5.dst = some 27 := by kernel_rfl
theorem ops4_size : ops4.size = 8 := by kernel_rfl
theorem ntmps69 : Tryz.f69.ntmps = 30 := by kernel_rfl
theorem res69 : Tryz.f69.results = #[] := by kernel_rfl
noncomputable def c38 : Code := Tryz.f38.body.getD .skip
noncomputable def b0 : Code := cSeqA c38
noncomputable def b1 : Code := cSeqA (cSeqB c38)
noncomputable def b2 : Code := cSeqA (cSeqB (cSeqB c38))
noncomputable def b3 : Code := cSeqA (cSeqB (cSeqB (cSeqB c38)))
noncomputable def b4 : Code := cSeqA (cSeqB (cSeqB (cSeqB (cSeqB c38))))
noncomputable def b5 : Code := cSeqA (cSeqB (cSeqB (cSeqB (cSeqB (cSeqB c38)))))
noncomputable def bT : Code := cSeqB (cSeqB (cSeqB (cSeqB (cSeqB (cSeqB c38)))))
noncomputable def b6 : Code := cSeqA (cSeqA bT)
noncomputable def bRF : Code := cBlk (cSeqB (cSeqA bT))
noncomputable def bA : Code := cRA bRF
noncomputable def bB : Code := cRB bRF
noncomputable def b7 : Code := cSeqB bT
theorem body38 : Tryz.f38.body = some (.seq b0 (.seq b1 (.seq b2 (.seq b3 (.seq b4 (.seq b5 (.seq (.seq b6 (.block 0 (.rangeFunc (.tmp 27) #[28] bA bB))) b7))))))) := by kernel_rfl
theorem ntmps38 : Tryz.f38.ntmps = 38 := by kernel_rfl
theorem plainA : plainC bA = true := by kernel_rfl
theorem plainB : plainC bB = true := by kernel_rfl
theorem exec_yield {a : Act} {w : World} {l : Nat} {x : Value} {r : Loop} (hl : w.heap[l]? = some (.loop r)) (hp : r.params = #[28]) (h25 : a.eval (.tmp 25) = .func (.yield l) #[] #[]) (h26 : a.eval (.tmp 26) = x) :
    (execOp a.eval o5).run Tryz.prog w = .ok (.round l r.fn (r.tmps.setIfInBounds 28 x) r.assign r.body) w := by
  have hy := run_yield (P := Tryz.prog) (args := #[x]) hl (by rw [hp]; rfl)
  rw [hp] at hy
  unfold execOp
  rw [o5_op]
  have h25' : a.tmps[25]?.getD undef = .func (.yield l) #[] #[] := by rw [← Array.getD_eq_getD_getElem?]; exact h25
  have h26' : a.tmps[26]?.getD undef = x := by rw [← Array.getD_eq_getD_getElem?]; exact h26
  have hy' : (Instr.yield l #[x]).run Tryz.prog w = .ok (.round l r.fn (r.tmps.setIfInBounds 28 x) r.assign r.body) w := by simpa using hy
  simp [go_sem, h25', h26', hy']
end Go.AX
namespace Go.AX
open Go Go.Proofs Go.RowKit
noncomputable def roundR (E : Env) (fo : Fr) (arg : AVal) (h : AHeap) : Option AHeap :=
  ob (cCode E 38 ((E.plans.get 38).getD []) bA) fun cA => ob (cCode E 38 ((E.plans.get 38).getD []) bB) fun cB =>
  ob (exec E noCall 0 cA (fo.set 28 arg) h) fun o1 => @AExit.rec (fun _ => Option AHeap)
    (ob (exec E noCall 0 cB o1.fr o1.h) fun o2 => @AExit.rec (fun _ => Option AHeap) (some o2.h) (fun _ => none) none o2.e) (fun _ => none) none o1.e
section
variable {E : Env} {K : Keep} {W0 : World} {ρ : Ren} {h : AHeap} {w : World}
theorem round_sound (hE : EnvOK E Tryz.prog) {n l D : Nat} {rec : Loop} (H : LW Tryz.prog K W0 ρ h w l D rec) (hlD : l ≠ D) (hst : rec.state = .ready) (hpe : rec.pending = none) (hsz : 38 ≤ rec.tmps.size)
    {fo : Fr} (hfo : FR ρ fo rec.tmps) {arg : AVal} {x : Value} (hx : V ρ arg x) {h2 : AHeap} (hr : roundR E fo arg h = some h2) :
    RoundIn Fence.wide n Tryz.prog l rec.fn (rec.tmps.setIfInBounds 28 x) bA bB w fun e w' => e = .returned (.bool true) ∧ ∃ ρ', ρ.le ρ' ∧ LW Tryz.prog K W0 ρ' h2 w' l D rec := by
  unfold roundR at hr
  rw [ob_some] at hr
  obtain ⟨cA, hcA, hr⟩ := hr
  rw [ob_some] at hr
  obtain ⟨cB, hcB, hr⟩ := hr
  rw [ob_some] at hr
  obtain ⟨o1, hex1, hr⟩ := hr
  obtain ⟨e1, f1, h1⟩ := o1
  cases e1 with
  | exit id => cases hr
  | ret => cases hr
  | normal =>
    have hr : (ob (exec E noCall 0 cB f1 h1) fun o2 => @AExit.rec (fun _ => Option AHeap) (some o2.h) (fun _ => none) none o2.e) = some h2 := hr
    rw [ob_some] at hr
    obtain ⟨o2, hex2, hr⟩ := hr
    obtain ⟨e2, f2, h2'⟩ := o2
    cases e2 with
    | exit id => cases hr
    | ret => cases hr
    | normal =>
      have hh : h2' = h2 := by
        have : some h2' = some h2 := hr
        exact Option.some.inj this
      subst hh
      have hF : ∀ f, (Fence.wide.inRound l).fn f := fun _ => trivial
      refine roundIn_of_wpIn trivial ?_
      refine wpIn_mono (exec_in hF hE 0 bA plainA hcA (a := { tmps := rec.tmps.setIfInBounds 28 x, defers := [] }) (by simpa using hsz) (hfo.set (by omega) hx) H.go hex1) fun e a1 w1 hq => ?_
      have he : e = .normal := hq.e
      subst he
      obtain ⟨ρ1, k1, k2, k3⟩ := hq.rest
      have H1 := H.back k3
      refine ⟨_, run_beginRound H1.hl hst, ?_⟩
      have H2 := H1.put (rec' := { rec with state := .busy }) hlD
      refine wpIn_mono (exec_in hF hE 0 bB plainB hcB hq.size k2 H2.go hex2) fun e a2 w2 hq2 => ?_
      have he2 : e = .normal := hq2.e
      subst he2
      obtain ⟨ρ2, m1, m2, m3⟩ := hq2.rest
      have H3 := H2.back m3
      refine ⟨_, _, run_endRound none H3.hl, rfl, ρ2, Ren.le_trans k1 m1, ?_⟩
      have H4 := H3.put (rec' := { ({ rec with state := .busy } : Loop) with state := .ready, pending := none }) hlD
      have e3 : ({ ({ rec with state := .busy } : Loop) with state := .ready, pending := none } : Loop) = rec := by
        cases rec
        simp only at hst hpe
        subst hst; subst hpe; rfl
      rw [e3] at H4
      have e4 : ({ ({ rec with state := .busy } : Loop) with state := if (none : Option Code).isNone then .ready else .done, pending := none } : Loop) = rec := e3
      rw [e4]
      exact H4
end
end Go.AX
namespace Go.AX
open Go Go.Proofs Go.RowKit
noncomputable def itA (E : Env) (callf : CallF) (lf : Nat) (fo : Fr) (nY : Nat) (c3 c2 : CCode) (lA : List COper) (k5 : COper) (lB : List COper) (m : Nat) : Fr → AHeap → Option AHeap :=
  @Nat.rec (fun _ => Fr → AHeap → Option AHeap) (fun _ _ => none) (fun _ ih fr h =>
    ob (exec E callf lf c3 fr h) fun o => @AExit.rec (fun _ => Option AHeap)
      (ob (runOps E noCall lA o.fr o.h) fun p => onBool (evC (.t 24) p.1) fun t24 => ifT t24
        (ob (runOps E noCall (k5 :: lB) p.1 p.2) fun q => onBool (evC (.t 29) q.1) fun t29 => ifT t29 (some q.2) none)
        (ifT (and (guardOk k5.guard p.1) (sameA 5 (evC (.t 25) p.1) (.func (1000000000 + nY) [] [])))
          (ob (roundR E fo (evC (.t 26) p.1) p.2) fun h2 => ob (runOps E noCall lB (p.1.set 27 (.bool true)) h2) fun q => onBool (evC (.t 29) q.1) fun t29 => ifT t29 none
            (ob (exec E callf lf c2 q.1 q.2) fun o2 => @AExit.rec (fun _ => Option AHeap) (ih o2.fr o2.h) (fun _ => none) none o2.e)) none))
      (fun _ => none) none o.e) m
theorem V.yld_inv {ρ : Ren} {m : Nat} {v : Value} (h : V ρ (.func m [] []) v) (hm : 1000000000 ≤ m) : ∃ n r, m = 1000000000 + n ∧ ρ n = some r ∧ v = .func (.yield r.b) #[] #[] := by
  cases h with
  | func hlt _ _ => rw [Nat.blt_eq] at hlt; omega
  | yld he => exact ⟨_, _, rfl, he, rfl⟩
section
variable {E : Env} {K : Keep} {W0 : World}
def ItQ (K : Keep) (W0 : World) (ρs : Ren) (h' : AHeap) (l D : Nat) (rec : Loop) (e : Exit) (a : Act) (w : World) : Prop :=
  e = .ret ∧ a.defers = [] ∧ ∃ ρ', ρs.le ρ' ∧ LW Tryz.prog K W0 ρ' h' w l D rec
theorem it_rounds (hE : EnvOK E Tryz.prog) {callf : CallF} (hcall : CallS Tryz.prog callf) (lf : Nat) {n l D : Nat} {rec : Loop} (hlD : l ≠ D) (hst : rec.state = .ready) (hpe : rec.pending = none) (hsz : 38 ≤ rec.tmps.size) (hpa : rec.params = #[28])
    (hra : rec.assign = bA) (hrb : rec.body = bB) {fo : Fr} {nY : Nat} {pl : List (Nat × List Nat)} {c3 c2 : CCode} {lA lB : List COper} {k5 : COper} (hc3 : cCode E 30 pl i3 = some c3) (hc2 : cCode E 30 pl i2 = some c2)
    (hlA : [0, 1, 2, 3, 4].mapM (fun i => (ops4[i]?).bind (cOper E 30 ops4)) = some lA) (hk5 : cOper E 30 ops4 o5 = some k5) (hlB : [6, 7].mapM (fun i => (ops4[i]?).bind (cOper E 30 ops4)) = some lB) {h' : AHeap} {ρs : Ren} :
    ∀ (m : Nat) {fr : Fr} {h : AHeap} {ρ : Ren} {a : Act} {w : World}, ρs.le ρ → (∃ r, ρ nY = some r ∧ r.b = l) → a.defers = [] → 30 ≤ a.tmps.size → FR ρ fr a.tmps → FR ρ fo rec.tmps → LW Tryz.prog K W0 ρ h w l D rec →
      itA E callf lf fo nY c3 c2 lA k5 lB m fr h = some h' →
      Code.roundsIn Fence.wide n Tryz.prog (.seq (.block 1 (.seq i3 (.seq (.region 4 ops4 false) (.cond (.tmp 29) .ret .skip)))) i2) (ItQ K W0 ρs h' l D rec) m a w := by
  have hdraw := drawnS hE hcall
  have hF : ∀ f, Fence.wide.fn f := fun _ => trivial
  intro m
  induction m with
  | zero => intro fr h ρ a w _ _ _ _ _ _ _ hs; cases hs
  | succ m ih =>
    intro fr h ρ a w hle hY hd hs1 hf hfo H hs
    have hs' : (ob (exec E callf lf c3 fr h) fun o => @AExit.rec (fun _ => Option AHeap)
      (ob (runOps E noCall lA o.fr o.h) fun p => onBool (evC (.t 24) p.1) fun t24 => ifT t24
        (ob (runOps E noCall (k5 :: lB) p.1 p.2) fun q => onBool (evC (.t 29) q.1) fun t29 => ifT t29 (some q.2) none)
        (ifT (and (guardOk k5.guard p.1) (sameA 5 (evC (.t 25) p.1) (.func (1000000000 + nY) [] [])))
          (ob (roundR E fo (evC (.t 26) p.1) p.2) fun h2 => ob (runOps E noCall lB (p.1.set 27 (.bool true)) h2) fun q => onBool (evC (.t 29) q.1) fun t29 => ifT t29 none
            (ob (exec E callf lf c2 q.1 q.2) fun o2 => @AExit.rec (fun _ => Option AHeap) (itA E callf lf fo nY c3 c2 lA k5 lB m o2.fr o2.h) (fun _ => none) none o2.e)) none))
      (fun _ => none) none o.e) = some h' := hs
    rw [ob_some] at hs'
    obtain ⟨o, hex, hs'⟩ := hs'
    obtain ⟨e1, f1, h1⟩ := o
    cases e1 with
    | exit id => cases hs'
    | ret => cases hs'
    | normal =>
      have hs2 : (ob (runOps E noCall lA f1 h1) fun p => onBool (evC (.t 24) p.1) fun t24 => ifT t24
        (ob (runOps E noCall (k5 :: lB) p.1 p.2) fun q => onBool (evC (.t 29) q.1) fun t29 => ifT t29 (some q.2) none)
        (ifT (and (guardOk k5.guard p.1) (sameA 5 (evC (.t 25) p.1) (.func (1000000000 + nY) [] [])))
          (ob (roundR E fo (evC (.t 26) p.1) p.2) fun h2 => ob (runOps E noCall lB (p.1.set 27 (.bool true)) h2) fun q => onBool (evC (.t 29) q.1) fun t29 => ifT t29 none
            (ob (exec E callf lf c2 q.1 q.2) fun o2 => @AExit.rec (fun _ => Option AHeap) (itA E callf lf fo nY c3 c2 lA k5 lB m o2.fr o2.h) (fun _ => none) none o2.e)) none)) = some h' := hs'
      clear hs' hs
      rw [ob_some] at hs2
      obtain ⟨⟨f2, h2⟩, hrA, hs2⟩ := hs2
      rw [onBool_some] at hs2
      obtain ⟨t24, ht24, hs2⟩ := hs2
      rw [roundsIn_succ]
      apply wpIn_seq
      apply wpIn_block
      apply wpIn_seq
      refine wpIn_mono (wpIn_wide.2 (exec_sound hE hcall hdraw lf i3 hc3 hs1 hf H.go hex)) fun e a1 w1 hq => ?_
      have he : e = .normal := hq.e
      subst he
      obtain ⟨ρ1, k1, k2, k3⟩ := hq.rest
      have H1 := H.back k3
      show Code.wpIn _ _ _ _ _ a1 w1
      apply wpIn_seq
      apply wpIn_region
      rw [ops4_size]
      show wpOpsIn _ _ _ _ _ ([0, 1, 2, 3, 4] ++ [5, 6, 7]) a1 w1
      refine runOps_in hF hE lA [0, 1, 2, 3, 4] hlA hq.size k2 H1.go hrA fun a2 w2 hq2 => ?_
      obtain ⟨d2, z2, ρ2, m1, m2, m3⟩ := hq2
      have H2 := H1.back m3
      have hle2 : ρ.le ρ2 := Ren.le_trans k1 m1
      have hk5' : (ops4[5]?).bind (cOper E 30 ops4) = some k5 := by rw [o5_at]; exact hk5
      cases t24 with
      | true =>
        have hs3 : (ob (runOps E noCall (k5 :: lB) f2 h2) fun q => onBool (evC (.t 29) q.1) fun t29 => ifT t29 (some q.2) none) = some h' := hs2
        rw [ob_some] at hs3
        obtain ⟨⟨f3, h3⟩, hrB, hs3⟩ := hs3
        rw [onBool_some] at hs3
        obtain ⟨t29, ht29, hs3⟩ := hs3
        rw [ifT_some] at hs3
        obtain ⟨rfl, hs3⟩ := hs3
        cases hs3
        have hl5 : [5, 6, 7].mapM (fun i => (ops4[i]?).bind (cOper E 30 ops4)) = some (k5 :: lB) := by
          rw [List.mapM_cons, hk5', hlB]; rfl
        rw [show ([5, 6, 7] : List Nat) = [5, 6, 7] ++ [] from rfl]
        refine runOps_in hF hE (k5 :: lB) [5, 6, 7] hl5 z2 m2 H2.go hrB fun a3 w3 hq3 => ?_
        obtain ⟨d3, z3, ρ3, p1, p2, p3⟩ := hq3
        have H3 := H2.back p3
        show Code.wpIn _ _ _ _ _ a3 w3
        have x29 := p2 29
        rw [evC_t] at ht29
        rw [show ((f3.get 29).getD undefA) = .bool true from ht29] at x29
        refine wpIn_cond (t := true) x29.bool_inv ?_
        simp only [if_true]
        apply wpIn_ret
        exact ⟨rfl, by rw [d3, d2]; exact hq.defers.trans hd, ρ3, Ren.le_trans hle (Ren.le_trans hle2 p1), H3⟩
      | false =>
        have hs3 : ifT (and (guardOk k5.guard f2) (sameA 5 (evC (.t 25) f2) (.func (1000000000 + nY) [] [])))
          (ob (roundR E fo (evC (.t 26) f2) h2) fun h2 => ob (runOps E noCall lB (f2.set 27 (.bool true)) h2) fun q => onBool (evC (.t 29) q.1) fun t29 => ifT t29 none
            (ob (exec E callf lf c2 q.1 q.2) fun o2 => @AExit.rec (fun _ => Option AHeap) (itA E callf lf fo nY c3 c2 lA k5 lB m o2.fr o2.h) (fun _ => none) none o2.e)) none = some h' := hs2
        rw [ifT_some] at hs3
        obtain ⟨hg, hs3⟩ := hs3
        rw [Bool.and_eq_true] at hg
        obtain ⟨hg, h25⟩ := hg
        have h25 := sameA_sound _ _ _ h25
        rw [ob_some] at hs3
        obtain ⟨h4, hround, hs3⟩ := hs3
        rw [ob_some] at hs3
        obtain ⟨⟨f5, h5⟩, hrB, hs3⟩ := hs3
        rw [onBool_some] at hs3
        obtain ⟨t29, ht29, hs3⟩ := hs3
        cases t29 with
        | true => cases hs3
        | false =>
          have hs4 : (ob (exec E callf lf c2 f5 h5) fun o2 => @AExit.rec (fun _ => Option AHeap) (itA E callf lf fo nY c3 c2 lA k5 lB m o2.fr o2.h) (fun _ => none) none o2.e) = some h' := hs3
          rw [ob_some] at hs4
          obtain ⟨o6, hex6, hs4⟩ := hs4
          obtain ⟨e6, f6, h6⟩ := o6
          have hw : Region.wanted o5 (yielded ops4 a2.tmps) = true := by rw [← guard_eq hk5 m2]; exact hg
          have x25 := m2 25
          rw [evC_t] at h25
          rw [show ((f2.get 25).getD undefA) = _ from h25] at x25
          have e25 : a2.eval (.tmp 25) = .func (.yield l) #[] #[] := by
            obtain ⟨r, hr, hrl⟩ := hY
            have hr2 := hle2 _ _ hr
            have hx : V ρ2 (.func (1000000000 + nY) [] []) (a2.eval (.tmp 25)) := x25
            obtain ⟨n', r', e1, e2, e3⟩ := hx.yld_inv (by omega)
            have : n' = nY := by omega
            subst this
            rw [hr2] at e2; cases e2
            rw [e3, hrl]
          have x26 : V ρ2 (evC (.t 26) f2) (a2.eval (.tmp 26)) := by rw [evC_t]; exact m2 26
          show wpOpsIn _ _ _ _ _ (5 :: [6, 7]) a2 w2
          unfold wpOpsIn
          rw [o5_at]
          simp only [hw, if_true]
          refine ⟨fun f _ => hF f, ?_⟩
          rw [Oper.semAt_plain Fence.wide a2.eval o5 (fun c e => by rw [o5_op] at e; cases e), exec_yield H2.hl hpa e25 rfl]
          refine ⟨fun h => (by cases h), ?_⟩
          rw [hra, hrb]
          refine RoundIn.mono (round_sound hE H2 hlD hst hpe hsz (hfo.mono hle2) x26 hround) ?_
          rintro e w3 ⟨rfl, ρ3, q1, H3⟩
          show wpOpsIn _ _ _ _ _ [6, 7] (a2.put o5.dst (.bool true)) w3
          have hf3 : FR ρ3 (f2.set 27 (.bool true)) (a2.put o5.dst (.bool true)).tmps := by
            rw [o5_dst]
            exact (m2.mono q1).set (by omega) (.bool true)
          rw [show ([6, 7] : List Nat) = [6, 7] ++ [] from rfl]
          refine runOps_in hF hE lB [6, 7] hlB (by rw [put_size]; exact z2) hf3 H3.go hrB fun a4 w4 hq4 => ?_
          obtain ⟨d4, z4, ρ4, r1, r2, r3⟩ := hq4
          have H4 := H3.back r3
          show Code.wpIn _ _ _ _ _ a4 w4
          have x29 := r2 29
          rw [evC_t] at ht29
          rw [show ((f5.get 29).getD undefA) = .bool false from ht29] at x29
          refine wpIn_cond (t := false) x29.bool_inv ?_
          simp only [Bool.false_eq_true, if_false]
          apply wpIn_skip
          show Code.wpIn _ _ _ _ _ a4 w4
          cases e6 with
          | exit id => cases hs4
          | ret => cases hs4
          | normal =>
            refine wpIn_mono (wpIn_wide.2 (exec_sound hE hcall hdraw lf i2 hc2 z4 r2 H4.go hex6)) fun e a5 w5 hq5 => ?_
            have he5 : e = .normal := hq5.e
            subst he5
            obtain ⟨ρ5, s1, s2, s3⟩ := hq5.rest
            have H5 := H4.back s3
            have hle5 : ρ.le ρ5 := Ren.le_trans hle2 (Ren.le_trans q1 (Ren.le_trans r1 s1))
            show Code.roundsIn _ _ _ _ _ m a5 w5
            refine ih (Ren.le_trans hle hle5) (hY.imp fun r hr => ⟨hle5 _ _ hr.1, hr.2⟩) ?_ hq5.size s2 (hfo.mono hle5) H5 hs4
            rw [hq5.defers, d4, put_defs, d2]
            exact hq.defers.trans hd
end
end Go.AX
namespace Go.AX
open Go Go.Proofs Go.RowKit
noncomputable def exN (E : Env) (callf : CallF) (lf : Nat) (c : Option CCode) (fr : Fr) (h : AHeap) : Option (Fr × AHeap) :=
  ob c fun c => ob (exec E callf lf c fr h) fun o => @AExit.rec (fun _ => Option (Fr × AHeap)) (some (o.fr, o.h)) (fun _ => none) none o.e
noncomputable def iterR (E : Env) (callf : CallF) (lf : Nat) (fo : Fr) (nY : Nat) (cap : AVal) (h : AHeap) : Option AHeap :=
  ob (cCode E 30 ((E.plans.get 69).getD []) i3) fun c3 => ob (cCode E 30 ((E.plans.get 69).getD []) i2) fun c2 =>
  ob ([0, 1, 2, 3, 4].mapM fun i => (ops4[i]?).bind (cOper E 30 ops4)) fun lA => ob (cOper E 30 ops4 o5) fun k5 => ob ([6, 7].mapM fun i => (ops4[i]?).bind (cOper E 30 ops4)) fun lB =>
  ob (exN E callf lf (cCode E 30 ((E.plans.get 69).getD []) i0) (mkFrame [.func (1000000000 + nY) [] [], cap] 0 .nil) h) fun p =>
  ob (exN E callf lf (cCode E 30 ((E.plans.get 69).getD []) i1) p.1 p.2) fun q => itA E callf lf fo nY c3 c2 lA k5 lB 100 q.1 q.2
section
variable {E : Env} {K : Keep} {W0 : World}
theorem stepN {P : Program} [Lay P] (hE : EnvOK E P) {callf : CallF} (hcall : CallS P callf) (lf : Nat) {n nt : Nat} {pl : List (Nat × List Nat)} {c y : Code} {ρ : Ren} {fr f1 : Fr} {h h1 : AHeap} {w : World} {a : Act} {Q : Exit → Act → World → Prop}
    (hex : exN E callf lf (cCode E nt pl c) fr h = some (f1, h1)) (hn : nt ≤ a.tmps.size) (hf : FR ρ fr a.tmps) (H : WR P K W0 ρ h w)
    (hk : ∀ a1 w1 ρ1, ρ.le ρ1 → a1.defers = a.defers → nt ≤ a1.tmps.size → FR ρ1 f1 a1.tmps → WR P K W0 ρ1 h1 w1 → y.wpIn Fence.wide n P Q a1 w1) : (Code.seq c y).wpIn Fence.wide n P Q a w := by
  unfold exN at hex
  rw [ob_some] at hex
  obtain ⟨cc, hc, hex⟩ := hex
  rw [ob_some] at hex
  obtain ⟨o, hx, hex⟩ := hex
  obtain ⟨e1, g1, q1⟩ := o
  cases e1 with
  | exit id => cases hex
  | ret => cases hex
  | normal =>
    cases hex
    apply wpIn_seq
    refine wpIn_mono (wpIn_wide.2 (exec_sound hE hcall (drawnS hE hcall) lf c hc hn hf H hx)) fun e a1 w1 hq => ?_
    have he : e = .normal := hq.e
    subst he
    obtain ⟨ρ1, k1, k2, k3⟩ := hq.rest
    exact hk a1 w1 ρ1 k1 hq.defers hq.size k2 k3
theorem iter_sound (hE : EnvOK E Tryz.prog) {callf : CallF} (hcall : CallS Tryz.prog callf) (lf : Nat) {n l D : Nat} {rec : Loop} (hlD : l ≠ D) (hst : rec.state = .ready) (hpe : rec.pending = none) (hsz : 38 ≤ rec.tmps.size) (hpa : rec.params = #[28])
    (hra : rec.assign = bA) (hrb : rec.body = bB) {fo : Fr} {nY : Nat} {cap : AVal} {capv : Value} {h h' : AHeap} {ρ : Ren} {w : World} (hY : ∃ r, ρ nY = some r ∧ r.b = l) (hcap : V ρ cap capv) (hfo : FR ρ fo rec.tmps)
    (H : LW Tryz.prog K W0 ρ h w l D rec) (hs : iterR E callf lf fo nY cap h = some h') :
    CallsIn Fence.wide n Tryz.prog 69 #[.func (.yield l) #[] #[], capv] w fun e w' => (∃ v, e = .returned v) ∧ ∃ ρ', ρ.le ρ' ∧ LW Tryz.prog K W0 ρ' h' w' l D rec := by
  unfold iterR at hs
  rw [ob_some] at hs
  obtain ⟨c3, hc3, hs⟩ := hs
  rw [ob_some] at hs
  obtain ⟨c2, hc2, hs⟩ := hs
  rw [ob_some] at hs
  obtain ⟨lA, hlA, hs⟩ := hs
  rw [ob_some] at hs
  obtain ⟨k5, hk5, hs⟩ := hs
  rw [ob_some] at hs
  obtain ⟨lB, hlB, hs⟩ := hs
  rw [ob_some] at hs
  obtain ⟨⟨f0, h0⟩, hx0, hs⟩ := hs
  rw [ob_some] at hs
  obtain ⟨⟨f1, h1⟩, hx1, hs⟩ := hs
  refine callsIn_wide.2 (calls_of_wp Tryz.func69 body69 ((wpIn_wide (n := n)).1 ?_))
  obtain ⟨rY, hrY, hrl⟩ := hY
  have hargs : VL ρ [.func (1000000000 + nY) [] [], cap] (#[.func (.yield l) #[] #[], capv] : Array Value).toList := by
    refine .cons ?_ (.cons hcap .nil)
    rw [← hrl]
    exact .yld hrY
  have hsize : 30 ≤ ((#[.func (.yield l) #[] #[], capv] : Array Value) ++ Array.replicate (Tryz.f69.ntmps - (#[.func (.yield l) #[] #[], capv] : Array Value).size) undef).size := by rw [ntmps69]; simp
  refine stepN hE hcall lf hx0 (a := { tmps := (#[.func (.yield l) #[] #[], capv] : Array Value) ++ Array.replicate (Tryz.f69.ntmps - (#[.func (.yield l) #[] #[], capv] : Array Value).size) undef, defers := [] }) hsize (mkFrame_FR hargs _) H.go fun a1 w1 ρ1 k1 d1 z1 g1 H1 => ?_
  have L1 := H.back H1
  refine stepN hE hcall lf hx1 z1 g1 L1.go fun a2 w2 ρ2 k2 d2 z2 g2 H2 => ?_
  have L2 := L1.back H2
  apply wpIn_block
  refine wpIn_loop_rounds 100 ?_
  have hle := Ren.le_trans k1 k2
  have hr := it_rounds (n := n) (ρs := ρ) hE hcall lf hlD hst hpe hsz hpa hra hrb hc3 hc2 hlA hk5 hlB 100 hle ⟨rY, hle _ _ hrY, hrl⟩ (by rw [d2, d1]) z2 g2 (hfo.mono hle) L2 hs
  have key : ∀ (m : Nat) (a : Act) (w : World), Code.roundsIn Fence.wide n Tryz.prog (.seq (.block 1 (.seq i3 (.seq (.region 4 ops4 false) (.cond (.tmp 29) .ret .skip)))) i2) (ItQ K W0 ρ h' l D rec) m a w →
      Code.roundsIn Fence.wide n Tryz.prog (.seq (.block 1 (.seq i3 (.seq (.region 4 ops4 false) (.cond (.tmp 29) .ret .skip)))) i2) (Exit.inBlock 0 (bodyPost Tryz.prog Tryz.f69 fun e w' => (∃ v, e = .returned v) ∧ ∃ ρ', ρ.le ρ' ∧ LW Tryz.prog K W0 ρ' h' w' l D rec)) m a w := by
    intro m
    induction m with
    | zero => intro a w h; exact h
    | succ m ih =>
      intro a w h
      rw [roundsIn_succ] at h ⊢
      refine wpIn_mono h fun e a1 w1 hq => ?_
      have hno : ∀ e, ItQ K W0 ρ h' l D rec e a1 w1 → Exit.inBlock 0 (bodyPost Tryz.prog Tryz.f69 fun e w' => (∃ v, e = .returned v) ∧ ∃ ρ', ρ.le ρ' ∧ LW Tryz.prog K W0 ρ' h' w' l D rec) e a1 w1 := by
        rintro e ⟨rfl, hd, hR⟩
        have hres : (results Tryz.f69 a1.tmps).run Tryz.prog w1 = .ok (.tuple #[]) w1 := by
          unfold results
          rw [res69]
          simp
        exact ⟨hd, _, hres, ⟨_, rfl⟩, hR⟩
      cases e with
      | normal => exact ih a1 w1 hq
      | exit id => exact hno _ hq
      | goto id => exact hno _ hq
      | ret => exact hno _ hq
      | panic c => exact hno _ hq
      | outgrown => exact hno _ hq
  exact key 100 _ _ hr
end
end Go.AX
namespace Go.AX
open Go Go.Proofs Go.RowKit
noncomputable def bestR (E : Env) (callf : CallF) (lf : Nat) (args : List AVal) (h : AHeap) : R :=
  ob (exN E callf lf (cCode E 38 ((E.plans.get 38).getD []) b0) (mkFrame args 0 .nil) h) fun p0 =>
  ob (exN E callf lf (cCode E 38 ((E.plans.get 38).getD []) b1) p0.1 p0.2) fun p1 =>
  ob (exN E callf lf (cCode E 38 ((E.plans.get 38).getD []) b2) p1.1 p1.2) fun p2 =>
  ob (exN E callf lf (cCode E 38 ((E.plans.get 38).getD []) b3) p2.1 p2.2) fun p3 =>
  ob (exN E callf lf (cCode E 38 ((E.plans.get 38).getD []) b4) p3.1 p3.2) fun p4 =>
  ob (exN E callf lf (cCode E 38 ((E.plans.get 38).getD []) b5) p4.1 p4.2) fun p5 =>
  ob (exN E callf lf (cCode E 38 ((E.plans.get 38).getD []) b6) p5.1 p5.2) fun p6 =>
  onFunc (evC (.t 27) p6.1) fun f fs cs => match fs, cs with
    | [], [cap] => ifT (Nat.beq f 69) (ob (iterR E callf lf p6.1 p6.2.next cap ⟨Nat.succ p6.2.next, p6.2.t⟩) fun h2 =>
        ob (cCode E 38 ((E.plans.get 38).getD []) b7) fun c7 => ob (exec E callf lf c7 p6.1 h2) fun o => doRet E Tryz.f38.results.toList o) none
    | _, _ => none
section
variable {E : Env}
theorem best_sound (hE : EnvOK E Tryz.prog) {callf : CallF} (hcall : CallS Tryz.prog callf) (lf : Nat) {args : List AVal} {h : AHeap} {v : AVal} {h' : AHeap} (hp : bestR E callf lf args h = some (v, h')) :
    Enters Tryz.prog 38 ∧ ∀ (K : Keep) (W0 : World) (ρ : Ren) (w : World) (args' : Array Value), VL ρ args args'.toList → WR Tryz.prog K W0 ρ h w → Calls Tryz.prog 38 args' w (CPost Tryz.prog K W0 ρ v h') := by
  refine ⟨⟨_, Tryz.func38, by kernel_rfl, by kernel_rfl⟩, fun K W0 ρ w args' hargs H => ?_⟩
  unfold bestR at hp
  rw [ob_some] at hp
  obtain ⟨⟨f0, h0⟩, hx0, hp⟩ := hp
  rw [ob_some] at hp
  obtain ⟨⟨f1, h1⟩, hx1, hp⟩ := hp
  rw [ob_some] at hp
  obtain ⟨⟨f2, h2⟩, hx2, hp⟩ := hp
  rw [ob_some] at hp
  obtain ⟨⟨f3, h3⟩, hx3, hp⟩ := hp
  rw [ob_some] at hp
  obtain ⟨⟨f4, h4⟩, hx4, hp⟩ := hp
  rw [ob_some] at hp
  obtain ⟨⟨f5, h5⟩, hx5, hp⟩ := hp
  rw [ob_some] at hp
  obtain ⟨⟨f6, h6⟩, hx6, hp⟩ := hp
  rw [onFunc_some] at hp
  obtain ⟨fi, fs, cs, h27, hp⟩ := hp
  match fs, cs, h27, hp with
  | [], [cap], h27, hp =>
    have hp2 : ifT (Nat.beq fi 69) (ob (iterR E callf lf f6 h6.next cap ⟨Nat.succ h6.next, h6.t⟩) fun h2 =>
        ob (cCode E 38 ((E.plans.get 38).getD []) b7) fun c7 => ob (exec E callf lf c7 f6 h2) fun o => doRet E Tryz.f38.results.toList o) none = some (v, h') := hp
    rw [ifT_some] at hp2
    obtain ⟨hfi, hp2⟩ := hp2
    have hfi : fi = 69 := Nat.eq_of_beq_eq_true hfi
    subst hfi
    rw [ob_some] at hp2
    obtain ⟨hI, hit, hp2⟩ := hp2
    rw [ob_some] at hp2
    obtain ⟨c7, hc7, hp2⟩ := hp2
    rw [ob_some] at hp2
    obtain ⟨o7, hx7, hret⟩ := hp2
    refine (callsIn_wide (n := 0)).1 (callsIn_of_wp_marks Tryz.func38 body38 trivial ?_)
    have hsize : 38 ≤ (args' ++ Array.replicate (Tryz.f38.ntmps - args'.size) undef).size := by rw [ntmps38]; simp; omega
    refine stepN hE hcall lf hx0 (a := { tmps := args' ++ Array.replicate (Tryz.f38.ntmps - args'.size) undef, defers := [] }) hsize (mkFrame_FR hargs _) H fun a0 w0 ρ0 k0 d0 z0 g0 H0 => ?_
    refine stepN hE hcall lf hx1 z0 g0 H0 fun a1 w1 ρ1 k1 d1 z1 g1 H1 => ?_
    refine stepN hE hcall lf hx2 z1 g1 H1 fun a2 w2 ρ2 k2 d2 z2 g2 H2 => ?_
    refine stepN hE hcall lf hx3 z2 g2 H2 fun a3 w3 ρ3 k3 d3 z3 g3 H3 => ?_
    refine stepN hE hcall lf hx4 z3 g3 H3 fun a4 w4 ρ4 k4 d4 z4 g4 H4 => ?_
    refine stepN hE hcall lf hx5 z4 g4 H4 fun a5 w5 ρ5 k5 d5 z5 g5 H5 => ?_
    apply wpIn_seq
    refine stepN hE hcall lf hx6 z5 g5 H5 fun a6 w6 ρ6 k6 d6 z6 g6 H6 => ?_
    have hd6 : a6.defers = [] := by rw [d6, d5, d4, d3, d2, d1, d0]
    have hle6 : ρ.le ρ6 := Ren.le_trans k0 (Ren.le_trans k1 (Ren.le_trans k2 (Ren.le_trans k3 (Ren.le_trans k4 (Ren.le_trans k5 k6)))))
    have x27 := g6 27
    rw [evC_t] at h27
    rw [h27] at x27
    obtain ⟨first', cap', e27, v1, v2⟩ := x27.func_inv rfl
    have hfi' : first' = #[] := by
      rcases first' with ⟨fl⟩
      have v1' : VL ρ6 [] fl := v1
      cases v1'; rfl
    obtain ⟨capv, hcv, hcap⟩ : ∃ capv, cap' = #[capv] ∧ V ρ6 cap capv := by
      rcases cap' with ⟨cl⟩
      have v2' : VL ρ6 [cap] cl := v2
      cases v2' with
      | cons hx hl => cases hl; exact ⟨_, rfl, hx⟩
    subst hfi'; subst hcv
    have e27 : a6.eval (.tmp 27) = .func (.func 69) #[] #[capv] := e27
    apply wpIn_block
    refine wpIn_rangeFunc fun fn _ => ?_
    let rc : Loop := { state := .ready, pending := none, fn, tmps := a6.tmps, params := #[28], assign := bA, body := bB, defers := w6.heap.size }
    have hL0 : LW Tryz.prog K W0 ρ6 h6 ((w6.alloc (.deferred (some []))).alloc (.loop rc)) (w6.heap.size + 1) w6.heap.size rc := LW.start H6 rc
    have hL1 : LW Tryz.prog K W0 ρ6 ⟨Nat.succ h6.next, h6.t⟩ ((w6.alloc (.deferred (some []))).alloc (.loop rc)) (w6.heap.size + 1) w6.heap.size rc := hL0.bump (Nat.le_succ _)
    have hnone : ρ6 h6.next = none := (H6.fresh _ (Nat.le_refl _)).1
    have hL2 : LW Tryz.prog K W0 (ρ6.upd h6.next ⟨w6.heap.size + 1, 0, none, al0⟩) ⟨Nat.succ h6.next, h6.t⟩ ((w6.alloc (.deferred (some []))).alloc (.loop rc)) (w6.heap.size + 1) w6.heap.size rc :=
      hL1.upd hnone (Nat.lt_succ_self _) H6.nx
    have hup := Ren.le_upd (⟨w6.heap.size + 1, 0, none, al0⟩ : RB) hnone
    refine ⟨w6.heap.size + 1, [{ target := .collected w6.heap.size, args := #[] }], (w6.alloc (.deferred (some []))).alloc (.loop rc), { target := .fn (.func 69) #[capv], args := #[.func (.yield (w6.heap.size + 1)) #[] #[]] },
      (w6.alloc (.deferred (some []))).alloc (.loop rc), 69, #[.func (.yield (w6.heap.size + 1)) #[] #[], capv], (w6.alloc (.deferred (some []))).alloc (.loop rc), ?_, ?_, fun _ _ => trivial, ?_, fun h => (by cases h), ?_⟩
    · exact run_enterLoop_outer _ _ _ _ _
    · simp only [resolve, e27]
      simp [go_sem]
    · have hcf : ∀ args w, (callFunc 69 args).run Tryz.prog w = .ok (.enter 69 args) w := fun args w => run_callFunc (P := Tryz.prog) (f := 69) ⟨_, Tryz.func69, by kernel_rfl, by kernel_rfl⟩ args
      simp [invoke, go_sem, hcf]
    · have hit' := iter_sound (n := 0 - 1) hE hcall lf (l := w6.heap.size + 1) (D := w6.heap.size) (rec := rc) (by omega) rfl rfl z6 rfl rfl rfl (fo := f6) ⟨_, Ren.upd_same _ _ _, rfl⟩ (hcap.mono hup) (g6.mono hup) hL2 hit
      refine hit'.mono ?_
      rintro e w7 ⟨⟨vr, rfl⟩, ρ7, k7, L7⟩
      refine ⟨_, _, run_endLoop L7.hl (by simp [rc]), ?_⟩
      have L8 := L7.put (rec' := { rc with state := .exhausted }) (by omega)
      have hle7 : ρ.le ρ7 := Ren.le_trans hle6 (Ren.le_trans hup k7)
      show Code.wpIn _ _ _ _ _ _ _
      refine wpIn_mono (wpIn_wide.2 (exec_sound hE hcall (drawnS hE hcall) lf b7 hc7 (a := { a6 with defers := [{ target := .collected w6.heap.size, args := #[] }] ++ a6.defers }) z6 ((g6.mono hup).mono k7) L8.go hx7)) fun e a8 w8 hq => ?_
      obtain ⟨ρ8, k8, g8, H8⟩ := hq.rest
      have L9 := L8.back H8
      have hd8 : a8.defers = [{ target := .collected w6.heap.size, args := #[] }] := by rw [hq.defers, hd6]; rfl
      have hfin : ∀ {oh : AHeap} {ofr : Fr}, oh = o7.h → ofr = o7.fr → (hr : resultsA E oh ofr Tryz.f38.results.toList = some v) → oh = h' → LeavesInM Fence.wide 0 Tryz.prog Tryz.f38 a8.tmps (CPost Tryz.prog K W0 ρ v h') a8.defers .returning w8 := by
        intro oh ofr e1 e2 hr hh
        subst e1; subst e2
        rw [hd8]
        refine ⟨by simp, .inl ⟨_, _, rfl, run_takeDeferred L9.hD, ?_⟩⟩
        have H10 : WR Tryz.prog K W0 ρ8 o7.h (w8.putObj w6.heap.size (.deferred none)) := L9.wr.other (L9.ho _ (.inr rfl)).2 fun m p s hm hl hs e => L9.hid m p s hm hl hs (.inr e)
        obtain ⟨v', q1, q2⟩ := results_sound hE g8 H10 hr
        exact ⟨v', q1, v', ρ8, rfl, Ren.le_trans hle7 k8, q2, hh ▸ H10⟩
      obtain ⟨oe, ofr, oh⟩ := o7
      have he2 := hq.e
      cases oe with
      | exit id => cases hret
      | normal =>
        have hret' : (ob (resultsA E oh ofr Tryz.f38.results.toList) fun v => some (v, oh)) = some (v, h') := hret
        rw [ob_some] at hret'
        obtain ⟨v1, hr, hret'⟩ := hret'
        cases hret'
        rw [he2]
        exact hfin rfl rfl hr rfl
      | ret =>
        have hret' : (ob (resultsA E oh ofr Tryz.f38.results.toList) fun v => some (v, oh)) = some (v, h') := hret
        rw [ob_some] at hret'
        obtain ⟨v1, hr, hret'⟩ := hret'
        cases hret'
        rw [he2]
        exact hfin rfl rfl hr rfl
end
end Go.AX
namespace Go.AX
noncomputable def rowsA : List (Nat × List AVal × TypeId) :=
  [(804, [.slice 31 0 1 1 true, .slice 314 0 2 2 false, .slice 783 0 3 3 false], 55), (31, [.str [99], .int .i64 0], 57), (314, [.str [97], .int .i64 0, .str [101], .int .i64 2], 57),
   (783, [.str [114, 110], .int .i64 0, .str [109], .int .i64 1, .str [], .int .i64 9], 57)]
noncomputable def cellsA : AVal := .slice 804 0 3 3 false
noncomputable def textA : AVal := .str [99, 40, 97, 124, 101, 58, 50, 41, 40, 114, 110, 124, 109, 58, 49, 124, 58, 57, 41]
noncomputable def fixParse : Fix := ⟨0, [textA], [], .tup [cellsA, .int .i64 0], rowsA, 863⟩
noncomputable def rowsB : List (Nat × List AVal × TypeId) :=
  [(8400, [.int .i64 0, .int .i64 1, .int .u8 99, .int .i64 0, .int .i64 1, .int .i64 2, .int .u8 97, .int .i64 0, .int .i64 1, .int .i64 2, .int .u8 101, .int .i64 2, .int .i64 2, .int .i64 3, .int .u8 114, .int .i64 0, .int .i64 2, .int .i64 4, .int .u8 109, .int .i64 1, .int .i64 3, .int .i64 4, .int .u8 110, .int .i64 0], 84),
   (8402, [.int .i64 2, .int .i64 9, .int .i64 4, .int .i64 0], 87)]
noncomputable def autoA : AVal := .agg [.int .i64 5, .slice 8400 0 6 6 false, .slice 8402 0 2 2 false]
noncomputable def fixOf : Fix := ⟨863, [cellsA], rowsA, .tup [autoA, .int .i64 0], rowsB, 8909⟩
noncomputable def rowsR : List (Nat × List AVal × TypeId) := [(18150, [.str [99, 97, 114, 110], .int .i64 0, .str [99, 97, 109], .int .i64 1, .str [99, 101, 114, 110], .int .i64 2, .str [99, 101, 109], .int .i64 3, .str [99, 97], .int .i64 9, .str [99, 101], .int .i64 11], 71)]
noncomputable def readA : AVal := .slice 18150 0 6 6 false
noncomputable def fixBest : Fix := ⟨8910, [autoA, .int .i64 10], rowsB, .tup [readA, .int .i64 0], rowsR, 18153⟩
end Go.AX
