/- Texts joined by wip/tools/pack.py: Tab,Words,lH,Clo,Clone,dJ,Grow,LBd,LLi,LSx,LVl,LNa,LLt,LBn,Run,Bn. -/
import Derived.Test.YtdehdahimkcakaaGreatDoorRows
import Derived.Test.YtdehdahimkcakaaGreatDoorZl
open Nat renaming reduceAdd→Z0, reduceEqDiff→Z1
set_option linter.unusedSimpArgs false
set_option linter.unusedVariables false
namespace Go.Proofs.YtdehdahimkcakaaGreatDoor
open Go Ai
noncomputable section
mutual
def tN:DataW Unit->List AV
 | .lit (.bool b)=>[.bool b]
 | .lit (.int k n)=>[.int k n]
 | .lit (.string b)=>[.str b]
 | .agg l=>XO l
 | _=>[.undef]
def XO:List (DataW Unit)->List AV
 | []=>[]
 | d::l=>tN d++XO l
end
noncomputable def Tryz.tyT:Tr TypeInfo:=(.n Tryz.t0 (.n Tryz.t1 (.n Tryz.t3 (.n Tryz.t7 (.n Tryz.t15 (.n Tryz.t31 (.n Tryz.t63 (.n Tryz.t127 (.n Tryz.t255 .e .e) .e) (.n Tryz.t191 (.n Tryz.t319 .e .e) .e)) (.n Tryz.t95 (.n Tryz.t159 (.n Tryz.t287 .e .e) .e) (.n Tryz.t223 .e .e))) (.n Tryz.t47 (.n Tryz.t79 (.n Tryz.t143 (.n Tryz.t271 .e .e) .e) (.n Tryz.t207 .e .e)) (.n Tryz.t111 (.n Tryz.t175 (.n Tryz.t303 .e .e) .e) (.n Tryz.t239 .e .e)))) (.n Tryz.t23 (.n Tryz.t39 (.n Tryz.t71 (.n Tryz.t135 (.n Tryz.t263 .e .e) .e) (.n Tryz.t199 (.n Tryz.t327 .e .e) .e)) (.n Tryz.t103 (.n Tryz.t167 (.n Tryz.t295 .e .e) .e) (.n Tryz.t231 .e .e))) (.n Tryz.t55 (.n Tryz.t87 (.n Tryz.t151 (.n Tryz.t279 .e .e) .e) (.n Tryz.t215 .e .e)) (.n Tryz.t119 (.n Tryz.t183 (.n Tryz.t311 .e .e) .e) (.n Tryz.t247 .e .e))))) (.n Tryz.t11 (.n Tryz.t19 (.n Tryz.t35 (.n Tryz.t67 (.n Tryz.t131 (.n Tryz.t259 .e .e) .e) (.n Tryz.t195 (.n Tryz.t323 .e .e) .e)) (.n Tryz.t99 (.n Tryz.t163 (.n Tryz.t291 .e .e) .e) (.n Tryz.t227 .e .e))) (.n Tryz.t51 (.n Tryz.t83 (.n Tryz.t147 (.n Tryz.t275 .e .e) .e) (.n Tryz.t211 .e .e)) (.n Tryz.t115 (.n Tryz.t179 (.n Tryz.t307 .e .e) .e) (.n Tryz.t243 .e .e)))) (.n Tryz.t27 (.n Tryz.t43 (.n Tryz.t75 (.n Tryz.t139 (.n Tryz.t267 .e .e) .e) (.n Tryz.t203 .e .e)) (.n Tryz.t107 (.n Tryz.t171 (.n Tryz.t299 .e .e) .e) (.n Tryz.t235 .e .e))) (.n Tryz.t59 (.n Tryz.t91 (.n Tryz.t155 (.n Tryz.t283 .e .e) .e) (.n Tryz.t219 .e .e)) (.n Tryz.t123 (.n Tryz.t187 (.n Tryz.t315 .e .e) .e) (.n Tryz.t251 .e .e)))))) (.n Tryz.t5 (.n Tryz.t9 (.n Tryz.t17 (.n Tryz.t33 (.n Tryz.t65 (.n Tryz.t129 (.n Tryz.t257 .e .e) .e) (.n Tryz.t193 (.n Tryz.t321 .e .e) .e)) (.n Tryz.t97 (.n Tryz.t161 (.n Tryz.t289 .e .e) .e) (.n Tryz.t225 .e .e))) (.n Tryz.t49 (.n Tryz.t81 (.n Tryz.t145 (.n Tryz.t273 .e .e) .e) (.n Tryz.t209 .e .e)) (.n Tryz.t113 (.n Tryz.t177 (.n Tryz.t305 .e .e) .e) (.n Tryz.t241 .e .e)))) (.n Tryz.t25 (.n Tryz.t41 (.n Tryz.t73 (.n Tryz.t137 (.n Tryz.t265 .e .e) .e) (.n Tryz.t201 (.n Tryz.t329 .e .e) .e)) (.n Tryz.t105 (.n Tryz.t169 (.n Tryz.t297 .e .e) .e) (.n Tryz.t233 .e .e))) (.n Tryz.t57 (.n Tryz.t89 (.n Tryz.t153 (.n Tryz.t281 .e .e) .e) (.n Tryz.t217 .e .e)) (.n Tryz.t121 (.n Tryz.t185 (.n Tryz.t313 .e .e) .e) (.n Tryz.t249 .e .e))))) (.n Tryz.t13 (.n Tryz.t21 (.n Tryz.t37 (.n Tryz.t69 (.n Tryz.t133 (.n Tryz.t261 .e .e) .e) (.n Tryz.t197 (.n Tryz.t325 .e .e) .e)) (.n Tryz.t101 (.n Tryz.t165 (.n Tryz.t293 .e .e) .e) (.n Tryz.t229 .e .e))) (.n Tryz.t53 (.n Tryz.t85 (.n Tryz.t149 (.n Tryz.t277 .e .e) .e) (.n Tryz.t213 .e .e)) (.n Tryz.t117 (.n Tryz.t181 (.n Tryz.t309 .e .e) .e) (.n Tryz.t245 .e .e)))) (.n Tryz.t29 (.n Tryz.t45 (.n Tryz.t77 (.n Tryz.t141 (.n Tryz.t269 .e .e) .e) (.n Tryz.t205 .e .e)) (.n Tryz.t109 (.n Tryz.t173 (.n Tryz.t301 .e .e) .e) (.n Tryz.t237 .e .e))) (.n Tryz.t61 (.n Tryz.t93 (.n Tryz.t157 (.n Tryz.t285 .e .e) .e) (.n Tryz.t221 .e .e)) (.n Tryz.t125 (.n Tryz.t189 (.n Tryz.t317 .e .e) .e) (.n Tryz.t253 .e .e))))))) (.n Tryz.t2 (.n Tryz.t4 (.n Tryz.t8 (.n Tryz.t16 (.n Tryz.t32 (.n Tryz.t64 (.n Tryz.t128 (.n Tryz.t256 .e .e) .e) (.n Tryz.t192 (.n Tryz.t320 .e .e) .e)) (.n Tryz.t96 (.n Tryz.t160 (.n Tryz.t288 .e .e) .e) (.n Tryz.t224 .e .e))) (.n Tryz.t48 (.n Tryz.t80 (.n Tryz.t144 (.n Tryz.t272 .e .e) .e) (.n Tryz.t208 .e .e)) (.n Tryz.t112 (.n Tryz.t176 (.n Tryz.t304 .e .e) .e) (.n Tryz.t240 .e .e)))) (.n Tryz.t24 (.n Tryz.t40 (.n Tryz.t72 (.n Tryz.t136 (.n Tryz.t264 .e .e) .e) (.n Tryz.t200 (.n Tryz.t328 .e .e) .e)) (.n Tryz.t104 (.n Tryz.t168 (.n Tryz.t296 .e .e) .e) (.n Tryz.t232 .e .e))) (.n Tryz.t56 (.n Tryz.t88 (.n Tryz.t152 (.n Tryz.t280 .e .e) .e) (.n Tryz.t216 .e .e)) (.n Tryz.t120 (.n Tryz.t184 (.n Tryz.t312 .e .e) .e) (.n Tryz.t248 .e .e))))) (.n Tryz.t12 (.n Tryz.t20 (.n Tryz.t36 (.n Tryz.t68 (.n Tryz.t132 (.n Tryz.t260 .e .e) .e) (.n Tryz.t196 (.n Tryz.t324 .e .e) .e)) (.n Tryz.t100 (.n Tryz.t164 (.n Tryz.t292 .e .e) .e) (.n Tryz.t228 .e .e))) (.n Tryz.t52 (.n Tryz.t84 (.n Tryz.t148 (.n Tryz.t276 .e .e) .e) (.n Tryz.t212 .e .e)) (.n Tryz.t116 (.n Tryz.t180 (.n Tryz.t308 .e .e) .e) (.n Tryz.t244 .e .e)))) (.n Tryz.t28 (.n Tryz.t44 (.n Tryz.t76 (.n Tryz.t140 (.n Tryz.t268 .e .e) .e) (.n Tryz.t204 .e .e)) (.n Tryz.t108 (.n Tryz.t172 (.n Tryz.t300 .e .e) .e) (.n Tryz.t236 .e .e))) (.n Tryz.t60 (.n Tryz.t92 (.n Tryz.t156 (.n Tryz.t284 .e .e) .e) (.n Tryz.t220 .e .e)) (.n Tryz.t124 (.n Tryz.t188 (.n Tryz.t316 .e .e) .e) (.n Tryz.t252 .e .e)))))) (.n Tryz.t6 (.n Tryz.t10 (.n Tryz.t18 (.n Tryz.t34 (.n Tryz.t66 (.n Tryz.t130 (.n Tryz.t258 .e .e) .e) (.n Tryz.t194 (.n Tryz.t322 .e .e) .e)) (.n Tryz.t98 (.n Tryz.t162 (.n Tryz.t290 .e .e) .e) (.n Tryz.t226 .e .e))) (.n Tryz.t50 (.n Tryz.t82 (.n Tryz.t146 (.n Tryz.t274 .e .e) .e) (.n Tryz.t210 .e .e)) (.n Tryz.t114 (.n Tryz.t178 (.n Tryz.t306 .e .e) .e) (.n Tryz.t242 .e .e)))) (.n Tryz.t26 (.n Tryz.t42 (.n Tryz.t74 (.n Tryz.t138 (.n Tryz.t266 .e .e) .e) (.n Tryz.t202 (.n Tryz.t330 .e .e) .e)) (.n Tryz.t106 (.n Tryz.t170 (.n Tryz.t298 .e .e) .e) (.n Tryz.t234 .e .e))) (.n Tryz.t58 (.n Tryz.t90 (.n Tryz.t154 (.n Tryz.t282 .e .e) .e) (.n Tryz.t218 .e .e)) (.n Tryz.t122 (.n Tryz.t186 (.n Tryz.t314 .e .e) .e) (.n Tryz.t250 .e .e))))) (.n Tryz.t14 (.n Tryz.t22 (.n Tryz.t38 (.n Tryz.t70 (.n Tryz.t134 (.n Tryz.t262 .e .e) .e) (.n Tryz.t198 (.n Tryz.t326 .e .e) .e)) (.n Tryz.t102 (.n Tryz.t166 (.n Tryz.t294 .e .e) .e) (.n Tryz.t230 .e .e))) (.n Tryz.t54 (.n Tryz.t86 (.n Tryz.t150 (.n Tryz.t278 .e .e) .e) (.n Tryz.t214 .e .e)) (.n Tryz.t118 (.n Tryz.t182 (.n Tryz.t310 .e .e) .e) (.n Tryz.t246 .e .e)))) (.n Tryz.t30 (.n Tryz.t46 (.n Tryz.t78 (.n Tryz.t142 (.n Tryz.t270 .e .e) .e) (.n Tryz.t206 .e .e)) (.n Tryz.t110 (.n Tryz.t174 (.n Tryz.t302 .e .e) .e) (.n Tryz.t238 .e .e))) (.n Tryz.t62 (.n Tryz.t94 (.n Tryz.t158 (.n Tryz.t286 .e .e) .e) (.n Tryz.t222 .e .e)) (.n Tryz.t126 (.n Tryz.t190 (.n Tryz.t318 .e .e) .e) (.n Tryz.t254 .e .e))))))))
noncomputable def Tryz.fnT:Tr Func:=(.n Tryz.f0 (.n Tryz.f1 (.n Tryz.f3 (.n Tryz.f7 (.n Tryz.f15 (.n Tryz.f31 (.n Tryz.f63 (.n Tryz.f127 (.n Tryz.f255 .e .e) .e) (.n Tryz.f191 .e .e)) (.n Tryz.f95 (.n Tryz.f159 (.n Tryz.f287 .e .e) .e) (.n Tryz.f223 .e .e))) (.n Tryz.f47 (.n Tryz.f79 (.n Tryz.f143 (.n Tryz.f271 .e .e) .e) (.n Tryz.f207 .e .e)) (.n Tryz.f111 (.n Tryz.f175 (.n Tryz.f303 .e .e) .e) (.n Tryz.f239 .e .e)))) (.n Tryz.f23 (.n Tryz.f39 (.n Tryz.f71 (.n Tryz.f135 (.n Tryz.f263 .e .e) .e) (.n Tryz.f199 .e .e)) (.n Tryz.f103 (.n Tryz.f167 (.n Tryz.f295 .e .e) .e) (.n Tryz.f231 .e .e))) (.n Tryz.f55 (.n Tryz.f87 (.n Tryz.f151 (.n Tryz.f279 .e .e) .e) (.n Tryz.f215 .e .e)) (.n Tryz.f119 (.n Tryz.f183 (.n Tryz.f311 .e .e) .e) (.n Tryz.f247 .e .e))))) (.n Tryz.f11 (.n Tryz.f19 (.n Tryz.f35 (.n Tryz.f67 (.n Tryz.f131 (.n Tryz.f259 .e .e) .e) (.n Tryz.f195 .e .e)) (.n Tryz.f99 (.n Tryz.f163 (.n Tryz.f291 .e .e) .e) (.n Tryz.f227 .e .e))) (.n Tryz.f51 (.n Tryz.f83 (.n Tryz.f147 (.n Tryz.f275 .e .e) .e) (.n Tryz.f211 .e .e)) (.n Tryz.f115 (.n Tryz.f179 (.n Tryz.f307 .e .e) .e) (.n Tryz.f243 .e .e)))) (.n Tryz.f27 (.n Tryz.f43 (.n Tryz.f75 (.n Tryz.f139 (.n Tryz.f267 .e .e) .e) (.n Tryz.f203 .e .e)) (.n Tryz.f107 (.n Tryz.f171 (.n Tryz.f299 .e .e) .e) (.n Tryz.f235 .e .e))) (.n Tryz.f59 (.n Tryz.f91 (.n Tryz.f155 (.n Tryz.f283 .e .e) .e) (.n Tryz.f219 .e .e)) (.n Tryz.f123 (.n Tryz.f187 (.n Tryz.f315 .e .e) .e) (.n Tryz.f251 .e .e)))))) (.n Tryz.f5 (.n Tryz.f9 (.n Tryz.f17 (.n Tryz.f33 (.n Tryz.f65 (.n Tryz.f129 (.n Tryz.f257 .e .e) .e) (.n Tryz.f193 .e .e)) (.n Tryz.f97 (.n Tryz.f161 (.n Tryz.f289 .e .e) .e) (.n Tryz.f225 .e .e))) (.n Tryz.f49 (.n Tryz.f81 (.n Tryz.f145 (.n Tryz.f273 .e .e) .e) (.n Tryz.f209 .e .e)) (.n Tryz.f113 (.n Tryz.f177 (.n Tryz.f305 .e .e) .e) (.n Tryz.f241 .e .e)))) (.n Tryz.f25 (.n Tryz.f41 (.n Tryz.f73 (.n Tryz.f137 (.n Tryz.f265 .e .e) .e) (.n Tryz.f201 .e .e)) (.n Tryz.f105 (.n Tryz.f169 (.n Tryz.f297 .e .e) .e) (.n Tryz.f233 .e .e))) (.n Tryz.f57 (.n Tryz.f89 (.n Tryz.f153 (.n Tryz.f281 .e .e) .e) (.n Tryz.f217 .e .e)) (.n Tryz.f121 (.n Tryz.f185 (.n Tryz.f313 .e .e) .e) (.n Tryz.f249 .e .e))))) (.n Tryz.f13 (.n Tryz.f21 (.n Tryz.f37 (.n Tryz.f69 (.n Tryz.f133 (.n Tryz.f261 .e .e) .e) (.n Tryz.f197 .e .e)) (.n Tryz.f101 (.n Tryz.f165 (.n Tryz.f293 .e .e) .e) (.n Tryz.f229 .e .e))) (.n Tryz.f53 (.n Tryz.f85 (.n Tryz.f149 (.n Tryz.f277 .e .e) .e) (.n Tryz.f213 .e .e)) (.n Tryz.f117 (.n Tryz.f181 (.n Tryz.f309 .e .e) .e) (.n Tryz.f245 .e .e)))) (.n Tryz.f29 (.n Tryz.f45 (.n Tryz.f77 (.n Tryz.f141 (.n Tryz.f269 .e .e) .e) (.n Tryz.f205 .e .e)) (.n Tryz.f109 (.n Tryz.f173 (.n Tryz.f301 .e .e) .e) (.n Tryz.f237 .e .e))) (.n Tryz.f61 (.n Tryz.f93 (.n Tryz.f157 (.n Tryz.f285 .e .e) .e) (.n Tryz.f221 .e .e)) (.n Tryz.f125 (.n Tryz.f189 (.n Tryz.f317 .e .e) .e) (.n Tryz.f253 .e .e))))))) (.n Tryz.f2 (.n Tryz.f4 (.n Tryz.f8 (.n Tryz.f16 (.n Tryz.f32 (.n Tryz.f64 (.n Tryz.f128 (.n Tryz.f256 .e .e) .e) (.n Tryz.f192 .e .e)) (.n Tryz.f96 (.n Tryz.f160 (.n Tryz.f288 .e .e) .e) (.n Tryz.f224 .e .e))) (.n Tryz.f48 (.n Tryz.f80 (.n Tryz.f144 (.n Tryz.f272 .e .e) .e) (.n Tryz.f208 .e .e)) (.n Tryz.f112 (.n Tryz.f176 (.n Tryz.f304 .e .e) .e) (.n Tryz.f240 .e .e)))) (.n Tryz.f24 (.n Tryz.f40 (.n Tryz.f72 (.n Tryz.f136 (.n Tryz.f264 .e .e) .e) (.n Tryz.f200 .e .e)) (.n Tryz.f104 (.n Tryz.f168 (.n Tryz.f296 .e .e) .e) (.n Tryz.f232 .e .e))) (.n Tryz.f56 (.n Tryz.f88 (.n Tryz.f152 (.n Tryz.f280 .e .e) .e) (.n Tryz.f216 .e .e)) (.n Tryz.f120 (.n Tryz.f184 (.n Tryz.f312 .e .e) .e) (.n Tryz.f248 .e .e))))) (.n Tryz.f12 (.n Tryz.f20 (.n Tryz.f36 (.n Tryz.f68 (.n Tryz.f132 (.n Tryz.f260 .e .e) .e) (.n Tryz.f196 .e .e)) (.n Tryz.f100 (.n Tryz.f164 (.n Tryz.f292 .e .e) .e) (.n Tryz.f228 .e .e))) (.n Tryz.f52 (.n Tryz.f84 (.n Tryz.f148 (.n Tryz.f276 .e .e) .e) (.n Tryz.f212 .e .e)) (.n Tryz.f116 (.n Tryz.f180 (.n Tryz.f308 .e .e) .e) (.n Tryz.f244 .e .e)))) (.n Tryz.f28 (.n Tryz.f44 (.n Tryz.f76 (.n Tryz.f140 (.n Tryz.f268 .e .e) .e) (.n Tryz.f204 .e .e)) (.n Tryz.f108 (.n Tryz.f172 (.n Tryz.f300 .e .e) .e) (.n Tryz.f236 .e .e))) (.n Tryz.f60 (.n Tryz.f92 (.n Tryz.f156 (.n Tryz.f284 .e .e) .e) (.n Tryz.f220 .e .e)) (.n Tryz.f124 (.n Tryz.f188 (.n Tryz.f316 .e .e) .e) (.n Tryz.f252 .e .e)))))) (.n Tryz.f6 (.n Tryz.f10 (.n Tryz.f18 (.n Tryz.f34 (.n Tryz.f66 (.n Tryz.f130 (.n Tryz.f258 .e .e) .e) (.n Tryz.f194 .e .e)) (.n Tryz.f98 (.n Tryz.f162 (.n Tryz.f290 .e .e) .e) (.n Tryz.f226 .e .e))) (.n Tryz.f50 (.n Tryz.f82 (.n Tryz.f146 (.n Tryz.f274 .e .e) .e) (.n Tryz.f210 .e .e)) (.n Tryz.f114 (.n Tryz.f178 (.n Tryz.f306 .e .e) .e) (.n Tryz.f242 .e .e)))) (.n Tryz.f26 (.n Tryz.f42 (.n Tryz.f74 (.n Tryz.f138 (.n Tryz.f266 .e .e) .e) (.n Tryz.f202 .e .e)) (.n Tryz.f106 (.n Tryz.f170 (.n Tryz.f298 .e .e) .e) (.n Tryz.f234 .e .e))) (.n Tryz.f58 (.n Tryz.f90 (.n Tryz.f154 (.n Tryz.f282 .e .e) .e) (.n Tryz.f218 .e .e)) (.n Tryz.f122 (.n Tryz.f186 (.n Tryz.f314 .e .e) .e) (.n Tryz.f250 .e .e))))) (.n Tryz.f14 (.n Tryz.f22 (.n Tryz.f38 (.n Tryz.f70 (.n Tryz.f134 (.n Tryz.f262 .e .e) .e) (.n Tryz.f198 .e .e)) (.n Tryz.f102 (.n Tryz.f166 (.n Tryz.f294 .e .e) .e) (.n Tryz.f230 .e .e))) (.n Tryz.f54 (.n Tryz.f86 (.n Tryz.f150 (.n Tryz.f278 .e .e) .e) (.n Tryz.f214 .e .e)) (.n Tryz.f118 (.n Tryz.f182 (.n Tryz.f310 .e .e) .e) (.n Tryz.f246 .e .e)))) (.n Tryz.f30 (.n Tryz.f46 (.n Tryz.f78 (.n Tryz.f142 (.n Tryz.f270 .e .e) .e) (.n Tryz.f206 .e .e)) (.n Tryz.f110 (.n Tryz.f174 (.n Tryz.f302 .e .e) .e) (.n Tryz.f238 .e .e))) (.n Tryz.f62 (.n Tryz.f94 (.n Tryz.f158 (.n Tryz.f286 .e .e) .e) (.n Tryz.f222 .e .e)) (.n Tryz.f126 (.n Tryz.f190 .e .e) (.n Tryz.f254 .e .e))))))))
noncomputable abbrev Tryz.ty:Ty:=Tryz.tyT.get
noncomputable abbrev Tryz.fns:FuncId->Option Func:=Tryz.fnT.get
def Tryz.glob:Nat->Option (List AV)
 | 1=>some (tN Rows.laid_gudgeon_term_asks)
 | 2=>some (tN Rows.laid_unicode_utf8_first)
 | 3=>some (tN Rows.laid_unicode_utf8_acceptRanges)
 | 5=>some (tN Rows.laid_internal_strconv_uint64pow10)
 | 6=>some (tN Rows.laid_math_bits_deBruijn32tab)
 | 7=>some (tN Rows.laid_math_bits_deBruijn64tab)
 | _=>none
def Tryz.pmT:Nat:=0x3ff803ffbffefffff7fffef73ffff381b0f83fcd8f3c7f03bfffe702a77c17fffdc30f5f3fffffff
def Tryz.pmX:List (Nat×Nat):=[(97,148),(94,146),(96,148),(120,65)]
def Tryz.pm (f g:FuncId):Bool:=bN Tryz.pmT g&&!(Tryz.pmX.any fun p=>Nat.beq p.1 f&&Nat.beq p.2 g)
def Tryz.fz (f:FuncId):Bool:=bN 0x200000000000000000000000000020000300040000000 f
def Tryz.se:FuncId->List Bool
 | 30=>[false,true,true]
 | _=>[]
def Tryz.kpT:Tr Nat:=(.n 0x0 (.n 0x0 (.n 0x0 (.n 0x0 (.n 0x0 (.n 0x0 (.n 0x6f8 (.n 0x7000010 (.n 0x0 .e .e) .e) (.n 0x0 .e .e)) (.n 0x0 (.n 0x3 (.n 0x0 .e .e) .e) (.n 0x183 .e .e))) (.n 0x0 (.n 0x0 (.n 0x0 (.n 0x0 .e .e) .e) (.n 0x0 .e .e)) (.n 0x1c3 (.n 0xc3 (.n 0x0 .e .e) .e) (.n 0x303 .e .e)))) (.n 0x61 (.n 0x0 (.n 0x0 (.n 0x721 (.n 0x0 .e .e) .e) (.n 0x0 .e .e)) (.n 0x0 (.n 0x390 (.n 0x0 .e .e) .e) (.n 0x0 .e .e))) (.n 0x0 (.n 0x1c000000000000000000445 (.n 0x19 (.n 0x0 .e .e) .e) (.n 0x0 .e .e)) (.n 0x0 (.n 0x70001c000a (.n 0x0 .e .e) .e) (.n 0x23 .e .e))))) (.n 0x61 (.n 0x0 (.n 0x26 (.n 0x79 (.n 0x0 (.n 0x0 .e .e) .e) (.n 0x0 .e .e)) (.n 0x0 (.n 0x0 (.n 0x0 .e .e) .e) (.n 0x183 .e .e))) (.n 0x38060001 (.n 0x0 (.n 0x0 (.n 0x0 .e .e) .e) (.n 0x13112 .e .e)) (.n 0x0 (.n 0x600c3 (.n 0x0 .e .e) .e) (.n 0x9 .e .e)))) (.n 0x32 (.n 0x19 (.n 0x0 (.n 0x0 (.n 0x9 .e .e) .e) (.n 0x0 .e .e)) (.n 0xe00000000001 (.n 0x31 (.n 0x0 .e .e) .e) (.n 0x0 .e .e))) (.n 0x9 (.n 0x0 (.n 0x0 (.n 0x0 .e .e) .e) (.n 0x0 .e .e)) (.n 0x0 (.n 0x0 (.n 0x0 .e .e) .e) (.n 0x0 .e .e)))))) (.n 0x0 (.n 0x3923 (.n 0x0 (.n 0x1a (.n 0x0 (.n 0x19 (.n 0x65 .e .e) .e) (.n 0x0 .e .e)) (.n 0xc06 (.n 0x3 (.n 0x1f1 .e .e) .e) (.n 0x0 .e .e))) (.n 0x23 (.n 0x0 (.n 0x0 (.n 0x0 .e .e) .e) (.n 0x23 .e .e)) (.n 0x0 (.n 0x3842 (.n 0x0 .e .e) .e) (.n 0x19 .e .e)))) (.n 0x0 (.n 0x0 (.n 0x0 (.n 0x0 (.n 0x13 .e .e) .e) (.n 0x61 .e .e)) (.n 0x0 (.n 0x0 (.n 0x0 .e .e) .e) (.n 0x0 .e .e))) (.n 0x0 (.n 0xe3 (.n 0x0 (.n 0x0 .e .e) .e) (.n 0x189 .e .e)) (.n 0x0 (.n 0x0 (.n 0x0 .e .e) .e) (.n 0x0 .e .e))))) (.n 0x5e1 (.n 0x0 (.n 0x0 (.n 0x0 (.n 0x0 (.n 0x0 .e .e) .e) (.n 0x0 .e .e)) (.n 0x0 (.n 0x0 (.n 0x0 .e .e) .e) (.n 0x60000030000000000c07 .e .e))) (.n 0x0 (.n 0x0 (.n 0xe0000000e000069 (.n 0x0 .e .e) .e) (.n 0x185 .e .e)) (.n 0x79 (.n 0x0 (.n 0x0 .e .e) .e) (.n 0x0 .e .e)))) (.n 0xe1 (.n 0x3008 (.n 0x0 (.n 0x0 (.n 0x0 .e .e) .e) (.n 0x0 .e .e)) (.n 0xe000e49 (.n 0x63 (.n 0x0 .e .e) .e) (.n 0x0 .e .e))) (.n 0x75 (.n 0x0 (.n 0x0 (.n 0x0 .e .e) .e) (.n 0x0 .e .e)) (.n 0x66 (.n 0x79 (.n 0x0 .e .e) .e) (.n 0x0 .e .e))))))) (.n 0x0 (.n 0x0 (.n 0x0 (.n 0x0 (.n 0x36a (.n 0x0 (.n 0x710 (.n 0x0 .e .e) .e) (.n 0xe1 .e .e)) (.n 0x0 (.n 0x15 (.n 0x0 .e .e) .e) (.n 0x0 .e .e))) (.n 0x2e3 (.n 0x0 (.n 0x0 (.n 0x0 .e .e) .e) (.n 0x0 .e .e)) (.n 0x19 (.n 0xe0000c3 (.n 0x0 .e .e) .e) (.n 0x0 .e .e)))) (.n 0x0 (.n 0x0 (.n 0x0 (.n 0x89 (.n 0x0 .e .e) .e) (.n 0x0 .e .e)) (.n 0x0 (.n 0x9 (.n 0x0 .e .e) .e) (.n 0x0 .e .e))) (.n 0x0 (.n 0x187 (.n 0x0 (.n 0x0 .e .e) .e) (.n 0x0 .e .e)) (.n 0x1e44 (.n 0x0 (.n 0x0 .e .e) .e) (.n 0x183 .e .e))))) (.n 0x2f83 (.n 0x0 (.n 0x0 (.n 0x1c8 (.n 0x0 (.n 0x0 .e .e) .e) (.n 0x0 .e .e)) (.n 0x0 (.n 0xd (.n 0x0 .e .e) .e) (.n 0x0 .e .e))) (.n 0x380c2 (.n 0x0 (.n 0x0 (.n 0x0 .e .e) .e) (.n 0x1c1 .e .e)) (.n 0x388 (.n 0x30701e2 (.n 0x0 .e .e) .e) (.n 0x0 .e .e)))) (.n 0x19 (.n 0x3008 (.n 0x21 (.n 0x0 (.n 0x7e3 .e .e) .e) (.n 0x0 .e .e)) (.n 0x0 (.n 0x61 (.n 0x0 .e .e) .e) (.n 0x0 .e .e))) (.n 0xe09 (.n 0x0 (.n 0x0 (.n 0x7e3 .e .e) .e) (.n 0x23 .e .e)) (.n 0x0 (.n 0x0 (.n 0x0 .e .e) .e) (.n 0x0 .e .e)))))) (.n 0x0 (.n 0x607 (.n 0x9c (.n 0x0 (.n 0x19 (.n 0x0 (.n 0x0 .e .e) .e) (.n 0x0 .e .e)) (.n 0x0 (.n 0x3 (.n 0x0 .e .e) .e) (.n 0x0 .e .e))) (.n 0x30001 (.n 0x0 (.n 0x0 (.n 0x0 .e .e) .e) (.n 0x0 .e .e)) (.n 0x1fe (.n 0x1c000000707 (.n 0x0 .e .e) .e) (.n 0x19 .e .e)))) (.n 0x0 (.n 0x0 (.n 0x0 (.n 0x0 (.n 0x3fc1b .e .e) .e) (.n 0x0 .e .e)) (.n 0x0 (.n 0x1f43 (.n 0x0 .e .e) .e) (.n 0x7fffffffffffffffffffffffffffffe0030ffffffffffff .e .e))) (.n 0x0 (.n 0x1d1 (.n 0x0 (.n 0x0 .e .e) .e) (.n 0x23 .e .e)) (.n 0x0 (.n 0x183 (.n 0x0 .e .e) .e) (.n 0x23 .e .e))))) (.n 0x0 (.n 0x0 (.n 0x19 (.n 0x70022 (.n 0x7091 (.n 0x0 .e .e) .e) (.n 0x0 .e .e)) (.n 0x0 (.n 0x60038003d03 (.n 0x0 .e .e) .e) (.n 0x11 .e .e))) (.n 0x0 (.n 0xf607 (.n 0x19 (.n 0x0 .e .e) .e) (.n 0x0 .e .e)) (.n 0x0 (.n 0x0 (.n 0x0 .e .e) .e) (.n 0x0 .e .e)))) (.n 0x0 (.n 0x0 (.n 0x0 (.n 0x0 (.n 0x14 .e .e) .e) (.n 0x0 .e .e)) (.n 0x9 (.n 0x23 (.n 0x0 .e .e) .e) (.n 0x3 .e .e))) (.n 0x0 (.n 0x0 (.n 0x0 (.n 0x0 .e .e) .e) (.n 0x183 .e .e)) (.n 0x0 (.n 0x0 .e .e) (.n 0x0 .e .e))))))))
def Tryz.kp (f:FuncId):Nat:=(Tryz.kpT.get f).getD 0
def Tryz.eqOk (t:TypeId):Bool:=Nat.beq t 151
def Tryz.primT (P:Ty):FuncId->Option (List AV->St->Option (AV×St))
 | 146=>some (cK P 67)
 | 147=>some (cK P 151)
 | 148=>some (cK P 33)
 | 152=>some (cK P 3)
 | 153=>some (cK P 211)
 | 154=>some (cK P 109)
 | 206=>some IS
 | 232=>some XY
 | 271=>some JP
 | 285=>some lF
 | 286=>some (BL 5)
 | _=>none
def Tryz.prim (P:Ty) (f:FuncId):Option (List AV->St->Option (AV×St)):=cond (bN 0x60008000000001000000400000000000071c000000000000000000000000000000000000 f) (Tryz.primT P f) none
noncomputable def mEv:lH:=⟨Tryz.ty,Tryz.fns,Tryz.eqOk,Tryz.glob,Tryz.pm,Tryz.kp,Tryz.fz,Tryz.prim Tryz.ty,Tryz.se⟩
def Tryz.prim0 (P:Ty) (f:FuncId):Option (List AV->St->Option (AV×St)):=cond (bN 0x600080000000010000004000000000000000000000000000000000000000000000000000 f) (Tryz.primT P f) none
noncomputable def Tryz.env0:lH:={ mEv with prim:=Tryz.prim0 Tryz.ty }
end
noncomputable section
noncomputable abbrev bn (op:BinOp) (t:TypeId) (x y:AV):Option AV:=mG Tryz.ty Tryz.eqOk op t x y
noncomputable abbrev zr (t:TypeId):Option AV:=zero Tryz.ty t
noncomputable abbrev lK (t:TypeId) (l:List (Nat×AV)):Option AV:=BX Tryz.ty t l
noncomputable abbrev kM (t:TypeId) (n:Nat) (l:List (Nat×AV)):Option AV:=jI Tryz.ty t n l
noncomputable abbrev cv (a b:TypeId) (x:AV) (s:St):Option AV:=mU Tryz.ty a b x s
noncomputable abbrev mF (t:TypeId) (x:AV) (lo hi mx:Option AV) (s:St):Option AV:=gH Tryz.ty t x lo hi mx s
noncomputable abbrev bt (b:Builtin) (ats:Array TypeId) (args:List AV) (id:Nat) (s:St):Option (AV×St):=bL (bX mEv) b ats args id s
noncomputable abbrev rK (f:Func) (Q:aG):Kt:=fun g s=>pT (hH Tryz.ty f g s) fun v=>Q v s
abbrev Y:Bool:=true
abbrev N:Bool:=false
abbrev ld (z:Nat) (ag:Bool) (a:AV) (s:St):Option AV:=Ai.load z ag a s
abbrev dU (z:Nat) (a x:AV) (s:St):Option St:=Ai.store z a x s
noncomputable abbrev QG (t:TypeId) (x i:AV):Option AV:=yQ Tryz.ty t x i
noncomputable def gl (n:Nat):AV:=ev (bX mEv) (fun _=>.undef) (.global n)
end
noncomputable section
set_option maxRecDepth 100000
section
universe u
variable {α:Type}
def Tr.lst:Tr α->(Nat->Nat)->List (Nat×α)
 | .e,_=>[]
 | .n v l r,f=>(f 0,v)::(Tr.lst l (fun k=>f (2 * k+1))++Tr.lst r (fun k=>f (2 * k+2)))
theorem Tr.lst_get (t:Tr α):∀ (f:Nat->Nat) (k:Nat) (v:α),t.get k=some v->(f k,v)∈Tr.lst t f:=by
 induction t with
 | e=>intro f k v h;cases h
 | n x l r il ir =>
  intro f k v h;simp only [Tr.get] at h;simp only [Tr.lst]
  cases h0:Nat.beq k 0 with
  | true =>rw [h0] at h;simp only [cond_true,m000] at h;have:=iN h0;subst this;subst h;exact m007 ..
  | false =>
   rw [h0] at h;simp only [cond_false] at h;have hk:k≠0:=by intro e;subst e;cases h0
   cases h1:Nat.beq (k % 2) 1 with
   | true =>
    rw [h1] at h;have h2:=iN h1;have:=il (fun k=>f (2 * k+1)) (k / 2) v h;refine m005 _ (m041 _ ?_)
    rwa [show 2 * (k / 2)+1=k by omega] at this
   | false =>
    rw [h1] at h;have h2:k % 2≠1:=by intro e;rw [e] at h1;cases h1
    have:=ir (fun k=>f (2 * k+2)) (k / 2 - 1) v h;refine m005 _ (m049 _ ?_)
    rwa [show 2 * (k / 2 - 1)+2=k by omega] at this
theorem QH {β:Type} {l:List (Nat×α)} {p:Nat->Option α} (h:l.map (fun q=>p q.1)=l.map fun q=>some q.2):∀ q∈l,p q.1=some q.2:=by
 induction l with
 | nil=>intro q hq;cases hq
 | cons x l ih =>
  simp only [m039,m057] at h;intro q hq;rcases m013.1 hq with rfl | hq
  ·exact h.1
  ·exact ih h.2 q hq
end
theorem KH:dQ Tryz.prog Tryz.ty:=by intro t i h;have:=Tr.lst_get Tryz.tyT id t i h;exact QH (β:=Nat) (p:=fun t=>Tryz.prog.info? t) (l:=Tr.lst Tryz.tyT id) (by kernel_rfl) _ this
theorem WC:∀ f fn,Tryz.fns f=some fn->Tryz.prog.funcs[f]?=some fn:=by intro t i h;have:=Tr.lst_get Tryz.fnT id t i h;exact QH (β:=Nat) (p:=fun t=>Tryz.prog.funcs[t]?) (l:=Tr.lst Tryz.fnT id) (by kernel_rfl) _ this
theorem HS:∀ f fn,Tryz.fns f=some fn->fn.name≠"runtime.NumGoroutine":=by
 intro t i h;have h1:=Tr.lst_get Tryz.fnT id t i h
 have h2:((Tr.lst Tryz.fnT id).all fun q=>!(q.2.name == "runtime.NumGoroutine"))=true:=by kernel_rfl
 have h3:=m032.1 h2 _ h1;simpa using h3
end
noncomputable section
set_option maxRecDepth 1000000
abbrev bBq:Code:=aJ Tryz.f146
abbrev bAs:=rK Tryz.f146
abbrev bLc:=aK Tryz.env0 146 (Tryz.env0.kp 146)
def bJo (Q:aG) (t0:AV) (s:St):Prop :=
 aA (bn .eql 49 t0 .nils) fun t4 =>
 aZ t4
 (Q .nils (adv s 4))
 (aA (kM 49 0 []) fun t5 =>
 aA (bt .append #[49,49] [t5,t0] (s.nx+5) (adv s 7)) fun r7 =>
 Q r7.1 r7.2)
theorem aSp (t0:AV) (s:St) {Q:aG} (h:bJo Q t0 s):∃ r s',WideC Tryz.env0 146 [t0] s r s'/\Q r s' :=
 aH (h:=146) (fn:=Tryz.f146) (c:=sub bBq []) (show bLc (sub bBq []) (bAs Q) (fun _ _ _=>False) (bAs Q)=_ from rfl) h
abbrev bCm:Code:=aJ Tryz.f147
abbrev bCu:=rK Tryz.f147
abbrev bNc:=aK Tryz.env0 147 (Tryz.env0.kp 147)
def bNg (Q:aG) (t0:AV) (s:St):Prop :=
 aA (bn .eql 65 t0 .nils) fun t4 =>
 aZ t4
 (Q .nils (adv s 4))
 (aA (kM 65 0 []) fun t5 =>
 aA (bt .append #[65,65] [t5,t0] (s.nx+5) (adv s 7)) fun r7 =>
 Q r7.1 r7.2)
theorem aLm (t0:AV) (s:St) {Q:aG} (h:bNg Q t0 s):∃ r s',WideC Tryz.env0 147 [t0] s r s'/\Q r s' :=
 aH (h:=147) (fn:=Tryz.f147) (c:=sub bCm []) (show bNc (sub bCm []) (bCu Q) (fun _ _ _=>False) (bCu Q)=_ from rfl) h
abbrev aYx:Code:=aJ Tryz.f148
abbrev bAx:=rK Tryz.f148
abbrev bHp:=aK Tryz.env0 148 (Tryz.env0.kp 148)
def bKj (Q:aG) (t0:AV) (s:St):Prop :=
 aA (bn .eql 31 t0 .nils) fun t4 =>
 aZ t4
 (Q .nils (adv s 4))
 (aA (kM 31 0 []) fun t5 =>
 aA (bt .append #[31,31] [t5,t0] (s.nx+5) (adv s 7)) fun r7 =>
 Q r7.1 r7.2)
theorem aJj (t0:AV) (s:St) {Q:aG} (h:bKj Q t0 s):∃ r s',WideC Tryz.env0 148 [t0] s r s'/\Q r s' :=
 aH (h:=148) (fn:=Tryz.f148) (c:=sub aYx []) (show bHp (sub aYx []) (bAx Q) (fun _ _ _=>False) (bAx Q)=_ from rfl) h
abbrev bAr:Code:=aJ Tryz.f152
abbrev aYl:=rK Tryz.f152
abbrev bJb:=aK Tryz.env0 152 (Tryz.env0.kp 152)
def bKq (Q:aG) (t0:AV) (s:St):Prop :=
 aA (bn .eql 72 t0 .nils) fun t4 =>
 aZ t4
 (Q .nils (adv s 4))
 (aA (kM 72 0 []) fun t5 =>
 aA (bt .append #[72,72] [t5,t0] (s.nx+5) (adv s 7)) fun r7 =>
 Q r7.1 r7.2)
theorem aKz (t0:AV) (s:St) {Q:aG} (h:bKq Q t0 s):∃ r s',WideC Tryz.env0 152 [t0] s r s'/\Q r s' :=
 aH (h:=152) (fn:=Tryz.f152) (c:=sub bAr []) (show bJb (sub bAr []) (aYl Q) (fun _ _ _=>False) (aYl Q)=_ from rfl) h
abbrev bCo:Code:=aJ Tryz.f153
abbrev bBh:=rK Tryz.f153
abbrev bJc:=aK Tryz.env0 153 (Tryz.env0.kp 153)
def bMz (Q:aG) (t0:AV) (s:St):Prop :=
 aA (bn .eql 22 t0 .nils) fun t4 =>
 aZ t4
 (Q .nils (adv s 4))
 (aA (kM 22 0 []) fun t5 =>
 aA (bt .append #[22,22] [t5,t0] (s.nx+5) (adv s 7)) fun r7 =>
 Q r7.1 r7.2)
theorem aJe (t0:AV) (s:St) {Q:aG} (h:bMz Q t0 s):∃ r s',WideC Tryz.env0 153 [t0] s r s'/\Q r s' :=
 aH (h:=153) (fn:=Tryz.f153) (c:=sub bCo []) (show bJc (sub bCo []) (bBh Q) (fun _ _ _=>False) (bBh Q)=_ from rfl) h
abbrev bCf:Code:=aJ Tryz.f154
abbrev bBf:=rK Tryz.f154
abbrev bOt:=aK Tryz.env0 154 (Tryz.env0.kp 154)
def bHl (Q:aG) (t0:AV) (s:St):Prop :=
 aA (bn .eql 25 t0 .nils) fun t4 =>
 aZ t4
 (Q .nils (adv s 4))
 (aA (kM 25 0 []) fun t5 =>
 aA (bt .append #[25,25] [t5,t0] (s.nx+5) (adv s 7)) fun r7 =>
 Q r7.1 r7.2)
theorem aOq (t0:AV) (s:St) {Q:aG} (h:bHl Q t0 s):∃ r s',WideC Tryz.env0 154 [t0] s r s'/\Q r s' :=
 aH (h:=154) (fn:=Tryz.f154) (c:=sub bCf []) (show bOt (sub bCf []) (bBf Q) (fun _ _ _=>False) (bBf Q)=_ from rfl) h
end
noncomputable section
section
variable {P:Program} {E:lH}
def PS (E:lH) (f:FuncId) (t:TypeId):Prop:=∀ (x:AV) (s:St) (Q:aG),
 (aA (mG E.P E.eqOk .eql t x .nils) fun t4=>aZ t4 (Q .nils (adv s 4))
  (aA (jI E.P t 0 []) fun t5=>aA (bL (bX E) .append #[t,t] [t5,x] (s.nx+5) (adv s 7)) fun r=>Q r.1 r.2))->∃ r s',WideC E f [x] s r s'/\Q r s'
theorem aMg {f:FuncId} {t:TypeId} (hr:PS E f t) {x:AV} {s:St} {r:AV} {s':St}
  (h:aA (mG E.P E.eqOk .eql t x .nils) fun t4=>aZ t4 ((AV.nils,adv s 4)=(r,s'))
   (aA (jI E.P t 0 []) fun t5=>aA (bL (bX E) .append #[t,t] [t5,x] (s.nx+5) (adv s 7)) fun q=>q=(r,s'))):∃ n,cM E n f [x] s=some (r,s'):=by
 obtain ⟨r1,s1,⟨n,h1⟩,h2⟩:=hr x s (fun v q=>(v,q)=(r,s')) h;simp only [m001] at h2;obtain ⟨rfl,rfl⟩:=h2;exact ⟨n,h1⟩
theorem jB (hE:DI P E) {f:FuncId} {t e:TypeId} {z b:Nat} {ag:Bool} {zv:AV} (hr:PS E f t) (ht:eK E.P t=some (.slice e)) (hl:eU E.P e=some (z,ag)) (hb:dW E.P e=some b) (hz:zero E.P e=some zv) (hz0:0 < z) (hzv:zv.cells.length=z) :
  fJ P E.P E.glob f (cK E.P e):=by
 have hsl:jI E.P t 0 []=some (.sl true []):=by have h2:0 * z<=2 ^ 24/\0 < z/\zv.cells.length=z:=⟨by omega,hz0,hzv⟩;simp only [jI,ht,hl,hz,if_pos h2,List.replicate_zero,jS,Option.map_some]
 have happ:∀ x id s,bL (bX E) .append #[t,t] [.sl true [],x] id s=(aR z x s).bind fun c=>bM e z b (.sl true []) c id s:=fun x id s=>by have h2:0 < z/\zv.cells.length=z:=⟨hz0,hzv⟩;have e1:((#[t,t]:Array TypeId)[0]?).bind (eK (bX E).P)=some (.slice e):=ht;have e2:((#[t,t]:Array TypeId)[1]?).bind (eK (bX E).P)=some (.slice e):=ht;simp only [bL,e1,e2];simp only [show (bX E).P=E.P from rfl,hl,hb,hz,if_pos h2]
 have hnil:∀ s,∃ n,cM E n f [.nils] s=some (.nils,adv s 4):=fun s=>by refine aMg hr (.mk (.bool true) ?_ (.t rfl rfl));simp [mG,ht,pN]
 have hrest:∀ x s r s',mP x=true\/x=.emp->((aR z x (adv s 7)).bind fun c=>bM e z b (.sl true []) c (s.nx+5) (adv s 7))=some (r,s')->∃ n,cM E n f [x] s=some (r,s'):=fun x s r s' hx h=>by
  refine aMg hr (.mk (.bool false) ?_ (.f rfl (.mk _ hsl (.mk (r,s') ?_ rfl))))
  ·rcases hx with hx | rfl
   ·cases x with
    | emp=>simp [mG,ht,pN]
    | sl ex l=>cases l with
     | nil=>cases hx
     | cons v l=>simp [mG,ht,pN]
    | ref=>simp [mG,ht,pN]
    | _=>cases hx
   ·simp [mG,ht,pN]
  ·rw [happ];exact h
 have hemp:∀ s,∃ n,cM E n f [.emp] s=some (.sl true [],adv s 7):=fun s=>by refine hrest .emp s _ _ (.inr rfl) ?_;rfl
 intro args s r s' hg vals ρ F W hcr hR hG;unfold cK at hg
 split at hg
 ·rename_i x;simp only [hl,hb] at hg;obtain ⟨u,rfl,hu⟩:=hcr.single
  have use:∀ y,VR E.P F ρ y u->∀ r1 s1,(∃ n,cM E n f [y] s=some (r1,s1))->cY P E.P s.nx s ρ F W r1 s1 (callFunc f #[u]):=fun y hy r1 s1 ⟨n,hn⟩ =>
   zE hE n f [y] s r1 s1 hn #[u] ρ F W (CR.cons hy CR.nil) hR hG
  cases x with
  | nils =>simp only [m000,m001] at hg;obtain ⟨rfl,rfl⟩:=hg;exact use _ hu _ _ (hnil s)
  | sl ex l =>
   cases l with
   | nil =>
    simp only [m000,m001] at hg;obtain ⟨rfl,rfl⟩:=hg
    have hw:∀ r1 s1,(∀ F' ρ' v,VR E.P F' ρ' r1 v->VR E.P F' ρ' (.sl false []) v)->s1.h=s.h->s1.nx<=s.nx+7->cY P E.P s.nx s ρ F W r1 s1 (callFunc f #[u])->cY P E.P s.nx s ρ F W (.sl false []) ⟨s.h,s.nx+7⟩ (callFunc f #[u]):=fun r1 s1 hv hh hnx hd=>by
     refine hd.map fun v W' ⟨ρ',F',k1,k2,k3,k4,k5⟩=>⟨ρ',F',hv _ _ _ k1,?_,?_,k4,by show s.nx<=s.nx+7;omega⟩
     ·obtain ⟨h1,n1⟩:=s1;simp only at hh hnx;subst hh;exact ⟨k2.blk,k2.inj,k2.fz,fun i hi=>k2.fresh i (by have:s.nx+7<=i:=hi;show n1<=i;omega)⟩
     ·obtain ⟨h1,n1⟩:=s1;simp only at hh;subst hh;exact ⟨k3.rho,k3.fz,k3.os,k3.tape,k3.output,k3.size,k3.same,k3.born,k3.cold⟩
    obtain ⟨a,c,rfl,_,_,_⟩:=lN hu;have hn:=KD hu
    cases a with
    | none =>have:c=0:=hn rfl;subst this;refine hw .nils (adv s 4) (fun F' ρ' v hv=>?_) rfl (by show s.nx+4<=_;omega) (use .nils .nils _ _ (hnil s));cases hv;exact .sl0 false none 0 (fun h=>nomatch h) (fun _=>rfl)
    | some a =>
     refine hw (.sl true []) (adv s 7) (fun F' ρ' v hv=>?_) rfl (bK _) (use .emp (.emp a c) _ _ (hemp s))
     cases hv with
     | sl0 _ a c h hn=>exact .sl0 false a c (fun h=>nomatch h) hn
     | sl _ _ β b z c w hc hx hz hf hv=>exact .sl0 false _ _ (fun h=>nomatch h) (fun h=>nomatch h)
   | cons v l =>have h2:((aR z (.sl ex (v::l)) (adv s 7)).bind fun c=>bM e z b (.sl true []) c (s.nx+5) (adv s 7))=some (r,s'):=hg;exact use _ hu _ _ (hrest _ s r s' (.inl rfl) h2)
  | emp =>have h2:((aR z .emp (adv s 7)).bind fun c=>bM e z b (.sl true []) c (s.nx+5) (adv s 7))=some (r,s'):=hg;exact use _ hu _ _ (hrest _ s r s' (.inl rfl) h2)
  | ref i o n c e' =>have h2:((aR z (.ref i o n c e') (adv s 7)).bind fun c=>bM e z b (.sl true []) c (s.nx+5) (adv s 7))=some (r,s'):=hg;exact use _ hu _ _ (hrest _ s r s' (.inl rfl) h2)
  | _=>simp [mP] at hg
 ·cases hg
end
end
noncomputable section
section
variable {T:Ty} {q:TypeId->Bool} {t:TypeId} {k:IntKind} {a b:Int} {x y:List UInt8} {s:St} {n m:Nat}
theorem bin_add:mG T q .add t (.int k a) (.int k b)=some (.int k (k.wrap (a+b))):=by simp [mG,dY,eX]
theorem bin_sub:mG T q .sub t (.int k a) (.int k b)=some (.int k (k.wrap (a - b))):=by simp [mG,dY,eX]
theorem bin_mul:mG T q .mul t (.int k a) (.int k b)=some (.int k (k.wrap (a * b))):=by simp [mG,dY,eX]
theorem bin_lss:mG T q .lss t (.int k a) (.int k b)=some (.bool (decide (a < b))):=by simp [mG,dY,eX]
theorem bin_leq:mG T q .leq t (.int k a) (.int k b)=some (.bool (decide (a<=b))):=by simp [mG,dY,eX]
theorem bin_gtr:mG T q .gtr t (.int k a) (.int k b)=some (.bool (decide (a > b))):=by simp [mG,dY,eX]
theorem bin_geq:mG T q .geq t (.int k a) (.int k b)=some (.bool (decide (a >= b))):=by simp [mG,dY,eX]
theorem bin_eql:mG T q .eql t (.int k a) (.int k b)=some (.bool (a==b)):=by simp [mG,dY,eX]
theorem bin_neq:mG T q .neq t (.int k a) (.int k b)=some (.bool (a != b)):=by simp [mG,dY,eX]
theorem bin_seql:mG T q .eql t (.str x) (.str y)=some (.bool (x==y)):=rfl
theorem bin_sneq:mG T q .neq t (.str x) (.str y)=some (.bool !(x==y)):=rfl
theorem un_not {b:Bool}:un .not (.bool b)=some (.bool !b):=rfl
theorem wantV_bool {b w:Bool}:aD (.bool b) w=some (b==w):=rfl
theorem pickV_bool {c:Bool} {u v:AV}:bC (.bool c) u v=some (cond c u v):=rfl
theorem extr_tup {l:List AV} {i:Nat}:aS (.tup l) i=l[i]?:=rfl
theorem shiftP_ptr {i o:Nat}:aC n (.ptr i o)=some (.ptr i (o+n)):=rfl
theorem shiftP_pel {c:List AV} {o:Nat}:aC n (.pel c o)=some (.pel c (o+n)):=rfl
theorem adv_h:(adv s n).h=s.h:=rfl
theorem adv_nx:(adv s n).nx=s.nx+n:=rfl
theorem set_h {o:Option gU}:(s.set n o).h m=cond (Nat.beq m n) o (s.h m):=rfl
theorem set_nx {o:Option gU}:(s.set n o).nx=s.nx:=rfl
theorem beq_self':Nat.beq n n=true:=by simp
theorem ld_pel {c:List AV} {o z:Nat} {ag:Bool}:ld z ag (.pel c o) s=Ai.part z ag o c:=rfl
theorem ld_ptr {i o z:Nat} {ag:Bool}:ld z ag (.ptr i o) s=match s.h i with
  | some (.cells c _ _ _)=>Ai.part z ag o c
  | _=>none:=rfl
theorem part_one {c:List AV} {o z:Nat}:Ai.part z false o c=c[o]?:=rfl
theorem DQ {c:List AV} {o z:Nat}:Ai.part z true o c=if o+z<=c.length then some (.agg ((c.drop o).take z)) else none:=rfl
theorem ftb:(false==true)=false:=rfl
theorem tfb:(true==false)=false:=rfl
theorem wz:type_of% (And.intro @shiftP_ptr <| And.intro @shiftP_pel <| And.intro @Bnd_some <| And.intro @IfP_bool <| And.intro @Gd_some <| And.intro @ld_ptr <| And.intro @ld_pel <| And.intro @adv_h <| And.intro @adv_nx <| And.intro @set_h <| And.intro @set_nx <| And.intro @beq_self' <| And.intro @part_one <| And.intro @un_not <| And.intro @wantV_bool <| And.intro @pickV_bool <| And.intro @extr_tup <| And.intro @bin_lss <| And.intro @bin_leq <| And.intro @bin_gtr <| And.intro @bin_geq <| And.intro @bin_eql <| And.intro @bin_neq <| And.intro @bin_seql <| And.intro @bin_sneq <| And.intro @bin_add <| And.intro @bin_sub <| And.intro @m023 <| And.intro @m015 <| And.intro @m025 <| And.intro @m027 <| And.intro @ftb @tfb):=And.intro @shiftP_ptr <| And.intro @shiftP_pel <| And.intro @Bnd_some <| And.intro @IfP_bool <| And.intro @Gd_some <| And.intro @ld_ptr <| And.intro @ld_pel <| And.intro @adv_h <| And.intro @adv_nx <| And.intro @set_h <| And.intro @set_nx <| And.intro @beq_self' <| And.intro @part_one <| And.intro @un_not <| And.intro @wantV_bool <| And.intro @pickV_bool <| And.intro @extr_tup <| And.intro @bin_lss <| And.intro @bin_leq <| And.intro @bin_gtr <| And.intro @bin_geq <| And.intro @bin_eql <| And.intro @bin_neq <| And.intro @bin_seql <| And.intro @bin_sneq <| And.intro @bin_add <| And.intro @bin_sub <| And.intro @m023 <| And.intro @m015 <| And.intro @m025 <| And.intro @m027 <| And.intro @ftb @tfb
theorem wy.{u}:type_of% (And.intro @cond_true.{u} <| And.intro @cond_false.{u} <| And.intro @List.getElem?_cons_zero.{u} <| And.intro @List.getElem?_cons_succ.{u} <| And.intro @beq_self_eq_true.{u} <| And.intro @if_true.{u} <| And.intro @if_false.{u} <| And.intro @m052.{u} @m073.{u}):=And.intro @cond_true.{u} <| And.intro @cond_false.{u} <| And.intro @List.getElem?_cons_zero.{u} <| And.intro @List.getElem?_cons_succ.{u} <| And.intro @beq_self_eq_true.{u} <| And.intro @if_true.{u} <| And.intro @if_false.{u} <| And.intro @m052.{u} @m073.{u}
theorem aP {h:FuncId} {args:List AV} {v:AV} {K:aG} (hc:bE mEv h args v) (hcl:∀ x∈args,x.closed=true) (hk:K v s):aO mEv h args s K:=by
 have hp:dN (pur mEv.P s 12) args=some (args,[]):=by
  clear hc
  induction args with
  | nil=>rfl
  | cons x l ih =>
   have hx:pur mEv.P s 12 x=some (x,[]):=by unfold pur;rw [if_pos (hcl x (m007 ..))]
   simp only [dN,hx,ih fun y hy=>hcl y (m005 _ hy),m011]
 refine .mk args [] v hp hc ?_;simpa using hk
theorem bA {h:FuncId} {args:List AV} {v:AV} (hv:v.closed=true) (hw:∃ r s',WideC mEv h args St.empty r s'/\r=v):bE mEv h args v:=by obtain ⟨r,s',h1,rfl⟩:=hw;exact YB ⟨r,s',h1,[],by unfold pur;rw [if_pos hv]⟩
end
end
noncomputable section
section
structure eR (t e:TypeId) (z:Nat) (ag:Bool) (b:Nat):Prop where
 u:eK Tryz.ty t=some (.slice e)
 l:eU Tryz.ty e=some (z,ag)
 b:dW Tryz.ty e=some b
 zr:(zero Tryz.ty e).map (fun v=>v.cells.length)=some z
 pos:0 < z
variable {t e:TypeId} {z b lo id:Nat} {ag:Bool} {s:St} {x:AV} {vs:List AV}
theorem aB {j id:Nat} {o:Option gU} (h:j≠id):(s.set id o).h j=s.h j:=by
 have:Nat.beq j id=false:=by
  cases hb:Nat.beq j id with
  | false=>rfl
  | true=>exact absurd (iN hb) h
 show cond (Nat.beq j id) o (s.h j)=s.h j;rw [this];rfl
theorem aF {id:Nat} {o:Option gU}:(s.set id o).h id=o:=by show cond (Nat.beq id id) o (s.h id)=o;rw [beq_self'];rfl
theorem pG (h:eR t e z ag b) (x y:AV) (id:Nat) (s:St):bt .append #[t,t] [x,y] id s=(aR z y s).bind fun c=>bM e z b x c id s:=by
 have h1:eK (bX mEv).P t=some (.slice e):=h.u;have h2:eU (bX mEv).P e=some (z,ag):=h.l;have h3:dW (bX mEv).P e=some b:=h.b;have h4:=h.zr
 cases hz:zero Tryz.ty e with
 | none=>rw [hz] at h4;cases h4
 | some zv =>rw [hz] at h4;simp only [Option.map_some,m000] at h4;have h5:zero (bX mEv).P e=some zv:=hz;simp [bL,h1,h2,h3,h5,h4,h.pos]
def Gw (e:TypeId) (z lo:Nat) (s:St) (x:AV) (vs:List AV):Prop :=
 (∀ v∈vs,v.cells.length=z/\v.cells.all AV.one=true)/\((x=.nils/\vs=[])\/∃ id,lo<=id/\x=.ref id 0 vs.length none e/\s.h id=some (.cells (vs.flatMap AV.cells) e false true))
theorem fG:Gw e z lo s .nils []:=⟨fun _ h=>(by cases h),.inl ⟨rfl,rfl⟩⟩
theorem dP (h:∀ v∈vs,v.cells.length=z/\v.cells.all AV.one=true):(vs.flatMap AV.cells).length=vs.length * z:=by
 induction vs with
 | nil=>simp
 | cons v l ih =>rw [m024,m006,(h v (m007 ..)).1,ih fun x hx=>h x (m005 _ hx),List.length_cons,pV,Nat.add_comm]
theorem Gw.mono {s':St} (g:Gw e z lo s x vs) (h:∀ j,lo<=j->s.h j≠none->s'.h j=s.h j):Gw e z lo s' x vs:=by
 obtain ⟨h1,⟨rfl,rfl⟩ | ⟨id,hi,rfl,hs⟩⟩:=g
 ·exact ⟨h1,.inl ⟨rfl,rfl⟩⟩
 ·exact ⟨h1,.inr ⟨id,hi,rfl,by rw [h id hi (by rw [hs];simp)];exact hs⟩⟩
theorem bDr (h:eR t e z ag b) (g:Gw e z lo s x vs) {v:AV} (hv:v.cells.length=z) (ho:v.cells.all AV.one=true) (hf:mL (vs.length+1) b=true) (hid:lo<=id) (ex:Bool) :
  ∃ x' s',bt .append #[t,t] [x,.sl ex [v]] id s=some (x',s')/\Gw e z lo s' x' (vs++[v])/\(∀ j,j < lo->s'.h j=s.h j)/\s'.nx=s.nx/\(∀ j,j≠id->(∀ n c,x≠.ref j 0 n c e)->s'.h j=s.h j)/\x'=.ref id 0 (vs.length+1) none e:=by
 rw [pG h];have hsrc:aR z (.sl ex [v]) s=some v.cells:=by simp [aR,hv]
 rw [hsrc,Option.bind_some];have hne:v.cells≠[]:=fun hh=>by rw [hh] at hv;have:=h.pos;simp at hv;omega
 have hem:v.cells.isEmpty=false:=by cases hc:v.cells with | nil=>exact absurd hc hne | cons a b=>rfl
 have hdiv:v.cells.length / z=1:=by rw [hv];exact Nat.div_self h.pos
 obtain ⟨h1,⟨rfl,rfl⟩ | ⟨i,hi,rfl,hs⟩⟩:=g
 ·have hf':mL 1 b=true:=by simpa using hf
  refine ⟨.ref id 0 1 none e,s.set id (some (.cells v.cells e false true)),?_,⟨?_,.inr ⟨id,hid,rfl,?_⟩⟩,?_,rfl,?_,rfl⟩
  ·unfold bM;simp [hem,ho,dR,hdiv,hf',kG]
  ·intro w hw;simp at hw;subst hw;exact ⟨hv,ho⟩
  ·rw [aF];simp
  ·intro j hj;exact aB (by omega)
  ·intro j hj _;exact aB hj
 ·have hfl:=dP h1;have hlen:(vs.flatMap AV.cells++v.cells).length / z=vs.length+1:=by rw [m006,hfl,hv,<- pV,CW _ h.pos]
  have hgt:¬ (vs.length * z+v.cells.length<=(vs.flatMap AV.cells).length):=by rw [hfl,hv];have:=h.pos;omega
  refine ⟨.ref id 0 (vs.length+1) none e,(s.set i none).set id (some (.cells (vs.flatMap AV.cells++v.cells) e false true)),?_,⟨?_,.inr ⟨id,hid,by simp,?_⟩⟩,?_,rfl,?_,rfl⟩
  ·unfold bM;simp only [hem,ho,m025,m015,if_false,hs,m023,hfl,bK,and_self,if_true];rw [if_neg (by rw [hv];have:=h.pos;omega)];simp only [dR,hlen,hf,if_true,kG]
  ·intro w hw;rcases m003.1 hw with hw | hw
   ·exact h1 w hw
   ·simp at hw;subst hw;exact ⟨hv,ho⟩
  ·rw [aF];simp
  ·intro j hj;rw [aB (by omega),aB (by omega)]
  ·intro j hj h2;have:j≠i:=fun hh=>h2 _ _ (by subst hh;rfl);rw [aB hj,aB this]
theorem aHq:∀ (vs dM c:List AV),c.length=vs.length->bZ (dM++c) dM.length vs=dM++vs:=by
 intro vs
 induction vs with
 | nil=>intro dM c h;simp at h;subst h;rfl
 | cons v l ih =>
  intro dM c h
  match c,h with
  | y::c,h =>
   simp only [bZ];have e:(dM++y::c).set dM.length v=(dM++[v])++c:=by simp
   have:=ih (dM++[v]) c (by simpa using h);rw [e];simpa using this
theorem bLu {c vs:List AV} (h:c.length=vs.length):bZ c 0 vs=vs:=aHq vs [] c h
theorem bJ {v:AV} {c:List AV} {ex:Bool} (h:s.h id=some (.cells c e ex true)) (hc:c.length=z) (hv:v.cells.length=z) (ho:v.cells.all AV.one=true):dU z (.ptr id 0) v s=some (s.set id (some (.cells v.cells e ex true))):=by show Ai.store z (.ptr id 0) v s=_;unfold Ai.store;simp only [h];rw [if_pos ⟨hv,by omega,ho⟩,bLu (by omega)]
theorem dX (h:eR t e z ag b) (hm:z<=2 ^ 24) {v:AV} (hv:v.cells.length=z) (ho:v.cells.all AV.one=true):kM t 1 [(0,v)]=some (.sl true [v]):=by
 have h4:=h.zr
 cases hz:zero Tryz.ty e with
 | none=>rw [hz] at h4;cases h4
 | some zv =>rw [hz] at h4;simp only [Option.map_some,m000] at h4;simp [jI,h.u,h.l,hz,h4,h.pos,hm,jS,hv,ho]
def aI (s:St):Prop:=∀ j,s.nx<=j->s.h j=none
theorem aI.adv {n:Nat} (h:aI s):aI (adv s n):=fun j hj=>h j (by have:s.nx+n<=j:=hj;omega)
theorem aI.set {i:Nat} {o:Option gU} (h:aI s) (hi:i < s.nx):aI (s.set i o):=fun j hj=>by have hj:s.nx<=j:=hj;rw [aB (by omega)];exact h j hj
theorem jP:aI St.empty:=fun _ _=>rfl
theorem Gw.adv {n:Nat} (g:Gw e z lo s x vs):Gw e z lo (adv s n) x vs:=g.mono fun _ _ _=>rfl
theorem aUj (h:eR t e z ag b) (g:Gw e z lo s x vs) (fr:aI s) {v:AV} (hv:v.cells.length=z) (ho:v.cells.all AV.one=true) (hf:mL (vs.length+1) b=true) (hid:lo<=id) (hid2:id < s.nx) (ex:Bool) :
  ∃ x' s',bt .append #[t,t] [x,.sl ex [v]] id s=some (x',s')/\Gw e z lo s' x' (vs++[v])/\aI s'/\s'.nx=s.nx/\(∀ j,j < lo->s'.h j=s.h j)/\(∀ j,j≠id->(∀ n c,x≠.ref j 0 n c e)->s'.h j=s.h j)/\x'=.ref id 0 (vs.length+1) none e:=by
 obtain ⟨x',s',h1,h2,h3,h4,h5,h6⟩:=bDr h g hv ho hf hid ex;refine ⟨x',s',h1,h2,fun j hj=>?_,h4,h3,h5,h6⟩;rw [h4] at hj;rw [h5 j (by omega) (fun n c hx=>?_)]
 ·exact fr j hj
 ·obtain ⟨_,⟨h6,_⟩ | ⟨i,_,h6,h7⟩⟩:=g
  ·rw [h6] at hx;cases hx
  ·rw [h6] at hx;cases hx;rw [fr _ hj] at h7;cases h7
theorem dF {v:AV} (k:Nat) (h:v.closed=true):pur mEv.P s k v=some (v,[]):=by unfold pur;rw [if_pos h]
theorem iD {l:List AV} (k:Nat) (h:aW l=true):dN (pur mEv.P s k) l=some (l,[]):=by
 induction l with
 | nil=>rfl
 | cons v l ih =>simp only [aW,cR] at h;simp only [dN,dF k h.1,ih h.2,m011]
theorem ED (h:∀ v∈vs,v.cells.length=z/\v.cells.all AV.one=true) (ha:∀ v∈vs,v=.agg v.cells):nZ z vs.length (vs.flatMap AV.cells)=vs:=by
 induction vs with
 | nil=>rfl
 | cons v l ih =>have hv:=(h v (m007 ..)).1;rw [m024,List.length_cons,nZ,List.take_left' hv,List.drop_left' hv,ih (fun x hx=>h x (m005 _ hx)) (fun x hx=>ha x (m005 _ hx)),<- ha v (m007 ..)]
theorem mO (h:∀ v∈vs,v.closed=true):aW (vs.flatMap AV.cells)=true:=by
 induction vs with
 | nil=>rfl
 | cons v l ih =>
  rw [m024];have h1:aW v.cells=true:=by have:=h v (m007 ..);cases v<;>first | exact this | (simp only [AV.cells,aW,this,jH];done) | (simp only [AV.cells,aW,m059];exact this)
  have h2:=ih fun x hx=>h x (m005 _ hx);generalize v.cells=a at h1
  induction a with
  | nil=>exact h2
  | cons y a iha =>simp only [List.cons_append,aW,cR] at h1 ⊢;exact ⟨h1.1,iha h1.2⟩
theorem bGa (h:eR t e z true b) (g:Gw e z lo s x vs) (hc:∀ v∈vs,v.closed=true) (ha:∀ v∈vs,v=.agg v.cells):∃ ids,pur mEv.P s 12 x=some (.sl false vs,ids):=by
 obtain ⟨h1,⟨rfl,rfl⟩ | ⟨i,hi,rfl,hs⟩⟩:=g
 ·exact ⟨[],rfl⟩
 ·have h2:eU mEv.P e=some (z,true):=h.l;have hp:=iD (s:=s) 11 (mO hc);have hfl:=dP h1;refine ⟨[i],?_⟩;have hnc:(AV.ref i 0 vs.length none e).closed=false:=rfl;unfold pur;rw [hnc,if_neg (by simp)];simp only [hs,h2,hfl,m023,bK,h.pos,and_self,if_true,m048];rw [show (vs.flatMap AV.cells).take (vs.length * z)=vs.flatMap AV.cells from m014 (by rw [hfl];exact bK _)];simp only [hp,Option.bind_some,m033,if_true,ED h1 ha]
theorem BQ (h:∀ v∈vs,v.cells=[v]):vs.flatMap AV.cells=vs:=by
 induction vs with
 | nil=>rfl
 | cons v l ih=>rw [m024,h v (m007 ..),ih fun x hx=>h x (m005 _ hx)];rfl
theorem OZ {y v:AV} {ids:List Nat} {k:Nat} (hx:x.closed=false) (h:pur mEv.P s k x=some (v,ids)) (hy:y.closed=true):pur mEv.P s (k+1) (.tup [x,y])=some (.tup [v,y],ids):=by
 have hc:(AV.tup [x,y]).closed=false:=by simp only [AV.closed,aW,hx,m035]
 unfold pur;rw [hc,if_neg (by simp)];simp only [dN,h,dF k hy,m011,Option.map_some]
theorem BJ {h:FuncId} {args args2:List AV} {ids:List Nat} {v:AV} {K:aG} (hp:dN (pur mEv.P s 12) args=some (args2,ids)) (hc:bE mEv h args2 v) (hf:v.flat=true) (hk:K v s):aO mEv h args s K :=
 .mk args2 ids v hp hc (by rw [hf,m078,if_pos rfl];exact hk)
end
end
noncomputable section
set_option maxRecDepth 1000000
abbrev aY:Nat->Gf->St->Prop:=fun _ _ _=>False
abbrev cX (j:Nat) (a:Kt) (k:Nat->Kt):Nat->Kt:=fun i=>cond (Nat.beq i j) a (k i)
abbrev mI (L:Nat->Kt) (h n:Nat):Kt:=fun g s=>L n (fun k=>cond (bN (mEv.kp h) k) (g k) .undef) s
def mC {T:Type} (b:T) (f:T->T) (n:Nat):T:=Nat.rec (motive:=fun _=>T) b (fun _ ih=>f ih) n
abbrev dT (h:Nat) (a:List AV) (s:St) (Q:aG):Prop:=∃ r s',WideC mEv h a s r s'/\Q r s'
abbrev bCs:Code:=aJ Tryz.f156
abbrev aZr:=rK Tryz.f156
abbrev bOr:=aK mEv 156 (mEv.kp 156)
def f156 (Q:aG) (t0 t1:AV) (s:St):Prop:=aL mEv 202 [t0] (adv s 4) fun t7 s1=>(aQ t0=true /\
 aA (aC 1 t0) fun t11=>aA (ld 1 false t11 (adv s1 10)) fun t12=>aA (bt .append #[161,9] [t12,t1] (s1.nx+6) (adv s1 10)) fun r14=>(aQ t0=true /\
 aA (aC 1 t0) fun t16=>aA (dU 1 t16 r14.1 r14.2) fun s2=>aA (bt .len #[9] [t1] (s2.nx+1) (adv s2 4)) fun r18=>Q (.tup [r18.1,.nili]) r18.2))
theorem aJi (t0 t1:AV) (s:St) {Q:aG} (h:f156 Q t0 t1 s):dT 156 [t0,t1] s Q:=aH (h:=156) (fn:=Tryz.f156) (c:=sub bCs []) (show bOr (sub bCs []) (aZr Q) aY (aZr Q)=_ from rfl) h
abbrev aZa:Code:=aJ Tryz.f108
abbrev bBm:=rK Tryz.f108
abbrev bKf:=aK mEv 108 (mEv.kp 108)
def f108 (Q:aG) (t0:AV) (s:St):Prop:=(aQ t0=true /\
 aA (aC 1 t0) fun t5=>aA (ld 1 false t5 (adv s 13)) fun t6=>aA (bt .unsafeSliceData #[161] [t6] (s.nx+5) (adv s 13)) fun r7=>(aQ t0=true /\
 aA (aC 1 t0) fun t10=>aA (ld 1 false t10 r7.2) fun t11=>aA (bt .len #[161] [t11] (s.nx+10) r7.2) fun r12=>(r12.2.h (s.nx+11)=none/\aA (bt .unsafeString #[220,3] [r7.1,r12.1] (s.nx+11) r12.2) fun r13=>Q r13.1 r13.2)))
theorem aOo (t0:AV) (s:St) {Q:aG} (h:f108 Q t0 s):dT 108 [t0] s Q:=aH (h:=108) (fn:=Tryz.f108) (c:=sub aZa []) (show bKf (sub aZa []) (bBm Q) aY (bBm Q)=_ from rfl) h
abbrev bAc:Code:=aJ Tryz.f202
abbrev aZp:=rK Tryz.f202
abbrev bOj:=aK mEv 202 (mEv.kp 202)
def f202 (Q:aG) (t0:AV) (s:St):Prop:=(aQ t0=true /\
 aA (aC 0 t0) fun t4=>aA (ld 1 false t4 (adv s 5)) fun t5=>aA (bn .eql 160 t5 .nilp) fun t6=>aZ t6
 (aA (cv 160 288 t0 (adv s 13)) fun t9=>aL mEv 232 [t9] (adv s 13) fun t10 s1=>aA (cv 288 160 t10 s1) fun t11=>(aQ t0=true /\
 aA (aC 0 t0) fun t13=>aA (dU 1 t13 t11 s1) fun s2=>Q (.tup []) s2))
 ((aQ t0=true /\
 aA (aC 0 t0) fun t16=>aA (ld 1 false t16 (adv s 11)) fun t17=>aA (bn .neq 160 t17 t0) fun t19=>aZ t19
 (False)
 (Q (.tup []) (adv s 11)))))
theorem aRt (t0:AV) (s:St) {Q:aG} (h:f202 Q t0 s):dT 202 [t0] s Q:=aH (h:=202) (fn:=Tryz.f202) (c:=sub bAc []) (show bOj (sub bAc []) (aZp Q) aY (aZp Q)=_ from rfl) h
end
noncomputable section
set_option maxRecDepth 1000000
abbrev aZw:Code:=aJ Tryz.f181
abbrev aYu:=rK Tryz.f181
abbrev bNk:=aK mEv 181 (mEv.kp 181)
def f181 (Q:aG) (t0:AV) (s:St):Prop:=aA (bn .geq 3 t0 (.int .i64 0)) fun t4=>Gd (aD t4 true) (adv s 8) (fun k=>k t0 (adv s 8)) fun t6 s1=>Gd (aD t4 true) s1 (fun k=>aA (bn .leq 3 t6 (.int .i64 196607)) fun v=>k v s1) fun t7 s2=>aA (bC t4 t7 (.bool false)) fun t8=>Q t8 s2
theorem aSw (t0:AV) (s:St) {Q:aG} (h:f181 Q t0 s):dT 181 [t0] s Q:=aH (h:=181) (fn:=Tryz.f181) (c:=sub aZw []) (show bNk (sub aZw []) (aYu Q) aY (aYu Q)=_ from rfl) h
end
noncomputable section
set_option maxRecDepth 1000000
abbrev aMm:Code:=aJ Tryz.f33
abbrev aBh:=rK Tryz.f33
abbrev aXf:=aK mEv 33 (mEv.kp 33)
def HO (Q:aG) (t3:AV) (s:St):Prop:=Q t3 (adv s 2)
def aKn (Q:aG) (ih1:AV->AV->aG) (t4 t1 t3:AV) (s:St):Prop:=aA (bn .add 3 t4 (.int .i64 1)) fun t15=>ih1 t1 t3 t15 (adv s 3)
def uK (Q:aG) (ih1:AV->AV->aG) (t1 t3 t4:AV) (s:St):Prop:=aA (aC 5 t1) fun t6=>aA (ld 1 false t6 (adv s 9)) fun t7=>aA (bt .len #[31] [t7] (s.nx+3) (adv s 9)) fun r8=>aA (bn .lss 3 t4 r8.1) fun t9=>Gd (aD t9 true) r8.2 (fun k=>k t3 r8.2) fun t11 s1=>Gd (aD t9 true) s1 (fun k=>aA (bn .leq 3 t11 (.int .i64 5000)) fun v=>k v s1) fun t12 s2=>aA (bC t9 t12 (.bool false)) fun t13=>aZ t13
 (aA (aC 5 t1) fun t17=>aA (ld 1 false t17 (adv s2 9)) fun t18=>aA (cQ 6 t18 t4) fun t20=>aA (ld 6 true t20 (adv s2 9)) fun t21=>aO mEv 33 [t21] (adv s2 9) fun t22 s3=>aA (bn .add 3 t3 t22) fun t23=>aKn Q ih1 t4 t1 t23 s3)
 (HO Q t3 s2)
def wO (Q:aG) (n:Nat):AV->AV->aG:=mC (fun _ _ _ _ =>False) (fun ih=>uK Q ih) n
theorem aQn (Q:aG):aXf (sub aMm [Y,Y,Y]) (aBh Q) aY (aBh Q)=(fun g s=>HO Q (g 3) s):=Eq.trans rfl (by kernel_rfl)
theorem aKr (Q:aG) (n1:Nat):aXf (sub aMm [Y,Y,N,Y,N,N,Y,Y]) (mI (fun n g s=>wO Q n (g 1) (g 3) (g 4) s) 33 n1) (cX 0 (fun g s=>HO Q (g 3) s) aY) (aBh Q)=(fun g s=>aKn Q (wO Q n1) (g 4) (g 1) (g 3) s):=Eq.trans rfl (by kernel_rfl)
theorem aKj (Q:aG) (kN:Kt):aXf (sub aMm [Y,Y,N,Y,N]) kN (cX 0 (fun g s=>HO Q (g 3) s) aY) (aBh Q)=fun g s=>∃ n,wO Q n (g 1) (g 3) (g 4) s:=mB (L:=fun n g s=>wO Q n (g 1) (g 3) (g 4) s) (fun n1=>Eq.trans (aM (aM (aKr Q n1) (dV 1 rfl)) rfl) (by kernel_rfl))
def f33 (Q:aG) (t0:AV) (s:St):Prop:=(t0.cells.all AV.one=true /\
 ∃ n,wO Q n (.ptr s.nx 0) (.int .i64 1) (.int .i64 0) (adv ((adv s 2).set s.nx (some (.cells t0.cells 33 true true))) 2))
theorem aTh (t0:AV) (s:St) {Q:aG} (h:f33 Q t0 s):dT 33 [t0] s Q:=aH (h:=33) (fn:=Tryz.f33) (c:=sub aMm []) (show aXf (sub aMm []) (aBh Q) aY (aBh Q)=_ from (aM (aM (aM (aQn Q) (aM (dV 0 (aKj Q _)) rfl)) rfl) rfl)) h
abbrev bHd:Code:=aJ Tryz.f74
abbrev bHw:=rK Tryz.f74
abbrev bPx:=aK mEv 74 (mEv.kp 74)
def f74 (Q:aG) (t0:AV) (s:St):Prop:=(t0.cells.all AV.one=true /\
 aA (ld 6 true (.ptr s.nx 0) (adv ((adv s 2).set s.nx (some (.cells t0.cells 33 true true))) 3)) fun t3=>aO mEv 125 [t3,(.int .i64 65)] (adv ((adv s 2).set s.nx (some (.cells t0.cells 33 true true))) 3) fun t4 s1=>Q t4 s1)
theorem aXu (t0:AV) (s:St) {Q:aG} (h:f74 Q t0 s):dT 74 [t0] s Q:=aH (h:=74) (fn:=Tryz.f74) (c:=sub bHd []) (show bPx (sub bHd []) (bHw Q) aY (bHw Q)=_ from rfl) h
abbrev NG:Code:=aJ Tryz.f125
abbrev GT:=rK Tryz.f125
abbrev WD:=aK mEv 125 (mEv.kp 125)
def EI (Q:aG) (t5:AV) (s:St):Prop:=aA (bn .add 3 t5 (.int .i64 1)) fun t35=>Q t35 (adv s 3)
def DT (Q:aG) (ih1:AV->AV->AV->aG) (t6 t1 t2 t5:AV) (s:St):Prop:=aA (bn .add 3 t6 (.int .i64 1)) fun t21=>ih1 t1 t2 t5 t21 (adv s 3)
def oK (Q:aG) (ih1:AV->AV->AV->aG) (t1 t2 t5 t6:AV) (s:St):Prop:=aA (aC 5 t2) fun t16=>aA (ld 1 false t16 (adv s 5)) fun t17=>aA (bt .len #[31] [t17] (s.nx+3) (adv s 5)) fun r18=>aA (bn .lss 3 t6 r18.1) fun t19=>aZ t19
 (aA (aC 5 t2) fun t22=>aA (ld 1 false t22 (adv r18.2 9)) fun t23=>aA (cQ 6 t23 t6) fun t25=>aA (ld 6 true t25 (adv r18.2 9)) fun t26=>aA (bn .sub 3 t1 (.int .i64 1)) fun t28=>aO mEv 125 [t26,t28] (adv r18.2 9) fun t29 s1=>aA (bn .gtr 3 t29 t5) fun t32=>aZ t32
 (DT Q ih1 t6 t1 t2 t29 (adv s1 5))
 (DT Q ih1 t6 t1 t2 t5 (adv s1 3)))
 (EI Q t5 r18.2)
def pD (Q:aG) (n:Nat):AV->AV->AV->aG:=mC (fun _ _ _ _ _ =>False) (fun ih=>oK Q ih) n
theorem aBn (Q:aG):WD (sub NG [Y,Y,Y,Y]) (GT Q) aY (GT Q)=(fun g s=>EI Q (g 5) s):=Eq.trans rfl (by kernel_rfl)
theorem ZS (Q:aG) (n1:Nat):WD (sub NG [Y,Y,Y,N,Y,N,N,Y,Y]) (mI (fun n g s=>pD Q n (g 1) (g 2) (g 5) (g 6) s) 125 n1) (cX 0 (fun g s=>EI Q (g 5) s) aY) (GT Q)=(fun g s=>DT Q (pD Q n1) (g 6) (g 1) (g 2) (g 5) s):=Eq.trans rfl (by kernel_rfl)
theorem ZX (Q:aG) (kN:Kt):WD (sub NG [Y,Y,Y,N,Y,N]) kN (cX 0 (fun g s=>EI Q (g 5) s) aY) (GT Q)=fun g s=>∃ n,pD Q n (g 1) (g 2) (g 5) (g 6) s:=mB (L:=fun n g s=>pD Q n (g 1) (g 2) (g 5) (g 6) s) (fun n1=>Eq.trans (aM (aM (ZS Q n1) (dV 1 rfl)) rfl) (by kernel_rfl))
def f125 (Q:aG) (t0 t1:AV) (s:St):Prop:=(t0.cells.all AV.one=true /\
 aA (aC 0 (.ptr s.nx 0)) fun t8=>aA (ld 1 false t8 (adv ((adv s 2).set s.nx (some (.cells t0.cells 33 true true))) 7)) fun t9=>aA (un .not t9) fun t10=>Gd (aD t10 false) (adv ((adv s 2).set s.nx (some (.cells t0.cells 33 true true))) 7) (fun k=>k t1 (adv ((adv s 2).set s.nx (some (.cells t0.cells 33 true true))) 7)) fun t12 s1=>Gd (aD t10 false) s1 (fun k=>aA (bn .eql 3 t12 (.int .i64 0)) fun v=>k v s1) fun t13 s2=>aA (bC t10 (.bool true) t13) fun t14=>aZ t14
 (Q (.int .i64 0) (adv s2 1))
 (∃ n,pD Q n t1 (.ptr s.nx 0) (.int .i64 0) (.int .i64 0) (adv s2 2)))
theorem aPl (t0 t1:AV) (s:St) {Q:aG} (h:f125 Q t0 t1 s):dT 125 [t0,t1] s Q:=aH (h:=125) (fn:=Tryz.f125) (c:=sub NG []) (show WD (sub NG []) (GT Q) aY (GT Q)=_ from (aM (aM (aM (aM (aBn Q) (aM (dV 0 (ZX Q _)) rfl)) rfl) rfl) rfl)) h
abbrev aBw:Code:=aJ Tryz.f29
abbrev UO:=rK Tryz.f29
abbrev aGi:=aK mEv 29 (mEv.kp 29)
def IE (Q:aG) (s:St):Prop:=Q (.bool true) (adv s 1)
def QU (Q:aG) (ih1:AV->AV->AV->aG) (t7 t0 t5 t6:AV) (s:St):Prop:=aA (bn .add 3 t7 (.int .i64 1)) fun t26=>ih1 t0 t5 t6 t26 (adv s 3)
def wM (Q:aG) (ih1:AV->AV->AV->aG) (t0 t7 t5 t6:AV) (s:St):Prop:=aA (cQ 10 t0 t7) fun t44=>aA (aC 3 t44) fun t45=>aA (ld 1 false t45 (adv s 24)) fun t46=>aA (bt .len #[65] [t46] (s.nx+5) (adv s 24)) fun r47=>aA (bn .gtr 3 r47.1 (.int .i64 3)) fun t48=>Gd (aD t48 false) r47.2 (fun k=>k t0 r47.2) fun t50 s1=>Gd (aD t48 false) s1 (fun k=>k t7 s1) fun t51 s2=>Gd (aD t48 false) s2 (fun k=>aA (cQ 10 t50 t51) fun v=>k v s2) fun t52 s3=>Gd (aD t48 false) s3 (fun k=>aA (aC 4 t52) fun v=>k v s3) fun t53 s4=>Gd (aD t48 false) s4 (fun k=>aA (ld 6 true t53 s4) fun v=>k v s4) fun t54 s5=>Gd (aD t48 false) s5 (fun k=>aO mEv 74 [t54] s5 k) fun t55 s6=>Gd (aD t48 false) s6 (fun k=>aA (bn .gtr 3 t55 (.int .i64 64)) fun v=>k v s6) fun t56 s7=>aA (bC t48 (.bool true) t56) fun t57=>Gd (aD t57 false) s7 (fun k=>k t5 s7) fun t59 s8=>Gd (aD t57 false) s8 (fun k=>aA (bn .gtr 3 t59 (.int .i64 600)) fun v=>k v s8) fun t60 s9=>aA (bC t57 (.bool true) t60) fun t61=>Gd (aD t61 false) s9 (fun k=>k t6 s9) fun t63 s10=>Gd (aD t61 false) s10 (fun k=>aA (bn .gtr 3 t63 (.int .i64 8)) fun v=>k v s10) fun t64 s11=>aA (bC t61 (.bool true) t64) fun t65=>aZ t65
 (Q (.bool false) (adv s11 1))
 (QU Q ih1 t7 t0 t5 t6 s11)
def tS (Q:aG) (ih1:AV->AV->AV->aG) (t0 t5 t6 t7:AV) (s:St):Prop:=aA (bt .len #[49] [t0] (s.nx+2) (adv s 4)) fun r23=>aA (bn .lss 3 t7 r23.1) fun t24=>aZ t24
 (aA (cQ 10 t0 t7) fun t30=>aA (aC 4 t30) fun t31=>aA (ld 6 true t31 (adv r23.2 9)) fun t32=>aO mEv 33 [t32] (adv r23.2 9) fun t33 s1=>aA (bn .add 3 t5 t33) fun t34=>aA (cQ 10 t0 t7) fun t37=>aA (aC 2 t37) fun t38=>aA (ld 1 false t38 (adv s1 5)) fun t39=>aZ t39
 (aA (bn .add 3 t6 (.int .i64 1)) fun t41=>wM Q ih1 t0 t7 t34 t41 (adv s1 8))
 (wM Q ih1 t0 t7 t34 t6 (adv s1 5)))
 (IE Q r23.2)
def nN (Q:aG) (n:Nat):AV->AV->AV->aG:=mC (fun _ _ _ _ _ =>False) (fun ih=>tS Q ih) n
theorem aSo (Q:aG):aGi (sub aBw [Y,Y,Y,Y,Y]) (UO Q) aY (UO Q)=(fun g s=>IE Q s):=Eq.trans rfl (by kernel_rfl)
theorem aQd (Q:aG) (n1:Nat):aGi (sub aBw [Y,Y,Y,Y,N,Y,N,N,Y,Y]) (mI (fun n g s=>nN Q n (g 0) (g 5) (g 6) (g 7) s) 29 n1) (cX 0 (fun g s=>IE Q s) aY) (UO Q)=(fun g s=>QU Q (nN Q n1) (g 7) (g 0) (g 5) (g 6) s):=Eq.trans rfl (by kernel_rfl)
theorem aNc (Q:aG) (n1:Nat):aGi (sub aBw [Y,Y,Y,Y,N,Y,N,N,Y,N,N,Y,Y]) (fun g s=>QU Q (nN Q n1) (g 7) (g 0) (g 5) (g 6) s) (cX 1 (fun g s=>QU Q (nN Q n1) (g 7) (g 0) (g 5) (g 6) s) (cX 0 (fun g s=>IE Q s) aY)) (UO Q)=(fun g s=>wM Q (nN Q n1) (g 0) (g 7) (g 5) (g 6) s):=Eq.trans rfl (by kernel_rfl)
theorem aJq (Q:aG) (kN:Kt):aGi (sub aBw [Y,Y,Y,Y,N,Y,N]) kN (cX 0 (fun g s=>IE Q s) aY) (UO Q)=fun g s=>∃ n,nN Q n (g 0) (g 5) (g 6) (g 7) s:=mB (L:=fun n g s=>nN Q n (g 0) (g 5) (g 6) (g 7) s) (fun n1=>Eq.trans (aM (aM (aQd Q n1) (dV 1 (aM (aM (aNc Q n1) rfl) rfl))) rfl) (by kernel_rfl))
def f29 (Q:aG) (t0 t1:AV) (s:St):Prop:=(t1.cells.all AV.one=true /\
 aA (bt .len #[49] [t0] (((adv s 2).set s.nx (some (.cells t1.cells 33 true true))).nx+1) (adv ((adv s 2).set s.nx (some (.cells t1.cells 33 true true))) 13)) fun r9=>aA (bn .gtr 3 r9.1 (.int .i64 60)) fun t10=>Gd (aD t10 false) r9.2 (fun k=>aA (ld 6 true (.ptr s.nx 0) r9.2) fun v=>k v r9.2) fun t12 s1=>Gd (aD t10 false) s1 (fun k=>aO mEv 33 [t12] s1 k) fun t13 s2=>Gd (aD t10 false) s2 (fun k=>aA (bn .gtr 3 t13 (.int .i64 600)) fun v=>k v s2) fun t14 s3=>aA (bC t10 (.bool true) t14) fun t15=>Gd (aD t15 false) s3 (fun k=>aA (ld 6 true (.ptr s.nx 0) s3) fun v=>k v s3) fun t17 s4=>Gd (aD t15 false) s4 (fun k=>aO mEv 74 [t17] s4 k) fun t18 s5=>Gd (aD t15 false) s5 (fun k=>aA (bn .gtr 3 t18 (.int .i64 64)) fun v=>k v s5) fun t19 s6=>aA (bC t15 (.bool true) t19) fun t20=>aZ t20
 (Q (.bool false) (adv s6 1))
 (∃ n,nN Q n t0 (.int .i64 0) (.int .i64 0) (.int .i64 0) (adv s6 3)))
theorem aXt (t0 t1:AV) (s:St) {Q:aG} (h:f29 Q t0 t1 s):dT 29 [t0,t1] s Q:=aH (h:=29) (fn:=Tryz.f29) (c:=sub aBw []) (show aGi (sub aBw []) (UO Q) aY (UO Q)=_ from (aM (aM (aM (aM (aM (aSo Q) (aM (dV 0 (aJq Q _)) rfl)) rfl) rfl) rfl) rfl)) h
abbrev bJf:Code:=aJ Tryz.f93
abbrev bNb:=rK Tryz.f93
abbrev bPj:=aK mEv 93 (mEv.kp 93)
def f93 (Q:aG) (t0 t1:AV) (s:St):Prop:=(t1.cells.all AV.one=true /\
 aA (ld 6 true (.ptr s.nx 0) (adv ((adv s 2).set s.nx (some (.cells t1.cells 33 true true))) 4)) fun t7=>aO mEv 29 [t0,t7] (adv ((adv s 2).set s.nx (some (.cells t1.cells 33 true true))) 4) fun t8 s1=>aZ t8
 (Q (.int .i64 0) (adv s1 2))
 (Q (.int .i64 1) (adv s1 2)))
theorem aWa (t0 t1:AV) (s:St) {Q:aG} (h:f93 Q t0 t1 s):dT 93 [t0,t1] s Q:=aH (h:=93) (fn:=Tryz.f93) (c:=sub bJf []) (show bPj (sub bJf []) (bNb Q) aY (bNb Q)=_ from rfl) h
end
noncomputable section
set_option maxRecDepth 1000000
abbrev bFd:Code:=aJ Tryz.f20
abbrev aYc:=rK Tryz.f20
abbrev bNu:=aK mEv 20 (mEv.kp 20)
def aPa (Q:aG) (s:St):Prop:=Q (.int .i64 0) (adv s 1)
theorem aKk (Q:aG):bNu (sub bFd [Y,Y,Y]) (aYc Q) aY (aYc Q)=(fun g s=>aPa Q s):=Eq.trans rfl (by kernel_rfl)
def f20 (Q:aG) (t0:AV) (s:St):Prop:=(t0.cells.all AV.one=true /\
 aA (ld 2 true (.ptr s.nx 0) (adv ((adv s 2).set s.nx (some (.cells t0.cells 24 true true))) 3)) fun t3=>aO mEv 69 [t3] (adv ((adv s 2).set s.nx (some (.cells t0.cells 24 true true))) 3) fun t4 s1=>aA (dU 2 (.ptr s.nx 0) t4 s1) fun s2=>aA (aC 0 (.ptr s.nx 0)) fun t6=>aA (ld 1 false t6 (adv s2 3)) fun t7=>aZ t7
 (Q (.int .i64 (-1)) (adv s2 4))
 (aA (aC 1 (.ptr s.nx 0)) fun t9=>aA (ld 1 false t9 (adv s2 8)) fun t10=>aA (bt .len #[22] [t10] (s2.nx+5) (adv s2 8)) fun r11=>aA (bn .gtr 3 r11.1 (.int .i64 0)) fun t12=>aZ t12
 (Q (.int .i64 1) (adv r11.2 1))
 (aPa Q r11.2)))
theorem aUc (t0:AV) (s:St) {Q:aG} (h:f20 Q t0 s):dT 20 [t0] s Q:=aH (h:=20) (fn:=Tryz.f20) (c:=sub bFd []) (show bNu (sub bFd []) (aYc Q) aY (aYc Q)=_ from (aM (aM (aM (aKk Q) (dV 0 rfl)) rfl) rfl)) h
abbrev bOb:Code:=aJ Tryz.f69
abbrev bMt:=rK Tryz.f69
abbrev bSy:=aK mEv 69 (mEv.kp 69)
def f69 (Q:aG) (t0:AV) (s:St):Prop:=(t0.cells.all AV.one=true /\
 aA (zr 24) fun z2=>aA (aC 0 (.ptr s.nx 0)) fun t3=>aA (ld 1 false t3 (adv (((adv s 2).set s.nx (some (.cells t0.cells 24 true true))).set (s.nx+1) (some (.cells z2.cells 24 true true))) 6)) fun t4=>aA (aC 1 (.ptr s.nx 0)) fun t5=>aA (ld 1 false t5 (adv (((adv s 2).set s.nx (some (.cells t0.cells 24 true true))).set (s.nx+1) (some (.cells z2.cells 24 true true))) 6)) fun t6=>aO mEv 105 [t4,t6] (adv (((adv s 2).set s.nx (some (.cells t0.cells 24 true true))).set (s.nx+1) (some (.cells z2.cells 24 true true))) 6) fun t7 s1=>aA (dU 2 (.ptr (s.nx+1) 0) t7 s1) fun s2=>pT ((uD [ld 2 true (.ptr (s.nx+1) 0) s2]).map xY) fun v=>Q v s2)
theorem aUa (t0:AV) (s:St) {Q:aG} (h:f69 Q t0 s):dT 69 [t0] s Q:=aH (h:=69) (fn:=Tryz.f69) (c:=sub bOb []) (show bSy (sub bOb []) (bMt Q) aY (bMt Q)=_ from rfl) h
abbrev bAi:Code:=aJ Tryz.f105
abbrev aZt:=rK Tryz.f105
abbrev bIy:=aK mEv 105 (mEv.kp 105)
def f105 (Q:aG) (t0 t1:AV) (s:St):Prop:=aA (zr 24) fun z4=>aO mEv 110 [t1] (adv ((adv s 1).set s.nx (some (.cells z4.cells 24 true true))) 3) fun t6 s1=>Gd (aD t0 true) (adv s1 9) (fun k=>k t6 (adv s1 9)) fun t9 s2=>Gd (aD t0 true) s2 (fun k=>aA (bt .len #[22] [t9] (s1.nx+3) s2) fun r=>k r.1 r.2) fun t10 s3=>Gd (aD t0 true) s3 (fun k=>aA (bn .gtr 3 t10 (.int .i64 0)) fun v=>k v s3) fun t11 s4=>aA (bC t0 t11 (.bool false)) fun t12=>aA (lK 24 [(0,t12),(1,t6)]) fun t14=>aA (dU 2 (.ptr s.nx 0) t14 s4) fun s5=>pT ((uD [ld 2 true (.ptr s.nx 0) s5]).map xY) fun v=>Q v s5
theorem aRx (t0 t1:AV) (s:St) {Q:aG} (h:f105 Q t0 t1 s):dT 105 [t0,t1] s Q:=aH (h:=105) (fn:=Tryz.f105) (c:=sub bAi []) (show bIy (sub bAi []) (aZt Q) aY (aZt Q)=_ from rfl) h
abbrev aJd:Code:=aJ Tryz.f60
abbrev aAh:=rK Tryz.f60
abbrev aXc:=aK mEv 60 (mEv.kp 60)
def MM (Q:aG) (s:St):Prop:=Q (.bool true) (adv s 1)
def WZ (Q:aG) (ih1:AV->AV->AV->AV->aG) (t11 t0 t3 t9 t10:AV) (s:St):Prop:=aA (bn .add 3 t11 (.int .i64 1)) fun t54=>ih1 t0 t3 t9 t10 t54 (adv s 2)
def FC (Q:aG) (ih1:AV->AV->AV->AV->aG) (t0 t3 t9 t10 t11:AV) (s:St):Prop:=aA (bn .lss 3 t11 t10) fun t12=>aZ t12
 (aA (cQ 2 t9 t11) fun t14=>aA (ld 2 true t14 (adv s 7)) fun t15=>aA (zr 109) fun z5=>aA (dU 2 (.ptr (s.nx+4) 0) t15 ((adv s 7).set (s.nx+4) (some (.cells z5.cells 109 true true)))) fun s1=>aA (aC 0 (.ptr (s.nx+4) 0)) fun t16=>aA (ld 1 false t16 (adv s1 34)) fun t17=>aA (bn .lss 3 t17 (.int .i64 0)) fun t18=>Gd (aD t18 false) (adv s1 34) (fun k=>aA (aC 0 (.ptr (s.nx+4) 0)) fun v=>k v (adv s1 34)) fun t20 s2=>Gd (aD t18 false) s2 (fun k=>aA (ld 1 false t20 s2) fun v=>k v s2) fun t21 s3=>Gd (aD t18 false) s3 (fun k=>aA (bn .gtr 3 t21 (.int .i64 196607)) fun v=>k v s3) fun t22 s4=>aA (bC t18 (.bool true) t22) fun t23=>Gd (aD t23 false) s4 (fun k=>aA (aC 1 (.ptr (s.nx+4) 0)) fun v=>k v s4) fun t25 s5=>Gd (aD t23 false) s5 (fun k=>aA (ld 1 false t25 s5) fun v=>k v s5) fun t26 s6=>Gd (aD t23 false) s6 (fun k=>aA (bn .lss 3 t26 (.int .i64 1)) fun v=>k v s6) fun t27 s7=>aA (bC t23 (.bool true) t27) fun t28=>Gd (aD t28 false) s7 (fun k=>aA (aC 1 (.ptr (s.nx+4) 0)) fun v=>k v s7) fun t30 s8=>Gd (aD t28 false) s8 (fun k=>aA (ld 1 false t30 s8) fun v=>k v s8) fun t31 s9=>Gd (aD t28 false) s9 (fun k=>k t3 s9) fun t32 s10=>Gd (aD t28 false) s10 (fun k=>aA (bn .gtr 3 t31 t32) fun v=>k v s10) fun t33 s11=>aA (bC t28 (.bool true) t33) fun t34=>Gd (aD t34 false) s11 (fun k=>k t11 s11) fun t36 s12=>Gd (aD t34 false) s12 (fun k=>aA (bn .gtr 3 t36 (.int .i64 0)) fun v=>k v s12) fun t37 s13=>Gd (aD t34 false) s13 (fun k=>k t37 s13) fun t38 s14 =>
 Gd (aD t38 true) s14 (fun k=>k t0 s14) fun t39 s15=>Gd (aD t38 true) s15 (fun k=>k t11 s15) fun t40 s16=>Gd (aD t38 true) s16 (fun k=>aA (bn .sub 3 t40 (.int .i64 1)) fun v=>k v s16) fun t41 s17=>Gd (aD t38 true) s17 (fun k=>aA (cQ 2 t39 t41) fun v=>k v s17) fun t42 s18=>Gd (aD t38 true) s18 (fun k=>aA (aC 0 t42) fun v=>k v s18) fun t43 s19=>Gd (aD t38 true) s19 (fun k=>aA (ld 1 false t43 s19) fun v=>k v s19) fun t44 s20=>Gd (aD t38 true) s20 (fun k=>aA (aC 0 (.ptr (s.nx+4) 0)) fun v=>k v s20) fun t45 s21=>Gd (aD t38 true) s21 (fun k=>aA (ld 1 false t45 s21) fun v=>k v s21) fun t46 s22=>Gd (aD t38 true) s22 (fun k=>aA (bn .eql 3 t44 t46) fun v=>k v s22) fun t47 s23=>Gd (aD t34 false) s23 (fun k=>aA (bC t38 t47 (.bool false)) fun v=>k v s23) fun t48 s24=>aA (bC t34 (.bool true) t48) fun t49=>aZ t49
 (Q (.bool false) (adv s24 1))
 (aA (aC 1 (.ptr (s.nx+4) 0)) fun t51=>aA (ld 1 false t51 (adv s24 5)) fun t52=>aA (bn .sub 3 t3 t52) fun t53=>WZ Q ih1 t11 t0 t53 t9 t10 (adv s24 5)))
 (MM Q (adv s 1))
def zY (Q:aG) (n:Nat):AV->AV->AV->AV->aG:=mC (fun _ _ _ _ _ _ =>False) (fun ih=>FC Q ih) n
theorem aIm (Q:aG):aXc (sub aJd [Y,Y,Y,Y]) (aAh Q) aY (aAh Q)=(fun g s=>MM Q s):=Eq.trans rfl (by kernel_rfl)
theorem aRl (Q:aG) (n1:Nat):aXc (sub aJd [Y,Y,Y,N,Y,N,N,Y,Y,Y]) (mI (fun n g s=>zY Q n (g 0) (g 3) (g 9) (g 10) (g 11) s) 60 n1) (cX 0 (fun g s=>MM Q s) aY) (aAh Q)=(fun g s=>WZ Q (zY Q n1) (g 11) (g 0) (g 3) (g 9) (g 10) s):=Eq.trans rfl (by kernel_rfl)
theorem aHf (Q:aG) (kN:Kt):aXc (sub aJd [Y,Y,Y,N,Y,N]) kN (cX 0 (fun g s=>MM Q s) aY) (aAh Q)=fun g s=>∃ n,zY Q n (g 0) (g 3) (g 9) (g 10) (g 11) s:=mB (L:=fun n g s=>zY Q n (g 0) (g 3) (g 9) (g 10) (g 11) s) (fun n1=>Eq.trans (aM (aM (aM (aRl Q n1) (dV 1 rfl)) rfl) rfl) (by kernel_rfl))
def f60 (Q:aG) (t0:AV) (s:St):Prop:=aA (bt .len #[25] [t0] (s.nx+2) (adv s 4)) fun r7=>aA (bn .gtr 3 r7.1 (.int .i64 65536)) fun t8=>aZ t8
 (Q (.bool false) (adv r7.2 1))
 (aA (bt .len #[25] [t0] (r7.2.nx+2) (adv r7.2 4)) fun r10=>∃ n,zY Q n t0 (.int .i64 1099511627776) t0 r10.1 (.int .i64 0) r10.2)
theorem aTr (t0:AV) (s:St) {Q:aG} (h:f60 Q t0 s):dT 60 [t0] s Q:=aH (h:=60) (fn:=Tryz.f60) (c:=sub aJd []) (show aXc (sub aJd []) (aAh Q) aY (aAh Q)=_ from (aM (aM (aM (aM (aIm Q) (aM (dV 0 (aHf Q _)) rfl)) rfl) rfl) rfl)) h
end
noncomputable section
set_option maxRecDepth 1000000
abbrev WE:Code:=aJ Tryz.f110
abbrev PM:=rK Tryz.f110
abbrev aGt:=aK mEv 110 (mEv.kp 110)
def yM (Q:aG) (t3 t0:AV) (s:St):Prop:=aA (mkS Tryz.ty 22 t3 t3 (s.nx+1) (adv s 3)) fun r20=>aA (bt .copy #[22,22] [r20.1,t0] (r20.2.nx+2) (adv r20.2 3)) fun r23=>Q r20.1 (adv r23.2 2)
def vL (Q:aG) (ih1:AV->aG) (t0 t3:AV) (s:St):Prop:=aA (bn .gtr 3 t3 (.int .i64 0)) fun t8=>Gd (aD t8 true) (adv s 10) (fun k=>k t0 (adv s 10)) fun t10 s1=>Gd (aD t8 true) s1 (fun k=>k t3 s1) fun t11 s2=>Gd (aD t8 true) s2 (fun k=>aA (bn .sub 3 t11 (.int .i64 1)) fun v=>k v s2) fun t12 s3=>Gd (aD t8 true) s3 (fun k=>aA (cQ 1 t10 t12) fun v=>k v s3) fun t13 s4=>Gd (aD t8 true) s4 (fun k=>aA (ld 1 false t13 s4) fun v=>k v s4) fun t14 s5=>Gd (aD t8 true) s5 (fun k=>aA (bn .eql 211 t14 (.int .u32 0)) fun v=>k v s5) fun t15 s6=>aA (bC t8 t15 (.bool false)) fun t16=>aZ t16
 (aA (bn .sub 3 t3 (.int .i64 1)) fun t18=>ih1 t0 t18 (adv s6 3))
 (yM Q t3 t0 s6)
def yP (Q:aG) (n:Nat):AV->aG:=mC (fun _ _ _ =>False) (fun ih=>vL Q ih) n
theorem aEv (Q:aG):aGt (sub WE [Y,Y,Y]) (PM Q) aY (PM Q)=(fun g s=>yM Q (g 3) (g 0) s):=Eq.trans rfl (by kernel_rfl)
theorem aCd (Q:aG) (kN:Kt):aGt (sub WE [Y,Y,N,N]) kN (cX 0 (fun g s=>yM Q (g 3) (g 0) s) aY) (PM Q)=fun g s=>∃ n,yP Q n (g 0) (g 3) s:=mB (L:=fun n g s=>yP Q n (g 0) (g 3) s) (fun n1=>Eq.trans (aM (dV 1 rfl) rfl) (by kernel_rfl))
def f110 (Q:aG) (t0:AV) (s:St):Prop:=aA (bt .len #[22] [t0] (s.nx+2) (adv s 4)) fun r6=>∃ n,yP Q n t0 r6.1 r6.2
theorem aNs (t0:AV) (s:St) {Q:aG} (h:f110 Q t0 s):dT 110 [t0] s Q:=aH (h:=110) (fn:=Tryz.f110) (c:=sub WE []) (show aGt (sub WE []) (PM Q) aY (PM Q)=_ from (aM (aM (aM (aEv Q) (dV 0 (aCd Q _))) rfl) rfl)) h
abbrev NF:Code:=aJ Tryz.f111
abbrev II:=rK Tryz.f111
abbrev XT:=aK mEv 111 (mEv.kp 111)
def xW (Q:aG) (t6 t7:AV) (s:St):Prop:=aO mEv 110 [t6] (adv s 5) fun t38 s1=>Q (.tup [t38,t7]) s1
def SH (Q:aG) (ih1:AV->AV->AV->AV->aG) (t8 t0 t1 t6 t7:AV) (s:St):Prop:=aA (bn .sub 3 t8 (.int .i64 1)) fun t18=>ih1 t0 t1 t6 t7 t18 (adv s 3)
def vF (Q:aG) (ih1:AV->AV->AV->AV->aG) (t0 t1 t6 t7 t8:AV) (s:St):Prop:=aA (bn .geq 3 t8 (.int .i64 0)) fun t16=>aZ t16
 (aA (bn .shl 159 t7 (.int .u64 32)) fun t20=>aA (cQ 1 t0 t8) fun t23=>aA (ld 1 false t23 (adv s 11)) fun t24=>aA (cv 211 159 t24 (adv s 11)) fun t25=>aA (bn .or 159 t20 t25) fun t26=>aA (bn .quo 159 t26 t1) fun t31=>aA (cv 159 211 t31 (adv s 19)) fun t32=>aA (cQ 1 t6 t8) fun t33=>aA (dU 1 t33 t32 (adv s 19)) fun s1=>aA (bn .rem 159 t26 t1) fun t36=>SH Q ih1 t8 t0 t1 t6 t36 (adv s1 4))
 (xW Q t6 t7 (adv s 2))
def rU (Q:aG) (n:Nat):AV->AV->AV->AV->aG:=mC (fun _ _ _ _ _ _ =>False) (fun ih=>vF Q ih) n
theorem aEl (Q:aG):XT (sub NF [Y,Y,Y,Y]) (II Q) aY (II Q)=(fun g s=>xW Q (g 6) (g 7) s):=Eq.trans rfl (by kernel_rfl)
theorem aAr (Q:aG) (n1:Nat):XT (sub NF [Y,Y,Y,N,Y,N,N,Y,Y]) (mI (fun n g s=>rU Q n (g 0) (g 1) (g 6) (g 7) (g 8) s) 111 n1) (cX 0 (fun g s=>xW Q (g 6) (g 7) s) aY) (II Q)=(fun g s=>SH Q (rU Q n1) (g 8) (g 0) (g 1) (g 6) (g 7) s):=Eq.trans rfl (by kernel_rfl)
theorem aAs (Q:aG) (kN:Kt):XT (sub NF [Y,Y,Y,N,Y,N]) kN (cX 0 (fun g s=>xW Q (g 6) (g 7) s) aY) (II Q)=fun g s=>∃ n,rU Q n (g 0) (g 1) (g 6) (g 7) (g 8) s:=mB (L:=fun n g s=>rU Q n (g 0) (g 1) (g 6) (g 7) (g 8) s) (fun n1=>Eq.trans (aM (aM (aAr Q n1) (dV 1 rfl)) rfl) (by kernel_rfl))
def f111 (Q:aG) (t0 t1:AV) (s:St):Prop:=aA (bt .len #[22] [t0] (s.nx+3) (adv s 6)) fun r10=>aA (mkS Tryz.ty 22 r10.1 r10.1 (s.nx+4) r10.2) fun r11=>aA (bt .len #[22] [t0] (r11.2.nx+2) (adv r11.2 5)) fun r13=>aA (bn .sub 3 r13.1 (.int .i64 1)) fun t14=>∃ n,rU Q n t0 t1 r11.1 (.int .u64 0) t14 r13.2
theorem aIc (t0 t1:AV) (s:St) {Q:aG} (h:f111 Q t0 t1 s):dT 111 [t0,t1] s Q:=aH (h:=111) (fn:=Tryz.f111) (c:=sub NF []) (show XT (sub NF []) (II Q) aY (II Q)=_ from (aM (aM (aM (aM (aEl Q) (aM (dV 0 (aAs Q _)) rfl)) rfl) rfl) rfl)) h
abbrev RH:Code:=aJ Tryz.f112
abbrev IT:=rK Tryz.f112
abbrev VT:=aK mEv 112 (mEv.kp 112)
def DY (Q:aG) (t3:AV) (s:St):Prop:=aA (mF 223 t3 none none none (adv s 3)) fun t17=>aA (cv 161 9 t17 (adv s 3)) fun t18=>Q t18 (adv s 3)
def RK (Q:aG) (ih1:AV->AV->aG) (t4 t0 t3:AV) (s:St):Prop:=aA (bn .sub 3 t4 (.int .i64 1)) fun t8=>ih1 t0 t3 t8 (adv s 3)
def wL (Q:aG) (ih1:AV->AV->aG) (t0 t3 t4:AV) (s:St):Prop:=aA (bn .geq 3 t4 (.int .i64 0)) fun t6=>aZ t6
 (aA (bn .rem 159 t0 (.int .u64 10)) fun t11=>aA (bn .add 159 (.int .u64 48) t11) fun t12=>aA (cv 159 5 t12 (adv s 9)) fun t13=>aA (ixA 9 1 t3 t4) fun t14=>aA (dU 1 t14 t13 (adv s 9)) fun s1=>aA (bn .quo 159 t0 (.int .u64 10)) fun t16=>RK Q ih1 t4 t16 t3 (adv s1 3))
 (DY Q t3 (adv s 2))
def qJ (Q:aG) (n:Nat):AV->AV->aG:=mC (fun _ _ _ _ =>False) (fun ih=>wL Q ih) n
theorem aAi (Q:aG):VT (sub RH [Y,Y,Y]) (IT Q) aY (IT Q)=(fun g s=>DY Q (g 3) s):=Eq.trans rfl (by kernel_rfl)
theorem aAb (Q:aG) (n1:Nat):VT (sub RH [Y,Y,N,Y,N,N,Y,Y]) (mI (fun n g s=>qJ Q n (g 0) (g 3) (g 4) s) 112 n1) (cX 0 (fun g s=>DY Q (g 3) s) aY) (IT Q)=(fun g s=>RK Q (qJ Q n1) (g 4) (g 0) (g 3) s):=Eq.trans rfl (by kernel_rfl)
theorem aFq (Q:aG) (kN:Kt):VT (sub RH [Y,Y,N,Y,N]) kN (cX 0 (fun g s=>DY Q (g 3) s) aY) (IT Q)=fun g s=>∃ n,qJ Q n (g 0) (g 3) (g 4) s:=mB (L:=fun n g s=>qJ Q n (g 0) (g 3) (g 4) s) (fun n1=>Eq.trans (aM (aM (aAb Q n1) (dV 1 rfl)) rfl) (by kernel_rfl))
def f112 (Q:aG) (t0:AV) (s:St):Prop:=aA (zr 223) fun z3=>∃ n,qJ Q n t0 (.ptr (s.nx+1) 0) (.int .i64 8) (adv ((adv s 2).set (s.nx+1) (some (.cells z3.cells 223 true true))) 1)
theorem aIs (t0:AV) (s:St) {Q:aG} (h:f112 Q t0 s):dT 112 [t0] s Q:=aH (h:=112) (fn:=Tryz.f112) (c:=sub RH []) (show VT (sub RH []) (IT Q) aY (IT Q)=_ from (aM (aM (aM (aAi Q) (aM (dV 0 (aFq Q _)) rfl)) rfl) rfl)) h
abbrev aYa:Code:=aJ Tryz.f59
abbrev aJk:=rK Tryz.f59
abbrev bEy:=aK mEv 59 (mEv.kp 59)
def PA (Q:aG) (t3:AV) (s:St):Prop:=aO mEv 113 [t3,(.str [48])] (adv s 3) fun t22 s1=>aA (bn .eql 9 t22 (.str [])) fun t24=>aZ t24
 (Q (.str [48]) (adv s1 3))
 (Q t22 (adv s1 4))
def yS (Q:aG) (ih1:AV->aG) (t0 t3:AV) (s:St):Prop:=aA (bt .len #[22] [t0] (s.nx+1) (adv s 3)) fun r9=>aA (bn .gtr 3 r9.1 (.int .i64 0)) fun t10=>aZ t10
 (aO mEv 111 [t0,(.int .u64 1000000000)] (adv r9.2 7) fun t13 s1=>aA (aS t13 0) fun t14=>aA (aS t13 1) fun t15=>aO mEv 112 [t15] (adv s1 7) fun t17 s2=>aA (bn .add 9 t17 t3) fun t19=>ih1 t14 t19 s2)
 (PA Q t3 r9.2)
def JM (Q:aG) (n:Nat):AV->aG:=mC (fun _ _ _ =>False) (fun ih=>yS Q ih) n
theorem aOr (Q:aG):bEy (sub aYa [Y,Y,Y,Y]) (aJk Q) aY (aJk Q)=(fun g s=>PA Q (g 3) s):=Eq.trans rfl (by kernel_rfl)
theorem aLe (Q:aG) (kN:Kt):bEy (sub aYa [Y,Y,Y,N,N]) kN (cX 0 (fun g s=>PA Q (g 3) s) aY) (aJk Q)=fun g s=>∃ n,JM Q n (g 0) (g 3) s:=mB (L:=fun n g s=>JM Q n (g 0) (g 3) s) (fun n1=>Eq.trans (aM (dV 1 rfl) rfl) (by kernel_rfl))
def f59 (Q:aG) (t0:AV) (s:St):Prop:=aO mEv 110 [t0] (adv s 4) fun t7 s1=>∃ n,JM Q n t7 (.str []) (adv s1 1)
theorem aUl (t0:AV) (s:St) {Q:aG} (h:f59 Q t0 s):dT 59 [t0] s Q:=aH (h:=59) (fn:=Tryz.f59) (c:=sub aYa []) (show bEy (sub aYa []) (aJk Q) aY (aJk Q)=_ from (aM (aM (aM (aM (aOr Q) (dV 0 (aLe Q _))) rfl) rfl) rfl)) h
abbrev bBj:Code:=aJ Tryz.f113
abbrev aZv:=rK Tryz.f113
abbrev bMa:=aK mEv 113 (mEv.kp 113)
def f113 (Q:aG) (t0 t1:AV) (s:St):Prop:=aA (bn .eql 9 t0 (.str [])) fun t8=>Gd (aD t8 false) (adv s 7) (fun k=>k t1 (adv s 7)) fun t10 s1=>Gd (aD t8 false) s1 (fun k=>aA (bn .eql 9 t10 (.str [])) fun v=>k v s1) fun t11 s2=>aA (bC t8 (.bool true) t11) fun t12=>aZ t12
 (Q t0 (adv s2 2))
 (aA (bt .len #[9] [t1] (s2.nx+1) (adv s2 8)) fun r15=>aA (bn .eql 3 r15.1 (.int .i64 1)) fun t16=>Gd (aD t16 true) r15.2 (fun k=>k t1 r15.2) fun t18 s3=>Gd (aD t16 true) s3 (fun k=>aA (QG 9 t18 (.int .i64 0)) fun v=>k v s3) fun t19 s4=>Gd (aD t16 true) s4 (fun k=>aA (bn .lss 5 t19 (.int .u8 128)) fun v=>k v s4) fun t20 s5=>aA (bC t16 t20 (.bool false)) fun t21=>aZ t21
 (aA (QG 9 t1 (.int .i64 0)) fun t24=>aO mEv 159 [t0,t24] (adv s5 5) fun t25 s6=>Q t25 s6)
 (aO mEv 160 [t1] (adv s5 8) fun t28 s7=>aA (aS t28 0) fun t29=>aA (aS t28 1) fun t30=>aA (zr 226) fun z5=>aA (dU 256 (.ptr (s5.nx+5) 0) t29 (s7.set (s5.nx+5) (some (.cells z5.cells 226 true true)))) fun s8=>aZ t30
 (aL mEv 161 [t0,(.ptr (s5.nx+5) 0)] (adv s8 4) fun t33 s9=>Q t33 s9)
 (aO mEv 162 [t0,t1] (adv s8 5) fun t36 s10=>Q t36 s10)))
theorem aMq (t0 t1:AV) (s:St) {Q:aG} (h:f113 Q t0 t1 s):dT 113 [t0,t1] s Q:=aH (h:=113) (fn:=Tryz.f113) (c:=sub bBj []) (show bMa (sub bBj []) (aZv Q) aY (aZv Q)=_ from rfl) h
abbrev YL:Code:=aJ Tryz.f159
abbrev ON:=rK Tryz.f159
abbrev aQf:=aK mEv 159 (mEv.kp 159)
def EU (Q:aG) (t0:AV) (s:St):Prop:=Q t0 (adv s 2)
def vC (Q:aG) (ih1:AV->aG) (t0 t1:AV) (s:St):Prop:=aA (bt .len #[9] [t0] (s.nx+1) (adv s 9)) fun r6=>aA (bn .gtr 3 r6.1 (.int .i64 0)) fun t7=>Gd (aD t7 true) r6.2 (fun k=>k t0 r6.2) fun t9 s1=>Gd (aD t7 true) s1 (fun k=>aA (QG 9 t9 (.int .i64 0)) fun v=>k v s1) fun t10 s2=>Gd (aD t7 true) s2 (fun k=>k t1 s2) fun t11 s3=>Gd (aD t7 true) s3 (fun k=>aA (bn .eql 5 t10 t11) fun v=>k v s3) fun t12 s4=>aA (bC t7 t12 (.bool false)) fun t13=>aZ t13
 (aA (mF 9 t0 (some (.int .i64 1)) none none (adv s4 3)) fun t15=>ih1 t15 t1 (adv s4 3))
 (EU Q t0 s4)
def yG (Q:aG) (n:Nat):AV->aG:=mC (fun _ _ _ =>False) (fun ih=>vC Q ih) n
theorem aDz (Q:aG):aQf (sub YL [Y,Y]) (ON Q) aY (ON Q)=(fun g s=>EU Q (g 0) s):=Eq.trans rfl (by kernel_rfl)
theorem aEb (Q:aG) (kN:Kt):aQf (sub YL [Y,N,N]) kN (cX 0 (fun g s=>EU Q (g 0) s) aY) (ON Q)=fun g s=>∃ n,yG Q n (g 0) (g 1) s:=mB (L:=fun n g s=>yG Q n (g 0) (g 1) s) (fun n1=>Eq.trans (aM (dV 1 rfl) rfl) (by kernel_rfl))
def f159 (Q:aG) (t0 t1:AV) (s:St):Prop:=∃ n,yG Q n t0 t1 (adv s 1)
theorem aHd (t0 t1:AV) (s:St) {Q:aG} (h:f159 Q t0 t1 s):dT 159 [t0,t1] s Q:=aH (h:=159) (fn:=Tryz.f159) (c:=sub YL []) (show aQf (sub YL []) (ON Q) aY (ON Q)=_ from (aM (aM (aDz Q) (dV 0 (aEb Q _))) rfl)) h
abbrev NT:Code:=aJ Tryz.f127
abbrev IF:=rK Tryz.f127
abbrev WN:=aK mEv 127 (mEv.kp 127)
def DV (Q:aG) (t4:AV) (s:St):Prop:=aO mEv 110 [t4] (adv s 4) fun t46 s1=>Q (.tup [t46,(.int .i64 0)]) s1
def RW (Q:aG) (ih1:AV->AV->AV->aG) (t26 t4 t24 t25:AV) (s:St):Prop:=aA (bn .add 3 t26 (.int .i64 1)) fun t44=>ih1 t4 t24 t25 t44 (adv s 2)
def oY (Q:aG) (ih1:AV->AV->AV->aG) (t4 t24 t25 t26:AV) (s:St):Prop:=aA (bn .lss 3 t26 t25) fun t27=>aZ t27
 (aA (cQ 1 t24 t26) fun t28=>aA (ld 1 false t28 (adv s 4)) fun t29=>aA (bn .lss 5 t29 (.int .u8 48)) fun t31=>Gd (aD t31 false) (adv s 10) (fun k=>k t29 (adv s 10)) fun t33 s1=>Gd (aD t31 false) s1 (fun k=>aA (bn .gtr 5 t33 (.int .u8 57)) fun v=>k v s1) fun t34 s2=>aA (bC t31 (.bool true) t34) fun t35=>aZ t35
 (Q (.tup [.nils,(.int .i64 8)]) (adv s2 2))
 (aA (kM 22 1 [(0,(.int .u32 10))]) fun t37=>aO mEv 180 [t4,t37] (adv s2 9) fun t38 s3=>aA (bn .sub 5 t29 (.int .u8 48)) fun t40=>aA (cv 5 211 t40 s3) fun t41=>aA (kM 22 1 [(0,t41)]) fun t42=>aO mEv 179 [t38,t42] s3 fun t43 s4=>RW Q ih1 t26 t43 t24 t25 s4))
 (DV Q t4 (adv s 1))
def pB (Q:aG) (n:Nat):AV->AV->AV->aG:=mC (fun _ _ _ _ _ =>False) (fun ih=>oY Q ih) n
theorem aBm (Q:aG):WN (sub NT [Y,Y,Y,Y]) (IF Q) aY (IF Q)=(fun g s=>DV Q (g 4) s):=Eq.trans rfl (by kernel_rfl)
theorem aBk (Q:aG) (n1:Nat):WN (sub NT [Y,Y,Y,N,Y,N,N,Y,Y,Y]) (mI (fun n g s=>pB Q n (g 4) (g 24) (g 25) (g 26) s) 127 n1) (cX 0 (fun g s=>DV Q (g 4) s) aY) (IF Q)=(fun g s=>RW Q (pB Q n1) (g 26) (g 4) (g 24) (g 25) s):=Eq.trans rfl (by kernel_rfl)
theorem aCj (Q:aG) (kN:Kt):WN (sub NT [Y,Y,Y,N,Y,N]) kN (cX 0 (fun g s=>DV Q (g 4) s) aY) (IF Q)=fun g s=>∃ n,pB Q n (g 4) (g 24) (g 25) (g 26) s:=mB (L:=fun n g s=>pB Q n (g 4) (g 24) (g 25) (g 26) s) (fun n1=>Eq.trans (aM (aM (aM (aBk Q n1) (dV 1 rfl)) rfl) rfl) (by kernel_rfl))
def f127 (Q:aG) (t0:AV) (s:St):Prop:=aA (bn .eql 9 t0 (.str [])) fun t8=>Gd (aD t8 false) (adv s 18) (fun k=>k t0 (adv s 18)) fun t10 s1=>Gd (aD t8 false) s1 (fun k=>aA (bt .len #[9] [t10] (s.nx+6) s1) fun r=>k r.1 r.2) fun t11 s2=>Gd (aD t8 false) s2 (fun k=>aA (bn .gtr 3 t11 (.int .i64 2000)) fun v=>k v s2) fun t12 s3=>aA (bC t8 (.bool true) t12) fun t13=>Gd (aD t13 false) s3 (fun k=>k t0 s3) fun t15 s4=>Gd (aD t13 false) s4 (fun k=>aA (QG 9 t15 (.int .i64 0)) fun v=>k v s4) fun t16 s5=>Gd (aD t13 false) s5 (fun k=>aA (bn .eql 5 t16 (.int .u8 48)) fun v=>k v s5) fun t17 s6=>Gd (aD t13 false) s6 (fun k=>k t17 s6) fun t18 s7=>Gd (aD t18 true) s7 (fun k=>k t0 s7) fun t19 s8=>Gd (aD t18 true) s8 (fun k=>aA (bn .neq 9 t19 (.str [48])) fun v=>k v s8) fun t20 s9=>Gd (aD t13 false) s9 (fun k=>aA (bC t18 t20 (.bool false)) fun v=>k v s9) fun t21 s10=>aA (bC t13 (.bool true) t21) fun t22=>aZ t22
 (Q (.tup [.nils,(.int .i64 8)]) (adv s10 2))
 (aA (cv 9 161 t0 (adv s10 5)) fun t24=>aA (bt .len #[161] [t24] (s10.nx+3) (adv s10 5)) fun r25=>∃ n,pB Q n .nils t24 r25.1 (.int .i64 0) r25.2)
theorem OL (t0:AV) (s:St) {Q:aG} (h:f127 Q t0 s):dT 127 [t0] s Q:=aH (h:=127) (fn:=Tryz.f127) (c:=sub NT []) (show WN (sub NT []) (IF Q) aY (IF Q)=_ from (aM (aM (aM (aM (aBm Q) (aM (dV 0 (aCj Q _)) rfl)) rfl) rfl) rfl)) h
abbrev bCx:Code:=aJ Tryz.f214
abbrev bDa:=rK Tryz.f214
abbrev bIg:=aK mEv 214 (mEv.kp 214)
def f214 (Q:aG) (t0 t1:AV) (s:St):Prop:=aA (bt .len #[22] [t0] (s.nx+3) (adv s 5)) fun r7=>aA (bn .geq 3 t1 r7.1) fun t8=>aZ t8
 (Q (.int .u64 0) (adv r7.2 1))
 (aA (cQ 1 t0 t1) fun t11=>aA (ld 1 false t11 (adv r7.2 6)) fun t12=>aA (cv 211 159 t12 (adv r7.2 6)) fun t13=>Q t13 (adv r7.2 6))
theorem aPb (t0 t1:AV) (s:St) {Q:aG} (h:f214 Q t0 t1 s):dT 214 [t0,t1] s Q:=aH (h:=214) (fn:=Tryz.f214) (c:=sub bCx []) (show bIg (sub bCx []) (bDa Q) aY (bDa Q)=_ from rfl) h
abbrev PN:Code:=aJ Tryz.f179
abbrev IU:=rK Tryz.f179
abbrev WR:=aK mEv 179 (mEv.kp 179)
def xQ (Q:aG) (t6:AV) (s:St):Prop:=aO mEv 110 [t6] (adv s 3) fun t39 s1=>Q t39 s1
def RR (Q:aG) (ih1:AV->AV->AV->AV->AV->aG) (t18 t0 t1 t6 t7 t17:AV) (s:St):Prop:=aA (bn .add 3 t18 (.int .i64 1)) fun t37=>ih1 t0 t1 t6 t7 t17 t37 (adv s 2)
def vU (Q:aG) (ih1:AV->AV->AV->AV->AV->aG) (t0 t1 t6 t7 t17 t18:AV) (s:St):Prop:=aA (bn .lss 3 t18 t17) fun t19=>aZ t19
 (aO mEv 214 [t0,t18] (adv s 13) fun t24 s1=>aO mEv 214 [t1,t18] s1 fun t27 s2=>aA (bn .add 159 t24 t27) fun t28=>aA (bn .add 159 t7 t28) fun t29=>aA (cv 159 211 t29 (adv s2 6)) fun t33=>aA (cQ 1 t6 t18) fun t34=>aA (dU 1 t34 t33 (adv s2 6)) fun s3=>aA (bn .shr 159 t29 (.int .u64 32)) fun t36=>RR Q ih1 t18 t0 t1 t6 t36 t17 (adv s3 3))
 (xQ Q t6 (adv s 1))
def rI (Q:aG) (n:Nat):AV->AV->AV->AV->AV->aG:=mC (fun _ _ _ _ _ _ _ =>False) (fun ih=>vU Q ih) n
theorem aFj (Q:aG):WR (sub PN [Y,Y,Y,Y,Y]) (IU Q) aY (IU Q)=(fun g s=>xQ Q (g 6) s):=Eq.trans rfl (by kernel_rfl)
theorem aFs (Q:aG) (n1:Nat):WR (sub PN [Y,Y,Y,Y,N,Y,N,N,Y,Y,Y]) (mI (fun n g s=>rI Q n (g 0) (g 1) (g 6) (g 7) (g 17) (g 18) s) 179 n1) (cX 0 (fun g s=>xQ Q (g 6) s) aY) (IU Q)=(fun g s=>RR Q (rI Q n1) (g 18) (g 0) (g 1) (g 6) (g 7) (g 17) s):=Eq.trans rfl (by kernel_rfl)
theorem aDv (Q:aG) (kN:Kt):WR (sub PN [Y,Y,Y,Y,N,Y,N]) kN (cX 0 (fun g s=>xQ Q (g 6) s) aY) (IU Q)=fun g s=>∃ n,rI Q n (g 0) (g 1) (g 6) (g 7) (g 17) (g 18) s:=mB (L:=fun n g s=>rI Q n (g 0) (g 1) (g 6) (g 7) (g 17) (g 18) s) (fun n1=>Eq.trans (aM (aM (aM (aFs Q n1) (dV 1 rfl)) rfl) rfl) (by kernel_rfl))
def f179 (Q:aG) (t0 t1:AV) (s:St):Prop:=aA (bt .len #[22] [t0] (s.nx+2) (adv s 8)) fun r10=>aA (bt .len #[22] [t1] (s.nx+4) r10.2) fun r12=>aA (bt .max #[3,3] [r10.1,r12.1] (s.nx+5) r12.2) fun r13=>aA (bn .add 3 r13.1 (.int .i64 1)) fun t14=>aA (mkS Tryz.ty 22 t14 t14 (r13.2.nx+1) (adv r13.2 3)) fun r16=>∃ n,rI Q n t0 t1 r16.1 (.int .u64 0) t14 (.int .i64 0) (adv r16.2 3)
theorem aKu (t0 t1:AV) (s:St) {Q:aG} (h:f179 Q t0 t1 s):dT 179 [t0,t1] s Q:=aH (h:=179) (fn:=Tryz.f179) (c:=sub PN []) (show WR (sub PN []) (IU Q) aY (IU Q)=_ from (aM (aM (aM (aM (aM (aFj Q) (aM (dV 0 (aDv Q _)) rfl)) rfl) rfl) rfl) rfl)) h
abbrev zZ:Code:=aJ Tryz.f180
abbrev vQ:=rK Tryz.f180
abbrev CT:=aK mEv 180 (mEv.kp 180)
def oM (Q:aG) (t5:AV) (s:St):Prop:=aO mEv 110 [t5] (adv s 3) fun t66 s1=>Q t66 s1
def qP (Q:aG) (ih1:AV->AV->AV->AV->aG) (t18 t1 t5 t16 t17:AV) (s:St):Prop:=aA (bn .add 3 t18 (.int .i64 1)) fun t64=>ih1 t1 t5 t16 t17 t64 (adv s 2)
def CH (Q:aG) (ih1:AV->AV->AV->AV->aG) (t5 t6 t1 t8 t18 t16 t17:AV) (s:St):Prop:=aA (bt .len #[22] [t1] (s.nx+3) (adv s 9)) fun r59=>aA (bn .add 3 t6 r59.1) fun t60=>aA (cv 159 211 t8 r59.2) fun t62=>aA (cQ 1 t5 t60) fun t63=>aA (dU 1 t63 t62 r59.2) fun s1=>qP Q ih1 t18 t1 t5 t16 t17 s1
def SU (Q:aG) (ih1:AV->AV->AV->AV->aG) (ih2:AV->AV->AV->AV->AV->AV->AV->AV->AV->aG) (t25 t1 t5 t6 t7 t8 t16 t17 t18 t24:AV) (s:St):Prop:=aA (bn .add 3 t25 (.int .i64 1)) fun t55=>ih2 t1 t5 t6 t7 t8 t16 t17 t18 t24 t55 (adv s 2)
def vP (Q:aG) (ih1:AV->AV->AV->AV->aG) (ih2:AV->AV->AV->AV->AV->AV->AV->AV->AV->aG) (t1 t5 t6 t7 t8 t16 t17 t18 t24 t25:AV) (s:St):Prop:=aA (bn .lss 3 t25 t24) fun t26=>aZ t26
 (aA (cv 211 159 t7 (adv s 22)) fun t30=>aA (cQ 1 t1 t25) fun t33=>aA (ld 1 false t33 (adv s 22)) fun t34=>aA (cv 211 159 t34 (adv s 22)) fun t35=>aA (bn .mul 159 t30 t35) fun t36=>aA (bn .add 3 t6 t25) fun t40=>aA (cQ 1 t5 t40) fun t41=>aA (ld 1 false t41 (adv s 22)) fun t42=>aA (cv 211 159 t42 (adv s 22)) fun t43=>aA (bn .add 159 t36 t43) fun t44=>aA (bn .add 159 t8 t44) fun t45=>aA (bn .add 3 t6 t25) fun t49=>aA (cv 159 211 t45 (adv s 30)) fun t51=>aA (cQ 1 t5 t49) fun t52=>aA (dU 1 t52 t51 (adv s 30)) fun s1=>aA (bn .shr 159 t45 (.int .u64 32)) fun t54=>SU Q ih1 ih2 t25 t1 t5 t6 t7 t54 t16 t17 t18 t24 (adv s1 3))
 (CH Q ih1 t5 t6 t1 t8 t18 t16 t17 (adv s 1))
def qX (Q:aG) (ih1:AV->AV->AV->AV->aG) (n:Nat):AV->AV->AV->AV->AV->AV->AV->AV->AV->aG:=mC (fun _ _ _ _ _ _ _ _ _ _ _ =>False) (fun ih=>vP Q ih1 ih) n
def wP (Q:aG) (ih1:AV->AV->AV->AV->aG) (t1 t5 t16 t17 t18:AV) (s:St):Prop:=aA (bn .lss 3 t18 t17) fun t19=>aZ t19
 (aA (cQ 1 t16 t18) fun t21=>aA (ld 1 false t21 (adv s 6)) fun t22=>aA (bt .len #[22] [t1] (s.nx+8) (adv s 10)) fun r24=>∃ n,qX Q ih1 n t1 t5 t18 t22 (.int .u64 0) t16 t17 t18 r24.1 (.int .i64 0) r24.2)
 (oM Q t5 (adv s 1))
def eQ (Q:aG) (n:Nat):AV->AV->AV->AV->aG:=mC (fun _ _ _ _ _ _ =>False) (fun ih=>wP Q ih) n
theorem aDj (Q:aG):CT (sub zZ [Y,Y,Y]) (vQ Q) aY (vQ Q)=(fun g s=>oM Q (g 5) s):=Eq.trans rfl (by kernel_rfl)
theorem aCt (Q:aG) (n1:Nat):CT (sub zZ [Y,Y,N,Y,N,N,Y,Y,Y]) (mI (fun n g s=>eQ Q n (g 1) (g 5) (g 16) (g 17) (g 18) s) 180 n1) (cX 0 (fun g s=>oM Q (g 5) s) aY) (vQ Q)=(fun g s=>qP Q (eQ Q n1) (g 18) (g 1) (g 5) (g 16) (g 17) s):=Eq.trans rfl (by kernel_rfl)
theorem aDb (Q:aG) (n1:Nat):CT (sub zZ [Y,Y,N,Y,N,N,Y,Y,N,N,Y,Y,Y]) (fun g s=>qP Q (eQ Q n1) (g 18) (g 1) (g 5) (g 16) (g 17) s) (cX 1 (fun g s=>qP Q (eQ Q n1) (g 18) (g 1) (g 5) (g 16) (g 17) s) (cX 0 (fun g s=>oM Q (g 5) s) aY)) (vQ Q)=(fun g s=>CH Q (eQ Q n1) (g 5) (g 6) (g 1) (g 8) (g 18) (g 16) (g 17) s):=Eq.trans rfl (by kernel_rfl)
theorem aEx (Q:aG) (n1:Nat) (n2:Nat):CT (sub zZ [Y,Y,N,Y,N,N,Y,Y,N,N,Y,Y,N,Y,N,N,Y,Y,Y]) (mI (fun n g s=>qX Q (eQ Q n1) n (g 1) (g 5) (g 6) (g 7) (g 8) (g 16) (g 17) (g 18) (g 24) (g 25) s) 180 n2) (cX 2 (fun g s=>CH Q (eQ Q n1) (g 5) (g 6) (g 1) (g 8) (g 18) (g 16) (g 17) s) (cX 1 (fun g s=>qP Q (eQ Q n1) (g 18) (g 1) (g 5) (g 16) (g 17) s) (cX 0 (fun g s=>oM Q (g 5) s) aY))) (vQ Q)=(fun g s=>SU Q (eQ Q n1) (qX Q (eQ Q n1) n2) (g 25) (g 1) (g 5) (g 6) (g 7) (g 8) (g 16) (g 17) (g 18) (g 24) s):=Eq.trans rfl (by kernel_rfl)
theorem ZR (Q:aG) (n1:Nat) (kN:Kt):CT (sub zZ [Y,Y,N,Y,N,N,Y,Y,N,N,Y,Y,N,Y,N]) kN (cX 2 (fun g s=>CH Q (eQ Q n1) (g 5) (g 6) (g 1) (g 8) (g 18) (g 16) (g 17) s) (cX 1 (fun g s=>qP Q (eQ Q n1) (g 18) (g 1) (g 5) (g 16) (g 17) s) (cX 0 (fun g s=>oM Q (g 5) s) aY))) (vQ Q)=fun g s=>∃ n,qX Q (eQ Q n1) n (g 1) (g 5) (g 6) (g 7) (g 8) (g 16) (g 17) (g 18) (g 24) (g 25) s:=mB (L:=fun n g s=>qX Q (eQ Q n1) n (g 1) (g 5) (g 6) (g 7) (g 8) (g 16) (g 17) (g 18) (g 24) (g 25) s) (fun n2=>Eq.trans (aM (aM (aM (aEx Q n1 n2) (dV 3 rfl)) rfl) rfl) (by kernel_rfl))
theorem aDu (Q:aG) (kN:Kt):CT (sub zZ [Y,Y,N,Y,N]) kN (cX 0 (fun g s=>oM Q (g 5) s) aY) (vQ Q)=fun g s=>∃ n,eQ Q n (g 1) (g 5) (g 16) (g 17) (g 18) s:=mB (L:=fun n g s=>eQ Q n (g 1) (g 5) (g 16) (g 17) (g 18) s) (fun n1=>Eq.trans (aM (aM (aM (aCt Q n1) (dV 1 (aM (aM (aM (aDb Q n1) (aM (dV 2 (ZR Q n1 _)) rfl)) rfl) rfl))) rfl) rfl) (by kernel_rfl))
def f180 (Q:aG) (t0 t1:AV) (s:St):Prop:=aA (bt .len #[22] [t0] (s.nx+2) (adv s 8)) fun r11=>aA (bt .len #[22] [t1] (s.nx+4) r11.2) fun r13=>aA (bn .add 3 r11.1 r13.1) fun t14=>aA (mkS Tryz.ty 22 t14 t14 (s.nx+6) r13.2) fun r15=>aA (bt .len #[22] [t0] (r15.2.nx+1) (adv r15.2 3)) fun r17=>∃ n,eQ Q n t1 r15.1 t0 r17.1 (.int .i64 0) r17.2
theorem aPk (t0 t1:AV) (s:St) {Q:aG} (h:f180 Q t0 t1 s):dT 180 [t0,t1] s Q:=aH (h:=180) (fn:=Tryz.f180) (c:=sub zZ []) (show CT (sub zZ []) (vQ Q) aY (vQ Q)=_ from (aM (aM (aM (aDj Q) (aM (dV 0 (aDu Q _)) rfl)) rfl) rfl)) h
end
noncomputable section
set_option maxRecDepth 1000000
abbrev PU:Code:=aJ Tryz.f217
abbrev GS:=rK Tryz.f217
abbrev ZC:=aK mEv 217 (mEv.kp 217)
def DH (Q:aG) (t0 t3:AV) (s:St):Prop:=aA (bn .eql 9 t0 (.str [])) fun t23=>Gd (aD t23 false) (adv s 6) (fun k=>k t3 (adv s 6)) fun t25 s1=>Gd (aD t23 false) s1 (fun k=>aA (bn .gtr 3 t25 (.int .i64 196607)) fun v=>k v s1) fun t26 s2=>aA (bC t23 (.bool true) t26) fun t27=>aZ t27
 (Q (.int .i64 (-1)) (adv s2 1))
 (Q t3 (adv s2 2))
def RZ (Q:aG) (ih1:AV->AV->AV->aG) (t8 t0 t3 t7:AV) (s:St):Prop:=aA (bn .add 3 t8 (.int .i64 1)) fun t21=>ih1 t0 t3 t7 t21 (adv s 2)
def vJ (Q:aG) (ih1:AV->AV->AV->aG) (t0 t3 t7 t8:AV) (s:St):Prop:=aA (bn .lss 3 t8 t7) fun t9=>aZ t9
 (aA (QG 9 t0 t8) fun t13=>aO mEv 246 [t13] (adv s 8) fun t14 s1=>aA (bn .lss 3 t14 (.int .i64 0)) fun t16=>aZ t16
 (Q (.int .i64 (-1)) (adv s1 3))
 (aA (bn .mul 3 (.int .i64 16) t3) fun t18=>aA (bn .add 3 t18 t14) fun t20=>RZ Q ih1 t8 t0 t20 t7 (adv s1 7)))
 (DH Q t0 t3 (adv s 1))
def rF (Q:aG) (n:Nat):AV->AV->AV->aG:=mC (fun _ _ _ _ _ =>False) (fun ih=>vJ Q ih) n
theorem aEs (Q:aG):ZC (sub PU [Y,Y,Y]) (GS Q) aY (GS Q)=(fun g s=>DH Q (g 0) (g 3) s):=Eq.trans rfl (by kernel_rfl)
theorem aCv (Q:aG) (n1:Nat):ZC (sub PU [Y,Y,N,Y,N,N,Y,Y,Y]) (mI (fun n g s=>rF Q n (g 0) (g 3) (g 7) (g 8) s) 217 n1) (cX 0 (fun g s=>DH Q (g 0) (g 3) s) aY) (GS Q)=(fun g s=>RZ Q (rF Q n1) (g 8) (g 0) (g 3) (g 7) s):=Eq.trans rfl (by kernel_rfl)
theorem aAx (Q:aG) (kN:Kt):ZC (sub PU [Y,Y,N,Y,N]) kN (cX 0 (fun g s=>DH Q (g 0) (g 3) s) aY) (GS Q)=fun g s=>∃ n,rF Q n (g 0) (g 3) (g 7) (g 8) s:=mB (L:=fun n g s=>rF Q n (g 0) (g 3) (g 7) (g 8) s) (fun n1=>Eq.trans (aM (aM (aM (aCv Q n1) (dV 1 rfl)) rfl) rfl) (by kernel_rfl))
def f217 (Q:aG) (t0:AV) (s:St):Prop:=aA (bt .len #[9] [t0] (s.nx+3) (adv s 5)) fun r7=>∃ n,rF Q n t0 (.int .i64 0) r7.1 (.int .i64 0) r7.2
theorem aJz (t0:AV) (s:St) {Q:aG} (h:f217 Q t0 s):dT 217 [t0] s Q:=aH (h:=217) (fn:=Tryz.f217) (c:=sub PU []) (show ZC (sub PU []) (GS Q) aY (GS Q)=_ from (aM (aM (aM (aEs Q) (aM (dV 0 (aAx Q _)) rfl)) rfl) rfl)) h
abbrev bCv:Code:=aJ Tryz.f244
abbrev bCi:=rK Tryz.f244
abbrev bJa:=aK mEv 244 (mEv.kp 244)
def f244 (Q:aG) (t0 t1:AV) (s:St):Prop:=aO mEv 123 [t0,t1] (adv s 6) fun t8 s1=>aA (un .not t8) fun t9=>aZ t9
 (Q (.tup [t0,(.bool false)]) (adv s1 3))
 (aA (bt .len #[9] [t1] (s1.nx+2) (adv s1 6)) fun r13=>aA (mF 9 t0 (some r13.1) none none r13.2) fun t14=>Q (.tup [t14,(.bool true)]) r13.2)
theorem aKv (t0 t1:AV) (s:St) {Q:aG} (h:f244 Q t0 t1 s):dT 244 [t0,t1] s Q:=aH (h:=244) (fn:=Tryz.f244) (c:=sub bCv []) (show bJa (sub bCv []) (bCi Q) aY (bCi Q)=_ from rfl) h
abbrev bBv:Code:=aJ Tryz.f215
abbrev aZe:=rK Tryz.f215
abbrev bIp:=aK mEv 215 (mEv.kp 215)
def f215 (Q:aG) (t0 t1:AV) (s:St):Prop:=aO mEv 244 [t0,t1] (adv s 9) fun t8 s1=>aA (aS t8 0) fun t9=>aA (aS t8 1) fun t10=>Q (.tup [t9,t10]) s1
theorem aLr (t0 t1:AV) (s:St) {Q:aG} (h:f215 Q t0 t1 s):dT 215 [t0,t1] s Q:=aH (h:=215) (fn:=Tryz.f215) (c:=sub bBv []) (show bIp (sub bBv []) (aZe Q) aY (aZe Q)=_ from rfl) h
abbrev bBg:Code:=aJ Tryz.f245
abbrev bAm:=rK Tryz.f245
abbrev bJy:=aK mEv 245 (mEv.kp 245)
def f245 (Q:aG) (t0 t1:AV) (s:St):Prop:=aO mEv 268 [t0,t1] (adv s 7) fun t10 s1=>aA (bn .geq 3 t10 (.int .i64 0)) fun t12=>aZ t12
 (aA (mF 9 t0 none (some t10) none (adv s1 14)) fun t15=>aA (bt .len #[9] [t1] (s1.nx+8) (adv s1 14)) fun r19=>aA (bn .add 3 t10 r19.1) fun t20=>aA (mF 9 t0 (some t20) none none r19.2) fun t21=>Q (.tup [t15,t21,(.bool true)]) r19.2)
 (Q (.tup [t0,(.str []),(.bool false)]) (adv s1 6))
theorem aIt (t0 t1:AV) (s:St) {Q:aG} (h:f245 Q t0 t1 s):dT 245 [t0,t1] s Q:=aH (h:=245) (fn:=Tryz.f245) (c:=sub bBg []) (show bJy (sub bBg []) (bAm Q) aY (bAm Q)=_ from rfl) h
abbrev aYw:Code:=aJ Tryz.f216
abbrev bAa:=rK Tryz.f216
abbrev bNr:=aK mEv 216 (mEv.kp 216)
def f216 (Q:aG) (t0 t1:AV) (s:St):Prop:=aO mEv 245 [t0,t1] (adv s 12) fun t9 s1=>aA (aS t9 0) fun t10=>aA (aS t9 1) fun t11=>aA (aS t9 2) fun t12=>Q (.tup [t10,t11,t12]) s1
theorem aPt (t0 t1:AV) (s:St) {Q:aG} (h:f216 Q t0 t1 s):dT 216 [t0,t1] s Q:=aH (h:=216) (fn:=Tryz.f216) (c:=sub aYw []) (show bNr (sub aYw []) (bAa Q) aY (bAa Q)=_ from rfl) h
abbrev HH:Code:=aJ Tryz.f268
abbrev zW:=rK Tryz.f268
abbrev QJ:=aK mEv 268 (mEv.kp 268)
def JZ (Q:aG) (s:St):Prop:=Q (.int .i64 (-1)) (adv s 1)
def RN (Q:aG) (ih1:AV->AV->AV->AV->AV->AV->AV->aG) (t0 t8 t7 t5 t1 t10 t9 t6:AV) (s:St):Prop:=aA (bn .add 3 t8 (.int .i64 1)) fun t80=>aA (QG 9 t0 t80) fun t81=>aA (bn .eql 5 t81 t7) fun t83=>Gd (aD t83 true) (adv s 16) (fun k=>k t0 (adv s 16)) fun t85 s1=>Gd (aD t83 true) s1 (fun k=>k t8 s1) fun t86 s2=>Gd (aD t83 true) s2 (fun k=>k t8 s2) fun t87 s3=>Gd (aD t83 true) s3 (fun k=>k t5 s3) fun t88 s4=>Gd (aD t83 true) s4 (fun k=>aA (bn .add 3 t87 t88) fun v=>k v s4) fun t89 s5=>Gd (aD t83 true) s5 (fun k=>aA (mF 9 t85 (some t86) (some t89) none s5) fun v=>k v s5) fun t90 s6=>Gd (aD t83 true) s6 (fun k=>k t1 s6) fun t91 s7=>Gd (aD t83 true) s7 (fun k=>aA (bn .eql 9 t90 t91) fun v=>k v s7) fun t92 s8=>aA (bC t83 t92 (.bool false)) fun t93=>aZ t93
 (Q t8 (adv s8 2))
 (aA (bn .add 3 t8 (.int .i64 1)) fun t96=>aA (bn .add 3 t10 (.int .i64 1)) fun t98=>aA (ld 1 false (gl 4) (adv s8 15)) fun t100=>aA (bn .leq 3 t5 t100) fun t101=>Gd (aD t101 true) (adv s8 15) (fun k=>k t98 (adv s8 15)) fun t103 s9=>Gd (aD t101 true) s9 (fun k=>k t96 s9) fun t104 s10=>Gd (aD t101 true) s10 (fun k=>aO mEv 261 [t104] s10 k) fun t105 s11=>Gd (aD t101 true) s11 (fun k=>aA (bn .gtr 3 t103 t105) fun v=>k v s11) fun t106 s12=>aA (bC t101 t106 (.bool false)) fun t107=>aZ t107
 (aA (mF 9 t0 (some t96) none none (adv s12 6)) fun t110=>aO mEv 262 [t110,t1] (adv s12 6) fun t112 s13=>aA (bn .geq 3 t112 (.int .i64 0)) fun t114=>aZ t114
 (aA (bn .add 3 t112 t96) fun t117=>Q t117 (adv s13 6))
 (Q (.int .i64 (-1)) (adv s13 3)))
 (aA (ld 1 false (gl 4) (adv s12 15)) fun t119=>aA (bn .gtr 3 t5 t119) fun t120=>Gd (aD t120 true) (adv s12 15) (fun k=>k t98 (adv s12 15)) fun t122 s14=>Gd (aD t120 true) s14 (fun k=>k t96 s14) fun t123 s15=>Gd (aD t120 true) s15 (fun k=>aA (bn .shr 3 t123 (.int .u64 4)) fun v=>k v s15) fun t124 s16=>Gd (aD t120 true) s16 (fun k=>aA (bn .add 3 (.int .i64 4) t124) fun v=>k v s16) fun t125 s17=>Gd (aD t120 true) s17 (fun k=>aA (bn .geq 3 t122 t125) fun v=>k v s17) fun t126 s18=>aA (bC t120 t126 (.bool false)) fun t127=>Gd (aD t127 true) s18 (fun k=>k t96 s18) fun t129 s19=>Gd (aD t127 true) s19 (fun k=>k t9 s19) fun t130 s20=>Gd (aD t127 true) s20 (fun k=>aA (bn .lss 3 t129 t130) fun v=>k v s20) fun t131 s21=>aA (bC t127 t131 (.bool false)) fun t132=>aZ t132
 (aA (mF 9 t0 (some t96) none none (adv s21 6)) fun t135=>aO mEv 284 [t135,t1] (adv s21 6) fun t137 s22=>aA (bn .lss 3 t137 (.int .i64 0)) fun t139=>aZ t139
 (Q (.int .i64 (-1)) (adv s22 3))
 (aA (bn .add 3 t96 t137) fun t142=>Q t142 (adv s22 6)))
 (ih1 t0 t1 t5 t6 t7 t96 t9 t98 s21)))
def aVq (Q:aG) (ih1:AV->AV->AV->AV->AV->AV->AV->aG) (t0 t1 t5 t6 t7 t8 t9 t10:AV) (s:St):Prop:=aA (bn .lss 3 t8 t9) fun t59=>aZ t59
 (aA (QG 9 t0 t8) fun t62=>aA (bn .neq 5 t62 t6) fun t64=>aZ t64
 (aA (bn .add 3 t8 (.int .i64 1)) fun t67=>aA (mF 9 t0 (some t67) (some t9) none (adv s 16)) fun t69=>aO mEv 269 [t69,t6] (adv s 16) fun t71 s1=>aA (bn .lss 3 t71 (.int .i64 0)) fun t73=>aZ t73
 (Q (.int .i64 (-1)) (adv s1 3))
 (aA (bn .add 3 t71 (.int .i64 1)) fun t76=>aA (bn .add 3 t8 t76) fun t77=>RN Q ih1 t0 t77 t7 t5 t1 t10 t9 t6 (adv s1 7)))
 (RN Q ih1 t0 t8 t7 t5 t1 t10 t9 t6 (adv s 8)))
 (JZ Q (adv s 3))
def yO (Q:aG) (n:Nat):AV->AV->AV->AV->AV->AV->AV->aG:=mC (fun _ _ _ _ _ _ _ _ _ =>False) (fun ih=>aVq Q ih) n
def aHm (Q:aG) (t1 t0 t5:AV) (s:St):Prop:=aA (QG 9 t1 (.int .i64 0)) fun t49=>aA (QG 9 t1 (.int .i64 1)) fun t51=>aA (bt .len #[9] [t0] (s.nx+8) (adv s 13)) fun r53=>aA (bn .sub 3 r53.1 t5) fun t55=>aA (bn .add 3 t55 (.int .i64 1)) fun t56=>∃ n,yO Q n t0 t1 t5 t49 t51 (.int .i64 0) t56 (.int .i64 0) (adv r53.2 1)
theorem aFz (Q:aG):QJ (sub HH [Y,Y,Y,Y,Y,Y,Y,Y,Y]) (zW Q) aY (zW Q)=(fun g s=>JZ Q s):=Eq.trans rfl (by kernel_rfl)
theorem aCg (Q:aG) (n1:Nat):QJ (sub HH [Y,Y,Y,Y,Y,Y,Y,Y,N,N,N,Y,N,Y]) (mI (fun n g s=>yO Q n (g 0) (g 1) (g 5) (g 6) (g 7) (g 8) (g 9) (g 10) s) 268 n1) (cX 2 (mI (fun n g s=>yO Q n (g 0) (g 1) (g 5) (g 6) (g 7) (g 8) (g 9) (g 10) s) 268 n1) (cX 1 (fun g s=>JZ Q s) aY)) (zW Q)=(fun g s=>RN Q (yO Q n1) (g 0) (g 8) (g 7) (g 5) (g 1) (g 10) (g 9) (g 6) s):=Eq.trans rfl (by kernel_rfl)
theorem aDl (Q:aG) (kN:Kt):QJ (sub HH [Y,Y,Y,Y,Y,Y,Y,Y,N,N]) kN (cX 1 (fun g s=>JZ Q s) aY) (zW Q)=fun g s=>∃ n,yO Q n (g 0) (g 1) (g 5) (g 6) (g 7) (g 8) (g 9) (g 10) s:=mB (L:=fun n g s=>yO Q n (g 0) (g 1) (g 5) (g 6) (g 7) (g 8) (g 9) (g 10) s) (fun n1=>Eq.trans (aM (dV 2 (aM (aCg Q n1) rfl)) rfl) (by kernel_rfl))
theorem aFa (Q:aG):QJ (sub HH [Y,Y,Y]) (zW Q) aY (zW Q)=(fun g s=>aHm Q (g 1) (g 0) (g 5) s):=Eq.trans (aM (aM (aM (aM (aM (aM (aFz Q) (dV 1 (aDl Q _))) rfl) rfl) rfl) rfl) rfl) (by kernel_rfl)
def f268 (Q:aG) (t0 t1:AV) (s:St):Prop:=aA (bt .len #[9] [t1] (s.nx+2) (adv s 4)) fun r15=>aA (bn .eql 3 r15.1 (.int .i64 0)) fun t18=>Gd (aD t18 false) (adv r15.2 8) (fun k=>k t1 (adv r15.2 8)) fun t20 s1=>Gd (aD t18 false) s1 (fun k=>k t0 s1) fun t21 s2=>Gd (aD t18 false) s2 (fun k=>aA (bn .eql 9 t20 t21) fun v=>k v s2) fun t22 s3=>aA (bC t18 (.bool true) t22) fun t23=>aZ t23
 (Q (.int .i64 0) (adv s3 1))
 (aA (bn .eql 3 r15.1 (.int .i64 1)) fun t26=>aZ t26
 (aA (QG 9 t1 (.int .i64 0)) fun t29=>aO mEv 269 [t0,t29] (adv s3 8) fun t30 s4=>Q t30 s4)
 (aA (bt .len #[9] [t0] (s3.nx+5) (adv s3 8)) fun r34=>aA (bn .geq 3 r15.1 r34.1) fun t35=>aZ t35
 (Q (.int .i64 (-1)) (adv r34.2 1))
 (aA (ld 1 false (gl 4) (adv r34.2 9)) fun t38=>aA (bn .leq 3 r15.1 t38) fun t39=>Gd (aD t39 true) (adv r34.2 9) (fun k=>k t0 (adv r34.2 9)) fun t41 s5=>Gd (aD t39 true) s5 (fun k=>aA (bt .len #[9] [t41] (r34.2.nx+5) s5) fun r=>k r.1 r.2) fun t42 s6=>Gd (aD t39 true) s6 (fun k=>aA (bn .leq 3 t42 (.int .i64 64)) fun v=>k v s6) fun t43 s7=>aA (bC t39 t43 (.bool false)) fun t44=>aZ t44
 (aO mEv 262 [t0,t1] (adv s7 4) fun t47 s8=>Q t47 s8)
 (aHm Q t1 t0 r15.1 s7))))
theorem aKi (t0 t1:AV) (s:St) {Q:aG} (h:f268 Q t0 t1 s):dT 268 [t0,t1] s Q:=aH (h:=268) (fn:=Tryz.f268) (c:=sub HH []) (show QJ (sub HH []) (zW Q) aY (zW Q)=_ from (aM (aM (aM (aFa Q) (dV 0 rfl)) rfl) rfl)) h
abbrev bCy:Code:=aJ Tryz.f269
abbrev bDc:=rK Tryz.f269
abbrev bKh:=aK mEv 269 (mEv.kp 269)
def f269 (Q:aG) (t0 t1:AV) (s:St):Prop:=aO mEv 285 [t0,t1] (adv s 5) fun t7 s1=>Q t7 s1
theorem aSf (t0 t1:AV) (s:St) {Q:aG} (h:f269 Q t0 t1 s):dT 269 [t0,t1] s Q:=aH (h:=269) (fn:=Tryz.f269) (c:=sub bCy []) (show bKh (sub bCy []) (bDc Q) aY (bDc Q)=_ from rfl) h
abbrev bDe:Code:=aJ Tryz.f182
abbrev bCh:=rK Tryz.f182
abbrev bKb:=aK mEv 182 (mEv.kp 182)
def f182 (Q:aG) (t0:AV) (s:St):Prop:=aO mEv 215 [t0,(.str [92,117])] (adv s 9) fun t13 s1=>aA (aS t13 0) fun t14=>aA (aS t13 1) fun t15=>aA (un .not t15) fun t17=>aZ t17
 (Q (.tup [(.int .i64 (-1)),(.int .i64 0)]) (adv s1 4))
 (aO mEv 215 [t14,(.str [123])] (adv s1 9) fun t20 s2=>aA (aS t20 0) fun t21=>aA (aS t20 1) fun t22=>aZ t22
 (aO mEv 216 [t21,(.str [125])] (adv s2 10) fun t26 s3=>aA (aS t26 0) fun t27=>aA (aS t26 1) fun t28=>aA (aS t26 2) fun t29=>aA (un .not t29) fun t31=>Gd (aD t31 false) (adv s3 7) (fun k=>k t27 (adv s3 7)) fun t33 s4=>Gd (aD t31 false) s4 (fun k=>aA (bt .len #[9] [t33] (s3.nx+4) s4) fun r=>k r.1 r.2) fun t34 s5=>Gd (aD t31 false) s5 (fun k=>aA (bn .gtr 3 t34 (.int .i64 5)) fun v=>k v s5) fun t35 s6=>aA (bC t31 (.bool true) t35) fun t36=>aZ t36
 (Q (.tup [(.int .i64 (-1)),(.int .i64 0)]) (adv s6 2))
 (aO mEv 217 [t27] (adv s6 7) fun t38 s7=>aA (bt .len #[9] [t27] (s6.nx+3) s7) fun r40=>aA (bn .add 3 r40.1 (.int .i64 4)) fun t41=>Q (.tup [t38,t41]) r40.2))
 (aA (bt .len #[9] [t14] (s2.nx+2) (adv s2 4)) fun r43=>aA (bn .lss 3 r43.1 (.int .i64 4)) fun t44=>aZ t44
 (Q (.tup [(.int .i64 (-1)),(.int .i64 0)]) (adv r43.2 2))
 (aA (mF 9 t14 none (some (.int .i64 4)) none (adv r43.2 5)) fun t46=>aO mEv 217 [t46] (adv r43.2 5) fun t47 s8=>Q (.tup [t47,(.int .i64 6)]) s8)))
theorem aKo (t0:AV) (s:St) {Q:aG} (h:f182 Q t0 s):dT 182 [t0] s Q:=aH (h:=182) (fn:=Tryz.f182) (c:=sub bDe []) (show bKb (sub bDe []) (bCh Q) aY (bCh Q)=_ from rfl) h
abbrev NI:Code:=aJ Tryz.f129
abbrev JF:=rK Tryz.f129
abbrev WY:=aK mEv 129 (mEv.kp 129)
def CS (Q:aG) (t3:AV) (s:St):Prop:=Q t3 (adv s 2)
def EZ (Q:aG) (ih1:AV->AV->aG) (t3 t5 t4 t6 t0:AV) (s:St):Prop:=aA (kM 72 1 [(0,t5)]) fun t26=>aA (bt .append #[72,72] [t3,t26] (s.nx+3) (adv s 5)) fun r27=>aA (bn .add 3 t4 t6) fun t30=>ih1 t0 r27.1 t30 (adv r27.2 4)
def vW (Q:aG) (ih1:AV->AV->aG) (t0 t3 t4:AV) (s:St):Prop:=aA (bt .len #[9] [t0] (s.nx+2) (adv s 4)) fun r9=>aA (bn .geq 3 t4 r9.1) fun t10=>aZ t10
 (CS Q t3 r9.2)
 (aA (mF 9 t0 (some t4) none none (adv r9.2 9)) fun t14=>aO mEv 182 [t14] (adv r9.2 9) fun t15 s1=>aA (aS t15 0) fun t16=>aA (aS t15 1) fun t17=>aA (bn .lss 3 t16 (.int .i64 0)) fun t19=>aZ t19
 (aA (QG 9 t0 t4) fun t22=>aA (cv 5 3 t22 (adv s1 8)) fun t23=>EZ Q ih1 t3 t23 t4 (.int .i64 1) t0 (adv s1 8))
 (EZ Q ih1 t3 t16 t4 t17 t0 (adv s1 2)))
def qI (Q:aG) (n:Nat):AV->AV->aG:=mC (fun _ _ _ _ =>False) (fun ih=>vW Q ih) n
theorem aAa (Q:aG):WY (sub NI [Y,N,Y,Y,Y,Y]) (JF Q) aY (JF Q)=(fun g s=>CS Q (g 3) s):=Eq.trans rfl (by kernel_rfl)
theorem aEt (Q:aG) (n1:Nat):WY (sub NI [Y,N,Y,Y,Y,N,N,N,N,Y,Y,Y]) (mI (fun n g s=>qI Q n (g 0) (g 3) (g 4) s) 129 n1) (cX 1 (mI (fun n g s=>qI Q n (g 0) (g 3) (g 4) s) 129 n1) (cX 0 (fun g s=>CS Q (g 3) s) aY)) (JF Q)=(fun g s=>EZ Q (qI Q n1) (g 3) (g 5) (g 4) (g 6) (g 0) s):=Eq.trans rfl (by kernel_rfl)
theorem ZQ (Q:aG) (kN:Kt):WY (sub NI [Y,N,Y,Y,Y,N,N]) kN (cX 0 (fun g s=>CS Q (g 3) s) aY) (JF Q)=fun g s=>∃ n,qI Q n (g 0) (g 3) (g 4) s:=mB (L:=fun n g s=>qI Q n (g 0) (g 3) (g 4) s) (fun n1=>Eq.trans (dV 1 (aM (aM (aM (aEt Q n1) rfl) rfl) rfl)) (by kernel_rfl))
def f129 (Q:aG) (t0:AV) (s:St):Prop:=∃ n,qI Q n t0 .nils (.int .i64 0) (adv s 3)
theorem aHx (t0:AV) (s:St) {Q:aG} (h:f129 Q t0 s):dT 129 [t0] s Q:=aH (h:=129) (fn:=Tryz.f129) (c:=sub NI []) (show WY (sub NI []) (JF Q) aY (JF Q)=_ from (aM (nW (aM (aM (aM (aM (aAa Q) (dV 0 (ZQ Q _))) rfl) rfl) rfl)) rfl)) h
abbrev OA:Code:=aJ Tryz.f128
abbrev HK:=rK Tryz.f128
abbrev XC:=aK mEv 128 (mEv.kp 128)
def CQ (Q:aG) (t4:AV) (s:St):Prop:=aA (bt .len #[25] [t4] (s.nx+1) (adv s 3)) fun r46=>aA (bn .gtr 3 r46.1 (.int .i64 65536)) fun t47=>aZ t47
 (Q (.tup [.nils,(.int .i64 2)]) (adv r46.2 2))
 (Q (.tup [t4,(.int .i64 0)]) (adv r46.2 3))
def yT (Q:aG) (ih1:AV->AV->AV->aG) (t10 t4 t8 t9:AV) (s:St):Prop:=aA (bn .add 3 t10 (.int .i64 1)) fun t44=>ih1 t4 t8 t9 t44 (adv s 2)
def wK (Q:aG) (ih1:AV->AV->AV->aG) (t4 t8 t9 t10:AV) (s:St):Prop:=aA (bn .lss 3 t10 t9) fun t11=>aZ t11
 (aA (cQ 1 t8 t10) fun t12=>aA (ld 1 false t12 (adv s 4)) fun t13=>aO mEv 181 [t13] (adv s 7) fun t15 s1=>aA (un .not t15) fun t16=>aZ t16
 (Q (.tup [.nils,(.int .i64 1)]) (adv s1 2))
 (aA (bt .len #[25] [t4] (s1.nx+1) (adv s1 4)) fun r18=>aA (bn .sub 3 r18.1 (.int .i64 1)) fun t19=>aA (bn .geq 3 t19 (.int .i64 0)) fun t21=>Gd (aD t21 true) (adv r18.2 11) (fun k=>k t4 (adv r18.2 11)) fun t23 s2=>Gd (aD t21 true) s2 (fun k=>k t19 s2) fun t24 s3=>Gd (aD t21 true) s3 (fun k=>aA (cQ 2 t23 t24) fun v=>k v s3) fun t25 s4=>Gd (aD t21 true) s4 (fun k=>aA (aC 0 t25) fun v=>k v s4) fun t26 s5=>Gd (aD t21 true) s5 (fun k=>aA (ld 1 false t26 s5) fun v=>k v s5) fun t27 s6=>Gd (aD t21 true) s6 (fun k=>k t13 s6) fun t28 s7=>Gd (aD t21 true) s7 (fun k=>aA (bn .eql 3 t27 t28) fun v=>k v s7) fun t29 s8=>aA (bC t21 t29 (.bool false)) fun t30=>aZ t30
 (aA (cQ 2 t4 t19) fun t33=>aA (aC 1 t33) fun t34=>aA (ld 1 false t34 (adv s8 9)) fun t35=>aA (bn .add 3 t35 (.int .i64 1)) fun t36=>aA (cQ 2 t4 t19) fun t37=>aA (aC 1 t37) fun t38=>aA (dU 1 t38 t36 (adv s8 9)) fun s9=>yT Q ih1 t10 t4 t8 t9 s9)
 (aA (lK 109 [(0,t13),(1,(.int .i64 1))]) fun t41=>aA (kM 25 1 [(0,t41)]) fun t42=>aA (bt .append #[25,25] [t4,t42] (s8.nx+4) (adv s8 6)) fun r43=>yT Q ih1 t10 r43.1 t8 t9 r43.2)))
 (CQ Q t4 (adv s 1))
def pA (Q:aG) (n:Nat):AV->AV->AV->aG:=mC (fun _ _ _ _ _ =>False) (fun ih=>wK Q ih) n
theorem aFr (Q:aG):XC (sub OA [Y,Y,Y]) (HK Q) aY (HK Q)=(fun g s=>CQ Q (g 4) s):=Eq.trans rfl (by kernel_rfl)
theorem aEi (Q:aG) (n1:Nat):XC (sub OA [Y,Y,N,Y,N,N,Y,Y,Y]) (mI (fun n g s=>pA Q n (g 4) (g 8) (g 9) (g 10) s) 128 n1) (cX 0 (fun g s=>CQ Q (g 4) s) aY) (HK Q)=(fun g s=>yT Q (pA Q n1) (g 10) (g 4) (g 8) (g 9) s):=Eq.trans rfl (by kernel_rfl)
theorem aFy (Q:aG) (kN:Kt):XC (sub OA [Y,Y,N,Y,N]) kN (cX 0 (fun g s=>CQ Q (g 4) s) aY) (HK Q)=fun g s=>∃ n,pA Q n (g 4) (g 8) (g 9) (g 10) s:=mB (L:=fun n g s=>pA Q n (g 4) (g 8) (g 9) (g 10) s) (fun n1=>Eq.trans (aM (aM (aM (aEi Q n1) (dV 1 rfl)) rfl) rfl) (by kernel_rfl))
def f128 (Q:aG) (t0:AV) (s:St):Prop:=aA (bt .len #[72] [t0] (s.nx+4) (adv s 6)) fun r9=>∃ n,pA Q n .nils t0 r9.1 (.int .i64 0) r9.2
theorem aQv (t0:AV) (s:St) {Q:aG} (h:f128 Q t0 s):dT 128 [t0] s Q:=aH (h:=128) (fn:=Tryz.f128) (c:=sub OA []) (show XC (sub OA []) (HK Q) aY (HK Q)=_ from (aM (aM (aM (aFr Q) (aM (dV 0 (aFy Q _)) rfl)) rfl) rfl)) h
end
noncomputable section
set_option maxRecDepth 1000000
abbrev aXz:Code:=aJ Tryz.f24
abbrev aMi:=rK Tryz.f24
abbrev bDq:=aK mEv 24 (mEv.kp 24)
def EK (Q:aG) (t0:AV) (s:St):Prop:=aO mEv 71 [t0,(.int .i64 2)] (adv s 12) fun t19 s1=>aA (bn .neq 3 t19 (.int .i64 0)) fun t20=>Gd (aD t20 false) s1 (fun k=>k t0 s1) fun t22 s2=>Gd (aD t20 false) s2 (fun k=>aO mEv 72 [t22,(.str [115,116,114,46])] s2 k) fun t23 s3=>aA (bC t20 (.bool true) t23) fun t24=>Gd (aD t24 false) s3 (fun k=>k t0 s3) fun t26 s4=>Gd (aD t24 false) s4 (fun k=>aO mEv 72 [t26,(.str [114,101,46])] s4 k) fun t27 s5=>aA (bC t24 (.bool true) t27) fun t28=>Q t28 s5
def lM (Q:aG) (t4 t0:AV) (s:St):Prop:=aZ t4
 (Q (.bool true) (adv s 1))
 (EK Q t0 s)
theorem aMr (Q:aG):bDq (sub aXz [Y,Y]) (aMi Q) aY (aMi Q)=(fun g s=>EK Q (g 0) s):=Eq.trans rfl (by kernel_rfl)
theorem aIj (Q:aG):bDq (sub aXz [Y,N,Y,N,Y]) (fun g s=>EK Q (g 0) s) (cX 0 (fun g s=>EK Q (g 0) s) aY) (aMi Q)=(fun g s=>lM Q (g 4) (g 0) s):=Eq.trans rfl (by kernel_rfl)
def f24 (Q:aG) (t0:AV) (s:St):Prop:=aA (bn .eql 9 t0 (.str [116,114,117,101])) fun t5=>aZ t5
 (lM Q t5 t0 (adv s 4))
 (aA (bn .eql 9 t0 (.str [102,97,108,115,101])) fun t6=>aZ t6
 (lM Q t6 t0 (adv s 6))
 (aA (bn .eql 9 t0 (.str [108,101,116])) fun t7=>aZ t7
 (lM Q t7 t0 (adv s 8))
 (aA (bn .eql 9 t0 (.str [102,111,114,97,108,108])) fun t8=>aZ t8
 (lM Q t8 t0 (adv s 10))
 (aA (bn .eql 9 t0 (.str [101,120,105,115,116,115])) fun t9=>aZ t9
 (lM Q t9 t0 (adv s 12))
 (aA (bn .eql 9 t0 (.str [109,97,116,99,104])) fun t10=>aZ t10
 (lM Q t10 t0 (adv s 14))
 (aA (bn .eql 9 t0 (.str [112,97,114])) fun t11=>aZ t11
 (lM Q t11 t0 (adv s 16))
 (aA (bn .eql 9 t0 (.str [33])) fun t12=>aZ t12
 (lM Q t12 t0 (adv s 18))
 (aA (bn .eql 9 t0 (.str [95])) fun t13=>aZ t13
 (lM Q t13 t0 (adv s 20))
 (aA (bn .eql 9 t0 (.str [97,115])) fun t14=>aZ t14
 (lM Q t14 t0 (adv s 22))
 (aA (bn .eql 9 t0 (.str [100,105,118])) fun t15=>aZ t15
 (lM Q t15 t0 (adv s 24))
 (aA (bn .eql 9 t0 (.str [109,111,100])) fun t16=>aZ t16
 (lM Q t16 t0 (adv s 26))
 (aA (bn .eql 9 t0 (.str [97,98,115])) fun t17=>lM Q t17 t0 (adv s 28)))))))))))))
theorem aXq (t0:AV) (s:St) {Q:aG} (h:f24 Q t0 s):dT 24 [t0] s Q:=aH (h:=24) (fn:=Tryz.f24) (c:=sub aXz []) (show bDq (sub aXz []) (aMi Q) aY (aMi Q)=_ from (aM (aM (aMr Q) (aM (dV 0 (aM (aIj Q) rfl)) rfl)) rfl)) h
abbrev bEg:Code:=aJ Tryz.f71
abbrev aYi:=rK Tryz.f71
abbrev bHx:=aK mEv 71 (mEv.kp 71)
def MP (Q:aG) (t0:AV) (s:St):Prop:=aO mEv 122 [t0] (adv s 3) fun t39 s1=>Q t39 s1
theorem aNn (Q:aG):bHx (sub bEg [Y,Y]) (aYi Q) aY (aYi Q)=(fun g s=>MP Q (g 0) s):=Eq.trans rfl (by kernel_rfl)
def f71 (Q:aG) (t0 t1:AV) (s:St):Prop:=aA (bn .eql 9 t0 (.str [110,111,116])) fun t7=>aZ t7
 (Q (.int .i64 6) (adv s 5))
 (aA (bn .eql 9 t0 (.str [97,110,100])) fun t9=>aZ t9
 (Q (.int .i64 7) (adv s 7))
 (aA (bn .eql 9 t0 (.str [111,114])) fun t11=>aZ t11
 (Q (.int .i64 8) (adv s 9))
 (aA (bn .eql 9 t0 (.str [61,62])) fun t13=>aZ t13
 (Q (.int .i64 9) (adv s 11))
 (aA (bn .eql 9 t0 (.str [120,111,114])) fun t15=>aZ t15
 (Q (.int .i64 10) (adv s 13))
 (aA (bn .eql 9 t0 (.str [61])) fun t17=>aZ t17
 (Q (.int .i64 11) (adv s 15))
 (aA (bn .eql 9 t0 (.str [100,105,115,116,105,110,99,116])) fun t19=>aZ t19
 (Q (.int .i64 12) (adv s 17))
 (aA (bn .eql 9 t0 (.str [105,116,101])) fun t21=>aZ t21
 (Q (.int .i64 13) (adv s 19))
 (aA (bn .eql 9 t0 (.str [43])) fun t23=>aZ t23
 (Q (.int .i64 15) (adv s 21))
 (aA (bn .eql 9 t0 (.str [45])) fun t25=>aZ t25
 (aA (bn .eql 3 t1 (.int .i64 1)) fun t27=>aZ t27
 (Q (.int .i64 14) (adv s 25))
 (Q (.int .i64 16) (adv s 25)))
 (aA (bn .eql 9 t0 (.str [42])) fun t29=>aZ t29
 (Q (.int .i64 17) (adv s 25))
 (aA (bn .eql 9 t0 (.str [60,61])) fun t31=>aZ t31
 (Q (.int .i64 18) (adv s 27))
 (aA (bn .eql 9 t0 (.str [60])) fun t33=>aZ t33
 (Q (.int .i64 19) (adv s 29))
 (aA (bn .eql 9 t0 (.str [62,61])) fun t35=>aZ t35
 (Q (.int .i64 20) (adv s 31))
 (aA (bn .eql 9 t0 (.str [62])) fun t37=>aZ t37
 (Q (.int .i64 21) (adv s 33))
 (MP Q t0 (adv s 32))))))))))))))))
theorem WL (t0 t1:AV) (s:St) {Q:aG} (h:f71 Q t0 t1 s):dT 71 [t0,t1] s Q:=aH (h:=71) (fn:=Tryz.f71) (c:=sub bEg []) (show bHx (sub bEg []) (aYi Q) aY (aYi Q)=_ from (aM (aM (aNn Q) (aM (dV 0 rfl) rfl)) rfl)) h
abbrev aLw:Code:=aJ Tryz.f122
abbrev VU:=rK Tryz.f122
abbrev aZb:=aK mEv 122 (mEv.kp 122)
def TV (Q:aG) (s:St):Prop:=Q (.int .i64 0) (adv s 1)
theorem aEk (Q:aG):aZb (sub aLw [Y,Y]) (VU Q) aY (VU Q)=(fun g s=>TV Q s):=Eq.trans rfl (by kernel_rfl)
def f122 (Q:aG) (t0:AV) (s:St):Prop:=aA (bn .eql 9 t0 (.str [115,116,114,46,43,43])) fun t5=>aZ t5
 (Q (.int .i64 22) (adv s 5))
 (aA (bn .eql 9 t0 (.str [115,116,114,46,108,101,110])) fun t7=>aZ t7
 (Q (.int .i64 23) (adv s 7))
 (aA (bn .eql 9 t0 (.str [115,116,114,46,97,116])) fun t9=>aZ t9
 (Q (.int .i64 24) (adv s 9))
 (aA (bn .eql 9 t0 (.str [115,116,114,46,115,117,98,115,116,114])) fun t11=>aZ t11
 (Q (.int .i64 25) (adv s 11))
 (aA (bn .eql 9 t0 (.str [115,116,114,46,112,114,101,102,105,120,111,102])) fun t13=>aZ t13
 (Q (.int .i64 26) (adv s 13))
 (aA (bn .eql 9 t0 (.str [115,116,114,46,115,117,102,102,105,120,111,102])) fun t15=>aZ t15
 (Q (.int .i64 27) (adv s 15))
 (aA (bn .eql 9 t0 (.str [115,116,114,46,99,111,110,116,97,105,110,115])) fun t17=>aZ t17
 (Q (.int .i64 28) (adv s 17))
 (aA (bn .eql 9 t0 (.str [115,116,114,46,105,110,100,101,120,111,102])) fun t19=>aZ t19
 (Q (.int .i64 29) (adv s 19))
 (aA (bn .eql 9 t0 (.str [115,116,114,46,114,101,112,108,97,99,101])) fun t21=>aZ t21
 (Q (.int .i64 30) (adv s 21))
 (TV Q (adv s 20))))))))))
theorem aNm (t0:AV) (s:St) {Q:aG} (h:f122 Q t0 s):dT 122 [t0] s Q:=aH (h:=122) (fn:=Tryz.f122) (c:=sub aLw []) (show aZb (sub aLw []) (VU Q) aY (VU Q)=_ from (aM (aM (aEk Q) (aM (dV 0 rfl) rfl)) rfl)) h
abbrev bNl:Code:=aJ Tryz.f72
abbrev bIi:=rK Tryz.f72
abbrev bRm:=aK mEv 72 (mEv.kp 72)
def f72 (Q:aG) (t0 t1:AV) (s:St):Prop:=aO mEv 123 [t0,t1] (adv s 5) fun t7 s1=>Q t7 s1
theorem aTi (t0 t1:AV) (s:St) {Q:aG} (h:f72 Q t0 t1 s):dT 72 [t0,t1] s Q:=aH (h:=72) (fn:=Tryz.f72) (c:=sub bNl []) (show bRm (sub bNl []) (bIi Q) aY (bIi Q)=_ from rfl) h
abbrev bCb:Code:=aJ Tryz.f123
abbrev aZq:=rK Tryz.f123
abbrev bLw:=aK mEv 123 (mEv.kp 123)
def f123 (Q:aG) (t0 t1:AV) (s:St):Prop:=aA (bt .len #[9] [t0] (s.nx+2) (adv s 15)) fun r6=>aA (bt .len #[9] [t1] (s.nx+4) r6.2) fun r8=>aA (bn .geq 3 r6.1 r8.1) fun t9=>Gd (aD t9 true) r8.2 (fun k=>k t0 r8.2) fun t11 s1=>Gd (aD t9 true) s1 (fun k=>k t1 s1) fun t12 s2=>Gd (aD t9 true) s2 (fun k=>aA (bt .len #[9] [t12] (s.nx+9) s2) fun r=>k r.1 r.2) fun t13 s3=>Gd (aD t9 true) s3 (fun k=>aA (mF 9 t11 none (some t13) none s3) fun v=>k v s3) fun t14 s4=>Gd (aD t9 true) s4 (fun k=>k t1 s4) fun t15 s5=>Gd (aD t9 true) s5 (fun k=>aA (bn .eql 9 t14 t15) fun v=>k v s5) fun t16 s6=>aA (bC t9 t16 (.bool false)) fun t17=>Q t17 s6
theorem aQy (t0 t1:AV) (s:St) {Q:aG} (h:f123 Q t0 t1 s):dT 123 [t0,t1] s Q:=aH (h:=123) (fn:=Tryz.f123) (c:=sub bCb []) (show bLw (sub bCb []) (aZq Q) aY (aZq Q)=_ from rfl) h
end
noncomputable section
theorem aNd {n:Nat} {f:FuncId} {args:List AV} {v:AV} (hv:v.closed=true) (h:((iW mEv n f args St.empty).map Prod.fst)=some v):bE mEv f args v:=by
 cases hc:iW mEv n f args St.empty with
 | none=>rw [hc] at h;cases h
 | some r =>rw [hc] at h;simp only [Option.map_some,m000] at h;obtain ⟨r,s'⟩:=r;simp only at h;subst h;refine ⟨n,r,s',[],zC _ _ _ _ _ _ hc,?_⟩;unfold pur;rw [if_pos hv]
noncomputable def YE (f:FuncId) (args:List AV):Option AV:=(iW mEv 1000 f args St.empty).bind fun r=>(pur mEv.P r.2 12 r.1).map Prod.fst
theorem bFe {f:FuncId} {args:List AV} {v:AV} (h:YE f args=some v):bE mEv f args v:=by
 unfold YE at h
 cases hc:iW mEv 1000 f args St.empty with
 | none=>rw [hc] at h;cases h
 | some r =>rw [hc] at h;obtain ⟨r,s'⟩:=r;simp only [Option.bind_some,m022] at h;obtain ⟨⟨w,ids⟩,h1,rfl⟩:=h;exact ⟨1000,r,s',ids,zC _ _ _ _ _ _ hc,h1⟩
theorem TH {f:FuncId} {a:Nat->AV} {v:Nat->AV} {n:Nat} (h:(List.range n).map (fun c=>YE f [a c])=(List.range n).map fun c=>some (v c)) {c:Nat} (hc:c < n):bE mEv f [a c] (v c):=by refine bFe ?_;have h1:=congrArg (fun l=>l[c]?) h;simpa [hc] using h1
end
noncomputable section
set_option maxRecDepth 100000
theorem aVw (x:List UInt8) (id:Nat) (s:St):bt .len #[9] [.str x] id s=some (.int .i64 x.length,s):=by kernel_rfl
theorem aTg (x:List UInt8) (h:Int) (s:St):mF 9 (.str x) none (some (.int .i64 h)) none s=(eJ x.length x.length none (some (.int .i64 h)) none).map fun r=>.str ((x.drop r.1).take (r.2.1 - r.1)):=by kernel_rfl
theorem aAq (n h:Nat):eJ n n none (some (.int .i64 (h:Int))) none=if h<=n then some (0,h,n) else none:=by simp [eJ,sU,pW]
def dM (p x:List UInt8):Bool:=decide (p.length<=x.length)&&(x.take p.length==p)
theorem bIq (x p:List UInt8):bE mEv 123 [.str x,.str p] (.bool (dM p x)):=by
 refine bA rfl (aQy _ _ _ ?_);unfold f123;simp only [aVw,Bnd_some,bin_geq,wantV_bool,Gd_some,pickV_bool];by_cases h:p.length<=x.length
 ·simp [h,Gd_some,aTg,aAq,Bnd_some,bin_seql,dM]
 ·have h':¬ ((p.length:Int)<=(x.length:Int)):=by omega
  simp [h,h',dM]
theorem c72 (x p:List UInt8):bE mEv 72 [.str x,.str p] (.bool (dM p x)):=by refine bA rfl (aTi _ _ _ ?_);exact aP (bIq x p) (by simp [AV.closed]) rfl
def uT:List (List UInt8×Int)->List UInt8->Option Int
 | [],_=>none
 | (p,v)::l,x=>if (x==p)=true then some v else uT l x
def bGc:List (List UInt8×Int)->List UInt8->(Int->Prop)->Prop->Prop
 | [],_,_,d=>d
 | (p,v)::l,x,c,d=>if (x==p)=true then c v else bGc l x c d
theorem aMz {l:List (List UInt8×Int)} {x:List UInt8} {c:Int->Prop} {d:Prop} (h1:∀ v,uT l x=some v->c v) (h2:uT l x=none->d):bGc l x c d:=by
 induction l with
 | nil=>exact h2 rfl
 | cons p l ih =>
  obtain ⟨p,v⟩:=p;simp only [bGc];by_cases h:(x==p)=true
  ·rw [if_pos h];exact h1 v (by simp only [uT,if_pos h])
  ·rw [if_neg h];exact ih (fun v hv=>h1 v (by simp only [uT,if_neg h];exact hv)) (fun hv=>h2 (by simp only [uT,if_neg h];exact hv))
def txL:List (List UInt8×Int):=[([115,116,114,46,43,43],22),([115,116,114,46,108,101,110],23),([115,116,114,46,97,116],24),([115,116,114,46,115,117,98,115,116,114],25),([115,116,114,46,112,114,101,102,105,120,111,102],26),([115,116,114,46,115,117,102,102,105,120,111,102],27),([115,116,114,46,99,111,110,116,97,105,110,115],28),([115,116,114,46,105,110,100,101,120,111,102],29),([115,116,114,46,114,101,112,108,97,99,101],30)]
def opL:List (List UInt8×Int):=[([110,111,116],6),([97,110,100],7),([111,114],8),([61,62],9),([120,111,114],10),([61],11),([100,105,115,116,105,110,99,116],12),([105,116,101],13),([43],15),([45],16),([42],17),([60,61],18),([60],19),([62,61],20),([62],21)]
def bRn:List (List UInt8):=[[116,114,117,101],[102,97,108,115,101],[108,101,116],[102,111,114,97,108,108],[101,120,105,115,116,115],[109,97,116,99,104],[112,97,114],[33],[95],[97,115],[100,105,118],[109,111,100],[97,98,115]]
theorem bEr (x:List UInt8):bE mEv 122 [.str x] (.int .i64 ((uT txL x).getD 0)):=by refine bA rfl (aNm _ _ ?_);unfold f122 TV;simp only [Bnd_some,bin_seql,IfP_bool];exact aMz (l:=txL) (c:=fun v=>AV.int .i64 v=.int .i64 ((uT txL x).getD 0)) (fun v h=>by rw [h];rfl) (fun h=>by rw [h];rfl)
def GD (x:List UInt8):Int:=(uT opL x).getD ((uT txL x).getD 0)
theorem c71 (x:List UInt8):bE mEv 71 [.str x,.int .i64 2] (.int .i64 (GD x)):=by refine bA rfl (WL _ _ _ ?_);unfold f71;simp only [Bnd_some,bin_seql,bin_eql,IfP_bool];refine aMz (l:=opL) (c:=fun v=>AV.int .i64 v=.int .i64 (GD x)) (d:=MP (fun r s'=>r=.int .i64 (GD x)) (.str x) _) (fun v h=>by simp only [GD,h];rfl) (fun h=>?_);exact aP (bEr x) (by simp [AV.closed]) (by simp only [GD,h];rfl)
theorem bLe {c a b d:Prop} [Decidable c]:(if c then (if c then a else b) else d)=(if c then a else d):=by by_cases h:c<;>simp [h]
def RM:List (List UInt8×Int):=bRn.map fun p=>(p,1)
theorem c24 (x:List UInt8):bE mEv 24 [.str x] (.bool ((uT RM x).isSome||(GD x != 0)||dM [115,116,114,46] x||dM [114,101,46] x)):=by
 refine bA rfl (aXq _ _ ?_)
 have key:∀ (s:St) (Q:aG),(∀ s',Q (.bool ((GD x != 0)||dM [115,116,114,46] x||dM [114,101,46] x)) s')->EK Q (.str x) s:=by
  intro s Q hQ;unfold EK;refine aP (c71 x) (by simp [AV.closed]) ?_;simp only [Bnd_some,bin_neq,wantV_bool,Gd_some,pickV_bool]
  cases h1:(GD x != 0) with
  | true=>simp [Gd_some,Bnd_some,wantV_bool,pickV_bool,h1] at hQ ⊢;exact hQ _
  | false =>
   simp only [beq_self_eq_true,if_true];refine aP (c72 x _) (by simp [AV.closed]) ?_
   cases h2:dM [115,116,114,46] x with
   | true=>simp [Gd_some,Bnd_some,pickV_bool,wantV_bool,h1,h2] at hQ ⊢;exact hQ _
   | false =>simp only [Bnd_some,pickV_bool,wantV_bool,Gd_some,cond_false,beq_self_eq_true,if_true];refine aP (c72 x _) (by simp [AV.closed]) ?_;simp [Bnd_some,pickV_bool,h1,h2] at hQ ⊢;exact hQ _
 unfold f24 lM;simp only [Bnd_some,bin_seql,IfP_bool];simp only [bLe];refine aMz (l:=RM) (c:=fun _=>AV.bool true=.bool ((uT RM x).isSome||(GD x != 0)||dM [115,116,114,46] x||dM [114,101,46] x)) (d:=EK _ (.str x) _) (fun v h=>by simp [h]) (fun h=>?_);exact key _ _ fun s'=>by simp [h]
end
end Go.Proofs.YtdehdahimkcakaaGreatDoor
