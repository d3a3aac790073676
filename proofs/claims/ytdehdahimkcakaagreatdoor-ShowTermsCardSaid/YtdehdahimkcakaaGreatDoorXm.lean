/- Texts joined by wip/tools/pack.py: Tab,Words,LSx,dM,lX,Clo,Clone,LVl,LNa,Grow,LLt,LLi,LBn,Run,Bn. -/
import Derived.Test.YtdehdahimkcakaaGreatDoorRows
import Derived.Test.YtdehdahimkcakaaGreatDoorXl
open Nat renaming reduceAdd→Z0, reduceEqDiff→Z1
set_option linter.unusedSimpArgs false
set_option linter.unusedVariables false
namespace Go.Proofs.YtdehdahimkcakaaGreatDoor
open Go Ai
noncomputable section
mutual
def qE:DataW Unit->List AV
 | .lit (.bool b)=>[.bool b]
 | .lit (.int k n)=>[.int k n]
 | .lit (.string b)=>[.str b]
 | .agg l=>TY l
 | _=>[.undef]
def TY:List (DataW Unit)->List AV
 | []=>[]
 | d::l=>qE d++TY l
end
noncomputable def Tryz.tyT:Tr TypeInfo:=(.n Tryz.t0 (.n Tryz.t1 (.n Tryz.t3 (.n Tryz.t7 (.n Tryz.t15 (.n Tryz.t31 (.n Tryz.t63 (.n Tryz.t127 (.n Tryz.t255 .e .e) .e) (.n Tryz.t191 (.n Tryz.t319 .e .e) .e)) (.n Tryz.t95 (.n Tryz.t159 (.n Tryz.t287 .e .e) .e) (.n Tryz.t223 .e .e))) (.n Tryz.t47 (.n Tryz.t79 (.n Tryz.t143 (.n Tryz.t271 .e .e) .e) (.n Tryz.t207 .e .e)) (.n Tryz.t111 (.n Tryz.t175 (.n Tryz.t303 .e .e) .e) (.n Tryz.t239 .e .e)))) (.n Tryz.t23 (.n Tryz.t39 (.n Tryz.t71 (.n Tryz.t135 (.n Tryz.t263 .e .e) .e) (.n Tryz.t199 (.n Tryz.t327 .e .e) .e)) (.n Tryz.t103 (.n Tryz.t167 (.n Tryz.t295 .e .e) .e) (.n Tryz.t231 .e .e))) (.n Tryz.t55 (.n Tryz.t87 (.n Tryz.t151 (.n Tryz.t279 .e .e) .e) (.n Tryz.t215 .e .e)) (.n Tryz.t119 (.n Tryz.t183 (.n Tryz.t311 .e .e) .e) (.n Tryz.t247 .e .e))))) (.n Tryz.t11 (.n Tryz.t19 (.n Tryz.t35 (.n Tryz.t67 (.n Tryz.t131 (.n Tryz.t259 .e .e) .e) (.n Tryz.t195 (.n Tryz.t323 .e .e) .e)) (.n Tryz.t99 (.n Tryz.t163 (.n Tryz.t291 .e .e) .e) (.n Tryz.t227 .e .e))) (.n Tryz.t51 (.n Tryz.t83 (.n Tryz.t147 (.n Tryz.t275 .e .e) .e) (.n Tryz.t211 .e .e)) (.n Tryz.t115 (.n Tryz.t179 (.n Tryz.t307 .e .e) .e) (.n Tryz.t243 .e .e)))) (.n Tryz.t27 (.n Tryz.t43 (.n Tryz.t75 (.n Tryz.t139 (.n Tryz.t267 .e .e) .e) (.n Tryz.t203 .e .e)) (.n Tryz.t107 (.n Tryz.t171 (.n Tryz.t299 .e .e) .e) (.n Tryz.t235 .e .e))) (.n Tryz.t59 (.n Tryz.t91 (.n Tryz.t155 (.n Tryz.t283 .e .e) .e) (.n Tryz.t219 .e .e)) (.n Tryz.t123 (.n Tryz.t187 (.n Tryz.t315 .e .e) .e) (.n Tryz.t251 .e .e)))))) (.n Tryz.t5 (.n Tryz.t9 (.n Tryz.t17 (.n Tryz.t33 (.n Tryz.t65 (.n Tryz.t129 (.n Tryz.t257 .e .e) .e) (.n Tryz.t193 (.n Tryz.t321 .e .e) .e)) (.n Tryz.t97 (.n Tryz.t161 (.n Tryz.t289 .e .e) .e) (.n Tryz.t225 .e .e))) (.n Tryz.t49 (.n Tryz.t81 (.n Tryz.t145 (.n Tryz.t273 .e .e) .e) (.n Tryz.t209 .e .e)) (.n Tryz.t113 (.n Tryz.t177 (.n Tryz.t305 .e .e) .e) (.n Tryz.t241 .e .e)))) (.n Tryz.t25 (.n Tryz.t41 (.n Tryz.t73 (.n Tryz.t137 (.n Tryz.t265 .e .e) .e) (.n Tryz.t201 (.n Tryz.t329 .e .e) .e)) (.n Tryz.t105 (.n Tryz.t169 (.n Tryz.t297 .e .e) .e) (.n Tryz.t233 .e .e))) (.n Tryz.t57 (.n Tryz.t89 (.n Tryz.t153 (.n Tryz.t281 .e .e) .e) (.n Tryz.t217 .e .e)) (.n Tryz.t121 (.n Tryz.t185 (.n Tryz.t313 .e .e) .e) (.n Tryz.t249 .e .e))))) (.n Tryz.t13 (.n Tryz.t21 (.n Tryz.t37 (.n Tryz.t69 (.n Tryz.t133 (.n Tryz.t261 .e .e) .e) (.n Tryz.t197 (.n Tryz.t325 .e .e) .e)) (.n Tryz.t101 (.n Tryz.t165 (.n Tryz.t293 .e .e) .e) (.n Tryz.t229 .e .e))) (.n Tryz.t53 (.n Tryz.t85 (.n Tryz.t149 (.n Tryz.t277 .e .e) .e) (.n Tryz.t213 .e .e)) (.n Tryz.t117 (.n Tryz.t181 (.n Tryz.t309 .e .e) .e) (.n Tryz.t245 .e .e)))) (.n Tryz.t29 (.n Tryz.t45 (.n Tryz.t77 (.n Tryz.t141 (.n Tryz.t269 .e .e) .e) (.n Tryz.t205 .e .e)) (.n Tryz.t109 (.n Tryz.t173 (.n Tryz.t301 .e .e) .e) (.n Tryz.t237 .e .e))) (.n Tryz.t61 (.n Tryz.t93 (.n Tryz.t157 (.n Tryz.t285 .e .e) .e) (.n Tryz.t221 .e .e)) (.n Tryz.t125 (.n Tryz.t189 (.n Tryz.t317 .e .e) .e) (.n Tryz.t253 .e .e))))))) (.n Tryz.t2 (.n Tryz.t4 (.n Tryz.t8 (.n Tryz.t16 (.n Tryz.t32 (.n Tryz.t64 (.n Tryz.t128 (.n Tryz.t256 .e .e) .e) (.n Tryz.t192 (.n Tryz.t320 .e .e) .e)) (.n Tryz.t96 (.n Tryz.t160 (.n Tryz.t288 .e .e) .e) (.n Tryz.t224 .e .e))) (.n Tryz.t48 (.n Tryz.t80 (.n Tryz.t144 (.n Tryz.t272 .e .e) .e) (.n Tryz.t208 .e .e)) (.n Tryz.t112 (.n Tryz.t176 (.n Tryz.t304 .e .e) .e) (.n Tryz.t240 .e .e)))) (.n Tryz.t24 (.n Tryz.t40 (.n Tryz.t72 (.n Tryz.t136 (.n Tryz.t264 .e .e) .e) (.n Tryz.t200 (.n Tryz.t328 .e .e) .e)) (.n Tryz.t104 (.n Tryz.t168 (.n Tryz.t296 .e .e) .e) (.n Tryz.t232 .e .e))) (.n Tryz.t56 (.n Tryz.t88 (.n Tryz.t152 (.n Tryz.t280 .e .e) .e) (.n Tryz.t216 .e .e)) (.n Tryz.t120 (.n Tryz.t184 (.n Tryz.t312 .e .e) .e) (.n Tryz.t248 .e .e))))) (.n Tryz.t12 (.n Tryz.t20 (.n Tryz.t36 (.n Tryz.t68 (.n Tryz.t132 (.n Tryz.t260 .e .e) .e) (.n Tryz.t196 (.n Tryz.t324 .e .e) .e)) (.n Tryz.t100 (.n Tryz.t164 (.n Tryz.t292 .e .e) .e) (.n Tryz.t228 .e .e))) (.n Tryz.t52 (.n Tryz.t84 (.n Tryz.t148 (.n Tryz.t276 .e .e) .e) (.n Tryz.t212 .e .e)) (.n Tryz.t116 (.n Tryz.t180 (.n Tryz.t308 .e .e) .e) (.n Tryz.t244 .e .e)))) (.n Tryz.t28 (.n Tryz.t44 (.n Tryz.t76 (.n Tryz.t140 (.n Tryz.t268 .e .e) .e) (.n Tryz.t204 .e .e)) (.n Tryz.t108 (.n Tryz.t172 (.n Tryz.t300 .e .e) .e) (.n Tryz.t236 .e .e))) (.n Tryz.t60 (.n Tryz.t92 (.n Tryz.t156 (.n Tryz.t284 .e .e) .e) (.n Tryz.t220 .e .e)) (.n Tryz.t124 (.n Tryz.t188 (.n Tryz.t316 .e .e) .e) (.n Tryz.t252 .e .e)))))) (.n Tryz.t6 (.n Tryz.t10 (.n Tryz.t18 (.n Tryz.t34 (.n Tryz.t66 (.n Tryz.t130 (.n Tryz.t258 .e .e) .e) (.n Tryz.t194 (.n Tryz.t322 .e .e) .e)) (.n Tryz.t98 (.n Tryz.t162 (.n Tryz.t290 .e .e) .e) (.n Tryz.t226 .e .e))) (.n Tryz.t50 (.n Tryz.t82 (.n Tryz.t146 (.n Tryz.t274 .e .e) .e) (.n Tryz.t210 .e .e)) (.n Tryz.t114 (.n Tryz.t178 (.n Tryz.t306 .e .e) .e) (.n Tryz.t242 .e .e)))) (.n Tryz.t26 (.n Tryz.t42 (.n Tryz.t74 (.n Tryz.t138 (.n Tryz.t266 .e .e) .e) (.n Tryz.t202 (.n Tryz.t330 .e .e) .e)) (.n Tryz.t106 (.n Tryz.t170 (.n Tryz.t298 .e .e) .e) (.n Tryz.t234 .e .e))) (.n Tryz.t58 (.n Tryz.t90 (.n Tryz.t154 (.n Tryz.t282 .e .e) .e) (.n Tryz.t218 .e .e)) (.n Tryz.t122 (.n Tryz.t186 (.n Tryz.t314 .e .e) .e) (.n Tryz.t250 .e .e))))) (.n Tryz.t14 (.n Tryz.t22 (.n Tryz.t38 (.n Tryz.t70 (.n Tryz.t134 (.n Tryz.t262 .e .e) .e) (.n Tryz.t198 (.n Tryz.t326 .e .e) .e)) (.n Tryz.t102 (.n Tryz.t166 (.n Tryz.t294 .e .e) .e) (.n Tryz.t230 .e .e))) (.n Tryz.t54 (.n Tryz.t86 (.n Tryz.t150 (.n Tryz.t278 .e .e) .e) (.n Tryz.t214 .e .e)) (.n Tryz.t118 (.n Tryz.t182 (.n Tryz.t310 .e .e) .e) (.n Tryz.t246 .e .e)))) (.n Tryz.t30 (.n Tryz.t46 (.n Tryz.t78 (.n Tryz.t142 (.n Tryz.t270 .e .e) .e) (.n Tryz.t206 .e .e)) (.n Tryz.t110 (.n Tryz.t174 (.n Tryz.t302 .e .e) .e) (.n Tryz.t238 .e .e))) (.n Tryz.t62 (.n Tryz.t94 (.n Tryz.t158 (.n Tryz.t286 .e .e) .e) (.n Tryz.t222 .e .e)) (.n Tryz.t126 (.n Tryz.t190 (.n Tryz.t318 .e .e) .e) (.n Tryz.t254 .e .e))))))))
noncomputable def Tryz.fnT:Tr Func:=(.n Tryz.f0 (.n Tryz.f1 (.n Tryz.f3 (.n Tryz.f7 (.n Tryz.f15 (.n Tryz.f31 (.n Tryz.f63 (.n Tryz.f127 (.n Tryz.f255 .e .e) .e) (.n Tryz.f191 .e .e)) (.n Tryz.f95 (.n Tryz.f159 (.n Tryz.f287 .e .e) .e) (.n Tryz.f223 .e .e))) (.n Tryz.f47 (.n Tryz.f79 (.n Tryz.f143 (.n Tryz.f271 .e .e) .e) (.n Tryz.f207 .e .e)) (.n Tryz.f111 (.n Tryz.f175 (.n Tryz.f303 .e .e) .e) (.n Tryz.f239 .e .e)))) (.n Tryz.f23 (.n Tryz.f39 (.n Tryz.f71 (.n Tryz.f135 (.n Tryz.f263 .e .e) .e) (.n Tryz.f199 .e .e)) (.n Tryz.f103 (.n Tryz.f167 (.n Tryz.f295 .e .e) .e) (.n Tryz.f231 .e .e))) (.n Tryz.f55 (.n Tryz.f87 (.n Tryz.f151 (.n Tryz.f279 .e .e) .e) (.n Tryz.f215 .e .e)) (.n Tryz.f119 (.n Tryz.f183 (.n Tryz.f311 .e .e) .e) (.n Tryz.f247 .e .e))))) (.n Tryz.f11 (.n Tryz.f19 (.n Tryz.f35 (.n Tryz.f67 (.n Tryz.f131 (.n Tryz.f259 .e .e) .e) (.n Tryz.f195 .e .e)) (.n Tryz.f99 (.n Tryz.f163 (.n Tryz.f291 .e .e) .e) (.n Tryz.f227 .e .e))) (.n Tryz.f51 (.n Tryz.f83 (.n Tryz.f147 (.n Tryz.f275 .e .e) .e) (.n Tryz.f211 .e .e)) (.n Tryz.f115 (.n Tryz.f179 (.n Tryz.f307 .e .e) .e) (.n Tryz.f243 .e .e)))) (.n Tryz.f27 (.n Tryz.f43 (.n Tryz.f75 (.n Tryz.f139 (.n Tryz.f267 .e .e) .e) (.n Tryz.f203 .e .e)) (.n Tryz.f107 (.n Tryz.f171 (.n Tryz.f299 .e .e) .e) (.n Tryz.f235 .e .e))) (.n Tryz.f59 (.n Tryz.f91 (.n Tryz.f155 (.n Tryz.f283 .e .e) .e) (.n Tryz.f219 .e .e)) (.n Tryz.f123 (.n Tryz.f187 (.n Tryz.f315 .e .e) .e) (.n Tryz.f251 .e .e)))))) (.n Tryz.f5 (.n Tryz.f9 (.n Tryz.f17 (.n Tryz.f33 (.n Tryz.f65 (.n Tryz.f129 (.n Tryz.f257 .e .e) .e) (.n Tryz.f193 .e .e)) (.n Tryz.f97 (.n Tryz.f161 (.n Tryz.f289 .e .e) .e) (.n Tryz.f225 .e .e))) (.n Tryz.f49 (.n Tryz.f81 (.n Tryz.f145 (.n Tryz.f273 .e .e) .e) (.n Tryz.f209 .e .e)) (.n Tryz.f113 (.n Tryz.f177 (.n Tryz.f305 .e .e) .e) (.n Tryz.f241 .e .e)))) (.n Tryz.f25 (.n Tryz.f41 (.n Tryz.f73 (.n Tryz.f137 (.n Tryz.f265 .e .e) .e) (.n Tryz.f201 .e .e)) (.n Tryz.f105 (.n Tryz.f169 (.n Tryz.f297 .e .e) .e) (.n Tryz.f233 .e .e))) (.n Tryz.f57 (.n Tryz.f89 (.n Tryz.f153 (.n Tryz.f281 .e .e) .e) (.n Tryz.f217 .e .e)) (.n Tryz.f121 (.n Tryz.f185 (.n Tryz.f313 .e .e) .e) (.n Tryz.f249 .e .e))))) (.n Tryz.f13 (.n Tryz.f21 (.n Tryz.f37 (.n Tryz.f69 (.n Tryz.f133 (.n Tryz.f261 .e .e) .e) (.n Tryz.f197 .e .e)) (.n Tryz.f101 (.n Tryz.f165 (.n Tryz.f293 .e .e) .e) (.n Tryz.f229 .e .e))) (.n Tryz.f53 (.n Tryz.f85 (.n Tryz.f149 (.n Tryz.f277 .e .e) .e) (.n Tryz.f213 .e .e)) (.n Tryz.f117 (.n Tryz.f181 (.n Tryz.f309 .e .e) .e) (.n Tryz.f245 .e .e)))) (.n Tryz.f29 (.n Tryz.f45 (.n Tryz.f77 (.n Tryz.f141 (.n Tryz.f269 .e .e) .e) (.n Tryz.f205 .e .e)) (.n Tryz.f109 (.n Tryz.f173 (.n Tryz.f301 .e .e) .e) (.n Tryz.f237 .e .e))) (.n Tryz.f61 (.n Tryz.f93 (.n Tryz.f157 (.n Tryz.f285 .e .e) .e) (.n Tryz.f221 .e .e)) (.n Tryz.f125 (.n Tryz.f189 (.n Tryz.f317 .e .e) .e) (.n Tryz.f253 .e .e))))))) (.n Tryz.f2 (.n Tryz.f4 (.n Tryz.f8 (.n Tryz.f16 (.n Tryz.f32 (.n Tryz.f64 (.n Tryz.f128 (.n Tryz.f256 .e .e) .e) (.n Tryz.f192 .e .e)) (.n Tryz.f96 (.n Tryz.f160 (.n Tryz.f288 .e .e) .e) (.n Tryz.f224 .e .e))) (.n Tryz.f48 (.n Tryz.f80 (.n Tryz.f144 (.n Tryz.f272 .e .e) .e) (.n Tryz.f208 .e .e)) (.n Tryz.f112 (.n Tryz.f176 (.n Tryz.f304 .e .e) .e) (.n Tryz.f240 .e .e)))) (.n Tryz.f24 (.n Tryz.f40 (.n Tryz.f72 (.n Tryz.f136 (.n Tryz.f264 .e .e) .e) (.n Tryz.f200 .e .e)) (.n Tryz.f104 (.n Tryz.f168 (.n Tryz.f296 .e .e) .e) (.n Tryz.f232 .e .e))) (.n Tryz.f56 (.n Tryz.f88 (.n Tryz.f152 (.n Tryz.f280 .e .e) .e) (.n Tryz.f216 .e .e)) (.n Tryz.f120 (.n Tryz.f184 (.n Tryz.f312 .e .e) .e) (.n Tryz.f248 .e .e))))) (.n Tryz.f12 (.n Tryz.f20 (.n Tryz.f36 (.n Tryz.f68 (.n Tryz.f132 (.n Tryz.f260 .e .e) .e) (.n Tryz.f196 .e .e)) (.n Tryz.f100 (.n Tryz.f164 (.n Tryz.f292 .e .e) .e) (.n Tryz.f228 .e .e))) (.n Tryz.f52 (.n Tryz.f84 (.n Tryz.f148 (.n Tryz.f276 .e .e) .e) (.n Tryz.f212 .e .e)) (.n Tryz.f116 (.n Tryz.f180 (.n Tryz.f308 .e .e) .e) (.n Tryz.f244 .e .e)))) (.n Tryz.f28 (.n Tryz.f44 (.n Tryz.f76 (.n Tryz.f140 (.n Tryz.f268 .e .e) .e) (.n Tryz.f204 .e .e)) (.n Tryz.f108 (.n Tryz.f172 (.n Tryz.f300 .e .e) .e) (.n Tryz.f236 .e .e))) (.n Tryz.f60 (.n Tryz.f92 (.n Tryz.f156 (.n Tryz.f284 .e .e) .e) (.n Tryz.f220 .e .e)) (.n Tryz.f124 (.n Tryz.f188 (.n Tryz.f316 .e .e) .e) (.n Tryz.f252 .e .e)))))) (.n Tryz.f6 (.n Tryz.f10 (.n Tryz.f18 (.n Tryz.f34 (.n Tryz.f66 (.n Tryz.f130 (.n Tryz.f258 .e .e) .e) (.n Tryz.f194 .e .e)) (.n Tryz.f98 (.n Tryz.f162 (.n Tryz.f290 .e .e) .e) (.n Tryz.f226 .e .e))) (.n Tryz.f50 (.n Tryz.f82 (.n Tryz.f146 (.n Tryz.f274 .e .e) .e) (.n Tryz.f210 .e .e)) (.n Tryz.f114 (.n Tryz.f178 (.n Tryz.f306 .e .e) .e) (.n Tryz.f242 .e .e)))) (.n Tryz.f26 (.n Tryz.f42 (.n Tryz.f74 (.n Tryz.f138 (.n Tryz.f266 .e .e) .e) (.n Tryz.f202 .e .e)) (.n Tryz.f106 (.n Tryz.f170 (.n Tryz.f298 .e .e) .e) (.n Tryz.f234 .e .e))) (.n Tryz.f58 (.n Tryz.f90 (.n Tryz.f154 (.n Tryz.f282 .e .e) .e) (.n Tryz.f218 .e .e)) (.n Tryz.f122 (.n Tryz.f186 (.n Tryz.f314 .e .e) .e) (.n Tryz.f250 .e .e))))) (.n Tryz.f14 (.n Tryz.f22 (.n Tryz.f38 (.n Tryz.f70 (.n Tryz.f134 (.n Tryz.f262 .e .e) .e) (.n Tryz.f198 .e .e)) (.n Tryz.f102 (.n Tryz.f166 (.n Tryz.f294 .e .e) .e) (.n Tryz.f230 .e .e))) (.n Tryz.f54 (.n Tryz.f86 (.n Tryz.f150 (.n Tryz.f278 .e .e) .e) (.n Tryz.f214 .e .e)) (.n Tryz.f118 (.n Tryz.f182 (.n Tryz.f310 .e .e) .e) (.n Tryz.f246 .e .e)))) (.n Tryz.f30 (.n Tryz.f46 (.n Tryz.f78 (.n Tryz.f142 (.n Tryz.f270 .e .e) .e) (.n Tryz.f206 .e .e)) (.n Tryz.f110 (.n Tryz.f174 (.n Tryz.f302 .e .e) .e) (.n Tryz.f238 .e .e))) (.n Tryz.f62 (.n Tryz.f94 (.n Tryz.f158 (.n Tryz.f286 .e .e) .e) (.n Tryz.f222 .e .e)) (.n Tryz.f126 (.n Tryz.f190 .e .e) (.n Tryz.f254 .e .e))))))))
noncomputable abbrev Tryz.ty:Ty:=Tryz.tyT.get
noncomputable abbrev Tryz.fns:FuncId->Option Func:=Tryz.fnT.get
def Tryz.glob:Nat->Option (List AV)
 | 0=>some (qE Rows.laid_gudgeon_show_names)
 | 1=>some (qE Rows.laid_gudgeon_term_asks)
 | 2=>some (qE Rows.laid_unicode_utf8_first)
 | 3=>some (qE Rows.laid_unicode_utf8_acceptRanges)
 | 5=>some (qE Rows.laid_internal_strconv_uint64pow10)
 | 6=>some (qE Rows.laid_math_bits_deBruijn32tab)
 | 7=>some (qE Rows.laid_math_bits_deBruijn64tab)
 | _=>none
def Tryz.pmT:Nat:=0x3ff803ffbffefffff7fffef73ffff381b0f83fcd8f3c7f03bfffe702a77c17ffffc30f5f3fffffff
def Tryz.pmX:List (Nat×Nat):=[(87,57),(57,109),(97,148),(94,146),(96,148),(120,65)]
def Tryz.pm (f g:FuncId):Bool:=bO Tryz.pmT g&&!(Tryz.pmX.any fun p=>Nat.beq p.1 f&&Nat.beq p.2 g)
def Tryz.fz (f:FuncId):Bool:=bO 0x200000000000000000000008000020000308040000000 f
def Tryz.se:FuncId->List Bool
 | 30=>[false,true,true]
 | _=>[]
def Tryz.kpT:Tr Nat:=(.n 0x0 (.n 0x0 (.n 0x0 (.n 0x0 (.n 0x0 (.n 0x0 (.n 0x6f8 (.n 0x7000010 (.n 0x0 .e .e) .e) (.n 0x0 .e .e)) (.n 0x0 (.n 0x3 (.n 0x0 .e .e) .e) (.n 0x183 .e .e))) (.n 0x0 (.n 0x0 (.n 0x0 (.n 0x0 .e .e) .e) (.n 0x0 .e .e)) (.n 0x1c3 (.n 0xc3 (.n 0x0 .e .e) .e) (.n 0x303 .e .e)))) (.n 0x61 (.n 0x0 (.n 0x0 (.n 0x721 (.n 0x0 .e .e) .e) (.n 0x0 .e .e)) (.n 0x0 (.n 0x390 (.n 0x0 .e .e) .e) (.n 0x0 .e .e))) (.n 0x0 (.n 0x1c000000000000000000445 (.n 0x19 (.n 0x0 .e .e) .e) (.n 0x0 .e .e)) (.n 0x0 (.n 0x70001c000a (.n 0x0 .e .e) .e) (.n 0x23 .e .e))))) (.n 0x61 (.n 0x0 (.n 0x26 (.n 0x79 (.n 0x0 (.n 0x0 .e .e) .e) (.n 0x0 .e .e)) (.n 0x0 (.n 0x0 (.n 0x0 .e .e) .e) (.n 0x183 .e .e))) (.n 0x38060001 (.n 0x0 (.n 0x0 (.n 0x0 .e .e) .e) (.n 0x13112 .e .e)) (.n 0x0 (.n 0x600c3 (.n 0x0 .e .e) .e) (.n 0x9 .e .e)))) (.n 0x32 (.n 0x19 (.n 0x0 (.n 0x0 (.n 0x9 .e .e) .e) (.n 0x0 .e .e)) (.n 0xe00000000001 (.n 0x31 (.n 0x0 .e .e) .e) (.n 0x0 .e .e))) (.n 0x9 (.n 0x0 (.n 0x0 (.n 0x0 .e .e) .e) (.n 0x0 .e .e)) (.n 0x0 (.n 0x0 (.n 0x0 .e .e) .e) (.n 0x0 .e .e)))))) (.n 0x0 (.n 0x3923 (.n 0x0 (.n 0x1a (.n 0x0 (.n 0x19 (.n 0x65 .e .e) .e) (.n 0x0 .e .e)) (.n 0xc06 (.n 0x3 (.n 0x1f1 .e .e) .e) (.n 0x0 .e .e))) (.n 0x23 (.n 0x0 (.n 0x0 (.n 0x0 .e .e) .e) (.n 0x23 .e .e)) (.n 0x0 (.n 0x3842 (.n 0x0 .e .e) .e) (.n 0x19 .e .e)))) (.n 0x0 (.n 0x0 (.n 0x0 (.n 0x0 (.n 0x13 .e .e) .e) (.n 0x61 .e .e)) (.n 0x0 (.n 0x0 (.n 0x0 .e .e) .e) (.n 0x0 .e .e))) (.n 0x0 (.n 0xe3 (.n 0x0 (.n 0x0 .e .e) .e) (.n 0x189 .e .e)) (.n 0x0 (.n 0x0 (.n 0x0 .e .e) .e) (.n 0x0 .e .e))))) (.n 0x5e1 (.n 0x0 (.n 0x0 (.n 0x0 (.n 0x0 (.n 0x0 .e .e) .e) (.n 0x0 .e .e)) (.n 0x0 (.n 0x0 (.n 0x0 .e .e) .e) (.n 0x60000030000000000c07 .e .e))) (.n 0x0 (.n 0x0 (.n 0xe0000000e000069 (.n 0x0 .e .e) .e) (.n 0x185 .e .e)) (.n 0x79 (.n 0x0 (.n 0x0 .e .e) .e) (.n 0x0 .e .e)))) (.n 0xe1 (.n 0x3008 (.n 0x0 (.n 0x0 (.n 0x0 .e .e) .e) (.n 0x0 .e .e)) (.n 0xe000e49 (.n 0x63 (.n 0x0 .e .e) .e) (.n 0x0 .e .e))) (.n 0x75 (.n 0x0 (.n 0x0 (.n 0x0 .e .e) .e) (.n 0x0 .e .e)) (.n 0x66 (.n 0x79 (.n 0x0 .e .e) .e) (.n 0x0 .e .e))))))) (.n 0x0 (.n 0x0 (.n 0x0 (.n 0x0 (.n 0x36a (.n 0x0 (.n 0x710 (.n 0x0 .e .e) .e) (.n 0xe1 .e .e)) (.n 0x0 (.n 0x15 (.n 0x0 .e .e) .e) (.n 0x0 .e .e))) (.n 0x2e3 (.n 0x0 (.n 0x0 (.n 0x0 .e .e) .e) (.n 0x0 .e .e)) (.n 0x19 (.n 0xe0000c3 (.n 0x0 .e .e) .e) (.n 0x0 .e .e)))) (.n 0x0 (.n 0x0 (.n 0x0 (.n 0x89 (.n 0x0 .e .e) .e) (.n 0x0 .e .e)) (.n 0x0 (.n 0x9 (.n 0x0 .e .e) .e) (.n 0x0 .e .e))) (.n 0x0 (.n 0x187 (.n 0x0 (.n 0x0 .e .e) .e) (.n 0x0 .e .e)) (.n 0x1e44 (.n 0x0 (.n 0x0 .e .e) .e) (.n 0x183 .e .e))))) (.n 0x2f83 (.n 0x0 (.n 0x0 (.n 0x1c8 (.n 0x0 (.n 0x0 .e .e) .e) (.n 0x0 .e .e)) (.n 0x0 (.n 0xd (.n 0x0 .e .e) .e) (.n 0x0 .e .e))) (.n 0x380c2 (.n 0x0 (.n 0x0 (.n 0x0 .e .e) .e) (.n 0x1c1 .e .e)) (.n 0x388 (.n 0x30701e2 (.n 0x0 .e .e) .e) (.n 0x0 .e .e)))) (.n 0x19 (.n 0x3008 (.n 0x21 (.n 0x0 (.n 0x7e3 .e .e) .e) (.n 0x0 .e .e)) (.n 0x0 (.n 0x61 (.n 0x0 .e .e) .e) (.n 0x0 .e .e))) (.n 0xe09 (.n 0x0 (.n 0x0 (.n 0x7e3 .e .e) .e) (.n 0x23 .e .e)) (.n 0x0 (.n 0x0 (.n 0x0 .e .e) .e) (.n 0x0 .e .e)))))) (.n 0x0 (.n 0x607 (.n 0x9c (.n 0x0 (.n 0x19 (.n 0x0 (.n 0x0 .e .e) .e) (.n 0x0 .e .e)) (.n 0x0 (.n 0x3 (.n 0x0 .e .e) .e) (.n 0x0 .e .e))) (.n 0x30001 (.n 0x0 (.n 0x0 (.n 0x0 .e .e) .e) (.n 0x0 .e .e)) (.n 0x1fe (.n 0x1c000000707 (.n 0x0 .e .e) .e) (.n 0x19 .e .e)))) (.n 0x0 (.n 0x0 (.n 0x0 (.n 0x0 (.n 0x3fc1b .e .e) .e) (.n 0x0 .e .e)) (.n 0x0 (.n 0x1f43 (.n 0x0 .e .e) .e) (.n 0x7fffffffffffffffffffffffffffffe0030ffffffffffff .e .e))) (.n 0x0 (.n 0x1d1 (.n 0x0 (.n 0x0 .e .e) .e) (.n 0x23 .e .e)) (.n 0x0 (.n 0x183 (.n 0x0 .e .e) .e) (.n 0x23 .e .e))))) (.n 0x0 (.n 0x0 (.n 0x19 (.n 0x70022 (.n 0x7091 (.n 0x0 .e .e) .e) (.n 0x0 .e .e)) (.n 0x0 (.n 0x60038003d03 (.n 0x0 .e .e) .e) (.n 0x11 .e .e))) (.n 0x0 (.n 0xf607 (.n 0x19 (.n 0x0 .e .e) .e) (.n 0x0 .e .e)) (.n 0x0 (.n 0x0 (.n 0x0 .e .e) .e) (.n 0x0 .e .e)))) (.n 0x0 (.n 0x0 (.n 0x0 (.n 0x0 (.n 0x14 .e .e) .e) (.n 0x0 .e .e)) (.n 0x9 (.n 0x23 (.n 0x0 .e .e) .e) (.n 0x3 .e .e))) (.n 0x0 (.n 0x0 (.n 0x0 (.n 0x0 .e .e) .e) (.n 0x183 .e .e)) (.n 0x0 (.n 0x0 .e .e) (.n 0x0 .e .e))))))))
def Tryz.kp (f:FuncId):Nat:=(Tryz.kpT.get f).getD 0
def Tryz.eqOk (t:TypeId):Bool:=Nat.beq t 109
def Tryz.primT (P:Ty):FuncId->Option (List AV->St->Option (AV×St))
 | 146=>some (eZ P 67)
 | 147=>some (eZ P 151)
 | 148=>some (eZ P 33)
 | 152=>some (eZ P 3)
 | 153=>some (eZ P 211)
 | 154=>some (eZ P 109)
 | 206=>some GV
 | 232=>some UI
 | 271=>some IS
 | 285=>some oO
 | 286=>some (AH 5)
 | _=>none
def Tryz.prim (P:Ty) (f:FuncId):Option (List AV->St->Option (AV×St)):=cond (bO 0x60008000000001000000400000000000071c000000000000000000000000000000000000 f) (Tryz.primT P f) none
noncomputable def mEv:lX:=⟨Tryz.ty,Tryz.fns,Tryz.eqOk,Tryz.glob,Tryz.pm,Tryz.kp,Tryz.fz,Tryz.prim Tryz.ty,Tryz.se⟩
def Tryz.prim0 (P:Ty) (f:FuncId):Option (List AV->St->Option (AV×St)):=cond (bO 0x600080000000010000004000000000000000000000000000000000000000000000000000 f) (Tryz.primT P f) none
noncomputable def Tryz.env0:lX:={ mEv with prim:=Tryz.prim0 Tryz.ty }
end
noncomputable section
noncomputable abbrev bn (op:BinOp) (t:TypeId) (x y:AV):Option AV:=lA Tryz.ty Tryz.eqOk op t x y
noncomputable abbrev zr (t:TypeId):Option AV:=zero Tryz.ty t
noncomputable abbrev eE (t:TypeId) (l:List (Nat×AV)):Option AV:=DP Tryz.ty t l
noncomputable abbrev fZ (t:TypeId) (n:Nat) (l:List (Nat×AV)):Option AV:=iQ Tryz.ty t n l
noncomputable abbrev cv (a b:TypeId) (x:AV) (s:St):Option AV:=kG Tryz.ty a b x s
noncomputable abbrev jM (t:TypeId) (x:AV) (lo hi mx:Option AV) (s:St):Option AV:=fJ Tryz.ty t x lo hi mx s
noncomputable abbrev bt (b:Builtin) (ats:Array TypeId) (args:List AV) (id:Nat) (s:St):Option (AV×St):=bG (bX mEv) b ats args id s
noncomputable abbrev rK (f:Func) (Q:aC):Kt:=fun g s=>bT (iB Tryz.ty f g s) fun v=>Q v s
abbrev Y:Bool:=true
abbrev N:Bool:=false
abbrev ld (z:Nat) (ag:Bool) (a:AV) (s:St):Option AV:=Ai.load z ag a s
abbrev bQ (z:Nat) (a x:AV) (s:St):Option St:=Ai.store z a x s
noncomputable abbrev uK (t:TypeId) (x i:AV):Option AV:=yE Tryz.ty t x i
noncomputable def gl (n:Nat):AV:=ev (bX mEv) (fun _=>.undef) (.global n)
end
noncomputable section
set_option maxRecDepth 1000000
abbrev aX:Nat->Gf->St->Prop:=fun _ _ _=>False
abbrev cE (j:Nat) (a:Kt) (k:Nat->Kt):Nat->Kt:=fun i=>cond (Nat.beq i j) a (k i)
abbrev mA (L:Nat->Kt) (h n:Nat):Kt:=fun g s=>L n (fun k=>cond (bO (mEv.kp h) k) (g k) .undef) s
def fY {T:Type} (b:T) (f:T->T) (n:Nat):T:=Nat.rec (motive:=fun _=>T) b (fun _ ih=>f ih) n
abbrev eG (h:Nat) (a:List AV) (s:St) (Q:aC):Prop:=∃ r s',WideC mEv h a s r s'/\Q r s'
def bIb (Q:aC) (t3:AV) (s:St):Prop:=Q t3 (adv s 2)
def bHl (Q:aC) (ih1:AV->AV->aC) (t4 t1 t3:AV) (s:St):Prop:=aA (bn .add 3 t4 (.int .i64 1)) fun t15=>ih1 t1 t3 t15 (adv s 3)
def bCx (Q:aC) (ih1:AV->AV->aC) (t1 t3 t4:AV) (s:St):Prop:=aA (aD 5 t1) fun t6=>aA (ld 1 false t6 (adv s 9)) fun t7=>aA (bt .len #[31] [t7] (s.nx+3) (adv s 9)) fun r8=>aA (bn .lss 3 t4 r8.1) fun t9=>Gd (aB t9 true) r8.2 (fun k=>k t3 r8.2) fun t11 s1=>Gd (aB t9 true) s1 (fun k=>aA (bn .leq 3 t11 (.int .i64 5000)) fun v=>k v s1) fun t12 s2=>aA (aJ t9 t12 (.bool false)) fun t13=>aP t13
 (aA (aD 5 t1) fun t17=>aA (ld 1 false t17 (adv s2 9)) fun t18=>aA (cA 6 t18 t4) fun t20=>aA (ld 6 true t20 (adv s2 9)) fun t21=>aE mEv 33 [t21] (adv s2 9) fun t22 s3=>aA (bn .add 3 t3 t22) fun t23=>bHl Q ih1 t4 t1 t23 s3)
 (bIb Q t3 s2)
def bLs (Q:aC) (n:Nat):AV->AV->aC:=fY (fun _ _ _ _ =>False) (fun ih=>bCx Q ih) n
def f33 (Q:aC) (t0:AV) (s:St):Prop:=(t0.cells.all AV.one=true /\
 ∃ n,bLs Q n (.ptr s.nx 0) (.int .i64 1) (.int .i64 0) (adv ((adv s 2).set s.nx (some (.cells t0.cells 33 true true))) 2))
def f74 (Q:aC) (t0:AV) (s:St):Prop:=(t0.cells.all AV.one=true /\
 aA (ld 6 true (.ptr s.nx 0) (adv ((adv s 2).set s.nx (some (.cells t0.cells 33 true true))) 3)) fun t3=>aE mEv 125 [t3,(.int .i64 65)] (adv ((adv s 2).set s.nx (some (.cells t0.cells 33 true true))) 3) fun t4 s1=>Q t4 s1)
def bAj (Q:aC) (t5:AV) (s:St):Prop:=aA (bn .add 3 t5 (.int .i64 1)) fun t35=>Q t35 (adv s 3)
def aCt (Q:aC) (ih1:AV->AV->AV->aC) (t6 t1 t2 t5:AV) (s:St):Prop:=aA (bn .add 3 t6 (.int .i64 1)) fun t21=>ih1 t1 t2 t5 t21 (adv s 3)
def aPj (Q:aC) (ih1:AV->AV->AV->aC) (t1 t2 t5 t6:AV) (s:St):Prop:=aA (aD 5 t2) fun t16=>aA (ld 1 false t16 (adv s 5)) fun t17=>aA (bt .len #[31] [t17] (s.nx+3) (adv s 5)) fun r18=>aA (bn .lss 3 t6 r18.1) fun t19=>aP t19
 (aA (aD 5 t2) fun t22=>aA (ld 1 false t22 (adv r18.2 9)) fun t23=>aA (cA 6 t23 t6) fun t25=>aA (ld 6 true t25 (adv r18.2 9)) fun t26=>aA (bn .sub 3 t1 (.int .i64 1)) fun t28=>aE mEv 125 [t26,t28] (adv r18.2 9) fun t29 s1=>aA (bn .gtr 3 t29 t5) fun t32=>aP t32
 (aCt Q ih1 t6 t1 t2 t29 (adv s1 5))
 (aCt Q ih1 t6 t1 t2 t5 (adv s1 3)))
 (bAj Q t5 r18.2)
def aYt (Q:aC) (n:Nat):AV->AV->AV->aC:=fY (fun _ _ _ _ _ =>False) (fun ih=>aPj Q ih) n
def f125 (Q:aC) (t0 t1:AV) (s:St):Prop:=(t0.cells.all AV.one=true /\
 aA (aD 0 (.ptr s.nx 0)) fun t8=>aA (ld 1 false t8 (adv ((adv s 2).set s.nx (some (.cells t0.cells 33 true true))) 7)) fun t9=>aA (un .not t9) fun t10=>Gd (aB t10 false) (adv ((adv s 2).set s.nx (some (.cells t0.cells 33 true true))) 7) (fun k=>k t1 (adv ((adv s 2).set s.nx (some (.cells t0.cells 33 true true))) 7)) fun t12 s1=>Gd (aB t10 false) s1 (fun k=>aA (bn .eql 3 t12 (.int .i64 0)) fun v=>k v s1) fun t13 s2=>aA (aJ t10 (.bool true) t13) fun t14=>aP t14
 (Q (.int .i64 0) (adv s2 1))
 (∃ n,aYt Q n t1 (.ptr s.nx 0) (.int .i64 0) (.int .i64 0) (adv s2 2)))
def bEd (Q:aC) (s:St):Prop:=Q (.bool true) (adv s 1)
def bDp (Q:aC) (ih1:AV->AV->AV->aC) (t7 t0 t5 t6:AV) (s:St):Prop:=aA (bn .add 3 t7 (.int .i64 1)) fun t26=>ih1 t0 t5 t6 t26 (adv s 3)
def aYe (Q:aC) (ih1:AV->AV->AV->aC) (t0 t7 t5 t6:AV) (s:St):Prop:=aA (cA 10 t0 t7) fun t44=>aA (aD 3 t44) fun t45=>aA (ld 1 false t45 (adv s 24)) fun t46=>aA (bt .len #[65] [t46] (s.nx+5) (adv s 24)) fun r47=>aA (bn .gtr 3 r47.1 (.int .i64 3)) fun t48=>Gd (aB t48 false) r47.2 (fun k=>k t0 r47.2) fun t50 s1=>Gd (aB t48 false) s1 (fun k=>k t7 s1) fun t51 s2=>Gd (aB t48 false) s2 (fun k=>aA (cA 10 t50 t51) fun v=>k v s2) fun t52 s3=>Gd (aB t48 false) s3 (fun k=>aA (aD 4 t52) fun v=>k v s3) fun t53 s4=>Gd (aB t48 false) s4 (fun k=>aA (ld 6 true t53 s4) fun v=>k v s4) fun t54 s5=>Gd (aB t48 false) s5 (fun k=>aE mEv 74 [t54] s5 k) fun t55 s6=>Gd (aB t48 false) s6 (fun k=>aA (bn .gtr 3 t55 (.int .i64 64)) fun v=>k v s6) fun t56 s7=>aA (aJ t48 (.bool true) t56) fun t57=>Gd (aB t57 false) s7 (fun k=>k t5 s7) fun t59 s8=>Gd (aB t57 false) s8 (fun k=>aA (bn .gtr 3 t59 (.int .i64 600)) fun v=>k v s8) fun t60 s9=>aA (aJ t57 (.bool true) t60) fun t61=>Gd (aB t61 false) s9 (fun k=>k t6 s9) fun t63 s10=>Gd (aB t61 false) s10 (fun k=>aA (bn .gtr 3 t63 (.int .i64 8)) fun v=>k v s10) fun t64 s11=>aA (aJ t61 (.bool true) t64) fun t65=>aP t65
 (Q (.bool false) (adv s11 1))
 (bDp Q ih1 t7 t0 t5 t6 s11)
def aYq (Q:aC) (ih1:AV->AV->AV->aC) (t0 t5 t6 t7:AV) (s:St):Prop:=aA (bt .len #[49] [t0] (s.nx+2) (adv s 4)) fun r23=>aA (bn .lss 3 t7 r23.1) fun t24=>aP t24
 (aA (cA 10 t0 t7) fun t30=>aA (aD 4 t30) fun t31=>aA (ld 6 true t31 (adv r23.2 9)) fun t32=>aE mEv 33 [t32] (adv r23.2 9) fun t33 s1=>aA (bn .add 3 t5 t33) fun t34=>aA (cA 10 t0 t7) fun t37=>aA (aD 2 t37) fun t38=>aA (ld 1 false t38 (adv s1 5)) fun t39=>aP t39
 (aA (bn .add 3 t6 (.int .i64 1)) fun t41=>aYe Q ih1 t0 t7 t34 t41 (adv s1 8))
 (aYe Q ih1 t0 t7 t34 t6 (adv s1 5)))
 (bEd Q r23.2)
def bKb (Q:aC) (n:Nat):AV->AV->AV->aC:=fY (fun _ _ _ _ _ =>False) (fun ih=>aYq Q ih) n
def f29 (Q:aC) (t0 t1:AV) (s:St):Prop:=(t1.cells.all AV.one=true /\
 aA (bt .len #[49] [t0] (((adv s 2).set s.nx (some (.cells t1.cells 33 true true))).nx+1) (adv ((adv s 2).set s.nx (some (.cells t1.cells 33 true true))) 13)) fun r9=>aA (bn .gtr 3 r9.1 (.int .i64 60)) fun t10=>Gd (aB t10 false) r9.2 (fun k=>aA (ld 6 true (.ptr s.nx 0) r9.2) fun v=>k v r9.2) fun t12 s1=>Gd (aB t10 false) s1 (fun k=>aE mEv 33 [t12] s1 k) fun t13 s2=>Gd (aB t10 false) s2 (fun k=>aA (bn .gtr 3 t13 (.int .i64 600)) fun v=>k v s2) fun t14 s3=>aA (aJ t10 (.bool true) t14) fun t15=>Gd (aB t15 false) s3 (fun k=>aA (ld 6 true (.ptr s.nx 0) s3) fun v=>k v s3) fun t17 s4=>Gd (aB t15 false) s4 (fun k=>aE mEv 74 [t17] s4 k) fun t18 s5=>Gd (aB t15 false) s5 (fun k=>aA (bn .gtr 3 t18 (.int .i64 64)) fun v=>k v s5) fun t19 s6=>aA (aJ t15 (.bool true) t19) fun t20=>aP t20
 (Q (.bool false) (adv s6 1))
 (∃ n,bKb Q n t0 (.int .i64 0) (.int .i64 0) (.int .i64 0) (adv s6 3)))
def f93 (Q:aC) (t0 t1:AV) (s:St):Prop:=(t1.cells.all AV.one=true /\
 aA (ld 6 true (.ptr s.nx 0) (adv ((adv s 2).set s.nx (some (.cells t1.cells 33 true true))) 4)) fun t7=>aE mEv 29 [t0,t7] (adv ((adv s 2).set s.nx (some (.cells t1.cells 33 true true))) 4) fun t8 s1=>aP t8
 (Q (.int .i64 0) (adv s1 2))
 (Q (.int .i64 1) (adv s1 2)))
end
noncomputable section
section
variable {T:Ty} {q:TypeId->Bool} {t:TypeId} {k:IntKind} {a b:Int} {x y:List UInt8} {s:St} {n m:Nat}
theorem bin_add:lA T q .add t (.int k a) (.int k b)=some (.int k (k.wrap (a+b))):=by simp [lA,dC,eL]
theorem bin_sub:lA T q .sub t (.int k a) (.int k b)=some (.int k (k.wrap (a - b))):=by simp [lA,dC,eL]
theorem bin_mul:lA T q .mul t (.int k a) (.int k b)=some (.int k (k.wrap (a * b))):=by simp [lA,dC,eL]
theorem bin_lss:lA T q .lss t (.int k a) (.int k b)=some (.bool (decide (a < b))):=by simp [lA,dC,eL]
theorem bin_leq:lA T q .leq t (.int k a) (.int k b)=some (.bool (decide (a<=b))):=by simp [lA,dC,eL]
theorem bin_gtr:lA T q .gtr t (.int k a) (.int k b)=some (.bool (decide (a > b))):=by simp [lA,dC,eL]
theorem bin_geq:lA T q .geq t (.int k a) (.int k b)=some (.bool (decide (a >= b))):=by simp [lA,dC,eL]
theorem bin_eql:lA T q .eql t (.int k a) (.int k b)=some (.bool (a==b)):=by simp [lA,dC,eL]
theorem bin_neq:lA T q .neq t (.int k a) (.int k b)=some (.bool (a != b)):=by simp [lA,dC,eL]
theorem bin_seql:lA T q .eql t (.str x) (.str y)=some (.bool (x==y)):=rfl
theorem bin_sneq:lA T q .neq t (.str x) (.str y)=some (.bool !(x==y)):=rfl
theorem un_not {b:Bool}:un .not (.bool b)=some (.bool !b):=rfl
theorem wantV_bool {b w:Bool}:aB (.bool b) w=some (b==w):=rfl
theorem pickV_bool {c:Bool} {u v:AV}:aJ (.bool c) u v=some (cond c u v):=rfl
theorem extr_tup {l:List AV} {i:Nat}:aQ (.tup l) i=l[i]?:=rfl
theorem shiftP_ptr {i o:Nat}:aD n (.ptr i o)=some (.ptr i (o+n)):=rfl
theorem shiftP_pel {c:List AV} {o:Nat}:aD n (.pel c o)=some (.pel c (o+n)):=rfl
theorem adv_h:(adv s n).h=s.h:=rfl
theorem adv_nx:(adv s n).nx=s.nx+n:=rfl
theorem set_h {o:Option mK}:(s.set n o).h m=cond (Nat.beq m n) o (s.h m):=rfl
theorem set_nx {o:Option mK}:(s.set n o).nx=s.nx:=rfl
theorem beq_self':Nat.beq n n=true:=by simp
theorem ld_pel {c:List AV} {o z:Nat} {ag:Bool}:ld z ag (.pel c o) s=Ai.part z ag o c:=rfl
theorem ld_ptr {i o z:Nat} {ag:Bool}:ld z ag (.ptr i o) s=match s.h i with
  | some (.cells c _ _ _)=>Ai.part z ag o c
  | _=>none:=rfl
theorem part_one {c:List AV} {o z:Nat}:Ai.part z false o c=c[o]?:=rfl
theorem CN {c:List AV} {o z:Nat}:Ai.part z true o c=if o+z<=c.length then some (.agg ((c.drop o).take z)) else none:=rfl
theorem ftb:(false==true)=false:=rfl
theorem tfb:(true==false)=false:=rfl
theorem wz:type_of% (And.intro @shiftP_ptr <| And.intro @shiftP_pel <| And.intro @Bnd_some <| And.intro @IfP_bool <| And.intro @Gd_some <| And.intro @ld_ptr <| And.intro @ld_pel <| And.intro @adv_h <| And.intro @adv_nx <| And.intro @set_h <| And.intro @set_nx <| And.intro @beq_self' <| And.intro @part_one <| And.intro @un_not <| And.intro @wantV_bool <| And.intro @pickV_bool <| And.intro @extr_tup <| And.intro @bin_lss <| And.intro @bin_leq <| And.intro @bin_gtr <| And.intro @bin_geq <| And.intro @bin_eql <| And.intro @bin_neq <| And.intro @bin_seql <| And.intro @bin_sneq <| And.intro @bin_add <| And.intro @bin_sub <| And.intro @m023 <| And.intro @m015 <| And.intro @m025 <| And.intro @m027 <| And.intro @ftb @tfb):=And.intro @shiftP_ptr <| And.intro @shiftP_pel <| And.intro @Bnd_some <| And.intro @IfP_bool <| And.intro @Gd_some <| And.intro @ld_ptr <| And.intro @ld_pel <| And.intro @adv_h <| And.intro @adv_nx <| And.intro @set_h <| And.intro @set_nx <| And.intro @beq_self' <| And.intro @part_one <| And.intro @un_not <| And.intro @wantV_bool <| And.intro @pickV_bool <| And.intro @extr_tup <| And.intro @bin_lss <| And.intro @bin_leq <| And.intro @bin_gtr <| And.intro @bin_geq <| And.intro @bin_eql <| And.intro @bin_neq <| And.intro @bin_seql <| And.intro @bin_sneq <| And.intro @bin_add <| And.intro @bin_sub <| And.intro @m023 <| And.intro @m015 <| And.intro @m025 <| And.intro @m027 <| And.intro @ftb @tfb
theorem wy.{u}:type_of% (And.intro @cond_true.{u} <| And.intro @cond_false.{u} <| And.intro @List.getElem?_cons_zero.{u} <| And.intro @List.getElem?_cons_succ.{u} <| And.intro @beq_self_eq_true.{u} <| And.intro @if_true.{u} <| And.intro @if_false.{u} <| And.intro @m052.{u} @List.not_mem_nil.{u}):=And.intro @cond_true.{u} <| And.intro @cond_false.{u} <| And.intro @List.getElem?_cons_zero.{u} <| And.intro @List.getElem?_cons_succ.{u} <| And.intro @beq_self_eq_true.{u} <| And.intro @if_true.{u} <| And.intro @if_false.{u} <| And.intro @m052.{u} @List.not_mem_nil.{u}
theorem aM {h:FuncId} {args:List AV} {v:AV} {K:aC} (hc:aU mEv h args v) (hcl:∀ x∈args,x.closed=true) (hk:K v s):aE mEv h args s K:=by
 have hp:dJ (pur mEv.P s 12) args=some (args,[]):=by
  clear hc
  induction args with
  | nil=>rfl
  | cons x l ih =>
   have hx:pur mEv.P s 12 x=some (x,[]):=by unfold pur;rw [if_pos (hcl x (m007 ..))]
   simp only [dJ,hx,ih fun y hy=>hcl y (m005 _ hy),m011]
 refine .mk args [] v hp hc ?_;simpa using hk
theorem bI {h:FuncId} {args:List AV} {v:AV} (hv:v.closed=true) (hw:∃ r s',WideC mEv h args St.empty r s'/\r=v):aU mEv h args v:=by obtain ⟨r,s',h1,rfl⟩:=hw;exact AC ⟨r,s',h1,[],by unfold pur;rw [if_pos hv]⟩
end
end
noncomputable section
set_option maxRecDepth 100000
section
universe u
variable {α:Type}
def Tr.lst:Tr α->(Nat->Nat)->List (Nat×α)
 | .e,_=>[]
 | .n v l r,f=>(f 0,v)::(Tr.lst l (fun k=>f (2 * k+1))++Tr.lst r (fun k=>f (2 * k+2)))
theorem Tr.lst_get (t:Tr α):∀ (f:Nat->Nat) (k:Nat) (v:α),t.get k=some v->(f k,v)∈Tr.lst t f:=by
 induction t with
 | e=>intro f k v h;cases h
 | n x l r il ir =>
  intro f k v h;simp only [Tr.get] at h;simp only [Tr.lst]
  cases h0:Nat.beq k 0 with
  | true =>rw [h0] at h;simp only [cond_true,m000] at h;have:=jS h0;subst this;subst h;exact m007 ..
  | false =>
   rw [h0] at h;simp only [cond_false] at h;have hk:k≠0:=by intro e;subst e;cases h0
   cases h1:Nat.beq (k % 2) 1 with
   | true =>
    rw [h1] at h;have h2:=jS h1;have:=il (fun k=>f (2 * k+1)) (k / 2) v h;refine m005 _ (m041 _ ?_)
    rwa [show 2 * (k / 2)+1=k by omega] at this
   | false =>
    rw [h1] at h;have h2:k % 2≠1:=by intro e;rw [e] at h1;cases h1
    have:=ir (fun k=>f (2 * k+2)) (k / 2 - 1) v h;refine m005 _ (m049 _ ?_)
    rwa [show 2 * (k / 2 - 1)+2=k by omega] at this
theorem OT {β:Type} {l:List (Nat×α)} {p:Nat->Option α} (h:l.map (fun q=>p q.1)=l.map fun q=>some q.2):∀ q∈l,p q.1=some q.2:=by
 induction l with
 | nil=>intro q hq;cases hq
 | cons x l ih =>
  simp only [m039,m057] at h;intro q hq;rcases m013.1 hq with rfl | hq
  ·exact h.1
  ·exact ih h.2 q hq
end
theorem IZ:dO Tryz.prog Tryz.ty:=by intro t i h;have:=Tr.lst_get Tryz.tyT id t i h;exact OT (β:=Nat) (p:=fun t=>Tryz.prog.info? t) (l:=Tr.lst Tryz.tyT id) (by kernel_rfl) _ this
theorem UF:∀ f fn,Tryz.fns f=some fn->Tryz.prog.funcs[f]?=some fn:=by intro t i h;have:=Tr.lst_get Tryz.fnT id t i h;exact OT (β:=Nat) (p:=fun t=>Tryz.prog.funcs[t]?) (l:=Tr.lst Tryz.fnT id) (by kernel_rfl) _ this
theorem FT:∀ f fn,Tryz.fns f=some fn->fn.name≠"runtime.NumGoroutine":=by
 intro t i h;have h1:=Tr.lst_get Tryz.fnT id t i h
 have h2:((Tr.lst Tryz.fnT id).all fun q=>!(q.2.name == "runtime.NumGoroutine"))=true:=by kernel_rfl
 have h3:=m032.1 h2 _ h1;simpa using h3
end
noncomputable section
set_option maxRecDepth 1000000
abbrev aVx:Code:=aN Tryz.f146
abbrev aWb:=rK Tryz.f146
abbrev bJp:=aL Tryz.env0 146 (Tryz.env0.kp 146)
def bFa (Q:aC) (t0:AV) (s:St):Prop :=
 aA (bn .eql 49 t0 .nils) fun t4 =>
 aP t4
 (Q .nils (adv s 4))
 (aA (fZ 49 0 []) fun t5 =>
 aA (bt .append #[49,49] [t5,t0] (s.nx+5) (adv s 7)) fun r7 =>
 Q r7.1 r7.2)
theorem aJo (t0:AV) (s:St) {Q:aC} (h:bFa Q t0 s):∃ r s',WideC Tryz.env0 146 [t0] s r s'/\Q r s' :=
 aH (h:=146) (fn:=Tryz.f146) (c:=sub aVx []) (show bJp (sub aVx []) (aWb Q) (fun _ _ _=>False) (aWb Q)=_ from rfl) h
abbrev aVt:Code:=aN Tryz.f147
abbrev aWi:=rK Tryz.f147
abbrev bJd:=aL Tryz.env0 147 (Tryz.env0.kp 147)
def bFg (Q:aC) (t0:AV) (s:St):Prop :=
 aA (bn .eql 65 t0 .nils) fun t4 =>
 aP t4
 (Q .nils (adv s 4))
 (aA (fZ 65 0 []) fun t5 =>
 aA (bt .append #[65,65] [t5,t0] (s.nx+5) (adv s 7)) fun r7 =>
 Q r7.1 r7.2)
theorem aGv (t0:AV) (s:St) {Q:aC} (h:bFg Q t0 s):∃ r s',WideC Tryz.env0 147 [t0] s r s'/\Q r s' :=
 aH (h:=147) (fn:=Tryz.f147) (c:=sub aVt []) (show bJd (sub aVt []) (aWi Q) (fun _ _ _=>False) (aWi Q)=_ from rfl) h
abbrev aWd:Code:=aN Tryz.f148
abbrev aVm:=rK Tryz.f148
abbrev bHf:=aL Tryz.env0 148 (Tryz.env0.kp 148)
def bGg (Q:aC) (t0:AV) (s:St):Prop :=
 aA (bn .eql 31 t0 .nils) fun t4 =>
 aP t4
 (Q .nils (adv s 4))
 (aA (fZ 31 0 []) fun t5 =>
 aA (bt .append #[31,31] [t5,t0] (s.nx+5) (adv s 7)) fun r7 =>
 Q r7.1 r7.2)
theorem aEi (t0:AV) (s:St) {Q:aC} (h:bGg Q t0 s):∃ r s',WideC Tryz.env0 148 [t0] s r s'/\Q r s' :=
 aH (h:=148) (fn:=Tryz.f148) (c:=sub aWd []) (show bHf (sub aWd []) (aVm Q) (fun _ _ _=>False) (aVm Q)=_ from rfl) h
abbrev aWa:Code:=aN Tryz.f152
abbrev aVo:=rK Tryz.f152
abbrev bKy:=aL Tryz.env0 152 (Tryz.env0.kp 152)
def bEf (Q:aC) (t0:AV) (s:St):Prop :=
 aA (bn .eql 72 t0 .nils) fun t4 =>
 aP t4
 (Q .nils (adv s 4))
 (aA (fZ 72 0 []) fun t5 =>
 aA (bt .append #[72,72] [t5,t0] (s.nx+5) (adv s 7)) fun r7 =>
 Q r7.1 r7.2)
theorem aKw (t0:AV) (s:St) {Q:aC} (h:bEf Q t0 s):∃ r s',WideC Tryz.env0 152 [t0] s r s'/\Q r s' :=
 aH (h:=152) (fn:=Tryz.f152) (c:=sub aWa []) (show bKy (sub aWa []) (aVo Q) (fun _ _ _=>False) (aVo Q)=_ from rfl) h
abbrev aXy:Code:=aN Tryz.f153
abbrev aXz:=rK Tryz.f153
abbrev bHw:=aL Tryz.env0 153 (Tryz.env0.kp 153)
def bFw (Q:aC) (t0:AV) (s:St):Prop :=
 aA (bn .eql 22 t0 .nils) fun t4 =>
 aP t4
 (Q .nils (adv s 4))
 (aA (fZ 22 0 []) fun t5 =>
 aA (bt .append #[22,22] [t5,t0] (s.nx+5) (adv s 7)) fun r7 =>
 Q r7.1 r7.2)
theorem aGa (t0:AV) (s:St) {Q:aC} (h:bFw Q t0 s):∃ r s',WideC Tryz.env0 153 [t0] s r s'/\Q r s' :=
 aH (h:=153) (fn:=Tryz.f153) (c:=sub aXy []) (show bHw (sub aXy []) (aXz Q) (fun _ _ _=>False) (aXz Q)=_ from rfl) h
abbrev aXn:Code:=aN Tryz.f154
abbrev aVa:=rK Tryz.f154
abbrev bIt:=aL Tryz.env0 154 (Tryz.env0.kp 154)
def bHy (Q:aC) (t0:AV) (s:St):Prop :=
 aA (bn .eql 25 t0 .nils) fun t4 =>
 aP t4
 (Q .nils (adv s 4))
 (aA (fZ 25 0 []) fun t5 =>
 aA (bt .append #[25,25] [t5,t0] (s.nx+5) (adv s 7)) fun r7 =>
 Q r7.1 r7.2)
theorem aEc (t0:AV) (s:St) {Q:aC} (h:bHy Q t0 s):∃ r s',WideC Tryz.env0 154 [t0] s r s'/\Q r s' :=
 aH (h:=154) (fn:=Tryz.f154) (c:=sub aXn []) (show bIt (sub aXn []) (aVa Q) (fun _ _ _=>False) (aVa Q)=_ from rfl) h
end
noncomputable section
section
variable {P:Program} {E:lX}
def KM (E:lX) (f:FuncId) (t:TypeId):Prop:=∀ (x:AV) (s:St) (Q:aC),
 (aA (lA E.P E.eqOk .eql t x .nils) fun t4=>aP t4 (Q .nils (adv s 4))
  (aA (iQ E.P t 0 []) fun t5=>aA (bG (bX E) .append #[t,t] [t5,x] (s.nx+5) (adv s 7)) fun r=>Q r.1 r.2))->∃ r s',WideC E f [x] s r s'/\Q r s'
theorem aEk {f:FuncId} {t:TypeId} (hr:KM E f t) {x:AV} {s:St} {r:AV} {s':St}
  (h:aA (lA E.P E.eqOk .eql t x .nils) fun t4=>aP t4 ((AV.nils,adv s 4)=(r,s'))
   (aA (iQ E.P t 0 []) fun t5=>aA (bG (bX E) .append #[t,t] [t5,x] (s.nx+5) (adv s 7)) fun q=>q=(r,s'))):∃ n,cL E n f [x] s=some (r,s'):=by
 obtain ⟨r1,s1,⟨n,h1⟩,h2⟩:=hr x s (fun v q=>(v,q)=(r,s')) h;simp only [m001] at h2;obtain ⟨rfl,rfl⟩:=h2;exact ⟨n,h1⟩
theorem jE (hE:AZ P E) {f:FuncId} {t e:TypeId} {z b:Nat} {ag:Bool} {zv:AV} (hr:KM E f t) (ht:dZ E.P t=some (.slice e)) (hl:eN E.P e=some (z,ag)) (hb:dN E.P e=some b) (hz:zero E.P e=some zv) (hz0:0 < z) (hzv:zv.cells.length=z) :
  fP P E.P E.glob f (eZ E.P e):=by
 have hsl:iQ E.P t 0 []=some (.sl true []):=by have h2:0 * z<=2 ^ 24/\0 < z/\zv.cells.length=z:=⟨by omega,hz0,hzv⟩;simp only [iQ,ht,hl,hz,if_pos h2,List.replicate_zero,iM,Option.map_some]
 have happ:∀ x id s,bG (bX E) .append #[t,t] [.sl true [],x] id s=(aR z x s).bind fun c=>bM e z b (.sl true []) c id s:=fun x id s=>by have h2:0 < z/\zv.cells.length=z:=⟨hz0,hzv⟩;have e1:((#[t,t]:Array TypeId)[0]?).bind (dZ (bX E).P)=some (.slice e):=ht;have e2:((#[t,t]:Array TypeId)[1]?).bind (dZ (bX E).P)=some (.slice e):=ht;simp only [bG,e1,e2];simp only [show (bX E).P=E.P from rfl,hl,hb,hz,if_pos h2]
 have hnil:∀ s,∃ n,cL E n f [.nils] s=some (.nils,adv s 4):=fun s=>by refine aEk hr (.mk (.bool true) ?_ (.t rfl rfl));simp [lA,ht,oT]
 have hrest:∀ x s r s',uI x=true\/x=.emp->((aR z x (adv s 7)).bind fun c=>bM e z b (.sl true []) c (s.nx+5) (adv s 7))=some (r,s')->∃ n,cL E n f [x] s=some (r,s'):=fun x s r s' hx h=>by
  refine aEk hr (.mk (.bool false) ?_ (.f rfl (.mk _ hsl (.mk (r,s') ?_ rfl))))
  ·rcases hx with hx | rfl
   ·cases x with
    | emp=>simp [lA,ht,oT]
    | sl ex l=>cases l with
     | nil=>cases hx
     | cons v l=>simp [lA,ht,oT]
    | ref=>simp [lA,ht,oT]
    | _=>cases hx
   ·simp [lA,ht,oT]
  ·rw [happ];exact h
 have hemp:∀ s,∃ n,cL E n f [.emp] s=some (.sl true [],adv s 7):=fun s=>by refine hrest .emp s _ _ (.inr rfl) ?_;rfl
 intro args s r s' hg vals ρ F W hcr hR hG;unfold eZ at hg
 split at hg
 ·rename_i x;simp only [hl,hb] at hg;obtain ⟨u,rfl,hu⟩:=hcr.single
  have use:∀ y,VR E.P F ρ y u->∀ r1 s1,(∃ n,cL E n f [y] s=some (r1,s1))->cY P E.P s.nx s ρ F W r1 s1 (callFunc f #[u]):=fun y hy r1 s1 ⟨n,hn⟩ =>
   yZ hE n f [y] s r1 s1 hn #[u] ρ F W (CR.cons hy CR.nil) hR hG
  cases x with
  | nils =>simp only [m000,m001] at hg;obtain ⟨rfl,rfl⟩:=hg;exact use _ hu _ _ (hnil s)
  | sl ex l =>
   cases l with
   | nil =>
    simp only [m000,m001] at hg;obtain ⟨rfl,rfl⟩:=hg
    have hw:∀ r1 s1,(∀ F' ρ' v,VR E.P F' ρ' r1 v->VR E.P F' ρ' (.sl false []) v)->s1.h=s.h->s1.nx<=s.nx+7->cY P E.P s.nx s ρ F W r1 s1 (callFunc f #[u])->cY P E.P s.nx s ρ F W (.sl false []) ⟨s.h,s.nx+7⟩ (callFunc f #[u]):=fun r1 s1 hv hh hnx hd=>by
     refine hd.map fun v W' ⟨ρ',F',k1,k2,k3,k4,k5⟩=>⟨ρ',F',hv _ _ _ k1,?_,?_,k4,by show s.nx<=s.nx+7;omega⟩
     ·obtain ⟨h1,n1⟩:=s1;simp only at hh hnx;subst hh;exact ⟨k2.blk,k2.inj,k2.fz,fun i hi=>k2.fresh i (by have:s.nx+7<=i:=hi;show n1<=i;omega)⟩
     ·obtain ⟨h1,n1⟩:=s1;simp only at hh;subst hh;exact ⟨k3.rho,k3.fz,k3.os,k3.tape,k3.output,k3.size,k3.same,k3.born,k3.cold⟩
    obtain ⟨a,c,rfl,_,_,_⟩:=lO hu;have hn:=HU hu
    cases a with
    | none =>have:c=0:=hn rfl;subst this;refine hw .nils (adv s 4) (fun F' ρ' v hv=>?_) rfl (by show s.nx+4<=_;omega) (use .nils .nils _ _ (hnil s));cases hv;exact .sl0 false none 0 (fun h=>nomatch h) (fun _=>rfl)
    | some a =>
     refine hw (.sl true []) (adv s 7) (fun F' ρ' v hv=>?_) rfl (bH _) (use .emp (.emp a c) _ _ (hemp s))
     cases hv with
     | sl0 _ a c h hn=>exact .sl0 false a c (fun h=>nomatch h) hn
     | sl _ _ β b z c w hc hx hz hf hv=>exact .sl0 false _ _ (fun h=>nomatch h) (fun h=>nomatch h)
   | cons v l =>have h2:((aR z (.sl ex (v::l)) (adv s 7)).bind fun c=>bM e z b (.sl true []) c (s.nx+5) (adv s 7))=some (r,s'):=hg;exact use _ hu _ _ (hrest _ s r s' (.inl rfl) h2)
  | emp =>have h2:((aR z .emp (adv s 7)).bind fun c=>bM e z b (.sl true []) c (s.nx+5) (adv s 7))=some (r,s'):=hg;exact use _ hu _ _ (hrest _ s r s' (.inl rfl) h2)
  | ref i o n c e' =>have h2:((aR z (.ref i o n c e') (adv s 7)).bind fun c=>bM e z b (.sl true []) c (s.nx+5) (adv s 7))=some (r,s'):=hg;exact use _ hu _ _ (hrest _ s r s' (.inl rfl) h2)
  | _=>simp [uI] at hg
 ·cases hg
end
end
noncomputable section
set_option maxRecDepth 1000000
abbrev bDe:Code:=aN Tryz.f20
abbrev aPw:=rK Tryz.f20
abbrev bHc:=aL mEv 20 (mEv.kp 20)
def aLn (Q:aC) (s:St):Prop:=Q (.int .i64 0) (adv s 1)
theorem aLi (Q:aC):bHc (sub bDe [Y,Y,Y]) (aPw Q) aX (aPw Q)=(fun g s=>aLn Q s):=Eq.trans rfl (by kernel_rfl)
def f20 (Q:aC) (t0:AV) (s:St):Prop:=(t0.cells.all AV.one=true /\
 aA (ld 2 true (.ptr s.nx 0) (adv ((adv s 2).set s.nx (some (.cells t0.cells 24 true true))) 3)) fun t3=>aE mEv 69 [t3] (adv ((adv s 2).set s.nx (some (.cells t0.cells 24 true true))) 3) fun t4 s1=>aA (bQ 2 (.ptr s.nx 0) t4 s1) fun s2=>aA (aD 0 (.ptr s.nx 0)) fun t6=>aA (ld 1 false t6 (adv s2 3)) fun t7=>aP t7
 (Q (.int .i64 (-1)) (adv s2 4))
 (aA (aD 1 (.ptr s.nx 0)) fun t9=>aA (ld 1 false t9 (adv s2 8)) fun t10=>aA (bt .len #[22] [t10] (s2.nx+5) (adv s2 8)) fun r11=>aA (bn .gtr 3 r11.1 (.int .i64 0)) fun t12=>aP t12
 (Q (.int .i64 1) (adv r11.2 1))
 (aLn Q r11.2)))
theorem aQn (t0:AV) (s:St) {Q:aC} (h:f20 Q t0 s):eG 20 [t0] s Q:=aH (h:=20) (fn:=Tryz.f20) (c:=sub bDe []) (show bHc (sub bDe []) (aPw Q) aX (aPw Q)=_ from (aO (aO (aO (aLi Q) (dI 0 rfl)) rfl) rfl)) h
abbrev bIn:Code:=aN Tryz.f69
abbrev bEb:=rK Tryz.f69
abbrev bNw:=aL mEv 69 (mEv.kp 69)
def f69 (Q:aC) (t0:AV) (s:St):Prop:=(t0.cells.all AV.one=true /\
 aA (zr 24) fun z2=>aA (aD 0 (.ptr s.nx 0)) fun t3=>aA (ld 1 false t3 (adv (((adv s 2).set s.nx (some (.cells t0.cells 24 true true))).set (s.nx+1) (some (.cells z2.cells 24 true true))) 6)) fun t4=>aA (aD 1 (.ptr s.nx 0)) fun t5=>aA (ld 1 false t5 (adv (((adv s 2).set s.nx (some (.cells t0.cells 24 true true))).set (s.nx+1) (some (.cells z2.cells 24 true true))) 6)) fun t6=>aE mEv 105 [t4,t6] (adv (((adv s 2).set s.nx (some (.cells t0.cells 24 true true))).set (s.nx+1) (some (.cells z2.cells 24 true true))) 6) fun t7 s1=>aA (bQ 2 (.ptr (s.nx+1) 0) t7 s1) fun s2=>bT ((bW [ld 2 true (.ptr (s.nx+1) 0) s2]).map bY) fun v=>Q v s2)
theorem aRc (t0:AV) (s:St) {Q:aC} (h:f69 Q t0 s):eG 69 [t0] s Q:=aH (h:=69) (fn:=Tryz.f69) (c:=sub bIn []) (show bNw (sub bIn []) (bEb Q) aX (bEb Q)=_ from rfl) h
abbrev aUt:Code:=aN Tryz.f105
abbrev aVr:=rK Tryz.f105
abbrev bKs:=aL mEv 105 (mEv.kp 105)
def f105 (Q:aC) (t0 t1:AV) (s:St):Prop:=aA (zr 24) fun z4=>aE mEv 110 [t1] (adv ((adv s 1).set s.nx (some (.cells z4.cells 24 true true))) 3) fun t6 s1=>Gd (aB t0 true) (adv s1 9) (fun k=>k t6 (adv s1 9)) fun t9 s2=>Gd (aB t0 true) s2 (fun k=>aA (bt .len #[22] [t9] (s1.nx+3) s2) fun r=>k r.1 r.2) fun t10 s3=>Gd (aB t0 true) s3 (fun k=>aA (bn .gtr 3 t10 (.int .i64 0)) fun v=>k v s3) fun t11 s4=>aA (aJ t0 t11 (.bool false)) fun t12=>aA (eE 24 [(0,t12),(1,t6)]) fun t14=>aA (bQ 2 (.ptr s.nx 0) t14 s4) fun s5=>bT ((bW [ld 2 true (.ptr s.nx 0) s5]).map bY) fun v=>Q v s5
theorem aCy (t0 t1:AV) (s:St) {Q:aC} (h:f105 Q t0 t1 s):eG 105 [t0,t1] s Q:=aH (h:=105) (fn:=Tryz.f105) (c:=sub aUt []) (show bKs (sub aUt []) (aVr Q) aX (aVr Q)=_ from rfl) h
abbrev aMs:Code:=aN Tryz.f60
abbrev YB:=rK Tryz.f60
abbrev aSg:=aL mEv 60 (mEv.kp 60)
def NC (Q:aC) (s:St):Prop:=Q (.bool true) (adv s 1)
def SS (Q:aC) (ih1:AV->AV->AV->AV->aC) (t11 t0 t3 t9 t10:AV) (s:St):Prop:=aA (bn .add 3 t11 (.int .i64 1)) fun t54=>ih1 t0 t3 t9 t10 t54 (adv s 2)
def DY (Q:aC) (ih1:AV->AV->AV->AV->aC) (t0 t3 t9 t10 t11:AV) (s:St):Prop:=aA (bn .lss 3 t11 t10) fun t12=>aP t12
 (aA (cA 2 t9 t11) fun t14=>aA (ld 2 true t14 (adv s 7)) fun t15=>aA (zr 109) fun z5=>aA (bQ 2 (.ptr (s.nx+4) 0) t15 ((adv s 7).set (s.nx+4) (some (.cells z5.cells 109 true true)))) fun s1=>aA (aD 0 (.ptr (s.nx+4) 0)) fun t16=>aA (ld 1 false t16 (adv s1 34)) fun t17=>aA (bn .lss 3 t17 (.int .i64 0)) fun t18=>Gd (aB t18 false) (adv s1 34) (fun k=>aA (aD 0 (.ptr (s.nx+4) 0)) fun v=>k v (adv s1 34)) fun t20 s2=>Gd (aB t18 false) s2 (fun k=>aA (ld 1 false t20 s2) fun v=>k v s2) fun t21 s3=>Gd (aB t18 false) s3 (fun k=>aA (bn .gtr 3 t21 (.int .i64 196607)) fun v=>k v s3) fun t22 s4=>aA (aJ t18 (.bool true) t22) fun t23=>Gd (aB t23 false) s4 (fun k=>aA (aD 1 (.ptr (s.nx+4) 0)) fun v=>k v s4) fun t25 s5=>Gd (aB t23 false) s5 (fun k=>aA (ld 1 false t25 s5) fun v=>k v s5) fun t26 s6=>Gd (aB t23 false) s6 (fun k=>aA (bn .lss 3 t26 (.int .i64 1)) fun v=>k v s6) fun t27 s7=>aA (aJ t23 (.bool true) t27) fun t28=>Gd (aB t28 false) s7 (fun k=>aA (aD 1 (.ptr (s.nx+4) 0)) fun v=>k v s7) fun t30 s8=>Gd (aB t28 false) s8 (fun k=>aA (ld 1 false t30 s8) fun v=>k v s8) fun t31 s9=>Gd (aB t28 false) s9 (fun k=>k t3 s9) fun t32 s10=>Gd (aB t28 false) s10 (fun k=>aA (bn .gtr 3 t31 t32) fun v=>k v s10) fun t33 s11=>aA (aJ t28 (.bool true) t33) fun t34=>Gd (aB t34 false) s11 (fun k=>k t11 s11) fun t36 s12=>Gd (aB t34 false) s12 (fun k=>aA (bn .gtr 3 t36 (.int .i64 0)) fun v=>k v s12) fun t37 s13=>Gd (aB t34 false) s13 (fun k=>k t37 s13) fun t38 s14 =>
 Gd (aB t38 true) s14 (fun k=>k t0 s14) fun t39 s15=>Gd (aB t38 true) s15 (fun k=>k t11 s15) fun t40 s16=>Gd (aB t38 true) s16 (fun k=>aA (bn .sub 3 t40 (.int .i64 1)) fun v=>k v s16) fun t41 s17=>Gd (aB t38 true) s17 (fun k=>aA (cA 2 t39 t41) fun v=>k v s17) fun t42 s18=>Gd (aB t38 true) s18 (fun k=>aA (aD 0 t42) fun v=>k v s18) fun t43 s19=>Gd (aB t38 true) s19 (fun k=>aA (ld 1 false t43 s19) fun v=>k v s19) fun t44 s20=>Gd (aB t38 true) s20 (fun k=>aA (aD 0 (.ptr (s.nx+4) 0)) fun v=>k v s20) fun t45 s21=>Gd (aB t38 true) s21 (fun k=>aA (ld 1 false t45 s21) fun v=>k v s21) fun t46 s22=>Gd (aB t38 true) s22 (fun k=>aA (bn .eql 3 t44 t46) fun v=>k v s22) fun t47 s23=>Gd (aB t34 false) s23 (fun k=>aA (aJ t38 t47 (.bool false)) fun v=>k v s23) fun t48 s24=>aA (aJ t34 (.bool true) t48) fun t49=>aP t49
 (Q (.bool false) (adv s24 1))
 (aA (aD 1 (.ptr (s.nx+4) 0)) fun t51=>aA (ld 1 false t51 (adv s24 5)) fun t52=>aA (bn .sub 3 t3 t52) fun t53=>SS Q ih1 t11 t0 t53 t9 t10 (adv s24 5)))
 (NC Q (adv s 1))
def zA (Q:aC) (n:Nat):AV->AV->AV->AV->aC:=fY (fun _ _ _ _ _ _ =>False) (fun ih=>DY Q ih) n
theorem aMr (Q:aC):aSg (sub aMs [Y,Y,Y,Y]) (YB Q) aX (YB Q)=(fun g s=>NC Q s):=Eq.trans rfl (by kernel_rfl)
theorem aJl (Q:aC) (n1:Nat):aSg (sub aMs [Y,Y,Y,N,Y,N,N,Y,Y,Y]) (mA (fun n g s=>zA Q n (g 0) (g 3) (g 9) (g 10) (g 11) s) 60 n1) (cE 0 (fun g s=>NC Q s) aX) (YB Q)=(fun g s=>SS Q (zA Q n1) (g 11) (g 0) (g 3) (g 9) (g 10) s):=Eq.trans rfl (by kernel_rfl)
theorem aDq (Q:aC) (kN:Kt):aSg (sub aMs [Y,Y,Y,N,Y,N]) kN (cE 0 (fun g s=>NC Q s) aX) (YB Q)=fun g s=>∃ n,zA Q n (g 0) (g 3) (g 9) (g 10) (g 11) s:=jW (L:=fun n g s=>zA Q n (g 0) (g 3) (g 9) (g 10) (g 11) s) (fun n1=>Eq.trans (aO (aO (aO (aJl Q n1) (dI 1 rfl)) rfl) rfl) (by kernel_rfl))
def f60 (Q:aC) (t0:AV) (s:St):Prop:=aA (bt .len #[25] [t0] (s.nx+2) (adv s 4)) fun r7=>aA (bn .gtr 3 r7.1 (.int .i64 65536)) fun t8=>aP t8
 (Q (.bool false) (adv r7.2 1))
 (aA (bt .len #[25] [t0] (r7.2.nx+2) (adv r7.2 4)) fun r10=>∃ n,zA Q n t0 (.int .i64 1099511627776) t0 r10.1 (.int .i64 0) r10.2)
theorem aRl (t0:AV) (s:St) {Q:aC} (h:f60 Q t0 s):eG 60 [t0] s Q:=aH (h:=60) (fn:=Tryz.f60) (c:=sub aMs []) (show aSg (sub aMs []) (YB Q) aX (YB Q)=_ from (aO (aO (aO (aO (aMr Q) (aO (dI 0 (aDq Q _)) rfl)) rfl) rfl) rfl)) h
def f19 (Q:aC) (t0:AV) (s:St):Prop:=aE mEv 60 [t0] (adv s 4) fun t4 s1=>aA (un .not t4) fun t5=>aP t5
 (Q (.int .i64 0) (adv s1 1))
 (aE mEv 68 [t0] (adv s1 3) fun t7 s2=>Q t7 s2)
def bLm (Q:aC) (t3:AV) (s:St):Prop:=Q t3 (adv s 2)
def bJk (Q:aC) (ih1:AV->AV->AV->aC) (t8 t3 t6 t7:AV) (s:St):Prop:=aA (bn .add 3 t8 (.int .i64 1)) fun t16=>ih1 t3 t6 t7 t16 (adv s 2)
def bBi (Q:aC) (ih1:AV->AV->AV->aC) (t3 t6 t7 t8:AV) (s:St):Prop:=aA (bn .lss 3 t8 t7) fun t9=>aP t9
 (aA (cA 2 t6 t8) fun t10=>aA (ld 2 true t10 (adv s 5)) fun t11=>aA (zr 109) fun z5=>aA (bQ 2 (.ptr (s.nx+3) 0) t11 ((adv s 5).set (s.nx+3) (some (.cells z5.cells 109 true true)))) fun s1=>aA (aD 1 (.ptr (s.nx+3) 0)) fun t13=>aA (ld 1 false t13 (adv s1 5)) fun t14=>aA (bn .add 3 t3 t14) fun t15=>bJk Q ih1 t8 t15 t6 t7 (adv s1 5))
 (bLm Q t3 (adv s 1))
def bDs (Q:aC) (n:Nat):AV->AV->AV->aC:=fY (fun _ _ _ _ _ =>False) (fun ih=>bBi Q ih) n
def f68 (Q:aC) (t0:AV) (s:St):Prop:=aA (bt .len #[25] [t0] (s.nx+3) (adv s 5)) fun r7=>∃ n,bDs Q n (.int .i64 0) t0 r7.1 (.int .i64 0) r7.2
def f21 (Q:aC) (t0:AV) (s:St):Prop:=(t0.cells.all AV.one=true /\
 aA (ld 6 true (.ptr s.nx 0) (adv ((adv s 2).set s.nx (some (.cells t0.cells 33 true true))) 3)) fun t3=>aE mEv 70 [t3,(.int .i64 65)] (adv ((adv s 2).set s.nx (some (.cells t0.cells 33 true true))) 3) fun t4 s1=>Q t4 s1)
def bEx (Q:aC) (t5:AV) (s:St):Prop:=aA (bn .add 3 t5 (.int .i64 1)) fun t30=>Q t30 (adv s 3)
def bHu (Q:aC) (ih1:AV->AV->AV->AV->aC) (t18 t1 t5 t16 t17:AV) (s:St):Prop:=aA (bn .add 3 t18 (.int .i64 1)) fun t28=>ih1 t1 t5 t16 t17 t28 (adv s 2)
def bCq (Q:aC) (ih1:AV->AV->AV->AV->aC) (t1 t5 t16 t17 t18:AV) (s:St):Prop:=aA (bn .lss 3 t18 t17) fun t19=>aP t19
 (aA (cA 6 t16 t18) fun t20=>aA (ld 6 true t20 (adv s 5)) fun t21=>aA (zr 33) fun z7=>aA (bQ 6 (.ptr (s.nx+3) 0) t21 ((adv s 5).set (s.nx+3) (some (.cells z7.cells 33 true true)))) fun s1=>aA (ld 6 true (.ptr (s.nx+3) 0) (adv s1 7)) fun t23=>aA (bn .sub 3 t1 (.int .i64 1)) fun t25=>aE mEv 70 [t23,t25] (adv s1 7) fun t26 s2=>aA (bt .max #[3,3] [t5,t26] (s1.nx+5) s2) fun r27=>bHu Q ih1 t18 t1 r27.1 t16 t17 r27.2)
 (bEx Q t5 (adv s 1))
def bFj (Q:aC) (n:Nat):AV->AV->AV->AV->aC:=fY (fun _ _ _ _ _ _ =>False) (fun ih=>bCq Q ih) n
def f70 (Q:aC) (t0 t1:AV) (s:St):Prop:=(t0.cells.all AV.one=true /\
 aA (aD 0 (.ptr s.nx 0)) fun t8=>aA (ld 1 false t8 (adv ((adv s 2).set s.nx (some (.cells t0.cells 33 true true))) 7)) fun t9=>aA (un .not t9) fun t10=>Gd (aB t10 false) (adv ((adv s 2).set s.nx (some (.cells t0.cells 33 true true))) 7) (fun k=>k t1 (adv ((adv s 2).set s.nx (some (.cells t0.cells 33 true true))) 7)) fun t12 s1=>Gd (aB t10 false) s1 (fun k=>aA (bn .eql 3 t12 (.int .i64 0)) fun v=>k v s1) fun t13 s2=>aA (aJ t10 (.bool true) t13) fun t14=>aP t14
 (Q (.int .i64 0) (adv s2 1))
 (aA (aD 5 (.ptr s.nx 0)) fun t15=>aA (ld 1 false t15 (adv s2 5)) fun t16=>aA (bt .len #[31] [t16] (s2.nx+3) (adv s2 5)) fun r17=>∃ n,bFj Q n t1 (.int .i64 0) t16 r17.1 (.int .i64 0) r17.2))
def f4 (Q:aC) (t0:AV) (s:St):Prop:=(t0.cells.all AV.one=true /\
 aE mEv 15 [] (adv ((adv s 2).set s.nx (some (.cells t0.cells 27 true true))) 2) fun t8 s1=>aA (un .not t8) fun t10=>Gd (aB t10 false) (adv s1 15) (fun k=>aA (aD 4 (.ptr s.nx 0)) fun v=>k v (adv s1 15)) fun t12 s2=>Gd (aB t10 false) s2 (fun k=>aA (ld 1 false t12 s2) fun v=>k v s2) fun t13 s3=>Gd (aB t10 false) s3 (fun k=>aA (bt .len #[25] [t13] (s1.nx+5) s3) fun r=>k r.1 r.2) fun t14 s4=>Gd (aB t10 false) s4 (fun k=>aA (bn .gtr 3 t14 (.int .i64 300)) fun v=>k v s4) fun t15 s5=>aA (aJ t10 (.bool true) t15) fun t16=>Gd (aB t16 false) s5 (fun k=>aA (aD 2 (.ptr s.nx 0)) fun v=>k v s5) fun t18 s6=>Gd (aB t16 false) s6 (fun k=>aA (aD 1 t18) fun v=>k v s6) fun t19 s7=>Gd (aB t16 false) s7 (fun k=>aA (ld 1 false t19 s7) fun v=>k v s7) fun t20 s8=>Gd (aB t16 false) s8 (fun k=>aA (bt .len #[22] [t20] (s1.nx+12) s8) fun r=>k r.1 r.2) fun t21 s9=>Gd (aB t16 false) s9 (fun k=>aA (bn .gtr 3 t21 (.int .i64 30)) fun v=>k v s9) fun t22 s10=>aA (aJ t16 (.bool true) t22) fun t23=>aP t23
 (Q t8 (adv s10 2))
 (aA (ld 5 true (.ptr s.nx 0) (adv s10 8)) fun t26=>aE mEv 16 [t26] (adv s10 8) fun t27 s11=>aA (aQ t27 0) fun t28=>aA (aQ t27 1) fun t29=>aA (zr 33) fun z4=>aA (bQ 6 (.ptr (s10.nx+5) 0) t28 (s11.set (s10.nx+5) (some (.cells z4.cells 33 true true)))) fun s12=>aA (bn .neq 34 t29 (.int .i64 0)) fun t31=>aP t31
 (aA (bn .eql 34 t29 (.int .i64 1)) fun t33=>Gd (aB t33 false) (adv s12 20) (fun k=>k t29 (adv s12 20)) fun t35 s13=>Gd (aB t33 false) s13 (fun k=>aA (bn .eql 34 t35 (.int .i64 2)) fun v=>k v s13) fun t36 s14=>aA (aJ t33 (.bool true) t36) fun t37=>Gd (aB t37 true) s14 (fun k=>aA (aD 0 (.ptr (s10.nx+5) 0)) fun v=>k v s14) fun t39 s15=>Gd (aB t37 true) s15 (fun k=>aA (ld 1 false t39 s15) fun v=>k v s15) fun t40 s16=>Gd (aB t37 true) s16 (fun k=>aA (un .not t40) fun v=>k v s16) fun t41 s17=>aA (aJ t37 t41 (.bool false)) fun t42=>Gd (aB t42 true) s17 (fun k=>aA (aD 1 (.ptr (s10.nx+5) 0)) fun v=>k v s17) fun t44 s18=>Gd (aB t42 true) s18 (fun k=>aA (aD 0 t44) fun v=>k v s18) fun t45 s19=>Gd (aB t42 true) s19 (fun k=>aA (ld 1 false t45 s19) fun v=>k v s19) fun t46 s20=>Gd (aB t42 true) s20 (fun k=>aA (bn .eql 3 t46 (.int .i64 0)) fun v=>k v s20) fun t47 s21=>aA (aJ t42 t47 (.bool false)) fun t48=>Q t48 s21)
 (aA (aD 0 (.ptr s.nx 0)) fun t49=>aA (ld 1 false t49 (adv s12 12)) fun t50=>aA (bn .eql 3 t50 (.int .i64 3)) fun t51=>Gd (aB t51 true) (adv s12 12) (fun k=>aA (aD 4 (.ptr s.nx 0)) fun v=>k v (adv s12 12)) fun t53 s22=>Gd (aB t51 true) s22 (fun k=>aA (ld 1 false t53 s22) fun v=>k v s22) fun t54 s23=>Gd (aB t51 true) s23 (fun k=>aE mEv 19 [t54] s23 k) fun t55 s24=>Gd (aB t51 true) s24 (fun k=>aA (bn .gtr 3 t55 (.int .i64 1000)) fun v=>k v s24) fun t56 s25=>aA (aJ t51 t56 (.bool false)) fun t57=>aA (aD 0 (.ptr s.nx 0)) fun t58=>aA (ld 1 false t58 (adv s25 10)) fun t59=>aA (bn .eql 3 t59 (.int .i64 2)) fun t60=>Gd (aB t60 true) (adv s25 10) (fun k=>aA (aD 2 (.ptr s.nx 0)) fun v=>k v (adv s25 10)) fun t62 s26=>Gd (aB t60 true) s26 (fun k=>aA (ld 2 true t62 s26) fun v=>k v s26) fun t63 s27=>Gd (aB t60 true) s27 (fun k=>aE mEv 20 [t63] s27 k) fun t64 s28=>Gd (aB t60 true) s28 (fun k=>aA (bn .lss 3 t64 (.int .i64 0)) fun v=>k v s28) fun t65 s29=>aA (aJ t60 t65 (.bool false)) fun t66=>aA (aD 0 (.ptr (s10.nx+5) 0)) fun t67=>aA (ld 1 false t67 (adv s29 13)) fun t68=>Gd (aB t57 false) (adv s29 13) (fun k=>k t66 (adv s29 13)) fun t71 s30=>aA (aJ t57 (.bool true) t71) fun t72=>aA (bn .eql 4 t68 t72) fun t73=>Gd (aB t73 true) s30 (fun k=>aA (ld 6 true (.ptr (s10.nx+5) 0) s30) fun v=>k v s30) fun t75 s31=>Gd (aB t73 true) s31 (fun k=>aE mEv 21 [t75] s31 k) fun t76 s32=>Gd (aB t73 true) s32 (fun k=>aA (bn .leq 3 t76 (.int .i64 64)) fun v=>k v s32) fun t77 s33 =>
 aA (aJ t73 t77 (.bool false)) fun t78=>Q t78 s33)))
end
noncomputable section
set_option maxRecDepth 1000000
abbrev UV:Code:=aN Tryz.f110
abbrev OL:=rK Tryz.f110
abbrev aGr:=aL mEv 110 (mEv.kp 110)
def yB (Q:aC) (t3 t0:AV) (s:St):Prop:=aA (mkS Tryz.ty 22 t3 t3 (s.nx+1) (adv s 3)) fun r20=>aA (bt .copy #[22,22] [r20.1,t0] (r20.2.nx+2) (adv r20.2 3)) fun r23=>Q r20.1 (adv r23.2 2)
def vV (Q:aC) (ih1:AV->aC) (t0 t3:AV) (s:St):Prop:=aA (bn .gtr 3 t3 (.int .i64 0)) fun t8=>Gd (aB t8 true) (adv s 10) (fun k=>k t0 (adv s 10)) fun t10 s1=>Gd (aB t8 true) s1 (fun k=>k t3 s1) fun t11 s2=>Gd (aB t8 true) s2 (fun k=>aA (bn .sub 3 t11 (.int .i64 1)) fun v=>k v s2) fun t12 s3=>Gd (aB t8 true) s3 (fun k=>aA (cA 1 t10 t12) fun v=>k v s3) fun t13 s4=>Gd (aB t8 true) s4 (fun k=>aA (ld 1 false t13 s4) fun v=>k v s4) fun t14 s5=>Gd (aB t8 true) s5 (fun k=>aA (bn .eql 211 t14 (.int .u32 0)) fun v=>k v s5) fun t15 s6=>aA (aJ t8 t15 (.bool false)) fun t16=>aP t16
 (aA (bn .sub 3 t3 (.int .i64 1)) fun t18=>ih1 t0 t18 (adv s6 3))
 (yB Q t3 t0 s6)
def xA (Q:aC) (n:Nat):AV->aC:=fY (fun _ _ _ =>False) (fun ih=>vV Q ih) n
theorem aAr (Q:aC):aGr (sub UV [Y,Y,Y]) (OL Q) aX (OL Q)=(fun g s=>yB Q (g 3) (g 0) s):=Eq.trans rfl (by kernel_rfl)
theorem YF (Q:aC) (kN:Kt):aGr (sub UV [Y,Y,N,N]) kN (cE 0 (fun g s=>yB Q (g 3) (g 0) s) aX) (OL Q)=fun g s=>∃ n,xA Q n (g 0) (g 3) s:=jW (L:=fun n g s=>xA Q n (g 0) (g 3) s) (fun n1=>Eq.trans (aO (dI 1 rfl) rfl) (by kernel_rfl))
def f110 (Q:aC) (t0:AV) (s:St):Prop:=aA (bt .len #[22] [t0] (s.nx+2) (adv s 4)) fun r6=>∃ n,xA Q n t0 r6.1 r6.2
theorem aDu (t0:AV) (s:St) {Q:aC} (h:f110 Q t0 s):eG 110 [t0] s Q:=aH (h:=110) (fn:=Tryz.f110) (c:=sub UV []) (show aGr (sub UV []) (OL Q) aX (OL Q)=_ from (aO (aO (aO (aAr Q) (dI 0 (YF Q _))) rfl) rfl)) h
abbrev MQ:Code:=aN Tryz.f111
abbrev HH:=rK Tryz.f111
abbrev SX:=aL mEv 111 (mEv.kp 111)
def xC (Q:aC) (t6 t7:AV) (s:St):Prop:=aE mEv 110 [t6] (adv s 5) fun t38 s1=>Q (.tup [t38,t7]) s1
def PP (Q:aC) (ih1:AV->AV->AV->AV->aC) (t8 t0 t1 t6 t7:AV) (s:St):Prop:=aA (bn .sub 3 t8 (.int .i64 1)) fun t18=>ih1 t0 t1 t6 t7 t18 (adv s 3)
def vX (Q:aC) (ih1:AV->AV->AV->AV->aC) (t0 t1 t6 t7 t8:AV) (s:St):Prop:=aA (bn .geq 3 t8 (.int .i64 0)) fun t16=>aP t16
 (aA (bn .shl 159 t7 (.int .u64 32)) fun t20=>aA (cA 1 t0 t8) fun t23=>aA (ld 1 false t23 (adv s 11)) fun t24=>aA (cv 211 159 t24 (adv s 11)) fun t25=>aA (bn .or 159 t20 t25) fun t26=>aA (bn .quo 159 t26 t1) fun t31=>aA (cv 159 211 t31 (adv s 19)) fun t32=>aA (cA 1 t6 t8) fun t33=>aA (bQ 1 t33 t32 (adv s 19)) fun s1=>aA (bn .rem 159 t26 t1) fun t36=>PP Q ih1 t8 t0 t1 t6 t36 (adv s1 4))
 (xC Q t6 t7 (adv s 2))
def pR (Q:aC) (n:Nat):AV->AV->AV->AV->aC:=fY (fun _ _ _ _ _ _ =>False) (fun ih=>vX Q ih) n
theorem WE (Q:aC):SX (sub MQ [Y,Y,Y,Y]) (HH Q) aX (HH Q)=(fun g s=>xC Q (g 6) (g 7) s):=Eq.trans rfl (by kernel_rfl)
theorem aAq (Q:aC) (n1:Nat):SX (sub MQ [Y,Y,Y,N,Y,N,N,Y,Y]) (mA (fun n g s=>pR Q n (g 0) (g 1) (g 6) (g 7) (g 8) s) 111 n1) (cE 0 (fun g s=>xC Q (g 6) (g 7) s) aX) (HH Q)=(fun g s=>PP Q (pR Q n1) (g 8) (g 0) (g 1) (g 6) (g 7) s):=Eq.trans rfl (by kernel_rfl)
theorem aBz (Q:aC) (kN:Kt):SX (sub MQ [Y,Y,Y,N,Y,N]) kN (cE 0 (fun g s=>xC Q (g 6) (g 7) s) aX) (HH Q)=fun g s=>∃ n,pR Q n (g 0) (g 1) (g 6) (g 7) (g 8) s:=jW (L:=fun n g s=>pR Q n (g 0) (g 1) (g 6) (g 7) (g 8) s) (fun n1=>Eq.trans (aO (aO (aAq Q n1) (dI 1 rfl)) rfl) (by kernel_rfl))
def f111 (Q:aC) (t0 t1:AV) (s:St):Prop:=aA (bt .len #[22] [t0] (s.nx+3) (adv s 6)) fun r10=>aA (mkS Tryz.ty 22 r10.1 r10.1 (s.nx+4) r10.2) fun r11=>aA (bt .len #[22] [t0] (r11.2.nx+2) (adv r11.2 5)) fun r13=>aA (bn .sub 3 r13.1 (.int .i64 1)) fun t14=>∃ n,pR Q n t0 t1 r11.1 (.int .u64 0) t14 r13.2
theorem aKs (t0 t1:AV) (s:St) {Q:aC} (h:f111 Q t0 t1 s):eG 111 [t0,t1] s Q:=aH (h:=111) (fn:=Tryz.f111) (c:=sub MQ []) (show SX (sub MQ []) (HH Q) aX (HH Q)=_ from (aO (aO (aO (aO (WE Q) (aO (dI 0 (aBz Q _)) rfl)) rfl) rfl) rfl)) h
abbrev NQ:Code:=aN Tryz.f112
abbrev HP:=rK Tryz.f112
abbrev VY:=aL mEv 112 (mEv.kp 112)
def CS (Q:aC) (t3:AV) (s:St):Prop:=aA (jM 223 t3 none none none (adv s 3)) fun t17=>aA (cv 161 9 t17 (adv s 3)) fun t18=>Q t18 (adv s 3)
def PJ (Q:aC) (ih1:AV->AV->aC) (t4 t0 t3:AV) (s:St):Prop:=aA (bn .sub 3 t4 (.int .i64 1)) fun t8=>ih1 t0 t3 t8 (adv s 3)
def vR (Q:aC) (ih1:AV->AV->aC) (t0 t3 t4:AV) (s:St):Prop:=aA (bn .geq 3 t4 (.int .i64 0)) fun t6=>aP t6
 (aA (bn .rem 159 t0 (.int .u64 10)) fun t11=>aA (bn .add 159 (.int .u64 48) t11) fun t12=>aA (cv 159 5 t12 (adv s 9)) fun t13=>aA (FD 9 1 t3 t4) fun t14=>aA (bQ 1 t14 t13 (adv s 9)) fun s1=>aA (bn .quo 159 t0 (.int .u64 10)) fun t16=>PJ Q ih1 t4 t16 t3 (adv s1 3))
 (CS Q t3 (adv s 2))
def pJ (Q:aC) (n:Nat):AV->AV->aC:=fY (fun _ _ _ _ =>False) (fun ih=>vR Q ih) n
theorem YD (Q:aC):VY (sub NQ [Y,Y,Y]) (HP Q) aX (HP Q)=(fun g s=>CS Q (g 3) s):=Eq.trans rfl (by kernel_rfl)
theorem XR (Q:aC) (n1:Nat):VY (sub NQ [Y,Y,N,Y,N,N,Y,Y]) (mA (fun n g s=>pJ Q n (g 0) (g 3) (g 4) s) 112 n1) (cE 0 (fun g s=>CS Q (g 3) s) aX) (HP Q)=(fun g s=>PJ Q (pJ Q n1) (g 4) (g 0) (g 3) s):=Eq.trans rfl (by kernel_rfl)
theorem XF (Q:aC) (kN:Kt):VY (sub NQ [Y,Y,N,Y,N]) kN (cE 0 (fun g s=>CS Q (g 3) s) aX) (HP Q)=fun g s=>∃ n,pJ Q n (g 0) (g 3) (g 4) s:=jW (L:=fun n g s=>pJ Q n (g 0) (g 3) (g 4) s) (fun n1=>Eq.trans (aO (aO (XR Q n1) (dI 1 rfl)) rfl) (by kernel_rfl))
def f112 (Q:aC) (t0:AV) (s:St):Prop:=aA (zr 223) fun z3=>∃ n,pJ Q n t0 (.ptr (s.nx+1) 0) (.int .i64 8) (adv ((adv s 2).set (s.nx+1) (some (.cells z3.cells 223 true true))) 1)
theorem aDf (t0:AV) (s:St) {Q:aC} (h:f112 Q t0 s):eG 112 [t0] s Q:=aH (h:=112) (fn:=Tryz.f112) (c:=sub NQ []) (show VY (sub NQ []) (HP Q) aX (HP Q)=_ from (aO (aO (aO (YD Q) (aO (dI 0 (XF Q _)) rfl)) rfl) rfl)) h
abbrev aRy:Code:=aN Tryz.f59
abbrev aMm:=rK Tryz.f59
abbrev bCw:=aL mEv 59 (mEv.kp 59)
def NL (Q:aC) (t3:AV) (s:St):Prop:=aE mEv 113 [t3,(.str [48])] (adv s 3) fun t22 s1=>aA (bn .eql 9 t22 (.str [])) fun t24=>aP t24
 (Q (.str [48]) (adv s1 3))
 (Q t22 (adv s1 4))
def wX (Q:aC) (ih1:AV->aC) (t0 t3:AV) (s:St):Prop:=aA (bt .len #[22] [t0] (s.nx+1) (adv s 3)) fun r9=>aA (bn .gtr 3 r9.1 (.int .i64 0)) fun t10=>aP t10
 (aE mEv 111 [t0,(.int .u64 1000000000)] (adv r9.2 7) fun t13 s1=>aA (aQ t13 0) fun t14=>aA (aQ t13 1) fun t15=>aE mEv 112 [t15] (adv s1 7) fun t17 s2=>aA (bn .add 9 t17 t3) fun t19=>ih1 t14 t19 s2)
 (NL Q t3 r9.2)
def FO (Q:aC) (n:Nat):AV->aC:=fY (fun _ _ _ =>False) (fun ih=>wX Q ih) n
theorem aNm (Q:aC):bCw (sub aRy [Y,Y,Y,Y]) (aMm Q) aX (aMm Q)=(fun g s=>NL Q (g 3) s):=Eq.trans rfl (by kernel_rfl)
theorem aMn (Q:aC) (kN:Kt):bCw (sub aRy [Y,Y,Y,N,N]) kN (cE 0 (fun g s=>NL Q (g 3) s) aX) (aMm Q)=fun g s=>∃ n,FO Q n (g 0) (g 3) s:=jW (L:=fun n g s=>FO Q n (g 0) (g 3) s) (fun n1=>Eq.trans (aO (dI 1 rfl) rfl) (by kernel_rfl))
def f59 (Q:aC) (t0:AV) (s:St):Prop:=aE mEv 110 [t0] (adv s 4) fun t7 s1=>∃ n,FO Q n t7 (.str []) (adv s1 1)
theorem aQj (t0:AV) (s:St) {Q:aC} (h:f59 Q t0 s):eG 59 [t0] s Q:=aH (h:=59) (fn:=Tryz.f59) (c:=sub aRy []) (show bCw (sub aRy []) (aMm Q) aX (aMm Q)=_ from (aO (aO (aO (aO (aNm Q) (dI 0 (aMn Q _))) rfl) rfl) rfl)) h
abbrev aXo:Code:=aN Tryz.f113
abbrev aWz:=rK Tryz.f113
abbrev bGb:=aL mEv 113 (mEv.kp 113)
def f113 (Q:aC) (t0 t1:AV) (s:St):Prop:=aA (bn .eql 9 t0 (.str [])) fun t8=>Gd (aB t8 false) (adv s 7) (fun k=>k t1 (adv s 7)) fun t10 s1=>Gd (aB t8 false) s1 (fun k=>aA (bn .eql 9 t10 (.str [])) fun v=>k v s1) fun t11 s2=>aA (aJ t8 (.bool true) t11) fun t12=>aP t12
 (Q t0 (adv s2 2))
 (aA (bt .len #[9] [t1] (s2.nx+1) (adv s2 8)) fun r15=>aA (bn .eql 3 r15.1 (.int .i64 1)) fun t16=>Gd (aB t16 true) r15.2 (fun k=>k t1 r15.2) fun t18 s3=>Gd (aB t16 true) s3 (fun k=>aA (uK 9 t18 (.int .i64 0)) fun v=>k v s3) fun t19 s4=>Gd (aB t16 true) s4 (fun k=>aA (bn .lss 5 t19 (.int .u8 128)) fun v=>k v s4) fun t20 s5=>aA (aJ t16 t20 (.bool false)) fun t21=>aP t21
 (aA (uK 9 t1 (.int .i64 0)) fun t24=>aE mEv 159 [t0,t24] (adv s5 5) fun t25 s6=>Q t25 s6)
 (aE mEv 160 [t1] (adv s5 8) fun t28 s7=>aA (aQ t28 0) fun t29=>aA (aQ t28 1) fun t30=>aA (zr 226) fun z5=>aA (bQ 256 (.ptr (s5.nx+5) 0) t29 (s7.set (s5.nx+5) (some (.cells z5.cells 226 true true)))) fun s8=>aP t30
 (aY mEv 161 [t0,(.ptr (s5.nx+5) 0)] (adv s8 4) fun t33 s9=>Q t33 s9)
 (aE mEv 162 [t0,t1] (adv s8 5) fun t36 s10=>Q t36 s10)))
theorem aEb (t0 t1:AV) (s:St) {Q:aC} (h:f113 Q t0 t1 s):eG 113 [t0,t1] s Q:=aH (h:=113) (fn:=Tryz.f113) (c:=sub aXo []) (show bGb (sub aXo []) (aWz Q) aX (aWz Q)=_ from rfl) h
abbrev TI:Code:=aN Tryz.f159
abbrev NX:=rK Tryz.f159
abbrev aGd:=aL mEv 159 (mEv.kp 159)
def BR (Q:aC) (t0:AV) (s:St):Prop:=Q t0 (adv s 2)
def uC (Q:aC) (ih1:AV->aC) (t0 t1:AV) (s:St):Prop:=aA (bt .len #[9] [t0] (s.nx+1) (adv s 9)) fun r6=>aA (bn .gtr 3 r6.1 (.int .i64 0)) fun t7=>Gd (aB t7 true) r6.2 (fun k=>k t0 r6.2) fun t9 s1=>Gd (aB t7 true) s1 (fun k=>aA (uK 9 t9 (.int .i64 0)) fun v=>k v s1) fun t10 s2=>Gd (aB t7 true) s2 (fun k=>k t1 s2) fun t11 s3=>Gd (aB t7 true) s3 (fun k=>aA (bn .eql 5 t10 t11) fun v=>k v s3) fun t12 s4=>aA (aJ t7 t12 (.bool false)) fun t13=>aP t13
 (aA (jM 9 t0 (some (.int .i64 1)) none none (adv s4 3)) fun t15=>ih1 t15 t1 (adv s4 3))
 (BR Q t0 s4)
def wM (Q:aC) (n:Nat):AV->aC:=fY (fun _ _ _ =>False) (fun ih=>uC Q ih) n
theorem XW (Q:aC):aGd (sub TI [Y,Y]) (NX Q) aX (NX Q)=(fun g s=>BR Q (g 0) s):=Eq.trans rfl (by kernel_rfl)
theorem aAh (Q:aC) (kN:Kt):aGd (sub TI [Y,N,N]) kN (cE 0 (fun g s=>BR Q (g 0) s) aX) (NX Q)=fun g s=>∃ n,wM Q n (g 0) (g 1) s:=jW (L:=fun n g s=>wM Q n (g 0) (g 1) s) (fun n1=>Eq.trans (aO (dI 1 rfl) rfl) (by kernel_rfl))
def f159 (Q:aC) (t0 t1:AV) (s:St):Prop:=∃ n,wM Q n t0 t1 (adv s 1)
theorem aJq (t0 t1:AV) (s:St) {Q:aC} (h:f159 Q t0 t1 s):eG 159 [t0,t1] s Q:=aH (h:=159) (fn:=Tryz.f159) (c:=sub TI []) (show aGd (sub TI []) (NX Q) aX (NX Q)=_ from (aO (aO (XW Q) (dI 0 (aAh Q _))) rfl)) h
def bBe (Q:aC) (t4:AV) (s:St):Prop:=aE mEv 110 [t4] (adv s 4) fun t46 s1=>Q (.tup [t46,(.int .i64 0)]) s1
def bDf (Q:aC) (ih1:AV->AV->AV->aC) (t26 t4 t24 t25:AV) (s:St):Prop:=aA (bn .add 3 t26 (.int .i64 1)) fun t44=>ih1 t4 t24 t25 t44 (adv s 2)
def aOv (Q:aC) (ih1:AV->AV->AV->aC) (t4 t24 t25 t26:AV) (s:St):Prop:=aA (bn .lss 3 t26 t25) fun t27=>aP t27
 (aA (cA 1 t24 t26) fun t28=>aA (ld 1 false t28 (adv s 4)) fun t29=>aA (bn .lss 5 t29 (.int .u8 48)) fun t31=>Gd (aB t31 false) (adv s 10) (fun k=>k t29 (adv s 10)) fun t33 s1=>Gd (aB t31 false) s1 (fun k=>aA (bn .gtr 5 t33 (.int .u8 57)) fun v=>k v s1) fun t34 s2=>aA (aJ t31 (.bool true) t34) fun t35=>aP t35
 (Q (.tup [.nils,(.int .i64 8)]) (adv s2 2))
 (aA (fZ 22 1 [(0,(.int .u32 10))]) fun t37=>aE mEv 180 [t4,t37] (adv s2 9) fun t38 s3=>aA (bn .sub 5 t29 (.int .u8 48)) fun t40=>aA (cv 5 211 t40 s3) fun t41=>aA (fZ 22 1 [(0,t41)]) fun t42=>aE mEv 179 [t38,t42] s3 fun t43 s4=>bDf Q ih1 t26 t43 t24 t25 s4))
 (bBe Q t4 (adv s 1))
def bCy (Q:aC) (n:Nat):AV->AV->AV->aC:=fY (fun _ _ _ _ _ =>False) (fun ih=>aOv Q ih) n
def f127 (Q:aC) (t0:AV) (s:St):Prop:=aA (bn .eql 9 t0 (.str [])) fun t8=>Gd (aB t8 false) (adv s 18) (fun k=>k t0 (adv s 18)) fun t10 s1=>Gd (aB t8 false) s1 (fun k=>aA (bt .len #[9] [t10] (s.nx+6) s1) fun r=>k r.1 r.2) fun t11 s2=>Gd (aB t8 false) s2 (fun k=>aA (bn .gtr 3 t11 (.int .i64 2000)) fun v=>k v s2) fun t12 s3=>aA (aJ t8 (.bool true) t12) fun t13=>Gd (aB t13 false) s3 (fun k=>k t0 s3) fun t15 s4=>Gd (aB t13 false) s4 (fun k=>aA (uK 9 t15 (.int .i64 0)) fun v=>k v s4) fun t16 s5=>Gd (aB t13 false) s5 (fun k=>aA (bn .eql 5 t16 (.int .u8 48)) fun v=>k v s5) fun t17 s6=>Gd (aB t13 false) s6 (fun k=>k t17 s6) fun t18 s7=>Gd (aB t18 true) s7 (fun k=>k t0 s7) fun t19 s8=>Gd (aB t18 true) s8 (fun k=>aA (bn .neq 9 t19 (.str [48])) fun v=>k v s8) fun t20 s9=>Gd (aB t13 false) s9 (fun k=>aA (aJ t18 t20 (.bool false)) fun v=>k v s9) fun t21 s10=>aA (aJ t13 (.bool true) t21) fun t22=>aP t22
 (Q (.tup [.nils,(.int .i64 8)]) (adv s10 2))
 (aA (cv 9 161 t0 (adv s10 5)) fun t24=>aA (bt .len #[161] [t24] (s10.nx+3) (adv s10 5)) fun r25=>∃ n,bCy Q n .nils t24 r25.1 (.int .i64 0) r25.2)
def f214 (Q:aC) (t0 t1:AV) (s:St):Prop:=aA (bt .len #[22] [t0] (s.nx+3) (adv s 5)) fun r7=>aA (bn .geq 3 t1 r7.1) fun t8=>aP t8
 (Q (.int .u64 0) (adv r7.2 1))
 (aA (cA 1 t0 t1) fun t11=>aA (ld 1 false t11 (adv r7.2 6)) fun t12=>aA (cv 211 159 t12 (adv r7.2 6)) fun t13=>Q t13 (adv r7.2 6))
def bCe (Q:aC) (t6:AV) (s:St):Prop:=aE mEv 110 [t6] (adv s 3) fun t39 s1=>Q t39 s1
def bBh (Q:aC) (ih1:AV->AV->AV->AV->AV->aC) (t18 t0 t1 t6 t7 t17:AV) (s:St):Prop:=aA (bn .add 3 t18 (.int .i64 1)) fun t37=>ih1 t0 t1 t6 t7 t17 t37 (adv s 2)
def aTo (Q:aC) (ih1:AV->AV->AV->AV->AV->aC) (t0 t1 t6 t7 t17 t18:AV) (s:St):Prop:=aA (bn .lss 3 t18 t17) fun t19=>aP t19
 (aE mEv 214 [t0,t18] (adv s 13) fun t24 s1=>aE mEv 214 [t1,t18] s1 fun t27 s2=>aA (bn .add 159 t24 t27) fun t28=>aA (bn .add 159 t7 t28) fun t29=>aA (cv 159 211 t29 (adv s2 6)) fun t33=>aA (cA 1 t6 t18) fun t34=>aA (bQ 1 t34 t33 (adv s2 6)) fun s3=>aA (bn .shr 159 t29 (.int .u64 32)) fun t36=>bBh Q ih1 t18 t0 t1 t6 t36 t17 (adv s3 3))
 (bCe Q t6 (adv s 1))
def bCp (Q:aC) (n:Nat):AV->AV->AV->AV->AV->aC:=fY (fun _ _ _ _ _ _ _ =>False) (fun ih=>aTo Q ih) n
def f179 (Q:aC) (t0 t1:AV) (s:St):Prop:=aA (bt .len #[22] [t0] (s.nx+2) (adv s 8)) fun r10=>aA (bt .len #[22] [t1] (s.nx+4) r10.2) fun r12=>aA (bt .max #[3,3] [r10.1,r12.1] (s.nx+5) r12.2) fun r13=>aA (bn .add 3 r13.1 (.int .i64 1)) fun t14=>aA (mkS Tryz.ty 22 t14 t14 (r13.2.nx+1) (adv r13.2 3)) fun r16=>∃ n,bCp Q n t0 t1 r16.1 (.int .u64 0) t14 (.int .i64 0) (adv r16.2 3)
def bAa (Q:aC) (t5:AV) (s:St):Prop:=aE mEv 110 [t5] (adv s 3) fun t66 s1=>Q t66 s1
def aYl (Q:aC) (ih1:AV->AV->AV->AV->aC) (t18 t1 t5 t16 t17:AV) (s:St):Prop:=aA (bn .add 3 t18 (.int .i64 1)) fun t64=>ih1 t1 t5 t16 t17 t64 (adv s 2)
def aYj (Q:aC) (ih1:AV->AV->AV->AV->aC) (t5 t6 t1 t8 t18 t16 t17:AV) (s:St):Prop:=aA (bt .len #[22] [t1] (s.nx+3) (adv s 9)) fun r59=>aA (bn .add 3 t6 r59.1) fun t60=>aA (cv 159 211 t8 r59.2) fun t62=>aA (cA 1 t5 t60) fun t63=>aA (bQ 1 t63 t62 r59.2) fun s1=>aYl Q ih1 t18 t1 t5 t16 t17 s1
def bCf (Q:aC) (ih1:AV->AV->AV->AV->aC) (ih2:AV->AV->AV->AV->AV->AV->AV->AV->AV->aC) (t25 t1 t5 t6 t7 t8 t16 t17 t18 t24:AV) (s:St):Prop:=aA (bn .add 3 t25 (.int .i64 1)) fun t55=>ih2 t1 t5 t6 t7 t8 t16 t17 t18 t24 t55 (adv s 2)
def aUj (Q:aC) (ih1:AV->AV->AV->AV->aC) (ih2:AV->AV->AV->AV->AV->AV->AV->AV->AV->aC) (t1 t5 t6 t7 t8 t16 t17 t18 t24 t25:AV) (s:St):Prop:=aA (bn .lss 3 t25 t24) fun t26=>aP t26
 (aA (cv 211 159 t7 (adv s 22)) fun t30=>aA (cA 1 t1 t25) fun t33=>aA (ld 1 false t33 (adv s 22)) fun t34=>aA (cv 211 159 t34 (adv s 22)) fun t35=>aA (bn .mul 159 t30 t35) fun t36=>aA (bn .add 3 t6 t25) fun t40=>aA (cA 1 t5 t40) fun t41=>aA (ld 1 false t41 (adv s 22)) fun t42=>aA (cv 211 159 t42 (adv s 22)) fun t43=>aA (bn .add 159 t36 t43) fun t44=>aA (bn .add 159 t8 t44) fun t45=>aA (bn .add 3 t6 t25) fun t49=>aA (cv 159 211 t45 (adv s 30)) fun t51=>aA (cA 1 t5 t49) fun t52=>aA (bQ 1 t52 t51 (adv s 30)) fun s1=>aA (bn .shr 159 t45 (.int .u64 32)) fun t54=>bCf Q ih1 ih2 t25 t1 t5 t6 t7 t54 t16 t17 t18 t24 (adv s1 3))
 (aYj Q ih1 t5 t6 t1 t8 t18 t16 t17 (adv s 1))
def aZq (Q:aC) (ih1:AV->AV->AV->AV->aC) (n:Nat):AV->AV->AV->AV->AV->AV->AV->AV->AV->aC:=fY (fun _ _ _ _ _ _ _ _ _ _ _ =>False) (fun ih=>aUj Q ih1 ih) n
def aRp (Q:aC) (ih1:AV->AV->AV->AV->aC) (t1 t5 t16 t17 t18:AV) (s:St):Prop:=aA (bn .lss 3 t18 t17) fun t19=>aP t19
 (aA (cA 1 t16 t18) fun t21=>aA (ld 1 false t21 (adv s 6)) fun t22=>aA (bt .len #[22] [t1] (s.nx+8) (adv s 10)) fun r24=>∃ n,aZq Q ih1 n t1 t5 t18 t22 (.int .u64 0) t16 t17 t18 r24.1 (.int .i64 0) r24.2)
 (bAa Q t5 (adv s 1))
def aZr (Q:aC) (n:Nat):AV->AV->AV->AV->aC:=fY (fun _ _ _ _ _ _ =>False) (fun ih=>aRp Q ih) n
def f180 (Q:aC) (t0 t1:AV) (s:St):Prop:=aA (bt .len #[22] [t0] (s.nx+2) (adv s 8)) fun r11=>aA (bt .len #[22] [t1] (s.nx+4) r11.2) fun r13=>aA (bn .add 3 r11.1 r13.1) fun t14=>aA (mkS Tryz.ty 22 t14 t14 (s.nx+6) r13.2) fun r15=>aA (bt .len #[22] [t0] (r15.2.nx+1) (adv r15.2 3)) fun r17=>∃ n,aZr Q n t1 r15.1 t0 r17.1 (.int .i64 0) r17.2
end
noncomputable section
section
structure gI (t e:TypeId) (z:Nat) (ag:Bool) (b:Nat):Prop where
 u:dZ Tryz.ty t=some (.slice e)
 l:eN Tryz.ty e=some (z,ag)
 b:dN Tryz.ty e=some b
 zr:(zero Tryz.ty e).map (fun v=>v.cells.length)=some z
 pos:0 < z
variable {t e:TypeId} {z b lo id:Nat} {ag:Bool} {s:St} {x:AV} {vs:List AV}
theorem aF {j id:Nat} {o:Option mK} (h:j≠id):(s.set id o).h j=s.h j:=by
 have:Nat.beq j id=false:=by
  cases hb:Nat.beq j id with
  | false=>rfl
  | true=>exact absurd (jS hb) h
 show cond (Nat.beq j id) o (s.h j)=s.h j;rw [this];rfl
theorem aG {id:Nat} {o:Option mK}:(s.set id o).h id=o:=by show cond (Nat.beq id id) o (s.h id)=o;rw [beq_self'];rfl
theorem mO (h:gI t e z ag b) (x y:AV) (id:Nat) (s:St):bt .append #[t,t] [x,y] id s=(aR z y s).bind fun c=>bM e z b x c id s:=by
 have h1:dZ (bX mEv).P t=some (.slice e):=h.u;have h2:eN (bX mEv).P e=some (z,ag):=h.l;have h3:dN (bX mEv).P e=some b:=h.b;have h4:=h.zr
 cases hz:zero Tryz.ty e with
 | none=>rw [hz] at h4;cases h4
 | some zv =>rw [hz] at h4;simp only [Option.map_some,m000] at h4;have h5:zero (bX mEv).P e=some zv:=hz;simp [bG,h1,h2,h3,h5,h4,h.pos]
def Gw (e:TypeId) (z lo:Nat) (s:St) (x:AV) (vs:List AV):Prop :=
 (∀ v∈vs,v.cells.length=z/\v.cells.all AV.one=true)/\((x=.nils/\vs=[])\/∃ id,lo<=id/\x=.ref id 0 vs.length none e/\s.h id=some (.cells (vs.flatMap AV.cells) e false true))
theorem fA:Gw e z lo s .nils []:=⟨fun _ h=>(by cases h),.inl ⟨rfl,rfl⟩⟩
theorem eX (h:∀ v∈vs,v.cells.length=z/\v.cells.all AV.one=true):(vs.flatMap AV.cells).length=vs.length * z:=by
 induction vs with
 | nil=>simp
 | cons v l ih =>rw [m024,m006,(h v (m007 ..)).1,ih fun x hx=>h x (m005 _ hx),List.length_cons,vL,Nat.add_comm]
theorem Gw.len (g:Gw e z lo s x vs):tE x s=some (vs.length:Int):=by obtain ⟨h,⟨rfl,rfl⟩ | ⟨id,_,rfl,_⟩⟩:=g<;>rfl
theorem Gw.mono {s':St} (g:Gw e z lo s x vs) (h:∀ j,lo<=j->s.h j≠none->s'.h j=s.h j):Gw e z lo s' x vs:=by
 obtain ⟨h1,⟨rfl,rfl⟩ | ⟨id,hi,rfl,hs⟩⟩:=g
 ·exact ⟨h1,.inl ⟨rfl,rfl⟩⟩
 ·exact ⟨h1,.inr ⟨id,hi,rfl,by rw [h id hi (by rw [hs];simp)];exact hs⟩⟩
theorem aYg (h:gI t e z ag b) (g:Gw e z lo s x vs) {v:AV} (hv:v.cells.length=z) (ho:v.cells.all AV.one=true) (hf:jA (vs.length+1) b=true) (hid:lo<=id) (ex:Bool) :
  ∃ x' s',bt .append #[t,t] [x,.sl ex [v]] id s=some (x',s')/\Gw e z lo s' x' (vs++[v])/\(∀ j,j < lo->s'.h j=s.h j)/\s'.nx=s.nx/\(∀ j,j≠id->(∀ n c,x≠.ref j 0 n c e)->s'.h j=s.h j)/\x'=.ref id 0 (vs.length+1) none e:=by
 rw [mO h];have hsrc:aR z (.sl ex [v]) s=some v.cells:=by simp [aR,hv]
 rw [hsrc,Option.bind_some];have hne:v.cells≠[]:=fun hh=>by rw [hh] at hv;have:=h.pos;simp at hv;omega
 have hem:v.cells.isEmpty=false:=by cases hc:v.cells with | nil=>exact absurd hc hne | cons a b=>rfl
 have hdiv:v.cells.length / z=1:=by rw [hv];exact Nat.div_self h.pos
 obtain ⟨h1,⟨rfl,rfl⟩ | ⟨i,hi,rfl,hs⟩⟩:=g
 ·have hf':jA 1 b=true:=by simpa using hf
  refine ⟨.ref id 0 1 none e,s.set id (some (.cells v.cells e false true)),?_,⟨?_,.inr ⟨id,hid,rfl,?_⟩⟩,?_,rfl,?_,rfl⟩
  ·unfold bM;simp [hem,ho,eC,hdiv,hf',kD]
  ·intro w hw;simp at hw;subst hw;exact ⟨hv,ho⟩
  ·rw [aG];simp
  ·intro j hj;exact aF (by omega)
  ·intro j hj _;exact aF hj
 ·have hfl:=eX h1;have hlen:(vs.flatMap AV.cells++v.cells).length / z=vs.length+1:=by rw [m006,hfl,hv,<- vL,CD _ h.pos]
  have hgt:¬ (vs.length * z+v.cells.length<=(vs.flatMap AV.cells).length):=by rw [hfl,hv];have:=h.pos;omega
  refine ⟨.ref id 0 (vs.length+1) none e,(s.set i none).set id (some (.cells (vs.flatMap AV.cells++v.cells) e false true)),?_,⟨?_,.inr ⟨id,hid,by simp,?_⟩⟩,?_,rfl,?_,rfl⟩
  ·unfold bM;simp only [hem,ho,m025,m015,if_false,hs,m023,hfl,bH,and_self,if_true];rw [if_neg (by rw [hv];have:=h.pos;omega)];simp only [eC,hlen,hf,if_true,kD]
  ·intro w hw;rcases m003.1 hw with hw | hw
   ·exact h1 w hw
   ·simp at hw;subst hw;exact ⟨hv,ho⟩
  ·rw [aG];simp
  ·intro j hj;rw [aF (by omega),aF (by omega)]
  ·intro j hj h2;have:j≠i:=fun hh=>h2 _ _ (by subst hh;rfl);rw [aF hj,aF this]
theorem aLk:∀ (vs fF c:List AV),c.length=vs.length->cD (fF++c) fF.length vs=fF++vs:=by
 intro vs
 induction vs with
 | nil=>intro fF c h;simp at h;subst h;rfl
 | cons v l ih =>
  intro fF c h
  match c,h with
  | y::c,h =>
   simp only [cD];have e:(fF++y::c).set fF.length v=(fF++[v])++c:=by simp
   have:=ih (fF++[v]) c (by simpa using h);rw [e];simpa using this
theorem bEn {c vs:List AV} (h:c.length=vs.length):cD c 0 vs=vs:=aLk vs [] c h
theorem bJ {v:AV} {c:List AV} {ex:Bool} (h:s.h id=some (.cells c e ex true)) (hc:c.length=z) (hv:v.cells.length=z) (ho:v.cells.all AV.one=true):bQ z (.ptr id 0) v s=some (s.set id (some (.cells v.cells e ex true))):=by show Ai.store z (.ptr id 0) v s=_;unfold Ai.store;simp only [h];rw [if_pos ⟨hv,by omega,ho⟩,bEn (by omega)]
theorem eW (h:gI t e z ag b) (hm:z<=2 ^ 24) {v:AV} (hv:v.cells.length=z) (ho:v.cells.all AV.one=true):fZ t 1 [(0,v)]=some (.sl true [v]):=by
 have h4:=h.zr
 cases hz:zero Tryz.ty e with
 | none=>rw [hz] at h4;cases h4
 | some zv =>rw [hz] at h4;simp only [Option.map_some,m000] at h4;simp [iQ,h.u,h.l,hz,h4,h.pos,hm,iM,hv,ho]
def aK (s:St):Prop:=∀ j,s.nx<=j->s.h j=none
theorem aK.adv {n:Nat} (h:aK s):aK (adv s n):=fun j hj=>h j (by have:s.nx+n<=j:=hj;omega)
theorem aK.set {i:Nat} {o:Option mK} (h:aK s) (hi:i < s.nx):aK (s.set i o):=fun j hj=>by have hj:s.nx<=j:=hj;rw [aF (by omega)];exact h j hj
theorem bU:aK St.empty:=fun _ _=>rfl
theorem Gw.set {i:Nat} {o:Option mK} (g:Gw e z lo s x vs) (hi:s.h i=none):Gw e z lo (s.set i o) x vs :=
 g.mono fun j _ hj=>aF fun he=>hj (by rw [he];exact hi)
theorem Gw.adv {n:Nat} (g:Gw e z lo s x vs):Gw e z lo (adv s n) x vs:=g.mono fun _ _ _=>rfl
theorem VG (h:gI t e z ag b) (g:Gw e z lo s x vs) (fr:aK s) {v:AV} (hv:v.cells.length=z) (ho:v.cells.all AV.one=true) (hf:jA (vs.length+1) b=true) (hid:lo<=id) (hid2:id < s.nx) (ex:Bool) :
  ∃ x' s',bt .append #[t,t] [x,.sl ex [v]] id s=some (x',s')/\Gw e z lo s' x' (vs++[v])/\aK s'/\s'.nx=s.nx/\(∀ j,j < lo->s'.h j=s.h j)/\(∀ j,j≠id->(∀ n c,x≠.ref j 0 n c e)->s'.h j=s.h j)/\x'=.ref id 0 (vs.length+1) none e:=by
 obtain ⟨x',s',h1,h2,h3,h4,h5,h6⟩:=aYg h g hv ho hf hid ex;refine ⟨x',s',h1,h2,fun j hj=>?_,h4,h3,h5,h6⟩;rw [h4] at hj;rw [h5 j (by omega) (fun n c hx=>?_)]
 ·exact fr j hj
 ·obtain ⟨_,⟨h6,_⟩ | ⟨i,_,h6,h7⟩⟩:=g
  ·rw [h6] at hx;cases hx
  ·rw [h6] at hx;cases hx;rw [fr _ hj] at h7;cases h7
theorem bE {v:AV} (k:Nat) (h:v.closed=true):pur mEv.P s k v=some (v,[]):=by unfold pur;rw [if_pos h]
theorem iH {l:List AV} (k:Nat) (h:aW l=true):dJ (pur mEv.P s k) l=some (l,[]):=by
 induction l with
 | nil=>rfl
 | cons v l ih =>simp only [aW,bN] at h;simp only [dJ,bE k h.1,ih h.2,m011]
theorem SE (h:∀ v∈vs,v.cells.length=z/\v.cells.all AV.one=true) (ha:∀ v∈vs,v=.agg v.cells):nO z vs.length (vs.flatMap AV.cells)=vs:=by
 induction vs with
 | nil=>rfl
 | cons v l ih =>have hv:=(h v (m007 ..)).1;rw [m024,List.length_cons,nO,List.take_left' hv,List.drop_left' hv,ih (fun x hx=>h x (m005 _ hx)) (fun x hx=>ha x (m005 _ hx)),<- ha v (m007 ..)]
theorem mP (h:∀ v∈vs,v.closed=true):aW (vs.flatMap AV.cells)=true:=by
 induction vs with
 | nil=>rfl
 | cons v l ih =>
  rw [m024];have h1:aW v.cells=true:=by have:=h v (m007 ..);cases v<;>first | exact this | (simp only [AV.cells,aW,this,gA];done) | (simp only [AV.cells,aW,m059];exact this)
  have h2:=ih fun x hx=>h x (m005 _ hx);generalize v.cells=a at h1
  induction a with
  | nil=>exact h2
  | cons y a iha =>simp only [List.cons_append,aW,bN] at h1 ⊢;exact ⟨h1.1,iha h1.2⟩
theorem jO (h:∀ v∈vs,v.cells=[v]):vs.flatMap AV.cells=vs:=by
 induction vs with
 | nil=>rfl
 | cons v l ih=>rw [m024,h v (m007 ..),ih fun x hx=>h x (m005 _ hx)];rfl
theorem aSk (h:gI t e 1 false b) (g:Gw e 1 lo s x vs) (hc:∀ v∈vs,v.closed=true) (ha:∀ v∈vs,iK v=true) (k:Nat):∃ ids,pur mEv.P s (k+1) x=some (.sl false vs,ids):=by
 obtain ⟨h1,⟨rfl,rfl⟩ | ⟨i,hi,rfl,hs⟩⟩:=g
 ·exact ⟨[],rfl⟩
 ·have h2:eN mEv.P e=some (1,false):=h.l;have hp:=iH (s:=s) k (mP hc);have hfl:=eX h1;have hone:vs.flatMap AV.cells=vs:=jO fun v hv=>by have:=ha v hv;cases v<;>first | rfl | cases this
  have hall:vs.all iK=true:=m032.2 ha;rw [hone] at hp;refine ⟨[i],?_⟩;have hnc:(AV.ref i 0 vs.length none e).closed=false:=rfl;unfold pur;rw [hnc,if_neg (by simp)];simp only [hs,h2,hfl,m023,bH,Nat.lt_one_iff,Nat.zero_lt_one,and_self,if_true,m048];rw [show (vs.flatMap AV.cells).take (vs.length * 1)=vs.flatMap AV.cells from m014 (by rw [hfl];exact bH _)];rw [hone,hp];simp only [Option.bind_some,hall,gA,m078,m026,m031,Nat.beq_refl,if_true,m015,if_false]
theorem rA {y v:AV} {ids:List Nat} {k:Nat} (hx:x.closed=false) (h:pur mEv.P s k x=some (v,ids)) (hy:y.closed=true):pur mEv.P s (k+1) (.tup [x,y])=some (.tup [v,y],ids):=by
 have hc:(AV.tup [x,y]).closed=false:=by simp only [AV.closed,aW,hx,m035]
 unfold pur;rw [hc,if_neg (by simp)];simp only [dJ,h,bE k hy,m011,Option.map_some]
theorem aPz {h:FuncId} {args args2:List AV} {ids:List Nat} {v:AV} {K:aC} (hp:dJ (pur mEv.P s 12) args=some (args2,ids)) (hc:aU mEv h args2 v) (hf:v.flat=true) (hk:K v s):aE mEv h args s K :=
 .mk args2 ids v hp hc (by rw [hf,m078,if_pos rfl];exact hk)
end
end
noncomputable section
set_option maxRecDepth 1000000
def aZm (Q:aC) (s:St):Prop:=Q (.int .i64 (-1)) (adv s 1)
def f246 (Q:aC) (t0:AV) (s:St):Prop:=aA (bn .geq 5 t0 (.int .u8 48)) fun t5=>Gd (aB t5 true) (adv s 8) (fun k=>k t0 (adv s 8)) fun t7 s1=>Gd (aB t5 true) s1 (fun k=>aA (bn .leq 5 t7 (.int .u8 57)) fun v=>k v s1) fun t8 s2=>aA (aJ t5 t8 (.bool false)) fun t9=>aP t9
 (aA (bn .sub 5 t0 (.int .u8 48)) fun t11=>aA (cv 5 3 t11 (adv s2 4)) fun t12=>Q t12 (adv s2 4))
 (aA (bn .geq 5 t0 (.int .u8 97)) fun t15=>Gd (aB t15 true) (adv s2 7) (fun k=>k t0 (adv s2 7)) fun t17 s3=>Gd (aB t15 true) s3 (fun k=>aA (bn .leq 5 t17 (.int .u8 102)) fun v=>k v s3) fun t18 s4=>aA (aJ t15 t18 (.bool false)) fun t19=>aP t19
 (aA (bn .sub 5 t0 (.int .u8 97)) fun t21=>aA (cv 5 3 t21 (adv s4 5)) fun t22=>aA (bn .add 3 t22 (.int .i64 10)) fun t23=>Q t23 (adv s4 5))
 (aA (bn .geq 5 t0 (.int .u8 65)) fun t26=>Gd (aB t26 true) (adv s4 7) (fun k=>k t0 (adv s4 7)) fun t28 s5=>Gd (aB t26 true) s5 (fun k=>aA (bn .leq 5 t28 (.int .u8 70)) fun v=>k v s5) fun t29 s6=>aA (aJ t26 t29 (.bool false)) fun t30=>aP t30
 (aA (bn .sub 5 t0 (.int .u8 65)) fun t32=>aA (cv 5 3 t32 (adv s6 5)) fun t33=>aA (bn .add 3 t33 (.int .i64 10)) fun t34=>Q t34 (adv s6 5))
 (aZm Q s6)))
def bCr (Q:aC) (t0 t3:AV) (s:St):Prop:=aA (bn .eql 9 t0 (.str [])) fun t23=>Gd (aB t23 false) (adv s 6) (fun k=>k t3 (adv s 6)) fun t25 s1=>Gd (aB t23 false) s1 (fun k=>aA (bn .gtr 3 t25 (.int .i64 196607)) fun v=>k v s1) fun t26 s2=>aA (aJ t23 (.bool true) t26) fun t27=>aP t27
 (Q (.int .i64 (-1)) (adv s2 1))
 (Q t3 (adv s2 2))
def aYh (Q:aC) (ih1:AV->AV->AV->aC) (t8 t0 t3 t7:AV) (s:St):Prop:=aA (bn .add 3 t8 (.int .i64 1)) fun t21=>ih1 t0 t3 t7 t21 (adv s 2)
def aRi (Q:aC) (ih1:AV->AV->AV->aC) (t0 t3 t7 t8:AV) (s:St):Prop:=aA (bn .lss 3 t8 t7) fun t9=>aP t9
 (aA (uK 9 t0 t8) fun t13=>aE mEv 246 [t13] (adv s 8) fun t14 s1=>aA (bn .lss 3 t14 (.int .i64 0)) fun t16=>aP t16
 (Q (.int .i64 (-1)) (adv s1 3))
 (aA (bn .mul 3 (.int .i64 16) t3) fun t18=>aA (bn .add 3 t18 t14) fun t20=>aYh Q ih1 t8 t0 t20 t7 (adv s1 7)))
 (bCr Q t0 t3 (adv s 1))
def bAw (Q:aC) (n:Nat):AV->AV->AV->aC:=fY (fun _ _ _ _ _ =>False) (fun ih=>aRi Q ih) n
def f217 (Q:aC) (t0:AV) (s:St):Prop:=aA (bt .len #[9] [t0] (s.nx+3) (adv s 5)) fun r7=>∃ n,bAw Q n t0 (.int .i64 0) r7.1 (.int .i64 0) r7.2
def f244 (Q:aC) (t0 t1:AV) (s:St):Prop:=aE mEv 123 [t0,t1] (adv s 6) fun t8 s1=>aA (un .not t8) fun t9=>aP t9
 (Q (.tup [t0,(.bool false)]) (adv s1 3))
 (aA (bt .len #[9] [t1] (s1.nx+2) (adv s1 6)) fun r13=>aA (jM 9 t0 (some r13.1) none none r13.2) fun t14=>Q (.tup [t14,(.bool true)]) r13.2)
def f215 (Q:aC) (t0 t1:AV) (s:St):Prop:=aE mEv 244 [t0,t1] (adv s 9) fun t8 s1=>aA (aQ t8 0) fun t9=>aA (aQ t8 1) fun t10=>Q (.tup [t9,t10]) s1
def f245 (Q:aC) (t0 t1:AV) (s:St):Prop:=aE mEv 268 [t0,t1] (adv s 7) fun t10 s1=>aA (bn .geq 3 t10 (.int .i64 0)) fun t12=>aP t12
 (aA (jM 9 t0 none (some t10) none (adv s1 14)) fun t15=>aA (bt .len #[9] [t1] (s1.nx+8) (adv s1 14)) fun r19=>aA (bn .add 3 t10 r19.1) fun t20=>aA (jM 9 t0 (some t20) none none r19.2) fun t21=>Q (.tup [t15,t21,(.bool true)]) r19.2)
 (Q (.tup [t0,(.str []),(.bool false)]) (adv s1 6))
def f216 (Q:aC) (t0 t1:AV) (s:St):Prop:=aE mEv 245 [t0,t1] (adv s 12) fun t9 s1=>aA (aQ t9 0) fun t10=>aA (aQ t9 1) fun t11=>aA (aQ t9 2) fun t12=>Q (.tup [t10,t11,t12]) s1
def bBx (Q:aC) (s:St):Prop:=Q (.int .i64 (-1)) (adv s 1)
def aOq (Q:aC) (ih1:AV->AV->AV->AV->AV->AV->AV->aC) (t0 t8 t7 t5 t1 t10 t9 t6:AV) (s:St):Prop:=aA (bn .add 3 t8 (.int .i64 1)) fun t80=>aA (uK 9 t0 t80) fun t81=>aA (bn .eql 5 t81 t7) fun t83=>Gd (aB t83 true) (adv s 16) (fun k=>k t0 (adv s 16)) fun t85 s1=>Gd (aB t83 true) s1 (fun k=>k t8 s1) fun t86 s2=>Gd (aB t83 true) s2 (fun k=>k t8 s2) fun t87 s3=>Gd (aB t83 true) s3 (fun k=>k t5 s3) fun t88 s4=>Gd (aB t83 true) s4 (fun k=>aA (bn .add 3 t87 t88) fun v=>k v s4) fun t89 s5=>Gd (aB t83 true) s5 (fun k=>aA (jM 9 t85 (some t86) (some t89) none s5) fun v=>k v s5) fun t90 s6=>Gd (aB t83 true) s6 (fun k=>k t1 s6) fun t91 s7=>Gd (aB t83 true) s7 (fun k=>aA (bn .eql 9 t90 t91) fun v=>k v s7) fun t92 s8=>aA (aJ t83 t92 (.bool false)) fun t93=>aP t93
 (Q t8 (adv s8 2))
 (aA (bn .add 3 t8 (.int .i64 1)) fun t96=>aA (bn .add 3 t10 (.int .i64 1)) fun t98=>aA (ld 1 false (gl 4) (adv s8 15)) fun t100=>aA (bn .leq 3 t5 t100) fun t101=>Gd (aB t101 true) (adv s8 15) (fun k=>k t98 (adv s8 15)) fun t103 s9=>Gd (aB t101 true) s9 (fun k=>k t96 s9) fun t104 s10=>Gd (aB t101 true) s10 (fun k=>aE mEv 261 [t104] s10 k) fun t105 s11=>Gd (aB t101 true) s11 (fun k=>aA (bn .gtr 3 t103 t105) fun v=>k v s11) fun t106 s12=>aA (aJ t101 t106 (.bool false)) fun t107=>aP t107
 (aA (jM 9 t0 (some t96) none none (adv s12 6)) fun t110=>aE mEv 262 [t110,t1] (adv s12 6) fun t112 s13=>aA (bn .geq 3 t112 (.int .i64 0)) fun t114=>aP t114
 (aA (bn .add 3 t112 t96) fun t117=>Q t117 (adv s13 6))
 (Q (.int .i64 (-1)) (adv s13 3)))
 (aA (ld 1 false (gl 4) (adv s12 15)) fun t119=>aA (bn .gtr 3 t5 t119) fun t120=>Gd (aB t120 true) (adv s12 15) (fun k=>k t98 (adv s12 15)) fun t122 s14=>Gd (aB t120 true) s14 (fun k=>k t96 s14) fun t123 s15=>Gd (aB t120 true) s15 (fun k=>aA (bn .shr 3 t123 (.int .u64 4)) fun v=>k v s15) fun t124 s16=>Gd (aB t120 true) s16 (fun k=>aA (bn .add 3 (.int .i64 4) t124) fun v=>k v s16) fun t125 s17=>Gd (aB t120 true) s17 (fun k=>aA (bn .geq 3 t122 t125) fun v=>k v s17) fun t126 s18=>aA (aJ t120 t126 (.bool false)) fun t127=>Gd (aB t127 true) s18 (fun k=>k t96 s18) fun t129 s19=>Gd (aB t127 true) s19 (fun k=>k t9 s19) fun t130 s20=>Gd (aB t127 true) s20 (fun k=>aA (bn .lss 3 t129 t130) fun v=>k v s20) fun t131 s21=>aA (aJ t127 t131 (.bool false)) fun t132=>aP t132
 (aA (jM 9 t0 (some t96) none none (adv s21 6)) fun t135=>aE mEv 284 [t135,t1] (adv s21 6) fun t137 s22=>aA (bn .lss 3 t137 (.int .i64 0)) fun t139=>aP t139
 (Q (.int .i64 (-1)) (adv s22 3))
 (aA (bn .add 3 t96 t137) fun t142=>Q t142 (adv s22 6)))
 (ih1 t0 t1 t5 t6 t7 t96 t9 t98 s21)))
def aPm (Q:aC) (ih1:AV->AV->AV->AV->AV->AV->AV->aC) (t0 t1 t5 t6 t7 t8 t9 t10:AV) (s:St):Prop:=aA (bn .lss 3 t8 t9) fun t59=>aP t59
 (aA (uK 9 t0 t8) fun t62=>aA (bn .neq 5 t62 t6) fun t64=>aP t64
 (aA (bn .add 3 t8 (.int .i64 1)) fun t67=>aA (jM 9 t0 (some t67) (some t9) none (adv s 16)) fun t69=>aE mEv 269 [t69,t6] (adv s 16) fun t71 s1=>aA (bn .lss 3 t71 (.int .i64 0)) fun t73=>aP t73
 (Q (.int .i64 (-1)) (adv s1 3))
 (aA (bn .add 3 t71 (.int .i64 1)) fun t76=>aA (bn .add 3 t8 t76) fun t77=>aOq Q ih1 t0 t77 t7 t5 t1 t10 t9 t6 (adv s1 7)))
 (aOq Q ih1 t0 t8 t7 t5 t1 t10 t9 t6 (adv s 8)))
 (bBx Q (adv s 3))
def bAf (Q:aC) (n:Nat):AV->AV->AV->AV->AV->AV->AV->aC:=fY (fun _ _ _ _ _ _ _ _ _ =>False) (fun ih=>aPm Q ih) n
def bAc (Q:aC) (t1 t0 t5:AV) (s:St):Prop:=aA (uK 9 t1 (.int .i64 0)) fun t49=>aA (uK 9 t1 (.int .i64 1)) fun t51=>aA (bt .len #[9] [t0] (s.nx+8) (adv s 13)) fun r53=>aA (bn .sub 3 r53.1 t5) fun t55=>aA (bn .add 3 t55 (.int .i64 1)) fun t56=>∃ n,bAf Q n t0 t1 t5 t49 t51 (.int .i64 0) t56 (.int .i64 0) (adv r53.2 1)
def f268 (Q:aC) (t0 t1:AV) (s:St):Prop:=aA (bt .len #[9] [t1] (s.nx+2) (adv s 4)) fun r15=>aA (bn .eql 3 r15.1 (.int .i64 0)) fun t18=>Gd (aB t18 false) (adv r15.2 8) (fun k=>k t1 (adv r15.2 8)) fun t20 s1=>Gd (aB t18 false) s1 (fun k=>k t0 s1) fun t21 s2=>Gd (aB t18 false) s2 (fun k=>aA (bn .eql 9 t20 t21) fun v=>k v s2) fun t22 s3=>aA (aJ t18 (.bool true) t22) fun t23=>aP t23
 (Q (.int .i64 0) (adv s3 1))
 (aA (bn .eql 3 r15.1 (.int .i64 1)) fun t26=>aP t26
 (aA (uK 9 t1 (.int .i64 0)) fun t29=>aE mEv 269 [t0,t29] (adv s3 8) fun t30 s4=>Q t30 s4)
 (aA (bt .len #[9] [t0] (s3.nx+5) (adv s3 8)) fun r34=>aA (bn .geq 3 r15.1 r34.1) fun t35=>aP t35
 (Q (.int .i64 (-1)) (adv r34.2 1))
 (aA (ld 1 false (gl 4) (adv r34.2 9)) fun t38=>aA (bn .leq 3 r15.1 t38) fun t39=>Gd (aB t39 true) (adv r34.2 9) (fun k=>k t0 (adv r34.2 9)) fun t41 s5=>Gd (aB t39 true) s5 (fun k=>aA (bt .len #[9] [t41] (r34.2.nx+5) s5) fun r=>k r.1 r.2) fun t42 s6=>Gd (aB t39 true) s6 (fun k=>aA (bn .leq 3 t42 (.int .i64 64)) fun v=>k v s6) fun t43 s7=>aA (aJ t39 t43 (.bool false)) fun t44=>aP t44
 (aE mEv 262 [t0,t1] (adv s7 4) fun t47 s8=>Q t47 s8)
 (bAc Q t1 t0 r15.1 s7))))
def f269 (Q:aC) (t0 t1:AV) (s:St):Prop:=aE mEv 285 [t0,t1] (adv s 5) fun t7 s1=>Q t7 s1
def f182 (Q:aC) (t0:AV) (s:St):Prop:=aE mEv 215 [t0,(.str [92,117])] (adv s 9) fun t13 s1=>aA (aQ t13 0) fun t14=>aA (aQ t13 1) fun t15=>aA (un .not t15) fun t17=>aP t17
 (Q (.tup [(.int .i64 (-1)),(.int .i64 0)]) (adv s1 4))
 (aE mEv 215 [t14,(.str [123])] (adv s1 9) fun t20 s2=>aA (aQ t20 0) fun t21=>aA (aQ t20 1) fun t22=>aP t22
 (aE mEv 216 [t21,(.str [125])] (adv s2 10) fun t26 s3=>aA (aQ t26 0) fun t27=>aA (aQ t26 1) fun t28=>aA (aQ t26 2) fun t29=>aA (un .not t29) fun t31=>Gd (aB t31 false) (adv s3 7) (fun k=>k t27 (adv s3 7)) fun t33 s4=>Gd (aB t31 false) s4 (fun k=>aA (bt .len #[9] [t33] (s3.nx+4) s4) fun r=>k r.1 r.2) fun t34 s5=>Gd (aB t31 false) s5 (fun k=>aA (bn .gtr 3 t34 (.int .i64 5)) fun v=>k v s5) fun t35 s6=>aA (aJ t31 (.bool true) t35) fun t36=>aP t36
 (Q (.tup [(.int .i64 (-1)),(.int .i64 0)]) (adv s6 2))
 (aE mEv 217 [t27] (adv s6 7) fun t38 s7=>aA (bt .len #[9] [t27] (s6.nx+3) s7) fun r40=>aA (bn .add 3 r40.1 (.int .i64 4)) fun t41=>Q (.tup [t38,t41]) r40.2))
 (aA (bt .len #[9] [t14] (s2.nx+2) (adv s2 4)) fun r43=>aA (bn .lss 3 r43.1 (.int .i64 4)) fun t44=>aP t44
 (Q (.tup [(.int .i64 (-1)),(.int .i64 0)]) (adv r43.2 2))
 (aA (jM 9 t14 none (some (.int .i64 4)) none (adv r43.2 5)) fun t46=>aE mEv 217 [t46] (adv r43.2 5) fun t47 s8=>Q (.tup [t47,(.int .i64 6)]) s8)))
def bAu (Q:aC) (t3:AV) (s:St):Prop:=Q t3 (adv s 2)
def aLf (Q:aC) (ih1:AV->AV->aC) (t3 t5 t4 t6 t0:AV) (s:St):Prop:=aA (fZ 72 1 [(0,t5)]) fun t26=>aA (bt .append #[72,72] [t3,t26] (s.nx+3) (adv s 5)) fun r27=>aA (bn .add 3 t4 t6) fun t30=>ih1 t0 r27.1 t30 (adv r27.2 4)
def aSh (Q:aC) (ih1:AV->AV->aC) (t0 t3 t4:AV) (s:St):Prop:=aA (bt .len #[9] [t0] (s.nx+2) (adv s 4)) fun r9=>aA (bn .geq 3 t4 r9.1) fun t10=>aP t10
 (bAu Q t3 r9.2)
 (aA (jM 9 t0 (some t4) none none (adv r9.2 9)) fun t14=>aE mEv 182 [t14] (adv r9.2 9) fun t15 s1=>aA (aQ t15 0) fun t16=>aA (aQ t15 1) fun t17=>aA (bn .lss 3 t16 (.int .i64 0)) fun t19=>aP t19
 (aA (uK 9 t0 t4) fun t22=>aA (cv 5 3 t22 (adv s1 8)) fun t23=>aLf Q ih1 t3 t23 t4 (.int .i64 1) t0 (adv s1 8))
 (aLf Q ih1 t3 t16 t4 t17 t0 (adv s1 2)))
def aZh (Q:aC) (n:Nat):AV->AV->aC:=fY (fun _ _ _ _ =>False) (fun ih=>aSh Q ih) n
def f129 (Q:aC) (t0:AV) (s:St):Prop:=∃ n,aZh Q n t0 .nils (.int .i64 0) (adv s 3)
def aZg (Q:aC) (t4:AV) (s:St):Prop:=aA (bt .len #[25] [t4] (s.nx+1) (adv s 3)) fun r46=>aA (bn .gtr 3 r46.1 (.int .i64 65536)) fun t47=>aP t47
 (Q (.tup [.nils,(.int .i64 2)]) (adv r46.2 2))
 (Q (.tup [t4,(.int .i64 0)]) (adv r46.2 3))
def aDh (Q:aC) (ih1:AV->AV->AV->aC) (t10 t4 t8 t9:AV) (s:St):Prop:=aA (bn .add 3 t10 (.int .i64 1)) fun t44=>ih1 t4 t8 t9 t44 (adv s 2)
def aSn (Q:aC) (ih1:AV->AV->AV->aC) (t4 t8 t9 t10:AV) (s:St):Prop:=aA (bn .lss 3 t10 t9) fun t11=>aP t11
 (aA (cA 1 t8 t10) fun t12=>aA (ld 1 false t12 (adv s 4)) fun t13=>aE mEv 181 [t13] (adv s 7) fun t15 s1=>aA (un .not t15) fun t16=>aP t16
 (Q (.tup [.nils,(.int .i64 1)]) (adv s1 2))
 (aA (bt .len #[25] [t4] (s1.nx+1) (adv s1 4)) fun r18=>aA (bn .sub 3 r18.1 (.int .i64 1)) fun t19=>aA (bn .geq 3 t19 (.int .i64 0)) fun t21=>Gd (aB t21 true) (adv r18.2 11) (fun k=>k t4 (adv r18.2 11)) fun t23 s2=>Gd (aB t21 true) s2 (fun k=>k t19 s2) fun t24 s3=>Gd (aB t21 true) s3 (fun k=>aA (cA 2 t23 t24) fun v=>k v s3) fun t25 s4=>Gd (aB t21 true) s4 (fun k=>aA (aD 0 t25) fun v=>k v s4) fun t26 s5=>Gd (aB t21 true) s5 (fun k=>aA (ld 1 false t26 s5) fun v=>k v s5) fun t27 s6=>Gd (aB t21 true) s6 (fun k=>k t13 s6) fun t28 s7=>Gd (aB t21 true) s7 (fun k=>aA (bn .eql 3 t27 t28) fun v=>k v s7) fun t29 s8=>aA (aJ t21 t29 (.bool false)) fun t30=>aP t30
 (aA (cA 2 t4 t19) fun t33=>aA (aD 1 t33) fun t34=>aA (ld 1 false t34 (adv s8 9)) fun t35=>aA (bn .add 3 t35 (.int .i64 1)) fun t36=>aA (cA 2 t4 t19) fun t37=>aA (aD 1 t37) fun t38=>aA (bQ 1 t38 t36 (adv s8 9)) fun s9=>aDh Q ih1 t10 t4 t8 t9 s9)
 (aA (eE 109 [(0,t13),(1,(.int .i64 1))]) fun t41=>aA (fZ 25 1 [(0,t41)]) fun t42=>aA (bt .append #[25,25] [t4,t42] (s8.nx+4) (adv s8 6)) fun r43=>aDh Q ih1 t10 r43.1 t8 t9 r43.2)))
 (aZg Q t4 (adv s 1))
def aZl (Q:aC) (n:Nat):AV->AV->AV->aC:=fY (fun _ _ _ _ _ =>False) (fun ih=>aSn Q ih) n
def f128 (Q:aC) (t0:AV) (s:St):Prop:=aA (bt .len #[72] [t0] (s.nx+4) (adv s 6)) fun r9=>∃ n,aZl Q n .nils t0 r9.1 (.int .i64 0) r9.2
end
noncomputable section
set_option maxRecDepth 1000000
abbrev sK:Code:=aN Tryz.f166
abbrev oU:=rK Tryz.f166
abbrev wB:=aL mEv 166 (mEv.kp 166)
def tD (Q:aC) (t1 t8:AV) (s:St):Prop:=aA (bn .lss 3 t1 (.int .i64 0)) fun t52=>aP t52
 (Q (.tup [.nils,(.int .i64 2)]) (adv s 4))
 (Q (.tup [t8,(.int .i64 0)]) (adv s 5))
def pP (Q:aC) (ih1:AV->AV->AV->AV->aC) (t29 t1 t8 t27 t28:AV) (s:St):Prop:=aA (bn .add 3 t29 (.int .i64 1)) fun t50=>ih1 t1 t8 t27 t28 t50 (adv s 2)
def PU (Q:aC) (ih1:AV->AV->AV->AV->aC) (ih2:AV->AV->AV->AV->AV->AV->AV->aC) (t42 t1 t8 t10 t27 t28 t29 t41:AV) (s:St):Prop:=aA (bn .add 3 t42 (.int .i64 1)) fun t49=>ih2 t1 t8 t10 t27 t28 t29 t41 t49 (adv s 2)
def vO (Q:aC) (ih1:AV->AV->AV->AV->aC) (ih2:AV->AV->AV->AV->AV->AV->AV->aC) (t1 t8 t10 t27 t28 t29 t41 t42:AV) (s:St):Prop:=aA (bn .lss 3 t42 t41) fun t43=>aP t43
 (aA (aD 0 t10) fun t45=>aA (ld 1 false t45 (adv s 7)) fun t46=>aA (fZ 72 1 [(0,t46)]) fun t47=>aA (bt .append #[72,72] [t8,t47] (s.nx+5) (adv s 7)) fun r48=>PU Q ih1 ih2 t42 t1 r48.1 t10 t27 t28 t29 t41 r48.2)
 (pP Q ih1 t29 t1 t8 t27 t28 (adv s 1))
def pC (Q:aC) (ih1:AV->AV->AV->AV->aC) (n:Nat):AV->AV->AV->AV->AV->AV->AV->aC:=fY (fun _ _ _ _ _ _ _ _ _ =>False) (fun ih=>vO Q ih1 ih) n
def rI (Q:aC) (ih1:AV->AV->AV->AV->aC) (t1 t8 t27 t28 t29:AV) (s:St):Prop:=aA (bn .lss 3 t29 t28) fun t30=>aP t30
 (aA (cA 2 t27 t29) fun t31=>aA (ld 2 true t31 (adv s 5)) fun t32=>aA (zr 109) fun z10=>aA (bQ 2 (.ptr (s.nx+3) 0) t32 ((adv s 5).set (s.nx+3) (some (.cells z10.cells 109 true true)))) fun s1=>aA (aD 1 (.ptr (s.nx+3) 0)) fun t33=>aA (ld 1 false t33 (adv s1 7)) fun t34=>aA (bt .len #[72] [t8] (s1.nx+4) (adv s1 7)) fun r37=>aA (bn .sub 3 t1 r37.1) fun t38=>aA (bn .gtr 3 t34 t38) fun t39=>aP t39
 (Q (.tup [.nils,(.int .i64 2)]) (adv r37.2 2))
 (aA (aD 1 (.ptr (s.nx+3) 0)) fun t40=>aA (ld 1 false t40 (adv r37.2 3)) fun t41=>∃ n,pC Q ih1 n t1 t8 (.ptr (s.nx+3) 0) t27 t28 t29 t41 (.int .i64 0) (adv r37.2 3)))
 (tD Q t1 t8 (adv s 1))
def gD (Q:aC) (n:Nat):AV->AV->AV->AV->aC:=fY (fun _ _ _ _ _ _ =>False) (fun ih=>rI Q ih) n
def xV (Q:aC) (t0 t1:AV) (s:St):Prop:=aA (bt .len #[25] [t0] (s.nx+2) (adv s 4)) fun r28=>∃ n,gD Q n t1 .nils t0 r28.1 (.int .i64 0) r28.2
def QS (Q:aC) (ih3:AV->AV->AV->AV->aC) (t13 t0 t1 t11 t12:AV) (s:St):Prop:=aA (bn .add 3 t13 (.int .i64 1)) fun t26=>ih3 t0 t1 t11 t12 t26 (adv s 2)
def oM (Q:aC) (ih3:AV->AV->AV->AV->aC) (t0 t1 t11 t12 t13:AV) (s:St):Prop:=aA (bn .lss 3 t13 t12) fun t14=>aP t14
 (aA (cA 2 t11 t13) fun t15=>aA (ld 2 true t15 (adv s 5)) fun t16=>aA (zr 109) fun z7=>aA (bQ 2 (.ptr (s.nx+3) 0) t16 ((adv s 5).set (s.nx+3) (some (.cells z7.cells 109 true true)))) fun s1=>aA (aD 0 (.ptr (s.nx+3) 0)) fun t17=>aA (ld 1 false t17 (adv s1 9)) fun t18=>aE mEv 181 [t18] (adv s1 9) fun t19 s2=>aA (un .not t19) fun t20=>Gd (aB t20 false) s2 (fun k=>aA (aD 1 (.ptr (s.nx+3) 0)) fun v=>k v s2) fun t22 s3=>Gd (aB t20 false) s3 (fun k=>aA (ld 1 false t22 s3) fun v=>k v s3) fun t23 s4=>Gd (aB t20 false) s4 (fun k=>aA (bn .lss 3 t23 (.int .i64 1)) fun v=>k v s4) fun t24 s5=>aA (aJ t20 (.bool true) t24) fun t25=>aP t25
 (Q (.tup [.nils,(.int .i64 1)]) (adv s5 2))
 (QS Q ih3 t13 t0 t1 t11 t12 s5))
 (xV Q t0 t1 (adv s 1))
def qD (Q:aC) (n:Nat):AV->AV->AV->AV->aC:=fY (fun _ _ _ _ _ _ =>False) (fun ih=>oM Q ih) n
theorem YS (Q:aC):wB (sub sK [Y,Y,Y,Y]) (oU Q) aX (oU Q)=(fun g s=>tD Q (g 1) (g 8) s):=Eq.trans rfl (by kernel_rfl)
theorem YV (Q:aC) (n1:Nat):wB (sub sK [Y,Y,Y,N,Y,N,N,Y,Y,Y]) (mA (fun n g s=>gD Q n (g 1) (g 8) (g 27) (g 28) (g 29) s) 166 n1) (cE 2 (fun g s=>tD Q (g 1) (g 8) s) aX) (oU Q)=(fun g s=>pP Q (gD Q n1) (g 29) (g 1) (g 8) (g 27) (g 28) s):=Eq.trans rfl (by kernel_rfl)
theorem YG (Q:aC) (n1:Nat) (n2:Nat):wB (sub sK [Y,Y,Y,N,Y,N,N,Y,Y,N,N,Y,Y,Y,N,N,Y,Y,Y]) (mA (fun n g s=>pC Q (gD Q n1) n (g 1) (g 8) (g 10) (g 27) (g 28) (g 29) (g 41) (g 42) s) 166 n2) (cE 4 (fun g s=>pP Q (gD Q n1) (g 29) (g 1) (g 8) (g 27) (g 28) s) (cE 3 (fun g s=>pP Q (gD Q n1) (g 29) (g 1) (g 8) (g 27) (g 28) s) (cE 2 (fun g s=>tD Q (g 1) (g 8) s) aX))) (oU Q)=(fun g s=>PU Q (gD Q n1) (pC Q (gD Q n1) n2) (g 42) (g 1) (g 8) (g 10) (g 27) (g 28) (g 29) (g 41) s):=Eq.trans rfl (by kernel_rfl)
theorem WD (Q:aC) (n1:Nat) (kN:Kt):wB (sub sK [Y,Y,Y,N,Y,N,N,Y,Y,N,N,Y,Y,Y,N]) kN (cE 4 (fun g s=>pP Q (gD Q n1) (g 29) (g 1) (g 8) (g 27) (g 28) s) (cE 3 (fun g s=>pP Q (gD Q n1) (g 29) (g 1) (g 8) (g 27) (g 28) s) (cE 2 (fun g s=>tD Q (g 1) (g 8) s) aX))) (oU Q)=fun g s=>∃ n,pC Q (gD Q n1) n (g 1) (g 8) (g 10) (g 27) (g 28) (g 29) (g 41) (g 42) s:=jW (L:=fun n g s=>pC Q (gD Q n1) n (g 1) (g 8) (g 10) (g 27) (g 28) (g 29) (g 41) (g 42) s) (fun n2=>Eq.trans (aO (aO (aO (YG Q n1 n2) (dI 5 rfl)) rfl) rfl) (by kernel_rfl))
theorem ZC (Q:aC) (kN:Kt):wB (sub sK [Y,Y,Y,N,Y,N]) kN (cE 2 (fun g s=>tD Q (g 1) (g 8) s) aX) (oU Q)=fun g s=>∃ n,gD Q n (g 1) (g 8) (g 27) (g 28) (g 29) s:=jW (L:=fun n g s=>gD Q n (g 1) (g 8) (g 27) (g 28) (g 29) s) (fun n1=>Eq.trans (aO (aO (aO (YV Q n1) (dI 3 (aO (aO (aO (dI 4 (WD Q n1 _)) rfl) rfl) rfl))) rfl) rfl) (by kernel_rfl))
theorem WF (Q:aC):wB (sub sK [Y,Y]) (oU Q) aX (oU Q)=(fun g s=>xV Q (g 0) (g 1) s):=Eq.trans (aO (aO (YS Q) (aO (dI 2 (ZC Q _)) rfl)) rfl) (by kernel_rfl)
theorem aAe (Q:aC) (n3:Nat):wB (sub sK [Y,N,Y,N,N,Y,Y,Y]) (mA (fun n g s=>qD Q n (g 0) (g 1) (g 11) (g 12) (g 13) s) 166 n3) (cE 0 (fun g s=>xV Q (g 0) (g 1) s) aX) (oU Q)=(fun g s=>QS Q (qD Q n3) (g 13) (g 0) (g 1) (g 11) (g 12) s):=Eq.trans rfl (by kernel_rfl)
theorem aBk (Q:aC) (kN:Kt):wB (sub sK [Y,N,Y,N]) kN (cE 0 (fun g s=>xV Q (g 0) (g 1) s) aX) (oU Q)=fun g s=>∃ n,qD Q n (g 0) (g 1) (g 11) (g 12) (g 13) s:=jW (L:=fun n g s=>qD Q n (g 0) (g 1) (g 11) (g 12) (g 13) s) (fun n3=>Eq.trans (aO (aO (aO (aAe Q n3) (dI 1 rfl)) rfl) rfl) (by kernel_rfl))
def f166 (Q:aC) (t0 t1:AV) (s:St):Prop:=aA (bt .len #[25] [t0] (s.nx+3) (adv s 5)) fun r12=>∃ n,qD Q n t0 t1 t0 r12.1 (.int .i64 0) r12.2
theorem aGj (t0 t1:AV) (s:St) {Q:aC} (h:f166 Q t0 t1 s):eG 166 [t0,t1] s Q:=aH (h:=166) (fn:=Tryz.f166) (c:=sub sK []) (show wB (sub sK []) (oU Q) aX (oU Q)=_ from (aO (aO (WF Q) (aO (dI 0 (aBk Q _)) rfl)) rfl)) h
abbrev aWr:Code:=aN Tryz.f181
abbrev aXe:=rK Tryz.f181
abbrev bKc:=aL mEv 181 (mEv.kp 181)
def f181 (Q:aC) (t0:AV) (s:St):Prop:=aA (bn .geq 3 t0 (.int .i64 0)) fun t4=>Gd (aB t4 true) (adv s 8) (fun k=>k t0 (adv s 8)) fun t6 s1=>Gd (aB t4 true) s1 (fun k=>aA (bn .leq 3 t6 (.int .i64 196607)) fun v=>k v s1) fun t7 s2=>aA (aJ t4 t7 (.bool false)) fun t8=>Q t8 s2
theorem aEt (t0:AV) (s:St) {Q:aC} (h:f181 Q t0 s):eG 181 [t0] s Q:=aH (h:=181) (fn:=Tryz.f181) (c:=sub aWr []) (show bKc (sub aWr []) (aXe Q) aX (aXe Q)=_ from rfl) h
end
noncomputable section
set_option maxRecDepth 1000000
def f6 (Q:aC) (t0 t1:AV) (s:St):Prop:=(t0.cells.all AV.one=true /\
 aE mEv 25 [] (adv ((adv s 2).set s.nx (some (.cells t0.cells 33 true true))) 2) fun t10 s1=>aA (un .not t10) fun t12=>Gd (aB t12 false) (adv s1 14) (fun k=>k t1 (adv s1 14)) fun t14 s2=>Gd (aB t12 false) s2 (fun k=>aA (bt .len #[9] [t14] (s1.nx+4) s2) fun r=>k r.1 r.2) fun t15 s3=>Gd (aB t12 false) s3 (fun k=>aA (bn .gtr 3 t15 (.int .i64 200)) fun v=>k v s3) fun t16 s4=>aA (aJ t12 (.bool true) t16) fun t17=>Gd (aB t17 false) s4 (fun k=>aA (aD 1 (.ptr s.nx 0)) fun v=>k v s4) fun t19 s5=>Gd (aB t17 false) s5 (fun k=>aA (aD 1 t19) fun v=>k v s5) fun t20 s6=>Gd (aB t17 false) s6 (fun k=>aA (ld 1 false t20 s6) fun v=>k v s6) fun t21 s7=>Gd (aB t17 false) s7 (fun k=>aA (bt .len #[9] [t21] (s1.nx+11) s7) fun r=>k r.1 r.2) fun t22 s8=>Gd (aB t17 false) s8 (fun k=>aA (bn .gtr 3 t22 (.int .i64 200)) fun v=>k v s8) fun t23 s9=>aA (aJ t17 (.bool true) t23) fun t24=>aP t24
 (Q t10 (adv s9 2))
 (aA (ld 6 true (.ptr s.nx 0) (adv s9 7)) fun t27=>aE mEv 26 [t27] (adv s9 7) fun t28 s10=>aA (aQ t28 0) fun t29=>aA (aQ t28 1) fun t30=>aA (ld 6 true (.ptr s.nx 0) (adv s10 7)) fun t32=>aE mEv 27 [t32] (adv s10 7) fun t33 s11=>aA (aQ t33 0) fun t34=>aA (aQ t33 1) fun t35=>aA (bn .eql 3 t29 t34) fun t38=>Gd (aB t38 true) (adv s11 16) (fun k=>k t30 (adv s11 16)) fun t40 s12=>Gd (aB t38 true) s12 (fun k=>k t35 s12) fun t41 s13=>Gd (aB t38 true) s13 (fun k=>aA (bn .eql 34 t40 t41) fun v=>k v s13) fun t42 s14=>aA (aJ t38 t42 (.bool false)) fun t43=>Gd (aB t43 true) s14 (fun k=>k t1 s14) fun t45 s15=>Gd (aB t43 true) s15 (fun k=>aE mEv 24 [t45] s15 k) fun t46 s16=>Gd (aB t43 true) s16 (fun k=>k t1 s16) fun t47 s17=>Gd (aB t43 true) s17 (fun k=>aE mEv 28 [t47] s17 k) fun t48 s18=>Gd (aB t43 true) s18 (fun k=>aA (bn .eql 4 t46 t48) fun v=>k v s18) fun t49 s19=>aA (aJ t43 t49 (.bool false)) fun t50=>Q t50 s19))
def aWc (Q:aC) (s:St):Prop:=Q (.tup [(.int .i64 0),(.int .i64 101)]) (adv s 2)
def f26 (Q:aC) (t0:AV) (s:St):Prop:=(t0.cells.all AV.one=true /\
 aA (aD 0 (.ptr s.nx 0)) fun t4=>aA (ld 1 false t4 (adv ((adv s 3).set s.nx (some (.cells t0.cells 33 true true))) 9)) fun t5=>aA (un .not t5) fun t6=>Gd (aB t6 true) (adv ((adv s 3).set s.nx (some (.cells t0.cells 33 true true))) 9) (fun k=>aA (aD 1 (.ptr s.nx 0)) fun v=>k v (adv ((adv s 3).set s.nx (some (.cells t0.cells 33 true true))) 9)) fun t8 s1=>Gd (aB t6 true) s1 (fun k=>aA (aD 0 t8) fun v=>k v s1) fun t9 s2=>Gd (aB t6 true) s2 (fun k=>aA (ld 1 false t9 s2) fun v=>k v s2) fun t10 s3=>Gd (aB t6 true) s3 (fun k=>aA (bn .eql 3 t10 (.int .i64 3)) fun v=>k v s3) fun t11 s4=>aA (aJ t6 t11 (.bool false)) fun t12=>aP t12
 (aA (aD 1 (.ptr s.nx 0)) fun t13=>aA (aD 1 t13) fun t14=>aA (ld 1 false t14 (adv s4 3)) fun t15=>aA (bn .eql 9 t15 (.str [66,111,111,108])) fun t17=>aP t17
 (Q (.tup [(.int .i64 1),(.int .i64 0)]) (adv s4 7))
 (aA (bn .eql 9 t15 (.str [73,110,116])) fun t19=>aP t19
 (Q (.tup [(.int .i64 2),(.int .i64 0)]) (adv s4 9))
 (aA (bn .eql 9 t15 (.str [83,116,114,105,110,103])) fun t21=>aP t21
 (Q (.tup [(.int .i64 3),(.int .i64 0)]) (adv s4 11))
 (aWc Q (adv s4 9)))))
 (aWc Q s4))
def bFi (Q:aC) (s:St):Prop:=Q (.tup [(.int .i64 0),(.int .i64 101)]) (adv s 2)
def bIm (Q:aC) (ih1:AV->AV->aC) (t5 t1 t4:AV) (s:St):Prop:=aA (bn .add 3 t5 (.int .i64 1)) fun t10=>ih1 t1 t4 t10 (adv s 3)
def bBs (Q:aC) (ih1:AV->AV->aC) (t1 t4 t5:AV) (s:St):Prop:=aA (bn .lss 3 t5 (.int .i64 3)) fun t8=>aP t8
 (aA (aD 0 t1) fun t11=>aA (ld 1 false t11 (adv s 21)) fun t12=>aA (un .not t12) fun t13=>Gd (aB t13 true) (adv s 21) (fun k=>aA (aD 1 t1) fun v=>k v (adv s 21)) fun t15 s1=>Gd (aB t13 true) s1 (fun k=>aA (aD 0 t15) fun v=>k v s1) fun t16 s2=>Gd (aB t13 true) s2 (fun k=>aA (ld 1 false t16 s2) fun v=>k v s2) fun t17 s3=>Gd (aB t13 true) s3 (fun k=>aA (bn .eql 3 t17 (.int .i64 3)) fun v=>k v s3) fun t18 s4=>aA (aJ t13 t18 (.bool false)) fun t19=>Gd (aB t19 true) s4 (fun k=>aA (aD 1 t1) fun v=>k v s4) fun t21 s5=>Gd (aB t19 true) s5 (fun k=>aA (aD 1 t21) fun v=>k v s5) fun t22 s6=>Gd (aB t19 true) s6 (fun k=>aA (ld 1 false t22 s6) fun v=>k v s6) fun t23 s7=>Gd (aB t19 true) s7 (fun k=>k t4 s7) fun t24 s8=>Gd (aB t19 true) s8 (fun k=>k t5 s8) fun t25 s9=>Gd (aB t19 true) s9 (fun k=>aA (cA 1 t24 t25) fun v=>k v s9) fun t26 s10=>Gd (aB t19 true) s10 (fun k=>aA (ld 1 false t26 s10) fun v=>k v s10) fun t27 s11=>Gd (aB t19 true) s11 (fun k=>aA (bn .eql 9 t23 t27) fun v=>k v s11) fun t28 s12=>aA (aJ t19 t28 (.bool false)) fun t29=>aP t29
 (aA (bn .add 3 t5 (.int .i64 1)) fun t31=>Q (.tup [t31,(.int .i64 0)]) (adv s12 4))
 (bIm Q ih1 t5 t1 t4 s12))
 (bFi Q (adv s 2))
def bDq (Q:aC) (n:Nat):AV->AV->aC:=fY (fun _ _ _ _ =>False) (fun ih=>bBs Q ih) n
def f27 (Q:aC) (t0:AV) (s:St):Prop:=(t0.cells.all AV.one=true /\
 aA (fZ 52 3 [(0,(.str [66,111,111,108])),(1,(.str [73,110,116])),(2,(.str [83,116,114,105,110,103]))]) fun t6=>∃ n,bDq Q n (.ptr s.nx 0) t6 (.int .i64 0) (adv ((adv s 3).set s.nx (some (.cells t0.cells 33 true true))) 3))
def bHa (Q:aC) (t0:AV) (s:St):Prop:=aE mEv 71 [t0,(.int .i64 2)] (adv s 12) fun t19 s1=>aA (bn .neq 3 t19 (.int .i64 0)) fun t20=>Gd (aB t20 false) s1 (fun k=>k t0 s1) fun t22 s2=>Gd (aB t20 false) s2 (fun k=>aE mEv 72 [t22,(.str [115,116,114,46])] s2 k) fun t23 s3=>aA (aJ t20 (.bool true) t23) fun t24=>Gd (aB t24 false) s3 (fun k=>k t0 s3) fun t26 s4=>Gd (aB t24 false) s4 (fun k=>aE mEv 72 [t26,(.str [114,101,46])] s4 k) fun t27 s5=>aA (aJ t24 (.bool true) t27) fun t28=>Q t28 s5
def oC (Q:aC) (t4 t0:AV) (s:St):Prop:=aP t4
 (Q (.bool true) (adv s 1))
 (bHa Q t0 s)
def f24 (Q:aC) (t0:AV) (s:St):Prop:=aA (bn .eql 9 t0 (.str [116,114,117,101])) fun t5=>aP t5
 (oC Q t5 t0 (adv s 4))
 (aA (bn .eql 9 t0 (.str [102,97,108,115,101])) fun t6=>aP t6
 (oC Q t6 t0 (adv s 6))
 (aA (bn .eql 9 t0 (.str [108,101,116])) fun t7=>aP t7
 (oC Q t7 t0 (adv s 8))
 (aA (bn .eql 9 t0 (.str [102,111,114,97,108,108])) fun t8=>aP t8
 (oC Q t8 t0 (adv s 10))
 (aA (bn .eql 9 t0 (.str [101,120,105,115,116,115])) fun t9=>aP t9
 (oC Q t9 t0 (adv s 12))
 (aA (bn .eql 9 t0 (.str [109,97,116,99,104])) fun t10=>aP t10
 (oC Q t10 t0 (adv s 14))
 (aA (bn .eql 9 t0 (.str [112,97,114])) fun t11=>aP t11
 (oC Q t11 t0 (adv s 16))
 (aA (bn .eql 9 t0 (.str [33])) fun t12=>aP t12
 (oC Q t12 t0 (adv s 18))
 (aA (bn .eql 9 t0 (.str [95])) fun t13=>aP t13
 (oC Q t13 t0 (adv s 20))
 (aA (bn .eql 9 t0 (.str [97,115])) fun t14=>aP t14
 (oC Q t14 t0 (adv s 22))
 (aA (bn .eql 9 t0 (.str [100,105,118])) fun t15=>aP t15
 (oC Q t15 t0 (adv s 24))
 (aA (bn .eql 9 t0 (.str [109,111,100])) fun t16=>aP t16
 (oC Q t16 t0 (adv s 26))
 (aA (bn .eql 9 t0 (.str [97,98,115])) fun t17=>oC Q t17 t0 (adv s 28)))))))))))))
def bKf (Q:aC) (t0:AV) (s:St):Prop:=aA (bt .len #[9] [t0] (s.nx+1) (adv s 9)) fun r21=>aA (bn .geq 3 r21.1 (.int .i64 4)) fun t22=>Gd (aB t22 true) r21.2 (fun k=>k t0 r21.2) fun t24 s1=>Gd (aB t22 true) s1 (fun k=>aA (jM 9 t24 none (some (.int .i64 4)) none s1) fun v=>k v s1) fun t25 s2=>Gd (aB t22 true) s2 (fun k=>aA (bn .eql 9 t25 (.str [115,116,114,46])) fun v=>k v s2) fun t26 s3=>aA (aJ t22 t26 (.bool false)) fun t27=>aA (bt .len #[9] [t0] (s3.nx+1) (adv s3 9)) fun r29=>aA (bn .geq 3 r29.1 (.int .i64 3)) fun t30=>Gd (aB t30 true) r29.2 (fun k=>k t0 r29.2) fun t32 s4=>Gd (aB t30 true) s4 (fun k=>aA (jM 9 t32 none (some (.int .i64 3)) none s4) fun v=>k v s4) fun t33 s5=>Gd (aB t30 true) s5 (fun k=>aA (bn .eql 9 t33 (.str [114,101,46])) fun v=>k v s5) fun t34 s6=>aA (aJ t30 t34 (.bool false)) fun t35=>Gd (aB t27 false) (adv s6 10) (fun k=>k t35 (adv s6 10)) fun t38 s7=>aA (aJ t27 (.bool true) t38) fun t39=>Gd (aB t39 false) s7 (fun k=>k t0 s7) fun t41 s8=>Gd (aB t39 false) s8 (fun k=>aE mEv 23 [t41,(.int .i64 2)] s8 k) fun t42 s9=>Gd (aB t39 false) s9 (fun k=>aA (bn .neq 3 t42 (.int .i64 0)) fun v=>k v s9) fun t43 s10=>aA (aJ t39 (.bool true) t43) fun t44=>Q t44 s10
def bJn (Q:aC) (ih1:AV->AV->aC) (t4 t0 t3:AV) (s:St):Prop:=aA (bn .add 3 t4 (.int .i64 1)) fun t13=>ih1 t0 t3 t13 (adv s 3)
def bBz (Q:aC) (ih1:AV->AV->aC) (t0 t3 t4:AV) (s:St):Prop:=aA (bt .len #[52] [t3] (s.nx+2) (adv s 4)) fun r10=>aA (bn .lss 3 t4 r10.1) fun t11=>aP t11
 (aA (cA 1 t3 t4) fun t16=>aA (ld 1 false t16 (adv r10.2 6)) fun t17=>aA (bn .eql 9 t17 t0) fun t19=>aP t19
 (Q (.bool true) (adv r10.2 7))
 (bJn Q ih1 t4 t0 t3 (adv r10.2 6)))
 (bKf Q t0 r10.2)
def bGw (Q:aC) (n:Nat):AV->AV->aC:=fY (fun _ _ _ _ =>False) (fun ih=>bBz Q ih) n
def f28 (Q:aC) (t0:AV) (s:St):Prop:=aA (fZ 52 13 [(0,(.str [116,114,117,101])),(1,(.str [102,97,108,115,101])),(2,(.str [108,101,116])),(3,(.str [102,111,114,97,108,108])),(4,(.str [101,120,105,115,116,115])),(5,(.str [109,97,116,99,104])),(6,(.str [112,97,114])),(7,(.str [33])),(8,(.str [95])),(9,(.str [97,115])),(10,(.str [100,105,118])),(11,(.str [109,111,100])),(12,(.str [97,98,115]))]) fun t7=>∃ n,bGw Q n t0 t7 (.int .i64 0) (adv s 4)
def bHt (Q:aC) (t0:AV) (s:St):Prop:=aE mEv 122 [t0] (adv s 3) fun t39 s1=>Q t39 s1
def f71 (Q:aC) (t0 t1:AV) (s:St):Prop:=aA (bn .eql 9 t0 (.str [110,111,116])) fun t7=>aP t7
 (Q (.int .i64 6) (adv s 5))
 (aA (bn .eql 9 t0 (.str [97,110,100])) fun t9=>aP t9
 (Q (.int .i64 7) (adv s 7))
 (aA (bn .eql 9 t0 (.str [111,114])) fun t11=>aP t11
 (Q (.int .i64 8) (adv s 9))
 (aA (bn .eql 9 t0 (.str [61,62])) fun t13=>aP t13
 (Q (.int .i64 9) (adv s 11))
 (aA (bn .eql 9 t0 (.str [120,111,114])) fun t15=>aP t15
 (Q (.int .i64 10) (adv s 13))
 (aA (bn .eql 9 t0 (.str [61])) fun t17=>aP t17
 (Q (.int .i64 11) (adv s 15))
 (aA (bn .eql 9 t0 (.str [100,105,115,116,105,110,99,116])) fun t19=>aP t19
 (Q (.int .i64 12) (adv s 17))
 (aA (bn .eql 9 t0 (.str [105,116,101])) fun t21=>aP t21
 (Q (.int .i64 13) (adv s 19))
 (aA (bn .eql 9 t0 (.str [43])) fun t23=>aP t23
 (Q (.int .i64 15) (adv s 21))
 (aA (bn .eql 9 t0 (.str [45])) fun t25=>aP t25
 (aA (bn .eql 3 t1 (.int .i64 1)) fun t27=>aP t27
 (Q (.int .i64 14) (adv s 25))
 (Q (.int .i64 16) (adv s 25)))
 (aA (bn .eql 9 t0 (.str [42])) fun t29=>aP t29
 (Q (.int .i64 17) (adv s 25))
 (aA (bn .eql 9 t0 (.str [60,61])) fun t31=>aP t31
 (Q (.int .i64 18) (adv s 27))
 (aA (bn .eql 9 t0 (.str [60])) fun t33=>aP t33
 (Q (.int .i64 19) (adv s 29))
 (aA (bn .eql 9 t0 (.str [62,61])) fun t35=>aP t35
 (Q (.int .i64 20) (adv s 31))
 (aA (bn .eql 9 t0 (.str [62])) fun t37=>aP t37
 (Q (.int .i64 21) (adv s 33))
 (bHt Q t0 (adv s 32))))))))))))))))
def aZo (Q:aC) (s:St):Prop:=Q (.int .i64 0) (adv s 1)
def f122 (Q:aC) (t0:AV) (s:St):Prop:=aA (bn .eql 9 t0 (.str [115,116,114,46,43,43])) fun t5=>aP t5
 (Q (.int .i64 22) (adv s 5))
 (aA (bn .eql 9 t0 (.str [115,116,114,46,108,101,110])) fun t7=>aP t7
 (Q (.int .i64 23) (adv s 7))
 (aA (bn .eql 9 t0 (.str [115,116,114,46,97,116])) fun t9=>aP t9
 (Q (.int .i64 24) (adv s 9))
 (aA (bn .eql 9 t0 (.str [115,116,114,46,115,117,98,115,116,114])) fun t11=>aP t11
 (Q (.int .i64 25) (adv s 11))
 (aA (bn .eql 9 t0 (.str [115,116,114,46,112,114,101,102,105,120,111,102])) fun t13=>aP t13
 (Q (.int .i64 26) (adv s 13))
 (aA (bn .eql 9 t0 (.str [115,116,114,46,115,117,102,102,105,120,111,102])) fun t15=>aP t15
 (Q (.int .i64 27) (adv s 15))
 (aA (bn .eql 9 t0 (.str [115,116,114,46,99,111,110,116,97,105,110,115])) fun t17=>aP t17
 (Q (.int .i64 28) (adv s 17))
 (aA (bn .eql 9 t0 (.str [115,116,114,46,105,110,100,101,120,111,102])) fun t19=>aP t19
 (Q (.int .i64 29) (adv s 19))
 (aA (bn .eql 9 t0 (.str [115,116,114,46,114,101,112,108,97,99,101])) fun t21=>aP t21
 (Q (.int .i64 30) (adv s 21))
 (aZo Q (adv s 20))))))))))
def f72 (Q:aC) (t0 t1:AV) (s:St):Prop:=aE mEv 123 [t0,t1] (adv s 5) fun t7 s1=>Q t7 s1
def f123 (Q:aC) (t0 t1:AV) (s:St):Prop:=aA (bt .len #[9] [t0] (s.nx+2) (adv s 15)) fun r6=>aA (bt .len #[9] [t1] (s.nx+4) r6.2) fun r8=>aA (bn .geq 3 r6.1 r8.1) fun t9=>Gd (aB t9 true) r8.2 (fun k=>k t0 r8.2) fun t11 s1=>Gd (aB t9 true) s1 (fun k=>k t1 s1) fun t12 s2=>Gd (aB t9 true) s2 (fun k=>aA (bt .len #[9] [t12] (s.nx+9) s2) fun r=>k r.1 r.2) fun t13 s3=>Gd (aB t9 true) s3 (fun k=>aA (jM 9 t11 none (some t13) none s3) fun v=>k v s3) fun t14 s4=>Gd (aB t9 true) s4 (fun k=>k t1 s4) fun t15 s5=>Gd (aB t9 true) s5 (fun k=>aA (bn .eql 9 t14 t15) fun v=>k v s5) fun t16 s6=>aA (aJ t9 t16 (.bool false)) fun t17=>Q t17 s6
def bLg (Q:aC) (s:St):Prop:=Q (.int .i64 0) (adv s 1)
def bJr (Q:aC) (ih1:AV->AV->aC) (t6 t0 t5:AV) (s:St):Prop:=aA (bn .add 3 t6 (.int .i64 1)) fun t19=>ih1 t0 t5 t19 (adv s 3)
def aZn (Q:aC) (ih1:AV->AV->aC) (t0 t5 t6:AV) (s:St):Prop:=aA (bt .len #[52] [t5] (s.nx+2) (adv s 4)) fun r16=>aA (bn .lss 3 t6 r16.1) fun t17=>aP t17
 (aA (cA 1 t5 t6) fun t22=>aA (ld 1 false t22 (adv r16.2 10)) fun t23=>aA (bn .eql 9 t23 t0) fun t25=>Gd (aB t25 true) (adv r16.2 10) (fun k=>k t0 (adv r16.2 10)) fun t27 s1=>Gd (aB t25 true) s1 (fun k=>aA (bn .neq 9 t27 (.str [])) fun v=>k v s1) fun t28 s2=>aA (aJ t25 t28 (.bool false)) fun t29=>aP t29
 (aA (bn .add 3 (.int .i64 6) t6) fun t31=>Q t31 (adv s2 3))
 (bJr Q ih1 t6 t0 t5 s2))
 (bLg Q r16.2)
def bDy (Q:aC) (n:Nat):AV->AV->aC:=fY (fun _ _ _ _ =>False) (fun ih=>aZn Q ih) n
def f23 (Q:aC) (t0 t1:AV) (s:St):Prop:=aA (bn .eql 9 t0 (.str [45])) fun t8=>Gd (aB t8 true) (adv s 7) (fun k=>k t1 (adv s 7)) fun t10 s1=>Gd (aB t8 true) s1 (fun k=>aA (bn .eql 3 t10 (.int .i64 1)) fun v=>k v s1) fun t11 s2=>aA (aJ t8 t11 (.bool false)) fun t12=>aP t12
 (Q (.int .i64 14) (adv s2 1))
 (aA (fZ 52 25 [(0,(.str [110,111,116])),(1,(.str [97,110,100])),(2,(.str [111,114])),(3,(.str [61,62])),(4,(.str [120,111,114])),(5,(.str [61])),(6,(.str [100,105,115,116,105,110,99,116])),(7,(.str [105,116,101])),(8,(.str [])),(9,(.str [43])),(10,(.str [45])),(11,(.str [42])),(12,(.str [60,61])),(13,(.str [60])),(14,(.str [62,61])),(15,(.str [62])),(16,(.str [115,116,114,46,43,43])),(17,(.str [115,116,114,46,108,101,110])),(18,(.str [115,116,114,46,97,116])),(19,(.str [115,116,114,46,115,117,98,115,116,114])),(20,(.str [115,116,114,46,112,114,101,102,105,120,111,102])),(21,(.str [115,116,114,46,115,117,102,102,105,120,111,102])),(22,(.str [115,116,114,46,99,111,110,116,97,105,110,115])),(23,(.str [115,116,114,46,105,110,100,101,120,111,102])),(24,(.str [115,116,114,46,114,101,112,108,97,99,101]))]) fun t13=>∃ n,bDy Q n t0 t13 (.int .i64 0) (adv s2 3))
end
noncomputable section
noncomputable def iZ (f:FuncId) (args:List AV):Option AV:=(lI mEv 1000 f args St.empty).bind fun r=>(pur mEv.P r.2 12 r.1).map Prod.fst
theorem mS {f:FuncId} {args:List AV} {v:AV} (h:iZ f args=some v):aU mEv f args v:=by
 unfold iZ at h
 cases hc:lI mEv 1000 f args St.empty with
 | none=>rw [hc] at h;cases h
 | some r =>rw [hc] at h;obtain ⟨r,s'⟩:=r;simp only [Option.bind_some,m022] at h;obtain ⟨⟨w,ids⟩,h1,rfl⟩:=h;exact ⟨1000,r,s',ids,KJ _ _ _ _ _ _ hc,h1⟩
theorem lW {f:FuncId} {a:Nat->AV} {v:Nat->AV} {n:Nat} (h:(List.range n).map (fun c=>iZ f [a c])=(List.range n).map fun c=>some (v c)) {c:Nat} (hc:c < n):aU mEv f [a c] (v c):=by refine mS ?_;have h1:=congrArg (fun l=>l[c]?) h;simpa [hc] using h1
end
noncomputable section
set_option maxRecDepth 100000
def fF (p x:List UInt8):Bool:=decide (p.length<=x.length)&&(x.take p.length==p)
def hit:List (List UInt8×Int)->List UInt8->Option Int
 | [],_=>none
 | (p,v)::l,x=>if (x==p)=true then some v else hit l x
def txL:List (List UInt8×Int):=[([115,116,114,46,43,43],22),([115,116,114,46,108,101,110],23),([115,116,114,46,97,116],24),([115,116,114,46,115,117,98,115,116,114],25),([115,116,114,46,112,114,101,102,105,120,111,102],26),([115,116,114,46,115,117,102,102,105,120,111,102],27),([115,116,114,46,99,111,110,116,97,105,110,115],28),([115,116,114,46,105,110,100,101,120,111,102],29),([115,116,114,46,114,101,112,108,97,99,101],30)]
def opL:List (List UInt8×Int):=[([110,111,116],6),([97,110,100],7),([111,114],8),([61,62],9),([120,111,114],10),([61],11),([100,105,115,116,105,110,99,116],12),([105,116,101],13),([43],15),([45],16),([42],17),([60,61],18),([60],19),([62,61],20),([62],21)]
def bNn:List (List UInt8):=[[116,114,117,101],[102,97,108,115,101],[108,101,116],[102,111,114,97,108,108],[101,120,105,115,116,115],[109,97,116,99,104],[112,97,114],[33],[95],[97,115],[100,105,118],[109,111,100],[97,98,115]]
def opN (x:List UInt8):Int:=(hit opL x).getD ((hit txL x).getD 0)
def bMw:List (List UInt8×Int):=bNn.map fun p=>(p,1)
def yM (x:List UInt8):List (List UInt8)->Nat->Option Nat
 | [],_=>none
 | p::l,i=>if (p==x)=true then some i else yM x l (i+1)
end
end Go.Proofs.YtdehdahimkcakaaGreatDoor
