/- Texts joined by wip/tools/pack.py: Tab,Words,LSx,Step,Env,Clo,Clone,LVl,LNa,Grow,LLt,LLi. -/
import Derived.Test.YtdehdahimkcakaaGreatDoorRows
import Derived.Test.YtdehdahimkcakaaGreatDoorZk
set_option linter.unusedSimpArgs false
set_option linter.unusedVariables false
namespace Go.Proofs.YtdehdahimkcakaaGreatDoor
open Go Ai
noncomputable section
mutual
def dCells:DataW Unit→List AV
 | .lit (.bool b)=>[.bool b]
 | .lit (.int k n)=>[.int k n]
 | .lit (.string b)=>[.str b]
 | .agg l=>dCellsL l
 | _=>[.undef]
def dCellsL:List (DataW Unit)→List AV
 | []=>[]
 | d :: l=>dCells d ++ dCellsL l
end
noncomputable def Tryz.tyT:Tr TypeInfo:=(.n Tryz.t0 (.n Tryz.t1 (.n Tryz.t3 (.n Tryz.t7 (.n Tryz.t15 (.n Tryz.t31 (.n Tryz.t63 (.n Tryz.t127 (.n Tryz.t255 .e .e) .e) (.n Tryz.t191 (.n Tryz.t319 .e .e) .e)) (.n Tryz.t95 (.n Tryz.t159 (.n Tryz.t287 .e .e) .e) (.n Tryz.t223 .e .e))) (.n Tryz.t47 (.n Tryz.t79 (.n Tryz.t143 (.n Tryz.t271 .e .e) .e) (.n Tryz.t207 .e .e)) (.n Tryz.t111 (.n Tryz.t175 (.n Tryz.t303 .e .e) .e) (.n Tryz.t239 .e .e)))) (.n Tryz.t23 (.n Tryz.t39 (.n Tryz.t71 (.n Tryz.t135 (.n Tryz.t263 .e .e) .e) (.n Tryz.t199 (.n Tryz.t327 .e .e) .e)) (.n Tryz.t103 (.n Tryz.t167 (.n Tryz.t295 .e .e) .e) (.n Tryz.t231 .e .e))) (.n Tryz.t55 (.n Tryz.t87 (.n Tryz.t151 (.n Tryz.t279 .e .e) .e) (.n Tryz.t215 .e .e)) (.n Tryz.t119 (.n Tryz.t183 (.n Tryz.t311 .e .e) .e) (.n Tryz.t247 .e .e))))) (.n Tryz.t11 (.n Tryz.t19 (.n Tryz.t35 (.n Tryz.t67 (.n Tryz.t131 (.n Tryz.t259 .e .e) .e) (.n Tryz.t195 (.n Tryz.t323 .e .e) .e)) (.n Tryz.t99 (.n Tryz.t163 (.n Tryz.t291 .e .e) .e) (.n Tryz.t227 .e .e))) (.n Tryz.t51 (.n Tryz.t83 (.n Tryz.t147 (.n Tryz.t275 .e .e) .e) (.n Tryz.t211 .e .e)) (.n Tryz.t115 (.n Tryz.t179 (.n Tryz.t307 .e .e) .e) (.n Tryz.t243 .e .e)))) (.n Tryz.t27 (.n Tryz.t43 (.n Tryz.t75 (.n Tryz.t139 (.n Tryz.t267 .e .e) .e) (.n Tryz.t203 .e .e)) (.n Tryz.t107 (.n Tryz.t171 (.n Tryz.t299 .e .e) .e) (.n Tryz.t235 .e .e))) (.n Tryz.t59 (.n Tryz.t91 (.n Tryz.t155 (.n Tryz.t283 .e .e) .e) (.n Tryz.t219 .e .e)) (.n Tryz.t123 (.n Tryz.t187 (.n Tryz.t315 .e .e) .e) (.n Tryz.t251 .e .e)))))) (.n Tryz.t5 (.n Tryz.t9 (.n Tryz.t17 (.n Tryz.t33 (.n Tryz.t65 (.n Tryz.t129 (.n Tryz.t257 .e .e) .e) (.n Tryz.t193 (.n Tryz.t321 .e .e) .e)) (.n Tryz.t97 (.n Tryz.t161 (.n Tryz.t289 .e .e) .e) (.n Tryz.t225 .e .e))) (.n Tryz.t49 (.n Tryz.t81 (.n Tryz.t145 (.n Tryz.t273 .e .e) .e) (.n Tryz.t209 .e .e)) (.n Tryz.t113 (.n Tryz.t177 (.n Tryz.t305 .e .e) .e) (.n Tryz.t241 .e .e)))) (.n Tryz.t25 (.n Tryz.t41 (.n Tryz.t73 (.n Tryz.t137 (.n Tryz.t265 .e .e) .e) (.n Tryz.t201 (.n Tryz.t329 .e .e) .e)) (.n Tryz.t105 (.n Tryz.t169 (.n Tryz.t297 .e .e) .e) (.n Tryz.t233 .e .e))) (.n Tryz.t57 (.n Tryz.t89 (.n Tryz.t153 (.n Tryz.t281 .e .e) .e) (.n Tryz.t217 .e .e)) (.n Tryz.t121 (.n Tryz.t185 (.n Tryz.t313 .e .e) .e) (.n Tryz.t249 .e .e))))) (.n Tryz.t13 (.n Tryz.t21 (.n Tryz.t37 (.n Tryz.t69 (.n Tryz.t133 (.n Tryz.t261 .e .e) .e) (.n Tryz.t197 (.n Tryz.t325 .e .e) .e)) (.n Tryz.t101 (.n Tryz.t165 (.n Tryz.t293 .e .e) .e) (.n Tryz.t229 .e .e))) (.n Tryz.t53 (.n Tryz.t85 (.n Tryz.t149 (.n Tryz.t277 .e .e) .e) (.n Tryz.t213 .e .e)) (.n Tryz.t117 (.n Tryz.t181 (.n Tryz.t309 .e .e) .e) (.n Tryz.t245 .e .e)))) (.n Tryz.t29 (.n Tryz.t45 (.n Tryz.t77 (.n Tryz.t141 (.n Tryz.t269 .e .e) .e) (.n Tryz.t205 .e .e)) (.n Tryz.t109 (.n Tryz.t173 (.n Tryz.t301 .e .e) .e) (.n Tryz.t237 .e .e))) (.n Tryz.t61 (.n Tryz.t93 (.n Tryz.t157 (.n Tryz.t285 .e .e) .e) (.n Tryz.t221 .e .e)) (.n Tryz.t125 (.n Tryz.t189 (.n Tryz.t317 .e .e) .e) (.n Tryz.t253 .e .e))))))) (.n Tryz.t2 (.n Tryz.t4 (.n Tryz.t8 (.n Tryz.t16 (.n Tryz.t32 (.n Tryz.t64 (.n Tryz.t128 (.n Tryz.t256 .e .e) .e) (.n Tryz.t192 (.n Tryz.t320 .e .e) .e)) (.n Tryz.t96 (.n Tryz.t160 (.n Tryz.t288 .e .e) .e) (.n Tryz.t224 .e .e))) (.n Tryz.t48 (.n Tryz.t80 (.n Tryz.t144 (.n Tryz.t272 .e .e) .e) (.n Tryz.t208 .e .e)) (.n Tryz.t112 (.n Tryz.t176 (.n Tryz.t304 .e .e) .e) (.n Tryz.t240 .e .e)))) (.n Tryz.t24 (.n Tryz.t40 (.n Tryz.t72 (.n Tryz.t136 (.n Tryz.t264 .e .e) .e) (.n Tryz.t200 (.n Tryz.t328 .e .e) .e)) (.n Tryz.t104 (.n Tryz.t168 (.n Tryz.t296 .e .e) .e) (.n Tryz.t232 .e .e))) (.n Tryz.t56 (.n Tryz.t88 (.n Tryz.t152 (.n Tryz.t280 .e .e) .e) (.n Tryz.t216 .e .e)) (.n Tryz.t120 (.n Tryz.t184 (.n Tryz.t312 .e .e) .e) (.n Tryz.t248 .e .e))))) (.n Tryz.t12 (.n Tryz.t20 (.n Tryz.t36 (.n Tryz.t68 (.n Tryz.t132 (.n Tryz.t260 .e .e) .e) (.n Tryz.t196 (.n Tryz.t324 .e .e) .e)) (.n Tryz.t100 (.n Tryz.t164 (.n Tryz.t292 .e .e) .e) (.n Tryz.t228 .e .e))) (.n Tryz.t52 (.n Tryz.t84 (.n Tryz.t148 (.n Tryz.t276 .e .e) .e) (.n Tryz.t212 .e .e)) (.n Tryz.t116 (.n Tryz.t180 (.n Tryz.t308 .e .e) .e) (.n Tryz.t244 .e .e)))) (.n Tryz.t28 (.n Tryz.t44 (.n Tryz.t76 (.n Tryz.t140 (.n Tryz.t268 .e .e) .e) (.n Tryz.t204 .e .e)) (.n Tryz.t108 (.n Tryz.t172 (.n Tryz.t300 .e .e) .e) (.n Tryz.t236 .e .e))) (.n Tryz.t60 (.n Tryz.t92 (.n Tryz.t156 (.n Tryz.t284 .e .e) .e) (.n Tryz.t220 .e .e)) (.n Tryz.t124 (.n Tryz.t188 (.n Tryz.t316 .e .e) .e) (.n Tryz.t252 .e .e)))))) (.n Tryz.t6 (.n Tryz.t10 (.n Tryz.t18 (.n Tryz.t34 (.n Tryz.t66 (.n Tryz.t130 (.n Tryz.t258 .e .e) .e) (.n Tryz.t194 (.n Tryz.t322 .e .e) .e)) (.n Tryz.t98 (.n Tryz.t162 (.n Tryz.t290 .e .e) .e) (.n Tryz.t226 .e .e))) (.n Tryz.t50 (.n Tryz.t82 (.n Tryz.t146 (.n Tryz.t274 .e .e) .e) (.n Tryz.t210 .e .e)) (.n Tryz.t114 (.n Tryz.t178 (.n Tryz.t306 .e .e) .e) (.n Tryz.t242 .e .e)))) (.n Tryz.t26 (.n Tryz.t42 (.n Tryz.t74 (.n Tryz.t138 (.n Tryz.t266 .e .e) .e) (.n Tryz.t202 (.n Tryz.t330 .e .e) .e)) (.n Tryz.t106 (.n Tryz.t170 (.n Tryz.t298 .e .e) .e) (.n Tryz.t234 .e .e))) (.n Tryz.t58 (.n Tryz.t90 (.n Tryz.t154 (.n Tryz.t282 .e .e) .e) (.n Tryz.t218 .e .e)) (.n Tryz.t122 (.n Tryz.t186 (.n Tryz.t314 .e .e) .e) (.n Tryz.t250 .e .e))))) (.n Tryz.t14 (.n Tryz.t22 (.n Tryz.t38 (.n Tryz.t70 (.n Tryz.t134 (.n Tryz.t262 .e .e) .e) (.n Tryz.t198 (.n Tryz.t326 .e .e) .e)) (.n Tryz.t102 (.n Tryz.t166 (.n Tryz.t294 .e .e) .e) (.n Tryz.t230 .e .e))) (.n Tryz.t54 (.n Tryz.t86 (.n Tryz.t150 (.n Tryz.t278 .e .e) .e) (.n Tryz.t214 .e .e)) (.n Tryz.t118 (.n Tryz.t182 (.n Tryz.t310 .e .e) .e) (.n Tryz.t246 .e .e)))) (.n Tryz.t30 (.n Tryz.t46 (.n Tryz.t78 (.n Tryz.t142 (.n Tryz.t270 .e .e) .e) (.n Tryz.t206 .e .e)) (.n Tryz.t110 (.n Tryz.t174 (.n Tryz.t302 .e .e) .e) (.n Tryz.t238 .e .e))) (.n Tryz.t62 (.n Tryz.t94 (.n Tryz.t158 (.n Tryz.t286 .e .e) .e) (.n Tryz.t222 .e .e)) (.n Tryz.t126 (.n Tryz.t190 (.n Tryz.t318 .e .e) .e) (.n Tryz.t254 .e .e))))))))
noncomputable def Tryz.fnT:Tr Func:=(.n Tryz.f0 (.n Tryz.f1 (.n Tryz.f3 (.n Tryz.f7 (.n Tryz.f15 (.n Tryz.f31 (.n Tryz.f63 (.n Tryz.f127 (.n Tryz.f255 .e .e) .e) (.n Tryz.f191 .e .e)) (.n Tryz.f95 (.n Tryz.f159 (.n Tryz.f287 .e .e) .e) (.n Tryz.f223 .e .e))) (.n Tryz.f47 (.n Tryz.f79 (.n Tryz.f143 (.n Tryz.f271 .e .e) .e) (.n Tryz.f207 .e .e)) (.n Tryz.f111 (.n Tryz.f175 (.n Tryz.f303 .e .e) .e) (.n Tryz.f239 .e .e)))) (.n Tryz.f23 (.n Tryz.f39 (.n Tryz.f71 (.n Tryz.f135 (.n Tryz.f263 .e .e) .e) (.n Tryz.f199 .e .e)) (.n Tryz.f103 (.n Tryz.f167 (.n Tryz.f295 .e .e) .e) (.n Tryz.f231 .e .e))) (.n Tryz.f55 (.n Tryz.f87 (.n Tryz.f151 (.n Tryz.f279 .e .e) .e) (.n Tryz.f215 .e .e)) (.n Tryz.f119 (.n Tryz.f183 (.n Tryz.f311 .e .e) .e) (.n Tryz.f247 .e .e))))) (.n Tryz.f11 (.n Tryz.f19 (.n Tryz.f35 (.n Tryz.f67 (.n Tryz.f131 (.n Tryz.f259 .e .e) .e) (.n Tryz.f195 .e .e)) (.n Tryz.f99 (.n Tryz.f163 (.n Tryz.f291 .e .e) .e) (.n Tryz.f227 .e .e))) (.n Tryz.f51 (.n Tryz.f83 (.n Tryz.f147 (.n Tryz.f275 .e .e) .e) (.n Tryz.f211 .e .e)) (.n Tryz.f115 (.n Tryz.f179 (.n Tryz.f307 .e .e) .e) (.n Tryz.f243 .e .e)))) (.n Tryz.f27 (.n Tryz.f43 (.n Tryz.f75 (.n Tryz.f139 (.n Tryz.f267 .e .e) .e) (.n Tryz.f203 .e .e)) (.n Tryz.f107 (.n Tryz.f171 (.n Tryz.f299 .e .e) .e) (.n Tryz.f235 .e .e))) (.n Tryz.f59 (.n Tryz.f91 (.n Tryz.f155 (.n Tryz.f283 .e .e) .e) (.n Tryz.f219 .e .e)) (.n Tryz.f123 (.n Tryz.f187 (.n Tryz.f315 .e .e) .e) (.n Tryz.f251 .e .e)))))) (.n Tryz.f5 (.n Tryz.f9 (.n Tryz.f17 (.n Tryz.f33 (.n Tryz.f65 (.n Tryz.f129 (.n Tryz.f257 .e .e) .e) (.n Tryz.f193 .e .e)) (.n Tryz.f97 (.n Tryz.f161 (.n Tryz.f289 .e .e) .e) (.n Tryz.f225 .e .e))) (.n Tryz.f49 (.n Tryz.f81 (.n Tryz.f145 (.n Tryz.f273 .e .e) .e) (.n Tryz.f209 .e .e)) (.n Tryz.f113 (.n Tryz.f177 (.n Tryz.f305 .e .e) .e) (.n Tryz.f241 .e .e)))) (.n Tryz.f25 (.n Tryz.f41 (.n Tryz.f73 (.n Tryz.f137 (.n Tryz.f265 .e .e) .e) (.n Tryz.f201 .e .e)) (.n Tryz.f105 (.n Tryz.f169 (.n Tryz.f297 .e .e) .e) (.n Tryz.f233 .e .e))) (.n Tryz.f57 (.n Tryz.f89 (.n Tryz.f153 (.n Tryz.f281 .e .e) .e) (.n Tryz.f217 .e .e)) (.n Tryz.f121 (.n Tryz.f185 (.n Tryz.f313 .e .e) .e) (.n Tryz.f249 .e .e))))) (.n Tryz.f13 (.n Tryz.f21 (.n Tryz.f37 (.n Tryz.f69 (.n Tryz.f133 (.n Tryz.f261 .e .e) .e) (.n Tryz.f197 .e .e)) (.n Tryz.f101 (.n Tryz.f165 (.n Tryz.f293 .e .e) .e) (.n Tryz.f229 .e .e))) (.n Tryz.f53 (.n Tryz.f85 (.n Tryz.f149 (.n Tryz.f277 .e .e) .e) (.n Tryz.f213 .e .e)) (.n Tryz.f117 (.n Tryz.f181 (.n Tryz.f309 .e .e) .e) (.n Tryz.f245 .e .e)))) (.n Tryz.f29 (.n Tryz.f45 (.n Tryz.f77 (.n Tryz.f141 (.n Tryz.f269 .e .e) .e) (.n Tryz.f205 .e .e)) (.n Tryz.f109 (.n Tryz.f173 (.n Tryz.f301 .e .e) .e) (.n Tryz.f237 .e .e))) (.n Tryz.f61 (.n Tryz.f93 (.n Tryz.f157 (.n Tryz.f285 .e .e) .e) (.n Tryz.f221 .e .e)) (.n Tryz.f125 (.n Tryz.f189 (.n Tryz.f317 .e .e) .e) (.n Tryz.f253 .e .e))))))) (.n Tryz.f2 (.n Tryz.f4 (.n Tryz.f8 (.n Tryz.f16 (.n Tryz.f32 (.n Tryz.f64 (.n Tryz.f128 (.n Tryz.f256 .e .e) .e) (.n Tryz.f192 .e .e)) (.n Tryz.f96 (.n Tryz.f160 (.n Tryz.f288 .e .e) .e) (.n Tryz.f224 .e .e))) (.n Tryz.f48 (.n Tryz.f80 (.n Tryz.f144 (.n Tryz.f272 .e .e) .e) (.n Tryz.f208 .e .e)) (.n Tryz.f112 (.n Tryz.f176 (.n Tryz.f304 .e .e) .e) (.n Tryz.f240 .e .e)))) (.n Tryz.f24 (.n Tryz.f40 (.n Tryz.f72 (.n Tryz.f136 (.n Tryz.f264 .e .e) .e) (.n Tryz.f200 .e .e)) (.n Tryz.f104 (.n Tryz.f168 (.n Tryz.f296 .e .e) .e) (.n Tryz.f232 .e .e))) (.n Tryz.f56 (.n Tryz.f88 (.n Tryz.f152 (.n Tryz.f280 .e .e) .e) (.n Tryz.f216 .e .e)) (.n Tryz.f120 (.n Tryz.f184 (.n Tryz.f312 .e .e) .e) (.n Tryz.f248 .e .e))))) (.n Tryz.f12 (.n Tryz.f20 (.n Tryz.f36 (.n Tryz.f68 (.n Tryz.f132 (.n Tryz.f260 .e .e) .e) (.n Tryz.f196 .e .e)) (.n Tryz.f100 (.n Tryz.f164 (.n Tryz.f292 .e .e) .e) (.n Tryz.f228 .e .e))) (.n Tryz.f52 (.n Tryz.f84 (.n Tryz.f148 (.n Tryz.f276 .e .e) .e) (.n Tryz.f212 .e .e)) (.n Tryz.f116 (.n Tryz.f180 (.n Tryz.f308 .e .e) .e) (.n Tryz.f244 .e .e)))) (.n Tryz.f28 (.n Tryz.f44 (.n Tryz.f76 (.n Tryz.f140 (.n Tryz.f268 .e .e) .e) (.n Tryz.f204 .e .e)) (.n Tryz.f108 (.n Tryz.f172 (.n Tryz.f300 .e .e) .e) (.n Tryz.f236 .e .e))) (.n Tryz.f60 (.n Tryz.f92 (.n Tryz.f156 (.n Tryz.f284 .e .e) .e) (.n Tryz.f220 .e .e)) (.n Tryz.f124 (.n Tryz.f188 (.n Tryz.f316 .e .e) .e) (.n Tryz.f252 .e .e)))))) (.n Tryz.f6 (.n Tryz.f10 (.n Tryz.f18 (.n Tryz.f34 (.n Tryz.f66 (.n Tryz.f130 (.n Tryz.f258 .e .e) .e) (.n Tryz.f194 .e .e)) (.n Tryz.f98 (.n Tryz.f162 (.n Tryz.f290 .e .e) .e) (.n Tryz.f226 .e .e))) (.n Tryz.f50 (.n Tryz.f82 (.n Tryz.f146 (.n Tryz.f274 .e .e) .e) (.n Tryz.f210 .e .e)) (.n Tryz.f114 (.n Tryz.f178 (.n Tryz.f306 .e .e) .e) (.n Tryz.f242 .e .e)))) (.n Tryz.f26 (.n Tryz.f42 (.n Tryz.f74 (.n Tryz.f138 (.n Tryz.f266 .e .e) .e) (.n Tryz.f202 .e .e)) (.n Tryz.f106 (.n Tryz.f170 (.n Tryz.f298 .e .e) .e) (.n Tryz.f234 .e .e))) (.n Tryz.f58 (.n Tryz.f90 (.n Tryz.f154 (.n Tryz.f282 .e .e) .e) (.n Tryz.f218 .e .e)) (.n Tryz.f122 (.n Tryz.f186 (.n Tryz.f314 .e .e) .e) (.n Tryz.f250 .e .e))))) (.n Tryz.f14 (.n Tryz.f22 (.n Tryz.f38 (.n Tryz.f70 (.n Tryz.f134 (.n Tryz.f262 .e .e) .e) (.n Tryz.f198 .e .e)) (.n Tryz.f102 (.n Tryz.f166 (.n Tryz.f294 .e .e) .e) (.n Tryz.f230 .e .e))) (.n Tryz.f54 (.n Tryz.f86 (.n Tryz.f150 (.n Tryz.f278 .e .e) .e) (.n Tryz.f214 .e .e)) (.n Tryz.f118 (.n Tryz.f182 (.n Tryz.f310 .e .e) .e) (.n Tryz.f246 .e .e)))) (.n Tryz.f30 (.n Tryz.f46 (.n Tryz.f78 (.n Tryz.f142 (.n Tryz.f270 .e .e) .e) (.n Tryz.f206 .e .e)) (.n Tryz.f110 (.n Tryz.f174 (.n Tryz.f302 .e .e) .e) (.n Tryz.f238 .e .e))) (.n Tryz.f62 (.n Tryz.f94 (.n Tryz.f158 (.n Tryz.f286 .e .e) .e) (.n Tryz.f222 .e .e)) (.n Tryz.f126 (.n Tryz.f190 .e .e) (.n Tryz.f254 .e .e))))))))
noncomputable abbrev Tryz.ty:Ty:=Tryz.tyT.get
noncomputable abbrev Tryz.fns:FuncId→Option Func:=Tryz.fnT.get
def Tryz.glob:Nat→Option (List AV)
 | 1=>some (dCells Rows.laid_gudgeon_term_asks)
 | 2=>some (dCells Rows.laid_unicode_utf8_first)
 | 3=>some (dCells Rows.laid_unicode_utf8_acceptRanges)
 | 5=>some (dCells Rows.laid_internal_strconv_uint64pow10)
 | 6=>some (dCells Rows.laid_math_bits_deBruijn32tab)
 | 7=>some (dCells Rows.laid_math_bits_deBruijn64tab)
 | _=>none
def Tryz.pmT:Nat:=0x3ff803ffbffefffff7fffef73ffff381b0f83fcd8f3c7f03bfffe702a77c17fffdc30f5f3fffffff
def Tryz.pmX:List (Nat × Nat):=[(97,148),(94,146),(96,148),(120,65)]
def Tryz.pm (f g:FuncId):Bool:=bitOf Tryz.pmT g && !(Tryz.pmX.any fun p=>Nat.beq p.1 f && Nat.beq p.2 g)
def Tryz.fz (f:FuncId):Bool:=bitOf 0x200000000000000000000000000020000300040000000 f
def Tryz.se:FuncId→List Bool
 | 30=>[false,true,true]
 | _=>[]
def Tryz.kpT:Tr Nat:=(.n 0x0 (.n 0x0 (.n 0x0 (.n 0x0 (.n 0x0 (.n 0x0 (.n 0x6f8 (.n 0x7000010 (.n 0x0 .e .e) .e) (.n 0x0 .e .e)) (.n 0x0 (.n 0x3 (.n 0x0 .e .e) .e) (.n 0x183 .e .e))) (.n 0x0 (.n 0x0 (.n 0x0 (.n 0x0 .e .e) .e) (.n 0x0 .e .e)) (.n 0x1c3 (.n 0xc3 (.n 0x0 .e .e) .e) (.n 0x303 .e .e)))) (.n 0x61 (.n 0x0 (.n 0x0 (.n 0x721 (.n 0x0 .e .e) .e) (.n 0x0 .e .e)) (.n 0x0 (.n 0x390 (.n 0x0 .e .e) .e) (.n 0x0 .e .e))) (.n 0x0 (.n 0x1c000000000000000000445 (.n 0x19 (.n 0x0 .e .e) .e) (.n 0x0 .e .e)) (.n 0x0 (.n 0x70001c000a (.n 0x0 .e .e) .e) (.n 0x23 .e .e))))) (.n 0x61 (.n 0x0 (.n 0x26 (.n 0x79 (.n 0x0 (.n 0x0 .e .e) .e) (.n 0x0 .e .e)) (.n 0x0 (.n 0x0 (.n 0x0 .e .e) .e) (.n 0x183 .e .e))) (.n 0x38060001 (.n 0x0 (.n 0x0 (.n 0x0 .e .e) .e) (.n 0x13112 .e .e)) (.n 0x0 (.n 0x600c3 (.n 0x0 .e .e) .e) (.n 0x9 .e .e)))) (.n 0x32 (.n 0x19 (.n 0x0 (.n 0x0 (.n 0x9 .e .e) .e) (.n 0x0 .e .e)) (.n 0xe00000000001 (.n 0x31 (.n 0x0 .e .e) .e) (.n 0x0 .e .e))) (.n 0x9 (.n 0x0 (.n 0x0 (.n 0x0 .e .e) .e) (.n 0x0 .e .e)) (.n 0x0 (.n 0x0 (.n 0x0 .e .e) .e) (.n 0x0 .e .e)))))) (.n 0x0 (.n 0x3923 (.n 0x0 (.n 0x1a (.n 0x0 (.n 0x19 (.n 0x65 .e .e) .e) (.n 0x0 .e .e)) (.n 0xc06 (.n 0x3 (.n 0x1f1 .e .e) .e) (.n 0x0 .e .e))) (.n 0x23 (.n 0x0 (.n 0x0 (.n 0x0 .e .e) .e) (.n 0x23 .e .e)) (.n 0x0 (.n 0x3842 (.n 0x0 .e .e) .e) (.n 0x19 .e .e)))) (.n 0x0 (.n 0x0 (.n 0x0 (.n 0x0 (.n 0x13 .e .e) .e) (.n 0x61 .e .e)) (.n 0x0 (.n 0x0 (.n 0x0 .e .e) .e) (.n 0x0 .e .e))) (.n 0x0 (.n 0xe3 (.n 0x0 (.n 0x0 .e .e) .e) (.n 0x189 .e .e)) (.n 0x0 (.n 0x0 (.n 0x0 .e .e) .e) (.n 0x0 .e .e))))) (.n 0x5e1 (.n 0x0 (.n 0x0 (.n 0x0 (.n 0x0 (.n 0x0 .e .e) .e) (.n 0x0 .e .e)) (.n 0x0 (.n 0x0 (.n 0x0 .e .e) .e) (.n 0x60000030000000000c07 .e .e))) (.n 0x0 (.n 0x0 (.n 0xe0000000e000069 (.n 0x0 .e .e) .e) (.n 0x185 .e .e)) (.n 0x79 (.n 0x0 (.n 0x0 .e .e) .e) (.n 0x0 .e .e)))) (.n 0xe1 (.n 0x3008 (.n 0x0 (.n 0x0 (.n 0x0 .e .e) .e) (.n 0x0 .e .e)) (.n 0xe000e49 (.n 0x63 (.n 0x0 .e .e) .e) (.n 0x0 .e .e))) (.n 0x75 (.n 0x0 (.n 0x0 (.n 0x0 .e .e) .e) (.n 0x0 .e .e)) (.n 0x66 (.n 0x79 (.n 0x0 .e .e) .e) (.n 0x0 .e .e))))))) (.n 0x0 (.n 0x0 (.n 0x0 (.n 0x0 (.n 0x36a (.n 0x0 (.n 0x710 (.n 0x0 .e .e) .e) (.n 0xe1 .e .e)) (.n 0x0 (.n 0x15 (.n 0x0 .e .e) .e) (.n 0x0 .e .e))) (.n 0x2e3 (.n 0x0 (.n 0x0 (.n 0x0 .e .e) .e) (.n 0x0 .e .e)) (.n 0x19 (.n 0xe0000c3 (.n 0x0 .e .e) .e) (.n 0x0 .e .e)))) (.n 0x0 (.n 0x0 (.n 0x0 (.n 0x89 (.n 0x0 .e .e) .e) (.n 0x0 .e .e)) (.n 0x0 (.n 0x9 (.n 0x0 .e .e) .e) (.n 0x0 .e .e))) (.n 0x0 (.n 0x187 (.n 0x0 (.n 0x0 .e .e) .e) (.n 0x0 .e .e)) (.n 0x1e44 (.n 0x0 (.n 0x0 .e .e) .e) (.n 0x183 .e .e))))) (.n 0x2f83 (.n 0x0 (.n 0x0 (.n 0x1c8 (.n 0x0 (.n 0x0 .e .e) .e) (.n 0x0 .e .e)) (.n 0x0 (.n 0xd (.n 0x0 .e .e) .e) (.n 0x0 .e .e))) (.n 0x380c2 (.n 0x0 (.n 0x0 (.n 0x0 .e .e) .e) (.n 0x1c1 .e .e)) (.n 0x388 (.n 0x30701e2 (.n 0x0 .e .e) .e) (.n 0x0 .e .e)))) (.n 0x19 (.n 0x3008 (.n 0x21 (.n 0x0 (.n 0x7e3 .e .e) .e) (.n 0x0 .e .e)) (.n 0x0 (.n 0x61 (.n 0x0 .e .e) .e) (.n 0x0 .e .e))) (.n 0xe09 (.n 0x0 (.n 0x0 (.n 0x7e3 .e .e) .e) (.n 0x23 .e .e)) (.n 0x0 (.n 0x0 (.n 0x0 .e .e) .e) (.n 0x0 .e .e)))))) (.n 0x0 (.n 0x607 (.n 0x9c (.n 0x0 (.n 0x19 (.n 0x0 (.n 0x0 .e .e) .e) (.n 0x0 .e .e)) (.n 0x0 (.n 0x3 (.n 0x0 .e .e) .e) (.n 0x0 .e .e))) (.n 0x30001 (.n 0x0 (.n 0x0 (.n 0x0 .e .e) .e) (.n 0x0 .e .e)) (.n 0x1fe (.n 0x1c000000707 (.n 0x0 .e .e) .e) (.n 0x19 .e .e)))) (.n 0x0 (.n 0x0 (.n 0x0 (.n 0x0 (.n 0x3fc1b .e .e) .e) (.n 0x0 .e .e)) (.n 0x0 (.n 0x1f43 (.n 0x0 .e .e) .e) (.n 0x7fffffffffffffffffffffffffffffe0030ffffffffffff .e .e))) (.n 0x0 (.n 0x1d1 (.n 0x0 (.n 0x0 .e .e) .e) (.n 0x23 .e .e)) (.n 0x0 (.n 0x183 (.n 0x0 .e .e) .e) (.n 0x23 .e .e))))) (.n 0x0 (.n 0x0 (.n 0x19 (.n 0x70022 (.n 0x7091 (.n 0x0 .e .e) .e) (.n 0x0 .e .e)) (.n 0x0 (.n 0x60038003d03 (.n 0x0 .e .e) .e) (.n 0x11 .e .e))) (.n 0x0 (.n 0xf607 (.n 0x19 (.n 0x0 .e .e) .e) (.n 0x0 .e .e)) (.n 0x0 (.n 0x0 (.n 0x0 .e .e) .e) (.n 0x0 .e .e)))) (.n 0x0 (.n 0x0 (.n 0x0 (.n 0x0 (.n 0x14 .e .e) .e) (.n 0x0 .e .e)) (.n 0x9 (.n 0x23 (.n 0x0 .e .e) .e) (.n 0x3 .e .e))) (.n 0x0 (.n 0x0 (.n 0x0 (.n 0x0 .e .e) .e) (.n 0x183 .e .e)) (.n 0x0 (.n 0x0 .e .e) (.n 0x0 .e .e))))))))
def Tryz.kp (f:FuncId):Nat:=(Tryz.kpT.get f).getD 0
def Tryz.eqOk (t:TypeId):Bool:=bitOf 0x0 t
def Tryz.primT (P:Ty):FuncId→Option (List AV→St→Option (AV × St))
 | 146=>some (cloneA P 67)
 | 147=>some (cloneA P 151)
 | 148=>some (cloneA P 33)
 | 152=>some (cloneA P 3)
 | 153=>some (cloneA P 211)
 | 154=>some (cloneA P 109)
 | 206=>some itoaA
 | 232=>some sameA
 | 271=>some countA
 | 285=>some indexByteA
 | 286=>some (noZeroA 5)
 | _=>none
def Tryz.prim (P:Ty) (f:FuncId):Option (List AV→St→Option (AV × St)):=cond (bitOf 0x60008000000001000000400000000000071c000000000000000000000000000000000000 f) (Tryz.primT P f) none
noncomputable def Tryz.env:Env:=⟨Tryz.ty,Tryz.fns,Tryz.eqOk,Tryz.glob,Tryz.pm,Tryz.kp,Tryz.fz,Tryz.prim Tryz.ty,Tryz.se⟩
def Tryz.prim0 (P:Ty) (f:FuncId):Option (List AV→St→Option (AV × St)):=cond (bitOf 0x600080000000010000004000000000000000000000000000000000000000000000000000 f) (Tryz.primT P f) none
noncomputable def Tryz.env0:Env:={ Tryz.env with prim:=Tryz.prim0 Tryz.ty }
end
noncomputable section
noncomputable abbrev bn (op:BinOp) (t:TypeId) (x y:AV):Option AV:=bin Tryz.ty Tryz.eqOk op t x y
noncomputable abbrev zr (t:TypeId):Option AV:=zero Tryz.ty t
noncomputable abbrev bld (t:TypeId) (l:List (Nat × AV)):Option AV:=buildA Tryz.ty t l
noncomputable abbrev bsl (t:TypeId) (n:Nat) (l:List (Nat × AV)):Option AV:=buildSl Tryz.ty t n l
noncomputable abbrev cv (a b:TypeId) (x:AV) (s:St):Option AV:=convA Tryz.ty a b x s
noncomputable abbrev slc (t:TypeId) (x:AV) (lo hi mx:Option AV) (s:St):Option AV:=sliceA Tryz.ty t x lo hi mx s
noncomputable abbrev bt (b:Builtin) (ats:Array TypeId) (args:List AV) (id:Nat) (s:St):Option (AV × St):=builtinA (bX Tryz.env) b ats args id s
noncomputable abbrev rK (f:Func) (Q:AV→St→Prop):Kt:=fun g s=>RetP (result Tryz.ty f g s) fun v=>Q v s
abbrev Y:Bool:=true
abbrev N:Bool:=false
abbrev ld (z:Nat) (ag:Bool) (a:AV) (s:St):Option AV:=Ai.load z ag a s
abbrev sto (z:Nat) (a x:AV) (s:St):Option St:=Ai.store z a x s
noncomputable abbrev ixa (t:TypeId) (x i:AV):Option AV:=indexA Tryz.ty t x i
noncomputable def gl (n:Nat):AV:=ev (bX Tryz.env) (fun _=>.undef) (.global n)
end
noncomputable section
set_option maxRecDepth 1000000
abbrev f33B:Code:=bodyOf Tryz.f33
abbrev f33R:=rK Tryz.f33
abbrev f33C:=codeP Tryz.env 33 (Tryz.env.kp 33)
def f33j1 (Q:AV→St→Prop) (t3:AV) (s:St):Prop :=
 Q t3 (adv s 2)
def f33j2 (Q:AV→St→Prop) (ih1:AV→AV→AV→St→Prop) (t4 t1 t3:AV) (s:St):Prop :=
 Bnd (bn .add 3 t4 (.int .i64 1)) fun t15 =>
 ih1 t1 t3 t15 (adv s 3)
def f33l1s (Q:AV→St→Prop) (ih1:AV→AV→AV→St→Prop) (t1 t3 t4:AV) (s:St):Prop :=
 Bnd (shiftP 5 t1) fun t6 =>
 Bnd (ld 1 false t6 (adv s 9)) fun t7 =>
 Bnd (bt .len #[31] [t7] (s.nx + 3) (adv s 9)) fun r8 =>
 Bnd (bn .lss 3 t4 r8.1) fun t9 =>
 Gd (wantV t9 true) r8.2 (fun k=>k t3 r8.2) fun t11 s1 =>
 Gd (wantV t9 true) s1 (fun k=>Bnd (bn .leq 3 t11 (.int .i64 5000)) fun v=>k v s1) fun t12 s2 =>
 Bnd (pickV t9 t12 (.bool false)) fun t13 =>
 IfP t13
 (Bnd (shiftP 5 t1) fun t17 =>
 Bnd (ld 1 false t17 (adv s2 9)) fun t18 =>
 Bnd (ixS 6 t18 t4) fun t20 =>
 Bnd (ld 6 true t20 (adv s2 9)) fun t21 =>
 CallPu Tryz.env 33 [t21] (adv s2 9) fun t22 s3 =>
 Bnd (bn .add 3 t3 t22) fun t23 =>
 f33j2 Q ih1 t4 t1 t23 s3)
 (f33j1 Q t3 s2)
def f33l1 (Q:AV→St→Prop) (n:Nat):AV→AV→AV→St→Prop:=Nat.rec (motive:=fun _=>AV→AV→AV→St→Prop) (fun _ _ _ _=>False) (fun _ ih=>f33l1s Q ih) n
theorem f33j1_eq (Q:AV→St→Prop):f33C (sub f33B [Y,Y,Y]) (f33R Q) (fun _ _ _=>False) (f33R Q) = (fun g s=>f33j1 Q (g 3) s) :=
 Eq.trans rfl (by kernel_rfl)
theorem f33j2_eq (Q:AV→St→Prop) (n1:Nat):f33C (sub f33B [Y,Y,N,Y,N,N,Y,Y]) (fun g s=>(fun (n:Nat) (g:Gf) (s:St)=>f33l1 Q n (g 1) (g 3) (g 4) s) n1 (fun k=>cond (bitOf (Tryz.env.kp 33) k) (g k) .undef) s) (fun i=>cond (Nat.beq i 0) (fun g s=>f33j1 Q (g 3) s) ((fun _ _ _=>False) i)) (f33R Q) = (fun g s=>f33j2 Q (f33l1 Q n1) (g 4) (g 1) (g 3) s) :=
 Eq.trans rfl (by kernel_rfl)
theorem f33l1_eq (Q:AV→St→Prop) (kN:Kt):f33C (sub f33B [Y,Y,N,Y,N]) kN (fun i=>cond (Nat.beq i 0) (fun g s=>f33j1 Q (g 3) s) ((fun _ _ _=>False) i)) (f33R Q) = fun g s=>∃ n,(fun (n:Nat) (g:Gf) (s:St)=>f33l1 Q n (g 1) (g 3) (g 4) s) n g s :=
 loop_eq (L:=fun (n:Nat) (g:Gf) (s:St)=>f33l1 Q n (g 1) (g 3) (g 4) s) (by kernel_rfl:(sub f33B [Y,Y,N,Y,N]) = .loop (sub f33B [Y,Y,N,Y,N,N])) (by kernel_rfl) (fun n1=>Eq.trans (seq_eq (by kernel_rfl:(sub f33B [Y,Y,N,Y,N,N]) = .seq (sub f33B [Y,Y,N,Y,N,N,N]) (sub f33B [Y,Y,N,Y,N,N,Y])) (seq_eq (by kernel_rfl:(sub f33B [Y,Y,N,Y,N,N,Y]) = .seq (sub f33B [Y,Y,N,Y,N,N,Y,N]) (sub f33B [Y,Y,N,Y,N,N,Y,Y])) (f33j2_eq Q n1) (block_eq (by kernel_rfl:(sub f33B [Y,Y,N,Y,N,N,Y,N]) = .block 1 (sub f33B [Y,Y,N,Y,N,N,Y,N,N])) rfl)) rfl) (by kernel_rfl))
def f33 (Q:AV→St→Prop) (t0:AV) (s:St):Prop :=
 (t0.cells.all AV.one = true ∧
 ∃ n,f33l1 Q n (.ptr s.nx 0) (.int .i64 1) (.int .i64 0) (adv ((adv s 2).set s.nx (some (.cells t0.cells 33 true true))) 2))
theorem f33_run (t0:AV) (s:St) {Q:AV→St→Prop} (h:f33 Q t0 s):∃ r s',WideC Tryz.env 33 [t0] s r s'∧Q r s' :=
 wide_ofA (h:=33) (fn:=Tryz.f33) (c:=sub f33B []) (show f33C (sub f33B []) (f33R Q) (fun _ _ _=>False) (f33R Q) = _ from (seq_eq (by kernel_rfl:(sub f33B []) = .seq (sub f33B [N]) (sub f33B [Y])) (seq_eq (by kernel_rfl:(sub f33B [Y]) = .seq (sub f33B [Y,N]) (sub f33B [Y,Y])) (seq_eq (by kernel_rfl:(sub f33B [Y,Y]) = .seq (sub f33B [Y,Y,N]) (sub f33B [Y,Y,Y])) (f33j1_eq Q) (seq_eq (by kernel_rfl:(sub f33B [Y,Y,N]) = .seq (sub f33B [Y,Y,N,N]) (sub f33B [Y,Y,N,Y])) (block_eq (by kernel_rfl:(sub f33B [Y,Y,N,Y]) = .block 0 (sub f33B [Y,Y,N,Y,N])) (f33l1_eq Q _)) rfl)) rfl) rfl)) h
abbrev f74B:Code:=bodyOf Tryz.f74
abbrev f74R:=rK Tryz.f74
abbrev f74C:=codeP Tryz.env 74 (Tryz.env.kp 74)
def f74 (Q:AV→St→Prop) (t0:AV) (s:St):Prop :=
 (t0.cells.all AV.one = true ∧
 Bnd (ld 6 true (.ptr s.nx 0) (adv ((adv s 2).set s.nx (some (.cells t0.cells 33 true true))) 3)) fun t3 =>
 CallPu Tryz.env 125 [t3,(.int .i64 65)] (adv ((adv s 2).set s.nx (some (.cells t0.cells 33 true true))) 3) fun t4 s1 =>
 Q t4 s1)
theorem f74_run (t0:AV) (s:St) {Q:AV→St→Prop} (h:f74 Q t0 s):∃ r s',WideC Tryz.env 74 [t0] s r s'∧Q r s' :=
 wide_ofA (h:=74) (fn:=Tryz.f74) (c:=sub f74B []) (show f74C (sub f74B []) (f74R Q) (fun _ _ _=>False) (f74R Q) = _ from rfl) h
abbrev f125B:Code:=bodyOf Tryz.f125
abbrev f125R:=rK Tryz.f125
abbrev f125C:=codeP Tryz.env 125 (Tryz.env.kp 125)
def f125j1 (Q:AV→St→Prop) (t5:AV) (s:St):Prop :=
 Bnd (bn .add 3 t5 (.int .i64 1)) fun t35 =>
 Q t35 (adv s 3)
def f125j2 (Q:AV→St→Prop) (ih1:AV→AV→AV→AV→St→Prop) (t6 t1 t2 t5:AV) (s:St):Prop :=
 Bnd (bn .add 3 t6 (.int .i64 1)) fun t21 =>
 ih1 t1 t2 t5 t21 (adv s 3)
def f125l1s (Q:AV→St→Prop) (ih1:AV→AV→AV→AV→St→Prop) (t1 t2 t5 t6:AV) (s:St):Prop :=
 Bnd (shiftP 5 t2) fun t16 =>
 Bnd (ld 1 false t16 (adv s 5)) fun t17 =>
 Bnd (bt .len #[31] [t17] (s.nx + 3) (adv s 5)) fun r18 =>
 Bnd (bn .lss 3 t6 r18.1) fun t19 =>
 IfP t19
 (Bnd (shiftP 5 t2) fun t22 =>
 Bnd (ld 1 false t22 (adv r18.2 9)) fun t23 =>
 Bnd (ixS 6 t23 t6) fun t25 =>
 Bnd (ld 6 true t25 (adv r18.2 9)) fun t26 =>
 Bnd (bn .sub 3 t1 (.int .i64 1)) fun t28 =>
 CallPu Tryz.env 125 [t26,t28] (adv r18.2 9) fun t29 s1 =>
 Bnd (bn .gtr 3 t29 t5) fun t32 =>
 IfP t32
 (f125j2 Q ih1 t6 t1 t2 t29 (adv s1 5))
 (f125j2 Q ih1 t6 t1 t2 t5 (adv s1 3)))
 (f125j1 Q t5 r18.2)
def f125l1 (Q:AV→St→Prop) (n:Nat):AV→AV→AV→AV→St→Prop:=Nat.rec (motive:=fun _=>AV→AV→AV→AV→St→Prop) (fun _ _ _ _ _=>False) (fun _ ih=>f125l1s Q ih) n
theorem f125j1_eq (Q:AV→St→Prop):f125C (sub f125B [Y,Y,Y,Y]) (f125R Q) (fun _ _ _=>False) (f125R Q) = (fun g s=>f125j1 Q (g 5) s) :=
 Eq.trans rfl (by kernel_rfl)
theorem f125j2_eq (Q:AV→St→Prop) (n1:Nat):f125C (sub f125B [Y,Y,Y,N,Y,N,N,Y,Y]) (fun g s=>(fun (n:Nat) (g:Gf) (s:St)=>f125l1 Q n (g 1) (g 2) (g 5) (g 6) s) n1 (fun k=>cond (bitOf (Tryz.env.kp 125) k) (g k) .undef) s) (fun i=>cond (Nat.beq i 0) (fun g s=>f125j1 Q (g 5) s) ((fun _ _ _=>False) i)) (f125R Q) = (fun g s=>f125j2 Q (f125l1 Q n1) (g 6) (g 1) (g 2) (g 5) s) :=
 Eq.trans rfl (by kernel_rfl)
theorem f125l1_eq (Q:AV→St→Prop) (kN:Kt):f125C (sub f125B [Y,Y,Y,N,Y,N]) kN (fun i=>cond (Nat.beq i 0) (fun g s=>f125j1 Q (g 5) s) ((fun _ _ _=>False) i)) (f125R Q) = fun g s=>∃ n,(fun (n:Nat) (g:Gf) (s:St)=>f125l1 Q n (g 1) (g 2) (g 5) (g 6) s) n g s :=
 loop_eq (L:=fun (n:Nat) (g:Gf) (s:St)=>f125l1 Q n (g 1) (g 2) (g 5) (g 6) s) (by kernel_rfl:(sub f125B [Y,Y,Y,N,Y,N]) = .loop (sub f125B [Y,Y,Y,N,Y,N,N])) (by kernel_rfl) (fun n1=>Eq.trans (seq_eq (by kernel_rfl:(sub f125B [Y,Y,Y,N,Y,N,N]) = .seq (sub f125B [Y,Y,Y,N,Y,N,N,N]) (sub f125B [Y,Y,Y,N,Y,N,N,Y])) (seq_eq (by kernel_rfl:(sub f125B [Y,Y,Y,N,Y,N,N,Y]) = .seq (sub f125B [Y,Y,Y,N,Y,N,N,Y,N]) (sub f125B [Y,Y,Y,N,Y,N,N,Y,Y])) (f125j2_eq Q n1) (block_eq (by kernel_rfl:(sub f125B [Y,Y,Y,N,Y,N,N,Y,N]) = .block 1 (sub f125B [Y,Y,Y,N,Y,N,N,Y,N,N])) rfl)) rfl) (by kernel_rfl))
def f125 (Q:AV→St→Prop) (t0 t1:AV) (s:St):Prop :=
 (t0.cells.all AV.one = true ∧
 Bnd (shiftP 0 (.ptr s.nx 0)) fun t8 =>
 Bnd (ld 1 false t8 (adv ((adv s 2).set s.nx (some (.cells t0.cells 33 true true))) 7)) fun t9 =>
 Bnd (un .not t9) fun t10 =>
 Gd (wantV t10 false) (adv ((adv s 2).set s.nx (some (.cells t0.cells 33 true true))) 7) (fun k=>k t1 (adv ((adv s 2).set s.nx (some (.cells t0.cells 33 true true))) 7)) fun t12 s1 =>
 Gd (wantV t10 false) s1 (fun k=>Bnd (bn .eql 3 t12 (.int .i64 0)) fun v=>k v s1) fun t13 s2 =>
 Bnd (pickV t10 (.bool true) t13) fun t14 =>
 IfP t14
 (Q (.int .i64 0) (adv s2 1))
 (∃ n,f125l1 Q n t1 (.ptr s.nx 0) (.int .i64 0) (.int .i64 0) (adv s2 2)))
theorem f125_run (t0 t1:AV) (s:St) {Q:AV→St→Prop} (h:f125 Q t0 t1 s):∃ r s',WideC Tryz.env 125 [t0,t1] s r s'∧Q r s' :=
 wide_ofA (h:=125) (fn:=Tryz.f125) (c:=sub f125B []) (show f125C (sub f125B []) (f125R Q) (fun _ _ _=>False) (f125R Q) = _ from (seq_eq (by kernel_rfl:(sub f125B []) = .seq (sub f125B [N]) (sub f125B [Y])) (seq_eq (by kernel_rfl:(sub f125B [Y]) = .seq (sub f125B [Y,N]) (sub f125B [Y,Y])) (seq_eq (by kernel_rfl:(sub f125B [Y,Y]) = .seq (sub f125B [Y,Y,N]) (sub f125B [Y,Y,Y])) (seq_eq (by kernel_rfl:(sub f125B [Y,Y,Y]) = .seq (sub f125B [Y,Y,Y,N]) (sub f125B [Y,Y,Y,Y])) (f125j1_eq Q) (seq_eq (by kernel_rfl:(sub f125B [Y,Y,Y,N]) = .seq (sub f125B [Y,Y,Y,N,N]) (sub f125B [Y,Y,Y,N,Y])) (block_eq (by kernel_rfl:(sub f125B [Y,Y,Y,N,Y]) = .block 0 (sub f125B [Y,Y,Y,N,Y,N])) (f125l1_eq Q _)) rfl)) rfl) rfl) rfl)) h
abbrev f29B:Code:=bodyOf Tryz.f29
abbrev f29R:=rK Tryz.f29
abbrev f29C:=codeP Tryz.env 29 (Tryz.env.kp 29)
def f29j1 (Q:AV→St→Prop) (s:St):Prop :=
 Q (.bool true) (adv s 1)
def f29j2 (Q:AV→St→Prop) (ih1:AV→AV→AV→AV→St→Prop) (t7 t0 t5 t6:AV) (s:St):Prop :=
 Bnd (bn .add 3 t7 (.int .i64 1)) fun t26 =>
 ih1 t0 t5 t6 t26 (adv s 3)
def f29j3 (Q:AV→St→Prop) (ih1:AV→AV→AV→AV→St→Prop) (t0 t7 t5 t6:AV) (s:St):Prop :=
 Bnd (ixS 10 t0 t7) fun t44 =>
 Bnd (shiftP 3 t44) fun t45 =>
 Bnd (ld 1 false t45 (adv s 24)) fun t46 =>
 Bnd (bt .len #[65] [t46] (s.nx + 5) (adv s 24)) fun r47 =>
 Bnd (bn .gtr 3 r47.1 (.int .i64 3)) fun t48 =>
 Gd (wantV t48 false) r47.2 (fun k=>k t0 r47.2) fun t50 s1 =>
 Gd (wantV t48 false) s1 (fun k=>k t7 s1) fun t51 s2 =>
 Gd (wantV t48 false) s2 (fun k=>Bnd (ixS 10 t50 t51) fun v=>k v s2) fun t52 s3 =>
 Gd (wantV t48 false) s3 (fun k=>Bnd (shiftP 4 t52) fun v=>k v s3) fun t53 s4 =>
 Gd (wantV t48 false) s4 (fun k=>Bnd (ld 6 true t53 s4) fun v=>k v s4) fun t54 s5 =>
 Gd (wantV t48 false) s5 (fun k=>CallPu Tryz.env 74 [t54] s5 k) fun t55 s6 =>
 Gd (wantV t48 false) s6 (fun k=>Bnd (bn .gtr 3 t55 (.int .i64 64)) fun v=>k v s6) fun t56 s7 =>
 Bnd (pickV t48 (.bool true) t56) fun t57 =>
 Gd (wantV t57 false) s7 (fun k=>k t5 s7) fun t59 s8 =>
 Gd (wantV t57 false) s8 (fun k=>Bnd (bn .gtr 3 t59 (.int .i64 600)) fun v=>k v s8) fun t60 s9 =>
 Bnd (pickV t57 (.bool true) t60) fun t61 =>
 Gd (wantV t61 false) s9 (fun k=>k t6 s9) fun t63 s10 =>
 Gd (wantV t61 false) s10 (fun k=>Bnd (bn .gtr 3 t63 (.int .i64 8)) fun v=>k v s10) fun t64 s11 =>
 Bnd (pickV t61 (.bool true) t64) fun t65 =>
 IfP t65
 (Q (.bool false) (adv s11 1))
 (f29j2 Q ih1 t7 t0 t5 t6 s11)
def f29l1s (Q:AV→St→Prop) (ih1:AV→AV→AV→AV→St→Prop) (t0 t5 t6 t7:AV) (s:St):Prop :=
 Bnd (bt .len #[49] [t0] (s.nx + 2) (adv s 4)) fun r23 =>
 Bnd (bn .lss 3 t7 r23.1) fun t24 =>
 IfP t24
 (Bnd (ixS 10 t0 t7) fun t30 =>
 Bnd (shiftP 4 t30) fun t31 =>
 Bnd (ld 6 true t31 (adv r23.2 9)) fun t32 =>
 CallPu Tryz.env 33 [t32] (adv r23.2 9) fun t33 s1 =>
 Bnd (bn .add 3 t5 t33) fun t34 =>
 Bnd (ixS 10 t0 t7) fun t37 =>
 Bnd (shiftP 2 t37) fun t38 =>
 Bnd (ld 1 false t38 (adv s1 5)) fun t39 =>
 IfP t39
 (Bnd (bn .add 3 t6 (.int .i64 1)) fun t41 =>
 f29j3 Q ih1 t0 t7 t34 t41 (adv s1 8))
 (f29j3 Q ih1 t0 t7 t34 t6 (adv s1 5)))
 (f29j1 Q r23.2)
def f29l1 (Q:AV→St→Prop) (n:Nat):AV→AV→AV→AV→St→Prop:=Nat.rec (motive:=fun _=>AV→AV→AV→AV→St→Prop) (fun _ _ _ _ _=>False) (fun _ ih=>f29l1s Q ih) n
theorem f29j1_eq (Q:AV→St→Prop):f29C (sub f29B [Y,Y,Y,Y,Y]) (f29R Q) (fun _ _ _=>False) (f29R Q) = (fun g s=>f29j1 Q s) :=
 Eq.trans rfl (by kernel_rfl)
theorem f29j2_eq (Q:AV→St→Prop) (n1:Nat):f29C (sub f29B [Y,Y,Y,Y,N,Y,N,N,Y,Y]) (fun g s=>(fun (n:Nat) (g:Gf) (s:St)=>f29l1 Q n (g 0) (g 5) (g 6) (g 7) s) n1 (fun k=>cond (bitOf (Tryz.env.kp 29) k) (g k) .undef) s) (fun i=>cond (Nat.beq i 0) (fun g s=>f29j1 Q s) ((fun _ _ _=>False) i)) (f29R Q) = (fun g s=>f29j2 Q (f29l1 Q n1) (g 7) (g 0) (g 5) (g 6) s) :=
 Eq.trans rfl (by kernel_rfl)
theorem f29j3_eq (Q:AV→St→Prop) (n1:Nat):f29C (sub f29B [Y,Y,Y,Y,N,Y,N,N,Y,N,N,Y,Y]) (fun g s=>f29j2 Q (f29l1 Q n1) (g 7) (g 0) (g 5) (g 6) s) (fun i=>cond (Nat.beq i 1) (fun g s=>f29j2 Q (f29l1 Q n1) (g 7) (g 0) (g 5) (g 6) s) ((fun i=>cond (Nat.beq i 0) (fun g s=>f29j1 Q s) ((fun _ _ _=>False) i)) i)) (f29R Q) = (fun g s=>f29j3 Q (f29l1 Q n1) (g 0) (g 7) (g 5) (g 6) s) :=
 Eq.trans rfl (by kernel_rfl)
theorem f29l1_eq (Q:AV→St→Prop) (kN:Kt):f29C (sub f29B [Y,Y,Y,Y,N,Y,N]) kN (fun i=>cond (Nat.beq i 0) (fun g s=>f29j1 Q s) ((fun _ _ _=>False) i)) (f29R Q) = fun g s=>∃ n,(fun (n:Nat) (g:Gf) (s:St)=>f29l1 Q n (g 0) (g 5) (g 6) (g 7) s) n g s :=
 loop_eq (L:=fun (n:Nat) (g:Gf) (s:St)=>f29l1 Q n (g 0) (g 5) (g 6) (g 7) s) (by kernel_rfl:(sub f29B [Y,Y,Y,Y,N,Y,N]) = .loop (sub f29B [Y,Y,Y,Y,N,Y,N,N])) (by kernel_rfl) (fun n1=>Eq.trans (seq_eq (by kernel_rfl:(sub f29B [Y,Y,Y,Y,N,Y,N,N]) = .seq (sub f29B [Y,Y,Y,Y,N,Y,N,N,N]) (sub f29B [Y,Y,Y,Y,N,Y,N,N,Y])) (seq_eq (by kernel_rfl:(sub f29B [Y,Y,Y,Y,N,Y,N,N,Y]) = .seq (sub f29B [Y,Y,Y,Y,N,Y,N,N,Y,N]) (sub f29B [Y,Y,Y,Y,N,Y,N,N,Y,Y])) (f29j2_eq Q n1) (block_eq (by kernel_rfl:(sub f29B [Y,Y,Y,Y,N,Y,N,N,Y,N]) = .block 1 (sub f29B [Y,Y,Y,Y,N,Y,N,N,Y,N,N])) (seq_eq (by kernel_rfl:(sub f29B [Y,Y,Y,Y,N,Y,N,N,Y,N,N]) = .seq (sub f29B [Y,Y,Y,Y,N,Y,N,N,Y,N,N,N]) (sub f29B [Y,Y,Y,Y,N,Y,N,N,Y,N,N,Y])) (seq_eq (by kernel_rfl:(sub f29B [Y,Y,Y,Y,N,Y,N,N,Y,N,N,Y]) = .seq (sub f29B [Y,Y,Y,Y,N,Y,N,N,Y,N,N,Y,N]) (sub f29B [Y,Y,Y,Y,N,Y,N,N,Y,N,N,Y,Y])) (f29j3_eq Q n1) rfl) rfl))) rfl) (by kernel_rfl))
def f29 (Q:AV→St→Prop) (t0 t1:AV) (s:St):Prop :=
 (t1.cells.all AV.one = true ∧
 Bnd (bt .len #[49] [t0] (((adv s 2).set s.nx (some (.cells t1.cells 33 true true))).nx + 1) (adv ((adv s 2).set s.nx (some (.cells t1.cells 33 true true))) 13)) fun r9 =>
 Bnd (bn .gtr 3 r9.1 (.int .i64 60)) fun t10 =>
 Gd (wantV t10 false) r9.2 (fun k=>Bnd (ld 6 true (.ptr s.nx 0) r9.2) fun v=>k v r9.2) fun t12 s1 =>
 Gd (wantV t10 false) s1 (fun k=>CallPu Tryz.env 33 [t12] s1 k) fun t13 s2 =>
 Gd (wantV t10 false) s2 (fun k=>Bnd (bn .gtr 3 t13 (.int .i64 600)) fun v=>k v s2) fun t14 s3 =>
 Bnd (pickV t10 (.bool true) t14) fun t15 =>
 Gd (wantV t15 false) s3 (fun k=>Bnd (ld 6 true (.ptr s.nx 0) s3) fun v=>k v s3) fun t17 s4 =>
 Gd (wantV t15 false) s4 (fun k=>CallPu Tryz.env 74 [t17] s4 k) fun t18 s5 =>
 Gd (wantV t15 false) s5 (fun k=>Bnd (bn .gtr 3 t18 (.int .i64 64)) fun v=>k v s5) fun t19 s6 =>
 Bnd (pickV t15 (.bool true) t19) fun t20 =>
 IfP t20
 (Q (.bool false) (adv s6 1))
 (∃ n,f29l1 Q n t0 (.int .i64 0) (.int .i64 0) (.int .i64 0) (adv s6 3)))
theorem f29_run (t0 t1:AV) (s:St) {Q:AV→St→Prop} (h:f29 Q t0 t1 s):∃ r s',WideC Tryz.env 29 [t0,t1] s r s'∧Q r s' :=
 wide_ofA (h:=29) (fn:=Tryz.f29) (c:=sub f29B []) (show f29C (sub f29B []) (f29R Q) (fun _ _ _=>False) (f29R Q) = _ from (seq_eq (by kernel_rfl:(sub f29B []) = .seq (sub f29B [N]) (sub f29B [Y])) (seq_eq (by kernel_rfl:(sub f29B [Y]) = .seq (sub f29B [Y,N]) (sub f29B [Y,Y])) (seq_eq (by kernel_rfl:(sub f29B [Y,Y]) = .seq (sub f29B [Y,Y,N]) (sub f29B [Y,Y,Y])) (seq_eq (by kernel_rfl:(sub f29B [Y,Y,Y]) = .seq (sub f29B [Y,Y,Y,N]) (sub f29B [Y,Y,Y,Y])) (seq_eq (by kernel_rfl:(sub f29B [Y,Y,Y,Y]) = .seq (sub f29B [Y,Y,Y,Y,N]) (sub f29B [Y,Y,Y,Y,Y])) (f29j1_eq Q) (seq_eq (by kernel_rfl:(sub f29B [Y,Y,Y,Y,N]) = .seq (sub f29B [Y,Y,Y,Y,N,N]) (sub f29B [Y,Y,Y,Y,N,Y])) (block_eq (by kernel_rfl:(sub f29B [Y,Y,Y,Y,N,Y]) = .block 0 (sub f29B [Y,Y,Y,Y,N,Y,N])) (f29l1_eq Q _)) rfl)) rfl) rfl) rfl) rfl)) h
def f93 (Q:AV→St→Prop) (t0 t1:AV) (s:St):Prop :=
 (t1.cells.all AV.one = true ∧
 Bnd (ld 6 true (.ptr s.nx 0) (adv ((adv s 2).set s.nx (some (.cells t1.cells 33 true true))) 4)) fun t7 =>
 CallPu Tryz.env 29 [t0,t7] (adv ((adv s 2).set s.nx (some (.cells t1.cells 33 true true))) 4) fun t8 s1 =>
 IfP t8
 (Q (.int .i64 0) (adv s1 2))
 (Q (.int .i64 1) (adv s1 2)))
end
noncomputable section
section
variable {T:Ty} {q:TypeId→Bool} {t:TypeId} {k:IntKind} {a b:Int} {x y:List UInt8} {s:St} {n m:Nat}
theorem bin_add:bin T q .add t (.int k a) (.int k b) = some (.int k (k.wrap (a + b))):=by simp [bin,isShift,intBin]
theorem bin_sub:bin T q .sub t (.int k a) (.int k b) = some (.int k (k.wrap (a - b))):=by simp [bin,isShift,intBin]
theorem bin_mul:bin T q .mul t (.int k a) (.int k b) = some (.int k (k.wrap (a * b))):=by simp [bin,isShift,intBin]
theorem bin_lss:bin T q .lss t (.int k a) (.int k b) = some (.bool (decide (a < b))):=by simp [bin,isShift,intBin]
theorem bin_leq:bin T q .leq t (.int k a) (.int k b) = some (.bool (decide (a≤b))):=by simp [bin,isShift,intBin]
theorem bin_gtr:bin T q .gtr t (.int k a) (.int k b) = some (.bool (decide (a > b))):=by simp [bin,isShift,intBin]
theorem bin_geq:bin T q .geq t (.int k a) (.int k b) = some (.bool (decide (a ≥ b))):=by simp [bin,isShift,intBin]
theorem bin_eql:bin T q .eql t (.int k a) (.int k b) = some (.bool (a == b)):=by simp [bin,isShift,intBin]
theorem bin_neq:bin T q .neq t (.int k a) (.int k b) = some (.bool (a != b)):=by simp [bin,isShift,intBin]
theorem bin_seql:bin T q .eql t (.str x) (.str y) = some (.bool (x == y)):=rfl
theorem bin_sneq:bin T q .neq t (.str x) (.str y) = some (.bool !(x == y)):=rfl
theorem un_not {b:Bool}:un .not (.bool b) = some (.bool !b):=rfl
theorem wantV_bool {b w:Bool}:wantV (.bool b) w = some (b == w):=rfl
theorem pickV_bool {c:Bool} {u v:AV}:pickV (.bool c) u v = some (cond c u v):=rfl
theorem extr_tup {l:List AV} {i:Nat}:extr (.tup l) i = l[i]?:=rfl
theorem shiftP_ptr {i o:Nat}:shiftP n (.ptr i o) = some (.ptr i (o + n)):=rfl
theorem shiftP_pel {c:List AV} {o:Nat}:shiftP n (.pel c o) = some (.pel c (o + n)):=rfl
theorem adv_h:(adv s n).h = s.h:=rfl
theorem adv_nx:(adv s n).nx = s.nx + n:=rfl
theorem adv_adv:adv (adv s n) m = adv s (n + m):=by simp [adv,Nat.add_assoc]
theorem set_h {o:Option Blk}:(s.set n o).h m = cond (Nat.beq m n) o (s.h m):=rfl
theorem set_nx {o:Option Blk}:(s.set n o).nx = s.nx:=rfl
theorem beq_self':Nat.beq n n = true:=by simp
theorem ld_pel {c:List AV} {o z:Nat} {ag:Bool}:ld z ag (.pel c o) s = Ai.part z ag o c:=rfl
theorem ld_ptr {i o z:Nat} {ag:Bool}:ld z ag (.ptr i o) s = match s.h i with
  | some (.cells c _ _ _)=>Ai.part z ag o c
  | _=>none:=rfl
theorem part_one {c:List AV} {o z:Nat}:Ai.part z false o c = c[o]?:=rfl
theorem part_agg {c:List AV} {o z:Nat}:Ai.part z true o c = if o + z≤c.length then some (.agg ((c.drop o).take z)) else none:=rfl
theorem ftb:(false == true) = false:=rfl
theorem tfb:(true == false) = false:=rfl
theorem wz:type_of% (And.intro @shiftP_ptr <| And.intro @shiftP_pel <| And.intro @Bnd_some <| And.intro @IfP_bool <| And.intro @Gd_some <| And.intro @ld_ptr <| And.intro @ld_pel <| And.intro @adv_h <| And.intro @adv_nx <| And.intro @set_h <| And.intro @set_nx <| And.intro @beq_self' <| And.intro @part_one <| And.intro @un_not <| And.intro @wantV_bool <| And.intro @pickV_bool <| And.intro @extr_tup <| And.intro @bin_lss <| And.intro @bin_leq <| And.intro @bin_gtr <| And.intro @bin_geq <| And.intro @bin_eql <| And.intro @bin_neq <| And.intro @bin_seql <| And.intro @bin_sneq <| And.intro @bin_add <| And.intro @bin_sub <| And.intro @Nat.zero_add <| And.intro @Bool.false_eq_true <| And.intro @Bool.not_true <| And.intro @Bool.not_false <| And.intro @ftb @tfb):=And.intro @shiftP_ptr <| And.intro @shiftP_pel <| And.intro @Bnd_some <| And.intro @IfP_bool <| And.intro @Gd_some <| And.intro @ld_ptr <| And.intro @ld_pel <| And.intro @adv_h <| And.intro @adv_nx <| And.intro @set_h <| And.intro @set_nx <| And.intro @beq_self' <| And.intro @part_one <| And.intro @un_not <| And.intro @wantV_bool <| And.intro @pickV_bool <| And.intro @extr_tup <| And.intro @bin_lss <| And.intro @bin_leq <| And.intro @bin_gtr <| And.intro @bin_geq <| And.intro @bin_eql <| And.intro @bin_neq <| And.intro @bin_seql <| And.intro @bin_sneq <| And.intro @bin_add <| And.intro @bin_sub <| And.intro @Nat.zero_add <| And.intro @Bool.false_eq_true <| And.intro @Bool.not_true <| And.intro @Bool.not_false <| And.intro @ftb @tfb
theorem wy.{u}:type_of% (And.intro @cond_true.{u} <| And.intro @cond_false.{u} <| And.intro @List.getElem?_cons_zero.{u} <| And.intro @List.getElem?_cons_succ.{u} <| And.intro @beq_self_eq_true.{u} <| And.intro @if_true.{u} <| And.intro @if_false.{u} <| And.intro @List.mem_nil_iff.{u} @List.not_mem_nil.{u}):=And.intro @cond_true.{u} <| And.intro @cond_false.{u} <| And.intro @List.getElem?_cons_zero.{u} <| And.intro @List.getElem?_cons_succ.{u} <| And.intro @beq_self_eq_true.{u} <| And.intro @if_true.{u} <| And.intro @if_false.{u} <| And.intro @List.mem_nil_iff.{u} @List.not_mem_nil.{u}
theorem callPu {h:FuncId} {args:List AV} {v:AV} {K:AV→St→Prop} (hc:PureC Tryz.env h args v) (hcl:∀ x∈args,x.closed = true) (hk:K v s):CallPu Tryz.env h args s K:=by
 have hp:purL (pur Tryz.env.P s 12) args = some (args,[]):=by
  clear hc
  induction args with
  | nil=>rfl
  | cons x l ih =>
   have hx:pur Tryz.env.P s 12 x = some (x,[]):=by unfold pur; rw [if_pos (hcl x (List.mem_cons_self ..))]
   simp only [purL,hx,ih fun y hy=>hcl y (List.mem_cons_of_mem _ hy),List.append_nil]
 refine .mk args [] v hp hc ?_
 simpa using hk
theorem pure_closed {h:FuncId} {args:List AV} {v:AV} (hv:v.closed = true) (hw:∃ r s',WideC Tryz.env h args St.empty r s'∧r = v):PureC Tryz.env h args v:=by
 obtain ⟨r,s',h1,rfl⟩:=hw
 exact pure_of ⟨r,s',h1,[],by unfold pur; rw [if_pos hv]⟩
end
end
noncomputable section
set_option maxRecDepth 100000
section
universe u
variable {α:Type}
def Tr.lst:Tr α→(Nat→Nat)→List (Nat × α)
 | .e,_=>[]
 | .n v l r,f=>(f 0,v) :: (Tr.lst l (fun k=>f (2 * k + 1)) ++ Tr.lst r (fun k=>f (2 * k + 2)))
theorem Tr.lst_get (t:Tr α):∀ (f:Nat→Nat) (k:Nat) (v:α),t.get k = some v→(f k,v)∈Tr.lst t f:=by
 induction t with
 | e=>intro f k v h; cases h
 | n x l r il ir =>
  intro f k v h
  simp only [Tr.get] at h
  simp only [Tr.lst]
  cases h0:Nat.beq k 0 with
  | true =>
   rw [h0] at h
   simp only [cond_true,Option.some.injEq] at h
   have:=Nat.eq_of_beq_eq_true h0
   subst this; subst h
   exact List.mem_cons_self ..
  | false =>
   rw [h0] at h
   simp only [cond_false] at h
   have hk:k≠0:=by intro e; subst e; cases h0
   cases h1:Nat.beq (k % 2) 1 with
   | true =>
    rw [h1] at h
    have h2:=Nat.eq_of_beq_eq_true h1
    have:=il (fun k=>f (2 * k + 1)) (k / 2) v h
    refine List.mem_cons_of_mem _ (List.mem_append_left _ ?_)
    rwa [show 2 * (k / 2) + 1 = k by omega] at this
   | false =>
    rw [h1] at h
    have h2:k % 2≠1:=by intro e; rw [e] at h1; cases h1
    have:=ir (fun k=>f (2 * k + 2)) (k / 2 - 1) v h
    refine List.mem_cons_of_mem _ (List.mem_append_right _ ?_)
    rwa [show 2 * (k / 2 - 1) + 2 = k by omega] at this
theorem map_spec {β:Type} {l:List (Nat × α)} {p:Nat→Option α} (h:l.map (fun q=>p q.1) = l.map fun q=>some q.2):∀ q∈l,p q.1 = some q.2:=by
 induction l with
 | nil=>intro q hq; cases hq
 | cons x l ih =>
  simp only [List.map_cons,List.cons.injEq] at h
  intro q hq
  rcases List.mem_cons.1 hq with rfl | hq
  ·exact h.1
  ·exact ih h.2 q hq
end
theorem env_ty:TyOk Tryz.prog Tryz.ty:=by
 intro t i h
 have:=Tr.lst_get Tryz.tyT id t i h
 exact map_spec (β:=Nat) (p:=fun t=>Tryz.prog.info? t) (l:=Tr.lst Tryz.tyT id) (by kernel_rfl) _ this
theorem env_fns:∀ f fn,Tryz.fns f = some fn→Tryz.prog.funcs[f]? = some fn:=by
 intro t i h
 have:=Tr.lst_get Tryz.fnT id t i h
 exact map_spec (β:=Nat) (p:=fun t=>Tryz.prog.funcs[t]?) (l:=Tr.lst Tryz.fnT id) (by kernel_rfl) _ this
theorem env_names:∀ f fn,Tryz.fns f = some fn→fn.name≠"runtime.NumGoroutine":=by
 intro t i h
 have h1:=Tr.lst_get Tryz.fnT id t i h
 have h2:((Tr.lst Tryz.fnT id).all fun q=>!(q.2.name == "runtime.NumGoroutine")) = true:=by kernel_rfl
 have h3:=List.all_eq_true.1 h2 _ h1
 simpa using h3
end
noncomputable section
set_option maxRecDepth 1000000
abbrev g146B:Code:=bodyOf Tryz.f146
abbrev g146R:=rK Tryz.f146
abbrev g146C:=codeP Tryz.env0 146 (Tryz.env0.kp 146)
def g146 (Q:AV→St→Prop) (t0:AV) (s:St):Prop :=
 Bnd (bn .eql 49 t0 .nils) fun t4 =>
 IfP t4
 (Q .nils (adv s 4))
 (Bnd (bsl 49 0 []) fun t5 =>
 Bnd (bt .append #[49,49] [t5,t0] (s.nx + 5) (adv s 7)) fun r7 =>
 Q r7.1 r7.2)
theorem g146_run (t0:AV) (s:St) {Q:AV→St→Prop} (h:g146 Q t0 s):∃ r s',WideC Tryz.env0 146 [t0] s r s'∧Q r s' :=
 wide_ofA (h:=146) (fn:=Tryz.f146) (c:=sub g146B []) (show g146C (sub g146B []) (g146R Q) (fun _ _ _=>False) (g146R Q) = _ from rfl) h
abbrev g147B:Code:=bodyOf Tryz.f147
abbrev g147R:=rK Tryz.f147
abbrev g147C:=codeP Tryz.env0 147 (Tryz.env0.kp 147)
def g147 (Q:AV→St→Prop) (t0:AV) (s:St):Prop :=
 Bnd (bn .eql 65 t0 .nils) fun t4 =>
 IfP t4
 (Q .nils (adv s 4))
 (Bnd (bsl 65 0 []) fun t5 =>
 Bnd (bt .append #[65,65] [t5,t0] (s.nx + 5) (adv s 7)) fun r7 =>
 Q r7.1 r7.2)
theorem g147_run (t0:AV) (s:St) {Q:AV→St→Prop} (h:g147 Q t0 s):∃ r s',WideC Tryz.env0 147 [t0] s r s'∧Q r s' :=
 wide_ofA (h:=147) (fn:=Tryz.f147) (c:=sub g147B []) (show g147C (sub g147B []) (g147R Q) (fun _ _ _=>False) (g147R Q) = _ from rfl) h
abbrev g148B:Code:=bodyOf Tryz.f148
abbrev g148R:=rK Tryz.f148
abbrev g148C:=codeP Tryz.env0 148 (Tryz.env0.kp 148)
def g148 (Q:AV→St→Prop) (t0:AV) (s:St):Prop :=
 Bnd (bn .eql 31 t0 .nils) fun t4 =>
 IfP t4
 (Q .nils (adv s 4))
 (Bnd (bsl 31 0 []) fun t5 =>
 Bnd (bt .append #[31,31] [t5,t0] (s.nx + 5) (adv s 7)) fun r7 =>
 Q r7.1 r7.2)
theorem g148_run (t0:AV) (s:St) {Q:AV→St→Prop} (h:g148 Q t0 s):∃ r s',WideC Tryz.env0 148 [t0] s r s'∧Q r s' :=
 wide_ofA (h:=148) (fn:=Tryz.f148) (c:=sub g148B []) (show g148C (sub g148B []) (g148R Q) (fun _ _ _=>False) (g148R Q) = _ from rfl) h
abbrev g152B:Code:=bodyOf Tryz.f152
abbrev g152R:=rK Tryz.f152
abbrev g152C:=codeP Tryz.env0 152 (Tryz.env0.kp 152)
def g152 (Q:AV→St→Prop) (t0:AV) (s:St):Prop :=
 Bnd (bn .eql 72 t0 .nils) fun t4 =>
 IfP t4
 (Q .nils (adv s 4))
 (Bnd (bsl 72 0 []) fun t5 =>
 Bnd (bt .append #[72,72] [t5,t0] (s.nx + 5) (adv s 7)) fun r7 =>
 Q r7.1 r7.2)
theorem g152_run (t0:AV) (s:St) {Q:AV→St→Prop} (h:g152 Q t0 s):∃ r s',WideC Tryz.env0 152 [t0] s r s'∧Q r s' :=
 wide_ofA (h:=152) (fn:=Tryz.f152) (c:=sub g152B []) (show g152C (sub g152B []) (g152R Q) (fun _ _ _=>False) (g152R Q) = _ from rfl) h
abbrev g153B:Code:=bodyOf Tryz.f153
abbrev g153R:=rK Tryz.f153
abbrev g153C:=codeP Tryz.env0 153 (Tryz.env0.kp 153)
def g153 (Q:AV→St→Prop) (t0:AV) (s:St):Prop :=
 Bnd (bn .eql 22 t0 .nils) fun t4 =>
 IfP t4
 (Q .nils (adv s 4))
 (Bnd (bsl 22 0 []) fun t5 =>
 Bnd (bt .append #[22,22] [t5,t0] (s.nx + 5) (adv s 7)) fun r7 =>
 Q r7.1 r7.2)
theorem g153_run (t0:AV) (s:St) {Q:AV→St→Prop} (h:g153 Q t0 s):∃ r s',WideC Tryz.env0 153 [t0] s r s'∧Q r s' :=
 wide_ofA (h:=153) (fn:=Tryz.f153) (c:=sub g153B []) (show g153C (sub g153B []) (g153R Q) (fun _ _ _=>False) (g153R Q) = _ from rfl) h
abbrev g154B:Code:=bodyOf Tryz.f154
abbrev g154R:=rK Tryz.f154
abbrev g154C:=codeP Tryz.env0 154 (Tryz.env0.kp 154)
def g154 (Q:AV→St→Prop) (t0:AV) (s:St):Prop :=
 Bnd (bn .eql 25 t0 .nils) fun t4 =>
 IfP t4
 (Q .nils (adv s 4))
 (Bnd (bsl 25 0 []) fun t5 =>
 Bnd (bt .append #[25,25] [t5,t0] (s.nx + 5) (adv s 7)) fun r7 =>
 Q r7.1 r7.2)
theorem g154_run (t0:AV) (s:St) {Q:AV→St→Prop} (h:g154 Q t0 s):∃ r s',WideC Tryz.env0 154 [t0] s r s'∧Q r s' :=
 wide_ofA (h:=154) (fn:=Tryz.f154) (c:=sub g154B []) (show g154C (sub g154B []) (g154R Q) (fun _ _ _=>False) (g154R Q) = _ from rfl) h
end
noncomputable section
section
variable {P:Program} {E:Env}
def CloneRun (E:Env) (f:FuncId) (t:TypeId):Prop:=∀ (x:AV) (s:St) (Q:AV→St→Prop),
 (Bnd (bin E.P E.eqOk .eql t x .nils) fun t4=>IfP t4 (Q .nils (adv s 4))
  (Bnd (buildSl E.P t 0 []) fun t5=>Bnd (builtinA (bX E) .append #[t,t] [t5,x] (s.nx + 5) (adv s 7)) fun r=>Q r.1 r.2))→∃ r s',WideC E f [x] s r s'∧Q r s'
theorem run_of {f:FuncId} {t:TypeId} (hr:CloneRun E f t) {x:AV} {s:St} {r:AV} {s':St}
  (h:Bnd (bin E.P E.eqOk .eql t x .nils) fun t4=>IfP t4 ((AV.nils,adv s 4) = (r,s'))
   (Bnd (buildSl E.P t 0 []) fun t5=>Bnd (builtinA (bX E) .append #[t,t] [t5,x] (s.nx + 5) (adv s 7)) fun q=>q = (r,s'))):∃ n,callN E n f [x] s = some (r,s'):=by
 obtain ⟨r1,s1,⟨n,h1⟩,h2⟩:=hr x s (fun v q=>(v,q) = (r,s')) h
 simp only [Prod.mk.injEq] at h2
 obtain ⟨rfl,rfl⟩:=h2
 exact ⟨n,h1⟩
theorem clone_prim (hE:EnvOk P E) {f:FuncId} {t e:TypeId} {z b:Nat} {ag:Bool} {zv:AV} (hr:CloneRun E f t) (ht:und E.P t = some (.slice e)) (hl:lay E.P e = some (z,ag)) (hb:bytesOf E.P e = some b) (hz:zero E.P e = some zv) (hz0:0 < z) (hzv:zv.cells.length = z) :
  PrimOk P E.P E.glob f (cloneA E.P e):=by
 have hsl:buildSl E.P t 0 [] = some (.sl true []):=by
  have h2:0 * z≤2 ^ 24∧0 < z∧zv.cells.length = z:=⟨by omega,hz0,hzv⟩
  simp only [buildSl,ht,hl,hz,if_pos h2,List.replicate_zero,setParts,Option.map_some]
 have happ:∀ x id s,builtinA (bX E) .append #[t,t] [.sl true [],x] id s = (srcCells z x s).bind fun c=>appendA e z b (.sl true []) c id s:=fun x id s=>by
  have h2:0 < z∧zv.cells.length = z:=⟨hz0,hzv⟩
  have e1:((#[t,t]:Array TypeId)[0]?).bind (und (bX E).P) = some (.slice e):=ht
  have e2:((#[t,t]:Array TypeId)[1]?).bind (und (bX E).P) = some (.slice e):=ht
  simp only [builtinA,e1,e2]
  simp only [show (bX E).P = E.P from rfl,hl,hb,hz,if_pos h2]
 have hnil:∀ s,∃ n,callN E n f [.nils] s = some (.nils,adv s 4):=fun s=>by
  refine run_of hr (.mk (.bool true) ?_ (.t rfl rfl))
  simp [bin,ht,eqRef]
 have hrest:∀ x s r s',cloneOk x = true∨x = .emp→((srcCells z x (adv s 7)).bind fun c=>appendA e z b (.sl true []) c (s.nx + 5) (adv s 7)) = some (r,s')→∃ n,callN E n f [x] s = some (r,s'):=fun x s r s' hx h=>by
  refine run_of hr (.mk (.bool false) ?_ (.f rfl (.mk _ hsl (.mk (r,s') ?_ rfl))))
  ·rcases hx with hx | rfl
   ·cases x with
    | emp=>simp [bin,ht,eqRef]
    | sl ex l=>cases l with
     | nil=>cases hx
     | cons v l=>simp [bin,ht,eqRef]
    | ref=>simp [bin,ht,eqRef]
    | _=>cases hx
   ·simp [bin,ht,eqRef]
  ·rw [happ]; exact h
 have hemp:∀ s,∃ n,callN E n f [.emp] s = some (.sl true [],adv s 7):=fun s=>by
  refine hrest .emp s _ _ (.inr rfl) ?_
  rfl
 intro args s r s' hg vals ρ F W hcr hR hG
 unfold cloneA at hg
 split at hg
 ·rename_i x
  simp only [hl,hb] at hg
  obtain ⟨u,rfl,hu⟩:=hcr.single
  have use:∀ y,VR E.P F ρ y u→∀ r1 s1,(∃ n,callN E n f [y] s = some (r1,s1))→DoesN P E.P s.nx s ρ F W r1 s1 (callFunc f #[u]):=fun y hy r1 s1 ⟨n,hn⟩ =>
   callN_sound hE n f [y] s r1 s1 hn #[u] ρ F W (CR.cons hy CR.nil) hR hG
  cases x with
  | nils =>
   simp only [Option.some.injEq,Prod.mk.injEq] at hg; obtain ⟨rfl,rfl⟩:=hg
   exact use _ hu _ _ (hnil s)
  | sl ex l =>
   cases l with
   | nil =>
    simp only [Option.some.injEq,Prod.mk.injEq] at hg; obtain ⟨rfl,rfl⟩:=hg
    have hw:∀ r1 s1,(∀ F' ρ' v,VR E.P F' ρ' r1 v→VR E.P F' ρ' (.sl false []) v)→s1.h = s.h→s1.nx≤s.nx + 7→DoesN P E.P s.nx s ρ F W r1 s1 (callFunc f #[u])→DoesN P E.P s.nx s ρ F W (.sl false []) ⟨s.h,s.nx + 7⟩ (callFunc f #[u]):=fun r1 s1 hv hh hnx hd=>by
     refine hd.map fun v W' ⟨ρ',F',k1,k2,k3,k4,k5⟩=>⟨ρ',F',hv _ _ _ k1,?_,?_,k4,by show s.nx≤s.nx + 7; omega⟩
     ·obtain ⟨h1,n1⟩:=s1
      simp only at hh hnx; subst hh
      exact ⟨k2.blk,k2.inj,k2.fz,fun i hi=>k2.fresh i (by have:s.nx + 7≤i:=hi; show n1≤i; omega)⟩
     ·obtain ⟨h1,n1⟩:=s1
      simp only at hh; subst hh
      exact ⟨k3.rho,k3.fz,k3.os,k3.tape,k3.output,k3.size,k3.same,k3.born,k3.cold⟩
    obtain ⟨a,c,rfl,_,_,_⟩:=sl_inv hu
    have hn:=sl_none hu
    cases a with
    | none =>
     have:c = 0:=hn rfl
     subst this
     refine hw .nils (adv s 4) (fun F' ρ' v hv=>?_) rfl (by show s.nx + 4≤_; omega) (use .nils .nils _ _ (hnil s))
     cases hv; exact .sl0 false none 0 (fun h=>nomatch h) (fun _=>rfl)
    | some a =>
     refine hw (.sl true []) (adv s 7) (fun F' ρ' v hv=>?_) rfl (Nat.le_refl _) (use .emp (.emp a c) _ _ (hemp s))
     cases hv with
     | sl0 _ a c h hn=>exact .sl0 false a c (fun h=>nomatch h) hn
     | sl _ _ β b z c w hc hx hz hf hv=>exact .sl0 false _ _ (fun h=>nomatch h) (fun h=>nomatch h)
   | cons v l =>
    have h2:((srcCells z (.sl ex (v :: l)) (adv s 7)).bind fun c=>appendA e z b (.sl true []) c (s.nx + 5) (adv s 7)) = some (r,s'):=hg
    exact use _ hu _ _ (hrest _ s r s' (.inl rfl) h2)
  | emp =>
   have h2:((srcCells z .emp (adv s 7)).bind fun c=>appendA e z b (.sl true []) c (s.nx + 5) (adv s 7)) = some (r,s'):=hg
   exact use _ hu _ _ (hrest _ s r s' (.inl rfl) h2)
  | ref i o n c e' =>
   have h2:((srcCells z (.ref i o n c e') (adv s 7)).bind fun c=>appendA e z b (.sl true []) c (s.nx + 5) (adv s 7)) = some (r,s'):=hg
   exact use _ hu _ _ (hrest _ s r s' (.inl rfl) h2)
  | _=>simp [cloneOk] at hg
 ·cases hg
end
end
noncomputable section
set_option maxRecDepth 1000000
abbrev f20B:Code:=bodyOf Tryz.f20
abbrev f20R:=rK Tryz.f20
abbrev f20C:=codeP Tryz.env 20 (Tryz.env.kp 20)
def f20j1 (Q:AV→St→Prop) (s:St):Prop :=
 Q (.int .i64 0) (adv s 1)
theorem f20j1_eq (Q:AV→St→Prop):f20C (sub f20B [Y,Y,Y]) (f20R Q) (fun _ _ _=>False) (f20R Q) = (fun g s=>f20j1 Q s) :=
 Eq.trans rfl (by kernel_rfl)
def f20 (Q:AV→St→Prop) (t0:AV) (s:St):Prop :=
 (t0.cells.all AV.one = true ∧
 Bnd (ld 2 true (.ptr s.nx 0) (adv ((adv s 2).set s.nx (some (.cells t0.cells 24 true true))) 3)) fun t3 =>
 CallPu Tryz.env 69 [t3] (adv ((adv s 2).set s.nx (some (.cells t0.cells 24 true true))) 3) fun t4 s1 =>
 Bnd (sto 2 (.ptr s.nx 0) t4 s1) fun s2 =>
 Bnd (shiftP 0 (.ptr s.nx 0)) fun t6 =>
 Bnd (ld 1 false t6 (adv s2 3)) fun t7 =>
 IfP t7
 (Q (.int .i64 (-1)) (adv s2 4))
 (Bnd (shiftP 1 (.ptr s.nx 0)) fun t9 =>
 Bnd (ld 1 false t9 (adv s2 8)) fun t10 =>
 Bnd (bt .len #[22] [t10] (s2.nx + 5) (adv s2 8)) fun r11 =>
 Bnd (bn .gtr 3 r11.1 (.int .i64 0)) fun t12 =>
 IfP t12
 (Q (.int .i64 1) (adv r11.2 1))
 (f20j1 Q r11.2)))
theorem f20_run (t0:AV) (s:St) {Q:AV→St→Prop} (h:f20 Q t0 s):∃ r s',WideC Tryz.env 20 [t0] s r s'∧Q r s' :=
 wide_ofA (h:=20) (fn:=Tryz.f20) (c:=sub f20B []) (show f20C (sub f20B []) (f20R Q) (fun _ _ _=>False) (f20R Q) = _ from (seq_eq (by kernel_rfl:(sub f20B []) = .seq (sub f20B [N]) (sub f20B [Y])) (seq_eq (by kernel_rfl:(sub f20B [Y]) = .seq (sub f20B [Y,N]) (sub f20B [Y,Y])) (seq_eq (by kernel_rfl:(sub f20B [Y,Y]) = .seq (sub f20B [Y,Y,N]) (sub f20B [Y,Y,Y])) (f20j1_eq Q) (block_eq (by kernel_rfl:(sub f20B [Y,Y,N]) = .block 0 (sub f20B [Y,Y,N,N])) rfl)) rfl) rfl)) h
abbrev f69B:Code:=bodyOf Tryz.f69
abbrev f69R:=rK Tryz.f69
abbrev f69C:=codeP Tryz.env 69 (Tryz.env.kp 69)
def f69 (Q:AV→St→Prop) (t0:AV) (s:St):Prop :=
 (t0.cells.all AV.one = true ∧
 Bnd (zr 24) fun z2 =>
 Bnd (shiftP 0 (.ptr s.nx 0)) fun t3 =>
 Bnd (ld 1 false t3 (adv (((adv s 2).set s.nx (some (.cells t0.cells 24 true true))).set (s.nx + 1) (some (.cells z2.cells 24 true true))) 6)) fun t4 =>
 Bnd (shiftP 1 (.ptr s.nx 0)) fun t5 =>
 Bnd (ld 1 false t5 (adv (((adv s 2).set s.nx (some (.cells t0.cells 24 true true))).set (s.nx + 1) (some (.cells z2.cells 24 true true))) 6)) fun t6 =>
 CallPu Tryz.env 105 [t4,t6] (adv (((adv s 2).set s.nx (some (.cells t0.cells 24 true true))).set (s.nx + 1) (some (.cells z2.cells 24 true true))) 6) fun t7 s1 =>
 Bnd (sto 2 (.ptr (s.nx + 1) 0) t7 s1) fun s2 =>
 RetP ((resC [ld 2 true (.ptr (s.nx + 1) 0) s2]).map tupV) fun v=>Q v s2)
theorem f69_run (t0:AV) (s:St) {Q:AV→St→Prop} (h:f69 Q t0 s):∃ r s',WideC Tryz.env 69 [t0] s r s'∧Q r s' :=
 wide_ofA (h:=69) (fn:=Tryz.f69) (c:=sub f69B []) (show f69C (sub f69B []) (f69R Q) (fun _ _ _=>False) (f69R Q) = _ from rfl) h
abbrev f105B:Code:=bodyOf Tryz.f105
abbrev f105R:=rK Tryz.f105
abbrev f105C:=codeP Tryz.env 105 (Tryz.env.kp 105)
def f105 (Q:AV→St→Prop) (t0 t1:AV) (s:St):Prop :=
 Bnd (zr 24) fun z4 =>
 CallPu Tryz.env 110 [t1] (adv ((adv s 1).set s.nx (some (.cells z4.cells 24 true true))) 3) fun t6 s1 =>
 Gd (wantV t0 true) (adv s1 9) (fun k=>k t6 (adv s1 9)) fun t9 s2 =>
 Gd (wantV t0 true) s2 (fun k=>Bnd (bt .len #[22] [t9] (s1.nx + 3) s2) fun r=>k r.1 r.2) fun t10 s3 =>
 Gd (wantV t0 true) s3 (fun k=>Bnd (bn .gtr 3 t10 (.int .i64 0)) fun v=>k v s3) fun t11 s4 =>
 Bnd (pickV t0 t11 (.bool false)) fun t12 =>
 Bnd (bld 24 [(0,t12),(1,t6)]) fun t14 =>
 Bnd (sto 2 (.ptr s.nx 0) t14 s4) fun s5 =>
 RetP ((resC [ld 2 true (.ptr s.nx 0) s5]).map tupV) fun v=>Q v s5
theorem f105_run (t0 t1:AV) (s:St) {Q:AV→St→Prop} (h:f105 Q t0 t1 s):∃ r s',WideC Tryz.env 105 [t0,t1] s r s'∧Q r s' :=
 wide_ofA (h:=105) (fn:=Tryz.f105) (c:=sub f105B []) (show f105C (sub f105B []) (f105R Q) (fun _ _ _=>False) (f105R Q) = _ from rfl) h
abbrev f60B:Code:=bodyOf Tryz.f60
abbrev f60R:=rK Tryz.f60
abbrev f60C:=codeP Tryz.env 60 (Tryz.env.kp 60)
def f60j1 (Q:AV→St→Prop) (s:St):Prop :=
 Q (.bool true) (adv s 1)
def f60j2 (Q:AV→St→Prop) (ih1:AV→AV→AV→AV→AV→St→Prop) (t11 t0 t3 t9 t10:AV) (s:St):Prop :=
 Bnd (bn .add 3 t11 (.int .i64 1)) fun t54 =>
 ih1 t0 t3 t9 t10 t54 (adv s 2)
def f60l1s (Q:AV→St→Prop) (ih1:AV→AV→AV→AV→AV→St→Prop) (t0 t3 t9 t10 t11:AV) (s:St):Prop :=
 Bnd (bn .lss 3 t11 t10) fun t12 =>
 IfP t12
 (Bnd (ixS 2 t9 t11) fun t14 =>
 Bnd (ld 2 true t14 (adv s 7)) fun t15 =>
 Bnd (zr 109) fun z5 =>
 Bnd (sto 2 (.ptr (s.nx + 4) 0) t15 ((adv s 7).set (s.nx + 4) (some (.cells z5.cells 109 true true)))) fun s1 =>
 Bnd (shiftP 0 (.ptr (s.nx + 4) 0)) fun t16 =>
 Bnd (ld 1 false t16 (adv s1 34)) fun t17 =>
 Bnd (bn .lss 3 t17 (.int .i64 0)) fun t18 =>
 Gd (wantV t18 false) (adv s1 34) (fun k=>Bnd (shiftP 0 (.ptr (s.nx + 4) 0)) fun v=>k v (adv s1 34)) fun t20 s2 =>
 Gd (wantV t18 false) s2 (fun k=>Bnd (ld 1 false t20 s2) fun v=>k v s2) fun t21 s3 =>
 Gd (wantV t18 false) s3 (fun k=>Bnd (bn .gtr 3 t21 (.int .i64 196607)) fun v=>k v s3) fun t22 s4 =>
 Bnd (pickV t18 (.bool true) t22) fun t23 =>
 Gd (wantV t23 false) s4 (fun k=>Bnd (shiftP 1 (.ptr (s.nx + 4) 0)) fun v=>k v s4) fun t25 s5 =>
 Gd (wantV t23 false) s5 (fun k=>Bnd (ld 1 false t25 s5) fun v=>k v s5) fun t26 s6 =>
 Gd (wantV t23 false) s6 (fun k=>Bnd (bn .lss 3 t26 (.int .i64 1)) fun v=>k v s6) fun t27 s7 =>
 Bnd (pickV t23 (.bool true) t27) fun t28 =>
 Gd (wantV t28 false) s7 (fun k=>Bnd (shiftP 1 (.ptr (s.nx + 4) 0)) fun v=>k v s7) fun t30 s8 =>
 Gd (wantV t28 false) s8 (fun k=>Bnd (ld 1 false t30 s8) fun v=>k v s8) fun t31 s9 =>
 Gd (wantV t28 false) s9 (fun k=>k t3 s9) fun t32 s10 =>
 Gd (wantV t28 false) s10 (fun k=>Bnd (bn .gtr 3 t31 t32) fun v=>k v s10) fun t33 s11 =>
 Bnd (pickV t28 (.bool true) t33) fun t34 =>
 Gd (wantV t34 false) s11 (fun k=>k t11 s11) fun t36 s12 =>
 Gd (wantV t34 false) s12 (fun k=>Bnd (bn .gtr 3 t36 (.int .i64 0)) fun v=>k v s12) fun t37 s13 =>
 Gd (wantV t34 false) s13 (fun k=>k t37 s13) fun t38 s14 =>
 Gd (wantV t38 true) s14 (fun k=>k t0 s14) fun t39 s15 =>
 Gd (wantV t38 true) s15 (fun k=>k t11 s15) fun t40 s16 =>
 Gd (wantV t38 true) s16 (fun k=>Bnd (bn .sub 3 t40 (.int .i64 1)) fun v=>k v s16) fun t41 s17 =>
 Gd (wantV t38 true) s17 (fun k=>Bnd (ixS 2 t39 t41) fun v=>k v s17) fun t42 s18 =>
 Gd (wantV t38 true) s18 (fun k=>Bnd (shiftP 0 t42) fun v=>k v s18) fun t43 s19 =>
 Gd (wantV t38 true) s19 (fun k=>Bnd (ld 1 false t43 s19) fun v=>k v s19) fun t44 s20 =>
 Gd (wantV t38 true) s20 (fun k=>Bnd (shiftP 0 (.ptr (s.nx + 4) 0)) fun v=>k v s20) fun t45 s21 =>
 Gd (wantV t38 true) s21 (fun k=>Bnd (ld 1 false t45 s21) fun v=>k v s21) fun t46 s22 =>
 Gd (wantV t38 true) s22 (fun k=>Bnd (bn .eql 3 t44 t46) fun v=>k v s22) fun t47 s23 =>
 Gd (wantV t34 false) s23 (fun k=>Bnd (pickV t38 t47 (.bool false)) fun v=>k v s23) fun t48 s24 =>
 Bnd (pickV t34 (.bool true) t48) fun t49 =>
 IfP t49
 (Q (.bool false) (adv s24 1))
 (Bnd (shiftP 1 (.ptr (s.nx + 4) 0)) fun t51 =>
 Bnd (ld 1 false t51 (adv s24 5)) fun t52 =>
 Bnd (bn .sub 3 t3 t52) fun t53 =>
 f60j2 Q ih1 t11 t0 t53 t9 t10 (adv s24 5)))
 (f60j1 Q (adv s 1))
def f60l1 (Q:AV→St→Prop) (n:Nat):AV→AV→AV→AV→AV→St→Prop:=Nat.rec (motive:=fun _=>AV→AV→AV→AV→AV→St→Prop) (fun _ _ _ _ _ _=>False) (fun _ ih=>f60l1s Q ih) n
theorem f60j1_eq (Q:AV→St→Prop):f60C (sub f60B [Y,Y,Y,Y]) (f60R Q) (fun _ _ _=>False) (f60R Q) = (fun g s=>f60j1 Q s) :=
 Eq.trans rfl (by kernel_rfl)
theorem f60j2_eq (Q:AV→St→Prop) (n1:Nat):f60C (sub f60B [Y,Y,Y,N,Y,N,N,Y,Y,Y]) (fun g s=>(fun (n:Nat) (g:Gf) (s:St)=>f60l1 Q n (g 0) (g 3) (g 9) (g 10) (g 11) s) n1 (fun k=>cond (bitOf (Tryz.env.kp 60) k) (g k) .undef) s) (fun i=>cond (Nat.beq i 0) (fun g s=>f60j1 Q s) ((fun _ _ _=>False) i)) (f60R Q) = (fun g s=>f60j2 Q (f60l1 Q n1) (g 11) (g 0) (g 3) (g 9) (g 10) s) :=
 Eq.trans rfl (by kernel_rfl)
theorem f60l1_eq (Q:AV→St→Prop) (kN:Kt):f60C (sub f60B [Y,Y,Y,N,Y,N]) kN (fun i=>cond (Nat.beq i 0) (fun g s=>f60j1 Q s) ((fun _ _ _=>False) i)) (f60R Q) = fun g s=>∃ n,(fun (n:Nat) (g:Gf) (s:St)=>f60l1 Q n (g 0) (g 3) (g 9) (g 10) (g 11) s) n g s :=
 loop_eq (L:=fun (n:Nat) (g:Gf) (s:St)=>f60l1 Q n (g 0) (g 3) (g 9) (g 10) (g 11) s) (by kernel_rfl:(sub f60B [Y,Y,Y,N,Y,N]) = .loop (sub f60B [Y,Y,Y,N,Y,N,N])) (by kernel_rfl) (fun n1=>Eq.trans (seq_eq (by kernel_rfl:(sub f60B [Y,Y,Y,N,Y,N,N]) = .seq (sub f60B [Y,Y,Y,N,Y,N,N,N]) (sub f60B [Y,Y,Y,N,Y,N,N,Y])) (seq_eq (by kernel_rfl:(sub f60B [Y,Y,Y,N,Y,N,N,Y]) = .seq (sub f60B [Y,Y,Y,N,Y,N,N,Y,N]) (sub f60B [Y,Y,Y,N,Y,N,N,Y,Y])) (seq_eq (by kernel_rfl:(sub f60B [Y,Y,Y,N,Y,N,N,Y,Y]) = .seq (sub f60B [Y,Y,Y,N,Y,N,N,Y,Y,N]) (sub f60B [Y,Y,Y,N,Y,N,N,Y,Y,Y])) (f60j2_eq Q n1) (block_eq (by kernel_rfl:(sub f60B [Y,Y,Y,N,Y,N,N,Y,Y,N]) = .block 1 (sub f60B [Y,Y,Y,N,Y,N,N,Y,Y,N,N])) rfl)) rfl) rfl) (by kernel_rfl))
def f60 (Q:AV→St→Prop) (t0:AV) (s:St):Prop :=
 Bnd (bt .len #[25] [t0] (s.nx + 2) (adv s 4)) fun r7 =>
 Bnd (bn .gtr 3 r7.1 (.int .i64 65536)) fun t8 =>
 IfP t8
 (Q (.bool false) (adv r7.2 1))
 (Bnd (bt .len #[25] [t0] (r7.2.nx + 2) (adv r7.2 4)) fun r10 =>
 ∃ n,f60l1 Q n t0 (.int .i64 1099511627776) t0 r10.1 (.int .i64 0) r10.2)
theorem f60_run (t0:AV) (s:St) {Q:AV→St→Prop} (h:f60 Q t0 s):∃ r s',WideC Tryz.env 60 [t0] s r s'∧Q r s' :=
 wide_ofA (h:=60) (fn:=Tryz.f60) (c:=sub f60B []) (show f60C (sub f60B []) (f60R Q) (fun _ _ _=>False) (f60R Q) = _ from (seq_eq (by kernel_rfl:(sub f60B []) = .seq (sub f60B [N]) (sub f60B [Y])) (seq_eq (by kernel_rfl:(sub f60B [Y]) = .seq (sub f60B [Y,N]) (sub f60B [Y,Y])) (seq_eq (by kernel_rfl:(sub f60B [Y,Y]) = .seq (sub f60B [Y,Y,N]) (sub f60B [Y,Y,Y])) (seq_eq (by kernel_rfl:(sub f60B [Y,Y,Y]) = .seq (sub f60B [Y,Y,Y,N]) (sub f60B [Y,Y,Y,Y])) (f60j1_eq Q) (seq_eq (by kernel_rfl:(sub f60B [Y,Y,Y,N]) = .seq (sub f60B [Y,Y,Y,N,N]) (sub f60B [Y,Y,Y,N,Y])) (block_eq (by kernel_rfl:(sub f60B [Y,Y,Y,N,Y]) = .block 0 (sub f60B [Y,Y,Y,N,Y,N])) (f60l1_eq Q _)) rfl)) rfl) rfl) rfl)) h
def f19 (Q:AV→St→Prop) (t0:AV) (s:St):Prop :=
 CallPu Tryz.env 60 [t0] (adv s 4) fun t4 s1 =>
 Bnd (un .not t4) fun t5 =>
 IfP t5
 (Q (.int .i64 0) (adv s1 1))
 (CallPu Tryz.env 68 [t0] (adv s1 3) fun t7 s2 =>
 Q t7 s2)
def f68j1 (Q:AV→St→Prop) (t3:AV) (s:St):Prop :=
 Q t3 (adv s 2)
def f68j2 (Q:AV→St→Prop) (ih1:AV→AV→AV→AV→St→Prop) (t8 t3 t6 t7:AV) (s:St):Prop :=
 Bnd (bn .add 3 t8 (.int .i64 1)) fun t16 =>
 ih1 t3 t6 t7 t16 (adv s 2)
def f68l1s (Q:AV→St→Prop) (ih1:AV→AV→AV→AV→St→Prop) (t3 t6 t7 t8:AV) (s:St):Prop :=
 Bnd (bn .lss 3 t8 t7) fun t9 =>
 IfP t9
 (Bnd (ixS 2 t6 t8) fun t10 =>
 Bnd (ld 2 true t10 (adv s 5)) fun t11 =>
 Bnd (zr 109) fun z5 =>
 Bnd (sto 2 (.ptr (s.nx + 3) 0) t11 ((adv s 5).set (s.nx + 3) (some (.cells z5.cells 109 true true)))) fun s1 =>
 Bnd (shiftP 1 (.ptr (s.nx + 3) 0)) fun t13 =>
 Bnd (ld 1 false t13 (adv s1 5)) fun t14 =>
 Bnd (bn .add 3 t3 t14) fun t15 =>
 f68j2 Q ih1 t8 t15 t6 t7 (adv s1 5))
 (f68j1 Q t3 (adv s 1))
def f68l1 (Q:AV→St→Prop) (n:Nat):AV→AV→AV→AV→St→Prop:=Nat.rec (motive:=fun _=>AV→AV→AV→AV→St→Prop) (fun _ _ _ _ _=>False) (fun _ ih=>f68l1s Q ih) n
def f68 (Q:AV→St→Prop) (t0:AV) (s:St):Prop :=
 Bnd (bt .len #[25] [t0] (s.nx + 3) (adv s 5)) fun r7 =>
 ∃ n,f68l1 Q n (.int .i64 0) t0 r7.1 (.int .i64 0) r7.2
def f21 (Q:AV→St→Prop) (t0:AV) (s:St):Prop :=
 (t0.cells.all AV.one = true ∧
 Bnd (ld 6 true (.ptr s.nx 0) (adv ((adv s 2).set s.nx (some (.cells t0.cells 33 true true))) 3)) fun t3 =>
 CallPu Tryz.env 70 [t3,(.int .i64 65)] (adv ((adv s 2).set s.nx (some (.cells t0.cells 33 true true))) 3) fun t4 s1 =>
 Q t4 s1)
def f70j1 (Q:AV→St→Prop) (t5:AV) (s:St):Prop :=
 Bnd (bn .add 3 t5 (.int .i64 1)) fun t30 =>
 Q t30 (adv s 3)
def f70j2 (Q:AV→St→Prop) (ih1:AV→AV→AV→AV→AV→St→Prop) (t18 t1 t5 t16 t17:AV) (s:St):Prop :=
 Bnd (bn .add 3 t18 (.int .i64 1)) fun t28 =>
 ih1 t1 t5 t16 t17 t28 (adv s 2)
def f70l1s (Q:AV→St→Prop) (ih1:AV→AV→AV→AV→AV→St→Prop) (t1 t5 t16 t17 t18:AV) (s:St):Prop :=
 Bnd (bn .lss 3 t18 t17) fun t19 =>
 IfP t19
 (Bnd (ixS 6 t16 t18) fun t20 =>
 Bnd (ld 6 true t20 (adv s 5)) fun t21 =>
 Bnd (zr 33) fun z7 =>
 Bnd (sto 6 (.ptr (s.nx + 3) 0) t21 ((adv s 5).set (s.nx + 3) (some (.cells z7.cells 33 true true)))) fun s1 =>
 Bnd (ld 6 true (.ptr (s.nx + 3) 0) (adv s1 7)) fun t23 =>
 Bnd (bn .sub 3 t1 (.int .i64 1)) fun t25 =>
 CallPu Tryz.env 70 [t23,t25] (adv s1 7) fun t26 s2 =>
 Bnd (bt .max #[3,3] [t5,t26] (s1.nx + 5) s2) fun r27 =>
 f70j2 Q ih1 t18 t1 r27.1 t16 t17 r27.2)
 (f70j1 Q t5 (adv s 1))
def f70l1 (Q:AV→St→Prop) (n:Nat):AV→AV→AV→AV→AV→St→Prop:=Nat.rec (motive:=fun _=>AV→AV→AV→AV→AV→St→Prop) (fun _ _ _ _ _ _=>False) (fun _ ih=>f70l1s Q ih) n
def f70 (Q:AV→St→Prop) (t0 t1:AV) (s:St):Prop :=
 (t0.cells.all AV.one = true ∧
 Bnd (shiftP 0 (.ptr s.nx 0)) fun t8 =>
 Bnd (ld 1 false t8 (adv ((adv s 2).set s.nx (some (.cells t0.cells 33 true true))) 7)) fun t9 =>
 Bnd (un .not t9) fun t10 =>
 Gd (wantV t10 false) (adv ((adv s 2).set s.nx (some (.cells t0.cells 33 true true))) 7) (fun k=>k t1 (adv ((adv s 2).set s.nx (some (.cells t0.cells 33 true true))) 7)) fun t12 s1 =>
 Gd (wantV t10 false) s1 (fun k=>Bnd (bn .eql 3 t12 (.int .i64 0)) fun v=>k v s1) fun t13 s2 =>
 Bnd (pickV t10 (.bool true) t13) fun t14 =>
 IfP t14
 (Q (.int .i64 0) (adv s2 1))
 (Bnd (shiftP 5 (.ptr s.nx 0)) fun t15 =>
 Bnd (ld 1 false t15 (adv s2 5)) fun t16 =>
 Bnd (bt .len #[31] [t16] (s2.nx + 3) (adv s2 5)) fun r17 =>
 ∃ n,f70l1 Q n t1 (.int .i64 0) t16 r17.1 (.int .i64 0) r17.2))
def f4 (Q:AV→St→Prop) (t0:AV) (s:St):Prop :=
 (t0.cells.all AV.one = true ∧
 CallPu Tryz.env 15 [] (adv ((adv s 2).set s.nx (some (.cells t0.cells 27 true true))) 2) fun t8 s1 =>
 Bnd (un .not t8) fun t10 =>
 Gd (wantV t10 false) (adv s1 15) (fun k=>Bnd (shiftP 4 (.ptr s.nx 0)) fun v=>k v (adv s1 15)) fun t12 s2 =>
 Gd (wantV t10 false) s2 (fun k=>Bnd (ld 1 false t12 s2) fun v=>k v s2) fun t13 s3 =>
 Gd (wantV t10 false) s3 (fun k=>Bnd (bt .len #[25] [t13] (s1.nx + 5) s3) fun r=>k r.1 r.2) fun t14 s4 =>
 Gd (wantV t10 false) s4 (fun k=>Bnd (bn .gtr 3 t14 (.int .i64 300)) fun v=>k v s4) fun t15 s5 =>
 Bnd (pickV t10 (.bool true) t15) fun t16 =>
 Gd (wantV t16 false) s5 (fun k=>Bnd (shiftP 2 (.ptr s.nx 0)) fun v=>k v s5) fun t18 s6 =>
 Gd (wantV t16 false) s6 (fun k=>Bnd (shiftP 1 t18) fun v=>k v s6) fun t19 s7 =>
 Gd (wantV t16 false) s7 (fun k=>Bnd (ld 1 false t19 s7) fun v=>k v s7) fun t20 s8 =>
 Gd (wantV t16 false) s8 (fun k=>Bnd (bt .len #[22] [t20] (s1.nx + 12) s8) fun r=>k r.1 r.2) fun t21 s9 =>
 Gd (wantV t16 false) s9 (fun k=>Bnd (bn .gtr 3 t21 (.int .i64 30)) fun v=>k v s9) fun t22 s10 =>
 Bnd (pickV t16 (.bool true) t22) fun t23 =>
 IfP t23
 (Q t8 (adv s10 2))
 (Bnd (ld 5 true (.ptr s.nx 0) (adv s10 8)) fun t26 =>
 CallPu Tryz.env 16 [t26] (adv s10 8) fun t27 s11 =>
 Bnd (extr t27 0) fun t28 =>
 Bnd (extr t27 1) fun t29 =>
 Bnd (zr 33) fun z4 =>
 Bnd (sto 6 (.ptr (s10.nx + 5) 0) t28 (s11.set (s10.nx + 5) (some (.cells z4.cells 33 true true)))) fun s12 =>
 Bnd (bn .neq 34 t29 (.int .i64 0)) fun t31 =>
 IfP t31
 (Bnd (bn .eql 34 t29 (.int .i64 1)) fun t33 =>
 Gd (wantV t33 false) (adv s12 20) (fun k=>k t29 (adv s12 20)) fun t35 s13 =>
 Gd (wantV t33 false) s13 (fun k=>Bnd (bn .eql 34 t35 (.int .i64 2)) fun v=>k v s13) fun t36 s14 =>
 Bnd (pickV t33 (.bool true) t36) fun t37 =>
 Gd (wantV t37 true) s14 (fun k=>Bnd (shiftP 0 (.ptr (s10.nx + 5) 0)) fun v=>k v s14) fun t39 s15 =>
 Gd (wantV t37 true) s15 (fun k=>Bnd (ld 1 false t39 s15) fun v=>k v s15) fun t40 s16 =>
 Gd (wantV t37 true) s16 (fun k=>Bnd (un .not t40) fun v=>k v s16) fun t41 s17 =>
 Bnd (pickV t37 t41 (.bool false)) fun t42 =>
 Gd (wantV t42 true) s17 (fun k=>Bnd (shiftP 1 (.ptr (s10.nx + 5) 0)) fun v=>k v s17) fun t44 s18 =>
 Gd (wantV t42 true) s18 (fun k=>Bnd (shiftP 0 t44) fun v=>k v s18) fun t45 s19 =>
 Gd (wantV t42 true) s19 (fun k=>Bnd (ld 1 false t45 s19) fun v=>k v s19) fun t46 s20 =>
 Gd (wantV t42 true) s20 (fun k=>Bnd (bn .eql 3 t46 (.int .i64 0)) fun v=>k v s20) fun t47 s21 =>
 Bnd (pickV t42 t47 (.bool false)) fun t48 =>
 Q t48 s21)
 (Bnd (shiftP 0 (.ptr s.nx 0)) fun t49 =>
 Bnd (ld 1 false t49 (adv s12 12)) fun t50 =>
 Bnd (bn .eql 3 t50 (.int .i64 3)) fun t51 =>
 Gd (wantV t51 true) (adv s12 12) (fun k=>Bnd (shiftP 4 (.ptr s.nx 0)) fun v=>k v (adv s12 12)) fun t53 s22 =>
 Gd (wantV t51 true) s22 (fun k=>Bnd (ld 1 false t53 s22) fun v=>k v s22) fun t54 s23 =>
 Gd (wantV t51 true) s23 (fun k=>CallPu Tryz.env 19 [t54] s23 k) fun t55 s24 =>
 Gd (wantV t51 true) s24 (fun k=>Bnd (bn .gtr 3 t55 (.int .i64 1000)) fun v=>k v s24) fun t56 s25 =>
 Bnd (pickV t51 t56 (.bool false)) fun t57 =>
 Bnd (shiftP 0 (.ptr s.nx 0)) fun t58 =>
 Bnd (ld 1 false t58 (adv s25 10)) fun t59 =>
 Bnd (bn .eql 3 t59 (.int .i64 2)) fun t60 =>
 Gd (wantV t60 true) (adv s25 10) (fun k=>Bnd (shiftP 2 (.ptr s.nx 0)) fun v=>k v (adv s25 10)) fun t62 s26 =>
 Gd (wantV t60 true) s26 (fun k=>Bnd (ld 2 true t62 s26) fun v=>k v s26) fun t63 s27 =>
 Gd (wantV t60 true) s27 (fun k=>CallPu Tryz.env 20 [t63] s27 k) fun t64 s28 =>
 Gd (wantV t60 true) s28 (fun k=>Bnd (bn .lss 3 t64 (.int .i64 0)) fun v=>k v s28) fun t65 s29 =>
 Bnd (pickV t60 t65 (.bool false)) fun t66 =>
 Bnd (shiftP 0 (.ptr (s10.nx + 5) 0)) fun t67 =>
 Bnd (ld 1 false t67 (adv s29 13)) fun t68 =>
 Gd (wantV t57 false) (adv s29 13) (fun k=>k t66 (adv s29 13)) fun t71 s30 =>
 Bnd (pickV t57 (.bool true) t71) fun t72 =>
 Bnd (bn .eql 4 t68 t72) fun t73 =>
 Gd (wantV t73 true) s30 (fun k=>Bnd (ld 6 true (.ptr (s10.nx + 5) 0) s30) fun v=>k v s30) fun t75 s31 =>
 Gd (wantV t73 true) s31 (fun k=>CallPu Tryz.env 21 [t75] s31 k) fun t76 s32 =>
 Gd (wantV t73 true) s32 (fun k=>Bnd (bn .leq 3 t76 (.int .i64 64)) fun v=>k v s32) fun t77 s33 =>
 Bnd (pickV t73 t77 (.bool false)) fun t78 =>
 Q t78 s33)))
end
noncomputable section
set_option maxRecDepth 1000000
abbrev f110B:Code:=bodyOf Tryz.f110
abbrev f110R:=rK Tryz.f110
abbrev f110C:=codeP Tryz.env 110 (Tryz.env.kp 110)
def f110j1 (Q:AV→St→Prop) (t3 t0:AV) (s:St):Prop :=
 Bnd (mkS Tryz.ty 22 t3 t3 (s.nx + 1) (adv s 3)) fun r20 =>
 Bnd (bt .copy #[22,22] [r20.1,t0] (r20.2.nx + 2) (adv r20.2 3)) fun r23 =>
 Q r20.1 (adv r23.2 2)
def f110l1s (Q:AV→St→Prop) (ih1:AV→AV→St→Prop) (t0 t3:AV) (s:St):Prop :=
 Bnd (bn .gtr 3 t3 (.int .i64 0)) fun t8 =>
 Gd (wantV t8 true) (adv s 10) (fun k=>k t0 (adv s 10)) fun t10 s1 =>
 Gd (wantV t8 true) s1 (fun k=>k t3 s1) fun t11 s2 =>
 Gd (wantV t8 true) s2 (fun k=>Bnd (bn .sub 3 t11 (.int .i64 1)) fun v=>k v s2) fun t12 s3 =>
 Gd (wantV t8 true) s3 (fun k=>Bnd (ixS 1 t10 t12) fun v=>k v s3) fun t13 s4 =>
 Gd (wantV t8 true) s4 (fun k=>Bnd (ld 1 false t13 s4) fun v=>k v s4) fun t14 s5 =>
 Gd (wantV t8 true) s5 (fun k=>Bnd (bn .eql 211 t14 (.int .u32 0)) fun v=>k v s5) fun t15 s6 =>
 Bnd (pickV t8 t15 (.bool false)) fun t16 =>
 IfP t16
 (Bnd (bn .sub 3 t3 (.int .i64 1)) fun t18 =>
 ih1 t0 t18 (adv s6 3))
 (f110j1 Q t3 t0 s6)
def f110l1 (Q:AV→St→Prop) (n:Nat):AV→AV→St→Prop:=Nat.rec (motive:=fun _=>AV→AV→St→Prop) (fun _ _ _=>False) (fun _ ih=>f110l1s Q ih) n
theorem f110j1_eq (Q:AV→St→Prop):f110C (sub f110B [Y,Y,Y]) (f110R Q) (fun _ _ _=>False) (f110R Q) = (fun g s=>f110j1 Q (g 3) (g 0) s) :=
 Eq.trans rfl (by kernel_rfl)
theorem f110l1_eq (Q:AV→St→Prop) (kN:Kt):f110C (sub f110B [Y,Y,N,N]) kN (fun i=>cond (Nat.beq i 0) (fun g s=>f110j1 Q (g 3) (g 0) s) ((fun _ _ _=>False) i)) (f110R Q) = fun g s=>∃ n,(fun (n:Nat) (g:Gf) (s:St)=>f110l1 Q n (g 0) (g 3) s) n g s :=
 loop_eq (L:=fun (n:Nat) (g:Gf) (s:St)=>f110l1 Q n (g 0) (g 3) s) (by kernel_rfl:(sub f110B [Y,Y,N,N]) = .loop (sub f110B [Y,Y,N,N,N])) (by kernel_rfl) (fun n1=>Eq.trans (seq_eq (by kernel_rfl:(sub f110B [Y,Y,N,N,N]) = .seq (sub f110B [Y,Y,N,N,N,N]) (sub f110B [Y,Y,N,N,N,Y])) (block_eq (by kernel_rfl:(sub f110B [Y,Y,N,N,N,Y]) = .block 1 (sub f110B [Y,Y,N,N,N,Y,N])) rfl) rfl) (by kernel_rfl))
def f110 (Q:AV→St→Prop) (t0:AV) (s:St):Prop :=
 Bnd (bt .len #[22] [t0] (s.nx + 2) (adv s 4)) fun r6 =>
 ∃ n,f110l1 Q n t0 r6.1 r6.2
theorem f110_run (t0:AV) (s:St) {Q:AV→St→Prop} (h:f110 Q t0 s):∃ r s',WideC Tryz.env 110 [t0] s r s'∧Q r s' :=
 wide_ofA (h:=110) (fn:=Tryz.f110) (c:=sub f110B []) (show f110C (sub f110B []) (f110R Q) (fun _ _ _=>False) (f110R Q) = _ from (seq_eq (by kernel_rfl:(sub f110B []) = .seq (sub f110B [N]) (sub f110B [Y])) (seq_eq (by kernel_rfl:(sub f110B [Y]) = .seq (sub f110B [Y,N]) (sub f110B [Y,Y])) (seq_eq (by kernel_rfl:(sub f110B [Y,Y]) = .seq (sub f110B [Y,Y,N]) (sub f110B [Y,Y,Y])) (f110j1_eq Q) (block_eq (by kernel_rfl:(sub f110B [Y,Y,N]) = .block 0 (sub f110B [Y,Y,N,N])) (f110l1_eq Q _))) rfl) rfl)) h
abbrev f111B:Code:=bodyOf Tryz.f111
abbrev f111R:=rK Tryz.f111
abbrev f111C:=codeP Tryz.env 111 (Tryz.env.kp 111)
def f111j1 (Q:AV→St→Prop) (t6 t7:AV) (s:St):Prop :=
 CallPu Tryz.env 110 [t6] (adv s 5) fun t38 s1 =>
 Q (.tup [t38,t7]) s1
def f111j2 (Q:AV→St→Prop) (ih1:AV→AV→AV→AV→AV→St→Prop) (t8 t0 t1 t6 t7:AV) (s:St):Prop :=
 Bnd (bn .sub 3 t8 (.int .i64 1)) fun t18 =>
 ih1 t0 t1 t6 t7 t18 (adv s 3)
def f111l1s (Q:AV→St→Prop) (ih1:AV→AV→AV→AV→AV→St→Prop) (t0 t1 t6 t7 t8:AV) (s:St):Prop :=
 Bnd (bn .geq 3 t8 (.int .i64 0)) fun t16 =>
 IfP t16
 (Bnd (bn .shl 159 t7 (.int .u64 32)) fun t20 =>
 Bnd (ixS 1 t0 t8) fun t23 =>
 Bnd (ld 1 false t23 (adv s 11)) fun t24 =>
 Bnd (cv 211 159 t24 (adv s 11)) fun t25 =>
 Bnd (bn .or 159 t20 t25) fun t26 =>
 Bnd (bn .quo 159 t26 t1) fun t31 =>
 Bnd (cv 159 211 t31 (adv s 19)) fun t32 =>
 Bnd (ixS 1 t6 t8) fun t33 =>
 Bnd (sto 1 t33 t32 (adv s 19)) fun s1 =>
 Bnd (bn .rem 159 t26 t1) fun t36 =>
 f111j2 Q ih1 t8 t0 t1 t6 t36 (adv s1 4))
 (f111j1 Q t6 t7 (adv s 2))
def f111l1 (Q:AV→St→Prop) (n:Nat):AV→AV→AV→AV→AV→St→Prop:=Nat.rec (motive:=fun _=>AV→AV→AV→AV→AV→St→Prop) (fun _ _ _ _ _ _=>False) (fun _ ih=>f111l1s Q ih) n
theorem f111j1_eq (Q:AV→St→Prop):f111C (sub f111B [Y,Y,Y,Y]) (f111R Q) (fun _ _ _=>False) (f111R Q) = (fun g s=>f111j1 Q (g 6) (g 7) s) :=
 Eq.trans rfl (by kernel_rfl)
theorem f111j2_eq (Q:AV→St→Prop) (n1:Nat):f111C (sub f111B [Y,Y,Y,N,Y,N,N,Y,Y]) (fun g s=>(fun (n:Nat) (g:Gf) (s:St)=>f111l1 Q n (g 0) (g 1) (g 6) (g 7) (g 8) s) n1 (fun k=>cond (bitOf (Tryz.env.kp 111) k) (g k) .undef) s) (fun i=>cond (Nat.beq i 0) (fun g s=>f111j1 Q (g 6) (g 7) s) ((fun _ _ _=>False) i)) (f111R Q) = (fun g s=>f111j2 Q (f111l1 Q n1) (g 8) (g 0) (g 1) (g 6) (g 7) s) :=
 Eq.trans rfl (by kernel_rfl)
theorem f111l1_eq (Q:AV→St→Prop) (kN:Kt):f111C (sub f111B [Y,Y,Y,N,Y,N]) kN (fun i=>cond (Nat.beq i 0) (fun g s=>f111j1 Q (g 6) (g 7) s) ((fun _ _ _=>False) i)) (f111R Q) = fun g s=>∃ n,(fun (n:Nat) (g:Gf) (s:St)=>f111l1 Q n (g 0) (g 1) (g 6) (g 7) (g 8) s) n g s :=
 loop_eq (L:=fun (n:Nat) (g:Gf) (s:St)=>f111l1 Q n (g 0) (g 1) (g 6) (g 7) (g 8) s) (by kernel_rfl:(sub f111B [Y,Y,Y,N,Y,N]) = .loop (sub f111B [Y,Y,Y,N,Y,N,N])) (by kernel_rfl) (fun n1=>Eq.trans (seq_eq (by kernel_rfl:(sub f111B [Y,Y,Y,N,Y,N,N]) = .seq (sub f111B [Y,Y,Y,N,Y,N,N,N]) (sub f111B [Y,Y,Y,N,Y,N,N,Y])) (seq_eq (by kernel_rfl:(sub f111B [Y,Y,Y,N,Y,N,N,Y]) = .seq (sub f111B [Y,Y,Y,N,Y,N,N,Y,N]) (sub f111B [Y,Y,Y,N,Y,N,N,Y,Y])) (f111j2_eq Q n1) (block_eq (by kernel_rfl:(sub f111B [Y,Y,Y,N,Y,N,N,Y,N]) = .block 1 (sub f111B [Y,Y,Y,N,Y,N,N,Y,N,N])) rfl)) rfl) (by kernel_rfl))
def f111 (Q:AV→St→Prop) (t0 t1:AV) (s:St):Prop :=
 Bnd (bt .len #[22] [t0] (s.nx + 3) (adv s 6)) fun r10 =>
 Bnd (mkS Tryz.ty 22 r10.1 r10.1 (s.nx + 4) r10.2) fun r11 =>
 Bnd (bt .len #[22] [t0] (r11.2.nx + 2) (adv r11.2 5)) fun r13 =>
 Bnd (bn .sub 3 r13.1 (.int .i64 1)) fun t14 =>
 ∃ n,f111l1 Q n t0 t1 r11.1 (.int .u64 0) t14 r13.2
theorem f111_run (t0 t1:AV) (s:St) {Q:AV→St→Prop} (h:f111 Q t0 t1 s):∃ r s',WideC Tryz.env 111 [t0,t1] s r s'∧Q r s' :=
 wide_ofA (h:=111) (fn:=Tryz.f111) (c:=sub f111B []) (show f111C (sub f111B []) (f111R Q) (fun _ _ _=>False) (f111R Q) = _ from (seq_eq (by kernel_rfl:(sub f111B []) = .seq (sub f111B [N]) (sub f111B [Y])) (seq_eq (by kernel_rfl:(sub f111B [Y]) = .seq (sub f111B [Y,N]) (sub f111B [Y,Y])) (seq_eq (by kernel_rfl:(sub f111B [Y,Y]) = .seq (sub f111B [Y,Y,N]) (sub f111B [Y,Y,Y])) (seq_eq (by kernel_rfl:(sub f111B [Y,Y,Y]) = .seq (sub f111B [Y,Y,Y,N]) (sub f111B [Y,Y,Y,Y])) (f111j1_eq Q) (seq_eq (by kernel_rfl:(sub f111B [Y,Y,Y,N]) = .seq (sub f111B [Y,Y,Y,N,N]) (sub f111B [Y,Y,Y,N,Y])) (block_eq (by kernel_rfl:(sub f111B [Y,Y,Y,N,Y]) = .block 0 (sub f111B [Y,Y,Y,N,Y,N])) (f111l1_eq Q _)) rfl)) rfl) rfl) rfl)) h
abbrev f112B:Code:=bodyOf Tryz.f112
abbrev f112R:=rK Tryz.f112
abbrev f112C:=codeP Tryz.env 112 (Tryz.env.kp 112)
def f112j1 (Q:AV→St→Prop) (t3:AV) (s:St):Prop :=
 Bnd (slc 223 t3 none none none (adv s 3)) fun t17 =>
 Bnd (cv 161 9 t17 (adv s 3)) fun t18 =>
 Q t18 (adv s 3)
def f112j2 (Q:AV→St→Prop) (ih1:AV→AV→AV→St→Prop) (t4 t0 t3:AV) (s:St):Prop :=
 Bnd (bn .sub 3 t4 (.int .i64 1)) fun t8 =>
 ih1 t0 t3 t8 (adv s 3)
def f112l1s (Q:AV→St→Prop) (ih1:AV→AV→AV→St→Prop) (t0 t3 t4:AV) (s:St):Prop :=
 Bnd (bn .geq 3 t4 (.int .i64 0)) fun t6 =>
 IfP t6
 (Bnd (bn .rem 159 t0 (.int .u64 10)) fun t11 =>
 Bnd (bn .add 159 (.int .u64 48) t11) fun t12 =>
 Bnd (cv 159 5 t12 (adv s 9)) fun t13 =>
 Bnd (ixA 9 1 t3 t4) fun t14 =>
 Bnd (sto 1 t14 t13 (adv s 9)) fun s1 =>
 Bnd (bn .quo 159 t0 (.int .u64 10)) fun t16 =>
 f112j2 Q ih1 t4 t16 t3 (adv s1 3))
 (f112j1 Q t3 (adv s 2))
def f112l1 (Q:AV→St→Prop) (n:Nat):AV→AV→AV→St→Prop:=Nat.rec (motive:=fun _=>AV→AV→AV→St→Prop) (fun _ _ _ _=>False) (fun _ ih=>f112l1s Q ih) n
theorem f112j1_eq (Q:AV→St→Prop):f112C (sub f112B [Y,Y,Y]) (f112R Q) (fun _ _ _=>False) (f112R Q) = (fun g s=>f112j1 Q (g 3) s) :=
 Eq.trans rfl (by kernel_rfl)
theorem f112j2_eq (Q:AV→St→Prop) (n1:Nat):f112C (sub f112B [Y,Y,N,Y,N,N,Y,Y]) (fun g s=>(fun (n:Nat) (g:Gf) (s:St)=>f112l1 Q n (g 0) (g 3) (g 4) s) n1 (fun k=>cond (bitOf (Tryz.env.kp 112) k) (g k) .undef) s) (fun i=>cond (Nat.beq i 0) (fun g s=>f112j1 Q (g 3) s) ((fun _ _ _=>False) i)) (f112R Q) = (fun g s=>f112j2 Q (f112l1 Q n1) (g 4) (g 0) (g 3) s) :=
 Eq.trans rfl (by kernel_rfl)
theorem f112l1_eq (Q:AV→St→Prop) (kN:Kt):f112C (sub f112B [Y,Y,N,Y,N]) kN (fun i=>cond (Nat.beq i 0) (fun g s=>f112j1 Q (g 3) s) ((fun _ _ _=>False) i)) (f112R Q) = fun g s=>∃ n,(fun (n:Nat) (g:Gf) (s:St)=>f112l1 Q n (g 0) (g 3) (g 4) s) n g s :=
 loop_eq (L:=fun (n:Nat) (g:Gf) (s:St)=>f112l1 Q n (g 0) (g 3) (g 4) s) (by kernel_rfl:(sub f112B [Y,Y,N,Y,N]) = .loop (sub f112B [Y,Y,N,Y,N,N])) (by kernel_rfl) (fun n1=>Eq.trans (seq_eq (by kernel_rfl:(sub f112B [Y,Y,N,Y,N,N]) = .seq (sub f112B [Y,Y,N,Y,N,N,N]) (sub f112B [Y,Y,N,Y,N,N,Y])) (seq_eq (by kernel_rfl:(sub f112B [Y,Y,N,Y,N,N,Y]) = .seq (sub f112B [Y,Y,N,Y,N,N,Y,N]) (sub f112B [Y,Y,N,Y,N,N,Y,Y])) (f112j2_eq Q n1) (block_eq (by kernel_rfl:(sub f112B [Y,Y,N,Y,N,N,Y,N]) = .block 1 (sub f112B [Y,Y,N,Y,N,N,Y,N,N])) rfl)) rfl) (by kernel_rfl))
def f112 (Q:AV→St→Prop) (t0:AV) (s:St):Prop :=
 Bnd (zr 223) fun z3 =>
 ∃ n,f112l1 Q n t0 (.ptr (s.nx + 1) 0) (.int .i64 8) (adv ((adv s 2).set (s.nx + 1) (some (.cells z3.cells 223 true true))) 1)
theorem f112_run (t0:AV) (s:St) {Q:AV→St→Prop} (h:f112 Q t0 s):∃ r s',WideC Tryz.env 112 [t0] s r s'∧Q r s' :=
 wide_ofA (h:=112) (fn:=Tryz.f112) (c:=sub f112B []) (show f112C (sub f112B []) (f112R Q) (fun _ _ _=>False) (f112R Q) = _ from (seq_eq (by kernel_rfl:(sub f112B []) = .seq (sub f112B [N]) (sub f112B [Y])) (seq_eq (by kernel_rfl:(sub f112B [Y]) = .seq (sub f112B [Y,N]) (sub f112B [Y,Y])) (seq_eq (by kernel_rfl:(sub f112B [Y,Y]) = .seq (sub f112B [Y,Y,N]) (sub f112B [Y,Y,Y])) (f112j1_eq Q) (seq_eq (by kernel_rfl:(sub f112B [Y,Y,N]) = .seq (sub f112B [Y,Y,N,N]) (sub f112B [Y,Y,N,Y])) (block_eq (by kernel_rfl:(sub f112B [Y,Y,N,Y]) = .block 0 (sub f112B [Y,Y,N,Y,N])) (f112l1_eq Q _)) rfl)) rfl) rfl)) h
abbrev f59B:Code:=bodyOf Tryz.f59
abbrev f59R:=rK Tryz.f59
abbrev f59C:=codeP Tryz.env 59 (Tryz.env.kp 59)
def f59j1 (Q:AV→St→Prop) (t3:AV) (s:St):Prop :=
 CallPu Tryz.env 113 [t3,(.str [48])] (adv s 3) fun t22 s1 =>
 Bnd (bn .eql 9 t22 (.str [])) fun t24 =>
 IfP t24
 (Q (.str [48]) (adv s1 3))
 (Q t22 (adv s1 4))
def f59l1s (Q:AV→St→Prop) (ih1:AV→AV→St→Prop) (t0 t3:AV) (s:St):Prop :=
 Bnd (bt .len #[22] [t0] (s.nx + 1) (adv s 3)) fun r9 =>
 Bnd (bn .gtr 3 r9.1 (.int .i64 0)) fun t10 =>
 IfP t10
 (CallPu Tryz.env 111 [t0,(.int .u64 1000000000)] (adv r9.2 7) fun t13 s1 =>
 Bnd (extr t13 0) fun t14 =>
 Bnd (extr t13 1) fun t15 =>
 CallPu Tryz.env 112 [t15] (adv s1 7) fun t17 s2 =>
 Bnd (bn .add 9 t17 t3) fun t19 =>
 ih1 t14 t19 s2)
 (f59j1 Q t3 r9.2)
def f59l1 (Q:AV→St→Prop) (n:Nat):AV→AV→St→Prop:=Nat.rec (motive:=fun _=>AV→AV→St→Prop) (fun _ _ _=>False) (fun _ ih=>f59l1s Q ih) n
theorem f59j1_eq (Q:AV→St→Prop):f59C (sub f59B [Y,Y,Y,Y]) (f59R Q) (fun _ _ _=>False) (f59R Q) = (fun g s=>f59j1 Q (g 3) s) :=
 Eq.trans rfl (by kernel_rfl)
theorem f59l1_eq (Q:AV→St→Prop) (kN:Kt):f59C (sub f59B [Y,Y,Y,N,N]) kN (fun i=>cond (Nat.beq i 0) (fun g s=>f59j1 Q (g 3) s) ((fun _ _ _=>False) i)) (f59R Q) = fun g s=>∃ n,(fun (n:Nat) (g:Gf) (s:St)=>f59l1 Q n (g 0) (g 3) s) n g s :=
 loop_eq (L:=fun (n:Nat) (g:Gf) (s:St)=>f59l1 Q n (g 0) (g 3) s) (by kernel_rfl:(sub f59B [Y,Y,Y,N,N]) = .loop (sub f59B [Y,Y,Y,N,N,N])) (by kernel_rfl) (fun n1=>Eq.trans (seq_eq (by kernel_rfl:(sub f59B [Y,Y,Y,N,N,N]) = .seq (sub f59B [Y,Y,Y,N,N,N,N]) (sub f59B [Y,Y,Y,N,N,N,Y])) (block_eq (by kernel_rfl:(sub f59B [Y,Y,Y,N,N,N,Y]) = .block 1 (sub f59B [Y,Y,Y,N,N,N,Y,N])) rfl) rfl) (by kernel_rfl))
def f59 (Q:AV→St→Prop) (t0:AV) (s:St):Prop :=
 CallPu Tryz.env 110 [t0] (adv s 4) fun t7 s1 =>
 ∃ n,f59l1 Q n t7 (.str []) (adv s1 1)
theorem f59_run (t0:AV) (s:St) {Q:AV→St→Prop} (h:f59 Q t0 s):∃ r s',WideC Tryz.env 59 [t0] s r s'∧Q r s' :=
 wide_ofA (h:=59) (fn:=Tryz.f59) (c:=sub f59B []) (show f59C (sub f59B []) (f59R Q) (fun _ _ _=>False) (f59R Q) = _ from (seq_eq (by kernel_rfl:(sub f59B []) = .seq (sub f59B [N]) (sub f59B [Y])) (seq_eq (by kernel_rfl:(sub f59B [Y]) = .seq (sub f59B [Y,N]) (sub f59B [Y,Y])) (seq_eq (by kernel_rfl:(sub f59B [Y,Y]) = .seq (sub f59B [Y,Y,N]) (sub f59B [Y,Y,Y])) (seq_eq (by kernel_rfl:(sub f59B [Y,Y,Y]) = .seq (sub f59B [Y,Y,Y,N]) (sub f59B [Y,Y,Y,Y])) (f59j1_eq Q) (block_eq (by kernel_rfl:(sub f59B [Y,Y,Y,N]) = .block 0 (sub f59B [Y,Y,Y,N,N])) (f59l1_eq Q _))) rfl) rfl) rfl)) h
abbrev f113B:Code:=bodyOf Tryz.f113
abbrev f113R:=rK Tryz.f113
abbrev f113C:=codeP Tryz.env 113 (Tryz.env.kp 113)
def f113 (Q:AV→St→Prop) (t0 t1:AV) (s:St):Prop :=
 Bnd (bn .eql 9 t0 (.str [])) fun t8 =>
 Gd (wantV t8 false) (adv s 7) (fun k=>k t1 (adv s 7)) fun t10 s1 =>
 Gd (wantV t8 false) s1 (fun k=>Bnd (bn .eql 9 t10 (.str [])) fun v=>k v s1) fun t11 s2 =>
 Bnd (pickV t8 (.bool true) t11) fun t12 =>
 IfP t12
 (Q t0 (adv s2 2))
 (Bnd (bt .len #[9] [t1] (s2.nx + 1) (adv s2 8)) fun r15 =>
 Bnd (bn .eql 3 r15.1 (.int .i64 1)) fun t16 =>
 Gd (wantV t16 true) r15.2 (fun k=>k t1 r15.2) fun t18 s3 =>
 Gd (wantV t16 true) s3 (fun k=>Bnd (ixa 9 t18 (.int .i64 0)) fun v=>k v s3) fun t19 s4 =>
 Gd (wantV t16 true) s4 (fun k=>Bnd (bn .lss 5 t19 (.int .u8 128)) fun v=>k v s4) fun t20 s5 =>
 Bnd (pickV t16 t20 (.bool false)) fun t21 =>
 IfP t21
 (Bnd (ixa 9 t1 (.int .i64 0)) fun t24 =>
 CallPu Tryz.env 159 [t0,t24] (adv s5 5) fun t25 s6 =>
 Q t25 s6)
 (CallPu Tryz.env 160 [t1] (adv s5 8) fun t28 s7 =>
 Bnd (extr t28 0) fun t29 =>
 Bnd (extr t28 1) fun t30 =>
 Bnd (zr 226) fun z5 =>
 Bnd (sto 256 (.ptr (s5.nx + 5) 0) t29 (s7.set (s5.nx + 5) (some (.cells z5.cells 226 true true)))) fun s8 =>
 IfP t30
 (CallWi Tryz.env 161 [t0,(.ptr (s5.nx + 5) 0)] (adv s8 4) fun t33 s9 =>
 Q t33 s9)
 (CallPu Tryz.env 162 [t0,t1] (adv s8 5) fun t36 s10 =>
 Q t36 s10)))
theorem f113_run (t0 t1:AV) (s:St) {Q:AV→St→Prop} (h:f113 Q t0 t1 s):∃ r s',WideC Tryz.env 113 [t0,t1] s r s'∧Q r s' :=
 wide_ofA (h:=113) (fn:=Tryz.f113) (c:=sub f113B []) (show f113C (sub f113B []) (f113R Q) (fun _ _ _=>False) (f113R Q) = _ from rfl) h
abbrev f159B:Code:=bodyOf Tryz.f159
abbrev f159R:=rK Tryz.f159
abbrev f159C:=codeP Tryz.env 159 (Tryz.env.kp 159)
def f159j1 (Q:AV→St→Prop) (t0:AV) (s:St):Prop :=
 Q t0 (adv s 2)
def f159l1s (Q:AV→St→Prop) (ih1:AV→AV→St→Prop) (t0 t1:AV) (s:St):Prop :=
 Bnd (bt .len #[9] [t0] (s.nx + 1) (adv s 9)) fun r6 =>
 Bnd (bn .gtr 3 r6.1 (.int .i64 0)) fun t7 =>
 Gd (wantV t7 true) r6.2 (fun k=>k t0 r6.2) fun t9 s1 =>
 Gd (wantV t7 true) s1 (fun k=>Bnd (ixa 9 t9 (.int .i64 0)) fun v=>k v s1) fun t10 s2 =>
 Gd (wantV t7 true) s2 (fun k=>k t1 s2) fun t11 s3 =>
 Gd (wantV t7 true) s3 (fun k=>Bnd (bn .eql 5 t10 t11) fun v=>k v s3) fun t12 s4 =>
 Bnd (pickV t7 t12 (.bool false)) fun t13 =>
 IfP t13
 (Bnd (slc 9 t0 (some (.int .i64 1)) none none (adv s4 3)) fun t15 =>
 ih1 t15 t1 (adv s4 3))
 (f159j1 Q t0 s4)
def f159l1 (Q:AV→St→Prop) (n:Nat):AV→AV→St→Prop:=Nat.rec (motive:=fun _=>AV→AV→St→Prop) (fun _ _ _=>False) (fun _ ih=>f159l1s Q ih) n
theorem f159j1_eq (Q:AV→St→Prop):f159C (sub f159B [Y,Y]) (f159R Q) (fun _ _ _=>False) (f159R Q) = (fun g s=>f159j1 Q (g 0) s) :=
 Eq.trans rfl (by kernel_rfl)
theorem f159l1_eq (Q:AV→St→Prop) (kN:Kt):f159C (sub f159B [Y,N,N]) kN (fun i=>cond (Nat.beq i 0) (fun g s=>f159j1 Q (g 0) s) ((fun _ _ _=>False) i)) (f159R Q) = fun g s=>∃ n,(fun (n:Nat) (g:Gf) (s:St)=>f159l1 Q n (g 0) (g 1) s) n g s :=
 loop_eq (L:=fun (n:Nat) (g:Gf) (s:St)=>f159l1 Q n (g 0) (g 1) s) (by kernel_rfl:(sub f159B [Y,N,N]) = .loop (sub f159B [Y,N,N,N])) (by kernel_rfl) (fun n1=>Eq.trans (seq_eq (by kernel_rfl:(sub f159B [Y,N,N,N]) = .seq (sub f159B [Y,N,N,N,N]) (sub f159B [Y,N,N,N,Y])) (block_eq (by kernel_rfl:(sub f159B [Y,N,N,N,Y]) = .block 1 (sub f159B [Y,N,N,N,Y,N])) rfl) rfl) (by kernel_rfl))
def f159 (Q:AV→St→Prop) (t0 t1:AV) (s:St):Prop :=
 ∃ n,f159l1 Q n t0 t1 (adv s 1)
theorem f159_run (t0 t1:AV) (s:St) {Q:AV→St→Prop} (h:f159 Q t0 t1 s):∃ r s',WideC Tryz.env 159 [t0,t1] s r s'∧Q r s' :=
 wide_ofA (h:=159) (fn:=Tryz.f159) (c:=sub f159B []) (show f159C (sub f159B []) (f159R Q) (fun _ _ _=>False) (f159R Q) = _ from (seq_eq (by kernel_rfl:(sub f159B []) = .seq (sub f159B [N]) (sub f159B [Y])) (seq_eq (by kernel_rfl:(sub f159B [Y]) = .seq (sub f159B [Y,N]) (sub f159B [Y,Y])) (f159j1_eq Q) (block_eq (by kernel_rfl:(sub f159B [Y,N]) = .block 0 (sub f159B [Y,N,N])) (f159l1_eq Q _))) rfl)) h
abbrev f127B:Code:=bodyOf Tryz.f127
abbrev f127R:=rK Tryz.f127
abbrev f127C:=codeP Tryz.env 127 (Tryz.env.kp 127)
def f127j1 (Q:AV→St→Prop) (t4:AV) (s:St):Prop :=
 CallPu Tryz.env 110 [t4] (adv s 4) fun t46 s1 =>
 Q (.tup [t46,(.int .i64 0)]) s1
def f127j2 (Q:AV→St→Prop) (ih1:AV→AV→AV→AV→St→Prop) (t26 t4 t24 t25:AV) (s:St):Prop :=
 Bnd (bn .add 3 t26 (.int .i64 1)) fun t44 =>
 ih1 t4 t24 t25 t44 (adv s 2)
def f127l1s (Q:AV→St→Prop) (ih1:AV→AV→AV→AV→St→Prop) (t4 t24 t25 t26:AV) (s:St):Prop :=
 Bnd (bn .lss 3 t26 t25) fun t27 =>
 IfP t27
 (Bnd (ixS 1 t24 t26) fun t28 =>
 Bnd (ld 1 false t28 (adv s 4)) fun t29 =>
 Bnd (bn .lss 5 t29 (.int .u8 48)) fun t31 =>
 Gd (wantV t31 false) (adv s 10) (fun k=>k t29 (adv s 10)) fun t33 s1 =>
 Gd (wantV t31 false) s1 (fun k=>Bnd (bn .gtr 5 t33 (.int .u8 57)) fun v=>k v s1) fun t34 s2 =>
 Bnd (pickV t31 (.bool true) t34) fun t35 =>
 IfP t35
 (Q (.tup [.nils,(.int .i64 8)]) (adv s2 2))
 (Bnd (bsl 22 1 [(0,(.int .u32 10))]) fun t37 =>
 CallPu Tryz.env 180 [t4,t37] (adv s2 9) fun t38 s3 =>
 Bnd (bn .sub 5 t29 (.int .u8 48)) fun t40 =>
 Bnd (cv 5 211 t40 s3) fun t41 =>
 Bnd (bsl 22 1 [(0,t41)]) fun t42 =>
 CallPu Tryz.env 179 [t38,t42] s3 fun t43 s4 =>
 f127j2 Q ih1 t26 t43 t24 t25 s4))
 (f127j1 Q t4 (adv s 1))
def f127l1 (Q:AV→St→Prop) (n:Nat):AV→AV→AV→AV→St→Prop:=Nat.rec (motive:=fun _=>AV→AV→AV→AV→St→Prop) (fun _ _ _ _ _=>False) (fun _ ih=>f127l1s Q ih) n
theorem f127j1_eq (Q:AV→St→Prop):f127C (sub f127B [Y,Y,Y,Y]) (f127R Q) (fun _ _ _=>False) (f127R Q) = (fun g s=>f127j1 Q (g 4) s) :=
 Eq.trans rfl (by kernel_rfl)
theorem f127j2_eq (Q:AV→St→Prop) (n1:Nat):f127C (sub f127B [Y,Y,Y,N,Y,N,N,Y,Y,Y]) (fun g s=>(fun (n:Nat) (g:Gf) (s:St)=>f127l1 Q n (g 4) (g 24) (g 25) (g 26) s) n1 (fun k=>cond (bitOf (Tryz.env.kp 127) k) (g k) .undef) s) (fun i=>cond (Nat.beq i 0) (fun g s=>f127j1 Q (g 4) s) ((fun _ _ _=>False) i)) (f127R Q) = (fun g s=>f127j2 Q (f127l1 Q n1) (g 26) (g 4) (g 24) (g 25) s) :=
 Eq.trans rfl (by kernel_rfl)
theorem f127l1_eq (Q:AV→St→Prop) (kN:Kt):f127C (sub f127B [Y,Y,Y,N,Y,N]) kN (fun i=>cond (Nat.beq i 0) (fun g s=>f127j1 Q (g 4) s) ((fun _ _ _=>False) i)) (f127R Q) = fun g s=>∃ n,(fun (n:Nat) (g:Gf) (s:St)=>f127l1 Q n (g 4) (g 24) (g 25) (g 26) s) n g s :=
 loop_eq (L:=fun (n:Nat) (g:Gf) (s:St)=>f127l1 Q n (g 4) (g 24) (g 25) (g 26) s) (by kernel_rfl:(sub f127B [Y,Y,Y,N,Y,N]) = .loop (sub f127B [Y,Y,Y,N,Y,N,N])) (by kernel_rfl) (fun n1=>Eq.trans (seq_eq (by kernel_rfl:(sub f127B [Y,Y,Y,N,Y,N,N]) = .seq (sub f127B [Y,Y,Y,N,Y,N,N,N]) (sub f127B [Y,Y,Y,N,Y,N,N,Y])) (seq_eq (by kernel_rfl:(sub f127B [Y,Y,Y,N,Y,N,N,Y]) = .seq (sub f127B [Y,Y,Y,N,Y,N,N,Y,N]) (sub f127B [Y,Y,Y,N,Y,N,N,Y,Y])) (seq_eq (by kernel_rfl:(sub f127B [Y,Y,Y,N,Y,N,N,Y,Y]) = .seq (sub f127B [Y,Y,Y,N,Y,N,N,Y,Y,N]) (sub f127B [Y,Y,Y,N,Y,N,N,Y,Y,Y])) (f127j2_eq Q n1) (block_eq (by kernel_rfl:(sub f127B [Y,Y,Y,N,Y,N,N,Y,Y,N]) = .block 1 (sub f127B [Y,Y,Y,N,Y,N,N,Y,Y,N,N])) rfl)) rfl) rfl) (by kernel_rfl))
def f127 (Q:AV→St→Prop) (t0:AV) (s:St):Prop :=
 Bnd (bn .eql 9 t0 (.str [])) fun t8 =>
 Gd (wantV t8 false) (adv s 18) (fun k=>k t0 (adv s 18)) fun t10 s1 =>
 Gd (wantV t8 false) s1 (fun k=>Bnd (bt .len #[9] [t10] (s.nx + 6) s1) fun r=>k r.1 r.2) fun t11 s2 =>
 Gd (wantV t8 false) s2 (fun k=>Bnd (bn .gtr 3 t11 (.int .i64 2000)) fun v=>k v s2) fun t12 s3 =>
 Bnd (pickV t8 (.bool true) t12) fun t13 =>
 Gd (wantV t13 false) s3 (fun k=>k t0 s3) fun t15 s4 =>
 Gd (wantV t13 false) s4 (fun k=>Bnd (ixa 9 t15 (.int .i64 0)) fun v=>k v s4) fun t16 s5 =>
 Gd (wantV t13 false) s5 (fun k=>Bnd (bn .eql 5 t16 (.int .u8 48)) fun v=>k v s5) fun t17 s6 =>
 Gd (wantV t13 false) s6 (fun k=>k t17 s6) fun t18 s7 =>
 Gd (wantV t18 true) s7 (fun k=>k t0 s7) fun t19 s8 =>
 Gd (wantV t18 true) s8 (fun k=>Bnd (bn .neq 9 t19 (.str [48])) fun v=>k v s8) fun t20 s9 =>
 Gd (wantV t13 false) s9 (fun k=>Bnd (pickV t18 t20 (.bool false)) fun v=>k v s9) fun t21 s10 =>
 Bnd (pickV t13 (.bool true) t21) fun t22 =>
 IfP t22
 (Q (.tup [.nils,(.int .i64 8)]) (adv s10 2))
 (Bnd (cv 9 161 t0 (adv s10 5)) fun t24 =>
 Bnd (bt .len #[161] [t24] (s10.nx + 3) (adv s10 5)) fun r25 =>
 ∃ n,f127l1 Q n .nils t24 r25.1 (.int .i64 0) r25.2)
theorem f127_run (t0:AV) (s:St) {Q:AV→St→Prop} (h:f127 Q t0 s):∃ r s',WideC Tryz.env 127 [t0] s r s'∧Q r s' :=
 wide_ofA (h:=127) (fn:=Tryz.f127) (c:=sub f127B []) (show f127C (sub f127B []) (f127R Q) (fun _ _ _=>False) (f127R Q) = _ from (seq_eq (by kernel_rfl:(sub f127B []) = .seq (sub f127B [N]) (sub f127B [Y])) (seq_eq (by kernel_rfl:(sub f127B [Y]) = .seq (sub f127B [Y,N]) (sub f127B [Y,Y])) (seq_eq (by kernel_rfl:(sub f127B [Y,Y]) = .seq (sub f127B [Y,Y,N]) (sub f127B [Y,Y,Y])) (seq_eq (by kernel_rfl:(sub f127B [Y,Y,Y]) = .seq (sub f127B [Y,Y,Y,N]) (sub f127B [Y,Y,Y,Y])) (f127j1_eq Q) (seq_eq (by kernel_rfl:(sub f127B [Y,Y,Y,N]) = .seq (sub f127B [Y,Y,Y,N,N]) (sub f127B [Y,Y,Y,N,Y])) (block_eq (by kernel_rfl:(sub f127B [Y,Y,Y,N,Y]) = .block 0 (sub f127B [Y,Y,Y,N,Y,N])) (f127l1_eq Q _)) rfl)) rfl) rfl) rfl)) h
abbrev f214B:Code:=bodyOf Tryz.f214
abbrev f214R:=rK Tryz.f214
abbrev f214C:=codeP Tryz.env 214 (Tryz.env.kp 214)
def f214 (Q:AV→St→Prop) (t0 t1:AV) (s:St):Prop :=
 Bnd (bt .len #[22] [t0] (s.nx + 3) (adv s 5)) fun r7 =>
 Bnd (bn .geq 3 t1 r7.1) fun t8 =>
 IfP t8
 (Q (.int .u64 0) (adv r7.2 1))
 (Bnd (ixS 1 t0 t1) fun t11 =>
 Bnd (ld 1 false t11 (adv r7.2 6)) fun t12 =>
 Bnd (cv 211 159 t12 (adv r7.2 6)) fun t13 =>
 Q t13 (adv r7.2 6))
theorem f214_run (t0 t1:AV) (s:St) {Q:AV→St→Prop} (h:f214 Q t0 t1 s):∃ r s',WideC Tryz.env 214 [t0,t1] s r s'∧Q r s' :=
 wide_ofA (h:=214) (fn:=Tryz.f214) (c:=sub f214B []) (show f214C (sub f214B []) (f214R Q) (fun _ _ _=>False) (f214R Q) = _ from rfl) h
abbrev f179B:Code:=bodyOf Tryz.f179
abbrev f179R:=rK Tryz.f179
abbrev f179C:=codeP Tryz.env 179 (Tryz.env.kp 179)
def f179j1 (Q:AV→St→Prop) (t6:AV) (s:St):Prop :=
 CallPu Tryz.env 110 [t6] (adv s 3) fun t39 s1 =>
 Q t39 s1
def f179j2 (Q:AV→St→Prop) (ih1:AV→AV→AV→AV→AV→AV→St→Prop) (t18 t0 t1 t6 t7 t17:AV) (s:St):Prop :=
 Bnd (bn .add 3 t18 (.int .i64 1)) fun t37 =>
 ih1 t0 t1 t6 t7 t17 t37 (adv s 2)
def f179l1s (Q:AV→St→Prop) (ih1:AV→AV→AV→AV→AV→AV→St→Prop) (t0 t1 t6 t7 t17 t18:AV) (s:St):Prop :=
 Bnd (bn .lss 3 t18 t17) fun t19 =>
 IfP t19
 (CallPu Tryz.env 214 [t0,t18] (adv s 13) fun t24 s1 =>
 CallPu Tryz.env 214 [t1,t18] s1 fun t27 s2 =>
 Bnd (bn .add 159 t24 t27) fun t28 =>
 Bnd (bn .add 159 t7 t28) fun t29 =>
 Bnd (cv 159 211 t29 (adv s2 6)) fun t33 =>
 Bnd (ixS 1 t6 t18) fun t34 =>
 Bnd (sto 1 t34 t33 (adv s2 6)) fun s3 =>
 Bnd (bn .shr 159 t29 (.int .u64 32)) fun t36 =>
 f179j2 Q ih1 t18 t0 t1 t6 t36 t17 (adv s3 3))
 (f179j1 Q t6 (adv s 1))
def f179l1 (Q:AV→St→Prop) (n:Nat):AV→AV→AV→AV→AV→AV→St→Prop:=Nat.rec (motive:=fun _=>AV→AV→AV→AV→AV→AV→St→Prop) (fun _ _ _ _ _ _ _=>False) (fun _ ih=>f179l1s Q ih) n
theorem f179j1_eq (Q:AV→St→Prop):f179C (sub f179B [Y,Y,Y,Y,Y]) (f179R Q) (fun _ _ _=>False) (f179R Q) = (fun g s=>f179j1 Q (g 6) s) :=
 Eq.trans rfl (by kernel_rfl)
theorem f179j2_eq (Q:AV→St→Prop) (n1:Nat):f179C (sub f179B [Y,Y,Y,Y,N,Y,N,N,Y,Y,Y]) (fun g s=>(fun (n:Nat) (g:Gf) (s:St)=>f179l1 Q n (g 0) (g 1) (g 6) (g 7) (g 17) (g 18) s) n1 (fun k=>cond (bitOf (Tryz.env.kp 179) k) (g k) .undef) s) (fun i=>cond (Nat.beq i 0) (fun g s=>f179j1 Q (g 6) s) ((fun _ _ _=>False) i)) (f179R Q) = (fun g s=>f179j2 Q (f179l1 Q n1) (g 18) (g 0) (g 1) (g 6) (g 7) (g 17) s) :=
 Eq.trans rfl (by kernel_rfl)
theorem f179l1_eq (Q:AV→St→Prop) (kN:Kt):f179C (sub f179B [Y,Y,Y,Y,N,Y,N]) kN (fun i=>cond (Nat.beq i 0) (fun g s=>f179j1 Q (g 6) s) ((fun _ _ _=>False) i)) (f179R Q) = fun g s=>∃ n,(fun (n:Nat) (g:Gf) (s:St)=>f179l1 Q n (g 0) (g 1) (g 6) (g 7) (g 17) (g 18) s) n g s :=
 loop_eq (L:=fun (n:Nat) (g:Gf) (s:St)=>f179l1 Q n (g 0) (g 1) (g 6) (g 7) (g 17) (g 18) s) (by kernel_rfl:(sub f179B [Y,Y,Y,Y,N,Y,N]) = .loop (sub f179B [Y,Y,Y,Y,N,Y,N,N])) (by kernel_rfl) (fun n1=>Eq.trans (seq_eq (by kernel_rfl:(sub f179B [Y,Y,Y,Y,N,Y,N,N]) = .seq (sub f179B [Y,Y,Y,Y,N,Y,N,N,N]) (sub f179B [Y,Y,Y,Y,N,Y,N,N,Y])) (seq_eq (by kernel_rfl:(sub f179B [Y,Y,Y,Y,N,Y,N,N,Y]) = .seq (sub f179B [Y,Y,Y,Y,N,Y,N,N,Y,N]) (sub f179B [Y,Y,Y,Y,N,Y,N,N,Y,Y])) (seq_eq (by kernel_rfl:(sub f179B [Y,Y,Y,Y,N,Y,N,N,Y,Y]) = .seq (sub f179B [Y,Y,Y,Y,N,Y,N,N,Y,Y,N]) (sub f179B [Y,Y,Y,Y,N,Y,N,N,Y,Y,Y])) (f179j2_eq Q n1) (block_eq (by kernel_rfl:(sub f179B [Y,Y,Y,Y,N,Y,N,N,Y,Y,N]) = .block 1 (sub f179B [Y,Y,Y,Y,N,Y,N,N,Y,Y,N,N])) rfl)) rfl) rfl) (by kernel_rfl))
def f179 (Q:AV→St→Prop) (t0 t1:AV) (s:St):Prop :=
 Bnd (bt .len #[22] [t0] (s.nx + 2) (adv s 8)) fun r10 =>
 Bnd (bt .len #[22] [t1] (s.nx + 4) r10.2) fun r12 =>
 Bnd (bt .max #[3,3] [r10.1,r12.1] (s.nx + 5) r12.2) fun r13 =>
 Bnd (bn .add 3 r13.1 (.int .i64 1)) fun t14 =>
 Bnd (mkS Tryz.ty 22 t14 t14 (r13.2.nx + 1) (adv r13.2 3)) fun r16 =>
 ∃ n,f179l1 Q n t0 t1 r16.1 (.int .u64 0) t14 (.int .i64 0) (adv r16.2 3)
theorem f179_run (t0 t1:AV) (s:St) {Q:AV→St→Prop} (h:f179 Q t0 t1 s):∃ r s',WideC Tryz.env 179 [t0,t1] s r s'∧Q r s' :=
 wide_ofA (h:=179) (fn:=Tryz.f179) (c:=sub f179B []) (show f179C (sub f179B []) (f179R Q) (fun _ _ _=>False) (f179R Q) = _ from (seq_eq (by kernel_rfl:(sub f179B []) = .seq (sub f179B [N]) (sub f179B [Y])) (seq_eq (by kernel_rfl:(sub f179B [Y]) = .seq (sub f179B [Y,N]) (sub f179B [Y,Y])) (seq_eq (by kernel_rfl:(sub f179B [Y,Y]) = .seq (sub f179B [Y,Y,N]) (sub f179B [Y,Y,Y])) (seq_eq (by kernel_rfl:(sub f179B [Y,Y,Y]) = .seq (sub f179B [Y,Y,Y,N]) (sub f179B [Y,Y,Y,Y])) (seq_eq (by kernel_rfl:(sub f179B [Y,Y,Y,Y]) = .seq (sub f179B [Y,Y,Y,Y,N]) (sub f179B [Y,Y,Y,Y,Y])) (f179j1_eq Q) (seq_eq (by kernel_rfl:(sub f179B [Y,Y,Y,Y,N]) = .seq (sub f179B [Y,Y,Y,Y,N,N]) (sub f179B [Y,Y,Y,Y,N,Y])) (block_eq (by kernel_rfl:(sub f179B [Y,Y,Y,Y,N,Y]) = .block 0 (sub f179B [Y,Y,Y,Y,N,Y,N])) (f179l1_eq Q _)) rfl)) rfl) rfl) rfl) rfl)) h
abbrev f180B:Code:=bodyOf Tryz.f180
abbrev f180R:=rK Tryz.f180
abbrev f180C:=codeP Tryz.env 180 (Tryz.env.kp 180)
def f180j1 (Q:AV→St→Prop) (t5:AV) (s:St):Prop :=
 CallPu Tryz.env 110 [t5] (adv s 3) fun t66 s1 =>
 Q t66 s1
def f180j2 (Q:AV→St→Prop) (ih1:AV→AV→AV→AV→AV→St→Prop) (t18 t1 t5 t16 t17:AV) (s:St):Prop :=
 Bnd (bn .add 3 t18 (.int .i64 1)) fun t64 =>
 ih1 t1 t5 t16 t17 t64 (adv s 2)
def f180j3 (Q:AV→St→Prop) (ih1:AV→AV→AV→AV→AV→St→Prop) (t5 t6 t1 t8 t18 t16 t17:AV) (s:St):Prop :=
 Bnd (bt .len #[22] [t1] (s.nx + 3) (adv s 9)) fun r59 =>
 Bnd (bn .add 3 t6 r59.1) fun t60 =>
 Bnd (cv 159 211 t8 r59.2) fun t62 =>
 Bnd (ixS 1 t5 t60) fun t63 =>
 Bnd (sto 1 t63 t62 r59.2) fun s1 =>
 f180j2 Q ih1 t18 t1 t5 t16 t17 s1
def f180j4 (Q:AV→St→Prop) (ih1:AV→AV→AV→AV→AV→St→Prop) (ih2:AV→AV→AV→AV→AV→AV→AV→AV→AV→AV→St→Prop) (t25 t1 t5 t6 t7 t8 t16 t17 t18 t24:AV) (s:St):Prop :=
 Bnd (bn .add 3 t25 (.int .i64 1)) fun t55 =>
 ih2 t1 t5 t6 t7 t8 t16 t17 t18 t24 t55 (adv s 2)
def f180l2s (Q:AV→St→Prop) (ih1:AV→AV→AV→AV→AV→St→Prop) (ih2:AV→AV→AV→AV→AV→AV→AV→AV→AV→AV→St→Prop) (t1 t5 t6 t7 t8 t16 t17 t18 t24 t25:AV) (s:St):Prop :=
 Bnd (bn .lss 3 t25 t24) fun t26 =>
 IfP t26
 (Bnd (cv 211 159 t7 (adv s 22)) fun t30 =>
 Bnd (ixS 1 t1 t25) fun t33 =>
 Bnd (ld 1 false t33 (adv s 22)) fun t34 =>
 Bnd (cv 211 159 t34 (adv s 22)) fun t35 =>
 Bnd (bn .mul 159 t30 t35) fun t36 =>
 Bnd (bn .add 3 t6 t25) fun t40 =>
 Bnd (ixS 1 t5 t40) fun t41 =>
 Bnd (ld 1 false t41 (adv s 22)) fun t42 =>
 Bnd (cv 211 159 t42 (adv s 22)) fun t43 =>
 Bnd (bn .add 159 t36 t43) fun t44 =>
 Bnd (bn .add 159 t8 t44) fun t45 =>
 Bnd (bn .add 3 t6 t25) fun t49 =>
 Bnd (cv 159 211 t45 (adv s 30)) fun t51 =>
 Bnd (ixS 1 t5 t49) fun t52 =>
 Bnd (sto 1 t52 t51 (adv s 30)) fun s1 =>
 Bnd (bn .shr 159 t45 (.int .u64 32)) fun t54 =>
 f180j4 Q ih1 ih2 t25 t1 t5 t6 t7 t54 t16 t17 t18 t24 (adv s1 3))
 (f180j3 Q ih1 t5 t6 t1 t8 t18 t16 t17 (adv s 1))
def f180l2 (Q:AV→St→Prop) (ih1:AV→AV→AV→AV→AV→St→Prop) (n:Nat):AV→AV→AV→AV→AV→AV→AV→AV→AV→AV→St→Prop:=Nat.rec (motive:=fun _=>AV→AV→AV→AV→AV→AV→AV→AV→AV→AV→St→Prop) (fun _ _ _ _ _ _ _ _ _ _ _=>False) (fun _ ih=>f180l2s Q ih1 ih) n
def f180l1s (Q:AV→St→Prop) (ih1:AV→AV→AV→AV→AV→St→Prop) (t1 t5 t16 t17 t18:AV) (s:St):Prop :=
 Bnd (bn .lss 3 t18 t17) fun t19 =>
 IfP t19
 (Bnd (ixS 1 t16 t18) fun t21 =>
 Bnd (ld 1 false t21 (adv s 6)) fun t22 =>
 Bnd (bt .len #[22] [t1] (s.nx + 8) (adv s 10)) fun r24 =>
 ∃ n,f180l2 Q ih1 n t1 t5 t18 t22 (.int .u64 0) t16 t17 t18 r24.1 (.int .i64 0) r24.2)
 (f180j1 Q t5 (adv s 1))
def f180l1 (Q:AV→St→Prop) (n:Nat):AV→AV→AV→AV→AV→St→Prop:=Nat.rec (motive:=fun _=>AV→AV→AV→AV→AV→St→Prop) (fun _ _ _ _ _ _=>False) (fun _ ih=>f180l1s Q ih) n
theorem f180j1_eq (Q:AV→St→Prop):f180C (sub f180B [Y,Y,Y]) (f180R Q) (fun _ _ _=>False) (f180R Q) = (fun g s=>f180j1 Q (g 5) s) :=
 Eq.trans rfl (by kernel_rfl)
theorem f180j2_eq (Q:AV→St→Prop) (n1:Nat):f180C (sub f180B [Y,Y,N,Y,N,N,Y,Y,Y]) (fun g s=>(fun (n:Nat) (g:Gf) (s:St)=>f180l1 Q n (g 1) (g 5) (g 16) (g 17) (g 18) s) n1 (fun k=>cond (bitOf (Tryz.env.kp 180) k) (g k) .undef) s) (fun i=>cond (Nat.beq i 0) (fun g s=>f180j1 Q (g 5) s) ((fun _ _ _=>False) i)) (f180R Q) = (fun g s=>f180j2 Q (f180l1 Q n1) (g 18) (g 1) (g 5) (g 16) (g 17) s) :=
 Eq.trans rfl (by kernel_rfl)
theorem f180j3_eq (Q:AV→St→Prop) (n1:Nat):f180C (sub f180B [Y,Y,N,Y,N,N,Y,Y,N,N,Y,Y,Y]) (fun g s=>f180j2 Q (f180l1 Q n1) (g 18) (g 1) (g 5) (g 16) (g 17) s) (fun i=>cond (Nat.beq i 1) (fun g s=>f180j2 Q (f180l1 Q n1) (g 18) (g 1) (g 5) (g 16) (g 17) s) ((fun i=>cond (Nat.beq i 0) (fun g s=>f180j1 Q (g 5) s) ((fun _ _ _=>False) i)) i)) (f180R Q) = (fun g s=>f180j3 Q (f180l1 Q n1) (g 5) (g 6) (g 1) (g 8) (g 18) (g 16) (g 17) s) :=
 Eq.trans rfl (by kernel_rfl)
theorem f180j4_eq (Q:AV→St→Prop) (n1:Nat) (n2:Nat):f180C (sub f180B [Y,Y,N,Y,N,N,Y,Y,N,N,Y,Y,N,Y,N,N,Y,Y,Y]) (fun g s=>(fun (n:Nat) (g:Gf) (s:St)=>f180l2 Q (f180l1 Q n1) n (g 1) (g 5) (g 6) (g 7) (g 8) (g 16) (g 17) (g 18) (g 24) (g 25) s) n2 (fun k=>cond (bitOf (Tryz.env.kp 180) k) (g k) .undef) s) (fun i=>cond (Nat.beq i 2) (fun g s=>f180j3 Q (f180l1 Q n1) (g 5) (g 6) (g 1) (g 8) (g 18) (g 16) (g 17) s) ((fun i=>cond (Nat.beq i 1) (fun g s=>f180j2 Q (f180l1 Q n1) (g 18) (g 1) (g 5) (g 16) (g 17) s) ((fun i=>cond (Nat.beq i 0) (fun g s=>f180j1 Q (g 5) s) ((fun _ _ _=>False) i)) i)) i)) (f180R Q) = (fun g s=>f180j4 Q (f180l1 Q n1) (f180l2 Q (f180l1 Q n1) n2) (g 25) (g 1) (g 5) (g 6) (g 7) (g 8) (g 16) (g 17) (g 18) (g 24) s) :=
 Eq.trans rfl (by kernel_rfl)
theorem f180l2_eq (Q:AV→St→Prop) (n1:Nat) (kN:Kt):f180C (sub f180B [Y,Y,N,Y,N,N,Y,Y,N,N,Y,Y,N,Y,N]) kN (fun i=>cond (Nat.beq i 2) (fun g s=>f180j3 Q (f180l1 Q n1) (g 5) (g 6) (g 1) (g 8) (g 18) (g 16) (g 17) s) ((fun i=>cond (Nat.beq i 1) (fun g s=>f180j2 Q (f180l1 Q n1) (g 18) (g 1) (g 5) (g 16) (g 17) s) ((fun i=>cond (Nat.beq i 0) (fun g s=>f180j1 Q (g 5) s) ((fun _ _ _=>False) i)) i)) i)) (f180R Q) = fun g s=>∃ n,(fun (n:Nat) (g:Gf) (s:St)=>f180l2 Q (f180l1 Q n1) n (g 1) (g 5) (g 6) (g 7) (g 8) (g 16) (g 17) (g 18) (g 24) (g 25) s) n g s :=
 loop_eq (L:=fun (n:Nat) (g:Gf) (s:St)=>f180l2 Q (f180l1 Q n1) n (g 1) (g 5) (g 6) (g 7) (g 8) (g 16) (g 17) (g 18) (g 24) (g 25) s) (by kernel_rfl:(sub f180B [Y,Y,N,Y,N,N,Y,Y,N,N,Y,Y,N,Y,N]) = .loop (sub f180B [Y,Y,N,Y,N,N,Y,Y,N,N,Y,Y,N,Y,N,N])) (by kernel_rfl) (fun n2=>Eq.trans (seq_eq (by kernel_rfl:(sub f180B [Y,Y,N,Y,N,N,Y,Y,N,N,Y,Y,N,Y,N,N]) = .seq (sub f180B [Y,Y,N,Y,N,N,Y,Y,N,N,Y,Y,N,Y,N,N,N]) (sub f180B [Y,Y,N,Y,N,N,Y,Y,N,N,Y,Y,N,Y,N,N,Y])) (seq_eq (by kernel_rfl:(sub f180B [Y,Y,N,Y,N,N,Y,Y,N,N,Y,Y,N,Y,N,N,Y]) = .seq (sub f180B [Y,Y,N,Y,N,N,Y,Y,N,N,Y,Y,N,Y,N,N,Y,N]) (sub f180B [Y,Y,N,Y,N,N,Y,Y,N,N,Y,Y,N,Y,N,N,Y,Y])) (seq_eq (by kernel_rfl:(sub f180B [Y,Y,N,Y,N,N,Y,Y,N,N,Y,Y,N,Y,N,N,Y,Y]) = .seq (sub f180B [Y,Y,N,Y,N,N,Y,Y,N,N,Y,Y,N,Y,N,N,Y,Y,N]) (sub f180B [Y,Y,N,Y,N,N,Y,Y,N,N,Y,Y,N,Y,N,N,Y,Y,Y])) (f180j4_eq Q n1 n2) (block_eq (by kernel_rfl:(sub f180B [Y,Y,N,Y,N,N,Y,Y,N,N,Y,Y,N,Y,N,N,Y,Y,N]) = .block 3 (sub f180B [Y,Y,N,Y,N,N,Y,Y,N,N,Y,Y,N,Y,N,N,Y,Y,N,N])) rfl)) rfl) rfl) (by kernel_rfl))
theorem f180l1_eq (Q:AV→St→Prop) (kN:Kt):f180C (sub f180B [Y,Y,N,Y,N]) kN (fun i=>cond (Nat.beq i 0) (fun g s=>f180j1 Q (g 5) s) ((fun _ _ _=>False) i)) (f180R Q) = fun g s=>∃ n,(fun (n:Nat) (g:Gf) (s:St)=>f180l1 Q n (g 1) (g 5) (g 16) (g 17) (g 18) s) n g s :=
 loop_eq (L:=fun (n:Nat) (g:Gf) (s:St)=>f180l1 Q n (g 1) (g 5) (g 16) (g 17) (g 18) s) (by kernel_rfl:(sub f180B [Y,Y,N,Y,N]) = .loop (sub f180B [Y,Y,N,Y,N,N])) (by kernel_rfl) (fun n1=>Eq.trans (seq_eq (by kernel_rfl:(sub f180B [Y,Y,N,Y,N,N]) = .seq (sub f180B [Y,Y,N,Y,N,N,N]) (sub f180B [Y,Y,N,Y,N,N,Y])) (seq_eq (by kernel_rfl:(sub f180B [Y,Y,N,Y,N,N,Y]) = .seq (sub f180B [Y,Y,N,Y,N,N,Y,N]) (sub f180B [Y,Y,N,Y,N,N,Y,Y])) (seq_eq (by kernel_rfl:(sub f180B [Y,Y,N,Y,N,N,Y,Y]) = .seq (sub f180B [Y,Y,N,Y,N,N,Y,Y,N]) (sub f180B [Y,Y,N,Y,N,N,Y,Y,Y])) (f180j2_eq Q n1) (block_eq (by kernel_rfl:(sub f180B [Y,Y,N,Y,N,N,Y,Y,N]) = .block 1 (sub f180B [Y,Y,N,Y,N,N,Y,Y,N,N])) (seq_eq (by kernel_rfl:(sub f180B [Y,Y,N,Y,N,N,Y,Y,N,N]) = .seq (sub f180B [Y,Y,N,Y,N,N,Y,Y,N,N,N]) (sub f180B [Y,Y,N,Y,N,N,Y,Y,N,N,Y])) (seq_eq (by kernel_rfl:(sub f180B [Y,Y,N,Y,N,N,Y,Y,N,N,Y]) = .seq (sub f180B [Y,Y,N,Y,N,N,Y,Y,N,N,Y,N]) (sub f180B [Y,Y,N,Y,N,N,Y,Y,N,N,Y,Y])) (seq_eq (by kernel_rfl:(sub f180B [Y,Y,N,Y,N,N,Y,Y,N,N,Y,Y]) = .seq (sub f180B [Y,Y,N,Y,N,N,Y,Y,N,N,Y,Y,N]) (sub f180B [Y,Y,N,Y,N,N,Y,Y,N,N,Y,Y,Y])) (f180j3_eq Q n1) (seq_eq (by kernel_rfl:(sub f180B [Y,Y,N,Y,N,N,Y,Y,N,N,Y,Y,N]) = .seq (sub f180B [Y,Y,N,Y,N,N,Y,Y,N,N,Y,Y,N,N]) (sub f180B [Y,Y,N,Y,N,N,Y,Y,N,N,Y,Y,N,Y])) (block_eq (by kernel_rfl:(sub f180B [Y,Y,N,Y,N,N,Y,Y,N,N,Y,Y,N,Y]) = .block 2 (sub f180B [Y,Y,N,Y,N,N,Y,Y,N,N,Y,Y,N,Y,N])) (f180l2_eq Q n1 _)) rfl)) rfl) rfl))) rfl) rfl) (by kernel_rfl))
def f180 (Q:AV→St→Prop) (t0 t1:AV) (s:St):Prop :=
 Bnd (bt .len #[22] [t0] (s.nx + 2) (adv s 8)) fun r11 =>
 Bnd (bt .len #[22] [t1] (s.nx + 4) r11.2) fun r13 =>
 Bnd (bn .add 3 r11.1 r13.1) fun t14 =>
 Bnd (mkS Tryz.ty 22 t14 t14 (s.nx + 6) r13.2) fun r15 =>
 Bnd (bt .len #[22] [t0] (r15.2.nx + 1) (adv r15.2 3)) fun r17 =>
 ∃ n,f180l1 Q n t1 r15.1 t0 r17.1 (.int .i64 0) r17.2
theorem f180_run (t0 t1:AV) (s:St) {Q:AV→St→Prop} (h:f180 Q t0 t1 s):∃ r s',WideC Tryz.env 180 [t0,t1] s r s'∧Q r s' :=
 wide_ofA (h:=180) (fn:=Tryz.f180) (c:=sub f180B []) (show f180C (sub f180B []) (f180R Q) (fun _ _ _=>False) (f180R Q) = _ from (seq_eq (by kernel_rfl:(sub f180B []) = .seq (sub f180B [N]) (sub f180B [Y])) (seq_eq (by kernel_rfl:(sub f180B [Y]) = .seq (sub f180B [Y,N]) (sub f180B [Y,Y])) (seq_eq (by kernel_rfl:(sub f180B [Y,Y]) = .seq (sub f180B [Y,Y,N]) (sub f180B [Y,Y,Y])) (f180j1_eq Q) (seq_eq (by kernel_rfl:(sub f180B [Y,Y,N]) = .seq (sub f180B [Y,Y,N,N]) (sub f180B [Y,Y,N,Y])) (block_eq (by kernel_rfl:(sub f180B [Y,Y,N,Y]) = .block 0 (sub f180B [Y,Y,N,Y,N])) (f180l1_eq Q _)) rfl)) rfl) rfl)) h
end
noncomputable section
section
structure SlTy (t e:TypeId) (z:Nat) (ag:Bool) (b:Nat):Prop where
 u:und Tryz.ty t = some (.slice e)
 l:lay Tryz.ty e = some (z,ag)
 b:bytesOf Tryz.ty e = some b
 zr:(zero Tryz.ty e).map (fun v=>v.cells.length) = some z
 pos:0 < z
variable {t e:TypeId} {z b lo id:Nat} {ag:Bool} {s:St} {x:AV} {vs:List AV}
theorem st_other {j id:Nat} {o:Option Blk} (h:j≠id):(s.set id o).h j = s.h j:=by
 have:Nat.beq j id = false:=by
  cases hb:Nat.beq j id with
  | false=>rfl
  | true=>exact absurd (Nat.eq_of_beq_eq_true hb) h
 show cond (Nat.beq j id) o (s.h j) = s.h j
 rw [this]; rfl
theorem st_same {id:Nat} {o:Option Blk}:(s.set id o).h id = o:=by
 show cond (Nat.beq id id) o (s.h id) = o
 rw [beq_self']; rfl
theorem app_any (h:SlTy t e z ag b) (x y:AV) (id:Nat) (s:St):bt .append #[t,t] [x,y] id s = (srcCells z y s).bind fun c=>appendA e z b x c id s:=by
 have h1:und (bX Tryz.env).P t = some (.slice e):=h.u
 have h2:lay (bX Tryz.env).P e = some (z,ag):=h.l
 have h3:bytesOf (bX Tryz.env).P e = some b:=h.b
 have h4:=h.zr
 cases hz:zero Tryz.ty e with
 | none=>rw [hz] at h4; cases h4
 | some zv =>
  rw [hz] at h4
  simp only [Option.map_some,Option.some.injEq] at h4
  have h5:zero (bX Tryz.env).P e = some zv:=hz
  simp [builtinA,h1,h2,h3,h5,h4,h.pos]
def Gw (e:TypeId) (z lo:Nat) (s:St) (x:AV) (vs:List AV):Prop :=
 (∀ v∈vs,v.cells.length = z∧v.cells.all AV.one = true)∧((x = .nils∧vs = [])∨∃ id,lo≤id∧x = .ref id 0 vs.length none e∧s.h id = some (.cells (vs.flatMap AV.cells) e false true))
theorem gw_nil:Gw e z lo s .nils []:=⟨fun _ h=>(by cases h),.inl ⟨rfl,rfl⟩⟩
theorem flat_len (h:∀ v∈vs,v.cells.length = z∧v.cells.all AV.one = true):(vs.flatMap AV.cells).length = vs.length * z:=by
 induction vs with
 | nil=>simp
 | cons v l ih =>
  rw [List.flatMap_cons,List.length_append,(h v (List.mem_cons_self ..)).1,ih fun x hx=>h x (List.mem_cons_of_mem _ hx),List.length_cons,Nat.succ_mul,Nat.add_comm]
theorem Gw.len (g:Gw e z lo s x vs):lenA x s = some (vs.length:Int):=by
 obtain ⟨h,⟨rfl,rfl⟩ | ⟨id,_,rfl,_⟩⟩:=g <;> rfl
theorem Gw.mono {s':St} (g:Gw e z lo s x vs) (h:∀ j,lo≤j→s.h j≠none→s'.h j = s.h j):Gw e z lo s' x vs:=by
 obtain ⟨h1,⟨rfl,rfl⟩ | ⟨id,hi,rfl,hs⟩⟩:=g
 ·exact ⟨h1,.inl ⟨rfl,rfl⟩⟩
 ·exact ⟨h1,.inr ⟨id,hi,rfl,by rw [h id hi (by rw [hs]; simp)]; exact hs⟩⟩
theorem many_all:∀ (vs pre c:List AV),c.length = vs.length→setMany (pre ++ c) pre.length vs = pre ++ vs:=by
 intro vs
 induction vs with
 | nil=>intro pre c h; simp at h; subst h; rfl
 | cons v l ih =>
  intro pre c h
  match c,h with
  | y :: c,h =>
   simp only [setMany]
   have e:(pre ++ y :: c).set pre.length v = (pre ++ [v]) ++ c:=by simp
   have:=ih (pre ++ [v]) c (by simpa using h)
   rw [e]
   simpa using this
theorem many0 {c vs:List AV} (h:c.length = vs.length):setMany c 0 vs = vs:=many_all vs [] c h
theorem sto_all {v:AV} {c:List AV} {ex:Bool} (h:s.h id = some (.cells c e ex true)) (hc:c.length = z) (hv:v.cells.length = z) (ho:v.cells.all AV.one = true):sto z (.ptr id 0) v s = some (s.set id (some (.cells v.cells e ex true))):=by
 show Ai.store z (.ptr id 0) v s = _
 unfold Ai.store
 simp only [h]
 rw [if_pos ⟨hv,by omega,ho⟩,many0 (by omega)]
theorem bsl_one (h:SlTy t e z ag b) (hm:z≤2 ^ 24) {v:AV} (hv:v.cells.length = z) (ho:v.cells.all AV.one = true):bsl t 1 [(0,v)] = some (.sl true [v]):=by
 have h4:=h.zr
 cases hz:zero Tryz.ty e with
 | none=>rw [hz] at h4; cases h4
 | some zv =>
  rw [hz] at h4
  simp only [Option.map_some,Option.some.injEq] at h4
  simp [buildSl,h.u,h.l,hz,h4,h.pos,hm,setParts,hv,ho]
def Fresh (s:St):Prop:=∀ j,s.nx≤j→s.h j = none
theorem Fresh.adv {n:Nat} (h:Fresh s):Fresh (adv s n):=fun j hj=>h j (by have:s.nx + n≤j:=hj; omega)
theorem Fresh.set {i:Nat} {o:Option Blk} (h:Fresh s) (hi:i < s.nx):Fresh (s.set i o):=fun j hj=>by
 have hj:s.nx≤j:=hj
 rw [st_other (by omega)]; exact h j hj
theorem fresh_empty:Fresh St.empty:=fun _ _=>rfl
theorem Gw.set {i:Nat} {o:Option Blk} (g:Gw e z lo s x vs) (hi:s.h i = none):Gw e z lo (s.set i o) x vs :=
 g.mono fun j _ hj=>st_other fun he=>hj (by rw [he]; exact hi)
theorem Gw.adv {n:Nat} (g:Gw e z lo s x vs):Gw e z lo (adv s n) x vs:=g.mono fun _ _ _=>rfl
theorem pur_closed {v:AV} (k:Nat) (h:v.closed = true):pur Tryz.env.P s k v = some (v,[]):=by unfold pur; rw [if_pos h]
theorem purL_closed {l:List AV} (k:Nat) (h:closedL l = true):purL (pur Tryz.env.P s k) l = some (l,[]):=by
 induction l with
 | nil=>rfl
 | cons v l ih =>
  simp only [closedL,Bool.and_eq_true] at h
  simp only [purL,pur_closed k h.1,ih h.2,List.append_nil]
theorem chunk_back (h:∀ v∈vs,v.cells.length = z∧v.cells.all AV.one = true) (ha:∀ v∈vs,v = .agg v.cells):chunk z vs.length (vs.flatMap AV.cells) = vs:=by
 induction vs with
 | nil=>rfl
 | cons v l ih =>
  have hv:=(h v (List.mem_cons_self ..)).1
  rw [List.flatMap_cons,List.length_cons,chunk,List.take_left' hv,List.drop_left' hv,ih (fun x hx=>h x (List.mem_cons_of_mem _ hx)) (fun x hx=>ha x (List.mem_cons_of_mem _ hx)),← ha v (List.mem_cons_self ..)]
theorem flat_closed (h:∀ v∈vs,v.closed = true):closedL (vs.flatMap AV.cells) = true:=by
 induction vs with
 | nil=>rfl
 | cons v l ih =>
  rw [List.flatMap_cons]
  have h1:closedL v.cells = true:=by
   have:=h v (List.mem_cons_self ..)
   cases v <;> first | exact this | (simp only [AV.cells,closedL,this,Bool.and_self]; done) | (simp only [AV.cells,closedL,Bool.and_true]; exact this)
  have h2:=ih fun x hx=>h x (List.mem_cons_of_mem _ hx)
  generalize v.cells = a at h1
  induction a with
  | nil=>exact h2
  | cons y a iha =>
   simp only [List.cons_append,closedL,Bool.and_eq_true] at h1 ⊢
   exact ⟨h1.1,iha h1.2⟩
theorem flat_one (h:∀ v∈vs,v.cells = [v]):vs.flatMap AV.cells = vs:=by
 induction vs with
 | nil=>rfl
 | cons v l ih=>rw [List.flatMap_cons,h v (List.mem_cons_self ..),ih fun x hx=>h x (List.mem_cons_of_mem _ hx)]; rfl
theorem pur_tup2 {y v:AV} {ids:List Nat} {k:Nat} (hx:x.closed = false) (h:pur Tryz.env.P s k x = some (v,ids)) (hy:y.closed = true):pur Tryz.env.P s (k + 1) (.tup [x,y]) = some (.tup [v,y],ids):=by
 have hc:(AV.tup [x,y]).closed = false:=by simp only [AV.closed,closedL,hx,Bool.false_and]
 unfold pur
 rw [hc,if_neg (by simp)]
 simp only [purL,h,pur_closed k hy,List.append_nil,Option.map_some]
theorem callPuF {h:FuncId} {args args2:List AV} {ids:List Nat} {v:AV} {K:AV→St→Prop} (hp:purL (pur Tryz.env.P s 12) args = some (args2,ids)) (hc:PureC Tryz.env h args2 v) (hf:v.flat = true) (hk:K v s):CallPu Tryz.env h args s K :=
 .mk args2 ids v hp hc (by rw [hf,Bool.or_true,if_pos rfl]; exact hk)
end
end
noncomputable section
set_option maxRecDepth 1000000
def f246j1 (Q:AV→St→Prop) (s:St):Prop :=
 Q (.int .i64 (-1)) (adv s 1)
def f246 (Q:AV→St→Prop) (t0:AV) (s:St):Prop :=
 Bnd (bn .geq 5 t0 (.int .u8 48)) fun t5 =>
 Gd (wantV t5 true) (adv s 8) (fun k=>k t0 (adv s 8)) fun t7 s1 =>
 Gd (wantV t5 true) s1 (fun k=>Bnd (bn .leq 5 t7 (.int .u8 57)) fun v=>k v s1) fun t8 s2 =>
 Bnd (pickV t5 t8 (.bool false)) fun t9 =>
 IfP t9
 (Bnd (bn .sub 5 t0 (.int .u8 48)) fun t11 =>
 Bnd (cv 5 3 t11 (adv s2 4)) fun t12 =>
 Q t12 (adv s2 4))
 (Bnd (bn .geq 5 t0 (.int .u8 97)) fun t15 =>
 Gd (wantV t15 true) (adv s2 7) (fun k=>k t0 (adv s2 7)) fun t17 s3 =>
 Gd (wantV t15 true) s3 (fun k=>Bnd (bn .leq 5 t17 (.int .u8 102)) fun v=>k v s3) fun t18 s4 =>
 Bnd (pickV t15 t18 (.bool false)) fun t19 =>
 IfP t19
 (Bnd (bn .sub 5 t0 (.int .u8 97)) fun t21 =>
 Bnd (cv 5 3 t21 (adv s4 5)) fun t22 =>
 Bnd (bn .add 3 t22 (.int .i64 10)) fun t23 =>
 Q t23 (adv s4 5))
 (Bnd (bn .geq 5 t0 (.int .u8 65)) fun t26 =>
 Gd (wantV t26 true) (adv s4 7) (fun k=>k t0 (adv s4 7)) fun t28 s5 =>
 Gd (wantV t26 true) s5 (fun k=>Bnd (bn .leq 5 t28 (.int .u8 70)) fun v=>k v s5) fun t29 s6 =>
 Bnd (pickV t26 t29 (.bool false)) fun t30 =>
 IfP t30
 (Bnd (bn .sub 5 t0 (.int .u8 65)) fun t32 =>
 Bnd (cv 5 3 t32 (adv s6 5)) fun t33 =>
 Bnd (bn .add 3 t33 (.int .i64 10)) fun t34 =>
 Q t34 (adv s6 5))
 (f246j1 Q s6)))
abbrev f217B:Code:=bodyOf Tryz.f217
abbrev f217R:=rK Tryz.f217
abbrev f217C:=codeP Tryz.env 217 (Tryz.env.kp 217)
def f217j1 (Q:AV→St→Prop) (t0 t3:AV) (s:St):Prop :=
 Bnd (bn .eql 9 t0 (.str [])) fun t23 =>
 Gd (wantV t23 false) (adv s 6) (fun k=>k t3 (adv s 6)) fun t25 s1 =>
 Gd (wantV t23 false) s1 (fun k=>Bnd (bn .gtr 3 t25 (.int .i64 196607)) fun v=>k v s1) fun t26 s2 =>
 Bnd (pickV t23 (.bool true) t26) fun t27 =>
 IfP t27
 (Q (.int .i64 (-1)) (adv s2 1))
 (Q t3 (adv s2 2))
def f217j2 (Q:AV→St→Prop) (ih1:AV→AV→AV→AV→St→Prop) (t8 t0 t3 t7:AV) (s:St):Prop :=
 Bnd (bn .add 3 t8 (.int .i64 1)) fun t21 =>
 ih1 t0 t3 t7 t21 (adv s 2)
def f217l1s (Q:AV→St→Prop) (ih1:AV→AV→AV→AV→St→Prop) (t0 t3 t7 t8:AV) (s:St):Prop :=
 Bnd (bn .lss 3 t8 t7) fun t9 =>
 IfP t9
 (Bnd (ixa 9 t0 t8) fun t13 =>
 CallPu Tryz.env 246 [t13] (adv s 8) fun t14 s1 =>
 Bnd (bn .lss 3 t14 (.int .i64 0)) fun t16 =>
 IfP t16
 (Q (.int .i64 (-1)) (adv s1 3))
 (Bnd (bn .mul 3 (.int .i64 16) t3) fun t18 =>
 Bnd (bn .add 3 t18 t14) fun t20 =>
 f217j2 Q ih1 t8 t0 t20 t7 (adv s1 7)))
 (f217j1 Q t0 t3 (adv s 1))
def f217l1 (Q:AV→St→Prop) (n:Nat):AV→AV→AV→AV→St→Prop:=Nat.rec (motive:=fun _=>AV→AV→AV→AV→St→Prop) (fun _ _ _ _ _=>False) (fun _ ih=>f217l1s Q ih) n
theorem f217j1_eq (Q:AV→St→Prop):f217C (sub f217B [Y,Y,Y]) (f217R Q) (fun _ _ _=>False) (f217R Q) = (fun g s=>f217j1 Q (g 0) (g 3) s) :=
 Eq.trans rfl (by kernel_rfl)
theorem f217j2_eq (Q:AV→St→Prop) (n1:Nat):f217C (sub f217B [Y,Y,N,Y,N,N,Y,Y,Y]) (fun g s=>(fun (n:Nat) (g:Gf) (s:St)=>f217l1 Q n (g 0) (g 3) (g 7) (g 8) s) n1 (fun k=>cond (bitOf (Tryz.env.kp 217) k) (g k) .undef) s) (fun i=>cond (Nat.beq i 0) (fun g s=>f217j1 Q (g 0) (g 3) s) ((fun _ _ _=>False) i)) (f217R Q) = (fun g s=>f217j2 Q (f217l1 Q n1) (g 8) (g 0) (g 3) (g 7) s) :=
 Eq.trans rfl (by kernel_rfl)
theorem f217l1_eq (Q:AV→St→Prop) (kN:Kt):f217C (sub f217B [Y,Y,N,Y,N]) kN (fun i=>cond (Nat.beq i 0) (fun g s=>f217j1 Q (g 0) (g 3) s) ((fun _ _ _=>False) i)) (f217R Q) = fun g s=>∃ n,(fun (n:Nat) (g:Gf) (s:St)=>f217l1 Q n (g 0) (g 3) (g 7) (g 8) s) n g s :=
 loop_eq (L:=fun (n:Nat) (g:Gf) (s:St)=>f217l1 Q n (g 0) (g 3) (g 7) (g 8) s) (by kernel_rfl:(sub f217B [Y,Y,N,Y,N]) = .loop (sub f217B [Y,Y,N,Y,N,N])) (by kernel_rfl) (fun n1=>Eq.trans (seq_eq (by kernel_rfl:(sub f217B [Y,Y,N,Y,N,N]) = .seq (sub f217B [Y,Y,N,Y,N,N,N]) (sub f217B [Y,Y,N,Y,N,N,Y])) (seq_eq (by kernel_rfl:(sub f217B [Y,Y,N,Y,N,N,Y]) = .seq (sub f217B [Y,Y,N,Y,N,N,Y,N]) (sub f217B [Y,Y,N,Y,N,N,Y,Y])) (seq_eq (by kernel_rfl:(sub f217B [Y,Y,N,Y,N,N,Y,Y]) = .seq (sub f217B [Y,Y,N,Y,N,N,Y,Y,N]) (sub f217B [Y,Y,N,Y,N,N,Y,Y,Y])) (f217j2_eq Q n1) (block_eq (by kernel_rfl:(sub f217B [Y,Y,N,Y,N,N,Y,Y,N]) = .block 1 (sub f217B [Y,Y,N,Y,N,N,Y,Y,N,N])) rfl)) rfl) rfl) (by kernel_rfl))
def f217 (Q:AV→St→Prop) (t0:AV) (s:St):Prop :=
 Bnd (bt .len #[9] [t0] (s.nx + 3) (adv s 5)) fun r7 =>
 ∃ n,f217l1 Q n t0 (.int .i64 0) r7.1 (.int .i64 0) r7.2
theorem f217_run (t0:AV) (s:St) {Q:AV→St→Prop} (h:f217 Q t0 s):∃ r s',WideC Tryz.env 217 [t0] s r s'∧Q r s' :=
 wide_ofA (h:=217) (fn:=Tryz.f217) (c:=sub f217B []) (show f217C (sub f217B []) (f217R Q) (fun _ _ _=>False) (f217R Q) = _ from (seq_eq (by kernel_rfl:(sub f217B []) = .seq (sub f217B [N]) (sub f217B [Y])) (seq_eq (by kernel_rfl:(sub f217B [Y]) = .seq (sub f217B [Y,N]) (sub f217B [Y,Y])) (seq_eq (by kernel_rfl:(sub f217B [Y,Y]) = .seq (sub f217B [Y,Y,N]) (sub f217B [Y,Y,Y])) (f217j1_eq Q) (seq_eq (by kernel_rfl:(sub f217B [Y,Y,N]) = .seq (sub f217B [Y,Y,N,N]) (sub f217B [Y,Y,N,Y])) (block_eq (by kernel_rfl:(sub f217B [Y,Y,N,Y]) = .block 0 (sub f217B [Y,Y,N,Y,N])) (f217l1_eq Q _)) rfl)) rfl) rfl)) h
abbrev f244B:Code:=bodyOf Tryz.f244
abbrev f244R:=rK Tryz.f244
abbrev f244C:=codeP Tryz.env 244 (Tryz.env.kp 244)
def f244 (Q:AV→St→Prop) (t0 t1:AV) (s:St):Prop :=
 CallPu Tryz.env 123 [t0,t1] (adv s 6) fun t8 s1 =>
 Bnd (un .not t8) fun t9 =>
 IfP t9
 (Q (.tup [t0,(.bool false)]) (adv s1 3))
 (Bnd (bt .len #[9] [t1] (s1.nx + 2) (adv s1 6)) fun r13 =>
 Bnd (slc 9 t0 (some r13.1) none none r13.2) fun t14 =>
 Q (.tup [t14,(.bool true)]) r13.2)
theorem f244_run (t0 t1:AV) (s:St) {Q:AV→St→Prop} (h:f244 Q t0 t1 s):∃ r s',WideC Tryz.env 244 [t0,t1] s r s'∧Q r s' :=
 wide_ofA (h:=244) (fn:=Tryz.f244) (c:=sub f244B []) (show f244C (sub f244B []) (f244R Q) (fun _ _ _=>False) (f244R Q) = _ from rfl) h
abbrev f215B:Code:=bodyOf Tryz.f215
abbrev f215R:=rK Tryz.f215
abbrev f215C:=codeP Tryz.env 215 (Tryz.env.kp 215)
def f215 (Q:AV→St→Prop) (t0 t1:AV) (s:St):Prop :=
 CallPu Tryz.env 244 [t0,t1] (adv s 9) fun t8 s1 =>
 Bnd (extr t8 0) fun t9 =>
 Bnd (extr t8 1) fun t10 =>
 Q (.tup [t9,t10]) s1
theorem f215_run (t0 t1:AV) (s:St) {Q:AV→St→Prop} (h:f215 Q t0 t1 s):∃ r s',WideC Tryz.env 215 [t0,t1] s r s'∧Q r s' :=
 wide_ofA (h:=215) (fn:=Tryz.f215) (c:=sub f215B []) (show f215C (sub f215B []) (f215R Q) (fun _ _ _=>False) (f215R Q) = _ from rfl) h
abbrev f245B:Code:=bodyOf Tryz.f245
abbrev f245R:=rK Tryz.f245
abbrev f245C:=codeP Tryz.env 245 (Tryz.env.kp 245)
def f245 (Q:AV→St→Prop) (t0 t1:AV) (s:St):Prop :=
 CallPu Tryz.env 268 [t0,t1] (adv s 7) fun t10 s1 =>
 Bnd (bn .geq 3 t10 (.int .i64 0)) fun t12 =>
 IfP t12
 (Bnd (slc 9 t0 none (some t10) none (adv s1 14)) fun t15 =>
 Bnd (bt .len #[9] [t1] (s1.nx + 8) (adv s1 14)) fun r19 =>
 Bnd (bn .add 3 t10 r19.1) fun t20 =>
 Bnd (slc 9 t0 (some t20) none none r19.2) fun t21 =>
 Q (.tup [t15,t21,(.bool true)]) r19.2)
 (Q (.tup [t0,(.str []),(.bool false)]) (adv s1 6))
theorem f245_run (t0 t1:AV) (s:St) {Q:AV→St→Prop} (h:f245 Q t0 t1 s):∃ r s',WideC Tryz.env 245 [t0,t1] s r s'∧Q r s' :=
 wide_ofA (h:=245) (fn:=Tryz.f245) (c:=sub f245B []) (show f245C (sub f245B []) (f245R Q) (fun _ _ _=>False) (f245R Q) = _ from rfl) h
abbrev f216B:Code:=bodyOf Tryz.f216
abbrev f216R:=rK Tryz.f216
abbrev f216C:=codeP Tryz.env 216 (Tryz.env.kp 216)
def f216 (Q:AV→St→Prop) (t0 t1:AV) (s:St):Prop :=
 CallPu Tryz.env 245 [t0,t1] (adv s 12) fun t9 s1 =>
 Bnd (extr t9 0) fun t10 =>
 Bnd (extr t9 1) fun t11 =>
 Bnd (extr t9 2) fun t12 =>
 Q (.tup [t10,t11,t12]) s1
theorem f216_run (t0 t1:AV) (s:St) {Q:AV→St→Prop} (h:f216 Q t0 t1 s):∃ r s',WideC Tryz.env 216 [t0,t1] s r s'∧Q r s' :=
 wide_ofA (h:=216) (fn:=Tryz.f216) (c:=sub f216B []) (show f216C (sub f216B []) (f216R Q) (fun _ _ _=>False) (f216R Q) = _ from rfl) h
abbrev f268B:Code:=bodyOf Tryz.f268
abbrev f268R:=rK Tryz.f268
abbrev f268C:=codeP Tryz.env 268 (Tryz.env.kp 268)
def f268j2 (Q:AV→St→Prop) (s:St):Prop :=
 Q (.int .i64 (-1)) (adv s 1)
def f268j3 (Q:AV→St→Prop) (ih1:AV→AV→AV→AV→AV→AV→AV→AV→St→Prop) (t0 t8 t7 t5 t1 t10 t9 t6:AV) (s:St):Prop :=
 Bnd (bn .add 3 t8 (.int .i64 1)) fun t80 =>
 Bnd (ixa 9 t0 t80) fun t81 =>
 Bnd (bn .eql 5 t81 t7) fun t83 =>
 Gd (wantV t83 true) (adv s 16) (fun k=>k t0 (adv s 16)) fun t85 s1 =>
 Gd (wantV t83 true) s1 (fun k=>k t8 s1) fun t86 s2 =>
 Gd (wantV t83 true) s2 (fun k=>k t8 s2) fun t87 s3 =>
 Gd (wantV t83 true) s3 (fun k=>k t5 s3) fun t88 s4 =>
 Gd (wantV t83 true) s4 (fun k=>Bnd (bn .add 3 t87 t88) fun v=>k v s4) fun t89 s5 =>
 Gd (wantV t83 true) s5 (fun k=>Bnd (slc 9 t85 (some t86) (some t89) none s5) fun v=>k v s5) fun t90 s6 =>
 Gd (wantV t83 true) s6 (fun k=>k t1 s6) fun t91 s7 =>
 Gd (wantV t83 true) s7 (fun k=>Bnd (bn .eql 9 t90 t91) fun v=>k v s7) fun t92 s8 =>
 Bnd (pickV t83 t92 (.bool false)) fun t93 =>
 IfP t93
 (Q t8 (adv s8 2))
 (Bnd (bn .add 3 t8 (.int .i64 1)) fun t96 =>
 Bnd (bn .add 3 t10 (.int .i64 1)) fun t98 =>
 Bnd (ld 1 false (gl 4) (adv s8 15)) fun t100 =>
 Bnd (bn .leq 3 t5 t100) fun t101 =>
 Gd (wantV t101 true) (adv s8 15) (fun k=>k t98 (adv s8 15)) fun t103 s9 =>
 Gd (wantV t101 true) s9 (fun k=>k t96 s9) fun t104 s10 =>
 Gd (wantV t101 true) s10 (fun k=>CallPu Tryz.env 261 [t104] s10 k) fun t105 s11 =>
 Gd (wantV t101 true) s11 (fun k=>Bnd (bn .gtr 3 t103 t105) fun v=>k v s11) fun t106 s12 =>
 Bnd (pickV t101 t106 (.bool false)) fun t107 =>
 IfP t107
 (Bnd (slc 9 t0 (some t96) none none (adv s12 6)) fun t110 =>
 CallPu Tryz.env 262 [t110,t1] (adv s12 6) fun t112 s13 =>
 Bnd (bn .geq 3 t112 (.int .i64 0)) fun t114 =>
 IfP t114
 (Bnd (bn .add 3 t112 t96) fun t117 =>
 Q t117 (adv s13 6))
 (Q (.int .i64 (-1)) (adv s13 3)))
 (Bnd (ld 1 false (gl 4) (adv s12 15)) fun t119 =>
 Bnd (bn .gtr 3 t5 t119) fun t120 =>
 Gd (wantV t120 true) (adv s12 15) (fun k=>k t98 (adv s12 15)) fun t122 s14 =>
 Gd (wantV t120 true) s14 (fun k=>k t96 s14) fun t123 s15 =>
 Gd (wantV t120 true) s15 (fun k=>Bnd (bn .shr 3 t123 (.int .u64 4)) fun v=>k v s15) fun t124 s16 =>
 Gd (wantV t120 true) s16 (fun k=>Bnd (bn .add 3 (.int .i64 4) t124) fun v=>k v s16) fun t125 s17 =>
 Gd (wantV t120 true) s17 (fun k=>Bnd (bn .geq 3 t122 t125) fun v=>k v s17) fun t126 s18 =>
 Bnd (pickV t120 t126 (.bool false)) fun t127 =>
 Gd (wantV t127 true) s18 (fun k=>k t96 s18) fun t129 s19 =>
 Gd (wantV t127 true) s19 (fun k=>k t9 s19) fun t130 s20 =>
 Gd (wantV t127 true) s20 (fun k=>Bnd (bn .lss 3 t129 t130) fun v=>k v s20) fun t131 s21 =>
 Bnd (pickV t127 t131 (.bool false)) fun t132 =>
 IfP t132
 (Bnd (slc 9 t0 (some t96) none none (adv s21 6)) fun t135 =>
 CallPu Tryz.env 284 [t135,t1] (adv s21 6) fun t137 s22 =>
 Bnd (bn .lss 3 t137 (.int .i64 0)) fun t139 =>
 IfP t139
 (Q (.int .i64 (-1)) (adv s22 3))
 (Bnd (bn .add 3 t96 t137) fun t142 =>
 Q t142 (adv s22 6)))
 (ih1 t0 t1 t5 t6 t7 t96 t9 t98 s21)))
def f268l1s (Q:AV→St→Prop) (ih1:AV→AV→AV→AV→AV→AV→AV→AV→St→Prop) (t0 t1 t5 t6 t7 t8 t9 t10:AV) (s:St):Prop :=
 Bnd (bn .lss 3 t8 t9) fun t59 =>
 IfP t59
 (Bnd (ixa 9 t0 t8) fun t62 =>
 Bnd (bn .neq 5 t62 t6) fun t64 =>
 IfP t64
 (Bnd (bn .add 3 t8 (.int .i64 1)) fun t67 =>
 Bnd (slc 9 t0 (some t67) (some t9) none (adv s 16)) fun t69 =>
 CallPu Tryz.env 269 [t69,t6] (adv s 16) fun t71 s1 =>
 Bnd (bn .lss 3 t71 (.int .i64 0)) fun t73 =>
 IfP t73
 (Q (.int .i64 (-1)) (adv s1 3))
 (Bnd (bn .add 3 t71 (.int .i64 1)) fun t76 =>
 Bnd (bn .add 3 t8 t76) fun t77 =>
 f268j3 Q ih1 t0 t77 t7 t5 t1 t10 t9 t6 (adv s1 7)))
 (f268j3 Q ih1 t0 t8 t7 t5 t1 t10 t9 t6 (adv s 8)))
 (f268j2 Q (adv s 3))
def f268l1 (Q:AV→St→Prop) (n:Nat):AV→AV→AV→AV→AV→AV→AV→AV→St→Prop:=Nat.rec (motive:=fun _=>AV→AV→AV→AV→AV→AV→AV→AV→St→Prop) (fun _ _ _ _ _ _ _ _ _=>False) (fun _ ih=>f268l1s Q ih) n
def f268j1 (Q:AV→St→Prop) (t1 t0 t5:AV) (s:St):Prop :=
 Bnd (ixa 9 t1 (.int .i64 0)) fun t49 =>
 Bnd (ixa 9 t1 (.int .i64 1)) fun t51 =>
 Bnd (bt .len #[9] [t0] (s.nx + 8) (adv s 13)) fun r53 =>
 Bnd (bn .sub 3 r53.1 t5) fun t55 =>
 Bnd (bn .add 3 t55 (.int .i64 1)) fun t56 =>
 ∃ n,f268l1 Q n t0 t1 t5 t49 t51 (.int .i64 0) t56 (.int .i64 0) (adv r53.2 1)
theorem f268j2_eq (Q:AV→St→Prop):f268C (sub f268B [Y,Y,Y,Y,Y,Y,Y,Y,Y]) (f268R Q) (fun _ _ _=>False) (f268R Q) = (fun g s=>f268j2 Q s) :=
 Eq.trans rfl (by kernel_rfl)
theorem f268j3_eq (Q:AV→St→Prop) (n1:Nat):f268C (sub f268B [Y,Y,Y,Y,Y,Y,Y,Y,N,N,N,Y,N,Y]) (fun g s=>(fun (n:Nat) (g:Gf) (s:St)=>f268l1 Q n (g 0) (g 1) (g 5) (g 6) (g 7) (g 8) (g 9) (g 10) s) n1 (fun k=>cond (bitOf (Tryz.env.kp 268) k) (g k) .undef) s) (fun i=>cond (Nat.beq i 2) (fun g s=>(fun (n:Nat) (g:Gf) (s:St)=>f268l1 Q n (g 0) (g 1) (g 5) (g 6) (g 7) (g 8) (g 9) (g 10) s) n1 (fun k=>cond (bitOf (Tryz.env.kp 268) k) (g k) .undef) s) ((fun i=>cond (Nat.beq i 1) (fun g s=>f268j2 Q s) ((fun _ _ _=>False) i)) i)) (f268R Q) = (fun g s=>f268j3 Q (f268l1 Q n1) (g 0) (g 8) (g 7) (g 5) (g 1) (g 10) (g 9) (g 6) s) :=
 Eq.trans rfl (by kernel_rfl)
theorem f268l1_eq (Q:AV→St→Prop) (kN:Kt):f268C (sub f268B [Y,Y,Y,Y,Y,Y,Y,Y,N,N]) kN (fun i=>cond (Nat.beq i 1) (fun g s=>f268j2 Q s) ((fun _ _ _=>False) i)) (f268R Q) = fun g s=>∃ n,(fun (n:Nat) (g:Gf) (s:St)=>f268l1 Q n (g 0) (g 1) (g 5) (g 6) (g 7) (g 8) (g 9) (g 10) s) n g s :=
 loop_eq (L:=fun (n:Nat) (g:Gf) (s:St)=>f268l1 Q n (g 0) (g 1) (g 5) (g 6) (g 7) (g 8) (g 9) (g 10) s) (by kernel_rfl:(sub f268B [Y,Y,Y,Y,Y,Y,Y,Y,N,N]) = .loop (sub f268B [Y,Y,Y,Y,Y,Y,Y,Y,N,N,N])) (by kernel_rfl) (fun n1=>Eq.trans (seq_eq (by kernel_rfl:(sub f268B [Y,Y,Y,Y,Y,Y,Y,Y,N,N,N]) = .seq (sub f268B [Y,Y,Y,Y,Y,Y,Y,Y,N,N,N,N]) (sub f268B [Y,Y,Y,Y,Y,Y,Y,Y,N,N,N,Y])) (block_eq (by kernel_rfl:(sub f268B [Y,Y,Y,Y,Y,Y,Y,Y,N,N,N,Y]) = .block 2 (sub f268B [Y,Y,Y,Y,Y,Y,Y,Y,N,N,N,Y,N])) (seq_eq (by kernel_rfl:(sub f268B [Y,Y,Y,Y,Y,Y,Y,Y,N,N,N,Y,N]) = .seq (sub f268B [Y,Y,Y,Y,Y,Y,Y,Y,N,N,N,Y,N,N]) (sub f268B [Y,Y,Y,Y,Y,Y,Y,Y,N,N,N,Y,N,Y])) (f268j3_eq Q n1) rfl)) rfl) (by kernel_rfl))
theorem f268j1_eq (Q:AV→St→Prop):f268C (sub f268B [Y,Y,Y]) (f268R Q) (fun _ _ _=>False) (f268R Q) = (fun g s=>f268j1 Q (g 1) (g 0) (g 5) s) :=
 Eq.trans (seq_eq (by kernel_rfl:(sub f268B [Y,Y,Y]) = .seq (sub f268B [Y,Y,Y,N]) (sub f268B [Y,Y,Y,Y])) (seq_eq (by kernel_rfl:(sub f268B [Y,Y,Y,Y]) = .seq (sub f268B [Y,Y,Y,Y,N]) (sub f268B [Y,Y,Y,Y,Y])) (seq_eq (by kernel_rfl:(sub f268B [Y,Y,Y,Y,Y]) = .seq (sub f268B [Y,Y,Y,Y,Y,N]) (sub f268B [Y,Y,Y,Y,Y,Y])) (seq_eq (by kernel_rfl:(sub f268B [Y,Y,Y,Y,Y,Y]) = .seq (sub f268B [Y,Y,Y,Y,Y,Y,N]) (sub f268B [Y,Y,Y,Y,Y,Y,Y])) (seq_eq (by kernel_rfl:(sub f268B [Y,Y,Y,Y,Y,Y,Y]) = .seq (sub f268B [Y,Y,Y,Y,Y,Y,Y,N]) (sub f268B [Y,Y,Y,Y,Y,Y,Y,Y])) (seq_eq (by kernel_rfl:(sub f268B [Y,Y,Y,Y,Y,Y,Y,Y]) = .seq (sub f268B [Y,Y,Y,Y,Y,Y,Y,Y,N]) (sub f268B [Y,Y,Y,Y,Y,Y,Y,Y,Y])) (f268j2_eq Q) (block_eq (by kernel_rfl:(sub f268B [Y,Y,Y,Y,Y,Y,Y,Y,N]) = .block 1 (sub f268B [Y,Y,Y,Y,Y,Y,Y,Y,N,N])) (f268l1_eq Q _))) rfl) rfl) rfl) rfl) rfl) (by kernel_rfl)
def f268 (Q:AV→St→Prop) (t0 t1:AV) (s:St):Prop :=
 Bnd (bt .len #[9] [t1] (s.nx + 2) (adv s 4)) fun r15 =>
 Bnd (bn .eql 3 r15.1 (.int .i64 0)) fun t18 =>
 Gd (wantV t18 false) (adv r15.2 8) (fun k=>k t1 (adv r15.2 8)) fun t20 s1 =>
 Gd (wantV t18 false) s1 (fun k=>k t0 s1) fun t21 s2 =>
 Gd (wantV t18 false) s2 (fun k=>Bnd (bn .eql 9 t20 t21) fun v=>k v s2) fun t22 s3 =>
 Bnd (pickV t18 (.bool true) t22) fun t23 =>
 IfP t23
 (Q (.int .i64 0) (adv s3 1))
 (Bnd (bn .eql 3 r15.1 (.int .i64 1)) fun t26 =>
 IfP t26
 (Bnd (ixa 9 t1 (.int .i64 0)) fun t29 =>
 CallPu Tryz.env 269 [t0,t29] (adv s3 8) fun t30 s4 =>
 Q t30 s4)
 (Bnd (bt .len #[9] [t0] (s3.nx + 5) (adv s3 8)) fun r34 =>
 Bnd (bn .geq 3 r15.1 r34.1) fun t35 =>
 IfP t35
 (Q (.int .i64 (-1)) (adv r34.2 1))
 (Bnd (ld 1 false (gl 4) (adv r34.2 9)) fun t38 =>
 Bnd (bn .leq 3 r15.1 t38) fun t39 =>
 Gd (wantV t39 true) (adv r34.2 9) (fun k=>k t0 (adv r34.2 9)) fun t41 s5 =>
 Gd (wantV t39 true) s5 (fun k=>Bnd (bt .len #[9] [t41] (r34.2.nx + 5) s5) fun r=>k r.1 r.2) fun t42 s6 =>
 Gd (wantV t39 true) s6 (fun k=>Bnd (bn .leq 3 t42 (.int .i64 64)) fun v=>k v s6) fun t43 s7 =>
 Bnd (pickV t39 t43 (.bool false)) fun t44 =>
 IfP t44
 (CallPu Tryz.env 262 [t0,t1] (adv s7 4) fun t47 s8 =>
 Q t47 s8)
 (f268j1 Q t1 t0 r15.1 s7))))
theorem f268_run (t0 t1:AV) (s:St) {Q:AV→St→Prop} (h:f268 Q t0 t1 s):∃ r s',WideC Tryz.env 268 [t0,t1] s r s'∧Q r s' :=
 wide_ofA (h:=268) (fn:=Tryz.f268) (c:=sub f268B []) (show f268C (sub f268B []) (f268R Q) (fun _ _ _=>False) (f268R Q) = _ from (seq_eq (by kernel_rfl:(sub f268B []) = .seq (sub f268B [N]) (sub f268B [Y])) (seq_eq (by kernel_rfl:(sub f268B [Y]) = .seq (sub f268B [Y,N]) (sub f268B [Y,Y])) (seq_eq (by kernel_rfl:(sub f268B [Y,Y]) = .seq (sub f268B [Y,Y,N]) (sub f268B [Y,Y,Y])) (f268j1_eq Q) (block_eq (by kernel_rfl:(sub f268B [Y,Y,N]) = .block 0 (sub f268B [Y,Y,N,N])) rfl)) rfl) rfl)) h
abbrev f269B:Code:=bodyOf Tryz.f269
abbrev f269R:=rK Tryz.f269
abbrev f269C:=codeP Tryz.env 269 (Tryz.env.kp 269)
def f269 (Q:AV→St→Prop) (t0 t1:AV) (s:St):Prop :=
 CallPu Tryz.env 285 [t0,t1] (adv s 5) fun t7 s1 =>
 Q t7 s1
theorem f269_run (t0 t1:AV) (s:St) {Q:AV→St→Prop} (h:f269 Q t0 t1 s):∃ r s',WideC Tryz.env 269 [t0,t1] s r s'∧Q r s' :=
 wide_ofA (h:=269) (fn:=Tryz.f269) (c:=sub f269B []) (show f269C (sub f269B []) (f269R Q) (fun _ _ _=>False) (f269R Q) = _ from rfl) h
abbrev f182B:Code:=bodyOf Tryz.f182
abbrev f182R:=rK Tryz.f182
abbrev f182C:=codeP Tryz.env 182 (Tryz.env.kp 182)
def f182 (Q:AV→St→Prop) (t0:AV) (s:St):Prop :=
 CallPu Tryz.env 215 [t0,(.str [92,117])] (adv s 9) fun t13 s1 =>
 Bnd (extr t13 0) fun t14 =>
 Bnd (extr t13 1) fun t15 =>
 Bnd (un .not t15) fun t17 =>
 IfP t17
 (Q (.tup [(.int .i64 (-1)),(.int .i64 0)]) (adv s1 4))
 (CallPu Tryz.env 215 [t14,(.str [123])] (adv s1 9) fun t20 s2 =>
 Bnd (extr t20 0) fun t21 =>
 Bnd (extr t20 1) fun t22 =>
 IfP t22
 (CallPu Tryz.env 216 [t21,(.str [125])] (adv s2 10) fun t26 s3 =>
 Bnd (extr t26 0) fun t27 =>
 Bnd (extr t26 1) fun t28 =>
 Bnd (extr t26 2) fun t29 =>
 Bnd (un .not t29) fun t31 =>
 Gd (wantV t31 false) (adv s3 7) (fun k=>k t27 (adv s3 7)) fun t33 s4 =>
 Gd (wantV t31 false) s4 (fun k=>Bnd (bt .len #[9] [t33] (s3.nx + 4) s4) fun r=>k r.1 r.2) fun t34 s5 =>
 Gd (wantV t31 false) s5 (fun k=>Bnd (bn .gtr 3 t34 (.int .i64 5)) fun v=>k v s5) fun t35 s6 =>
 Bnd (pickV t31 (.bool true) t35) fun t36 =>
 IfP t36
 (Q (.tup [(.int .i64 (-1)),(.int .i64 0)]) (adv s6 2))
 (CallPu Tryz.env 217 [t27] (adv s6 7) fun t38 s7 =>
 Bnd (bt .len #[9] [t27] (s6.nx + 3) s7) fun r40 =>
 Bnd (bn .add 3 r40.1 (.int .i64 4)) fun t41 =>
 Q (.tup [t38,t41]) r40.2))
 (Bnd (bt .len #[9] [t14] (s2.nx + 2) (adv s2 4)) fun r43 =>
 Bnd (bn .lss 3 r43.1 (.int .i64 4)) fun t44 =>
 IfP t44
 (Q (.tup [(.int .i64 (-1)),(.int .i64 0)]) (adv r43.2 2))
 (Bnd (slc 9 t14 none (some (.int .i64 4)) none (adv r43.2 5)) fun t46 =>
 CallPu Tryz.env 217 [t46] (adv r43.2 5) fun t47 s8 =>
 Q (.tup [t47,(.int .i64 6)]) s8)))
theorem f182_run (t0:AV) (s:St) {Q:AV→St→Prop} (h:f182 Q t0 s):∃ r s',WideC Tryz.env 182 [t0] s r s'∧Q r s' :=
 wide_ofA (h:=182) (fn:=Tryz.f182) (c:=sub f182B []) (show f182C (sub f182B []) (f182R Q) (fun _ _ _=>False) (f182R Q) = _ from rfl) h
abbrev f129B:Code:=bodyOf Tryz.f129
abbrev f129R:=rK Tryz.f129
abbrev f129C:=codeP Tryz.env 129 (Tryz.env.kp 129)
def f129j1 (Q:AV→St→Prop) (t3:AV) (s:St):Prop :=
 Q t3 (adv s 2)
def f129j2 (Q:AV→St→Prop) (ih1:AV→AV→AV→St→Prop) (t3 t5 t4 t6 t0:AV) (s:St):Prop :=
 Bnd (bsl 72 1 [(0,t5)]) fun t26 =>
 Bnd (bt .append #[72,72] [t3,t26] (s.nx + 3) (adv s 5)) fun r27 =>
 Bnd (bn .add 3 t4 t6) fun t30 =>
 ih1 t0 r27.1 t30 (adv r27.2 4)
def f129l1s (Q:AV→St→Prop) (ih1:AV→AV→AV→St→Prop) (t0 t3 t4:AV) (s:St):Prop :=
 Bnd (bt .len #[9] [t0] (s.nx + 2) (adv s 4)) fun r9 =>
 Bnd (bn .geq 3 t4 r9.1) fun t10 =>
 IfP t10
 (f129j1 Q t3 r9.2)
 (Bnd (slc 9 t0 (some t4) none none (adv r9.2 9)) fun t14 =>
 CallPu Tryz.env 182 [t14] (adv r9.2 9) fun t15 s1 =>
 Bnd (extr t15 0) fun t16 =>
 Bnd (extr t15 1) fun t17 =>
 Bnd (bn .lss 3 t16 (.int .i64 0)) fun t19 =>
 IfP t19
 (Bnd (ixa 9 t0 t4) fun t22 =>
 Bnd (cv 5 3 t22 (adv s1 8)) fun t23 =>
 f129j2 Q ih1 t3 t23 t4 (.int .i64 1) t0 (adv s1 8))
 (f129j2 Q ih1 t3 t16 t4 t17 t0 (adv s1 2)))
def f129l1 (Q:AV→St→Prop) (n:Nat):AV→AV→AV→St→Prop:=Nat.rec (motive:=fun _=>AV→AV→AV→St→Prop) (fun _ _ _ _=>False) (fun _ ih=>f129l1s Q ih) n
theorem f129j1_eq (Q:AV→St→Prop):f129C (sub f129B [Y,N,Y,Y,Y,Y]) (f129R Q) (fun _ _ _=>False) (f129R Q) = (fun g s=>f129j1 Q (g 3) s) :=
 Eq.trans rfl (by kernel_rfl)
theorem f129j2_eq (Q:AV→St→Prop) (n1:Nat):f129C (sub f129B [Y,N,Y,Y,Y,N,N,N,N,Y,Y,Y]) (fun g s=>(fun (n:Nat) (g:Gf) (s:St)=>f129l1 Q n (g 0) (g 3) (g 4) s) n1 (fun k=>cond (bitOf (Tryz.env.kp 129) k) (g k) .undef) s) (fun i=>cond (Nat.beq i 1) (fun g s=>(fun (n:Nat) (g:Gf) (s:St)=>f129l1 Q n (g 0) (g 3) (g 4) s) n1 (fun k=>cond (bitOf (Tryz.env.kp 129) k) (g k) .undef) s) ((fun i=>cond (Nat.beq i 0) (fun g s=>f129j1 Q (g 3) s) ((fun _ _ _=>False) i)) i)) (f129R Q) = (fun g s=>f129j2 Q (f129l1 Q n1) (g 3) (g 5) (g 4) (g 6) (g 0) s) :=
 Eq.trans rfl (by kernel_rfl)
theorem f129l1_eq (Q:AV→St→Prop) (kN:Kt):f129C (sub f129B [Y,N,Y,Y,Y,N,N]) kN (fun i=>cond (Nat.beq i 0) (fun g s=>f129j1 Q (g 3) s) ((fun _ _ _=>False) i)) (f129R Q) = fun g s=>∃ n,(fun (n:Nat) (g:Gf) (s:St)=>f129l1 Q n (g 0) (g 3) (g 4) s) n g s :=
 loop_eq (L:=fun (n:Nat) (g:Gf) (s:St)=>f129l1 Q n (g 0) (g 3) (g 4) s) (by kernel_rfl:(sub f129B [Y,N,Y,Y,Y,N,N]) = .loop (sub f129B [Y,N,Y,Y,Y,N,N,N])) (by kernel_rfl) (fun n1=>Eq.trans (block_eq (by kernel_rfl:(sub f129B [Y,N,Y,Y,Y,N,N,N]) = .block 1 (sub f129B [Y,N,Y,Y,Y,N,N,N,N])) (seq_eq (by kernel_rfl:(sub f129B [Y,N,Y,Y,Y,N,N,N,N]) = .seq (sub f129B [Y,N,Y,Y,Y,N,N,N,N,N]) (sub f129B [Y,N,Y,Y,Y,N,N,N,N,Y])) (seq_eq (by kernel_rfl:(sub f129B [Y,N,Y,Y,Y,N,N,N,N,Y]) = .seq (sub f129B [Y,N,Y,Y,Y,N,N,N,N,Y,N]) (sub f129B [Y,N,Y,Y,Y,N,N,N,N,Y,Y])) (seq_eq (by kernel_rfl:(sub f129B [Y,N,Y,Y,Y,N,N,N,N,Y,Y]) = .seq (sub f129B [Y,N,Y,Y,Y,N,N,N,N,Y,Y,N]) (sub f129B [Y,N,Y,Y,Y,N,N,N,N,Y,Y,Y])) (f129j2_eq Q n1) rfl) rfl) rfl)) (by kernel_rfl))
def f129 (Q:AV→St→Prop) (t0:AV) (s:St):Prop :=
 ∃ n,f129l1 Q n t0 .nils (.int .i64 0) (adv s 3)
theorem f129_run (t0:AV) (s:St) {Q:AV→St→Prop} (h:f129 Q t0 s):∃ r s',WideC Tryz.env 129 [t0] s r s'∧Q r s' :=
 wide_ofA (h:=129) (fn:=Tryz.f129) (c:=sub f129B []) (show f129C (sub f129B []) (f129R Q) (fun _ _ _=>False) (f129R Q) = _ from (seq_eq (by kernel_rfl:(sub f129B []) = .seq (sub f129B [N]) (sub f129B [Y])) (scope_eq (by kernel_rfl:(sub f129B [Y]) = .scope (sub f129B [Y,N])) (seq_eq (by kernel_rfl:(sub f129B [Y,N]) = .seq (sub f129B [Y,N,N]) (sub f129B [Y,N,Y])) (seq_eq (by kernel_rfl:(sub f129B [Y,N,Y]) = .seq (sub f129B [Y,N,Y,N]) (sub f129B [Y,N,Y,Y])) (seq_eq (by kernel_rfl:(sub f129B [Y,N,Y,Y]) = .seq (sub f129B [Y,N,Y,Y,N]) (sub f129B [Y,N,Y,Y,Y])) (seq_eq (by kernel_rfl:(sub f129B [Y,N,Y,Y,Y]) = .seq (sub f129B [Y,N,Y,Y,Y,N]) (sub f129B [Y,N,Y,Y,Y,Y])) (f129j1_eq Q) (block_eq (by kernel_rfl:(sub f129B [Y,N,Y,Y,Y,N]) = .block 0 (sub f129B [Y,N,Y,Y,Y,N,N])) (f129l1_eq Q _))) rfl) rfl) rfl)) rfl)) h
abbrev f128B:Code:=bodyOf Tryz.f128
abbrev f128R:=rK Tryz.f128
abbrev f128C:=codeP Tryz.env 128 (Tryz.env.kp 128)
def f128j1 (Q:AV→St→Prop) (t4:AV) (s:St):Prop :=
 Bnd (bt .len #[25] [t4] (s.nx + 1) (adv s 3)) fun r46 =>
 Bnd (bn .gtr 3 r46.1 (.int .i64 65536)) fun t47 =>
 IfP t47
 (Q (.tup [.nils,(.int .i64 2)]) (adv r46.2 2))
 (Q (.tup [t4,(.int .i64 0)]) (adv r46.2 3))
def f128j2 (Q:AV→St→Prop) (ih1:AV→AV→AV→AV→St→Prop) (t10 t4 t8 t9:AV) (s:St):Prop :=
 Bnd (bn .add 3 t10 (.int .i64 1)) fun t44 =>
 ih1 t4 t8 t9 t44 (adv s 2)
def f128l1s (Q:AV→St→Prop) (ih1:AV→AV→AV→AV→St→Prop) (t4 t8 t9 t10:AV) (s:St):Prop :=
 Bnd (bn .lss 3 t10 t9) fun t11 =>
 IfP t11
 (Bnd (ixS 1 t8 t10) fun t12 =>
 Bnd (ld 1 false t12 (adv s 4)) fun t13 =>
 CallPu Tryz.env 181 [t13] (adv s 7) fun t15 s1 =>
 Bnd (un .not t15) fun t16 =>
 IfP t16
 (Q (.tup [.nils,(.int .i64 1)]) (adv s1 2))
 (Bnd (bt .len #[25] [t4] (s1.nx + 1) (adv s1 4)) fun r18 =>
 Bnd (bn .sub 3 r18.1 (.int .i64 1)) fun t19 =>
 Bnd (bn .geq 3 t19 (.int .i64 0)) fun t21 =>
 Gd (wantV t21 true) (adv r18.2 11) (fun k=>k t4 (adv r18.2 11)) fun t23 s2 =>
 Gd (wantV t21 true) s2 (fun k=>k t19 s2) fun t24 s3 =>
 Gd (wantV t21 true) s3 (fun k=>Bnd (ixS 2 t23 t24) fun v=>k v s3) fun t25 s4 =>
 Gd (wantV t21 true) s4 (fun k=>Bnd (shiftP 0 t25) fun v=>k v s4) fun t26 s5 =>
 Gd (wantV t21 true) s5 (fun k=>Bnd (ld 1 false t26 s5) fun v=>k v s5) fun t27 s6 =>
 Gd (wantV t21 true) s6 (fun k=>k t13 s6) fun t28 s7 =>
 Gd (wantV t21 true) s7 (fun k=>Bnd (bn .eql 3 t27 t28) fun v=>k v s7) fun t29 s8 =>
 Bnd (pickV t21 t29 (.bool false)) fun t30 =>
 IfP t30
 (Bnd (ixS 2 t4 t19) fun t33 =>
 Bnd (shiftP 1 t33) fun t34 =>
 Bnd (ld 1 false t34 (adv s8 9)) fun t35 =>
 Bnd (bn .add 3 t35 (.int .i64 1)) fun t36 =>
 Bnd (ixS 2 t4 t19) fun t37 =>
 Bnd (shiftP 1 t37) fun t38 =>
 Bnd (sto 1 t38 t36 (adv s8 9)) fun s9 =>
 f128j2 Q ih1 t10 t4 t8 t9 s9)
 (Bnd (bld 109 [(0,t13),(1,(.int .i64 1))]) fun t41 =>
 Bnd (bsl 25 1 [(0,t41)]) fun t42 =>
 Bnd (bt .append #[25,25] [t4,t42] (s8.nx + 4) (adv s8 6)) fun r43 =>
 f128j2 Q ih1 t10 r43.1 t8 t9 r43.2)))
 (f128j1 Q t4 (adv s 1))
def f128l1 (Q:AV→St→Prop) (n:Nat):AV→AV→AV→AV→St→Prop:=Nat.rec (motive:=fun _=>AV→AV→AV→AV→St→Prop) (fun _ _ _ _ _=>False) (fun _ ih=>f128l1s Q ih) n
theorem f128j1_eq (Q:AV→St→Prop):f128C (sub f128B [Y,Y,Y]) (f128R Q) (fun _ _ _=>False) (f128R Q) = (fun g s=>f128j1 Q (g 4) s) :=
 Eq.trans rfl (by kernel_rfl)
theorem f128j2_eq (Q:AV→St→Prop) (n1:Nat):f128C (sub f128B [Y,Y,N,Y,N,N,Y,Y,Y]) (fun g s=>(fun (n:Nat) (g:Gf) (s:St)=>f128l1 Q n (g 4) (g 8) (g 9) (g 10) s) n1 (fun k=>cond (bitOf (Tryz.env.kp 128) k) (g k) .undef) s) (fun i=>cond (Nat.beq i 0) (fun g s=>f128j1 Q (g 4) s) ((fun _ _ _=>False) i)) (f128R Q) = (fun g s=>f128j2 Q (f128l1 Q n1) (g 10) (g 4) (g 8) (g 9) s) :=
 Eq.trans rfl (by kernel_rfl)
theorem f128l1_eq (Q:AV→St→Prop) (kN:Kt):f128C (sub f128B [Y,Y,N,Y,N]) kN (fun i=>cond (Nat.beq i 0) (fun g s=>f128j1 Q (g 4) s) ((fun _ _ _=>False) i)) (f128R Q) = fun g s=>∃ n,(fun (n:Nat) (g:Gf) (s:St)=>f128l1 Q n (g 4) (g 8) (g 9) (g 10) s) n g s :=
 loop_eq (L:=fun (n:Nat) (g:Gf) (s:St)=>f128l1 Q n (g 4) (g 8) (g 9) (g 10) s) (by kernel_rfl:(sub f128B [Y,Y,N,Y,N]) = .loop (sub f128B [Y,Y,N,Y,N,N])) (by kernel_rfl) (fun n1=>Eq.trans (seq_eq (by kernel_rfl:(sub f128B [Y,Y,N,Y,N,N]) = .seq (sub f128B [Y,Y,N,Y,N,N,N]) (sub f128B [Y,Y,N,Y,N,N,Y])) (seq_eq (by kernel_rfl:(sub f128B [Y,Y,N,Y,N,N,Y]) = .seq (sub f128B [Y,Y,N,Y,N,N,Y,N]) (sub f128B [Y,Y,N,Y,N,N,Y,Y])) (seq_eq (by kernel_rfl:(sub f128B [Y,Y,N,Y,N,N,Y,Y]) = .seq (sub f128B [Y,Y,N,Y,N,N,Y,Y,N]) (sub f128B [Y,Y,N,Y,N,N,Y,Y,Y])) (f128j2_eq Q n1) (block_eq (by kernel_rfl:(sub f128B [Y,Y,N,Y,N,N,Y,Y,N]) = .block 1 (sub f128B [Y,Y,N,Y,N,N,Y,Y,N,N])) rfl)) rfl) rfl) (by kernel_rfl))
def f128 (Q:AV→St→Prop) (t0:AV) (s:St):Prop :=
 Bnd (bt .len #[72] [t0] (s.nx + 4) (adv s 6)) fun r9 =>
 ∃ n,f128l1 Q n .nils t0 r9.1 (.int .i64 0) r9.2
theorem f128_run (t0:AV) (s:St) {Q:AV→St→Prop} (h:f128 Q t0 s):∃ r s',WideC Tryz.env 128 [t0] s r s'∧Q r s' :=
 wide_ofA (h:=128) (fn:=Tryz.f128) (c:=sub f128B []) (show f128C (sub f128B []) (f128R Q) (fun _ _ _=>False) (f128R Q) = _ from (seq_eq (by kernel_rfl:(sub f128B []) = .seq (sub f128B [N]) (sub f128B [Y])) (seq_eq (by kernel_rfl:(sub f128B [Y]) = .seq (sub f128B [Y,N]) (sub f128B [Y,Y])) (seq_eq (by kernel_rfl:(sub f128B [Y,Y]) = .seq (sub f128B [Y,Y,N]) (sub f128B [Y,Y,Y])) (f128j1_eq Q) (seq_eq (by kernel_rfl:(sub f128B [Y,Y,N]) = .seq (sub f128B [Y,Y,N,N]) (sub f128B [Y,Y,N,Y])) (block_eq (by kernel_rfl:(sub f128B [Y,Y,N,Y]) = .block 0 (sub f128B [Y,Y,N,Y,N])) (f128l1_eq Q _)) rfl)) rfl) rfl)) h
end
noncomputable section
set_option maxRecDepth 1000000
def f166j2 (Q:AV→St→Prop) (t1 t8:AV) (s:St):Prop :=
 Bnd (bn .lss 3 t1 (.int .i64 0)) fun t52 =>
 IfP t52
 (Q (.tup [.nils,(.int .i64 2)]) (adv s 4))
 (Q (.tup [t8,(.int .i64 0)]) (adv s 5))
def f166j3 (Q:AV→St→Prop) (ih1:AV→AV→AV→AV→AV→St→Prop) (t29 t1 t8 t27 t28:AV) (s:St):Prop :=
 Bnd (bn .add 3 t29 (.int .i64 1)) fun t50 =>
 ih1 t1 t8 t27 t28 t50 (adv s 2)
def f166j4 (Q:AV→St→Prop) (ih1:AV→AV→AV→AV→AV→St→Prop) (ih2:AV→AV→AV→AV→AV→AV→AV→AV→St→Prop) (t42 t1 t8 t10 t27 t28 t29 t41:AV) (s:St):Prop :=
 Bnd (bn .add 3 t42 (.int .i64 1)) fun t49 =>
 ih2 t1 t8 t10 t27 t28 t29 t41 t49 (adv s 2)
def f166l2s (Q:AV→St→Prop) (ih1:AV→AV→AV→AV→AV→St→Prop) (ih2:AV→AV→AV→AV→AV→AV→AV→AV→St→Prop) (t1 t8 t10 t27 t28 t29 t41 t42:AV) (s:St):Prop :=
 Bnd (bn .lss 3 t42 t41) fun t43 =>
 IfP t43
 (Bnd (shiftP 0 t10) fun t45 =>
 Bnd (ld 1 false t45 (adv s 7)) fun t46 =>
 Bnd (bsl 72 1 [(0,t46)]) fun t47 =>
 Bnd (bt .append #[72,72] [t8,t47] (s.nx + 5) (adv s 7)) fun r48 =>
 f166j4 Q ih1 ih2 t42 t1 r48.1 t10 t27 t28 t29 t41 r48.2)
 (f166j3 Q ih1 t29 t1 t8 t27 t28 (adv s 1))
def f166l2 (Q:AV→St→Prop) (ih1:AV→AV→AV→AV→AV→St→Prop) (n:Nat):AV→AV→AV→AV→AV→AV→AV→AV→St→Prop:=Nat.rec (motive:=fun _=>AV→AV→AV→AV→AV→AV→AV→AV→St→Prop) (fun _ _ _ _ _ _ _ _ _=>False) (fun _ ih=>f166l2s Q ih1 ih) n
def f166l1s (Q:AV→St→Prop) (ih1:AV→AV→AV→AV→AV→St→Prop) (t1 t8 t27 t28 t29:AV) (s:St):Prop :=
 Bnd (bn .lss 3 t29 t28) fun t30 =>
 IfP t30
 (Bnd (ixS 2 t27 t29) fun t31 =>
 Bnd (ld 2 true t31 (adv s 5)) fun t32 =>
 Bnd (zr 109) fun z10 =>
 Bnd (sto 2 (.ptr (s.nx + 3) 0) t32 ((adv s 5).set (s.nx + 3) (some (.cells z10.cells 109 true true)))) fun s1 =>
 Bnd (shiftP 1 (.ptr (s.nx + 3) 0)) fun t33 =>
 Bnd (ld 1 false t33 (adv s1 7)) fun t34 =>
 Bnd (bt .len #[72] [t8] (s1.nx + 4) (adv s1 7)) fun r37 =>
 Bnd (bn .sub 3 t1 r37.1) fun t38 =>
 Bnd (bn .gtr 3 t34 t38) fun t39 =>
 IfP t39
 (Q (.tup [.nils,(.int .i64 2)]) (adv r37.2 2))
 (Bnd (shiftP 1 (.ptr (s.nx + 3) 0)) fun t40 =>
 Bnd (ld 1 false t40 (adv r37.2 3)) fun t41 =>
 ∃ n,f166l2 Q ih1 n t1 t8 (.ptr (s.nx + 3) 0) t27 t28 t29 t41 (.int .i64 0) (adv r37.2 3)))
 (f166j2 Q t1 t8 (adv s 1))
def f166l1 (Q:AV→St→Prop) (n:Nat):AV→AV→AV→AV→AV→St→Prop:=Nat.rec (motive:=fun _=>AV→AV→AV→AV→AV→St→Prop) (fun _ _ _ _ _ _=>False) (fun _ ih=>f166l1s Q ih) n
def f166j1 (Q:AV→St→Prop) (t0 t1:AV) (s:St):Prop :=
 Bnd (bt .len #[25] [t0] (s.nx + 2) (adv s 4)) fun r28 =>
 ∃ n,f166l1 Q n t1 .nils t0 r28.1 (.int .i64 0) r28.2
def f166j5 (Q:AV→St→Prop) (ih3:AV→AV→AV→AV→AV→St→Prop) (t13 t0 t1 t11 t12:AV) (s:St):Prop :=
 Bnd (bn .add 3 t13 (.int .i64 1)) fun t26 =>
 ih3 t0 t1 t11 t12 t26 (adv s 2)
def f166l3s (Q:AV→St→Prop) (ih3:AV→AV→AV→AV→AV→St→Prop) (t0 t1 t11 t12 t13:AV) (s:St):Prop :=
 Bnd (bn .lss 3 t13 t12) fun t14 =>
 IfP t14
 (Bnd (ixS 2 t11 t13) fun t15 =>
 Bnd (ld 2 true t15 (adv s 5)) fun t16 =>
 Bnd (zr 109) fun z7 =>
 Bnd (sto 2 (.ptr (s.nx + 3) 0) t16 ((adv s 5).set (s.nx + 3) (some (.cells z7.cells 109 true true)))) fun s1 =>
 Bnd (shiftP 0 (.ptr (s.nx + 3) 0)) fun t17 =>
 Bnd (ld 1 false t17 (adv s1 9)) fun t18 =>
 CallPu Tryz.env 181 [t18] (adv s1 9) fun t19 s2 =>
 Bnd (un .not t19) fun t20 =>
 Gd (wantV t20 false) s2 (fun k=>Bnd (shiftP 1 (.ptr (s.nx + 3) 0)) fun v=>k v s2) fun t22 s3 =>
 Gd (wantV t20 false) s3 (fun k=>Bnd (ld 1 false t22 s3) fun v=>k v s3) fun t23 s4 =>
 Gd (wantV t20 false) s4 (fun k=>Bnd (bn .lss 3 t23 (.int .i64 1)) fun v=>k v s4) fun t24 s5 =>
 Bnd (pickV t20 (.bool true) t24) fun t25 =>
 IfP t25
 (Q (.tup [.nils,(.int .i64 1)]) (adv s5 2))
 (f166j5 Q ih3 t13 t0 t1 t11 t12 s5))
 (f166j1 Q t0 t1 (adv s 1))
def f166l3 (Q:AV→St→Prop) (n:Nat):AV→AV→AV→AV→AV→St→Prop:=Nat.rec (motive:=fun _=>AV→AV→AV→AV→AV→St→Prop) (fun _ _ _ _ _ _=>False) (fun _ ih=>f166l3s Q ih) n
def f166 (Q:AV→St→Prop) (t0 t1:AV) (s:St):Prop :=
 Bnd (bt .len #[25] [t0] (s.nx + 3) (adv s 5)) fun r12 =>
 ∃ n,f166l3 Q n t0 t1 t0 r12.1 (.int .i64 0) r12.2
abbrev f181B:Code:=bodyOf Tryz.f181
abbrev f181R:=rK Tryz.f181
abbrev f181C:=codeP Tryz.env 181 (Tryz.env.kp 181)
def f181 (Q:AV→St→Prop) (t0:AV) (s:St):Prop :=
 Bnd (bn .geq 3 t0 (.int .i64 0)) fun t4 =>
 Gd (wantV t4 true) (adv s 8) (fun k=>k t0 (adv s 8)) fun t6 s1 =>
 Gd (wantV t4 true) s1 (fun k=>Bnd (bn .leq 3 t6 (.int .i64 196607)) fun v=>k v s1) fun t7 s2 =>
 Bnd (pickV t4 t7 (.bool false)) fun t8 =>
 Q t8 s2
theorem f181_run (t0:AV) (s:St) {Q:AV→St→Prop} (h:f181 Q t0 s):∃ r s',WideC Tryz.env 181 [t0] s r s'∧Q r s' :=
 wide_ofA (h:=181) (fn:=Tryz.f181) (c:=sub f181B []) (show f181C (sub f181B []) (f181R Q) (fun _ _ _=>False) (f181R Q) = _ from rfl) h
end
end Go.Proofs.YtdehdahimkcakaaGreatDoor
