/- Texts joined by wip/tools/pack.py: Eqs. -/
import Derived.Laws.StructEq
import Derived.Test.YtdehdahimkcakaaGreatDoorXg
open Nat renaming reduceAdd→Z0, reduceEqDiff→Z1
set_option linter.unusedSimpArgs false
set_option linter.unusedVariables false
namespace Go.Proofs.YtdehdahimkcakaaGreatDoor.Ai
open Go
noncomputable section
section
variable {P:Program} {T:Ty}
theorem bKa (hT:dO P T) {t t0 t1:TypeId} {f0 f1:Field} (hg:P.eqGuardType P.depth t=false) (hu:P.underlying t=some (.struct (P.fieldsOf t))) (hp:P.stoodInHeld t=false) (hf:(P.fieldsOf t).toList=[f0,f1]) (n0:f0.name≠"_") (n1:f1.name≠"_") (o0:f0.offset=0) (o1:f1.offset=1) (y0:f0.type=t0) (y1:f1.type=t1)
  (u0:P.underlying t0=some (.int .i64)) (u1:P.underlying t1=some (.int .i64)) (l0:eN T t0=some (1,false)) (l1:eN T t1=some (1,false)) (hz:zero T t=some (.agg [.int .i64 0,.int .i64 0])):P.eqGuardType P.depth t=false /\
 ∀ (F:Fz) (ρ:fD) (W:World) (a b:List AV) (r:Bool) (u v:Value),(zero T t).any (fun z=>kC z.cells a&&kC z.cells b)=true->mD a b=some r->VR T F ρ (.agg a) u->VR T F ρ (.agg b) v->(Op.equal t u v).run P W=.ok r W:=by
 refine ⟨hg,fun F ρ W a b r u v hl hc hua hvb=>?_⟩
 have shape:∀ c:List AV,kC [.int .i64 0,.int .i64 0] c=true->∃ x n,c=[.int .i64 x,.int .i64 n]:=fun c h=>by
  cases c with
  | nil=>cases h
  | cons c0 c =>
   cases c0 with
   | int k0 x =>
    cases c with
    | nil=>simp [kC] at h
    | cons c1 c =>
     cases c1 with
     | int k n =>
      cases c with
      | nil =>simp only [kC,m059,bN,decide_eq_true_eq] at h;obtain ⟨h1,h2⟩:=h;subst h1 h2;exact ⟨x,n,rfl⟩
      | cons c2 c=>simp [kC] at h
     | _=>simp [kC] at h
   | _=>simp [kC] at h
 rw [hz] at hl;simp only [Option.any_some,AV.cells,bN] at hl;obtain ⟨x,n,rfl⟩:=shape a hl.1;obtain ⟨y,m,rfl⟩:=shape b hl.2;simp only [mD,jZ,if_true,m000] at hc;obtain ⟨us,rfl,hus⟩:=oI hua;obtain ⟨vs,rfl,hvs⟩:=oI hvb;obtain ⟨a0,e0,k0⟩:=part_ok (W:=W) hT l0 hus (off:=0) (r:=.int .i64 x) rfl;obtain ⟨b0,e1,k1⟩:=part_ok (W:=W) hT l0 hvs (off:=0) (r:=.int .i64 y) rfl;obtain ⟨a1,e2,k2⟩:=part_ok (W:=W) hT l1 hus (off:=1) (r:=.int .i64 n) rfl;obtain ⟨b1,e3,k3⟩:=part_ok (W:=W) hT l1 hvs (off:=1) (r:=.int .i64 m) rfl;cases k0;cases k1;cases k2;cases k3;show (Op.equalIn (9999+1) t _ _).run P W=_;rw [run_equalIn_struct W 9999 t us vs hu hp,hf];simp only [Op.eqFields,n0,n1,ne_eq,not_false_eq_true,if_true,y0,y1,o0,o1,Sem.run_bind,e0,e1,Result.andThen_ok,run_equalIn_int W 9998 t0 .i64 .i64 x y u0]
 cases hq:(x==y) with
 | false =>rw [hq] at hc;simp only [decide_true,m031,m035] at hc;subst hc;simp
 | true =>rw [hq] at hc;simp only [decide_true,m031,m059] at hc;subst hc;simp only [m025,m015,if_false,Sem.run_bind,e2,e3,Result.andThen_ok,run_equalIn_int W 9998 t1 .i64 .i64 n m u1];cases (n==m)<;>simp
end
end
end Go.Proofs.YtdehdahimkcakaaGreatDoor.Ai
