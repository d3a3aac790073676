/- Texts joined by wip/tools/pack.py: Law. -/
import Derived.OpenShut
import Derived.Deep.DeepHandedRow
import Derived.Lib.LaidTab
import Derived.Test.YtdehdahimkcakaaGreatDoorXj
open Nat renaming reduceAdd→Z0, reduceEqDiff→Z1
set_option linter.unusedSimpArgs false
set_option linter.unusedVariables false
namespace Go.Proofs.YtdehdahimkcakaaGreatDoor.Ai
open Go
noncomputable section
section
variable {H:Type} {enc:TypeId×Value->H} {P:Program} {T:Ty} {E:lX} {W W':World}
theorem R.start (T:Ty) (W:World):R T W.cell? ρ0 St.empty W :=
 ⟨fun id b h=>(by cases h),fun i j β z z' h=>absurd rfl h,fun a v h=>⟨h,fun i z h=>absurd rfl h⟩,fun i _=>rfl⟩
theorem SV {F':Fz} {ρ':fD} {s':St} (h:dM St.empty ρ0 W.cell? W s' ρ' F' W') (may:MemPlace->Prop):W.keptBut W' may/\(∀ a v,W.cell? a=some v->W'.cell? a=some v):=by
 have hsame:∀ i,i < W.heap.size->W'.heap[i]?=W.heap[i]?:=fun i hi=>h.same i hi fun ⟨j,z,hj,_⟩=>hj rfl;refine ⟨⟨h.os,h.output,fun i hi=>?_⟩,fun a v ha=>?_⟩
 ·rw [hsame i hi]
  cases hh:W.heap[i]? with
  | none=>rfl
  | some o=>cases o<;>first | exact ⟨rfl,rfl,rfl,fun _ _=>rfl⟩ | exact .inr ⟨rfl,rfl⟩ | rfl
 ·have hb:=World.block_lt_of_cell? W a ha;unfold World.cell? at ha ⊢;rw [hsame _ hb];exact ha
theorem aEy (hE:AZ P E) {f:FuncId} {fn:Func} (hf:P.funcs[f]?=some fn) (hb:fn.body.isSome=true) (hn:fn.name≠"runtime.NumGoroutine") {args:List AV} {r:AV} {s':St} {vals:Array Value}
  (hw:WideC E f args St.empty r s') (hcr:CR E.P W.cell? ρ0 args vals.toList) (hG:GlobOk E.P E.glob W.cell? W) :
  Calls P f vals W fun e W'=>∃ v,e=.returned v/\(∃ F' ρ',VR E.P F' ρ' r v/\dM St.empty ρ0 W.cell? W s' ρ' F' W'):=by
 obtain ⟨n,hw⟩:=hw;have hd:=yZ hE n f args St.empty r s' hw vals ρ0 W.cell? W hcr (R.start _ _) hG
 have hrun:(callFunc f vals).run P W=.ok (.enter f vals) W:=by
  have hnm:(fn.name == "runtime.NumGoroutine")=false:=by simpa using hn
  have hbn:fn.body.isNone=false:=by cases hbb:fn.body with | none=>rw [hbb] at hb;cases hb | some c=>rfl
  simp only [callFunc,Sem.run_bind,run_program,Result.andThen_ok,hf,hnm,hbn,m015,if_false,Sem.run_pure]
 rcases hd with ⟨v,W',h1,_⟩ | ⟨W',h1,_⟩ | ⟨g,as,h1,h2⟩
 ·rw [hrun] at h1;cases h1
 ·rw [hrun] at h1;cases h1
 ·rw [hrun] at h1;cases h1;refine h2.mono fun e W' he=>?_
  cases e with
  | returned v=>obtain ⟨ρ',F',k1,k2,k3,_⟩:=he;exact ⟨v,rfl,F',ρ',k1,k3⟩
  | panicked c=>exact he.elim
  | outgrown=>exact he.elim
theorem aTn (hT:dO P T) {S:List Nat} (hS:∀ t∈S,iO T S t=true):∀ (ts:List TypeId) (vs:List Value) (ds:List (DataW H)) (ps:List MemPlace),(∀ t∈ts,t∈S) ->
  (∀ (j:Nat) t v,ts[j]?=some t->vs[j]?=some v->Value.okWide P W .any 0 t v)->DataW.TrodAll enc P W 0 (fun _=>true) true ts vs ds ps ->
  CR T W.cell? ρ0 (ds.map dAV) vs/\∀ W',(∀ a v,W.cell? a=some v->W'.cell? a=some v)->DataW.TrodAll enc P W' 0 (fun b=>decide (b < W.heap.size)) true ts vs ds ps:=by
 intro ts
 induction ts with
 | nil =>intro vs ds ps _ _ h;obtain ⟨rfl,rfl,rfl⟩:=ChangeShapes.trodAll_nil h;exact ⟨CR.nil,fun _ _=>h⟩
 | cons t ts ih =>
  intro vs ds ps hts hok h;obtain ⟨v,vs1,d,ds1,p,q,rfl,rfl,rfl,⟨fuel,h1⟩,h2⟩:=ChangeShapes.trodAll_cons h;have htS:=hts t (m007 ..);obtain ⟨k1,k2⟩:=ih vs1 ds1 q (fun t ht=>hts t (m005 _ ht)) (fun j t v a b=>hok (j+1) t v (by simpa using a) (by simpa using b)) h2;have hv:=hok 0 t v rfl rfl;refine ⟨CR.cons ?_ k1,fun W' hk=>⟨p,q,⟨fuel,(JD hT hS hk (ρ:=ρ0) fuel t _ d p htS h1).2.2⟩,k2 W' hk,rfl⟩⟩;have hr:=(JD hT hS (W':=W) (fun _ _ h=>h) (ρ:=ρ0) fuel t _ d p htS h1).1;have hsh:=hS t htS
  have single:∀ (x:Value),v=x->(∀ l,dAV d≠.agg l)->(∀ l,x≠.agg l)->VR T W.cell? ρ0 (dAV d) v:=fun x hx hd hxa=>by
   subst hx;have e1:(dAV d).cells=[dAV d]:=by cases hdd:dAV d<;>first | rfl | exact absurd hdd (hd _)
   have e2:v.cells.toList=[v]:=by cases v<;>first | rfl | exact absurd rfl (hxa _)
   have hr:CR T W.cell? ρ0 (dAV d).cells v.cells.toList:=hr;rw [e1,e2] at hr;exact hr.2 0 (by simp) (by simp)
  have agg:∀ vs,v=.agg vs->(∃ l,dAV d=.agg l)->VR T W.cell? ρ0 (dAV d) v:=fun vs hx ⟨l,hl⟩=>by subst hx;have hr:CR T W.cell? ρ0 (dAV d).cells vs.toList:=hr;rw [hl] at hr ⊢;exact VR.agg_cr hr
  unfold iO at hsh
  cases hi:T t with
  | none=>rw [hi] at hsh;split at hsh<;>simp_all
  | some i =>
  cases hu:dZ T t with
  | none=>rw [hu,hi] at hsh;simp at hsh
  | some ud =>
  have hP:P.underlying t=some ud:=cH hT hu;rw [hu,hi] at hsh;have hcell:(∀ fs,ud≠.struct fs)->(∀ n e,ud≠.array n e)->Cell.okWide P W .any 0 t v:=fun a b=>by unfold Value.okWide at hv;rw [hP] at hv;cases ud<;>first | exact hv | exact absurd rfl (a _) | exact absurd rfl (b _ _)
  cases fuel with
  | zero=>simp [DataW.trod] at h1
  | succ fuel =>
  unfold DataW.trod at h1;rw [hP] at h1
  cases ud with
  | bool =>
   have hc:=hcell (fun _ h=>nomatch h) (fun _ _ h=>nomatch h);have hna:∀ l,v≠.agg l:=by rintro l rfl;simp [Cell.okWide,hP,Cell.ok] at hc
   refine single v rfl (fun l=>?_) hna;cases v<;>first | exact absurd rfl (hna _) | (simp [Value.cells] at h1;done) | (simp [Value.cells] at h1;rw [<- h1.1];simp [dAV])
  | int k =>
   have hc:=hcell (fun _ h=>nomatch h) (fun _ _ h=>nomatch h);have hna:∀ l,v≠.agg l:=by rintro l rfl;simp [Cell.okWide,hP,Cell.ok] at hc
   refine single v rfl (fun l=>?_) hna;cases v<;>first | exact absurd rfl (hna _) | (simp [Value.cells] at h1;done) | (simp [Value.cells] at h1;rw [<- h1.2.1];simp [dAV])
  | string =>
   have hc:=hcell (fun _ h=>nomatch h) (fun _ _ h=>nomatch h);have hna:∀ l,v≠.agg l:=by rintro l rfl;simp [Cell.okWide,hP,Cell.ok] at hc
   refine single v rfl (fun l=>?_) hna;cases v<;>first | exact absurd rfl (hna _) | (simp [Value.cells] at h1;done) | (simp [Value.cells] at h1;rw [<- h1.2.1];simp [dAV])
  | slice e =>
   have hc:=hcell (fun _ h=>nomatch h) (fun _ _ h=>nomatch h);have hna:∀ l,v≠.agg l:=by rintro l rfl;simp [Cell.okWide,hP,Cell.ok] at hc
   refine single v rfl (fun l=>?_) hna
   cases v with
   | slice a len cap =>
    cases a with
    | none =>simp only [Value.cells] at h1;cases len<;>cases cap<;>simp at h1;rw [<- h1.1];simp [dAV]
    | some a =>
     simp only [Value.cells] at h1
     split at h1
     ·simp only [m028,m022,m001] at h1;obtain ⟨_,_,_,_,rfl,_⟩:=h1;simp [dAV]
     ·cases h1
   | agg l=>exact absurd rfl (hna _)
   | _=>simp [Value.cells] at h1
  | struct fs =>
   unfold Value.okWide at hv;rw [hP] at hv;obtain ⟨cs,rfl,_⟩:=hv;refine agg cs rfl ?_;have h1:(if cs.toList.length=P.cellsOf t then (fs.toList.mapM fun f=>DataW.trod enc P W 0 (fun _=>true) true fuel f.type ((cs.toList.drop f.offset).take (P.cellsOf f.type))).map fun xs=>((.agg (xs.map (·.1)),xs.flatMap (·.2)):DataW H×List MemPlace) else none)=some (d,p):=by simp only [Value.cells] at h1;exact h1
   split at h1
   ·simp only [m022,m001] at h1;obtain ⟨_,_,rfl,_⟩:=h1;exact ⟨_,by rw [dAV]⟩
   ·cases h1
  | array n e =>
   unfold Value.okWide at hv;rw [hP] at hv;obtain ⟨cs,rfl,_⟩:=hv;refine agg cs rfl ?_;have h1:(if cs.toList.length=P.cellsOf t then ((List.range n).mapM fun i=>DataW.trod enc P W 0 (fun _=>true) true fuel e ((cs.toList.drop (i * P.cellsOf e)).take (P.cellsOf e))).map fun xs=>((.agg (xs.map (·.1)),xs.flatMap (·.2)):DataW H×List MemPlace) else none)=some (d,p):=by simp only [Value.cells] at h1;exact h1
   split at h1
   ·simp only [m022,m001] at h1;obtain ⟨_,_,rfl,_⟩:=h1;exact ⟨_,by rw [dAV]⟩
   ·cases h1
  | _=>simp at hsh
def TyD (T:Ty):Nat->TypeId->DataW H->Prop
 | 0,_,_=>False
 | n+1,t,d=>match dZ T t with
  | some .bool=>∃ b,d=.lit (.bool b)
  | some (.int k)=>∃ m,d=.lit (.int k m)/\(Lit.int k m).wf=true
  | some .string=>∃ s,d=.lit (.string s)/\s.length<=maxLen
  | some (.slice e)=>d=.nil\/∃ l r,d=.slice l r/\l.length<=maxLen/\∀ x∈l,TyD T n e x
  | some (.struct fs)=>∃ l,d=.agg l/\l.length=fs.size/\∀ i (h:i < l.length) (h':i < fs.size),TyD T n fs[i].type l[i]
  | _=>True
theorem aTi {base:Nat} {sp:Nat->Bool} {held:Bool} (hT:dO P T) {S:List Nat} (hS:∀ t∈S,iO T S t=true):∀ (n:Nat) (t:TypeId) (cs:List Value) (d:DataW H) (ps:List MemPlace),t∈S->DataW.trod enc P W base sp held n t cs=some (d,ps)->TyD T n t d:=by
 intro n
 induction n with
 | zero=>intro t cs d ps _ h;simp [DataW.trod] at h
 | succ n ih =>
  intro t cs d ps ht h;have hsh:=hS t ht;unfold iO at hsh
  cases hi:T t with
  | none=>rw [hi] at hsh;split at hsh<;>simp_all
  | some i =>
  cases hu:dZ T t with
  | none=>rw [hu,hi] at hsh;simp at hsh
  | some ud =>
  have hP:P.underlying t=some ud:=cH hT hu;rw [hu,hi] at hsh;unfold TyD;rw [hu];unfold DataW.trod at h;rw [hP] at h
  cases ud with
  | bool =>
   match cs,h with
   | [.bool b],h=>simp only [m000,m001] at h;exact ⟨b,h.1.symm⟩
  | int k =>
   match cs,h with
   | [.int k' m],h =>
    simp only at h
    split at h
    ·rename_i hc;obtain ⟨rfl,hw⟩:=hc;simp only [m000,m001] at h;exact ⟨m,h.1.symm,hw⟩
    ·cases h
  | string =>
   match cs,h with
   | [.string b],h =>
    simp only at h
    split at h
    ·rename_i hc;simp only [m000,m001] at h;exact ⟨_,h.1.symm,by simpa using hc⟩
    ·cases h
  | slice e =>
   simp only [bN] at hsh;have he:=bL.1 hsh.1.2
   match cs,h with
   | [.slice none 0 0],h=>simp only [m000,m001] at h;exact .inl h.1.symm
   | [.slice (some a) len cap],h =>
    simp only at h
    split at h
    ·rename_i hc;simp only [m028,m022,m001] at h;obtain ⟨elems,hel,rest,hre,rfl,rfl⟩:=h
     obtain ⟨m1,m2,m3⟩:=nP (g:=fun i=>(W.cells? base (a.add (i * P.cellsOf e)) (P.cellsOf e)).bind (DataW.trod enc P W base sp held n e)) (p:=fun _ y=>TyD T n e y.1) hel fun i _ y hy=>⟨hy,by
      obtain ⟨ds,hd1,hd2⟩:=m028.1 hy
      exact ih e ds y.1 y.2 he hd2⟩
     simp only [List.length_range] at m2;refine .inr ⟨_,_,rfl,by simp [m2];omega,fun x hx=>?_⟩;obtain ⟨y,hy,rfl⟩:=m021.1 hx;obtain ⟨i,hi,rfl⟩:=List.mem_iff_getElem.1 hy;exact m3 i (by simp;omega) hi
    ·cases h
  | struct fs =>
   have h:(if cs.length=P.cellsOf t then (fs.toList.mapM fun f=>DataW.trod enc P W base sp held n f.type ((cs.drop f.offset).take (P.cellsOf f.type))).map fun xs=>((.agg (xs.map (·.1)),xs.flatMap (·.2)):DataW H×List MemPlace) else none)=some (d,ps):=by revert h;cases cs<;>exact id
   split at h
   ·simp only [m022,m001] at h;obtain ⟨xs,hxs,rfl,rfl⟩:=h
    have hmem:∀ (l:List Field) (o:Nat),nY T S l o i.size=true->∀ f∈l,f.type∈S:=by
     intro l
     induction l with
     | nil=>intro o _ f hf;cases hf
     | cons x l ihl =>
      intro o hf f hfm;simp only [nY] at hf
      cases hx:T x.type with
      | none=>rw [hx] at hf;cases hf
      | some fi =>
       rw [hx] at hf;simp only [bN] at hf;rcases m013.1 hfm with rfl | hfm
       ·exact bL.1 hf.1.2
       ·exact ihl _ hf.2 f hfm
    obtain ⟨m1,m2,m3⟩:=nP (g:=fun f:Field=>DataW.trod enc P W base sp held n f.type ((cs.drop f.offset).take (P.cellsOf f.type))) (p:=fun f y=>TyD T n f.type y.1) hxs fun f hf y hy=>⟨hy,ih f.type _ y.1 y.2 (hmem _ _ hsh f hf) hy⟩;refine ⟨_,rfl,by simp [m2],fun j h h'=>?_⟩;simp only [m070];have:=m3 j (by simpa using h') (by simpa using h);simpa using this
   ·cases h
  | _=>trivial
theorem aYy {base:Nat} {sp:Nat->Bool} {held:Bool} (hT:dO P T) {S:List Nat} (hS:∀ t∈S,iO T S t=true):∀ (ts:List TypeId) (vs:List Value) (ds:List (DataW H)) (ps:List MemPlace),(∀ t∈ts,t∈S)->DataW.TrodAll enc P W base sp held ts vs ds ps ->
  ds.length=ts.length/\∀ i (h:i < ts.length) (h':i < ds.length),∃ n,TyD T n ts[i] ds[i]:=by
 intro ts
 induction ts with
 | nil =>intro vs ds ps _ h;obtain ⟨rfl,rfl,rfl⟩:=ChangeShapes.trodAll_nil h;exact ⟨rfl,fun i h=>by simp at h⟩
 | cons t ts ih =>
  intro vs ds ps hts h;obtain ⟨v,vs1,d,ds1,p,q,rfl,rfl,rfl,⟨fuel,h1⟩,h2⟩:=ChangeShapes.trodAll_cons h;obtain ⟨k1,k2⟩:=ih vs1 ds1 q (fun t ht=>hts t (m005 _ ht)) h2;refine ⟨by simp [k1],fun i h h'=>?_⟩
  cases i with
  | zero=>exact ⟨fuel,aTi hT hS fuel t _ d p (hts t (m007 ..)) h1⟩
  | succ i=>exact k2 i (by simpa using h) (by simpa using h')
theorem QI:∀ (laid:List (String×DataW Unit)) (ps:List MemPlace),DataW.LaidVars P W laid ps->∀ nd∈laid,∃ g t cs fuel p,P.globalNamed nd.1=some g/\(P.globals[g]?).map (·.type)=some t/\W.var? P nd.1=some cs/\DataW.trod (fun _=>()) P W 0 (fun _=>true) false fuel t cs.toList=some (nd.2,p):=by
 intro laid
 induction laid with
 | nil=>intro ps _ nd h;cases h
 | cons x l ih =>
  intro ps h nd hm;obtain ⟨n,d⟩:=x;obtain ⟨g,t,cs,fuel,p,q,h1,h2,h3,h4,h5,_⟩:=h;rcases m013.1 hm with rfl | hm
  ·exact ⟨g,t,cs,fuel,p,h1,h2,h3,h4⟩
  ·exact ih q h5 nd hm
theorem aTx (hT:dO P T) {S:List Nat} (hS:∀ t∈S,iO T S t=true) {laid:List (String×DataW Unit)} (h:laidMet P laid W) {glob:Nat->Option (List AV)}
  (hg:∀ g cs,glob g=some cs->∃ nd∈laid,P.globalNamed nd.1=some g/\(∃ t∈S,(P.globals[g]?).map (·.type)=some t)/\cs=(dAV nd.2).cells):GlobOk T glob W.cell? W:=by
 intro g cs hgc;obtain ⟨nd,hnd,h1,⟨t,ht,h2⟩,rfl⟩:=hg g cs hgc;obtain ⟨ps,hl,_⟩:=h;obtain ⟨g',t',vs,fuel,p,k1,k2,k3,k4⟩:=QI laid ps hl nd hnd;rw [h1] at k1;cases k1;rw [h2] at k2;cases k2;have hr:CR T W.cell? (fun _=>none) (dAV nd.2).cells vs.toList:=(JD hT hS (W':=W) (fun _ _ h=>h) (ρ:=fun _=>none) fuel t _ nd.2 p ht k4).1;refine ⟨⟨fun j=>(vs[j]?).getD undef,fun j hj=>?_⟩,fun hne=>?_⟩
 rotate_left
 ·have hh:W.var? P nd.1=some vs:=k3;unfold World.var? at hh;rw [h1] at hh;simp only [Option.bind_some] at hh
  split at hh
  ·rename_i C e fr hc;simp only [m000] at hh;subst hh;exact ⟨_,_,_,hc,by have:=hr.1;simpa using this.symm⟩
  ·cases hh
 have hj':j < vs.size:=by have:=hr.1;simp at this;omega
 have:=World.var?_cell h1 k3 j;rw [m016 hj'] at this;refine ⟨by rw [this];simp only [m016 hj',Option.getD_some],?_⟩;have h3:=hr.2 j hj (by simpa using hj');simpa [m016 hj'] using h3
theorem law_contract (hE:AZ P E) {S:List Nat} (hS:∀ t∈S,iO E.P S t=true) {f:FuncId} {fn:Func} (hf:P.funcs[f]?=some fn) (hb:fn.body.isSome=true) (hn:fn.name≠"runtime.NumGoroutine") {tb:TypeId} (hres:fn.resultTypes=#[tb]) (htb:P.underlying tb=some .bool)
  (hpar:∀ t∈fn.params.toList,t∈S) {spec:ChangeSpec} (hvars:spec.vars=[]) (hspec:∀ ds:List (DataW H),ds.length=fn.params.size->spec.fn H ds={ results:=[.lit (.bool true)],args:=ds })
  {base:Nat} {args:Array Value} {ds gs:List (DataW H)} {before:List MemPlace} (hval:∀ (j:Nat) t v,fn.params[j]?=some t->args[j]?=some v->Value.okWide P W .any base t v)
  (hW:DataW.Whole enc P fn.params.toList spec.vars false W args.toList ds gs before) (hG:GlobOk E.P E.glob W.cell? W)
  (hrun:(∀ i (h:i < fn.params.size) (h':i < ds.length),∃ n,TyD E.P n fn.params[i] ds[i])->ds.length=fn.params.size->∃ s',WideC E f (ds.map dAV) St.empty (.bool true) s') :
  Calls P f args W fun e W'=>∃ v,e=.returned v/\spec.post enc P fn false true false false W args v W':=by
 have hW':=hW;obtain ⟨p,q,hA,hV,rfl,hfz,hnd⟩:=hW
 obtain ⟨rfl,rfl⟩:gs=[]/\q=[]:=by
  rw [hvars] at hV
  cases gs with
  | nil=>exact ⟨rfl,hV⟩
  | cons g r=>exact absurd hV (by intro h;cases h)
 obtain ⟨a1,a2⟩:=aTn hE.ty hS fn.params.toList args.toList ds p hpar (fun j t v x y=>Value.okWide_any_base (hval j t v (by simpa using x) (by simpa using y))) hA;obtain ⟨t1,t2⟩:=aYy hE.ty hS fn.params.toList args.toList ds p hpar hA;have hlen:ds.length=fn.params.size:=by simpa using t1
 obtain ⟨s',hw⟩:=hrun (fun i h h'=>by have:=t2 i (by simpa using h) h';simpa using this) hlen;refine (aEy hE hf hb hn hw a1 hG).mono fun e W' ⟨v,he,F',ρ',hv,hs⟩=>⟨v,he,?_⟩;cases hv;obtain ⟨_,hk⟩:=SV hs (fun _=>False);have hsp:=hspec ds hlen;refine ⟨ds,[],p++[],[],p,[],hW',?_,?_,?_,(SV hs _).1,fun h=>nomatch h⟩
 ·rw [m011,hsp,hres];exact ⟨[],[],⟨1,by unfold DataW.trod;rw [htb];rfl⟩,rfl,rfl⟩
 ·rw [m011,hsp];exact a2 W' hk
 ·rw [hvars,m011,hsp];exact rfl
end
end
end Go.Proofs.YtdehdahimkcakaaGreatDoor.Ai
