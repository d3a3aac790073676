/- Texts joined by wip/tools/pack.py: Mu,Kc,Kd,Ke,Cl,Kf,Kg,Kh,Ki. -/
import Derived.Test.YtdehdahimkcakaaGreatDoorYs
open Nat (reduceAdd reduceEqDiff)
set_option linter.unusedSimpArgs false
set_option linter.unusedVariables false
set_option maxHeartbeats 4000000
set_option maxRecDepth 100000
namespace Go.Proofs.YtdehdahimkcakaaGreatDoor
open Go Ai
noncomputable section
def JZ (ps:List UInt8->List Nat×Int):Prop:=∀ x:List UInt8,x.length<=2 ^ 30->bA mEv 127 [.str x] (.tup [fX (ps x).1,.int .i64 (ps x).2])/\cG (ps x).1/\(ps x).1.length<=2 ^ 20
theorem ZZ:∀ (n:Nat) (x:List UInt8),(vF n x).length<=n:=by
 intro n
 induction n with
 | zero=>intro x;exact bJ _
 | succ n ih =>
  intro x;unfold vF
  cases x with
  | nil=>simp
  | cons c r =>
   simp only;cases decide ((mP (c::r)).1 < 0)
   ·simp only [cond_false,List.length_cons];have:=ih ((c::r).drop (mP (c::r)).2.toNat);omega
   ·simp only [cond_true,List.length_cons];have:=ih r;omega
theorem YY:∀ (l:List Int) (out:List (Int×Int)),(nQ l out).1.length<=out.length+l.length:=by
 intro l
 induction l with
 | nil =>
  intro out;unfold nQ;cases decide ((out.length:Int) > 65536)
  ·exact bJ _
  ·exact mM _
 | cons c l ih =>
  intro out;unfold nQ;cases NW c
  ·exact mM _
  ·simp only [cond_true];have h1:=ih (jY out c);have h2:=LC out c;simp only [List.length_cons];omega
section
variable {s s':St} {p ib:Nat} {L:List Dc} {scs:List Ev} {σ:Sg} {F:List Nat} {K:aE} {ps:List UInt8->List Nat×Int} {L0:List Dc} {n j:Nat} {σ':Sg}
theorem bBr (r:List (Int×Int)×Int):aW (rtA r) 0=some (.sl false (r.1.map kQ))/\aW (rtA r) 1=some (.int .i64 r.2):=⟨rfl,rfl⟩
theorem bFh (hps:JZ ps) (hT:qM ps n):qM ps (n+1):=by
 intro s p ib L0 j scs σ F x r σ' fr hR hok hL hfit hw hc;have hc:iJ ps true (T ps true n) (L0.take j) scs.flatten x σ=some (r,σ'):=hc;have hF:=hR.lt fr;have hp:=hF p hR.pin;obtain ⟨xin,vs,jm,FB,c,rfl⟩:=hR;have hR:pB s p ib (L0.take j) scs σ (p::jm::(FB++bF xin vs)):=⟨xin,vs,jm,FB,c,rfl⟩;refine aUm _ _ _ ?_;unfold f75;refine ⟨cI x,?_⟩;have heq3:∀ u v:Int,bn .eql 3 (.int .i64 u) (.int .i64 v)=some (.bool (u==v)):=fun _ _=>bin_eql;have hne34:∀ u v:Int,bn .neq 34 (.int .i64 u) (.int .i64 v)=some (.bool (u != v)):=fun _ _=>bin_neq;have same:∀ (S:St) (r0:Int×Int),EF [] s S->(some (r0,σ):Rt)=some (r,σ')->(mT r0=mT r/\∃ F',kC s p ib (L0.take j) scs (p::jm::(FB++bF xin vs)) σ' S F'):=fun S r0 e h=>by simp only [m000,m001] at h;obtain ⟨rfl,rfl⟩:=h;exact ⟨rfl,_,kC.same hR fr e⟩
 have bank:∀ (S s':St) (q:(Int×Int)×Bk),EF [] s S->wS q σ.2=some (r,σ')->zL S ib FB q.2 s'->(mT q.1=mT r/\∃ F',kC s p ib (L0.take j) scs (p::jm::(FB++bF xin vs)) σ' s' F'):=fun S s' q e h hb=>by simp only [wS,m000,m001] at h;obtain ⟨rfl,rfl⟩:=h;exact ⟨rfl,KN c fr e hb⟩
 have e0:∀ (k:Nat),0 < k->EF [] s (Ai.adv (s.set s.nx (some (.cells x.av.cells 33 true true))) k):=fun k hk=>⟨by simp only [adv_nx,set_nx];omega,fun b hb _=>by rw [adv_h,aB (by omega)],bW fr k (by omega)⟩;have hpn:¬ (p=s.nx):=by omega
 have hx30:=aWl hfit;unfold iJ at hc;simp only [aJv,wx,wy,reduceAdd,reduceEqDiff,reduceCtorEq]
 cases hl:x.lst with
 | true =>rw [hl,cond_true] at hc;simp only [dG,wx,wy,reduceAdd,reduceEqDiff,reduceCtorEq];obtain ⟨v,s1,t1,rfl,F1,t2⟩:=bDv hT hL (e0 12 (by omega)).fr (hR.ext fr (e0 12 (by omega))) hok x hfit hw hc;refine bO bHd ⟨_,s1,t1,?_⟩;simp only [AP,AD,wx,wy,reduceAdd,reduceEqDiff,reduceCtorEq];exact ⟨rfl,F1,t2.from (e0 12 (by omega)) hp⟩
 | false =>
 rw [hl,cond_false] at hc;simp only [bEy,heq3,wx,wy,reduceAdd,reduceEqDiff,reduceCtorEq]
 cases h4:(x.kind==4) with
 | true =>
  rw [h4,cond_true] at hc;obtain ⟨p1,p2,p3⟩:=hps x.txt hx30;simp only [aPy,wx,wy,reduceAdd,reduceEqDiff,reduceCtorEq];refine aP p1 (by simp [AV.closed]) ?_;have x0:aW (.tup [fX (ps x.txt).1,.int .i64 (ps x.txt).2]) 0=some (fX (ps x.txt).1):=rfl;have x1:aW (.tup [fX (ps x.txt).1,.int .i64 (ps x.txt).2]) 1=some (.int .i64 (ps x.txt).2):=rfl
  cases he:((ps x.txt).2 != 0) with
  | true =>rw [he,cond_true] at hc;simp only [x0,x1,hne34,he,wx,wy,reduceAdd,reduceEqDiff,reduceCtorEq];exact same _ (0,101) (e0 _ (by omega)) hc
  | false =>
   rw [he,cond_false] at hc;have hb24:lV 24 [(1,fX (ps x.txt).1)]=some (FG false (ps x.txt).1):=by rw [bFo];rfl
   simp only [x0,x1,hne34,he,wx,wy,reduceAdd,reduceEqDiff,reduceCtorEq];refine ⟨rfl,?_⟩;simp only [hpn,c.cell,hb24,if_false,wx,wy,reduceAdd,reduceEqDiff,reduceCtorEq];refine (bJq (e0 _ (by omega)).fr (c.ext fr (e0 _ (by omega))).bank false _ p2 p3).call bQs fun s1 hs=>?_;simp only [AP,AD,wx,wy,reduceAdd,reduceEqDiff,reduceCtorEq];exact bank _ _ _ (e0 _ (by omega)) hc hs
 | false =>
 rw [h4,cond_false] at hc
 cases h6:(x.kind==6) with
 | true =>rw [h6,cond_true] at hc;have hpl:=ZZ x.txt.length x.txt;have hpl:(KG x.txt).length<=2 ^ 30:=FM hpl hx30;have hrl:=YY (KG x.txt) [];simp only [List.length_nil] at hrl;simp only [heq3,h6,aPy,wx,wy,reduceAdd,reduceEqDiff,reduceCtorEq];refine aP (bQo x.txt hx30) (by simp [AV.closed]) ?_;refine aP (bPo (KG x.txt) hpl) (by simp [sV]) ?_;simp only [(bBr (nQ (KG x.txt) [])).1,(bBr (nQ (KG x.txt) [])).2,wx,wy,reduceAdd,reduceEqDiff,reduceCtorEq];refine ⟨rfl,?_⟩;simp only [hpn,c.cell,if_false,wx,wy,reduceAdd,reduceEqDiff,reduceCtorEq];refine (bGi (e0 _ (by omega)).fr (c.ext fr (e0 _ (by omega))).bank _ (by omega)).call bPv fun s1 hs=>?_;simp only [AP,AD,wx,wy,reduceAdd,reduceEqDiff,reduceCtorEq];exact bank _ _ _ (e0 _ (by omega)) hc hs
 | false =>
 rw [h6,cond_false] at hc
 cases h3:(x.kind==3) with
 | true =>rw [h3,cond_true] at hc;simp only [heq3,h6,h3,aPy,wx,wy,reduceAdd,reduceEqDiff,reduceCtorEq];obtain ⟨v,s1,t1,rfl,F1,t2⟩:=bCl hT hL (e0 23 (by omega)).fr (hR.ext fr (e0 23 (by omega))) hok (by omega) x.txt hc;refine bO bJx ⟨_,s1,t1,?_⟩;simp only [AP,AD,wx,wy,reduceAdd,reduceEqDiff,reduceCtorEq];exact ⟨rfl,F1,t2.from (e0 23 (by omega)) hp⟩
 | false =>rw [h3,cond_false] at hc;simp only [heq3,h6,h3,aJt,wx,wy,reduceAdd,reduceEqDiff,reduceCtorEq];exact same _ (0,101) (e0 _ (by omega)) hc
theorem XF (hps:JZ ps):∀ n,qM ps n:=by
 intro n
 induction n with
 | zero=>intro s p ib L0 j scs σ F x r σ' _ _ _ _ _ _ hc;cases hc
 | succ n ih=>exact bFh hps ih
theorem bQh:mEv.fz 30=true:=by kernel_rfl
theorem bOm:mEv.se 30=[false,true,true]:=by kernel_rfl
theorem SF {v:AV} (h:v.closed=true) (s:St):pur mEv.P s 12 v=some (v,[]):=dU 12 h
theorem aRz {s:St} {ib:Nat} {x y x' y':AV} {i j:List Nat} (hx:pur mEv.P s 12 x=some (x',i)) (hy:pur mEv.P s 12 y=some (y',j)):jR mEv.P s (mEv.se 30) [.ptr ib 0,x,y]=some ([.ptr ib 0,x',y'],i++(j++[])):=by rw [bOm];simp only [jR,hx,hy,Option.bind_some,Option.map_some,cond_true,cond_false]
theorem oI (L:List Dc):(AV.sl false (L.map Dc.av)).closed=true:=by simp only [AV.closed,m027,m031];exact eK _ _ eJ
theorem bDm (s:St) (ib:Nat) (L:List Dc) (x:Sx):jR mEv.P s (mEv.se 30) [.ptr ib 0,.sl false (L.map Dc.av),x.av]=some ([.ptr ib 0,.sl false (L.map Dc.av),x.av],[]):=aRz (SF (oI L) s) (SF (aS x) s)
theorem bCd (hps:JZ ps) {B B':Bk} {M':Mm} (fr:aI s) (hB:kK s ib B F) (hw:Wf B) (hL:rB L0) (x:Sx) (hfit:x.fit) (hwt:x.wt<=2 ^ 29) {r:Int×Int} {n:Nat} (hc:T ps true n L0 [] x (B,[])=some (r,(B',M'))):SC 30 [.ptr ib 0,.sl false (L0.map Dc.av),x.av] s ib F (r,B'):=by
 have hF:=hB.lt fr;have hib:=hF ib hB.mem;refine aSz _ _ _ _ ?_;unfold f30;refine ⟨cI x,?_⟩;have hb:∀ k,lV 124 [(0,.ptr ib 0),(1,.sl false (L0.map Dc.av)),(3,.map k)]=some (.agg [.ptr ib 0,.sl false (L0.map Dc.av),.nils,.map k]):=fun k=>by rw [aXq];rfl
 have hcl:∀ k,(AV.agg [.ptr ib 0,.sl false (L0.map Dc.av),.nils,.map k]).cells=[.ptr ib 0,.sl false (L0.map Dc.av),.nils,.map k]:=fun k=>rfl;have hone:∀ k,([.ptr ib 0,.sl false (L0.map Dc.av),.nils,.map k]:List AV).all AV.one=true:=fun k=>rfl;simp only [hb,hcl,hone,dG,wx,wy,reduceAdd,reduceEqDiff,reduceCtorEq];obtain ⟨S,hS⟩:∃ S,S=Ai.adv (((s.set s.nx (some (.cells x.av.cells 33 true true))).set (s.nx+5) (some (.map []))).set (s.nx+7) (some (.cells [.ptr ib 0,.sl false (L0.map Dc.av),.nils,.map (s.nx+5)] 124 true true))) 16:=⟨_,rfl⟩;rw [<- hS];have nS:S.nx=s.nx+16:=by rw [hS];rfl
 have gS:∀ x,x < s.nx->S.h x=s.h x:=fun a ha=>by rw [hS,adv_h,aB (by omega),aB (by omega),aB (by omega)]
 have eS:EF [] s S:=by refine ⟨by omega,fun a ha _=>gS a ha,fun a ha=>?_⟩;rw [nS] at ha;rw [hS,adv_h,aB (by omega),aB (by omega),aB (by omega)];exact fr a (by omega)
 have hmk:pB S (s.nx+7) ib (L0.take L0.length) [] (B,[]) ((s.nx+7)::(s.nx+5)::(F++bF .nils [])):=by refine ⟨.nils,[],s.nx+5,F,⟨by rw [m045,hS,adv_h,aG],hB.keep fun a ha=>gS a (hF a ha),by rw [hS,adv_h,aB (by omega),aG];rfl,.inl ⟨rfl,rfl⟩,trivial,by omega,fun h=>by have:=hF _ h;omega,fun h=>by have:=hF _ h;omega,fun a ha=>by cases ha⟩,rfl⟩
 have hok:rA ps L0 ([]:List Ev).flatten (B,[]):=⟨hw,(fun q hq=>by cases hq),DB ps L0 B⟩;obtain ⟨v,s1,t1,rfl,F1,t2⟩:=XF hps n S (s.nx+7) ib L0 L0.length [] (B,[]) _ x r (B',M') eS.fr hmk hok hL hfit (by simp only [List.length_nil];omega) (by rw [m045];exact hc);refine bO bCz ⟨_,s1,t1,?_⟩;simp only [AP,AD,wx,wy,reduceAdd,reduceEqDiff,reduceCtorEq];refine ⟨rfl,?_⟩;obtain ⟨⟨xin,vs,jm,FB,c,hF1⟩,e1,m1,_⟩:=t2
 have hsub:∀ a∈(s.nx+7)::(s.nx+5)::(F++bF .nils []),a∈F\/s.nx<=a:=fun a ha=>by
  simp only [m013,m003,bF,aF,m042,m011,m073,or_false] at ha;rcases ha with rfl | rfl | ha
  ·exact .inr (by omega)
  ·exact .inr (by omega)
  ·exact .inl ha
 refine ⟨FB,c.bank,(eS.sub (M':=F) fun a ha=>by cases ha).trans e1 fun a ha=>(hsub a ha).symm,fun a ha=>?_⟩;rcases m1 a (by rw [hF1];simp [ha]) with h | h
 ·exact hsub a h
 ·exact .inr (by omega)
end
end
noncomputable section
theorem qW {z id off:Nat} {v:AV} {c:List AV} {e:TypeId} {ex:Bool} {s:St} (h:s.h id=some (.cells c e ex true)) (hv:(c.drop off).take z=v.cells) (hl:off+z<=c.length) (ho:v.cells.all AV.one=true):dN z (.ptr id off) v s=some s:=by
 have hz:v.cells.length=z:=by rw [<- hv,m020,m058];omega
 show Ai.store z _ _ _=_;unfold Ai.store;simp only [h];rw [if_pos ⟨hz,hl,ho⟩];have:=AJ v.cells (c.take off) (c.drop off) (by rw [m058,hz];omega);rw [List.take_append_drop,m020,qJ (by omega)] at this;rw [this,<- hv,m020,m058,qJ (by omega),m019,List.take_append_drop,List.take_append_drop];congr 1;refine aRf (fun m=>?_) rfl;by_cases hm:m=id
 ·subst hm;rw [aG,h]
 ·rw [aB hm]
section
variable {t e:TypeId} {z b:Nat} {ag:Bool} {s s':St} {x:AV} {vs:List AV}
theorem OY {k:FuncId} (h:eO t e z ag b) (hp:mEv.prim k=some (cE Tryz.ty e)) (hrun:cE Tryz.ty e [x] s=bL e z b (.sl true []) (vs.flatMap AV.cells) (s.nx+5) ⟨s.h,s.nx+7⟩) (hw:∀ v∈vs,v.cells.length=z/\v.cells.all AV.one=true) (hne:vs≠[]) (hb:vs.length * b<=2 ^ 40) (hl:vs.length<=2 ^ 40) (fr:aI s) :
  ∃ s',WideC mEv k [x] s (.ref (s.nx+5) 0 vs.length none e) s'/\EF [] s s'/\s'.h (s.nx+5)=some (.cells (vs.flatMap AV.cells) e false true)/\s'.nx=s.nx+7:=by
 have hfl:=dJ hw;have hone:(vs.flatMap AV.cells).all AV.one=true:=m032.2 fun c hc=>by obtain ⟨v,hv,hc⟩:=List.mem_flatMap.1 hc;exact m032.1 (hw v hv).2 c hc
 have hem:(vs.flatMap AV.cells).isEmpty=false:=by
  cases hc:vs.flatMap AV.cells with
  | nil =>rw [hc] at hfl;have:=Nat.mul_pos (List.length_pos_iff.2 hne) h.pos;simp only [List.length_nil] at hfl;omega
  | cons x y=>rfl
 have hdiv:(vs.flatMap AV.cells).length / z=vs.length:=by rw [hfl];exact EB _ h.pos
 refine ⟨St.set ⟨s.h,s.nx+7⟩ (s.nx+5) (some (.cells (vs.flatMap AV.cells) e false true)),mV hp ?_,⟨by show s.nx<=s.nx+7;omega,fun j hj _=>aB (by omega),?_⟩,aG,rfl⟩
 ·rw [hrun];unfold bL;simp only [hem,hone,m025,m015,if_false,List.all_nil,if_true,m042,List.nil_append,dM,hdiv,rI hb hl,jV]
 ·intro j hj;have hj:s.nx+7<=j:=hj;rw [aB (by omega)];exact fr j (by omega)
theorem NZ {k:FuncId} (h:eO t e z ag b) (hp:mEv.prim k=some (cE Tryz.ty e)) (g:Jw e z s x vs) (hb:vs.length * b<=2 ^ 40) (hl:vs.length<=2 ^ 40) (fr:aI s) :
  ∃ r s',WideC mEv k [x] s r s'/\EF [] s s'/\((vs=[]/\(r=.nils\/r=.sl true []))\/(vs≠[]/\r=.ref (s.nx+5) 0 vs.length none e/\s'.h (s.nx+5)=some (.cells (vs.flatMap AV.cells) e false true))):=by
 obtain ⟨h1,⟨rfl,rfl⟩ | ⟨i,junk,m,rfl,h2,h3,h4⟩⟩:=g
 ·refine ⟨.nils,⟨s.h,s.nx+4⟩,mV hp ?_,⟨by show s.nx<=s.nx+4;omega,fun _ _ _=>rfl,fr.adv (n:=4)⟩,.inl ⟨rfl,.inl rfl⟩⟩;unfold cE;simp only [h.l,h.b]
 ·have hw:∀ v∈vs,v.cells.length=z/\v.cells.all AV.one=true:=fun v hv=>⟨(h1 v hv).1,(h1 v hv).2.1⟩;have hfl:=dJ hw;have hsrc:aR z (.ref i 0 vs.length none e) s=some (vs.flatMap AV.cells):=by simp only [aR,h2,m023,m048];rw [if_pos (by rw [m006,hfl];omega),<- hfl,List.take_left]
  have run:cE Tryz.ty e [.ref i 0 vs.length none e] s=bL e z b (.sl true []) (vs.flatMap AV.cells) (s.nx+5) ⟨s.h,s.nx+7⟩:=by unfold cE;simp only [h.l,h.b,mE,cond_true,hsrc,Option.bind_some]
  by_cases hne:vs=[]
  ·subst hne;refine ⟨.sl true [],⟨s.h,s.nx+7⟩,mV hp (by rw [run];rfl),⟨by show s.nx<=s.nx+7;omega,fun _ _ _=>rfl,fr.adv (n:=7)⟩,.inl ⟨rfl,.inr rfl⟩⟩
  ·obtain ⟨s',e1,e2,e3,_⟩:=OY h hp run hw hne hb hl fr;exact ⟨_,s',e1,e2,.inr ⟨hne,rfl,e3⟩⟩
theorem aJm {k:FuncId} (h:eO t e z ag b) (hp:mEv.prim k=some (cE Tryz.ty e)) (hw:∀ v∈vs,v.cells.length=z/\v.cells.all AV.one=true) (hne:vs≠[]) (hb:vs.length * b<=2 ^ 40) (hl:vs.length<=2 ^ 40) (fr:aI s) :
  ∃ s',WideC mEv k [.sl false vs] s (.ref (s.nx+5) 0 vs.length none e) s'/\EF [] s s'/\s'.h (s.nx+5)=some (.cells (vs.flatMap AV.cells) e false true)/\s'.nx=s.nx+7:=by
 refine OY h hp ?_ hw hne hb hl fr;have hall:vs.all (fun v=>v.cells.length==z)=true:=m032.2 fun v hv=>by simp [(hw v hv).1]
 cases vs with
 | nil=>exact absurd rfl hne
 | cons a l =>unfold cE;simp only [h.l,h.b];show cond (mE (.sl false (a::l))) ((aR z (.sl false (a::l)) s).bind fun c=>bL e z b (.sl true []) c (s.nx+5) ⟨s.h,s.nx+7⟩) none=_;simp only [mE,cond_true,aR,hall,if_true,Option.bind_some]
end
theorem bGc:mEv.prim 146=some (cE Tryz.ty 67):=by kernel_rfl
theorem bHy:mEv.prim 147=some (cE Tryz.ty 151):=by kernel_rfl
theorem aFp:mEv.prim 148=some (cE Tryz.ty 33):=by kernel_rfl
theorem bLg:mEv.fz 146=false:=by kernel_rfl
theorem aLt:mEv.fz 148=false:=by kernel_rfl
theorem JT {z i n k:Nat} {e:TypeId} {vs:List AV} {v:AV} (h1:∀ v∈vs,v.cells.length=z) (hn:n=vs.length) (hk:vs[k]?=some v) (ha:v=.agg v.cells):cB z (.ref i 0 n none e) (.int .i64 (k:Int))=some (.ptr i (k * z))/\Ai.part z true (k * z) (vs.flatMap AV.cells)=some v/\((vs.flatMap AV.cells).drop (k * z)).take z=v.cells/\k * z+z<=(vs.flatMap AV.cells).length:=by
 obtain ⟨d1,d2⟩:=rP h1 hk;have hlt:k < n:=by rw [hn];exact (m012.1 hk).1
 refine ⟨by simp [cB,pE,wR,hlt],?_,d1,d2⟩;unfold Ai.part;rw [if_pos rfl,if_pos d2,d1,<- ha]
theorem NU (y:Sx):y.av=.agg y.av.cells:=by cases y;rfl
theorem aWk {s:St} {l:Bool} {k p a:Int} {x:List UInt8} {its:List Sx} {xl:AV} (g:Gw 33 6 0 s xl (its.map Sx.av)):oX (Sx.mk l k x p a its).av (.agg [.bool l,.int .i64 k,.str x,.int .i64 p,.int .i64 a,xl]) s:=by
 obtain ⟨ids,hp,_⟩:=IZ yE g (fun y _=>aS y) (fun y _=>by cases y;rfl) 10;have hca:(AV.agg [.bool l,.int .i64 k,.str x,.int .i64 p,.int .i64 a,xl]).closed=false:=by simp [AV.closed,aX,g.not_closed]
 have q:∀ v:AV,v.closed=true->pur mEv.P s 11 v=some (v,[]):=fun v h=>dU 11 h;refine ⟨ids++[],?_⟩;unfold pur;rw [if_neg (by rw [hca];simp)];have e3:(Sx.mk l k x p a its).av=.agg [.bool l,.int .i64 k,.str x,.int .i64 p,.int .i64 a,.sl false (its.map Sx.av)]:=by rw [<- Sx.avs_eq];rfl
 rw [e3];simp only [dH,q _ (show (AV.bool l).closed=true from rfl),q _ (show (AV.int .i64 k).closed=true from rfl),q _ (show (AV.str x).closed=true from rfl),q _ (show (AV.int .i64 p).closed=true from rfl),q _ (show (AV.int .i64 a).closed=true from rfl),hp,Option.map_some,List.nil_append]
theorem aSu {s:St} {l:Bool} {k p a:Int} {x:List UInt8}:oX (Sx.mk l k x p a []).av (.agg [.bool l,.int .i64 k,.str x,.int .i64 p,.int .i64 a,.sl false []]) s:=⟨[],dU 12 rfl⟩
theorem l97 (l:Bool) (k p a:Int) (x:List UInt8) (items:List Sx) (hlen:items.length<=2 ^ 20) (ih:∀ y∈items,bA mEv 97 [y.av] y.av) (Q:aE) (b0 b1 i0:Nat) (hd:b0≠b1) (h01:i0≠b0) (h02:i0≠b1) (C:List AV) (hC:C.length=6)
  (hQ:∀ s,Gw 33 6 0 s (.ref i0 0 items.length none 33) (items.map Sx.av)->Q (.agg [.bool l,.int .i64 k,.str x,.int .i64 p,.int .i64 a,.ref i0 0 items.length none 33]) s) :
  ∀ (m i:Nat) (s:St),i+m=items.length->aI s->s.h b0=some (.cells [.bool l,.int .i64 k,.str x,.int .i64 p,.int .i64 a,.ref i0 0 items.length none 33] 33 true true)->s.h b1=some (.cells C 33 true true)->s.h i0=some (.cells ((items.map Sx.av).flatMap AV.cells) 33 false true) ->
   uK Q (m+1) (.ptr b0 0) (.ptr b1 0) (.int .i64 items.length) (.int .i64 i) s:=by
 intro m
 induction m with
 | zero =>
  intro i s hi fr h0 h1 h2;show tK Q (uK Q 0) _ _ _ _ s;have c1:decide ((i:Int) < (items.length:Int))=false:=by simp;omega
  have hp:Ai.part 6 true 0 [.bool l,.int .i64 k,.str x,.int .i64 p,.int .i64 a,.ref i0 0 items.length none 33]=some (.agg [.bool l,.int .i64 k,.str x,.int .i64 p,.int .i64 a,.ref i0 0 items.length none 33]):=rfl;have g:Gw 33 6 0 s (.ref i0 0 items.length none 33) (items.map Sx.av):=⟨fun v hv=>by obtain ⟨y,_,rfl⟩:=m021.1 hv;exact ⟨iA y,cI y⟩,.inr ⟨i0,mM _,by rw [m002],h2⟩⟩;simp only [tK,GD,c1,h0,hp,wx,wy,reduceAdd,reduceEqDiff,reduceCtorEq];rw [bI (id:=b1) (z:=6) (c:=C) (e:=33) (ex:=true) (v:=.agg [.bool l,.int .i64 k,.str x,.int .i64 p,.int .i64 a,.ref i0 0 items.length none 33]) (by rw [adv_h];exact h1) hC rfl rfl];simp only [Bnd_some,aG,wx,wy,reduceAdd,reduceEqDiff,reduceCtorEq];exact hQ _ (g.keep fun j hj=>by simp only [aF,m008] at hj;subst hj;rw [adv_h,aB h02])
 | succ m ihm =>
  intro i s hi fr h0 h1 h2;show tK Q (uK Q (m+1)) _ _ _ _ s;obtain ⟨y,hy⟩:∃ y,items[i]?=some y:=⟨_,m004 (by omega)⟩;have c1:decide ((i:Int) < (items.length:Int))=true:=by simp;omega
  obtain ⟨e1,e2,e3,e4⟩:=JT (z:=6) (i:=i0) (e:=33) (n:=items.length) (vs:=items.map Sx.av) (k:=i) (v:=y.av) (fun v hv=>by obtain ⟨y,_,rfl⟩:=m021.1 hv;exact iA y) (by rw [m002]) (by rw [m047,hy];rfl) (NU y);have hlt:i < items.length:=by omega
  simp only [tK,aFq,c1,h0,e1,h2,e2,wx,wy,reduceAdd,reduceEqDiff,reduceCtorEq];refine kB (ih y (m017 hy)) (by simp [aS]) ?_;simp only [e1,wx,wy,reduceAdd,reduceEqDiff,reduceCtorEq];refine ⟨fr _ (by omega),?_⟩;rw [qW (z:=6) (e:=33) (ex:=false) (by rw [adv_h];exact h2) e3 e4 (cI y)];simp only [Bnd_some,wx,wy,reduceAdd,reduceEqDiff,reduceCtorEq];rw [bU i items.length hlt (by have:maxLen=9223372036854775807:=rfl;omega)];exact ihm (i+1) _ (by omega) fr.adv h0 h1 h2
theorem c97:∀ x:Sx,x.fit->bA mEv 97 [x.av] x.av:=by
 refine BI fun l k x p a items ih ho=>?_;obtain ⟨hlen,hfi⟩:=vS ho;have hlen:items.length<=2 ^ 20:=hlen;have h5:(Sx.mk l k x p a items).av.cells[5]?=some (.sl false (items.map Sx.av)):=by rw [<- Sx.avs_eq];rfl
 have hz:(AV.agg [.bool false,.int .i64 0,.str [],.int .i64 0,.int .i64 0,.nils]).cells=[.bool false,.int .i64 0,.str [],.int .i64 0,.int .i64 0,.nils]:=rfl;refine cR (aVd _ _ ?_);unfold f97;refine ⟨cI _,?_⟩;simp only [bFj,hz,h5,wx,wy,reduceAdd,reduceEqDiff,reduceCtorEq];have hset:∀ v:AV,(Sx.mk l k x p a items).av.cells.set 5 v=[.bool l,.int .i64 k,.str x,.int .i64 p,.int .i64 a,v]:=fun v=>rfl;have S0:∀ v:AV,v.cells=[v]->v.one=true->∀ S:St,S.h St.empty.nx=some (.cells (Sx.mk l k x p a items).av.cells 33 true true)->dN 1 (.ptr St.empty.nx 5) v S=some (S.set St.empty.nx (some (.cells [.bool l,.int .i64 k,.str x,.int .i64 p,.int .i64 a,v] 33 true true))):=fun v h1 h2 S hS=>by rw [dW hS (by rw [iA];decide) h1 h2,hset]
 obtain ⟨S,hS⟩:∃ S,S=Ai.adv ((St.empty.set St.empty.nx (some (gL.cells (Sx.mk l k x p a items).av.cells 33 true true))).set (St.empty.nx+1) (some (gL.cells [AV.bool false,AV.int IntKind.i64 0,AV.str [],AV.int IntKind.i64 0,AV.int IntKind.i64 0,AV.nils] 33 true true))) 7:=⟨_,rfl⟩;rw [<- hS];have nS:S.nx=7:=by rw [hS];rfl
 have n0:St.empty.nx=0:=rfl;have g0:S.h St.empty.nx=some (.cells (Sx.mk l k x p a items).av.cells 33 true true):=by rw [hS,adv_h,aB (by decide),aG]
 have g1:S.h (St.empty.nx+1)=some (.cells [AV.bool false,AV.int IntKind.i64 0,AV.str [],AV.int IntKind.i64 0,AV.int IntKind.i64 0,AV.nils] 33 true true):=by rw [hS,adv_h,aG]
 have fr:aI S:=fun j hj=>by rw [hS,adv_h,aB (by omega),aB (by omega)];rfl
 by_cases hne:items=[]
 ·subst hne;refine bO aLt ⟨_,Ai.adv S 7,mV aFp (r:=.sl false []) (by unfold cE;simp only [yE.l,yE.b];rfl),?_⟩;rw [S0 _ rfl rfl _ (by rw [adv_h,g0])];simp only [Bnd_some,aG,oZ,wx,wy,reduceAdd,reduceEqDiff,reduceCtorEq];refine ⟨1,?_⟩;show tK (oX (Sx.mk l k x p a []).av) (uK (oX (Sx.mk l k x p a []).av) 0) _ _ _ _ _;have hp:∀ v:AV,Ai.part 6 true 0 [.bool l,.int .i64 k,.str x,.int .i64 p,.int .i64 a,v]=some (.agg [.bool l,.int .i64 k,.str x,.int .i64 p,.int .i64 a,v]):=fun v=>rfl;have c1:decide (((0:Nat):Int) > ((0:Nat):Int))=false:=rfl;simp only [tK,GD,List.length_nil,hp,wx,wy,reduceAdd,reduceEqDiff,reduceCtorEq];rw [bI (id:=St.empty.nx+1) (z:=6) (c:=[AV.bool false,AV.int IntKind.i64 0,AV.str [],AV.int IntKind.i64 0,AV.int IntKind.i64 0,AV.nils]) (e:=33) (ex:=true) (v:=.agg [.bool l,.int .i64 k,.str x,.int .i64 p,.int .i64 a,.sl false []]) (by rw [adv_h,aB (by omega),g1]) rfl rfl rfl];simp only [Bnd_some,aG,hp,wx,wy,reduceAdd,reduceEqDiff,reduceCtorEq];exact aSu
 ·obtain ⟨s',e1,e2,e3,e4⟩:=aJm (k:=148) yE aFp (vs:=items.map Sx.av) (s:=S) (fun v hv=>by obtain ⟨y,_,rfl⟩:=m021.1 hv;exact ⟨iA y,cI y⟩) (by simpa using hne) (by rw [m002];omega) (by rw [m002];omega) fr;rw [m002] at e1;refine bO aLt ⟨_,_,e1,?_⟩;rw [S0 _ rfl rfl _ (by rw [e2.h _ (by omega) (by simp),g0])];simp only [Bnd_some,aG,ME,wx,wy,reduceAdd,reduceEqDiff,reduceCtorEq];refine ⟨items.length+1,l97 l k p a x items hlen (fun y hy=>ih y hy (hfi y hy)) _ St.empty.nx (St.empty.nx+1) (S.nx+5) (by omega) (by omega) (by omega) [AV.bool false,AV.int IntKind.i64 0,AV.str [],AV.int IntKind.i64 0,AV.int IntKind.i64 0,AV.nils] rfl (fun s g=>aWk g) items.length 0 _ (by omega) ?_ ?_ ?_ ?_⟩
  ·exact fun j hj=>by simp only [adv_nx,set_nx] at hj;rw [adv_h,aB (by omega)];exact e2.fr j (by omega)
  ·rw [adv_h,aG]
  ·rw [adv_h,aB (by omega),e2.h _ (by omega) (by simp),g1]
  ·rw [adv_h,aB (by omega),e3]
theorem aLb {id off:Nat} {v:AV} {c:List AV} {e:TypeId} {ex:Bool} {s:St} (h:s.h id=some (.cells c e ex true)) (hv:c[off]?=some v) (h1:v.cells=[v]) (h2:v.one=true):dN 1 (.ptr id off) v s=some s:=by obtain ⟨hl,he⟩:=m012.1 hv;refine qW h ?_ (by omega) (by rw [h1];simp [h2]);rw [h1,List.drop_eq_getElem_cons hl,he];rfl
theorem bOd (l:List (List UInt8×Int)) (hl:l.length<=2 ^ 20):bA mEv 147 [.sl false (l.map iQ)] (.sl false (l.map iQ)):=MP bNw aYk bHy l (by omega) (by omega) (fun _ _=>rfl) (fun _ _=>rfl)
theorem RG (l:List (List UInt8×Int)):(AV.sl false (l.map iQ)).closed=true:=gP _ _ fun _ _=>rfl
theorem c95 (d:Dc) (hb:d.body.fit) (hp:d.ps.length<=2 ^ 20):bA mEv 95 [d.av] d.av:=by
 have hz:∃ v,zr 67=some v/\v.cells.length=10:=by
  have h:(zr 67).map (fun v=>v.cells.length)=some 10:=by kernel_rfl
  obtain ⟨v,h1,h2⟩:=m022.1 h;exact ⟨v,h1,h2⟩
 obtain ⟨Z,hZ,hZl⟩:=hz;refine cR (aWy _ _ ?_);unfold f95;refine ⟨dP d,?_⟩;simp only [hZ,QC,wx,wy,reduceAdd,reduceEqDiff,reduceCtorEq];refine aP (bOd d.ps hp) (by simp [RG]) ?_;obtain ⟨S,hS⟩:∃ S,S=Ai.adv ((St.empty.set St.empty.nx (some (gL.cells d.av.cells 67 true true))).set (St.empty.nx+1) (some (gL.cells Z.cells 67 true true))) 7:=⟨_,rfl⟩;rw [<- hS];have g0:S.h St.empty.nx=some (.cells d.av.cells 67 true true):=by rw [hS,adv_h,aB (by decide),aG]
 have g1:S.h (St.empty.nx+1)=some (.cells Z.cells 67 true true):=by rw [hS,adv_h,aG]
 simp only [aLb g0 (QC d) rfl rfl,g0,iY,wx,wy,reduceAdd,reduceEqDiff,reduceCtorEq];refine aP (c97 d.body hb) (by simp [aS]) ?_;have e4:(d.av.cells.drop 4).take 6=d.body.av.cells:=by obtain ⟨a,b,c,e,⟨⟩⟩:=d;rfl
 rw [qW (z:=6) (v:=d.body.av) (by rw [adv_h,g0]) e4 (by rw [fD];decide) (cI _)];simp only [g0,iX,wx,wy,reduceAdd,reduceEqDiff,reduceCtorEq];rw [bI (id:=St.empty.nx+1) (z:=10) (c:=Z.cells) (e:=67) (ex:=true) (v:=d.av) (by rw [adv_h,g1]) hZl (fD d) (dP d)];simp only [Bnd_some,aG,iX,wx,wy,reduceAdd,reduceEqDiff,reduceCtorEq];exact aT (eJ d)
end
noncomputable section
def RdZ (f:FuncId) (args:List AV) (s:St) (v:AV):Prop:=∃ r s' ids,WideC mEv f args s r s'/\EF [] s s'/\pur mEv.P s' 12 r=some (v,ids)/\∀ j∈ids,s.nx<=j
section
variable {s s':St} {K:aE} {f:FuncId} {args:List AV} {v:AV}
theorem EF.drop0 {ids:List Nat} (h:EF [] s s') (hi:∀ j∈ids,s.nx<=j):EF [] s (s'.drop ids):=by
 refine ⟨by rw [qP];exact h.nx,fun j hj hn=>?_,fun j hj=>?_⟩
 ·rw [WV (fun hm=>by have:=hi j hm;omega)];exact h.h j hj hn
 ·rw [qP] at hj;exact wI (h.fr j hj)
theorem RdZ.call (h:RdZ f args s v) (hz:mEv.fz f=true) (hs:mEv.se f=[]) (hk:∀ s',EF [] s s'->K v s'):aL mEv f args s K:=by obtain ⟨r,s',ids,h1,h2,h3,h4⟩:=h;refine UG hz hs ⟨_,_,h1,?_⟩;rw [h3,Bnd_some];exact hk _ (h2.drop0 h4)
theorem RdZ.callD {l:List Nat} (h:RdZ f args (s.only l) v) (hz:mEv.fz f=true) (hs:mEv.se f=[]) (hk:∀ s',EF [] s s'->K v s'):cH mEv f args l s K:=by obtain ⟨r,s',ids,h1,h2,h3,h4⟩:=h;refine PF (ids:=[]) hz (by rw [hs];rfl) ⟨_,_,h1,?_⟩;rw [h3,Bnd_some];exact hk _ (lP (h2.drop0 h4) fun j hj=>by cases hj)
end
def FE (e:TypeId) (s s':St) (r:AV) (vs:List AV):Prop:=EF [] s s'/\((vs=[]/\(r=.nils\/r=.sl true []))\/∃ j,vs≠[]/\r=.ref j 0 vs.length none e/\s.nx<=j/\s'.h j=some (.cells (vs.flatMap AV.cells) e false true))
theorem bJw:mEv.fz 94=false:=by kernel_rfl
theorem bKm:mEv.fz 96=false:=by kernel_rfl
theorem bPd:mEv.fz 98=false:=by kernel_rfl
theorem aYw:mEv.fz 44=true:=by kernel_rfl
theorem bHk:mEv.fz 45=true:=by kernel_rfl
theorem bIi:mEv.se 44=[]:=by kernel_rfl
theorem bRh:mEv.se 45=[]:=by kernel_rfl
section
variable {s s':St} {K:aE} {p o:Nat} {c:List AV} {e:TypeId} {ex wr:Bool} {x:AV} {vs:List AV}
theorem c94 (fr:aI s) (hc:s.h p=some (.cells c e ex wr)) (ho:c[o]?=some x) (g:Jw 67 10 s x vs) (hl:vs.length<=2 ^ 20):∃ r s',WideC mEv 94 [.ptr p o] s r s'/\FE 67 s s' r vs:=by refine aVn _ _ (Q:=fun r s'=>FE 67 s s' r vs) ?_;unfold f94;simp only [AA,wx,wy,reduceAdd,reduceEqDiff,reduceCtorEq];refine ⟨rfl,?_⟩;simp only [hc,ho,wx,wy,reduceAdd,reduceEqDiff,reduceCtorEq];obtain ⟨r,s',e1,e2,e3⟩:=NZ SL bGc (g.keep (s':=Ai.adv s 9) fun _ _=>rfl) (by omega) (by omega) fr.adv;refine bO bLg ⟨r,s',e1,(EF.refl [] fr).adv.trans e2 (fun _ h=>by cases h),e3.imp_right fun h=>⟨_,h.1,h.2.1,by simp only [adv_nx];omega,h.2.2⟩⟩
theorem c96 (fr:aI s) (hc:s.h p=some (.cells c e ex wr)) (ho:c[o]?=some x) (g:Jw 33 6 s x vs) (hl:vs.length<=2 ^ 20):∃ r s',WideC mEv 96 [.ptr p o] s r s'/\FE 33 s s' r vs:=by refine aUd _ _ (Q:=fun r s'=>FE 33 s s' r vs) ?_;unfold f96;simp only [JP,wx,wy,reduceAdd,reduceEqDiff,reduceCtorEq];refine ⟨rfl,?_⟩;simp only [hc,ho,wx,wy,reduceAdd,reduceEqDiff,reduceCtorEq];obtain ⟨r,s',e1,e2,e3⟩:=NZ yE aFp (g.keep (s':=Ai.adv s 9) fun _ _=>rfl) (by omega) (by omega) fr.adv;refine bO aLt ⟨r,s',e1,(EF.refl [] fr).adv.trans e2 (fun _ h=>by cases h),e3.imp_right fun h=>⟨_,h.1,h.2.1,by simp only [adv_nx];omega,h.2.2⟩⟩
end
theorem QJ (L:List Dc):∀ v∈L.map Dc.av,v.cells.length=10/\v.cells.all AV.one=true:=fun v hv=>by obtain ⟨d,_,rfl⟩:=m021.1 hv;exact ⟨fD d,dP d⟩
theorem bPr (Q:aE) (r:AV) (S:St) (h:∀ n,Q r (Ai.adv S n)):sJ Q 1 r (.int .i64 0) (.int .i64 0) S:=by show tL Q (sJ Q 0) _ _ _ S;have c1:decide ((0:Int) < 0)=false:=rfl;simp only [tL,GU,c1,wx,wy,reduceAdd,reduceEqDiff,reduceCtorEq];exact h _
theorem l44 (D:List Dc) (hlen:D.length<=2 ^ 20) (hD:∀ d∈D,d.body.fit/\d.ps.length<=2 ^ 20) (Q:aE) (j:Nat) (S:St) (hj:S.h j=some (.cells ((D.map Dc.av).flatMap AV.cells) 67 false true)) (hQ:∀ s,s.h=S.h->S.nx<=s.nx->Q (.ref j 0 D.length none 67) s) :
  ∀ (m i:Nat) (s:St),i+m=D.length->s.h=S.h->S.nx<=s.nx->sJ Q (m+1) (.ref j 0 D.length none 67) (.int .i64 D.length) (.int .i64 i) s:=by
 intro m
 induction m with
 | zero =>
  intro i s hi hs hn;show tL Q (sJ Q 0) _ _ _ s;have c1:decide ((i:Int) < (D.length:Int))=false:=by simp;omega
  simp only [tL,GU,c1,wx,wy,reduceAdd,reduceEqDiff,reduceCtorEq];exact hQ _ hs (by simp only [adv_nx];omega)
 | succ m ihm =>
  intro i s hi hs hn;show tL Q (sJ Q (m+1)) _ _ _ s;obtain ⟨y,hy⟩:∃ y,D[i]?=some y:=⟨_,m004 (by omega)⟩;have c1:decide ((i:Int) < (D.length:Int))=true:=by simp;omega
  obtain ⟨e1,e2,e3,e4⟩:=JT (z:=10) (i:=j) (e:=67) (n:=D.length) (vs:=D.map Dc.av) (k:=i) (v:=y.av) (fun v hv=>by obtain ⟨y,_,rfl⟩:=m021.1 hv;exact fD y) (by rw [m002]) (by rw [m047,hy];rfl) rfl;have hlt:i < D.length:=by omega
  have hj':s.h j=some (.cells ((D.map Dc.av).flatMap AV.cells) 67 false true):=by rw [hs];exact hj
  obtain ⟨f1,f2⟩:=hD y (m017 hy);simp only [tL,aFr,c1,e1,hj',e2,wx,wy,reduceAdd,reduceEqDiff,reduceCtorEq];refine aP (c95 y f1 f2) (by simp [eJ]) ?_;rw [qW (z:=10) (e:=67) (ex:=false) (by rw [adv_h];exact hj') e3 e4 (dP y)];simp only [Bnd_some,wx,wy,reduceAdd,reduceEqDiff,reduceCtorEq];rw [bU i D.length hlt (by have:maxLen=9223372036854775807:=rfl;omega)];exact ihm (i+1) _ (by omega) hs (by simp only [adv_nx];omega)
theorem bQw (Q:aE) (r:AV) (S:St) (h:∀ n,Q r (Ai.adv S n)):sI Q 1 r (.int .i64 0) (.int .i64 0) S:=by show tN Q (sI Q 0) _ _ _ S;have c1:decide ((0:Int) < 0)=false:=rfl;simp only [tN,FT,c1,wx,wy,reduceAdd,reduceEqDiff,reduceCtorEq];exact h _
theorem l45 (D:List Sx) (hlen:D.length<=2 ^ 20) (hD:∀ d∈D,d.fit) (Q:aE) (j:Nat) (S:St) (hj:S.h j=some (.cells ((D.map Sx.av).flatMap AV.cells) 33 false true)) (hQ:∀ s,s.h=S.h->S.nx<=s.nx->Q (.ref j 0 D.length none 33) s) :
  ∀ (m i:Nat) (s:St),i+m=D.length->s.h=S.h->S.nx<=s.nx->sI Q (m+1) (.ref j 0 D.length none 33) (.int .i64 D.length) (.int .i64 i) s:=by
 intro m
 induction m with
 | zero =>
  intro i s hi hs hn;show tN Q (sI Q 0) _ _ _ s;have c1:decide ((i:Int) < (D.length:Int))=false:=by simp;omega
  simp only [tN,FT,c1,wx,wy,reduceAdd,reduceEqDiff,reduceCtorEq];exact hQ _ hs (by simp only [adv_nx];omega)
 | succ m ihm =>
  intro i s hi hs hn;show tN Q (sI Q (m+1)) _ _ _ s;obtain ⟨y,hy⟩:∃ y,D[i]?=some y:=⟨_,m004 (by omega)⟩;have c1:decide ((i:Int) < (D.length:Int))=true:=by simp;omega
  obtain ⟨e1,e2,e3,e4⟩:=JT (z:=6) (i:=j) (e:=33) (n:=D.length) (vs:=D.map Sx.av) (k:=i) (v:=y.av) (fun v hv=>by obtain ⟨y,_,rfl⟩:=m021.1 hv;exact iA y) (by rw [m002]) (by rw [m047,hy];rfl) (NU y);have hlt:i < D.length:=by omega
  have hj':s.h j=some (.cells ((D.map Sx.av).flatMap AV.cells) 33 false true):=by rw [hs];exact hj
  have f1:=hD y (m017 hy);simp only [tN,aGr,c1,e1,hj',e2,wx,wy,reduceAdd,reduceEqDiff,reduceCtorEq];refine aP (c97 y f1) (by simp [aS]) ?_;rw [qW (z:=6) (e:=33) (ex:=false) (by rw [adv_h];exact hj') e3 e4 (cI y)];simp only [Bnd_some,wx,wy,reduceAdd,reduceEqDiff,reduceCtorEq];rw [bU i D.length hlt (by have:maxLen=9223372036854775807:=rfl;omega)];exact ihm (i+1) _ (by omega) hs (by simp only [adv_nx];omega)
section
variable {s s':St} {K:aE} {p o:Nat} {c:List AV} {e:TypeId} {ex wr:Bool} {x:AV} {vs:List AV}
theorem c44 (fr:aI s) (hc:s.h p=some (.cells c e ex wr)) (ho:c[0]?=some x) {D:List Dc} (g:Jw 67 10 s x (D.map Dc.av)) (hl:D.length<=2 ^ 20) (hD:∀ d∈D,d.body.fit/\d.ps.length<=2 ^ 20):RdZ 44 [.ptr p 0] s (.sl false (D.map Dc.av)):=by
 have h:=aVx (.ptr p 0) s (Q:=fun r s'=>∃ ids,EF [] s s'/\pur mEv.P s' 12 r=some (.sl false (D.map Dc.av),ids)/\∀ j∈ids,s.nx<=j) (by
  unfold f44;simp only [lA,wx,wy,reduceAdd,reduceEqDiff,reduceCtorEq];refine ⟨rfl,?_⟩;obtain ⟨r,s1,e1,e2,e3⟩:=c94 (s:=Ai.adv s 8) (vs:=D.map Dc.av) fr.adv hc ho (g.keep fun _ _=>rfl) (by rw [m002];exact hl);refine bO bJw ⟨r,s1,e1,?_⟩;have ef:EF [] s s1:=(EF.refl [] fr).adv.trans e2 (fun _ h=>by cases h);rcases e3 with ⟨h1,h2⟩ | ⟨j,h1,rfl,h3,h4⟩
  ·have hD0:D=[]:=by simpa using h1
   subst hD0;have hlen:∀ id S,bt .len #[49] [r] id S=some (.int .i64 0,S):=fun id S=>by rcases h2 with rfl | rfl;exact aGc id S;exact GW ..
   have hp:∀ S:St,pur mEv.P S 12 r=some (.sl false [],[]):=fun S=>by rcases h2 with rfl | rfl<;>rfl
   simp only [hlen,wx,wy,reduceAdd,reduceEqDiff,reduceCtorEq];refine ⟨1,?_⟩;exact bPr _ _ _ fun n=>⟨[],ef.adv.adv,hp _,fun j hj=>by cases hj⟩
  ·rw [m002];simp only [aFh,wx,wy,reduceAdd,reduceEqDiff,reduceCtorEq];refine ⟨D.length+1,l44 D hl hD _ j s1 h4 (fun S b1 b2=>?_) D.length 0 _ (by omega) rfl (by simp only [adv_nx];omega)⟩;have ef2:EF [] s S:=⟨by have:=ef.nx;omega,fun i hi hn=>by rw [b1];exact ef.h i hi hn,fun i hi=>by rw [b1];exact ef.fr i (by omega)⟩;have g2:Gw 67 10 0 S (.ref j 0 D.length none 67) (D.map Dc.av):=⟨QJ D,.inr ⟨j,mM _,by rw [m002],by rw [b1];exact h4⟩⟩
   exact ⟨_,ef2,KL SL g2 (fun v hv=>by obtain ⟨d,_,rfl⟩:=m021.1 hv;exact eJ d) (fun v hv=>by obtain ⟨d,_,rfl⟩:=m021.1 hv;rfl) 11,fun i hi=>by simp only [aF,m008] at hi;subst hi;simp only [adv_nx] at h3;omega⟩)
 obtain ⟨r,s',h1,ids,h2⟩:=h;exact ⟨r,s',ids,h1,h2⟩
theorem c45 (fr:aI s) (hc:s.h p=some (.cells c e ex wr)) (ho:c[2]?=some x) {D:List Sx} (g:Jw 33 6 s x (D.map Sx.av)) (hl:D.length<=2 ^ 20) (hD:∀ d∈D,d.fit):RdZ 45 [.ptr p 0] s (.sl false (D.map Sx.av)):=by
 have h:=aUl (.ptr p 0) s (Q:=fun r s'=>∃ ids,EF [] s s'/\pur mEv.P s' 12 r=some (.sl false (D.map Sx.av),ids)/\∀ j∈ids,s.nx<=j) (by
  unfold f45;simp only [lA,wx,wy,reduceAdd,reduceEqDiff,reduceCtorEq];refine ⟨rfl,?_⟩;obtain ⟨r,s1,e1,e2,e3⟩:=c96 (s:=Ai.adv s 8) (vs:=D.map Sx.av) fr.adv hc ho (g.keep fun _ _=>rfl) (by rw [m002];exact hl);refine bO bKm ⟨r,s1,e1,?_⟩;have ef:EF [] s s1:=(EF.refl [] fr).adv.trans e2 (fun _ h=>by cases h);rcases e3 with ⟨h1,h2⟩ | ⟨j,h1,rfl,h3,h4⟩
  ·have hD0:D=[]:=by simpa using h1
   subst hD0;have hlen:∀ id S,bt .len #[31] [r] id S=some (.int .i64 0,S):=fun id S=>by rcases h2 with rfl | rfl;exact VZ id S;exact oZ ..
   have hp:∀ S:St,pur mEv.P S 12 r=some (.sl false [],[]):=fun S=>by rcases h2 with rfl | rfl<;>rfl
   simp only [hlen,wx,wy,reduceAdd,reduceEqDiff,reduceCtorEq];refine ⟨1,?_⟩;exact bQw _ _ _ fun n=>⟨[],ef.adv.adv,hp _,fun j hj=>by cases hj⟩
  ·rw [m002];simp only [ME,wx,wy,reduceAdd,reduceEqDiff,reduceCtorEq];refine ⟨D.length+1,l45 D hl hD _ j s1 h4 (fun S b1 b2=>?_) D.length 0 _ (by omega) rfl (by simp only [adv_nx];omega)⟩;have ef2:EF [] s S:=⟨by have:=ef.nx;omega,fun i hi hn=>by rw [b1];exact ef.h i hi hn,fun i hi=>by rw [b1];exact ef.fr i (by omega)⟩;have g2:Gw 33 6 0 S (.ref j 0 D.length none 33) (D.map Sx.av):=⟨fun v hv=>by obtain ⟨y,_,rfl⟩:=m021.1 hv;exact ⟨iA y,cI y⟩,.inr ⟨j,mM _,by rw [m002],by rw [b1];exact h4⟩⟩
   exact ⟨_,ef2,KL yE g2 (fun v hv=>by obtain ⟨d,_,rfl⟩:=m021.1 hv;exact aS d) (fun v hv=>by obtain ⟨d,_,rfl⟩:=m021.1 hv;exact NU d) 11,fun i hi=>by simp only [aF,m008] at hi;subst hi;simp only [adv_nx] at h3;omega⟩)
 obtain ⟨r,s',h1,ids,h2⟩:=h;exact ⟨r,s',ids,h1,h2⟩
end
end
noncomputable section
structure Sk where
 D:List Dc
 dm:List Int
 X:List Sx
 am:List Int
 N:Option (List (List UInt8))
def pH (N:List (List UInt8)):List (AV×AV):=N.map fun n=>(.str n,.bool true)
def NmR (s:St) (m:AV) (N:Option (List (List UInt8))):Prop:=(N=none/\m=.nilm)\/∃ l j,N=some l/\m=.map j/\s.h j=some (.map (pH l))
structure gB (s:St) (p:Nat) (K:Sk) (xd xm xa xn m:AV):Prop where
 cell:s.h p=some (.cells [xd,xm,xa,xn,m] 88 true true)
 d:Jw 67 10 s xd (K.D.map Dc.av)
 dm:Jw 3 1 s xm (K.dm.map dT)
 x:Jw 33 6 s xa (K.X.map Sx.av)
 am:Jw 3 1 s xn (K.am.map dT)
 n:NmR s m K.N
 nd:(p::(aF xd++(aF xm++(aF xa++(aF xn++aF m))))).Nodup
def aO (xd xm xa xn m:AV):List Nat:=aF xd++(aF xm++(aF xa++(aF xn++aF m)))
def cL (s:St) (p:Nat) (K:Sk) (F:List Nat):Prop:=∃ xd xm xa xn m,gB s p K xd xm xa xn m/\F=p::aO xd xm xa xn m
theorem NmR.keep {s s':St} {m:AV} {N:Option (List (List UInt8))} (h:NmR s m N) (hk:∀ j∈aF m,s'.h j=s.h j):NmR s' m N:=by
 rcases h with h | ⟨l,j,h1,rfl,h⟩
 ·exact .inl h
 ·exact .inr ⟨l,j,h1,rfl,by rw [hk j (by simp [aF])];exact h⟩
theorem NmR.has {s:St} {m:AV} {N:Option (List (List UInt8))} (h:NmR s m N):∀ j∈aF m,∃ b,s.h j=some b/\dZ b=[]:=by
 rcases h with ⟨_,rfl⟩ | ⟨l,j,_,rfl,h⟩
 ·intro j hj;cases hj
 ·intro i hi;simp only [aF,m008] at hi;subst hi;refine ⟨_,h,?_⟩
  have:∀ N:List (List UInt8),dA ((pH N).map (·.2))=[]:=fun N=>by
   induction N with
   | nil=>rfl
   | cons n N ih=>simpa [pH,dA,eD] using ih
  exact this l
theorem uX (x:AV):(aF x).Nodup:=by cases x<;>simp [aF]
theorem CP {A A' R1 R2:List Nat} {id:Nat} (h:(R1++(A++R2)).Nodup) (hA:A'.Nodup) (hs:∀ j∈A',j=id\/j∈A) (hi:id ∉ R1/\id ∉ R2):(R1++(A'++R2)).Nodup:=by
 simp only [m063,m003] at h ⊢;obtain ⟨h1,⟨h2,h3,h4⟩,h5⟩:=h;refine ⟨h1,⟨hA,h3,fun a ha b hb=>?_⟩,fun a ha b hb=>?_⟩
 ·rcases hs a ha with rfl | ha
  ·exact fun e=>hi.2 (e ▸ hb)
  ·exact h4 a ha b hb
 ·rcases hb with hb | hb
  ·rcases hs b hb with rfl | hb
   ·exact fun e=>hi.1 (e ▸ ha)
   ·exact h5 a ha b (.inl hb)
  ·exact h5 a ha b (.inr hb)
section
variable {s s':St} {p:Nat} {K:Sk} {F:List Nat} {xd xm xa xn m:AV}
theorem gB.mem (c:gB s p K xd xm xa xn m):∀ j∈p::aO xd xm xa xn m,∃ b,s.h j=some b/\(j=p\/dZ b=[]):=by
 have f:∀ {e:TypeId} {z:Nat} {x:AV} {vs:List AV},Jw e z s x vs->∀ j∈aF x,∃ b,s.h j=some b/\(j=p\/dZ b=[]):=fun g j hj=>by obtain ⟨c,h1,h2⟩:=g.has j hj;exact ⟨_,h1,.inr h2⟩
 intro j hj;simp only [m013,aO,m003] at hj;rcases hj with rfl | hj | hj | hj | hj | hj
 ·exact ⟨_,c.cell,.inl rfl⟩
 ·exact f c.d j hj
 ·exact f c.dm j hj
 ·exact f c.x j hj
 ·exact f c.am j hj
 ·obtain ⟨b,h1,h2⟩:=c.n.has j hj;exact ⟨b,h1,.inr h2⟩
theorem cL.lt (h:cL s p K F) (fr:aI s):∀ j∈F,j < s.nx:=fun j hj=>by obtain ⟨xd,xm,xa,xn,m,c,rfl⟩:=h;obtain ⟨b,hb,_⟩:=c.mem j hj;exact fr.lt hb
theorem cL.pin (h:cL s p K F):p∈F:=by obtain ⟨_,_,_,_,_,_,rfl⟩:=h;simp
theorem gB.keep (c:gB s p K xd xm xa xn m) (hk:∀ j∈p::aO xd xm xa xn m,s'.h j=s.h j):gB s' p K xd xm xa xn m:=by have e:∀ j,j∈aF xd\/j∈aF xm\/j∈aF xa\/j∈aF xn\/j∈aF m->s'.h j=s.h j:=fun j hj=>hk j (by simp only [m013,aO,m003];exact .inr hj);exact ⟨by rw [hk p (by simp)];exact c.cell,c.d.keep fun j hj=>e j (.inl hj),c.dm.keep fun j hj=>e j (.inr (.inl hj)),c.x.keep fun j hj=>e j (.inr (.inr (.inl hj))),c.am.keep fun j hj=>e j (.inr (.inr (.inr (.inl hj)))),c.n.keep fun j hj=>e j (.inr (.inr (.inr (.inr hj)))),c.nd⟩
theorem cL.keep (h:cL s p K F) (hk:∀ j∈F,s'.h j=s.h j):cL s' p K F:=by obtain ⟨xd,xm,xa,xn,m,c,rfl⟩:=h;exact ⟨xd,xm,xa,xn,m,c.keep hk,rfl⟩
theorem cL.ext (h:cL s p K F) (fr:aI s) (e:EF [] s s'):cL s' p K F:=h.keep fun j hj=>e.h j (h.lt fr j hj) (by simp)
theorem cL.adv {n:Nat} (h:cL s p K F):cL (Ai.adv s n) p K F:=h.keep fun _ _=>rfl
theorem cL.rch (h:cL s p K F) {vs:List AV} (hv:dA vs=[p]):∀ j,j∈rch s vs↔j∈F:=by
 obtain ⟨xd,xm,xa,xn,m,c,rfl⟩:=h;have one:∀ {e:TypeId} {z:Nat} {x:AV} {vs:List AV},Jw e z s x vs->eD x=aF x:=fun g=>by obtain ⟨_,⟨rfl,_⟩ | ⟨_,_,_,rfl,_⟩⟩:=g<;>rfl
 have onem:eD m=aF m:=by rcases c.n with ⟨_,rfl⟩ | ⟨_,_,_,rfl,_⟩<;>rfl
 have hb:dZ (.cells [xd,xm,xa,xn,m] 88 true true)=aO xd xm xa xn m:=by simp only [dZ,dA,one c.d,one c.dm,one c.x,one c.am,onem,aO,m011]
 have l1:∀ x:AV,(aF x).length<=1:=fun x=>by cases x<;>simp [aF]
 intro j;rw [vU hv c.cell ?_ ?_,hb,m013]
 ·rw [hb];simp only [aO,m006];have:=l1 xd;have:=l1 xm;have:=l1 xa;have:=l1 xn;have:=l1 m;omega
 ·intro j hj b hjb;rw [hb] at hj;obtain ⟨b',h1,h2⟩:=c.mem j (m005 _ hj);rw [hjb] at h1;cases h1;exact h2
def bR (s:St) (p:Nat) (F:List Nat) (K':Sk) (s':St):Prop:=∃ F',cL s' p K' F'/\EF F s s'/\∀ j∈F',j∈F\/s.nx<=j
theorem bR.adv {K':Sk} {n:Nat} (h:bR s p F K' s'):bR s p F K' (Ai.adv s' n):=by obtain ⟨F',h1,h2,h3⟩:=h;exact ⟨F',h1.adv,h2.adv,h3⟩
theorem bR.same (h:cL s p K F) (fr:aI s) (e:EF [] s s'):bR s p F K s':=⟨F,h.ext fr e,e.sub fun j hj=>(by cases hj),fun j hj=>.inl hj⟩
theorem bR.from {K':Sk} {s1:St} (h:bR s1 p F K' s') (e:EF [] s s1):bR s p F K' s':=by obtain ⟨F',h1,h2,h3⟩:=h;have:=e.nx;exact ⟨F',h1,(e.sub (M':=F) fun j hj=>(by cases hj)).trans h2 fun j hj=>.inr hj,fun j hj=>(h3 j hj).imp_right fun h=>(by omega)⟩
def mO (f:FuncId) (args:List AV) (s:St) (p:Nat) (F:List Nat) (r:AV) (K':Sk):Prop:=∃ v s',WideC mEv f args s v s'/\v=r/\bR s p F K' s'
theorem mO.call {f:FuncId} {args:List AV} {r:AV} {K':Sk} {k:aE} (h:mO f args s p F r K') (hz:mEv.fz f=false) (hk:∀ s',bR s p F K' s'->k r s'):aL mEv f args s k:=by obtain ⟨v,s',h1,rfl,h2⟩:=h;exact bO hz ⟨_,s',h1,hk s' h2⟩
theorem mO.callD {f g:FuncId} {args:List AV} {l:List Nat} {r:AV} {K':Sk} {k:aE} (hz:mEv.fz f=false) (fr:aI s) (hR:cL s p K F) (hl:l=Ai.rch s (.fn g [] []::args)) (hv:dA (.fn g [] []::args)=[p]) (h:∀ s,aI s->cL s p K F->mO f args s p F r K') (hk:∀ s',bR s p F K' s'->k r s'):cH mEv f args l s k:=by
 have hm:∀ j,j∈l↔j∈F:=fun j=>by rw [hl];exact hR.rch hv j
 have hR':cL (s.only l) p K F:=hR.keep fun j hj=>by rw [jI,if_pos ((hm j).2 hj)]
 obtain ⟨v,s',h1,rfl,F',h2,h3,h4⟩:=h (s.only l) (gY fr) hR';have hM:∀ j∈F,j∈l:=fun j hj=>(hm j).2 hj;refine pY hz ⟨_,s',h1,hk _ ⟨F',?_,lP h3 hM,h4⟩⟩;have h2':=h2;refine h2'.keep fun j hj=>?_;have hb:∃ b,s'.h j=some b:=by obtain ⟨xd,xm,xa,xn,m,c,rfl⟩:=h2;obtain ⟨b,hb,_⟩:=c.mem j hj;exact ⟨b,hb⟩
 obtain ⟨b,hb⟩:=hb;rw [hb];exact kZ h3 hM hb
theorem rQ {K':Sk} {S':St} {id:Nat} {A:List Nat} {xd' xm' xa' xn' m':AV} (c:gB s p K xd xm xa xn m) (fr:aI s) (hid:s.nx<=id) (hn:s.nx<=S'.nx) (hidn:id < S'.nx) (hA:∀ j∈A,j∈aO xd xm xa xn m) (hE:∀ y,y < s.nx->y ∉ A->S'.h y=s.h y) (hfr:aI S') (hB:∀ j∈aO xd' xm' xa' xn' m',j=id\/j∈aO xd xm xa xn m) {b:Option gL}
  (h:gB (S'.set p b) p K' xd' xm' xa' xn' m'):bR s p (p::aO xd xm xa xn m) K' (S'.set p b):=by
 have hp:p < s.nx:=fr.lt c.cell;refine ⟨_,⟨xd',xm',xa',xn',m',h,rfl⟩,⟨hn,fun j hj hn=>?_,fun j hj=>?_⟩,fun j hj=>?_⟩
 ·simp only [m013,not_or] at hn;rw [aB hn.1,hE j hj fun h=>hn.2 (hA j h)]
 ·have hj:S'.nx<=j:=hj;rw [aB (by omega)];exact hfr j hj
 ·rcases m013.1 hj with rfl | hj
  ·exact .inl (m007 ..)
  ·rcases hB j hj with rfl | h
   ·exact .inr hid
   ·exact .inl (m005 _ h)
theorem bBk (c:gB s p K xd xm xa xn m) (fr:aI s) {S':St} {x':AV} {id:Nat} {l:List Dc} (hid:s.nx<=id) (hE:∀ y,y < s.nx->y ∉ aF xd->S'.h y=s.h y) (hI:∀ j∈aF x',j=id\/j∈aF xd) (hx:Jw 67 10 S' x' (l.map Dc.av)) :
  gB (S'.set p (some (.cells [x',xm,xa,xn,m] 88 true true))) p { K with D:=l } x' xm xa xn m:=by
 have hp:p < s.nx:=fr.lt c.cell;have hlt:∀ j∈aO xd xm xa xn m,j < s.nx:=fun j hj=>by obtain ⟨b,hb,_⟩:=c.mem j (m005 _ hj);exact fr.lt hb
 have nd:=c.nd;simp only [m036,m063,m003,not_or] at nd
 have hx':Jw 67 10 (S'.set p (some (.cells [x',xm,xa,xn,m] 88 true true))) x' (l.map Dc.av):=hx.keep fun j hj=>by
  refine aB fun e=>?_;subst e;rcases hI j hj with h | h
  ·omega
  ·exact absurd h (by grind)
 have k:∀ j,j∈aO xd xm xa xn m->j ∉ aF xd->(S'.set p (some (.cells [x',xm,xa,xn,m] 88 true true))).h j=s.h j:=fun j hj hn=>by
  have hjp:j≠p:=fun e=>by
   subst e;simp only [aO,m003] at hj
   grind
  rw [aB hjp,hE j (hlt j hj) hn]
 have no:∀ j,j∈aF xm\/j∈aF xa\/j∈aF xn\/j∈aF m->j ∉ aF xd:=fun j hj hx=>by
  grind
 refine ⟨aG,hx',c.dm.keep fun j hj=>k j (by simp only [aO,m003];grind) (no j (by grind)),c.x.keep fun j hj=>k j (by simp only [aO,m003];grind) (no j (by grind)),c.am.keep fun j hj=>k j (by simp only [aO,m003];grind) (no j (by grind)),c.n.keep fun j hj=>k j (by simp only [aO,m003];grind) (no j (by grind)),?_⟩;have h0:=CP (R1:=[p]) (A:=aF xd) (R2:=(aF xm++(aF xa++(aF xn++(aF m))))) (id:=id) (by simpa only [List.cons_append,List.nil_append,m019] using c.nd) (uX x') hI ⟨fun h=>?_,fun h=>?_⟩
 ·simpa only [List.cons_append,List.nil_append,m019] using h0
 ·simp only [m013,m003,m073,or_false] at h;have:id < s.nx:=by omega
  omega
 ·try simp only [m003] at h
  have:=hlt id (by simp only [aO,m003];grind);omega
theorem aJo (c:gB s p K xd xm xa xn m) (fr:aI s) {S':St} {x':AV} {id:Nat} {l:List Int} (hid:s.nx<=id) (hE:∀ y,y < s.nx->y ∉ aF xm->S'.h y=s.h y) (hI:∀ j∈aF x',j=id\/j∈aF xm) (hx:Jw 3 1 S' x' (l.map dT)) :
  gB (S'.set p (some (.cells [xd,x',xa,xn,m] 88 true true))) p { K with dm:=l } xd x' xa xn m:=by
 have hp:p < s.nx:=fr.lt c.cell;have hlt:∀ j∈aO xd xm xa xn m,j < s.nx:=fun j hj=>by obtain ⟨b,hb,_⟩:=c.mem j (m005 _ hj);exact fr.lt hb
 have nd:=c.nd;simp only [m036,m063,m003,not_or] at nd
 have hx':Jw 3 1 (S'.set p (some (.cells [xd,x',xa,xn,m] 88 true true))) x' (l.map dT):=hx.keep fun j hj=>by
  refine aB fun e=>?_;subst e;rcases hI j hj with h | h
  ·omega
  ·exact absurd h (by grind)
 have k:∀ j,j∈aO xd xm xa xn m->j ∉ aF xm->(S'.set p (some (.cells [xd,x',xa,xn,m] 88 true true))).h j=s.h j:=fun j hj hn=>by
  have hjp:j≠p:=fun e=>by
   subst e;simp only [aO,m003] at hj
   grind
  rw [aB hjp,hE j (hlt j hj) hn]
 have no:∀ j,j∈aF xd\/j∈aF xa\/j∈aF xn\/j∈aF m->j ∉ aF xm:=fun j hj hx=>by
  grind
 refine ⟨aG,c.d.keep fun j hj=>k j (by simp only [aO,m003];grind) (no j (by grind)),hx',c.x.keep fun j hj=>k j (by simp only [aO,m003];grind) (no j (by grind)),c.am.keep fun j hj=>k j (by simp only [aO,m003];grind) (no j (by grind)),c.n.keep fun j hj=>k j (by simp only [aO,m003];grind) (no j (by grind)),?_⟩;have h0:=CP (R1:=p::(aF xd)) (A:=aF xm) (R2:=(aF xa++(aF xn++(aF m)))) (id:=id) (by simpa only [List.cons_append,List.nil_append,m019] using c.nd) (uX x') hI ⟨fun h=>?_,fun h=>?_⟩
 ·simpa only [List.cons_append,List.nil_append,m019] using h0
 ·simp only [m013,m003,m073,or_false] at h;have:id < s.nx:=by rcases h with rfl | h;exact hp;exact hlt id (by simp only [aO,m003];grind)
  omega
 ·try simp only [m003] at h
  have:=hlt id (by simp only [aO,m003];grind);omega
theorem aXt (c:gB s p K xd xm xa xn m) (fr:aI s) {S':St} {x':AV} {id:Nat} {l:List Sx} (hid:s.nx<=id) (hE:∀ y,y < s.nx->y ∉ aF xa->S'.h y=s.h y) (hI:∀ j∈aF x',j=id\/j∈aF xa) (hx:Jw 33 6 S' x' (l.map Sx.av)) :
  gB (S'.set p (some (.cells [xd,xm,x',xn,m] 88 true true))) p { K with X:=l } xd xm x' xn m:=by
 have hp:p < s.nx:=fr.lt c.cell;have hlt:∀ j∈aO xd xm xa xn m,j < s.nx:=fun j hj=>by obtain ⟨b,hb,_⟩:=c.mem j (m005 _ hj);exact fr.lt hb
 have nd:=c.nd;simp only [m036,m063,m003,not_or] at nd
 have hx':Jw 33 6 (S'.set p (some (.cells [xd,xm,x',xn,m] 88 true true))) x' (l.map Sx.av):=hx.keep fun j hj=>by
  refine aB fun e=>?_;subst e;rcases hI j hj with h | h
  ·omega
  ·exact absurd h (by grind)
 have k:∀ j,j∈aO xd xm xa xn m->j ∉ aF xa->(S'.set p (some (.cells [xd,xm,x',xn,m] 88 true true))).h j=s.h j:=fun j hj hn=>by
  have hjp:j≠p:=fun e=>by
   subst e;simp only [aO,m003] at hj
   grind
  rw [aB hjp,hE j (hlt j hj) hn]
 have no:∀ j,j∈aF xd\/j∈aF xm\/j∈aF xn\/j∈aF m->j ∉ aF xa:=fun j hj hx=>by
  grind
 refine ⟨aG,c.d.keep fun j hj=>k j (by simp only [aO,m003];grind) (no j (by grind)),c.dm.keep fun j hj=>k j (by simp only [aO,m003];grind) (no j (by grind)),hx',c.am.keep fun j hj=>k j (by simp only [aO,m003];grind) (no j (by grind)),c.n.keep fun j hj=>k j (by simp only [aO,m003];grind) (no j (by grind)),?_⟩;have h0:=CP (R1:=p::(aF xd++aF xm)) (A:=aF xa) (R2:=(aF xn++(aF m))) (id:=id) (by simpa only [List.cons_append,List.nil_append,m019] using c.nd) (uX x') hI ⟨fun h=>?_,fun h=>?_⟩
 ·simpa only [List.cons_append,List.nil_append,m019] using h0
 ·simp only [m013,m003,m073,or_false] at h;have:id < s.nx:=by rcases h with rfl | h;exact hp;exact hlt id (by simp only [aO,m003];grind)
  omega
 ·try simp only [m003] at h
  have:=hlt id (by simp only [aO,m003];grind);omega
theorem aHb (c:gB s p K xd xm xa xn m) (fr:aI s) {S':St} {x':AV} {id:Nat} {l:List Int} (hid:s.nx<=id) (hE:∀ y,y < s.nx->y ∉ aF xn->S'.h y=s.h y) (hI:∀ j∈aF x',j=id\/j∈aF xn) (hx:Jw 3 1 S' x' (l.map dT)) :
  gB (S'.set p (some (.cells [xd,xm,xa,x',m] 88 true true))) p { K with am:=l } xd xm xa x' m:=by
 have hp:p < s.nx:=fr.lt c.cell;have hlt:∀ j∈aO xd xm xa xn m,j < s.nx:=fun j hj=>by obtain ⟨b,hb,_⟩:=c.mem j (m005 _ hj);exact fr.lt hb
 have nd:=c.nd;simp only [m036,m063,m003,not_or] at nd
 have hx':Jw 3 1 (S'.set p (some (.cells [xd,xm,xa,x',m] 88 true true))) x' (l.map dT):=hx.keep fun j hj=>by
  refine aB fun e=>?_;subst e;rcases hI j hj with h | h
  ·omega
  ·exact absurd h (by grind)
 have k:∀ j,j∈aO xd xm xa xn m->j ∉ aF xn->(S'.set p (some (.cells [xd,xm,xa,x',m] 88 true true))).h j=s.h j:=fun j hj hn=>by
  have hjp:j≠p:=fun e=>by
   subst e;simp only [aO,m003] at hj
   grind
  rw [aB hjp,hE j (hlt j hj) hn]
 have no:∀ j,j∈aF xd\/j∈aF xm\/j∈aF xa\/j∈aF m->j ∉ aF xn:=fun j hj hx=>by
  grind
 refine ⟨aG,c.d.keep fun j hj=>k j (by simp only [aO,m003];grind) (no j (by grind)),c.dm.keep fun j hj=>k j (by simp only [aO,m003];grind) (no j (by grind)),c.x.keep fun j hj=>k j (by simp only [aO,m003];grind) (no j (by grind)),hx',c.n.keep fun j hj=>k j (by simp only [aO,m003];grind) (no j (by grind)),?_⟩;have h0:=CP (R1:=p::(aF xd++aF xm++aF xa)) (A:=aF xn) (R2:=(aF m)) (id:=id) (by simpa only [List.cons_append,List.nil_append,m019] using c.nd) (uX x') hI ⟨fun h=>?_,fun h=>?_⟩
 ·simpa only [List.cons_append,List.nil_append,m019] using h0
 ·simp only [m013,m003,m073,or_false] at h;have:id < s.nx:=by rcases h with rfl | h;exact hp;exact hlt id (by simp only [aO,m003];grind)
  omega
 ·try simp only [m003] at h
  have:=hlt id (by simp only [aO,m003];grind);omega
theorem VQ (c:gB s p K xd xm xa xn m) (fr:aI s) {S2:St} {m':AV} {id:Nat} {N':Option (List (List UInt8))} (hid:s.nx<=id) (hp:S2.h p=some (.cells [xd,xm,xa,xn,m'] 88 true true)) (hk:∀ j,j < s.nx->j≠p->j ∉ aF m->S2.h j=s.h j) (hI:∀ j∈aF m',j=id\/j∈aF m) (hn:NmR S2 m' N'):gB S2 p { K with N:=N' } xd xm xa xn m':=by
 have hpx:p < s.nx:=fr.lt c.cell;have hlt:∀ j∈aO xd xm xa xn m,j < s.nx:=fun j hj=>by obtain ⟨b,hb,_⟩:=c.mem j (m005 _ hj);exact fr.lt hb
 have nd:=c.nd;simp only [m036,m063,m003,not_or] at nd
 have k:∀ j,j∈aO xd xm xa xn m->j ∉ aF m->S2.h j=s.h j:=fun j hj hn=>hk j (hlt j hj) (fun e=>by
   subst e;simp only [aO,m003] at hj
   grind) hn
 have no:∀ j,j∈aF xd\/j∈aF xm\/j∈aF xa\/j∈aF xn->j ∉ aF m:=fun j hj hx=>by grind
 refine ⟨hp,c.d.keep fun j hj=>k j (by simp only [aO,m003];grind) (no j (by grind)),c.dm.keep fun j hj=>k j (by simp only [aO,m003];grind) (no j (by grind)),c.x.keep fun j hj=>k j (by simp only [aO,m003];grind) (no j (by grind)),c.am.keep fun j hj=>k j (by simp only [aO,m003];grind) (no j (by grind)),hn,?_⟩;have h0:=CP (R1:=p::(aF xd++aF xm++aF xa++aF xn)) (A:=aF m) (R2:=[]) (id:=id) (by simpa only [List.cons_append,List.nil_append,m019,m011] using c.nd) (uX m') hI ⟨fun h=>?_,fun h=>by cases h⟩
 ·simpa only [List.cons_append,List.nil_append,m019,m011] using h0
 ·simp only [m013,m003] at h;have:id < s.nx:=by rcases h with rfl | h;exact hpx;exact hlt id (by simp only [aO,m003];grind)
  omega
end
end
noncomputable section
structure Cl:Type where
 kind:Int
 n:Int
 d:Dc
 x:Sx
def Cl.av (c:Cl):AV:=.agg (.int .i64 c.kind::.int .i64 c.n::(c.d.av.cells++c.x.av.cells))
def Cl.ok (c:Cl):Bool:=oW c.kind&&oW c.n&&c.d.ok&&c.x.ok
theorem cl0 (c:Cl):c.av.cells[0]?=some (AV.int .i64 c.kind):=rfl
theorem cl1 (c:Cl):c.av.cells[1]?=some (AV.int .i64 c.n):=rfl
theorem cl2 (c:Cl):c.av.cells[2]?=some (AV.str c.d.nm):=by obtain ⟨k,n,⟨a,b,e,f,g⟩,x⟩:=c;rfl
theorem cl3 (c:Cl):c.av.cells[3]?=some (AV.int .i64 c.d.so):=by obtain ⟨k,n,⟨a,b,e,f,g⟩,x⟩:=c;rfl
theorem zN (c:Cl):Ai.part 6 true 12 c.av.cells=some c.x.av:=by obtain ⟨k,n,⟨a,b,e,f,⟨⟩⟩,⟨⟩⟩:=c;rfl
theorem bCe (c:Cl):Ai.part 10 true 2 c.av.cells=some c.d.av:=by obtain ⟨k,n,⟨a,b,e,f,⟨⟩⟩,⟨⟩⟩:=c;rfl
theorem aWq (c:Cl):Ai.part 6 true 6 c.av.cells=some c.d.body.av:=by obtain ⟨k,n,⟨a,b,e,f,⟨⟩⟩,⟨⟩⟩:=c;rfl
theorem mJ (c:Cl):Ai.part 18 true 0 c.av.cells=some c.av:=by obtain ⟨k,n,⟨a,b,e,f,⟨⟩⟩,⟨⟩⟩:=c;rfl
theorem aKr (c:Cl):c.av.cells.length=18:=by obtain ⟨k,n,⟨a,b,e,f,⟨⟩⟩,⟨⟩⟩:=c;rfl
theorem WT (c:Cl):c.av.cells.all AV.one=true:=by obtain ⟨k,n,⟨a,b,e,f,⟨⟩⟩,⟨⟩⟩:=c;rfl
theorem ZU (c:Cl):c.av.closed=true:=by have h1:=jZ (eJ c.d);have h2:=jZ (aS c.x);simp only [Cl.av,AV.closed,aX,DG h1 h2,iR]
theorem vG (ex:Bool) (l:List AV) (id:Nat) (s:St):bt .len #[79] [.sl ex l] id s=some (.int .i64 l.length,s):=by kernel_rfl
theorem aGu (ex:Bool) (l:List Cl) (i:Nat) (d:Cl) (h:l[i]?=some d):cB 18 (.sl ex (l.map Cl.av)) (.int .i64 (i:Int))=some (.pel d.av.cells 0):=by obtain ⟨hi,rfl⟩:=m012.1 h;simp [cB,pE,wR,hi,aKr]
theorem bCj:eO 49 67 10 true 128:=⟨by kernel_rfl,by kernel_rfl,by kernel_rfl,by kernel_rfl,by decide⟩
theorem wD (x:List UInt8) (id:Nat) (s:St):bt .len #[9] [.str x] id s=some (.int .i64 x.length,s):=by kernel_rfl
theorem aYh {s:St} {n:Nat} {o:Option gL}:(s.set n o).nx=s.nx:=rfl
theorem bQr:∃ v,zr 93=some v/\v.cells.length=18:=by
 have h:(zr 93).map (fun v=>v.cells.length)=some 18:=by kernel_rfl
 obtain ⟨v,h1,h2⟩:=m022.1 h;exact ⟨v,h1,h2⟩
def mL:Sx:=.mk false 0 [] 0 0 []
def aZr:AV:=.agg [.bool false,.int .i64 0,.str [],.int .i64 0,.int .i64 0,.nils]
theorem bGs:lV 33 []=some aZr:=by kernel_rfl
theorem aKn (s:St):pur mEv.P s 12 aZr=some (mL.av,[]):=rfl
theorem aNz (d:Dc):d.av=.agg d.av.cells:=rfl
def LS:List Cl->List Dc->Bool
 | [],ds=>yO ds mL
 | c::l,ds=>cond (decide (c.x.size > 60)||(decide (c.x.depth > 64)||(decide (c.d.body.size > 60)||decide ((c.d.nm.length:Int) > 200)))) false
   (LS l (cond (c.kind==0||c.kind==1) (ds++[c.d]) ds))
def bDh (l:List Cl):Bool:=cond (decide ((l.length:Int) > 60)) false (LS l [])
theorem j43 (ds:List Dc) (hlen:ds.length<=60) (hok:∀ d∈ds,d.ok=true) (Q:aE) (hQ:∀ s,Q (.bool (yO ds mL)) s) (x:AV) (s:St) (g:Gw 67 10 0 s x (ds.map Dc.av)):ID Q x s:=by
 have hc:∀ v∈ds.map Dc.av,v.closed=true:=fun v hv=>by obtain ⟨d,_,rfl⟩:=m021.1 hv;exact eJ d
 obtain ⟨ids,hp⟩:=bEw bCj (g.adv (n:=5)) hc (fun v hv=>by obtain ⟨d,_,rfl⟩:=m021.1 hv;rfl);have hcl:(AV.sl false (ds.map Dc.av)).closed=true:=by simp only [AV.closed,m027,m031];exact eK _ _ eJ
 unfold ID;simp only [bGs,wz,wy,reduceAdd];refine AR (args2:=[.sl false (ds.map Dc.av),mL.av]) (ids:=ids++[]) (by simp only [dH,hp,aKn,m011]) (aTk false ds mL hcl (by have:maxLen=9223372036854775807:=rfl;omega) hok rfl) rfl ?_;simp only [wz,wy,reduceAdd];have hq:=hQ (adv s 5);cases h:yO ds mL<;>rw [h] at hq<;>simpa using hq
theorem l43 (ex:Bool) (l:List Cl) (hlen:l.length<=60) (hok:∀ c∈l,c.ok=true) (Q:aE) (r:Bool) (hQ:∀ s,Q (.bool r) s) :
  ∀ (m i:Nat) (ds:List Dc) (x:AV) (s:St),i+m=l.length->ds.length<=i->(∀ d∈ds,d.ok=true)->aI s->Gw 67 10 0 s x (ds.map Dc.av)->r=LS (l.drop i) ds->∃ g,lY Q g (.sl ex (l.map Cl.av)) x (.int .i64 i) s:=by
 intro m
 induction m with
 | zero =>intro i ds x s hi hdl hdo fr g hr;refine ⟨1,?_⟩;show gV Q (lY Q 0) _ _ _ s;rw [m044 (by omega)] at hr;have hr:r=yO ds mL:=hr;subst hr;simp only [gV,vG,m002,nA,show ¬ (i < l.length) by omega,decide_false,wz,wy,reduceAdd];exact j43 ds (by omega) hdo Q hQ x _ g.adv
 | succ m ihm =>
  intro i ds x s hi hdl hdo fr g hr;obtain ⟨c,hc⟩:∃ c,l[i]?=some c:=⟨_,m004 (by omega)⟩;rw [bZ l i c hc,LS] at hr;have hix:=aGu ex l i c hc;have hlt:i < l.length:=by omega
  have hco:=hok c (m017 hc);simp only [Cl.ok,cQ] at hco;obtain ⟨⟨⟨_,_⟩,hcd⟩,hcx⟩:=hco;have hcb:c.d.body.ok=true:=by simp only [Dc.ok,cQ] at hcd;exact hcd.2
  have hs1:=IP c.x hcx;have hs2:=JF c.x hcx;have hs3:=IP c.d.body hcb;obtain ⟨Z,hZ,hZl⟩:=bQr
  have hst:∀ (q:St) (N:Nat),dN 18 (.ptr N 0) c.av (q.set N (some (.cells Z.cells 93 true true)))=some ((q.set N (some (.cells Z.cells 93 true true))).set N (some (.cells c.av.cells 93 true true))):=fun q N =>
   bI (by rw [aG]) hZl (aKr c) (WT c)
  cases h1:decide (c.x.size > 60) with
  | true =>rw [h1] at hr;have hr:r=false:=hr;subst hr;refine ⟨1,?_⟩;show gV Q (lY Q 0) _ _ _ s;simp only [gV,vG,m002,nA,hlt,decide_true,hix,mJ,hZ,hst,zN,wz,wy,reduceAdd];refine aP hs1 (by simp [aS]) ?_;simp only [h1,wz,wy,reduceAdd];exact hQ _
  | false =>
  cases h2:decide (c.x.depth > 64) with
  | true =>rw [h1,h2] at hr;have hr:r=false:=hr;subst hr;refine ⟨1,?_⟩;show gV Q (lY Q 0) _ _ _ s;simp only [gV,vG,m002,nA,hlt,decide_true,hix,mJ,hZ,hst,zN,wz,wy,reduceAdd];refine aP hs1 (by simp [aS]) ?_;simp only [h1,zN,wz,wy,reduceAdd];refine aP hs2 (by simp [aS]) ?_;simp only [h2,wz,wy,reduceAdd];exact hQ _
  | false =>
  cases h3:decide (c.d.body.size > 60) with
  | true =>rw [h1,h2,h3] at hr;have hr:r=false:=hr;subst hr;refine ⟨1,?_⟩;show gV Q (lY Q 0) _ _ _ s;simp only [gV,vG,m002,nA,hlt,decide_true,hix,mJ,hZ,hst,zN,wz,wy,reduceAdd];refine aP hs1 (by simp [aS]) ?_;simp only [h1,zN,wz,wy,reduceAdd];refine aP hs2 (by simp [aS]) ?_;simp only [h2,aWq,wz,wy,reduceAdd];refine aP hs3 (by simp [aS]) ?_;simp only [h3,wz,wy,reduceAdd];exact hQ _
  | false =>
  cases h4:decide ((c.d.nm.length:Int) > 200) with
  | true =>rw [h1,h2,h3,h4] at hr;have hr:r=false:=hr;subst hr;refine ⟨1,?_⟩;show gV Q (lY Q 0) _ _ _ s;simp only [gV,vG,m002,nA,hlt,decide_true,hix,mJ,hZ,hst,zN,wz,wy,reduceAdd];refine aP hs1 (by simp [aS]) ?_;simp only [h1,zN,wz,wy,reduceAdd];refine aP hs2 (by simp [aS]) ?_;simp only [h2,aWq,wz,wy,reduceAdd];refine aP hs3 (by simp [aS]) ?_;simp only [h3,cl2,wD,h4,wz,wy,reduceAdd];exact hQ _
  | false =>
  rw [h1,h2,h3,h4] at hr;have hr:r=LS (l.drop (i+1)) (cond (c.kind==0||c.kind==1) (ds++[c.d]) ds):=hr;have hN:s.h (s.nx+4+4)=none:=fr _ (by omega)
  have hB:∀ Z c:Option gL,aI (((adv (adv s 4) 6).set (s.nx+4+4) Z).set (s.nx+4+4) c):=fun Z c =>
   (fr.adv.adv.set (by show s.nx+4+4 < s.nx+4+6;omega)).set (by show s.nx+4+4 < s.nx+4+6;omega)
  have hG:∀ Z c:Option gL,Gw 67 10 0 (((adv (adv s 4) 6).set (s.nx+4+4) Z).set (s.nx+4+4) c) x (ds.map Dc.av):=fun Z c =>
   g.mono fun j _ hj=>by have hne:j≠s.nx+4+4:=fun he=>hj (by rw [he];exact hN);rw [aB hne,aB hne];rfl
  have hml:l.length<=maxLen:=by have:maxLen=9223372036854775807:=rfl;omega
  cases hk:(c.kind==0||c.kind==1) with
  | false =>rw [hk] at hr;simp only [NJ] at hk;obtain ⟨n,hn⟩:=ihm (i+1) ds x (adv (adv (adv (((adv (adv s 4) 6).set (s.nx+4+4) (some (.cells Z.cells 93 true true))).set (s.nx+4+4) (some (.cells c.av.cells 93 true true))) 24) 8) 3) (by omega) (by omega) hdo (hB _ _).adv.adv.adv (hG _ _).adv.adv.adv hr;refine ⟨n+1,?_⟩;show gV Q (lY Q n) _ _ _ s;simp only [gV,vG,m002,nA,hlt,decide_true,hix,mJ,hZ,hst,zN,wz,wy,reduceAdd];refine aP hs1 (by simp [aS]) ?_;simp only [h1,zN,wz,wy,reduceAdd];refine aP hs2 (by simp [aS]) ?_;simp only [h2,aWq,wz,wy,reduceAdd];refine aP hs3 (by simp [aS]) ?_;simp only [h3,cl2,wD,h4,cl0,hk.1,hk.2,HS,wz,wy,reduceAdd];rw [bU i _ hlt hml];exact hn
  | true =>
   rw [hk] at hr
   have hdo':∀ d∈ds++[c.d],d.ok=true:=fun d hd=>by
    rcases m003.1 hd with hd | hd
    ·exact hdo d hd
    ·simp at hd;subst hd;exact hcd
   have hfit:lW ((ds.map Dc.av).length+1) 128=true:=by
    rw [m002];have h1:(ds.length+1) * 128<=most:=by unfold most;omega
    have h2:ds.length+1<=most:=by unfold most;omega
    simp only [lW,Nat.ble_eq_true_of_le h1,Nat.ble_eq_true_of_le h2,iR]
   have hbs:lE 49 1 [(0,c.d.av)]=some (.sl true [c.d.av]):=eB bCj (by decide) (fD c.d) (dP c.d);have fin:∀ q:St,aI q->Gw 67 10 0 q x (ds.map Dc.av)->∃ x' s' n,bt .append #[49,49] [x,.sl true [c.d.av]] (q.nx+4) (adv q 6)=some (x',s')/\lY Q n (.sl ex (l.map Cl.av)) x' (.int .i64 ((i+1:Nat):Int)) (adv s' 3):=by intro q fq gq;obtain ⟨x',s',e1,e2,e3,_,_⟩:=aSt (id:=q.nx+4) bCj (gq.adv (n:=6)) fq.adv (fD c.d) (dP c.d) hfit (mM _) (by show q.nx+4 < q.nx+6;omega) true;obtain ⟨n,hn⟩:=ihm (i+1) (ds++[c.d]) x' (adv s' 3) (by omega) (by simp;omega) hdo' e3.adv (by rw [m038];exact e2.adv) hr;exact ⟨x',s',n,e1,hn⟩
   obtain ⟨x',s',n,e1,e2⟩:=fin (adv (adv (((adv (adv s 4) 6).set (s.nx+4+4) (some (.cells Z.cells 93 true true))).set (s.nx+4+4) (some (.cells c.av.cells 93 true true))) 24) 8) (hB _ _).adv.adv (hG _ _).adv.adv;refine ⟨n+1,?_⟩;show gV Q (lY Q n) _ _ _ s;simp only [gV,vG,m002,nA,hlt,decide_true,hix,mJ,hZ,hst,zN,wz,wy,reduceAdd];refine aP hs1 (by simp [aS]) ?_;simp only [h1,zN,wz,wy,reduceAdd];refine aP hs2 (by simp [aS]) ?_;simp only [h2,aWq,wz,wy,reduceAdd];refine aP hs3 (by simp [aS]) ?_
   cases hk0:(c.kind==0) with
   | true =>simp only [h3,cl2,wD,h4,cl0,bCe,hk0,hbs,HS,wz,wy,reduceAdd];simp only [adv_nx,aYh] at e1;rw [e1];simp only [Bnd_some,bin_add];rw [bU i _ hlt hml];exact e2
   | false =>rw [hk0] at hk;have hk1:(c.kind==1)=true:=hk;simp only [h3,cl2,wD,h4,cl0,bCe,hk0,hk1,hbs,HS,wz,wy,reduceAdd];simp only [adv_nx,aYh] at e1;rw [e1];simp only [Bnd_some,bin_add];rw [bU i _ hlt hml];exact e2
theorem bDg (ex:Bool) (l:List Cl) (hok:∀ c∈l,c.ok=true):bA mEv 43 [.sl ex (l.map Cl.av)] (.bool (bDh l)):=by
 refine aZ rfl (aTo _ _ ?_);unfold f43 bDh
 cases h1:decide ((l.length:Int) > 60) with
 | true=>simp only [vG,m002,h1,wz,wy,reduceAdd]
 | false =>simp only [vG,m002,h1,wz,wy,reduceAdd];have:¬ ((l.length:Int) > 60):=of_decide_eq_false h1;exact l43 ex l (by omega) hok _ _ (fun _=>rfl) l.length 0 [] .nils _ (by omega) (by simp) (fun _ h=>by cases h) jF.adv.adv gK rfl
end
noncomputable section
theorem aVa {a b:Nat} (h:a≠b):Nat.beq a b=false:=by
 cases hh:Nat.beq a b with
 | false=>rfl
 | true=>exact absurd (iC hh) h
theorem bJl (d:Dc):EvA 10 d.av:=⟨fD d,dP d,eJ d⟩
theorem bMo (y:Sx):EvA 6 y.av:=⟨iA y,cI y,aS y⟩
theorem aXn (n:Int):EvA 1 (.int .i64 n):=⟨rfl,rfl,rfl⟩
theorem SE {t e:TypeId} {z:Nat} {x:AV} {vs:List AV} {s:St} (g:Jw e z s x vs) (h1:∀ id S,bt .len #[t] [.nils] id S=some (.int .i64 0,S)) (h2:∀ i o n c e id S,bt .len #[t] [.ref i o n c e] id S=some (.int .i64 (n:Nat),S)) (id:Nat) (S:St):bt .len #[t] [x] id S=some (.int .i64 vs.length,S):=by
 obtain ⟨_,⟨rfl,rfl⟩ | ⟨_,_,_,rfl,_⟩⟩:=g
 ·exact h1 ..
 ·exact h2 ..
theorem bNf {x:AV} {vs:List AV} {s:St} (g:Jw 67 10 s x vs) (id:Nat) (S:St):bt .len #[49] [x] id S=some (.int .i64 vs.length,S):=SE g aGc aFh id S
theorem bDn {x:AV} {vs:List AV} {s:St} (g:Jw 33 6 s x vs) (id:Nat) (S:St):bt .len #[31] [x] id S=some (.int .i64 vs.length,S):=SE g VZ ME id S
theorem aJp {x:AV} {vs:List AV} {s:St} (g:Jw 3 1 s x vs) (id:Nat) (S:St):bt .len #[72] [x] id S=some (.int .i64 vs.length,S):=SE g aZa bMm id S
section
variable {s s':St} {p:Nat} {K:Sk} {F:List Nat}
theorem bOq (fr:aI s) (h:cL s p K F) (d:Dc) (hl:K.D.length<=2 ^ 20):mO 190 [.ptr p 0,d.av] s p F (.tup []) { K with D:=K.D++[d] }:=by
 have hF:=h.lt fr;have hp:=hF p h.pin;obtain ⟨xd,xm,xa,xn,m,c,rfl⟩:=h
 have r:=aNn (.ptr p 0) d.av s (Q:=fun r s'=>r=.tup []/\bR s p (p::aO xd xm xa xn m) { K with D:=K.D++[d] } s') (by
  unfold f190;refine ⟨dP d,?_⟩;have hps:¬ (p=s.nx):=by omega
  obtain ⟨S,hS⟩:∃ S,S=Ai.adv (s.set s.nx (some (.cells d.av.cells 67 true true))) 14:=⟨_,rfl⟩;have kS:∀ j,j < s.nx->S.h j=s.h j:=fun j hj=>by rw [hS,adv_h,aB (by omega)]
  have nS:S.nx=s.nx+14:=by rw [hS];rfl
  have fS:∀ j,s.nx < j->S.h j=none:=fun j hj=>by rw [hS,adv_h,aB (by omega)];exact fr j (by omega)
  have hb:lE 49 1 [(0,d.av)]=some (.sl true [d.av]):=eB SL (by decide) (fD d) (dP d);obtain ⟨x',S',e1,e2,e3,e4,e5,_⟩:=QY (s:=S) SL (c.d.keep (s':=S) fun j hj=>kS j (hF j (by simp [aO,hj]))) (v:=d.av) (bJl d) (by rw [m002];omega) (by rw [m002];omega) true (s.nx+10) (fS _ (by omega));have hlt:∀ j∈aF xd,j < s.nx:=fun j hj=>hF j (by simp [aO,hj]);have nd:=c.nd;simp only [m036,m003,not_or] at nd;have hcell:S'.h p=some (.cells [xd,xm,xa,xn,m] 88 true true):=by rw [e4 p (by omega) nd.1.1,kS p hp,c.cell]
  simp only [WN,c.cell,hps,if_false,iX,hb,wx,wy,reduceAdd,reduceEqDiff,reduceCtorEq];refine ⟨rfl,fr _ (by omega),?_⟩;rw [<- hS,e1];simp only [Bnd_some];refine ⟨rfl,?_,?_⟩
  ·rw [e4 _ (by omega) (fun hm=>by have:=hlt _ hm;omega)];exact fS _ (by omega)
  ·rw [dW hcell (by simp) e2.one.1 e2.one.2];simp only [Bnd_some];have hE:∀ y,y < s.nx->y ∉ aF xd->S'.h y=s.h y:=fun y hy hn=>by rw [e4 y (by omega) hn,kS y hy]
   rw [<- List.map_singleton (f:=Dc.av),<- m038] at e2
   exact rQ (id:=s.nx+10) (A:=aF xd) c fr (by omega) (by omega) (by omega) (fun j hj=>by simp [aO,hj]) hE (fun j hj=>by rw [e4 j (by omega) (fun hm=>by have:=hlt _ hm;omega)];exact fS j (by omega)) (fun j hj=>by
    simp only [aO,m003] at hj ⊢;have:=e5 j
    grind) (bBk c fr (id:=s.nx+10) (by omega) hE e5 e2))
 obtain ⟨r,s',h1,rfl,h2⟩:=r;exact ⟨_,s',h1,rfl,h2⟩
theorem bRk (fr:aI s) (h:cL s p K F) (y:Sx) (hl:K.X.length<=2 ^ 20):mO 145 [.ptr p 2,y.av] s p F (.tup []) { K with X:=K.X++[y] }:=by
 have hF:=h.lt fr;have hp:=hF p h.pin;obtain ⟨xd,xm,xa,xn,m,c,rfl⟩:=h
 have r:=aLq (.ptr p 2) y.av s (Q:=fun r s'=>r=.tup []/\bR s p (p::aO xd xm xa xn m) { K with X:=K.X++[y] } s') (by
  unfold f145;refine ⟨cI y,?_⟩;have hps:¬ (p=s.nx):=by omega
  obtain ⟨S,hS⟩:∃ S,S=Ai.adv (s.set s.nx (some (.cells y.av.cells 33 true true))) 16:=⟨_,rfl⟩;have kS:∀ j,j < s.nx->S.h j=s.h j:=fun j hj=>by rw [hS,adv_h,aB (by omega)]
  have nS:S.nx=s.nx+16:=by rw [hS];rfl
  have fS:∀ j,s.nx < j->S.h j=none:=fun j hj=>by rw [hS,adv_h,aB (by omega)];exact fr j (by omega)
  have hb:lE 31 1 [(0,.agg [.bool false,.int .i64 0,.str [],.int .i64 0,.int .i64 0,.nils])]=some (.sl true [.agg [.bool false,.int .i64 0,.str [],.int .i64 0,.int .i64 0,.nils]]):=eB yE (by decide) rfl rfl;obtain ⟨i,S',S2,e1,e2,e3,e4,e5,e6,e7,e8,e9⟩:=bCg (s:=S) yE (c.x.keep (s':=S) fun j hj=>kS j (hF j (by simp [aO,hj]))) (v0:=.agg [.bool false,.int .i64 0,.str [],.int .i64 0,.int .i64 0,.nils]) (v:=y.av) rfl rfl (bMo y) (by rw [m002];omega) (by rw [m002];omega) true (s.nx+10) (fS _ (by omega));have hlt:∀ j∈aF xa,j < s.nx:=fun j hj=>hF j (by simp [aO,hj]);have nd:=c.nd;simp only [m036,m003,not_or] at nd;have hin:i < s.nx\/i=s.nx+10:=e9.elim .inr fun h=>.inl (hlt i h)
  have hip:i≠p:=fun e=>by
   subst e;rcases e9 with h | h
   ·omega
   ·exact nd.1.2.2.1 h
  have hcell:S2.h p=some (.cells [xd,xm,xa,xn,m] 88 true true):=by rw [e8 p (Ne.symm hip),e7 p (by omega) nd.1.2.2.1,kS p hp,c.cell]
  have hlen:=bDn c.x;rw [m002] at hlen e2 e3 e1 e4;simp only [VG,c.cell,hps,if_false,dG,hb,hlen,wx,wy,reduceAdd,reduceEqDiff,reduceCtorEq];refine ⟨rfl,fr _ (by omega),?_⟩;rw [<- hS,e1];simp only [Bnd_some,e2];refine ⟨?_,?_⟩
  ·rw [e7 _ (by omega) (fun hm=>by have:=hlt _ hm;omega)];exact fS _ (by omega)
  rw [e3];simp only [Bnd_some];have q1:¬ (s.nx+15=i):=by omega
  have q2:¬ (p=i):=fun e=>hip e.symm;have q3:¬ (p=s.nx+12):=by omega
  refine ⟨rfl,?_,?_,?_⟩
  ·simp [clear,dV.apart,tH,bN,aF,lG,dK,q1,q2,q3,aVa (show s.nx+12≠s.nx+15 by omega),aVa (show s.nx+12≠p by omega),aVa (show i≠s.nx+15 by omega),aVa hip]
  ·rw [e8 _ (by omega),e7 _ (by omega) (fun hm=>by have:=hlt _ hm;omega)];exact fS _ (by omega)
  ·rw [dW hcell (by simp) rfl rfl];simp only [Bnd_some];have hE:∀ y,y < s.nx->y ∉ aF xa->S2.h y=s.h y:=fun z hy hn=>by rw [e8 z (fun e=>by subst e;rcases e9 with h | h;omega;exact hn h),e7 z (by omega) hn,kS z hy]
   rw [<- List.map_singleton (f:=Sx.av),<- m038] at e4;have hI:∀ j∈aF (.ref i 0 (K.X.length+1) none 33),j=s.nx+10\/j∈aF xa:=fun j hj=>by simp only [aF,m008] at hj;subst hj;exact e9
   exact rQ (id:=s.nx+10) (A:=aF xa) c fr (by omega) (by omega) (by omega) (fun j hj=>by simp [aO,hj]) hE (fun j hj=>by rw [e8 j (by omega),e7 j (by omega) (fun hm=>by have:=hlt _ hm;omega)];exact fS j (by omega)) (fun j hj=>by
    simp only [aO,m003] at hj ⊢;have:=hI j
    grind) (aXt c fr (id:=s.nx+10) (by omega) hE hI e4))
 obtain ⟨r,s',h1,rfl,h2⟩:=r;exact ⟨_,s',h1,rfl,h2⟩
theorem bPt (fr:aI s) (h:cL s p K F) (hl:K.dm.length<=2 ^ 20):mO 100 [.ptr p 0] s p F (.tup []) { K with dm:=K.dm++[(K.D.length:Int)] }:=by
 have hF:=h.lt fr;have hp:=hF p h.pin;obtain ⟨xd,xm,xa,xn,m,c,rfl⟩:=h
 have r:=aIs (.ptr p 0) s (Q:=fun r s'=>r=.tup []/\bR s p (p::aO xd xm xa xn m) { K with dm:=K.dm++[(K.D.length:Int)] } s') (by
  unfold f100;obtain ⟨S,hS⟩:∃ S,S=Ai.adv s 17:=⟨_,rfl⟩;have kS:∀ j,S.h j=s.h j:=fun j=>by rw [hS,adv_h]
  have nS:S.nx=s.nx+17:=by rw [hS];rfl
  have hb:∀ n:Int,lE 72 1 [(0,.int .i64 n)]=some (.sl true [.int .i64 n]):=fun n=>eB sB (by decide) rfl rfl;obtain ⟨x',S',e1,e2,e3,e4,e5,_⟩:=QY (s:=S) sB (c.dm.keep (s':=S) fun j hj=>kS j) (v:=.int .i64 (K.D.length:Int)) (aXn _) (by rw [m002];omega) (by rw [m002];omega) true (s.nx+13) (by rw [kS];exact fr _ (by omega));have hlt:∀ j∈aF xm,j < s.nx:=fun j hj=>hF j (by simp [aO,hj]);have nd:=c.nd;simp only [m036,m003,not_or] at nd;have hcell:S'.h p=some (.cells [xd,xm,xa,xn,m] 88 true true):=by rw [e4 p (by omega) (by grind),kS p,c.cell]
  have hlen:=bNf c.d;rw [m002] at hlen;simp only [WN,c.cell,hlen,hb,wx,wy,reduceAdd,reduceEqDiff,reduceCtorEq];refine ⟨rfl,?_⟩;refine ⟨rfl,fr _ (by omega),?_⟩;rw [<- hS,e1];simp only [Bnd_some];refine ⟨rfl,?_,?_⟩
  ·rw [e4 _ (by omega) (fun hm=>by have:=hlt _ hm;omega),kS];exact fr _ (by omega)
  ·rw [dW hcell (by simp) e2.one.1 e2.one.2];simp only [Bnd_some];have hE:∀ y,y < s.nx->y ∉ aF xm->S'.h y=s.h y:=fun y hy hn=>by rw [e4 y (by omega) hn,kS y]
   have e2':Jw 3 1 S' x' ((K.dm++[(K.D.length:Int)]).map dT):=by rw [m038];exact e2
   exact rQ (id:=s.nx+13) (A:=aF xm) c fr (by omega) (by omega) (by omega) (fun j hj=>by simp [aO,hj]) hE (fun j hj=>by rw [e4 j (by omega) (fun hm=>by have:=hlt _ hm;omega),kS];exact fr j (by omega)) (fun j hj=>by
    simp only [aO,m003] at hj ⊢;have:=e5 j
    grind) (aJo c fr (id:=s.nx+13) (by omega) hE e5 e2'))
 obtain ⟨r,s',h1,rfl,h2⟩:=r;exact ⟨_,s',h1,rfl,h2⟩
theorem bQm (fr:aI s) (h:cL s p K F) (hl:K.am.length<=2 ^ 20):mO 101 [.ptr p 2] s p F (.tup []) { K with am:=K.am++[(K.X.length:Int)] }:=by
 have hF:=h.lt fr;have hp:=hF p h.pin;obtain ⟨xd,xm,xa,xn,m,c,rfl⟩:=h
 have r:=aLw (.ptr p 2) s (Q:=fun r s'=>r=.tup []/\bR s p (p::aO xd xm xa xn m) { K with am:=K.am++[(K.X.length:Int)] } s') (by
  unfold f101;obtain ⟨S,hS⟩:∃ S,S=Ai.adv s 17:=⟨_,rfl⟩;have kS:∀ j,S.h j=s.h j:=fun j=>by rw [hS,adv_h]
  have nS:S.nx=s.nx+17:=by rw [hS];rfl
  have hb:∀ n:Int,lE 72 1 [(0,.int .i64 n)]=some (.sl true [.int .i64 n]):=fun n=>eB sB (by decide) rfl rfl;obtain ⟨x',S',e1,e2,e3,e4,e5,_⟩:=QY (s:=S) sB (c.am.keep (s':=S) fun j hj=>kS j) (v:=.int .i64 (K.X.length:Int)) (aXn _) (by rw [m002];omega) (by rw [m002];omega) true (s.nx+13) (by rw [kS];exact fr _ (by omega));have hlt:∀ j∈aF xn,j < s.nx:=fun j hj=>hF j (by simp [aO,hj]);have nd:=c.nd;simp only [m036,m003,not_or] at nd;have hcell:S'.h p=some (.cells [xd,xm,xa,xn,m] 88 true true):=by rw [e4 p (by omega) (by grind),kS p,c.cell]
  have hlen:=bDn c.x;rw [m002] at hlen;simp only [VG,c.cell,hlen,hb,wx,wy,reduceAdd,reduceEqDiff,reduceCtorEq];refine ⟨rfl,?_⟩;refine ⟨rfl,fr _ (by omega),?_⟩;rw [<- hS,e1];simp only [Bnd_some];refine ⟨rfl,?_,?_⟩
  ·rw [e4 _ (by omega) (fun hm=>by have:=hlt _ hm;omega),kS];exact fr _ (by omega)
  ·rw [dW hcell (by simp) e2.one.1 e2.one.2];simp only [Bnd_some];have hE:∀ y,y < s.nx->y ∉ aF xn->S'.h y=s.h y:=fun y hy hn=>by rw [e4 y (by omega) hn,kS y]
   have e2':Jw 3 1 S' x' ((K.am++[(K.X.length:Int)]).map dT):=by rw [m038];exact e2
   exact rQ (id:=s.nx+13) (A:=aF xn) c fr (by omega) (by omega) (by omega) (fun j hj=>by simp [aO,hj]) hE (fun j hj=>by rw [e4 j (by omega) (fun hm=>by have:=hlt _ hm;omega),kS];exact fr j (by omega)) (fun j hj=>by
    simp only [aO,m003] at hj ⊢;have:=e5 j
    grind) (aHb c fr (id:=s.nx+13) (by omega) hE e5 e2'))
 obtain ⟨r,s',h1,rfl,h2⟩:=r;exact ⟨_,s',h1,rfl,h2⟩
theorem c46 (fr:aI s) (h:cL s p K F):KP 46 [.ptr p 0] s (.int .i64 K.dm.length):=by obtain ⟨xd,xm,xa,xn,m,c,rfl⟩:=h;have hlen:=aJp c.dm;rw [m002] at hlen;refine aSh _ _ (Q:=fun r s'=>r=.int .i64 K.dm.length/\EF [] s s') ?_;unfold f46;simp only [lA,wx,wy,reduceAdd,reduceEqDiff,reduceCtorEq];refine ⟨rfl,?_⟩;refine bO bPd (UK _ _ ?_);unfold f98;simp only [AA,wx,wy,reduceAdd,reduceEqDiff,reduceCtorEq];refine ⟨rfl,?_⟩;simp only [c.cell,hlen,wx,wy,reduceAdd,reduceEqDiff,reduceCtorEq];exact (EF.refl [] fr).adv
def jQ (K:Sk) (nm:List UInt8):Int:=bif bC nm then 101 else bif (K.N.getD []).contains nm then 4 else 0
theorem MO (nm:List UInt8) (N:List (List UInt8)):find (.str nm) (pH N)=some (if N.contains nm then some (.bool true) else none):=by
 induction N with
 | nil=>rfl
 | cons a N ih =>
  simp only [pH,m039,find,fZ]
  cases h:(nm==a) with
  | true =>
   have:nm=a:=by simpa using h
   subst this;simp
  | false =>
   have h2:(a==nm)=false:=by
    have:nm≠a:=by simpa using h
    simpa using Ne.symm this
   simp only [pH] at ih;simp only [ih,List.contains_cons,h,m026]
theorem aZk:eH Tryz.ty 86=some (.map 9 4):=by kernel_rfl
theorem bEm {m:AV} {N:Option (List (List UInt8))} (h:NmR s m N) (nm:List UInt8) (S:St) (hS:∀ j∈aF m,S.h j=s.h j):eA Tryz.ty 86 m (.str nm) false S=some (.bool ((N.getD []).contains nm)):=by
 have h9:eH Tryz.ty 9=some .string:=by kernel_rfl
 have hz:zero Tryz.ty 4=some (.bool false):=by kernel_rfl
 have he:jK m (.str nm) S=some (if (N.getD []).contains nm then some (.bool true) else none):=by
  rcases h with ⟨rfl,rfl⟩ | ⟨l,j,rfl,rfl,hj⟩
  ·rfl
  ·simp only [jK,hS j (by simp [aF]),hj,MO,Option.getD_some]
 simp only [eA,aZk,h9,Option.bind_some,tF,if_true,hz,he,Option.map_some,m015,if_false];cases (N.getD []).contains nm<;>rfl
theorem aXz:mEv.fz 143=false:=by kernel_rfl
theorem bLb (fr:aI s) (h:cL s p K F) (nm:List UInt8):KP 143 [.ptr p 0,.str nm] s (.int .i64 (jQ K nm)):=by
 obtain ⟨xd,xm,xa,xn,m,c,rfl⟩:=h;refine aHh _ _ _ (Q:=fun r s'=>r=.int .i64 (jQ K nm)/\EF [] s s') ?_;unfold f143;refine aP (c24 nm) (by simp [AV.closed]) ?_;show _
 cases hr:bC nm with
 | true =>have hr0:=hr;unfold bC at hr;simp only [hr,jQ,hr0,cond_true,wx,wy,reduceAdd,reduceEqDiff,reduceCtorEq];exact (EF.refl [] fr).adv
 | false =>
  have hr0:=hr;unfold bC at hr;simp only [hr,wx,wy,reduceAdd,reduceEqDiff,reduceCtorEq];refine ⟨rfl,?_⟩;have hlk:∀ k,eA Tryz.ty 86 m (.str nm) false (Ai.adv s k)=some (.bool ((K.N.getD []).contains nm)):=fun k=>bEm c.n nm _ fun _ _=>rfl;simp only [c.cell,hlk,wx,wy,reduceAdd,reduceEqDiff,reduceCtorEq]
  cases hc:(K.N.getD []).contains nm with
  | true =>simp only [jQ,hr0,hc,cond_true,cond_false,wx,wy,reduceAdd,reduceEqDiff,reduceCtorEq];exact (EF.refl [] fr).adv
  | false =>simp only [jQ,hr0,hc,cond_false,wx,wy,reduceAdd,reduceEqDiff,reduceCtorEq];exact (EF.refl [] fr).adv
def QO (N:Option (List (List UInt8))) (nm:List UInt8):Option (List (List UInt8)):=some (let l:=N.getD [];if l.contains nm then l else l++[nm])
def wW (N:List (List UInt8)) (nm:List UInt8):List (List UInt8):=if N.contains nm then N else N++[nm]
theorem aVk (nm:List UInt8) (N:List (List UInt8)):fQ (.str nm) (.bool true) (pH N)=pH (wW N nm):=by
 induction N with
 | nil=>rfl
 | cons a N ih =>
  simp only [pH,m039,fQ,fZ];by_cases h:nm=a
  ·subst h;simp [wW,pH]
  ·have h1:(nm==a)=false:=by simpa using h
   simp only [pH] at ih;simp only [h1,ih];have hc:(a::N).contains nm=N.contains nm:=by rw [List.contains_cons,h1,m026]
   simp only [wW,hc];cases N.contains nm<;>simp
theorem aYi {j:Nat} {N:List (List UInt8)} {S:St} (hj:S.h j=some (.map (pH N))) (nm:List UInt8):eI Tryz.ty 86 (.map j) (.str nm) (.bool true) S=some (S.set j (some (.map (pH (wW N nm))))):=by
 have h9:eH Tryz.ty 9=some .string:=by kernel_rfl
 simp only [eI,aZk,h9,Option.bind_some,hj,tF,if_true,MO,Option.map_some,aVk]
end
end
noncomputable section
structure DcV (v:AV) (d:Dc):Prop where
 len:v.cells.length=10
 ones:v.cells.all AV.one=true
 nm:v.cells[0]?=some (.str d.nm)
 part:Ai.part 10 true 0 v.cells=some v
 pur:∀ s,pur mEv.P s 12 v=some (d.av,[])
theorem dcv (d:Dc):DcV d.av d:=⟨fD d,dP d,dc0 d,iX d,fun s=>SF (eJ d) s⟩
def aNo (nm:List UInt8) (so:Int):AV:=.agg [.str nm,.int .i64 so,.bool false,.nils,.bool false,.int .i64 0,.str [],.int .i64 0,.int .i64 0,.nils]
def tU (nm:List UInt8) (so:Int):Dc:=⟨nm,so,false,[],mL⟩
theorem aCn (nm:List UInt8) (so:Int):DcV (aNo nm so) (tU nm so):=⟨rfl,rfl,rfl,rfl,fun s=>rfl⟩
theorem bDe (d:Dc):eD d.av=[]:=by have h:=jB (l:=[d.av]) (by simp only [aX,eJ,iR]);simpa only [dA,m011] using h
theorem aIl (y:Sx):eD y.av=[]:=by have h:=jB (l:=[y.av]) (by simp only [aX,aS,iR]);simpa only [dA,m011] using h
theorem aIq {h:FuncId} {l:List Nat} {s:St} {k:aE} {v w r:AV} (hp:pur mEv.P (s.only l) 12 v=some (w,[])) (hc:bA mEv h [w] r) (hk:k r s):eL mEv h [v] l s k:=.mk [w] [] r (by simp only [dH,hp,m011]) hc rfl hk
theorem bJt:mEv.fz 190=false:=by kernel_rfl
theorem bJi:mEv.fz 145=false:=by kernel_rfl
theorem bAt:mEv.fz 144=false:=by kernel_rfl
theorem bCv {s s':St} {r:AV} {D:List Dc} (h:FE 67 s s' r (D.map Dc.av)) (id:Nat) (S:St):bt .len #[49] [r] id S=some (.int .i64 D.length,S):=by
 rcases h.2 with ⟨h1,h2⟩ | ⟨j,_,rfl,_⟩
 ·have:D=[]:=by simpa using h1
  subst this;rcases h2 with rfl | rfl
  ·exact aGc ..
  ·exact GW ..
 ·rw [m002];exact aFh ..
theorem bRc {s s':St} {r:AV} {D:List Sx} (h:FE 33 s s' r (D.map Sx.av)) (id:Nat) (S:St):bt .len #[31] [r] id S=some (.int .i64 D.length,S):=by
 rcases h.2 with ⟨h1,h2⟩ | ⟨j,_,rfl,_⟩
 ·have:D=[]:=by simpa using h1
  subst this;rcases h2 with rfl | rfl
  ·exact VZ ..
  ·exact oZ ..
 ·rw [m002];exact ME ..
def pG (K:Sk) (d:Dc):Int×Sk:=bif (K.D.length:Int)==500 then (2,K) else (0,{ K with D:=K.D++[d],N:=QO K.N d.nm })
section
variable {s s':St} {p:Nat} {K:Sk} {F:List Nat} {xd xm xa xn m:AV}
theorem bR.step {F1:List Nat} {K2:Sk} {s1 s2:St} (e:EF F s s1) (hF:∀ j∈F1,j∈F\/s.nx<=j) (q:bR s1 p F1 K2 s2):bR s p F K2 s2:=by obtain ⟨F',h1,h2,h3⟩:=q;have:=e.nx;exact ⟨F',h1,e.trans h2 fun j hj=>(hF j hj).symm,fun j hj=>(h3 j hj).elim (hF j) fun h=>.inr (by omega)⟩
theorem bGe {v:AV} {d:Dc} (hv:DcV v d) (hd1:d.body.fit) (hd2:d.ps.length<=2 ^ 20) (fr:aI s) {j b:Nat} (c:gB s p K xd xm xa xn (.map j)) (hb:s.h b=some (.cells v.cells 67 true true)) (hbn:b ∉ p::aO xd xm xa xn (.map j)) (hl:K.D.length<=2 ^ 20) {Q:aE}
  (hQ:∀ S',bR s p (p::aO xd xm xa xn (.map j)) { K with D:=K.D++[d],N:=QO K.N d.nm } S'->Q (.int .i64 0) S'):xS Q (.ptr p 0) (.ptr b 0) s:=by
 unfold xS;have hR:cL s p K (p::aO xd xm xa xn (.map j)):=⟨_,_,_,_,_,c,rfl⟩;have hF:=hR.lt fr;have hj0:j∈p::aO xd xm xa xn (.map j):=by simp [aO,aF]
 have hjs:=hF j hj0;have hbj:b≠j:=fun e=>hbn (e ▸ hj0);have hpj:p≠j:=fun e=>by have:=c.nd;simp only [m036,m003,aF,m008,not_or] at this;exact this.1.2.2.2.2 e
 obtain ⟨N0,hN,hm⟩:∃ N0,K.N=some N0/\s.h j=some (.map (pH N0)):=by
  rcases c.n with ⟨_,h⟩ | ⟨l,i,h1,h,h2⟩
  ·cases h
  ·cases h;exact ⟨l,h1,h2⟩
 have hadd:QO K.N d.nm=some (wW N0 d.nm):=by rw [hN];rfl
 refine ⟨rfl,?_⟩;simp only [c.cell,hb,hv.nm,wx,wy,reduceAdd,reduceEqDiff,reduceCtorEq];refine ⟨fr _ (by omega),?_⟩;rw [aYi (S:=Ai.adv s 7) (by rw [adv_h];exact hm)];simp only [Bnd_some];refine ⟨rfl,?_⟩;obtain ⟨S,hS⟩:∃ S,S=Ai.adv (s.set j (some (.map (pH (wW N0 d.nm))))) 13:=⟨_,rfl⟩;have nS:S.nx=s.nx+13:=by rw [hS];rfl
 have kS:∀ i,i≠j->S.h i=s.h i:=fun i hi=>by rw [hS,adv_h,aB hi]
 have fS:aI S:=fun i hi=>by rw [kS i (by omega)];exact fr i (by omega)
 have hbS:S.h b=some (.cells v.cells 67 true true):=by rw [kS b hbj,hb]
 simp only [hbj,hb,hv.part,if_false,wx,wy,reduceAdd,reduceEqDiff,reduceCtorEq];rw [<- hS];have c2:gB S p { K with N:=QO K.N d.nm } xd xm xa xn (.map j):=VQ c fr (id:=s.nx) (bJ _) (by rw [kS p hpj,c.cell]) (fun i _ _ hi=>kS i (by simpa [aF] using hi)) (fun i hi=>.inr hi) (.inr ⟨_,j,hadd,rfl,by rw [hS,adv_h,aG]⟩);have e2:EF (p::aO xd xm xa xn (.map j)) s S:=⟨by omega,fun i hi hn=>kS i fun e=>hn (e ▸ hj0),fS⟩;refine aIq (hv.pur _) (c95 d hd1 hd2) ?_;refine mO.callD (K:={ K with N:=QO K.N d.nm }) (F:=p::aO xd xm xa xn (.map j)) bJt fS ⟨_,_,_,_,_,c2,rfl⟩ rfl (by simp [dA,eD,bDe]) (fun s f h=>bOq f h d hl) fun S2 q=>?_;exact hQ _ (bR.step e2 (fun i hi=>.inl hi) q).adv
theorem bGk {v:AV} {d:Dc} (hv:DcV v d) (hd1:d.body.fit) (hd2:d.ps.length<=2 ^ 20) (fr:aI s) (h:cL s p K F) (hl:K.D.length<=2 ^ 20):mO 144 [.ptr p 0,v] s p F (.int .i64 (pG K d).1) (pG K d).2:=by
 have hF:=h.lt fr;have hp:=hF p h.pin;have h0:=h;obtain ⟨xd,xm,xa,xn,m,c,rfl⟩:=h
 have r:=aQy (.ptr p 0) v s (Q:=fun r s'=>r=.int .i64 (pG K d).1/\bR s p (p::aO xd xm xa xn m) (pG K d).2 s') (by
  unfold f144;refine ⟨hv.ones,?_⟩;obtain ⟨S1,hS1⟩:∃ S,S=(Ai.adv s 2).set s.nx (some (.cells v.cells 67 true true)):=⟨_,rfl⟩;dsimp only;rw [<- hS1];have n1:S1.nx=s.nx+2:=by rw [hS1];rfl
  have k1:∀ j,j < s.nx->S1.h j=s.h j:=fun j hj=>by rw [hS1,aB (by omega),adv_h]
  have b1:S1.h s.nx=some (.cells v.cells 67 true true):=by rw [hS1,aG]
  have f1:aI S1:=fun j hj=>by rw [hS1,aB (by omega),adv_h];exact fr j (by omega)
  have c1:gB S1 p K xd xm xa xn m:=c.keep fun j hj=>k1 j (hF j hj);have ef1:EF [] s S1:=⟨by omega,fun j hj _=>k1 j hj,f1⟩;refine ⟨rfl,?_⟩;simp only [wx,wy,reduceAdd,reduceEqDiff,reduceCtorEq];obtain ⟨r,s2,e1,e2⟩:=c94 (p:=p) (o:=0) (s:=Ai.adv S1 6) (vs:=K.D.map Dc.av) f1.adv c1.cell rfl (c1.d.keep fun _ _=>rfl) (by rw [m002];exact hl);refine bO bJw ⟨r,s2,e1,?_⟩;have ef2:EF [] s s2:=ef1.adv.nil_trans e2.1;have n2:=e2.1.nx;simp only [adv_nx] at n2;have k2:∀ j,j < s.nx+2->s2.h j=S1.h j:=fun j hj=>by rw [e2.1.h j (by simp only [adv_nx];omega) (by simp),adv_h]
  have c2:gB s2 p K xd xm xa xn m:=c1.keep fun j hj=>k2 j (by have:=hF j hj;omega);simp only [bCv e2,wx,wy,reduceAdd,reduceEqDiff,reduceCtorEq]
  cases hq:((K.D.length:Int)==500) with
  | true =>simp only [pG,hq,cond_true,wx,wy,reduceAdd,reduceEqDiff,reduceCtorEq];exact bR.same h0 fr ef2.adv
  | false =>
   simp only [pG,hq,cond_false,wx,wy,reduceAdd,reduceEqDiff,reduceCtorEq];refine ⟨rfl,?_⟩;have hbs:s.nx ∉ p::aO xd xm xa xn m:=fun hm=>by have:=hF _ hm;omega
   rcases c.n with ⟨hN,rfl⟩ | ⟨l0,j,hN,rfl,hj⟩
   ·simp only [c2.cell,bDb,wx,wy,reduceAdd,reduceEqDiff,reduceCtorEq];refine ⟨rfl,?_⟩;obtain ⟨S3,hS3⟩:∃ S,S=(Ai.adv (s2.set (s2.nx+6) (some (.map []))) 10).set p (some (.cells [xd,xm,xa,xn,.map (s2.nx+6)] 88 true true)):=⟨_,rfl⟩;rw [dW (c:=[xd,xm,xa,xn,.nilm]) (e:=88) (ex:=true) (by rw [adv_h,aB (by omega),c2.cell]) (by simp) rfl rfl];simp only [Bnd_some];show xS _ _ _ ((Ai.adv (s2.set (s2.nx+6) (some (.map []))) 10).set p (some (.cells [xd,xm,xa,xn,.map (s2.nx+6)] 88 true true)));rw [<- hS3];have n3:S3.nx=s2.nx+10:=by rw [hS3];rfl
    have k3:∀ j,j≠p->j≠s2.nx+6->S3.h j=s2.h j:=fun j a b=>by rw [hS3,aB a,adv_h,aB b]
    have f3:aI S3:=fun j hj=>by rw [k3 j (by omega) (by omega)];exact e2.1.fr j (by omega)
    have c3:gB S3 p { K with N:=some [] } xd xm xa xn (.map (s2.nx+6)):=VQ c2 e2.1.fr (id:=s2.nx+6) (by omega) (by rw [hS3,aG]) (fun j a b _=>k3 j b (by omega)) (fun j hj=>.inl (by simpa [aF] using hj)) (.inr ⟨[],_,rfl,rfl,by rw [hS3,aB (by omega),adv_h,aG];rfl⟩);have ef3:EF (p::aO xd xm xa xn .nilm) s S3:=⟨by omega,fun j a b=>by rw [k3 j (fun e=>b (by simp [e])) (by omega)];exact ef2.h j a (by simp),f3⟩;have hadd:QO K.N d.nm=QO (some []) d.nm:=by rw [hN];rfl
    rw [hadd];refine bGe (K:={ K with N:=some [] }) hv hd1 hd2 f3 c3 (by rw [k3 _ (by omega) (by omega),k2 _ (by omega),b1]) (fun hm=>?_) hl fun S' q=>⟨rfl,bR.step ef3 (fun j hj=>?_) q⟩
    ·simp only [m013,aO,m003,aF,m008] at hm hbs;have:s.nx≠s2.nx+6:=by omega
     grind
    ·simp only [m013,aO,m003,aF,m008] at hj ⊢;have:s.nx<=s2.nx+6:=by omega
     grind
   ·simp only [c2.cell,bFf,wx,wy,reduceAdd,reduceEqDiff,reduceCtorEq];refine bGe (s:=Ai.adv s2 5) (K:=K) hv hd1 hd2 e2.1.fr.adv (c2.keep fun _ _=>rfl) (by rw [adv_h,k2 _ (by omega),b1]) hbs hl fun S' q=>⟨rfl,?_⟩
    exact bR.step (F1:=p::aO xd xm xa xn (.map j)) (ef2.adv.sub fun j hj=>by cases hj) (fun i hi=>.inl hi) q)
 obtain ⟨r,s',h1,rfl,h2⟩:=r;exact ⟨_,s',h1,rfl,h2⟩
def nK (K:Sk) (nm:List UInt8) (so:Int):Int×Sk:=bif (decide (so < 1)||(decide (so > 3)||decide ((nm.length:Int) > 16384))) then (1,K) else bif jQ K nm != 0 then (jQ K nm,K) else pG K (tU nm so)
theorem bKp:mEv.fz 91=false:=by kernel_rfl
theorem c91 (fr:aI s) (h:cL s p K F) (nm:List UInt8) (so:Int) (hl:K.D.length<=2 ^ 20):mO 91 [.ptr p 0,.str nm,.int .i64 so] s p F (.int .i64 (nK K nm so).1) (nK K nm so).2:=by
 have r:=aTd (.ptr p 0) (.str nm) (.int .i64 so) s (Q:=fun r s'=>r=.int .i64 (nK K nm so).1/\bR s p F (nK K nm so).2 s') (by
  unfold f91;have hln:∀ id S,bt .len #[9] [.str nm] id S=some (.int .i64 nm.length,S):=bCx nm;have hb:lV 67 [(0,.str nm),(1,.int .i64 so)]=some (aNo nm so):=by rw [bRn];rfl
  have e20:∀ n,EF [] s (Ai.adv s n):=fun n=>(EF.refl [] fr).adv
  cases h1:decide (so < 1) with
  | true =>simp only [nK,lA,h1,m033,cond_true,wx,wy,reduceAdd,reduceEqDiff,reduceCtorEq];exact bR.same h fr (e20 _)
  | false =>
  cases h2:decide (so > 3) with
  | true =>simp only [nK,lA,h1,h2,m033,m078,cond_true,wx,wy,reduceAdd,reduceEqDiff,reduceCtorEq];exact bR.same h fr (e20 _)
  | false =>
  cases h3:decide ((nm.length:Int) > 16384) with
  | true =>simp only [nK,lA,hln,h1,h2,h3,m033,m078,cond_true,wx,wy,reduceAdd,reduceEqDiff,reduceCtorEq];exact bR.same h fr (e20 _)
  | false =>
   simp only [nK,lA,hln,h1,h2,h3,Bool.or_self,cond_false,wx,wy,reduceAdd,reduceEqDiff,reduceCtorEq];refine (bLb fr.adv h.adv nm).call aXz fun s1 e1=>?_;have e2:=(e20 _).nil_trans e1
   cases hq:(jQ K nm != 0) with
   | true =>simp only [hq,cond_true,wx,wy,reduceAdd,reduceEqDiff,reduceCtorEq];exact bR.same h fr e2.adv
   | false =>
    simp only [hq,cond_false,hb,wx,wy,reduceAdd,reduceEqDiff,reduceCtorEq];refine (bGk (aCn nm so) ⟨⟨by decide,by decide⟩,by simp,by simp,trivial⟩ (by simp [tU]) e2.fr.adv ((h.ext fr e2).adv) hl).call bAt fun s2 q=>?_
    exact ⟨rfl,q.from e2.adv⟩)
 obtain ⟨r,s',h1,rfl,h2⟩:=r;exact ⟨_,s',h1,rfl,h2⟩
end
end
noncomputable section
def bQ (l:List Int):Int:=l.getLast?.getD 0
theorem z67:∃ v,zr 67=some v/\v.cells.length=10/\v.cells.all AV.one=true/\dA v.cells=[]/\v=.agg v.cells:=by
 have h:(zr 67)=some (.agg [.str [],.int .i64 0,.bool false,.nils,.bool false,.int .i64 0,.str [],.int .i64 0,.int .i64 0,.nils]):=by kernel_rfl
 exact ⟨_,h,rfl,rfl,rfl,rfl⟩
theorem z33:∃ v,zr 33=some v/\v.cells.length=6/\v.cells.all AV.one=true/\dA v.cells=[]/\v=.agg v.cells:=by
 have h:(zr 33)=some (.agg [.bool false,.int .i64 0,.str [],.int .i64 0,.int .i64 0,.nils]):=by kernel_rfl
 exact ⟨_,h,rfl,rfl,rfl,rfl⟩
theorem bIq (l:List Int):(l.map dT).flatMap AV.cells=l.map dT:=by
 induction l with
 | nil=>rfl
 | cons a l ih=>simp only [m039,m024,ih];rfl
theorem aRi (l:List Int) (i:Nat) (c:Int) (h:l[i]?=some c):cB 1 (.sl false (l.map dT)) (.int .i64 (i:Int))=some (.pel [.int .i64 c] 0):=by obtain ⟨hi,rfl⟩:=m012.1 h;simp [cB,pE,wR,hi,dT,AV.cells]
theorem eC (l:List Int) (q:Int):bQ (l++[q])=q:=by simp [bQ]
theorem UY {s V:St} {p:Nat} {K':Sk} {xd xm xa xn m xd' xm' xa' xn' m':AV} (cV:gB V p K' xd' xm' xa' xn' m') (hn:s.nx<=V.nx) (hE:∀ y,y < s.nx->y≠p->y ∉ aO xd xm xa xn m->V.h y=s.h y) (hfr:aI V) (hB:∀ j∈aO xd' xm' xa' xn' m',s.nx<=j\/j∈aO xd xm xa xn m):bR s p (p::aO xd xm xa xn m) K' V:=by
 refine ⟨_,⟨_,_,_,_,_,cV,rfl⟩,⟨hn,fun j hj hm=>?_,hfr⟩,fun j hj=>?_⟩
 ·simp only [m013,not_or] at hm;exact hE j hj hm.1 hm.2
 ·rcases m013.1 hj with rfl | hj
  ·exact .inl (m007 ..)
  ·exact (hB j hj).elim .inr fun h=>.inl (m005 _ h)
theorem aQi {t e:TypeId} {z b:Nat} {ag:Bool} {s:St} {x:AV} {vs:List AV} (h:eO t e z ag b) {v:AV} (g:Jw e z s x (vs++[v])) :
  ∃ i,aF x=[i]/\∀ S:St,S.h i=s.h i->lT t x none (some (.int .i64 (vs.length:Int))) none S=some (.ref i 0 vs.length none e)/\Jw e z S (.ref i 0 vs.length none e) vs:=by
 obtain ⟨h1,⟨rfl,h2⟩ | ⟨i,junk,m,rfl,h2,h3,h4⟩⟩:=g
 ·exact absurd h2 (by simp)
 ·have hv:=h1 v (m049 _ (m008.2 rfl));have h1':∀ u∈vs,EvA z u:=fun u hu=>h1 u (m041 _ hu);have hfl:=dJ (vs:=vs) (fun u hu=>⟨(h1' u hu).1,(h1' u hu).2.1⟩);have hc:(vs++[v]).flatMap AV.cells++junk=vs.flatMap AV.cells++(v.cells++junk):=by simp
  rw [hc] at h2;have hlen:(vs.flatMap AV.cells++(v.cells++junk)).length=vs.length * z+(z+m * z):=by rw [m006,m006,hfl,hv.1,h3]
  refine ⟨i,rfl,fun S hS=>?_⟩;rw [h2] at hS;refine ⟨BP h hS (by rw [hlen,m006,List.length_singleton,oN,FK];omega) ?_ .i64,h1',.inr ⟨i,v.cells++junk,m+1,rfl,hS,by rw [m006,hv.1,h3,pD];omega,by rw [wK,jB (jZ hv.2.2),h4];rfl⟩⟩;rw [Nat.le_div_iff_mul_le h.pos,hlen];omega
theorem UR {s:St} {x:AV} {l:List Int} (g:Jw 3 1 s x (l.map dT)) (k:Nat):pur mEv.P s (k+1) x=some (.sl false (l.map dT),aF x):=by
 obtain ⟨h1,⟨rfl,h⟩ | ⟨i,junk,m,rfl,hs,h3,h4⟩⟩:=g
 ·rw [h];rfl
 ·have hl:eP mEv.P 3=some (1,false):=by kernel_rfl
  have hnc:(AV.ref i 0 (l.map dT).length none 3).closed=false:=rfl;have hfm:=bIq l;unfold pur;rw [hnc,if_neg (by simp)];have hp:=gZ (s:=s) k (eK dT l fun _=>rfl);simp only [hs,hl,hfm,m023,sE,m048];rw [if_pos ⟨by simp,by decide⟩,List.take_left,hp];simp only [Option.bind_some,m026];have hn:(l.map dT).all iG=true:=by simp [List.all_map,Function.comp_def,dT,iG]
  rw [hn];rfl
theorem wJ {f:AV->Option (AV×List Nat)}:∀ (l:List AV) (i:Nat) (x:AV) (a:AV) (ids:List Nat),l[i]?=some x->f x=some (a,ids)->(gX f l).1[i]?=some a:=by
 intro l
 induction l with
 | nil=>intro i x a ids h;cases h
 | cons y l ih =>
  intro i x a ids h hf
  cases i with
  | zero =>simp only [List.getElem?_cons_zero,m000] at h;subst h;simp only [gX,hf,List.getElem?_cons_zero]
  | succ i =>simp only [List.getElem?_cons_succ] at h;have:=ih i x a ids h hf;simp only [gX];cases f y<;>simpa using this
section
variable {s s':St} {p:Nat} {K:Sk} {F:List Nat} {xd xm xa xn m:AV}
theorem bOt (C:List AV) (l:List Int) (h:C[1]?=some (.sl false (l.map dT))) (hl:l.length<=2 ^ 20):bA mEv 224 [.pel C 0] (.int .i64 (bQ l)):=by
 refine aZ rfl (aJk _ _ ?_);unfold f224;simp only [aTs,wx,wy,reduceAdd,reduceEqDiff,reduceCtorEq];refine ⟨rfl,?_⟩;simp only [h,LT,m002,wx,wy,reduceAdd,reduceEqDiff,reduceCtorEq];rcases m061 l with rfl | ⟨l',q,rfl⟩
 ·simp [bQ]
 ·rw [List.concat_eq_append] at *;have h1:((((l'++[q]).length:Nat):Int)==0)=false:=by simp;omega
  have h2:IntKind.i64.wrap ((((l'++[q]).length:Nat):Int) - 1)=((l'.length:Nat):Int):=by rw [m006,List.length_singleton] at *;rw [IntWalk.i64_in _ (by omega)];omega
  have h3:=aRi (l'++[q]) l'.length q (by simp);simp only [h1,h2,h3,eC,m015,if_false,wx,wy,reduceAdd,reduceEqDiff,reduceCtorEq];exact ⟨rfl,rfl⟩
theorem bCw (fr:aI s) (h:cL s p K F) (hf0:0<=bQ K.dm) (hf:bQ K.dm<=(K.D.length:Int)) (hm:K.dm.length<=2 ^ 20) (hl:K.D.length<=2 ^ 20) :
  ∃ v,v.cells.length=10/\v.cells.all AV.one=true/\v=.agg v.cells/\mO 196 [.ptr p 0] s p F (.tup [v,.bool !((K.D.length:Int)==bQ K.dm)]) (bif (K.D.length:Int)==bQ K.dm then K else { K with D:=K.D.dropLast }):=by
 have hF:=h.lt fr;have hp:=hF p h.pin;have h0:=h;obtain ⟨xd,xm,xa,xn,m,c,rfl⟩:=h;obtain ⟨Z,hZ,zl,zo,zi,za⟩:=z67
 have r:=aKj (.ptr p 0) s (Q:=fun r s'=>∃ v,v.cells.length=10/\v.cells.all AV.one=true/\v=.agg v.cells/\r=.tup [v,.bool !((K.D.length:Int)==bQ K.dm)]/\bR s p (p::aO xd xm xa xn m) (bif (K.D.length:Int)==bQ K.dm then K else { K with D:=K.D.dropLast }) s') (by
  unfold f196;obtain ⟨S,hS⟩:∃ S,S=Ai.adv ((s.set s.nx (some (.cells Z.cells 67 true true))).set (s.nx+2) (some (.cells Z.cells 67 true true))) 15:=⟨_,rfl⟩;have nS:S.nx=s.nx+15:=by rw [hS];rfl
  have kS:∀ j,j < s.nx->S.h j=s.h j:=fun j hj=>by rw [hS,adv_h,aB (by omega),aB (by omega)]
  have b0:S.h s.nx=some (.cells Z.cells 67 true true):=by rw [hS,adv_h,aB (by omega),aG]
  have b2:S.h (s.nx+2)=some (.cells Z.cells 67 true true):=by rw [hS,adv_h,aG]
  have fS:aI S:=fun j hj=>by rw [hS,adv_h,aB (by omega),aB (by omega)];exact fr j (by omega)
  have cS:gB S p K xd xm xa xn m:=c.keep fun j hj=>kS j (hF j hj);have q1:¬ (p=s.nx):=by omega
  have q2:¬ (p=s.nx+2):=by omega
  have hlen:=bNf c.d;rw [m002] at hlen;simp only [hZ,AA,wx,wy,reduceAdd,reduceEqDiff,reduceCtorEq];refine ⟨rfl,?_⟩;simp only [c.cell,q1,q2,if_false,hlen,wx,wy,reduceAdd,reduceEqDiff,reduceCtorEq];rw [<- hS];have hR:cL S p K (p::aO xd xm xa xn m):=⟨_,_,_,_,_,cS,rfl⟩;have hrc:=hR.rch (vs:=[.fn 224 [] [],.ptr p 0]) rfl;obtain ⟨l,hl0⟩:∃ l,l=rch S [.fn 224 [] [],.ptr p 0]:=⟨_,rfl⟩;rw [<- hl0] at hrc ⊢;have cO:gB (S.only l) p K xd xm xa xn m:=cS.keep fun j hj=>by rw [jI,if_pos ((hrc j).2 hj)]
  have hpp:pur mEv.P (S.only l) 12 (.ptr p 0)=some (.pel (gX (pur mEv.P (S.only l) 11) [xd,xm,xa,xn,m]).1 0,p::(gX (pur mEv.P (S.only l) 11) [xd,xm,xa,xn,m]).2):=by unfold pur;rw [if_neg (by simp [AV.closed])];simp only [cO.cell]
  have hC:(gX (pur mEv.P (S.only l) 11) [xd,xm,xa,xn,m]).1[1]?=some (.sl false (K.dm.map dT)):=wJ _ 1 xm _ _ rfl (UR cO.dm 10);refine .mk [_] _ _ (by simp only [dH,hpp];rfl) (bOt _ K.dm hC hm) (by simp [AV.flat]) ?_;have pz:Ai.part 10 true 0 Z.cells=some Z:=by unfold Ai.part;rw [if_pos rfl,if_pos (by omega),m048,m014 (by omega),<- za]
  cases hq:((K.D.length:Int)==bQ K.dm) with
  | true =>
   simp only [hq,b2,pz,wx,wy,reduceAdd,reduceEqDiff,reduceCtorEq];rw [bI (id:=s.nx) (z:=10) (c:=Z.cells) (e:=67) (ex:=true) (v:=Z) (by rw [adv_h,b0]) zl zl zo];simp only [Bnd_some,aG,pz,wx,wy,reduceAdd,reduceEqDiff,reduceCtorEq];refine ⟨Z,zl,zo,za,rfl,bR.same h0 fr ⟨?_,fun j hj _=>?_,fun j hj=>?_⟩⟩
   ·simp only [set_nx,adv_nx];omega
   ·rw [adv_h,aB (by omega),kS j hj]
   ·simp only [set_nx,adv_nx] at hj;rw [adv_h,aB (by omega)];exact fS j (by omega)
  | false =>
   have hne:K.D≠[]:=fun e=>by
    rw [e] at hq hf;have:(bQ K.dm)=0:=by simp at hf;omega
    rw [this] at hq;simp at hq
   obtain ⟨D',d,hD⟩:∃ D' d,K.D=D'++[d]:=by
    rcases m061 K.D with h | ⟨D',d,h⟩
    ·exact absurd h hne
    ·exact ⟨D',d,by rw [h,List.concat_eq_append]⟩
   have hDl:K.D.length=D'.length+1:=by rw [hD];simp
   have hsub:IntKind.i64.wrap ((K.D.length:Int) - 1)=((D'.length:Nat):Int):=by rw [IntWalk.i64_in _ (by omega)];omega
   have gS:Jw 67 10 S xd (D'.map Dc.av++[Dc.av d]):=by have:=cS.d;rw [hD,m038] at this;exact this
   obtain ⟨i,hi1,hxd,⟨c',hc1,hc2,hc3⟩,_⟩:=KI SL gS (w:=Z) ⟨zl,zo,zi⟩;rw [m002] at hxd hc2 hc3;have hix:cB 10 xd (.int .i64 (D'.length:Int))=some (.ptr i (D'.length * 10)):=by have:=oF (e:=67) (z:=10) (id:=i) (off:=0) (c:=none) (show D'.length < D'.length+1 by omega) .i64;rw [m023] at this;rw [hxd];exact this
   have hel:Ai.part 10 true (D'.length * 10) c'=some (Dc.av d):=by unfold Ai.part;rw [if_pos rfl,if_pos hc2,hc3,<- aNz d]
   have his:i < s.nx:=hF i (by simp only [aO,m013,m003,hi1];simp);simp only [hq,cS.cell,wx,wy,reduceAdd,reduceEqDiff,reduceCtorEq];refine ⟨rfl,?_⟩;simp only [hlen,hsub,cS.cell,wx,wy,reduceAdd,reduceEqDiff,reduceCtorEq];refine ⟨rfl,?_⟩;simp only [hix,hc1,hel,wx,wy,reduceAdd,reduceEqDiff,reduceCtorEq];rw [bI (id:=S.nx+14) (z:=10) (c:=Z.cells) (e:=67) (ex:=true) (v:=Dc.av d) (by rw [adv_h,aG]) zl (fD d) (dP d)];simp only [Bnd_some,wx,wy,reduceAdd,reduceEqDiff,reduceCtorEq];obtain ⟨T,hT⟩:∃ T,T=Ai.adv (S.set (S.nx+14) (some (.cells (Dc.av d).cells 67 true true))) 24:=⟨_,rfl⟩;have kT:∀ j,j≠S.nx+14->T.h j=S.h j:=fun j hj=>by rw [hT,adv_h,aB hj]
   have nT:T.nx=S.nx+24:=by rw [hT];rfl
   have gT:Jw 67 10 T xd (D'.map Dc.av++[Dc.av d]):=gS.keep fun j hj=>kT j (by rw [hi1,m008] at hj;omega);obtain ⟨i2,hi2,_,_,T',w1,w2,w3,_,w5⟩:=KI SL gT (w:=Z) ⟨zl,zo,zi⟩;rw [hi1] at hi2;obtain rfl:i=i2:=by simpa using hi2
   rw [m002] at w1 w5
   have hip:p≠i:=fun e=>by
    have nd:=c.nd;simp only [m036,m003,not_or] at nd;have:p∈aF xd:=by rw [hi1,e];simp
    grind
   have q3:¬ (p=S.nx+14):=by omega
   have q4:¬ (s.nx=S.nx+12):=by omega
   refine ⟨rfl,?_⟩;simp only [q3,q4,if_false,cS.cell,b2,pz,hix,wx,wy,reduceAdd,reduceEqDiff,reduceCtorEq];refine ⟨fS _ (by omega),?_⟩;rw [<- hT,w1];simp only [Bnd_some];have hcT:T'.h p=some (.cells [xd,xm,xa,xn,m] 88 true true):=by rw [w3 p hip,kT p q3,cS.cell]
   refine ⟨rfl,?_⟩;simp only [hcT,wx,wy,reduceAdd,reduceEqDiff,reduceCtorEq];obtain ⟨v1,v2⟩:=w5 (Ai.adv T' 10) (by rw [adv_h]);rw [v1];simp only [Bnd_some];refine ⟨rfl,?_⟩;rw [dW (c:=[xd,xm,xa,xn,m]) (e:=88) (ex:=true) (by rw [adv_h,hcT]) (by simp) rfl rfl];simp only [Bnd_some];rw [show ([xd,xm,xa,xn,m].set 0 (.ref i 0 D'.length none 67))=[.ref i 0 D'.length none 67,xm,xa,xn,m] from rfl];obtain ⟨U,hU⟩:∃ U,U=(Ai.adv T' 10).set p (some (.cells [.ref i 0 D'.length none 67,xm,xa,xn,m] 88 true true)):=⟨_,rfl⟩;rw [<- hU];have nU:U.nx=s.nx+49:=by rw [hU];show T'.nx+10=_;omega
   have kU:∀ j,j≠p->j≠i->U.h j=T.h j:=fun j a b=>by rw [hU,aB a,adv_h,w3 j b]
   have uB:U.h (S.nx+14)=some (.cells (Dc.av d).cells 67 true true):=by rw [kU _ (by omega) (by omega),hT,adv_h,aG]
   have u0:U.h s.nx=some (.cells Z.cells 67 true true):=by rw [kU _ (by omega) (by omega),kT _ (by omega),b0]
   have fU:aI U:=fun j hj=>by rw [kU j (by omega) (by omega),kT j (by omega)];exact fS j (by omega)
   have hEs:∀ y,y < s.nx->y ∉ aF xd->(Ai.adv T' 10).h y=s.h y:=fun y hy hn=>by rw [hi1,m008] at hn;rw [adv_h,w3 y hn,kT y (by omega),kS y hy]
   have hIs:∀ j∈aF (.ref i 0 D'.length none 67),j=s.nx\/j∈aF xd:=fun j hj=>.inr (by rw [hi1];simpa [aF] using hj);have cU:gB U p { K with D:=D' } (.ref i 0 D'.length none 67) xm xa xn m:=by rw [hU];exact bBk c fr (id:=s.nx) (bJ _) hEs hIs v2
   simp only [uB,iX,wx,wy,reduceAdd,reduceEqDiff,reduceCtorEq];rw [bI (id:=s.nx) (z:=10) (c:=Z.cells) (e:=67) (ex:=true) (v:=Dc.av d) (by rw [adv_h,u0]) zl (fD d) (dP d)];simp only [Bnd_some,aG,iX,wx,wy,reduceAdd,reduceEqDiff,reduceCtorEq];have hdl:K.D.dropLast=D':=by rw [hD,List.dropLast_concat]
   rw [hdl];have hI2:∀ j∈aF (.ref i 0 D'.length none 67),j∈aF xd:=fun j hj=>by rw [hi1];simpa [aF] using hj
   have hs2:∀ j∈aO (.ref i 0 D'.length none 67) xm xa xn m,j∈aO xd xm xa xn m:=fun j hj=>by
    simp only [aO,m003] at hj ⊢;have:=hI2 j
    grind
   have hii:i∈aO xd xm xa xn m:=by simp only [aO,m003,hi1];simp
   have hV:∀ n j,j≠s.nx->(Ai.adv (U.set s.nx (some (.cells (Dc.av d).cells 67 true true))) n).h j=U.h j:=fun n j hj=>by rw [adv_h,aB hj]
   refine ⟨Dc.av d,fD d,dP d,aNz d,rfl,UY (cU.keep fun j hj=>hV _ j ?_) ?_ (fun y a b e=>?_) (fun j hj=>?_) fun j hj=>.inr (hs2 j hj)⟩
   ·rcases m013.1 hj with rfl | hj
    ·omega
    ·have:=hF j (m005 _ (hs2 j hj));omega
   ·simp only [set_nx,adv_nx];omega
   ·have hyi:y≠i:=fun e2=>e (e2 ▸ hii);rw [hV _ y (by omega),kU y b hyi,kT y (by omega),kS y a]
   ·simp only [set_nx,adv_nx] at hj
    rw [hV _ j (by omega)];exact fU j (by omega))
 obtain ⟨r,s',h1,v,h2,h3,h5,rfl,h4⟩:=r;exact ⟨v,h2,h3,h5,_,s',h1,rfl,h4⟩
theorem aHp:mEv.fz 196=false:=by kernel_rfl
theorem bIl:mEv.fz 98=false:=by kernel_rfl
theorem c98 (fr:aI s) (h:cL s p K F):KP 98 [.ptr p 0] s (.int .i64 K.dm.length):=by obtain ⟨xd,xm,xa,xn,m,c,rfl⟩:=h;have hlen:=aJp c.dm;rw [m002] at hlen;refine UK _ _ (Q:=fun r s'=>r=.int .i64 K.dm.length/\EF [] s s') ?_;unfold f98;simp only [AA,wx,wy,reduceAdd,reduceEqDiff,reduceCtorEq];refine ⟨rfl,?_⟩;simp only [c.cell,hlen,wx,wy,reduceAdd,reduceEqDiff,reduceCtorEq];exact (EF.refl [] fr).adv
theorem bKk (fr:aI s) (h:cL s p K F) {ms:List Int} {q:Int} (hd:K.dm=ms++[q]) (hm:K.dm.length<=2 ^ 20) {Q:aE} (hQ:∀ s',bR s p F { K with dm:=ms } s'->Q (.bool true) s'):xB Q (.ptr p 0) s:=by
 have hF:=h.lt fr;have hp:=hF p h.pin;obtain ⟨xd,xm,xa,xn,m,c,rfl⟩:=h;have hlen:=aJp c.dm;rw [m002] at hlen;have g:Jw 3 1 s xm (ms.map dT++[dT q]):=by have:=c.dm;rw [hd,m038] at this;exact this
 obtain ⟨i,hi1,hcut⟩:=aQi sB g;rw [m002] at hcut;have hl:K.dm.length=ms.length+1:=by rw [hd];simp
 have hsub:IntKind.i64.wrap ((K.dm.length:Int) - 1)=((ms.length:Nat):Int):=by rw [IntWalk.i64_in _ (by omega)];omega
 obtain ⟨v1,v2⟩:=hcut (Ai.adv s 15) (by rw [adv_h]);unfold xB;refine ⟨rfl,?_⟩;simp only [c.cell,wx,wy,reduceAdd,reduceEqDiff,reduceCtorEq];refine ⟨rfl,?_⟩;simp only [c.cell,hlen,hsub,wx,wy,reduceAdd,reduceEqDiff,reduceCtorEq];rw [v1];simp only [Bnd_some];refine ⟨rfl,?_⟩;refine ⟨fr _ (by omega),?_⟩;rw [dW (c:=[xd,xm,xa,xn,m]) (e:=88) (ex:=true) (by rw [adv_h,c.cell]) (by simp) rfl rfl];simp only [Bnd_some];have hI2:∀ j∈aF (.ref i 0 ms.length none 3),j=s.nx\/j∈aF xm:=fun j hj=>.inr (by rw [hi1];simpa [aF] using hj)
 exact hQ _ (rQ (id:=s.nx) (A:=[]) c fr (bJ _) (by simp only [adv_nx];omega) (by simp only [adv_nx];omega) (fun j hj=>by cases hj) (fun y hy _=>by rw [adv_h]) fr.adv (fun j hj=>by
  simp only [aO,m003] at hj ⊢;have:=hI2 j
  grind) (aJo c fr (id:=s.nx) (bJ _) (fun y hy _=>by rw [adv_h]) hI2 v2)).adv
theorem bNz {ms:List Int} {q:Int} (hd:K.dm=ms++[q]) (hq0:0<=q) (hm:K.dm.length<=2 ^ 20) (Q:aE):∀ (k:Nat) (s:St) (F1:List Nat) (D1:List Dc) (bx:Nat) (v:AV),aI s->cL s p { K with D:=D1 } F1->(D1.length:Int)=q+k->D1.length<=2 ^ 20->v.cells.length=10->v.cells.all AV.one=true->v=.agg v.cells->s.h bx=some (.cells v.cells 67 true true)->bx ∉ F1 ->
  (∀ s',bR s p F1 { K with D:=D1.take q.toNat,dm:=ms } s'->Q (.bool true) s')->lB Q (k+2) (.ptr p 0) (.ptr bx 0) (.bool true) s:=by
 obtain ⟨Z,hZ,zl,zo,zi,za⟩:=z67;intro k
 induction k with
 | zero =>
  intro s F1 D1 bx v fr h hD hl vl vo va hb hbF hQ;show kH Q (lB Q 1) _ _ _ s;have hF:=h.lt fr;have pv:Ai.part 10 true 0 v.cells=some v:=by unfold Ai.part;rw [if_pos rfl,if_pos (by omega),m048,m014 (by omega),<- va]
  simp only [kH,KC,hb,pv,hZ,wx,wy,reduceAdd,reduceEqDiff,reduceCtorEq];rw [bI (id:=s.nx+2) (z:=10) (c:=Z.cells) (e:=67) (ex:=true) (v:=v) (by rw [adv_h,aG]) zl vl vo];simp only [Bnd_some];obtain ⟨S,hS⟩:∃ S,S=Ai.adv ((Ai.adv (s.set (s.nx+2) (some (.cells Z.cells 67 true true))) 4).set (s.nx+2) (some (.cells v.cells 67 true true))) 6:=⟨_,rfl⟩;rw [<- hS];have nS:S.nx=s.nx+10:=by rw [hS];rfl
  have kS:∀ j,j≠s.nx+2->S.h j=s.h j:=fun j hj=>by rw [hS,adv_h,aB hj,adv_h,aB hj]
  have bS:S.h (s.nx+2)=some (.cells v.cells 67 true true):=by rw [hS,adv_h,aG]
  have fS:aI S:=fun j hj=>by rw [kS j (by omega)];exact fr j (by omega)
  have eS:EF [] s S:=⟨by omega,fun j hj _=>kS j (by omega),fS⟩;have hfl:bQ K.dm=q:=by rw [hd,eC]
  obtain ⟨w,wl,wo,wa,hw⟩:=bCw (K:={ K with D:=D1 }) fS (h.ext fr eS) (by show 0<=bQ K.dm;omega) (by show bQ K.dm<=(D1.length:Int);omega) hm hl;have x0:∀ b,aW (.tup [w,.bool b]) 0=some w:=fun b=>rfl;have x1:∀ b,aW (.tup [w,.bool b]) 1=some (.bool b):=fun b=>rfl;refine hw.call aHp fun s3 q3=>?_;simp only [hfl] at q3 ⊢;have hbn:s.nx+2 ∉ F1:=fun hm=>by have:=hF _ hm;omega
  have hc:((D1.length:Int)==q)=true:=by simp;omega
  simp only [hc,cond_true] at q3;simp only [hc,x0,x1,Bnd_some];obtain ⟨F3,r3,e3,m3⟩:=q3;show kH Q (lB Q 0) _ _ _ s3;simp only [kH,wx,wy,reduceAdd,reduceEqDiff,reduceCtorEq];refine bKk e3.fr.adv r3.adv hd hm fun s4 q4=>hQ _ ?_;have ht:D1.take q.toNat=D1:=m014 (by omega);rw [ht];exact bR.step (((eS.sub fun j hj=>by cases hj).trans e3 fun j hj=>.inr hj).adv) (fun j hj=>(m3 j hj).imp_right fun h=>by omega) q4
 | succ k ih =>
  intro s F1 D1 bx v fr h hD hl vl vo va hb hbF hQ;show kH Q (lB Q (k+2)) _ _ _ s;have hF:=h.lt fr;have pv:Ai.part 10 true 0 v.cells=some v:=by unfold Ai.part;rw [if_pos rfl,if_pos (by omega),m048,m014 (by omega),<- va]
  simp only [kH,KC,hb,pv,hZ,wx,wy,reduceAdd,reduceEqDiff,reduceCtorEq];rw [bI (id:=s.nx+2) (z:=10) (c:=Z.cells) (e:=67) (ex:=true) (v:=v) (by rw [adv_h,aG]) zl vl vo];simp only [Bnd_some];obtain ⟨S,hS⟩:∃ S,S=Ai.adv ((Ai.adv (s.set (s.nx+2) (some (.cells Z.cells 67 true true))) 4).set (s.nx+2) (some (.cells v.cells 67 true true))) 6:=⟨_,rfl⟩;rw [<- hS];have nS:S.nx=s.nx+10:=by rw [hS];rfl
  have kS:∀ j,j≠s.nx+2->S.h j=s.h j:=fun j hj=>by rw [hS,adv_h,aB hj,adv_h,aB hj]
  have bS:S.h (s.nx+2)=some (.cells v.cells 67 true true):=by rw [hS,adv_h,aG]
  have fS:aI S:=fun j hj=>by rw [kS j (by omega)];exact fr j (by omega)
  have eS:EF [] s S:=⟨by omega,fun j hj _=>kS j (by omega),fS⟩;have hfl:bQ K.dm=q:=by rw [hd,eC]
  obtain ⟨w,wl,wo,wa,hw⟩:=bCw (K:={ K with D:=D1 }) fS (h.ext fr eS) (by show 0<=bQ K.dm;omega) (by show bQ K.dm<=(D1.length:Int);omega) hm hl;have x0:∀ b,aW (.tup [w,.bool b]) 0=some w:=fun b=>rfl;have x1:∀ b,aW (.tup [w,.bool b]) 1=some (.bool b):=fun b=>rfl;refine hw.call aHp fun s3 q3=>?_;simp only [hfl] at q3 ⊢;have hbn:s.nx+2 ∉ F1:=fun hm=>by have:=hF _ hm;omega
  have hc:((D1.length:Int)==q)=false:=by simp;omega
  simp only [hc,cond_false] at q3;simp only [hc,x0,x1,Bnd_some,m027];obtain ⟨F3,r3,e3,m3⟩:=q3
  refine ih s3 F3 D1.dropLast (s.nx+2) v e3.fr r3 (by rw [m064];omega) (by rw [m064];omega) vl vo va (by rw [e3.h _ (by omega) hbn,bS]) (fun hm=>by
   rcases m3 _ hm with h | h
   ·exact hbn h
   ·omega) fun s4 q4=>hQ _ ?_
  have ht:D1.dropLast.take q.toNat=D1.take q.toNat:=by rw [List.dropLast_eq_take,List.take_take,qJ (by omega)]
  rw [ht] at q4;exact bR.step ((eS.sub fun j hj=>by cases hj).trans e3 fun j hj=>.inr hj) (fun j hj=>(m3 j hj).imp_right fun h=>by omega) q4
theorem bOb (Q:aE) (a b c:AV) (s:St):lB Q 1 a b c s=kH Q (lB Q 0) a b c s:=rfl
theorem bFn:mEv.fz 150=false:=by kernel_rfl
theorem bMf:mEv.fz 94=false:=by kernel_rfl
theorem bQz (fr:aI s) (h:cL s p K F) {ms:List Int} {q:Int} (hd:K.dm=ms++[q]) (hq0:0<=q) (hq:q<=(K.D.length:Int)) (hm:K.dm.length<=2 ^ 20) (hl:K.D.length<=2 ^ 20):mO 150 [.ptr p 0] s p F (.bool true) { K with D:=K.D.take q.toNat,dm:=ms }:=by
 have hF:=h.lt fr;obtain ⟨Z,hZ,zl,zo,zi,za⟩:=z67
 have r:=aHo (.ptr p 0) s (Q:=fun r s'=>r=.bool true/\bR s p F { K with D:=K.D.take q.toNat,dm:=ms } s') (by
  unfold f150;refine (c98 fr.adv h.adv).call bIl fun s1 e1=>?_;have hne:((K.dm.length:Int)==0)=false:=by rw [hd];simp;omega
  simp only [hne,wx,wy,reduceAdd,reduceEqDiff,reduceCtorEq];have es1:EF [] s s1:=(EF.refl [] fr).adv.nil_trans e1;have hfl:bQ K.dm=q:=by rw [hd,eC]
  obtain ⟨w,wl,wo,wa,hw⟩:=bCw (s:=Ai.adv s1 8) es1.fr.adv (h.ext fr es1.adv) (by omega) (by omega) hm hl;have x0:∀ b,aW (.tup [w,.bool b]) 0=some w:=fun b=>rfl;have x1:∀ b,aW (.tup [w,.bool b]) 1=some (.bool b):=fun b=>rfl;refine hw.call aHp fun s2 q2=>?_;simp only [hfl] at q2 ⊢;simp only [x0,x1,hZ,Bnd_some];rw [bI (id:=s1.nx+5) (z:=10) (c:=Z.cells) (e:=67) (ex:=true) (v:=w) aG zl wl wo];simp only [Bnd_some];obtain ⟨F2,r2,e2,m2⟩:=q2;have n1:=es1.nx;have n2:=e2.nx;simp only [adv_nx] at n2
  have m2':∀ j∈F2,j≠s1.nx+5:=fun j hj=>by
   rcases m2 j hj with h | h
   ·have:=hF j h;omega
   ·simp only [adv_nx] at h;omega
  have m3:∀ j∈F2,j∈F\/s.nx<=j:=fun j hj=>(m2 j hj).imp_right fun h=>by simp only [adv_nx] at h;omega
  obtain ⟨S,hS⟩:∃ S,S=(s2.set (s1.nx+5) (some (.cells Z.cells 67 true true))).set (s1.nx+5) (some (.cells w.cells 67 true true)):=⟨_,rfl⟩;rw [<- hS];have nS:S.nx=s2.nx:=by rw [hS];rfl
  have kS:∀ j,j≠s1.nx+5->S.h j=s2.h j:=fun j hj=>by rw [hS,aB hj,aB hj]
  have bS:S.h (s1.nx+5)=some (.cells w.cells 67 true true):=by rw [hS,aG]
  have fS:aI S:=fun j hj=>by rw [kS j (by omega)];exact e2.fr j (by omega)
  have rS:=r2.keep (s':=S) fun j hj=>kS j (m2' j hj);have eS:EF F s S:=⟨by omega,fun j hj hn=>by rw [kS j (by omega),e2.h j (by simp only [adv_nx];omega) hn,adv_h,es1.h j hj (by simp)],fS⟩
  cases hc:((K.D.length:Int)==q) with
  | true =>
   simp only [hc,cond_true] at rS ⊢;refine ⟨1,?_⟩;rw [bOb];simp only [kH,m025,wx,wy,reduceAdd,reduceEqDiff,reduceCtorEq];refine bKk fS.adv rS.adv hd hm fun s4 q4=>⟨rfl,?_⟩;have hce:(K.D.length:Int)=q:=by simpa using hc
   have hle:K.D.length<=q.toNat:=by omega
   have ht:K.D.take q.toNat=K.D:=m014 hle;rw [ht];exact bR.step eS.adv m3 q4
  | false =>
   simp only [hc,cond_false] at rS ⊢
   have hlt:q < (K.D.length:Int):=by
    have:(K.D.length:Int)≠q:=by simpa using hc
    omega
   refine ⟨K.D.dropLast.length - q.toNat+2,?_⟩;refine bNz hd hq0 hm _ _ S F2 K.D.dropLast (s1.nx+5) w fS rS (by rw [m064];omega) (by rw [m064];omega) wl wo wa bS (fun h=>m2' _ h rfl) fun s4 q4=>⟨rfl,?_⟩;have ht:K.D.dropLast.take q.toNat=K.D.take q.toNat:=by rw [List.dropLast_eq_take,List.take_take,qJ (by omega)]
   rw [ht] at q4
   exact bR.step eS m3 q4)
 obtain ⟨r,s',h1,rfl,h2⟩:=r;exact ⟨_,s',h1,rfl,h2⟩
theorem bRi (fr:aI s) (h:cL s p K F) {ms:List Int} {q:Int} (hd:K.dm=ms++[q]) (hq0:0<=q) (hq:q<=(K.D.length:Int)) (hm:K.dm.length<=2 ^ 20) (hl:K.D.length<=2 ^ 20) :
  ∃ r s' s1,WideC mEv 102 [.ptr p 0] s r s'/\bR s p F { K with D:=K.D.take q.toNat,dm:=ms } s1/\FE 67 s1 s' r ((K.D.take q.toNat).map Dc.av):=by
 have r:=aLr (.ptr p 0) s (Q:=fun r s'=>∃ s1,bR s p F { K with D:=K.D.take q.toNat,dm:=ms } s1/\FE 67 s1 s' r ((K.D.take q.toNat).map Dc.av)) (by
  unfold f102;refine (bQz fr.adv h.adv hd hq0 hq hm hl).call bFn fun s1 q1=>?_;have q1:=q1.from (s:=s) (EF.refl [] fr).adv;have q1':=q1;obtain ⟨F1,r1,e1,m1⟩:=q1;obtain ⟨xd,xm,xa,xn,m,c,rfl⟩:=r1;obtain ⟨r,s2,w1,w2⟩:=c94 (p:=p) (o:=0) (s:=Ai.adv s1 3) (vs:=(K.D.take q.toNat).map Dc.av) e1.fr.adv c.cell rfl (c.d.keep fun _ _=>rfl) (by rw [m002,m020];omega)
  exact bO bMf ⟨r,s2,w1,Ai.adv s1 3,q1'.adv,w2⟩)
 obtain ⟨r,s',h1,s1,h2⟩:=r;exact ⟨r,s',s1,h1,h2⟩
theorem bOr (C:List AV) (l:List Int) (h:C[3]?=some (.sl false (l.map dT))) (hl:l.length<=2 ^ 20):bA mEv 225 [.pel C 2] (.int .i64 (bQ l)):=by
 refine aZ rfl (aMy _ _ ?_);unfold f225;simp only [aSp,wx,wy,reduceAdd,reduceEqDiff,reduceCtorEq];refine ⟨rfl,?_⟩;simp only [h,LT,m002,wx,wy,reduceAdd,reduceEqDiff,reduceCtorEq];rcases m061 l with rfl | ⟨l',q,rfl⟩
 ·simp [bQ]
 ·rw [List.concat_eq_append] at *;have h1:((((l'++[q]).length:Nat):Int)==0)=false:=by simp;omega
  have h2:IntKind.i64.wrap ((((l'++[q]).length:Nat):Int) - 1)=((l'.length:Nat):Int):=by rw [m006,List.length_singleton] at *;rw [IntWalk.i64_in _ (by omega)];omega
  have h3:=aRi (l'++[q]) l'.length q (by simp);simp only [h1,h2,h3,eC,m015,if_false,wx,wy,reduceAdd,reduceEqDiff,reduceCtorEq];exact ⟨rfl,rfl⟩
theorem bCi (fr:aI s) (h:cL s p K F) (hf0:0<=bQ K.am) (hf:bQ K.am<=(K.X.length:Int)) (hm:K.am.length<=2 ^ 20) (hl:K.X.length<=2 ^ 20) :
  ∃ v,v.cells.length=6/\v.cells.all AV.one=true/\v=.agg v.cells/\mO 198 [.ptr p 2] s p F (.tup [v,.bool !((K.X.length:Int)==bQ K.am)]) (bif (K.X.length:Int)==bQ K.am then K else { K with X:=K.X.dropLast }):=by
 have hF:=h.lt fr;have hp:=hF p h.pin;have h0:=h;obtain ⟨xd,xm,xa,xn,m,c,rfl⟩:=h;obtain ⟨Z,hZ,zl,zo,zi,za⟩:=z33
 have r:=aPo (.ptr p 2) s (Q:=fun r s'=>∃ v,v.cells.length=6/\v.cells.all AV.one=true/\v=.agg v.cells/\r=.tup [v,.bool !((K.X.length:Int)==bQ K.am)]/\bR s p (p::aO xd xm xa xn m) (bif (K.X.length:Int)==bQ K.am then K else { K with X:=K.X.dropLast }) s') (by
  unfold f198;obtain ⟨S,hS⟩:∃ S,S=Ai.adv ((s.set s.nx (some (.cells Z.cells 33 true true))).set (s.nx+2) (some (.cells Z.cells 33 true true))) 15:=⟨_,rfl⟩;have nS:S.nx=s.nx+15:=by rw [hS];rfl
  have kS:∀ j,j < s.nx->S.h j=s.h j:=fun j hj=>by rw [hS,adv_h,aB (by omega),aB (by omega)]
  have b0:S.h s.nx=some (.cells Z.cells 33 true true):=by rw [hS,adv_h,aB (by omega),aG]
  have b2:S.h (s.nx+2)=some (.cells Z.cells 33 true true):=by rw [hS,adv_h,aG]
  have fS:aI S:=fun j hj=>by rw [hS,adv_h,aB (by omega),aB (by omega)];exact fr j (by omega)
  have cS:gB S p K xd xm xa xn m:=c.keep fun j hj=>kS j (hF j hj);have q1:¬ (p=s.nx):=by omega
  have q2:¬ (p=s.nx+2):=by omega
  have hlen:=bDn c.x;rw [m002] at hlen;simp only [hZ,JP,wx,wy,reduceAdd,reduceEqDiff,reduceCtorEq];refine ⟨rfl,?_⟩;simp only [c.cell,q1,q2,if_false,hlen,wx,wy,reduceAdd,reduceEqDiff,reduceCtorEq];rw [<- hS];have hR:cL S p K (p::aO xd xm xa xn m):=⟨_,_,_,_,_,cS,rfl⟩;have hrc:=hR.rch (vs:=[.fn 225 [] [],.ptr p 2]) rfl;obtain ⟨l,hl0⟩:∃ l,l=rch S [.fn 225 [] [],.ptr p 2]:=⟨_,rfl⟩;rw [<- hl0] at hrc ⊢;have cO:gB (S.only l) p K xd xm xa xn m:=cS.keep fun j hj=>by rw [jI,if_pos ((hrc j).2 hj)]
  have hpp:pur mEv.P (S.only l) 12 (.ptr p 2)=some (.pel (gX (pur mEv.P (S.only l) 11) [xd,xm,xa,xn,m]).1 2,p::(gX (pur mEv.P (S.only l) 11) [xd,xm,xa,xn,m]).2):=by unfold pur;rw [if_neg (by simp [AV.closed])];simp only [cO.cell]
  have hC:(gX (pur mEv.P (S.only l) 11) [xd,xm,xa,xn,m]).1[3]?=some (.sl false (K.am.map dT)):=wJ _ 3 xn _ _ rfl (UR cO.am 10);refine .mk [_] _ _ (by simp only [dH,hpp];rfl) (bOr _ K.am hC hm) (by simp [AV.flat]) ?_;have pz:Ai.part 6 true 0 Z.cells=some Z:=by unfold Ai.part;rw [if_pos rfl,if_pos (by omega),m048,m014 (by omega),<- za]
  cases hq:((K.X.length:Int)==bQ K.am) with
  | true =>
   simp only [hq,b2,pz,wx,wy,reduceAdd,reduceEqDiff,reduceCtorEq];rw [bI (id:=s.nx) (z:=6) (c:=Z.cells) (e:=33) (ex:=true) (v:=Z) (by rw [adv_h,b0]) zl zl zo];simp only [Bnd_some,aG,pz,wx,wy,reduceAdd,reduceEqDiff,reduceCtorEq];refine ⟨Z,zl,zo,za,rfl,bR.same h0 fr ⟨?_,fun j hj _=>?_,fun j hj=>?_⟩⟩
   ·simp only [set_nx,adv_nx];omega
   ·rw [adv_h,aB (by omega),kS j hj]
   ·simp only [set_nx,adv_nx] at hj;rw [adv_h,aB (by omega)];exact fS j (by omega)
  | false =>
   have hne:K.X≠[]:=fun e=>by
    rw [e] at hq hf;have:(bQ K.am)=0:=by simp at hf;omega
    rw [this] at hq;simp at hq
   obtain ⟨D',d,hD⟩:∃ D' d,K.X=D'++[d]:=by
    rcases m061 K.X with h | ⟨D',d,h⟩
    ·exact absurd h hne
    ·exact ⟨D',d,by rw [h,List.concat_eq_append]⟩
   have hDl:K.X.length=D'.length+1:=by rw [hD];simp
   have hsub:IntKind.i64.wrap ((K.X.length:Int) - 1)=((D'.length:Nat):Int):=by rw [IntWalk.i64_in _ (by omega)];omega
   have gS:Jw 33 6 S xa (D'.map Sx.av++[Sx.av d]):=by have:=cS.x;rw [hD,m038] at this;exact this
   obtain ⟨i,hi1,hxd,⟨c',hc1,hc2,hc3⟩,_⟩:=KI yE gS (w:=Z) ⟨zl,zo,zi⟩;rw [m002] at hxd hc2 hc3;have hix:cB 6 xa (.int .i64 (D'.length:Int))=some (.ptr i (D'.length * 6)):=by have:=oF (e:=33) (z:=6) (id:=i) (off:=0) (c:=none) (show D'.length < D'.length+1 by omega) .i64;rw [m023] at this;rw [hxd];exact this
   have hel:Ai.part 6 true (D'.length * 6) c'=some (Sx.av d):=by unfold Ai.part;rw [if_pos rfl,if_pos hc2,hc3,<- NU d]
   have his:i < s.nx:=hF i (by simp only [aO,m013,m003,hi1];simp);simp only [hq,cS.cell,wx,wy,reduceAdd,reduceEqDiff,reduceCtorEq];refine ⟨rfl,?_⟩;simp only [hlen,hsub,cS.cell,wx,wy,reduceAdd,reduceEqDiff,reduceCtorEq];refine ⟨rfl,?_⟩;simp only [hix,hc1,hel,wx,wy,reduceAdd,reduceEqDiff,reduceCtorEq];rw [bI (id:=S.nx+14) (z:=6) (c:=Z.cells) (e:=33) (ex:=true) (v:=Sx.av d) (by rw [adv_h,aG]) zl (iA d) (cI d)];simp only [Bnd_some,wx,wy,reduceAdd,reduceEqDiff,reduceCtorEq];obtain ⟨T,hT⟩:∃ T,T=Ai.adv (S.set (S.nx+14) (some (.cells (Sx.av d).cells 33 true true))) 24:=⟨_,rfl⟩;have kT:∀ j,j≠S.nx+14->T.h j=S.h j:=fun j hj=>by rw [hT,adv_h,aB hj]
   have nT:T.nx=S.nx+24:=by rw [hT];rfl
   have gT:Jw 33 6 T xa (D'.map Sx.av++[Sx.av d]):=gS.keep fun j hj=>kT j (by rw [hi1,m008] at hj;omega);obtain ⟨i2,hi2,_,_,T',w1,w2,w3,_,w5⟩:=KI yE gT (w:=Z) ⟨zl,zo,zi⟩;rw [hi1] at hi2;obtain rfl:i=i2:=by simpa using hi2
   rw [m002] at w1 w5
   have hip:p≠i:=fun e=>by
    have nd:=c.nd;simp only [m036,m003,not_or] at nd;have:p∈aF xa:=by rw [hi1,e];simp
    grind
   have q3:¬ (p=S.nx+14):=by omega
   have q4:¬ (s.nx=S.nx+12):=by omega
   refine ⟨rfl,?_⟩;simp only [q3,q4,if_false,cS.cell,b2,pz,hix,wx,wy,reduceAdd,reduceEqDiff,reduceCtorEq];refine ⟨fS _ (by omega),?_⟩;rw [<- hT,w1];simp only [Bnd_some];have hcT:T'.h p=some (.cells [xd,xm,xa,xn,m] 88 true true):=by rw [w3 p hip,kT p q3,cS.cell]
   refine ⟨rfl,?_⟩;simp only [hcT,wx,wy,reduceAdd,reduceEqDiff,reduceCtorEq];obtain ⟨v1,v2⟩:=w5 (Ai.adv T' 10) (by rw [adv_h]);rw [v1];simp only [Bnd_some];refine ⟨rfl,?_⟩;rw [dW (c:=[xd,xm,xa,xn,m]) (e:=88) (ex:=true) (by rw [adv_h,hcT]) (by simp) rfl rfl];simp only [Bnd_some];rw [show ([xd,xm,xa,xn,m].set 2 (.ref i 0 D'.length none 33))=[xd,xm,.ref i 0 D'.length none 33,xn,m] from rfl];obtain ⟨U,hU⟩:∃ U,U=(Ai.adv T' 10).set p (some (.cells [xd,xm,.ref i 0 D'.length none 33,xn,m] 88 true true)):=⟨_,rfl⟩;rw [<- hU];have nU:U.nx=s.nx+49:=by rw [hU];show T'.nx+10=_;omega
   have kU:∀ j,j≠p->j≠i->U.h j=T.h j:=fun j a b=>by rw [hU,aB a,adv_h,w3 j b]
   have uB:U.h (S.nx+14)=some (.cells (Sx.av d).cells 33 true true):=by rw [kU _ (by omega) (by omega),hT,adv_h,aG]
   have u0:U.h s.nx=some (.cells Z.cells 33 true true):=by rw [kU _ (by omega) (by omega),kT _ (by omega),b0]
   have fU:aI U:=fun j hj=>by rw [kU j (by omega) (by omega),kT j (by omega)];exact fS j (by omega)
   have hEs:∀ y,y < s.nx->y ∉ aF xa->(Ai.adv T' 10).h y=s.h y:=fun y hy hn=>by rw [hi1,m008] at hn;rw [adv_h,w3 y hn,kT y (by omega),kS y hy]
   have hIs:∀ j∈aF (.ref i 0 D'.length none 33),j=s.nx\/j∈aF xa:=fun j hj=>.inr (by rw [hi1];simpa [aF] using hj);have cU:gB U p { K with X:=D' } xd xm (.ref i 0 D'.length none 33) xn m:=by rw [hU];exact aXt c fr (id:=s.nx) (bJ _) hEs hIs v2
   simp only [uB,dG,wx,wy,reduceAdd,reduceEqDiff,reduceCtorEq];rw [bI (id:=s.nx) (z:=6) (c:=Z.cells) (e:=33) (ex:=true) (v:=Sx.av d) (by rw [adv_h,u0]) zl (iA d) (cI d)];simp only [Bnd_some,aG,dG,wx,wy,reduceAdd,reduceEqDiff,reduceCtorEq];have hdl:K.X.dropLast=D':=by rw [hD,List.dropLast_concat]
   rw [hdl];have hI2:∀ j∈aF (.ref i 0 D'.length none 33),j∈aF xa:=fun j hj=>by rw [hi1];simpa [aF] using hj
   have hs2:∀ j∈aO xd xm (.ref i 0 D'.length none 33) xn m,j∈aO xd xm xa xn m:=fun j hj=>by
    simp only [aO,m003] at hj ⊢;have:=hI2 j
    grind
   have hii:i∈aO xd xm xa xn m:=by simp only [aO,m003,hi1];simp
   have hV:∀ n j,j≠s.nx->(Ai.adv (U.set s.nx (some (.cells (Sx.av d).cells 33 true true))) n).h j=U.h j:=fun n j hj=>by rw [adv_h,aB hj]
   refine ⟨Sx.av d,iA d,cI d,NU d,rfl,UY (cU.keep fun j hj=>hV _ j ?_) ?_ (fun y a b e=>?_) (fun j hj=>?_) fun j hj=>.inr (hs2 j hj)⟩
   ·rcases m013.1 hj with rfl | hj
    ·omega
    ·have:=hF j (m005 _ (hs2 j hj));omega
   ·simp only [set_nx,adv_nx];omega
   ·have hyi:y≠i:=fun e2=>e (e2 ▸ hii);rw [hV _ y (by omega),kU y b hyi,kT y (by omega),kS y a]
   ·simp only [set_nx,adv_nx] at hj
    rw [hV _ j (by omega)];exact fU j (by omega))
 obtain ⟨r,s',h1,v,h2,h3,h5,rfl,h4⟩:=r;exact ⟨v,h2,h3,h5,_,s',h1,rfl,h4⟩
theorem aQw:mEv.fz 198=false:=by kernel_rfl
theorem bCy:mEv.fz 197=false:=by kernel_rfl
theorem bOl (fr:aI s) (h:cL s p K F):KP 197 [.ptr p 2] s (.int .i64 K.am.length):=by obtain ⟨xd,xm,xa,xn,m,c,rfl⟩:=h;have hlen:=aJp c.am;rw [m002] at hlen;refine aIb _ _ (Q:=fun r s'=>r=.int .i64 K.am.length/\EF [] s s') ?_;unfold f197;simp only [JP,wx,wy,reduceAdd,reduceEqDiff,reduceCtorEq];refine ⟨rfl,?_⟩;simp only [c.cell,hlen,wx,wy,reduceAdd,reduceEqDiff,reduceCtorEq];exact (EF.refl [] fr).adv
theorem bJa (fr:aI s) (h:cL s p K F) {ms:List Int} {q:Int} (hd:K.am=ms++[q]) (hm:K.am.length<=2 ^ 20) {Q:aE} (hQ:∀ s',bR s p F { K with am:=ms } s'->Q (.bool true) s'):xQ Q (.ptr p 2) s:=by
 have hF:=h.lt fr;have hp:=hF p h.pin;obtain ⟨xd,xm,xa,xn,m,c,rfl⟩:=h;have hlen:=aJp c.am;rw [m002] at hlen;have g:Jw 3 1 s xn (ms.map dT++[dT q]):=by have:=c.am;rw [hd,m038] at this;exact this
 obtain ⟨i,hi1,hcut⟩:=aQi sB g;rw [m002] at hcut;have hl:K.am.length=ms.length+1:=by rw [hd];simp
 have hsub:IntKind.i64.wrap ((K.am.length:Int) - 1)=((ms.length:Nat):Int):=by rw [IntWalk.i64_in _ (by omega)];omega
 obtain ⟨v1,v2⟩:=hcut (Ai.adv s 15) (by rw [adv_h]);unfold xQ;refine ⟨rfl,?_⟩;simp only [c.cell,wx,wy,reduceAdd,reduceEqDiff,reduceCtorEq];refine ⟨rfl,?_⟩;simp only [c.cell,hlen,hsub,wx,wy,reduceAdd,reduceEqDiff,reduceCtorEq];rw [v1];simp only [Bnd_some];refine ⟨rfl,?_⟩;refine ⟨fr _ (by omega),?_⟩;rw [dW (c:=[xd,xm,xa,xn,m]) (e:=88) (ex:=true) (by rw [adv_h,c.cell]) (by simp) rfl rfl];simp only [Bnd_some];have hI2:∀ j∈aF (.ref i 0 ms.length none 3),j=s.nx\/j∈aF xn:=fun j hj=>.inr (by rw [hi1];simpa [aF] using hj)
 exact hQ _ (rQ (id:=s.nx) (A:=[]) c fr (bJ _) (by simp only [adv_nx];omega) (by simp only [adv_nx];omega) (fun j hj=>by cases hj) (fun y hy _=>by rw [adv_h]) fr.adv (fun j hj=>by
  simp only [aO,m003] at hj ⊢;have:=hI2 j
  grind) (aHb c fr (id:=s.nx) (bJ _) (fun y hy _=>by rw [adv_h]) hI2 v2)).adv
theorem bPe {ms:List Int} {q:Int} (hd:K.am=ms++[q]) (hq0:0<=q) (hm:K.am.length<=2 ^ 20) (Q:aE):∀ (k:Nat) (s:St) (F1:List Nat) (D1:List Sx) (bx:Nat) (v:AV),aI s->cL s p { K with X:=D1 } F1->(D1.length:Int)=q+k->D1.length<=2 ^ 20->v.cells.length=6->v.cells.all AV.one=true->v=.agg v.cells->s.h bx=some (.cells v.cells 33 true true)->bx ∉ F1 ->
  (∀ s',bR s p F1 { K with X:=D1.take q.toNat,am:=ms } s'->Q (.bool true) s')->lF Q (k+2) (.ptr p 2) (.ptr bx 0) (.bool true) s:=by
 obtain ⟨Z,hZ,zl,zo,zi,za⟩:=z33;intro k
 induction k with
 | zero =>
  intro s F1 D1 bx v fr h hD hl vl vo va hb hbF hQ;show kI Q (lF Q 1) _ _ _ s;have hF:=h.lt fr;have pv:Ai.part 6 true 0 v.cells=some v:=by unfold Ai.part;rw [if_pos rfl,if_pos (by omega),m048,m014 (by omega),<- va]
  simp only [kI,KR,hb,pv,hZ,wx,wy,reduceAdd,reduceEqDiff,reduceCtorEq];rw [bI (id:=s.nx+2) (z:=6) (c:=Z.cells) (e:=33) (ex:=true) (v:=v) (by rw [adv_h,aG]) zl vl vo];simp only [Bnd_some];obtain ⟨S,hS⟩:∃ S,S=Ai.adv ((Ai.adv (s.set (s.nx+2) (some (.cells Z.cells 33 true true))) 4).set (s.nx+2) (some (.cells v.cells 33 true true))) 6:=⟨_,rfl⟩;rw [<- hS];have nS:S.nx=s.nx+10:=by rw [hS];rfl
  have kS:∀ j,j≠s.nx+2->S.h j=s.h j:=fun j hj=>by rw [hS,adv_h,aB hj,adv_h,aB hj]
  have bS:S.h (s.nx+2)=some (.cells v.cells 33 true true):=by rw [hS,adv_h,aG]
  have fS:aI S:=fun j hj=>by rw [kS j (by omega)];exact fr j (by omega)
  have eS:EF [] s S:=⟨by omega,fun j hj _=>kS j (by omega),fS⟩;have hfl:bQ K.am=q:=by rw [hd,eC]
  obtain ⟨w,wl,wo,wa,hw⟩:=bCi (K:={ K with X:=D1 }) fS (h.ext fr eS) (by show 0<=bQ K.am;omega) (by show bQ K.am<=(D1.length:Int);omega) hm hl;have x0:∀ b,aW (.tup [w,.bool b]) 0=some w:=fun b=>rfl;have x1:∀ b,aW (.tup [w,.bool b]) 1=some (.bool b):=fun b=>rfl;refine hw.call aQw fun s3 q3=>?_;simp only [hfl] at q3 ⊢;have hbn:s.nx+2 ∉ F1:=fun hm=>by have:=hF _ hm;omega
  have hc:((D1.length:Int)==q)=true:=by simp;omega
  simp only [hc,cond_true] at q3;simp only [hc,x0,x1,Bnd_some];obtain ⟨F3,r3,e3,m3⟩:=q3;show kI Q (lF Q 0) _ _ _ s3;simp only [kI,wx,wy,reduceAdd,reduceEqDiff,reduceCtorEq];refine bJa e3.fr.adv r3.adv hd hm fun s4 q4=>hQ _ ?_;have ht:D1.take q.toNat=D1:=m014 (by omega);rw [ht];exact bR.step (((eS.sub fun j hj=>by cases hj).trans e3 fun j hj=>.inr hj).adv) (fun j hj=>(m3 j hj).imp_right fun h=>by omega) q4
 | succ k ih =>
  intro s F1 D1 bx v fr h hD hl vl vo va hb hbF hQ;show kI Q (lF Q (k+2)) _ _ _ s;have hF:=h.lt fr;have pv:Ai.part 6 true 0 v.cells=some v:=by unfold Ai.part;rw [if_pos rfl,if_pos (by omega),m048,m014 (by omega),<- va]
  simp only [kI,KR,hb,pv,hZ,wx,wy,reduceAdd,reduceEqDiff,reduceCtorEq];rw [bI (id:=s.nx+2) (z:=6) (c:=Z.cells) (e:=33) (ex:=true) (v:=v) (by rw [adv_h,aG]) zl vl vo];simp only [Bnd_some];obtain ⟨S,hS⟩:∃ S,S=Ai.adv ((Ai.adv (s.set (s.nx+2) (some (.cells Z.cells 33 true true))) 4).set (s.nx+2) (some (.cells v.cells 33 true true))) 6:=⟨_,rfl⟩;rw [<- hS];have nS:S.nx=s.nx+10:=by rw [hS];rfl
  have kS:∀ j,j≠s.nx+2->S.h j=s.h j:=fun j hj=>by rw [hS,adv_h,aB hj,adv_h,aB hj]
  have bS:S.h (s.nx+2)=some (.cells v.cells 33 true true):=by rw [hS,adv_h,aG]
  have fS:aI S:=fun j hj=>by rw [kS j (by omega)];exact fr j (by omega)
  have eS:EF [] s S:=⟨by omega,fun j hj _=>kS j (by omega),fS⟩;have hfl:bQ K.am=q:=by rw [hd,eC]
  obtain ⟨w,wl,wo,wa,hw⟩:=bCi (K:={ K with X:=D1 }) fS (h.ext fr eS) (by show 0<=bQ K.am;omega) (by show bQ K.am<=(D1.length:Int);omega) hm hl;have x0:∀ b,aW (.tup [w,.bool b]) 0=some w:=fun b=>rfl;have x1:∀ b,aW (.tup [w,.bool b]) 1=some (.bool b):=fun b=>rfl;refine hw.call aQw fun s3 q3=>?_;simp only [hfl] at q3 ⊢;have hbn:s.nx+2 ∉ F1:=fun hm=>by have:=hF _ hm;omega
  have hc:((D1.length:Int)==q)=false:=by simp;omega
  simp only [hc,cond_false] at q3;simp only [hc,x0,x1,Bnd_some,m027];obtain ⟨F3,r3,e3,m3⟩:=q3
  refine ih s3 F3 D1.dropLast (s.nx+2) v e3.fr r3 (by rw [m064];omega) (by rw [m064];omega) vl vo va (by rw [e3.h _ (by omega) hbn,bS]) (fun hm=>by
   rcases m3 _ hm with h | h
   ·exact hbn h
   ·omega) fun s4 q4=>hQ _ ?_
  have ht:D1.dropLast.take q.toNat=D1.take q.toNat:=by rw [List.dropLast_eq_take,List.take_take,qJ (by omega)]
  rw [ht] at q4;exact bR.step ((eS.sub fun j hj=>by cases hj).trans e3 fun j hj=>.inr hj) (fun j hj=>(m3 j hj).imp_right fun h=>by omega) q4
theorem bPn (Q:aE) (a b c:AV) (s:St):lF Q 1 a b c s=kI Q (lF Q 0) a b c s:=rfl
theorem bFw:mEv.fz 151=false:=by kernel_rfl
theorem bMr:mEv.fz 96=false:=by kernel_rfl
theorem bOs (fr:aI s) (h:cL s p K F) {ms:List Int} {q:Int} (hd:K.am=ms++[q]) (hq0:0<=q) (hq:q<=(K.X.length:Int)) (hm:K.am.length<=2 ^ 20) (hl:K.X.length<=2 ^ 20):mO 151 [.ptr p 2] s p F (.bool true) { K with X:=K.X.take q.toNat,am:=ms }:=by
 have hF:=h.lt fr;obtain ⟨Z,hZ,zl,zo,zi,za⟩:=z33
 have r:=aPf (.ptr p 2) s (Q:=fun r s'=>r=.bool true/\bR s p F { K with X:=K.X.take q.toNat,am:=ms } s') (by
  unfold f151;refine (bOl fr.adv h.adv).call bCy fun s1 e1=>?_;have hne:((K.am.length:Int)==0)=false:=by rw [hd];simp;omega
  simp only [hne,wx,wy,reduceAdd,reduceEqDiff,reduceCtorEq];have es1:EF [] s s1:=(EF.refl [] fr).adv.nil_trans e1;have hfl:bQ K.am=q:=by rw [hd,eC]
  obtain ⟨w,wl,wo,wa,hw⟩:=bCi (s:=Ai.adv s1 8) es1.fr.adv (h.ext fr es1.adv) (by omega) (by omega) hm hl;have x0:∀ b,aW (.tup [w,.bool b]) 0=some w:=fun b=>rfl;have x1:∀ b,aW (.tup [w,.bool b]) 1=some (.bool b):=fun b=>rfl;refine hw.call aQw fun s2 q2=>?_;simp only [hfl] at q2 ⊢;simp only [x0,x1,hZ,Bnd_some];rw [bI (id:=s1.nx+5) (z:=6) (c:=Z.cells) (e:=33) (ex:=true) (v:=w) aG zl wl wo];simp only [Bnd_some];obtain ⟨F2,r2,e2,m2⟩:=q2;have n1:=es1.nx;have n2:=e2.nx;simp only [adv_nx] at n2
  have m2':∀ j∈F2,j≠s1.nx+5:=fun j hj=>by
   rcases m2 j hj with h | h
   ·have:=hF j h;omega
   ·simp only [adv_nx] at h;omega
  have m3:∀ j∈F2,j∈F\/s.nx<=j:=fun j hj=>(m2 j hj).imp_right fun h=>by simp only [adv_nx] at h;omega
  obtain ⟨S,hS⟩:∃ S,S=(s2.set (s1.nx+5) (some (.cells Z.cells 33 true true))).set (s1.nx+5) (some (.cells w.cells 33 true true)):=⟨_,rfl⟩;rw [<- hS];have nS:S.nx=s2.nx:=by rw [hS];rfl
  have kS:∀ j,j≠s1.nx+5->S.h j=s2.h j:=fun j hj=>by rw [hS,aB hj,aB hj]
  have bS:S.h (s1.nx+5)=some (.cells w.cells 33 true true):=by rw [hS,aG]
  have fS:aI S:=fun j hj=>by rw [kS j (by omega)];exact e2.fr j (by omega)
  have rS:=r2.keep (s':=S) fun j hj=>kS j (m2' j hj);have eS:EF F s S:=⟨by omega,fun j hj hn=>by rw [kS j (by omega),e2.h j (by simp only [adv_nx];omega) hn,adv_h,es1.h j hj (by simp)],fS⟩
  cases hc:((K.X.length:Int)==q) with
  | true =>
   simp only [hc,cond_true] at rS ⊢;refine ⟨1,?_⟩;rw [bPn];simp only [kI,m025,wx,wy,reduceAdd,reduceEqDiff,reduceCtorEq];refine bJa fS.adv rS.adv hd hm fun s4 q4=>⟨rfl,?_⟩;have hce:(K.X.length:Int)=q:=by simpa using hc
   have hle:K.X.length<=q.toNat:=by omega
   have ht:K.X.take q.toNat=K.X:=m014 hle;rw [ht];exact bR.step eS.adv m3 q4
  | false =>
   simp only [hc,cond_false] at rS ⊢
   have hlt:q < (K.X.length:Int):=by
    have:(K.X.length:Int)≠q:=by simpa using hc
    omega
   refine ⟨K.X.dropLast.length - q.toNat+2,?_⟩;refine bPe hd hq0 hm _ _ S F2 K.X.dropLast (s1.nx+5) w fS rS (by rw [m064];omega) (by rw [m064];omega) wl wo wa bS (fun h=>m2' _ h rfl) fun s4 q4=>⟨rfl,?_⟩;have ht:K.X.dropLast.take q.toNat=K.X.take q.toNat:=by rw [List.dropLast_eq_take,List.take_take,qJ (by omega)]
   rw [ht] at q4
   exact bR.step eS m3 q4)
 obtain ⟨r,s',h1,rfl,h2⟩:=r;exact ⟨_,s',h1,rfl,h2⟩
theorem bPc (fr:aI s) (h:cL s p K F) {ms:List Int} {q:Int} (hd:K.am=ms++[q]) (hq0:0<=q) (hq:q<=(K.X.length:Int)) (hm:K.am.length<=2 ^ 20) (hl:K.X.length<=2 ^ 20) :
  ∃ r s' s1,WideC mEv 103 [.ptr p 2] s r s'/\bR s p F { K with X:=K.X.take q.toNat,am:=ms } s1/\FE 33 s1 s' r ((K.X.take q.toNat).map Sx.av):=by
 have r:=aIg (.ptr p 2) s (Q:=fun r s'=>∃ s1,bR s p F { K with X:=K.X.take q.toNat,am:=ms } s1/\FE 33 s1 s' r ((K.X.take q.toNat).map Sx.av)) (by
  unfold f103;refine (bOs fr.adv h.adv hd hq0 hq hm hl).call bFw fun s1 q1=>?_;have q1:=q1.from (s:=s) (EF.refl [] fr).adv;have q1':=q1;obtain ⟨F1,r1,e1,m1⟩:=q1;obtain ⟨xd,xm,xa,xn,m,c,rfl⟩:=r1;obtain ⟨r,s2,w1,w2⟩:=c96 (p:=p) (o:=2) (s:=Ai.adv s1 3) (vs:=(K.X.take q.toNat).map Sx.av) e1.fr.adv c.cell rfl (c.x.keep fun _ _=>rfl) (by rw [m002,m020];omega)
  exact bO bMr ⟨r,s2,w1,Ai.adv s1 3,q1'.adv,w2⟩)
 obtain ⟨r,s',h1,s1,h2⟩:=r;exact ⟨r,s',s1,h1,h2⟩
end
end
noncomputable section
def lN (K:Sk):Sk:={ K with dm:=K.dm++[(K.D.length:Int)],am:=K.am++[(K.X.length:Int)] }
def pushN:Nat->Sk->Sk
 | 0,K=>K
 | n+1,K=>pushN n (lN K)
def sPush (K:Sk) (n:Int):Int×Sk:=bif decide (n < 0) then (1,K) else bif decide (n > 100 - (K.dm.length:Int)) then (2,K) else (0,pushN n.toNat K)
theorem bIg:mEv.fz 100=false:=by kernel_rfl
theorem bKt:mEv.fz 101=false:=by kernel_rfl
theorem MX:mEv.fz 46=false:=by kernel_rfl
section
variable {s s':St} {p:Nat} {K:Sk} {F:List Nat} {xd xm xa xn m:AV}
theorem l50 (Q:aE) (N:Nat) (hN:N<=2 ^ 18):∀ (k i:Nat) (s:St) (F1:List Nat) (K1:Sk),i+k=N->aI s->cL s p K1 F1->K1.dm.length+k<=2 ^ 19->K1.am.length+k<=2 ^ 19 ->
  (∀ s',bR s p F1 (pushN k K1) s'->Q (.int .i64 0) s')->zC Q (k+1) (.ptr p 0) (.int .i64 N) (.int .i64 i) s:=by
 intro k
 induction k with
 | zero =>
  intro i s F1 K1 hi fr h hd ha hQ;show BL Q (zC Q 0) _ _ _ s;have c1:decide ((i:Int) < (N:Int))=false:=by simp;omega
  simp only [BL,MF,c1,wx,wy,reduceAdd,reduceEqDiff,reduceCtorEq];exact hQ _ (bR.same h fr (EF.refl [] fr).adv)
 | succ k ih =>
  intro i s F1 K1 hi fr h hd ha hQ;show BL Q (zC Q (k+1)) _ _ _ s;have c1:decide ((i:Int) < (N:Int))=true:=by simp;omega
  simp only [BL,c1,wx,wy,reduceAdd,reduceEqDiff,reduceCtorEq];refine ⟨rfl,?_⟩;refine (bPt fr.adv h.adv (by omega)).call bIg fun s1 q1=>?_;obtain ⟨F2,r2,e2,m2⟩:=q1.from (s:=s) (EF.refl [] fr).adv;refine ⟨rfl,?_⟩;refine (bQm e2.fr.adv r2.adv (by show K1.am.length<=2 ^ 20;omega)).call bKt fun s2 q2=>?_;obtain ⟨F3,r3,e3,m3⟩:=bR.step e2.adv m2 q2;simp only [aOk,wx,wy,reduceAdd,reduceEqDiff,reduceCtorEq];rw [bU i N (by omega) (by have:maxLen=9223372036854775807:=rfl;omega)];refine ih (i+1) _ F3 _ (by omega) e3.fr.adv r3.adv ?_ ?_ fun s4 q4=>hQ _ (bR.step e3.adv m3 q4)
  ·simp only [m006,List.length_singleton];omega
  ·simp only [m006,List.length_singleton];omega
theorem c50 (fr:aI s) (h:cL s p K F) (n:Int) (hd:K.dm.length<=100) (ha:K.am.length<=100):mO 50 [.ptr p 0,.int .i64 n] s p F (.int .i64 (sPush K n).1) (sPush K n).2:=by
 have r:=aWb (.ptr p 0) (.int .i64 n) s (Q:=fun r s'=>r=.int .i64 (sPush K n).1/\bR s p F (sPush K n).2 s') (by
  unfold f50;simp only [lA,UE,wx,wy,reduceAdd,reduceEqDiff,reduceCtorEq];have e20:∀ k,EF [] s (Ai.adv s k):=fun k=>(EF.refl [] fr).adv
  cases h1:decide (n < 0) with
  | true =>simp only [sPush,h1,cond_true,wx,wy,reduceAdd,reduceEqDiff,reduceCtorEq];exact bR.same h fr (e20 _)
  | false =>
   simp only [h1,wx,wy,reduceAdd,reduceEqDiff,reduceCtorEq];refine (c46 fr.adv h.adv).call MX fun s1 e1=>?_;have e2:=(e20 _).nil_trans e1;have hw:IntKind.i64.wrap (100 - (K.dm.length:Int))=100 - (K.dm.length:Int):=IntWalk.i64_in _ (by omega);simp only [hw,wx,wy,reduceAdd,reduceEqDiff,reduceCtorEq]
   cases h2:decide (n > 100 - (K.dm.length:Int)) with
   | true =>simp only [sPush,h1,h2,cond_true,cond_false,wx,wy,reduceAdd,reduceEqDiff,reduceCtorEq];exact bR.same h fr e2.adv
   | false =>
    simp only [sPush,h1,h2,cond_false,OF,wx,wy,reduceAdd,reduceEqDiff,reduceCtorEq]
    have hn:((n.toNat:Nat):Int)=n:=by
     have:¬ (n < 0):=by simpa using h1
     omega
    have hn2:n.toNat<=100:=by
     have:¬ (n > 100 - (K.dm.length:Int)):=by simpa using h2
     omega
    refine ⟨n.toNat+1,?_⟩;have:=l50 (p:=p) (fun r s'=>r=.int .i64 0/\bR s p F (pushN n.toNat K) s') n.toNat (by omega) n.toNat 0 (Ai.adv s1 2) F K (by omega) e2.fr.adv (h.ext fr e2).adv (by omega) (by omega) (fun s4 q4=>⟨rfl,q4.from e2.adv⟩);rw [hn] at this
    exact this)
 obtain ⟨r,s',h1,rfl,h2⟩:=r;exact ⟨_,s',h1,rfl,h2⟩
def sA (K:Sk):Sk:={ D:=K.D.take (bQ K.dm).toNat,dm:=K.dm.dropLast,X:=K.X.take (bQ K.am).toNat,am:=K.am.dropLast,N:=some (((K.D.take (bQ K.dm).toNat).map Dc.nm).foldl wW []) }
def wM:Nat->Sk->Sk
 | 0,K=>K
 | n+1,K=>wM n (sA K)
def sPop (K:Sk) (n:Int):Int×Sk:=bif decide (n < 0) then (1,K) else bif decide (n > (K.dm.length:Int)) then (5,K) else (0,wM n.toNat K)
structure MOk (ms:List Int) (n:Nat):Prop where
 le:∀ x∈ms,0<=x/\x<=(n:Int)
 up:ms.Pairwise (·<=·)
structure EY (K:Sk):Prop where
 d:MOk K.dm K.D.length
 x:MOk K.am K.X.length
 l:K.am.length=K.dm.length
 ld:K.D.length<=500
 lx:K.X.length<=500
 lm:K.dm.length<=100
theorem XT {ms:List Int} {q:Int} {n:Nat} (h:MOk (ms++[q]) n):0<=q/\q<=(n:Int)/\MOk ms (min q.toNat n):=by have h1:=h.le q (by simp);refine ⟨h1.1,h1.2,⟨fun x hx=>⟨(h.le x (by simp [hx])).1,?_⟩,(List.pairwise_append.1 h.up).1⟩⟩;have h2:=(List.pairwise_append.1 h.up).2.2 x hx q (by simp);omega
theorem KU (h:EY K) (hne:K.dm≠[]):∃ ms q ns r,K.dm=ms++[q]/\K.am=ns++[r]/\0<=q/\q<=(K.D.length:Int)/\0<=r/\r<=(K.X.length:Int)/\EY (sA K)/\sA K={ D:=K.D.take q.toNat,dm:=ms,X:=K.X.take r.toNat,am:=ns,N:=some (((K.D.take q.toNat).map Dc.nm).foldl wW []) }:=by
 obtain ⟨ms,q,hd⟩:∃ ms q,K.dm=ms++[q]:=by
  rcases m061 K.dm with h | ⟨a,b,h⟩
  ·exact absurd h hne
  ·exact ⟨a,b,by rw [h,List.concat_eq_append]⟩
 obtain ⟨ns,r,ha⟩:∃ ms q,K.am=ms++[q]:=by
  rcases m061 K.am with h1 | ⟨a,b,h1⟩
  ·have:=h.l;rw [h1,hd] at this;simp at this
  ·exact ⟨a,b,by rw [h1,List.concat_eq_append]⟩
 have hp:sA K={ D:=K.D.take q.toNat,dm:=ms,X:=K.X.take r.toNat,am:=ns,N:=some (((K.D.take q.toNat).map Dc.nm).foldl wW []) }:=by simp only [sA,hd,ha,eC,List.dropLast_concat]
 obtain ⟨a1,a2,a3⟩:=XT (hd ▸ h.d);obtain ⟨b1,b2,b3⟩:=XT (ha ▸ h.x);have hl:=h.l;rw [hd,ha] at hl;simp only [m006,List.length_singleton] at hl;have lm:=h.lm;rw [hd] at lm;simp only [m006,List.length_singleton] at lm;have ld:=h.ld;have lx:=h.lx;refine ⟨ms,q,ns,r,hd,ha,a1,a2,b1,b2,?_,hp⟩;rw [hp];exact ⟨by simpa [m020] using a3,by simpa [m020] using b3,by show ns.length=ms.length;omega,by show (K.D.take q.toNat).length<=500;rw [m020];omega,by show (K.X.take r.toNat).length<=500;rw [m020];omega,by show ms.length<=100;omega⟩
end
end
end Go.Proofs.YtdehdahimkcakaaGreatDoor
