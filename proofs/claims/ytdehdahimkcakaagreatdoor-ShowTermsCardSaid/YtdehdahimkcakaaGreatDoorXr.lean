/- Texts joined by wip/tools/pack.py: Cc,Tx,Eg,Lo,Swr,Sw,Vl,Rb,Rt,Wa,Sv,Rp,Rq,Fr,Bu. -/
import Derived.Test.YtdehdahimkcakaaGreatDoorXq
open Nat renaming reduceAdd→Z0, reduceEqDiff→Z1
set_option linter.unusedSimpArgs false
set_option linter.unusedVariables false
set_option maxHeartbeats 4000000
set_option maxRecDepth 100000
namespace Go.Proofs.YtdehdahimkcakaaGreatDoor
open Go Ai
noncomputable section
theorem mY:FX Sx.av 6:=⟨eA,dD⟩
theorem aPe:∀ (ws fF c:List AV),ws.length<=c.length->cD (fF++c) fF.length ws=fF++ws++c.drop ws.length:=by
 intro ws
 induction ws with
 | nil=>intro fF c _;simp [cD]
 | cons v l ih =>
  intro fF c h
  match c,h with
  | y::c,h =>
   simp only [cD];have e:(fF++y::c).set fF.length v=(fF++[v])++c:=by simp
   have:=ih (fF++[v]) c (by simpa using h);rw [e];simpa using this
section
variable {t e:TypeId} {z b:Nat} {ag:Bool} {s:St}
theorem aOn (h:gI t e z ag b) {vs ws junk:List AV} {i:Nat} (hv:∀ v∈vs,v.cells.length=z/\v.cells.all AV.one=true) (hw:∀ v∈ws,v.cells.length=z/\v.cells.all AV.one=true) (hs:s.h i=some (.cells (vs.flatMap AV.cells++junk) e false true)) (hj:ws.length * z<=junk.length) (ex:Bool) (id:Nat) :
  ∃ s',bt .append #[t,t] [.ref i 0 vs.length none e,.sl ex ws] id s=some (.ref i 0 (vs.length+ws.length) none e,s')/\s'.nx=s.nx/\s'.h i=some (.cells ((vs++ws).flatMap AV.cells++junk.drop (ws.length * z)) e false true)/\∀ j,j≠i->s'.h j=s.h j:=by
 rw [mO h];have hall:ws.all (fun v=>v.cells.length==z)=true:=m032.2 fun v hv=>by simp [(hw v hv).1]
 have hsrc:aR z (.sl ex ws) s=some (ws.flatMap AV.cells):=by simp [aR,hall]
 rw [hsrc,Option.bind_some];have hwl:=eX hw;have hfl:=eX hv;by_cases hne:ws=[]
 ·subst hne;exact ⟨s,rfl,rfl,by simpa using hs,fun _ _=>rfl⟩
 ·have hpos:0 < ws.length:=List.length_pos_iff.2 hne;have hmul:0 < ws.length * z:=Nat.mul_pos hpos h.pos
  have hem:(ws.flatMap AV.cells).isEmpty=false:=by
   cases hc:ws.flatMap AV.cells with
   | nil=>rw [hc] at hwl;simp at hwl;omega
   | cons a b=>rfl
  have hones:(ws.flatMap AV.cells).all AV.one=true:=by rw [m032];intro y hy;obtain ⟨v,hv,hy⟩:=List.mem_flatMap.1 hy;exact m032.1 (hw v hv).2 y hy
  have hdiv:(ws.flatMap AV.cells).length / z=ws.length:=by rw [hwl];exact CD _ h.pos
  refine ⟨s.set i (some (.cells ((vs++ws).flatMap AV.cells++junk.drop (ws.length * z)) e false true)),?_,rfl,aG,fun j hj=>aF hj⟩;unfold bM;simp only [hem,hones,m025,m015,if_false,hs,m023];rw [if_pos ⟨by rw [m006,hfl];omega,trivial⟩,if_pos (by rw [m006,hfl,hwl];omega)];rw [hdiv];have:=aPe (ws.flatMap AV.cells) (vs.flatMap AV.cells) junk (by rw [hwl];exact hj);rw [hfl] at this;rw [this,hwl,List.flatMap_append]
end
theorem bOq {s:St} {K:aC} (n:Nat) (hn:n<=2 ^ 24) (fr:aK s) (hk:∀ s' x,EF [] s s'->(n=0/\x=.nils\/∃ i junk,x=.ref i 0 0 none 33/\s.nx<=i/\i < s'.nx/\junk.length=n * 6/\s'.h i=some (.cells junk 33 false true))->K x s'):aY mEv 158 [.nils,.int .i64 n] s K:=by
 refine kM (by kernel_rfl) (aMx _ _ _ ?_);have h24:(2:Nat) ^ 24=16777216:=rfl;have hc:∀ id (s:St),bt .cap #[31] [.nils] id s=some (.int .i64 0,s):=fun id s=>by kernel_rfl
 have hsl:∀ s:St,jM 31 .nils none (some (.int .i64 0)) none s=some .nils:=fun s=>by kernel_rfl
 have hneg:decide ((n:Int) < 0)=false:=by simp
 unfold f158;simp only [hneg,wx,wy,Z0,Z1,reduceCtorEq,IO,IV,hc,aDi,show IntKind.i64.wrap (0 - 0)=0 from rfl];rw [show (n:Int) - 0=(n:Int) by omega,bIp (k:=n) (by omega)];by_cases h0:n=0
 ·subst h0;simp only [show decide (((0:Nat):Int) > 0)=false from rfl,wx,wy,Z0,Z1,reduceCtorEq];exact hk _ _ ((EF.refl [] fr).adv) (.inl ⟨rfl,rfl⟩)
 ·have hpos:decide ((n:Int) > 0)=true:=by simp;omega
  simp only [hpos,wx,wy,Z0,Z1,reduceCtorEq,hsl]
  have happ:∀ id (s:St),bt .append #[31,3] [.nils,.int .i64 n] id s=some (.ref id 0 n none 33,s.set id (some (.cells (List.replicate n bV.cells).flatten 33 false true))):=fun id s=>by
   have h1:dZ (bX mEv).P 31=some (.slice 33):=nB.u;have h2:eN (bX mEv).P 33=some (6,true):=nB.l;have h3:dN (bX mEv).P 33=some 72:=nB.b;have h4:dZ (bX mEv).P 3=some (.int .i64):=by kernel_rfl
   have h5:zero (bX mEv).P 33=some bV:=aBx;have hz:bV.cells.length=6:=rfl;have hl:(List.replicate n bV.cells).flatten.length=n * 6:=by simp [List.length_flatten,hz]
   have hone:(List.replicate n bV.cells).flatten.all AV.one=true:=by rw [m032];intro y hy;obtain ⟨l,hl,hy⟩:=List.mem_flatten.1 hy;obtain ⟨_,rfl⟩:=List.mem_replicate.1 hl;exact m032.1 (show bV.cells.all AV.one=true from rfl) y hy
   have hem:(List.replicate n bV.cells).flatten.isEmpty=false:=by
    cases hc:(List.replicate n bV.cells).flatten with
    | nil=>rw [hc] at hl;simp at hl;omega
    | cons a b=>rfl
   have hm:(n:Int) * ((72:Nat):Int)<=(most:Int)/\(n:Int)<=(most:Int):=by unfold most;omega
   simp only [bt,bG,List.getElem?_toArray,List.getElem?_cons_zero,List.getElem?_cons_succ,Option.bind_some,h1,h4,h2,h3,h5];rw [if_pos ⟨by omega,by omega,hm.1,hm.2,hz⟩,Int.toNat_natCast];unfold bM;simp only [hem,hone,m025,m015,if_false,eC,hl];rw [show n * 6 / 6=n by omega,rL (by omega) (by omega),if_pos rfl];simp only [kD,hl];rw [show n * 6 / 6=n by omega]
  simp only [happ,wx,wy,Z0,Z1,reduceCtorEq];have hlen:(List.replicate n bV.cells).flatten.length=n * 6:=by simp [List.length_flatten,show bV.cells.length=6 from rfl]
  have hsl2:∀ (i k:Nat) (q:St),jM 31 (.ref i 0 n none 33) none (some (.int .i64 0)) none (Ai.adv (q.set i (some (.cells (List.replicate n bV.cells).flatten 33 false true))) k)=some (.ref i 0 0 none 33):=fun i k q =>
   aKi nB (k:=0) (by rw [adv_h,aG]) (by rw [hlen];omega) (by omega) .i64
  simp only [hsl2,wx,wy,Z0,Z1,reduceCtorEq];refine hk _ _ ⟨by simp only [adv_nx,set_nx];omega,fun j hj _=>by simp only [adv_h];rw [aF (by omega)],dP fr _ (by omega)⟩ (.inr ⟨_,_,rfl,by omega,by simp only [adv_nx,set_nx];omega,hlen,by rw [adv_h,aG]⟩)
def lsA (l:List Sx):AV:=.sl false (l.map Sx.av)
def jP (nm:List UInt8) (l:List Sx):Sx:=.mk true 0 [] 0 0 (kX 3 nm::l)
def sX (i n:Nat):AV:=.agg [.bool true,.int .i64 0,.str [],.int .i64 0,.int .i64 0,.ref i 0 n none 33]
theorem aXw (i n:Nat):eE 33 [(0,.bool true),(3,.ref i 0 n none 33)]=some (sX i n):=by rw [aYr];rfl
theorem CX {s:St} {i:Nat} {l:List Sx} {nm:List UInt8} (g:Gw 33 6 0 s (.ref i 0 (l.length+1) none 33) ((kX 3 nm::l).map Sx.av)) (k:Nat):pur mEv.P s (k+2) (sX i (l.length+1))=some ((jP nm l).av,[i]):=by
 obtain ⟨ids,e1,e2⟩:=uB nB g (fun a _=>cZ a) (fun a _=>by cases a;rfl) k;have h2:∀ v:AV,v.closed=true->pur mEv.P s (k+1) v=some (v,[]):=fun v hv=>bE (k+1) hv;have hn:=g.not_closed
 conv=>lhs;unfold pur sX
 rw [if_neg (by simp [AV.closed,aW])];simp only [dJ,e1,h2 (.bool true) rfl,h2 (.int .i64 0) rfl,h2 (.str []) rfl];rw [e2];have:(jP nm l).av=.agg [.bool true,.int .i64 0,.str [],.int .i64 0,.int .i64 0,.sl false ((kX 3 nm::l).map Sx.av)]:=by simp only [jP,Sx.av,Sx.avs_eq]
 rw [this];rfl
theorem bNy {s:St} (fr:aK s) (sym:Sx) (l:List Sx) (hl:l.length<=2 ^ 20) {y:AV} (hy:y=lsA l\/(y=.nils/\l=[])) {Q:aC} (hQ:∀ i s',EF [] s s'->s.nx<=i->s'.h i=some (.cells (((sym::l).map Sx.av).flatMap AV.cells) 33 false true)->Q (.ref i 0 (l.length+1) none 33) s'):f109 Q (.sl true [.sl true [sym.av],y]) s:=by
 unfold f109;have h20:(2:Nat) ^ 20=1048576:=rfl;have ix0:cA 1 (.sl true [.sl true [sym.av],y]) (.int .i64 0)=some (.pel [.sl true [sym.av]] 0):=rfl;have ix1:cA 1 (.sl true [.sl true [sym.av],y]) (.int .i64 1)=some (.pel [y] 0):=by rcases hy with rfl | ⟨rfl,_⟩<;>rfl
 have hly:∀ (id:Nat) (s:St),bt .len #[31] [y] id s=some (.int .i64 l.length,s):=by
  intro id s;rcases hy with rfl | ⟨rfl,rfl⟩
  ·simp only [lsA,zB,m002]
  ·exact aDi id s
 have w1:IntKind.i64.wrap (0+(1:Int))=1:=rfl;have w2:IntKind.i64.wrap ((1:Int)+(l.length:Int))=((l.length+1:Nat):Int):=by rw [IntWalk.i64_in _ (by omega)];omega
 have n1:decide ((1:Int) < 0)=false:=rfl;have n2:decide (((l.length+1:Nat):Int) < 0)=false:=by simp;omega
 have d0:decide ((0:Int) < 2)=true:=rfl;have d1:decide ((1:Int) < 2)=true:=rfl;have d2:decide ((2:Int) < 2)=false:=rfl;have k1:IntKind.i64.wrap (1+(1:Int))=2:=rfl;have l2:∀ (id:Nat) (s:St),bt .len #[221] [.sl true [.sl true [sym.av],y]] id s=some (.int .i64 2,s):=fun id s=>bCm ..;have l1:∀ (id:Nat) (s:St),bt .len #[31] [.sl true [sym.av]] id s=some (.int .i64 1,s):=fun id s=>zB ..;have u3:tJ Q 3=vW Q (vW Q (vW Q (tJ Q 0))):=rfl;have v3:tF Q 3=uJ Q (uJ Q (uJ Q (tF Q 0))):=rfl;simp only [l2,wx,wy,Z0,Z1,reduceCtorEq];refine ⟨3,?_⟩;rw [u3];simp only [vW,d0,d1,d2,ix0,ix1,l1,hly,w1,w2,n1,n2,k1,HY,CL,List.getElem?_cons_zero,wx,wy,Z0,Z1,reduceCtorEq];refine bOq (l.length+1) (by omega) fr.adv fun s' x hE hx=>?_;rcases hx with ⟨h0,_⟩ | ⟨i,junk,rfl,hi1,hi2,hj,hs⟩
 ·omega
 simp only [l2,wx,wy,Z0,Z1,reduceCtorEq];refine ⟨3,?_⟩;have hE:=((EF.refl [] fr).adv (n:=35)).trans (M':=[]) hE (fun j hj=>by cases hj);have h1n:s.nx<=i:=by simp only [adv_nx] at hi1;omega
 rw [v3];obtain ⟨s1,a1,a2,a3,a4⟩:=aOn nB (s:=Ai.adv s' 11) (vs:=[]) (ws:=[sym.av]) (junk:=junk) (i:=i) (fun v hv=>by cases hv) (fun v hv=>by rw [m008.1 hv];exact ⟨eA sym,dD sym⟩) (by rw [adv_h];simpa using hs) (by simp;omega) true (s'.nx+9)
 have e1:∀ k,EF [] s (Ai.adv s1 k):=fun k=>⟨by have:=hE.nx;simp only [adv_nx,a2];omega,fun j hj _=>by rw [adv_h,a4 j (by omega),adv_h];exact hE.h j hj (by simp),fun j hj=>by
  simp only [adv_nx,a2] at hj
  rw [adv_h,a4 j (by omega),adv_h];exact hE.fr j (by omega)⟩
 have x1:∃ s2,bt .append #[31,31] [.ref i 0 1 none 33,y] (s1.nx+8) (Ai.adv s1 10)=some (.ref i 0 (l.length+1) none 33,s2)/\EF [] s s2/\s2.h i=some (.cells (((sym::l).map Sx.av).flatMap AV.cells) 33 false true):=by
  rcases hy with rfl | ⟨rfl,rfl⟩
  ·obtain ⟨s2,b1,b2,b3,b4⟩:=aOn nB (s:=Ai.adv s1 10) (vs:=[sym.av]) (ws:=l.map Sx.av) (junk:=junk.drop 6) (i:=i) (fun v hv=>by rw [m008.1 hv];exact ⟨eA sym,dD sym⟩) (lE mY.len mY.ones _) (by rw [adv_h];simpa using a3) (by rw [m002,List.length_drop];omega) false (s1.nx+8);refine ⟨s2,?_,⟨by have:=(e1 10).nx;omega,fun j hj hn=>by rw [b4 j (by omega)];exact (e1 10).h j hj hn,fun j hj=>by rw [b4 j (by simp only [b2,adv_nx,a2] at hj;omega)];exact (e1 10).fr j (by omega)⟩,?_⟩
   ·have e:[sym.av].length+(l.map Sx.av).length=l.length+1:=by simp;omega
    rw [e] at b1;exact b1
   ·rw [b3,m002,m037 (by rw [List.length_drop];omega),m011];rfl
  ·refine ⟨Ai.adv s1 10,by rw [mO nB];rfl,e1 10,?_⟩;rw [adv_h,a3];have:junk.drop ([sym.av].length * 6)=[]:=m037 (by simp at hj;simp;omega);rw [this,m011];rfl
 obtain ⟨s2,b1,b2,b3⟩:=x1;have a1':bt .append #[31,31] [.ref i 0 0 none 33,.sl true [sym.av]] (s'.nx+9) (Ai.adv s' 11)=some (.ref i 0 1 none 33,s1):=by simpa using a1
 simp only [uJ,d0,d1,d2,ix0,ix1,w1,k1,a1',b1,RP,BP,List.getElem?_cons_zero,wx,wy,Z0,Z1,reduceCtorEq];exact hQ i _ b2.adv h1n (by rw [adv_h];exact b3)
theorem j57 {s:St} {x:AV} {nm:List UInt8} {l:List Sx} (hl:l.length<=2 ^ 20) (fr:aK s) (hx:x=lsA l\/(x=.nils/\l=[])) {Q:aC} (hQ:∀ i s',EF [] s s'->s.nx<=i->Gw 33 6 0 s' (.ref i 0 (l.length+1) none 33) ((kX 3 nm::l).map Sx.av)->Q (sX i (l.length+1)) s'):f57 Q (.str nm) x s:=by
 unfold f57;have b31:∀ v:Sx,fZ 31 1 [(0,v.av)]=some (.sl true [v.av]):=fun v=>eW nB (by decide) (eA v) (dD v);have hone:x.cells=[x]/\x.one=true:=by rcases hx with rfl | ⟨rfl,_⟩<;>exact ⟨rfl,rfl⟩
 have b221:∀ v:AV,fZ 221 2 [(0,.sl true [v]),(1,x)]=some (.sl true [.sl true [v],x]):=fun v=>by have h1:zero Tryz.ty 31=some .nils:=bMf;have c0:AV.nils.cells=[.nils]:=rfl;have c1:(AV.sl true [v]).cells=[.sl true [v]]:=rfl;have c2:(AV.sl true [v]).one=true:=rfl;simp [iQ,aYa.u,aYa.l,h1,iM,hone.1,hone.2,c0,c1,c2]
 simp only [jV,wx,wy,Z0,Z1,reduceCtorEq];refine aM (c56 nm) (by simp [AV.closed]) ?_;simp only [b31,b221,wx,wy,Z0,Z1,reduceCtorEq]
 have hE:∀ n,EF [] s (Ai.adv (s.set s.nx (some (.cells (AV.agg [.bool false,.int .i64 0,.str [],.int .i64 0,.int .i64 0,.nils]).cells 33 true true))) (1+n)):=fun n =>
  ⟨by simp only [adv_nx,set_nx];omega,fun j hj _=>by simp only [adv_h];rw [aF (by omega)],dP fr _ (by omega)⟩
 refine kM (by kernel_rfl) (aIe _ _ (bNy (hE 8).fr (kX 3 nm) l hl hx fun i s1 e1 hi h1=>?_));have hn1:s.nx+9<=i:=hi;have z1:s1.h s.nx=some (.cells bV.cells 33 true true):=by rw [e1.h s.nx (by simp only [adv_nx,set_nx];omega) (by simp),adv_h,aG];rfl
 have hpr:Ai.part 6 true 0 (sX i (l.length+1)).cells=some (sX i (l.length+1)):=rfl;simp only [aXw,wx,wy,Z0,Z1,reduceCtorEq];rw [bJ (z:=6) z1 rfl rfl rfl];simp only [wx,wy,Z0,Z1,reduceCtorEq,ld_ptr,hpr];have e2:=(hE 8).trans (M':=[]) e1 fun j hj=>(by cases hj);refine hQ i _ (e2.set (by have:=e1.nx;simp only [adv_nx,set_nx] at this;omega) (.inl (bH _))) (by omega) ⟨lE mY.len mY.ones _,.inr ⟨i,hO _,by simp,?_⟩⟩;rw [aF (by omega)];exact h1
theorem bNp (nm:List UInt8) (l:List Sx) (hl:l.length<=2 ^ 20):aU mEv 57 [.str nm,lsA l] (jP nm l).av :=
 bC (VF _ _ _ (j57 hl bU (.inl rfl) fun i s' _ _ g=>⟨[i],CX g 10⟩))
theorem c57 {s:St} {K:aC} {x:AV} {nm:List UInt8} {l:List Sx} {M:List Nat} (hl:l.length<=2 ^ 20) (fr:aK s) (hp:∀ s',EF [] s s'->∃ ids,pur mEv.P s' 12 x=some (lsA l,ids)/\∀ i∈ids,i∈M/\i < s.nx) (hone:x.cells=[x]) (hx:x.one=true)
  (hk:∀ s',EF M s s'->K (jP nm l).av s'):aE mEv 57 [.str nm,x] s K:=by
 obtain ⟨ids,h1,h2⟩:=hp s (EF.refl [] fr);refine eR (ids:=ids) (args2:=[.str nm,lsA l]) (by simp only [dJ,bE 12 (show (AV.str nm).closed=true from rfl),h1,List.nil_append,m011]) (bNp nm l hl) (hk _ ?_)
 split
 ·exact EF.refl M fr
 ·exact (EF.refl M fr).drop fun i hi=>.inr (h2 i hi).1
end
noncomputable section
def cN:List (Int×Int)->Int->Nat
 | [],_=>0
 | r::l,n=>cond (decide (IntKind.i64.wrap (n+r.2)<=1000)) (cN l (IntKind.i64.wrap (n+r.2))+1) 0
theorem WC:∀ (l:List (Int×Int)) (n:Int),cN l n<=l.length:=by
 intro l
 induction l with
 | nil=>intro n;simp [cN]
 | cons r l ih =>intro n;simp only [cN];have:=ih (IntKind.i64.wrap (n+r.2));cases decide (IntKind.i64.wrap (n+r.2)<=1000)<;>simp only [cond_true,cond_false,List.length_cons]<;>omega
theorem bNf (ex:Bool) (l:List (Int×Int)) (hl:l.length<=2 ^ 40) (Q:aC) (ih1:AV->AV->aC) (t2 t4:AV) (s0:St) :
  ∀ (m k:Nat) (n:Int) (c:Nat),k+m=l.length->(∀ c',KH Q ih1 (.int .i64 ((k+cN (l.drop k) n:Nat):Int)) t4 (.sl ex (l.map cP)) t2 (adv s0 c')) ->
   GR Q ih1 (m+1) (.sl ex (l.map cP)) t2 t4 (.int .i64 n) (.int .i64 k) (adv s0 c):=by
 intro m;have h40:(2:Nat) ^ 40=1099511627776:=rfl
 induction m with
 | zero =>intro k n c hk hf;show CP Q ih1 (GR Q ih1 0) _ _ _ _ _ _;rw [m044 (by omega)] at hf;simp only [CP,kI,m002,tG,show ¬ (k < l.length) by omega,decide_false,wx,wy,Z0,Z1,reduceCtorEq];exact hf _
 | succ m ih =>
  intro k n c hk hf;show CP Q ih1 (GR Q ih1 (m+1)) _ _ _ _ _ _;obtain ⟨r,hr⟩:∃ r,l[k]?=some r:=⟨_,m004 (by omega)⟩;have hlt:k < l.length:=by omega
  rw [cK l k r hr,cN] at hf;have h1:(cP r).cells[1]?=some (.int .i64 r.2):=rfl;simp only [CP,kI,m002,tG,hlt,decide_true,bP iW ex hr,h1,wx,wy,Z0,Z1,reduceCtorEq]
  cases h:decide (IntKind.i64.wrap (n+r.2)<=1000) with
  | true =>rw [h] at hf;simp only [h,bP iW ex hr,h1,wx,wy,Z0,Z1,reduceCtorEq];rw [cF k _ hlt (by have:maxLen=9223372036854775807:=rfl;omega)];refine ih (k+1) _ _ (by omega) fun c'=>?_;have:=hf c';simp only [cond_true] at this;rw [show k+1+cN (l.drop (k+1)) (IntKind.i64.wrap (n+r.2))=k+(cN (l.drop (k+1)) (IntKind.i64.wrap (n+r.2))+1) by omega];exact this
  | false =>rw [h] at hf;simp only [h,wx,wy,Z0,Z1,reduceCtorEq];exact hf _
def kL (LT:List (Int×Int)->Sx) (LG:Int×Int->Sx):Nat->List (Int×Int)->List Sx
 | 0,_=>[]
 | n+1,l=>match l with
  | []=>[]
  | r::t=>cond (cN (r::t) 0==0) (LG r::kL LT LG n t) (LT ((r::t).take (cN (r::t) 0))::kL LT LG n ((r::t).drop (cN (r::t) 0)))
section
variable (LT:List (Int×Int)->Sx) (LG:Int×Int->Sx) (Q:aC)
theorem bNt (ok:Int×Int->Bool) (hL:∀ (l:List (Int×Int)),(∀ r∈l,ok r=true)->cN l 0≠0->aU mEv 115 [.sl false ((l.take (cN l 0)).map cP)] (.tup [(LT (l.take (cN l 0))).av,.int .i64 0]))
  (hG:∀ r,ok r=true->¬ (IntKind.i64.wrap (0+r.2)<=1000)->aU mEv 114 [cP r] (LG r).av) (t2:AV) (N:Nat) (hN:N<=2 ^ 24) (ps:List Sx) (B:mK) (n2:Nat) (ht2:t2=.ptr n2 0)
  (hQ:∀ x s,aK s->Gw 33 6 0 s x (ps.map Sx.av)->s.h n2=some B->(∀ j∈aS x,j≠n2)->n2 < s.nx->yW Q x t2 s) :
  ∀ (m:Nat) (ex:Bool) (l:List (Int×Int)) (x:AV) (p:List Sx) (s:St),l.length<=m->p.length+l.length<=N->(∀ r∈l,ok r=true)->aK s->Gw 33 6 0 s x (p.map Sx.av)->s.h n2=some B->(∀ j∈aS x,j≠n2)->n2 < s.nx->ps=p++kL LT LG m l ->
   nA Q (m+1) (.sl ex (l.map cP)) t2 x s:=by
 intro m;have h24:(2:Nat) ^ 24=16777216:=rfl
 induction m with
 | zero =>intro ex l x p s hm hpl hok fr g h2 hd hn2 hps;show xP Q (nA Q 0) _ _ _ _;have:l=[]:=List.length_eq_zero_iff.1 (by omega);subst this;simp only [kL,m011] at hps;subst hps;simp only [xP,kI,List.map_nil,List.length_nil,show decide (((0:Nat):Int) > 0)=false from rfl,wx,wy,Z0,Z1,reduceCtorEq];exact hQ _ _ fr.adv g.adv (by simpa [adv_h] using h2) hd (by simp only [adv_nx];omega)
 | succ m ih =>
  intro ex l x p s hm hpl hok fr g h2 hd hn2 hps;show xP Q (nA Q (m+1)) _ _ _ _
  cases l with
  | nil =>simp only [kL,m011] at hps;subst hps;simp only [xP,kI,List.map_nil,List.length_nil,show decide (((0:Nat):Int) > 0)=false from rfl,wx,wy,Z0,Z1,reduceCtorEq];exact hQ _ _ fr.adv g.adv (by simpa [adv_h] using h2) hd (by simp only [adv_nx];omega)
  | cons r t =>
   have hpos:decide ((((r::t).map cP).length:Int) > 0)=true:=by simp
   simp only [xP,kI,hpos,wx,wy,Z0,Z1,reduceCtorEq];refine ⟨(r::t).length+1,bNf ex (r::t) (by omega) Q _ t2 x s (r::t).length 0 0 _ (by omega) fun c'=>?_⟩;rw [m023,m048];simp only [List.length_cons] at hm hpl;have b31:∀ v:Sx,fZ 31 1 [(0,v.av)]=some (.sl true [v.av]):=fun v=>eW nB (by decide) (eA v) (dD v);have hle:=WC (r::t) 0;unfold KH;by_cases h0:cN (r::t) 0=0
   ·have hnw:¬ (IntKind.i64.wrap (0+r.2)<=1000):=fun hc=>by
     simp only [cN,decide_eq_true hc,cond_true] at h0;omega
    have hix:cA 2 (.sl ex ((r::t).map cP)) (.int .i64 0)=some (.pel (cP r).cells 0):=bP iW ex (l:=r::t) (i:=0) rfl .i64;have hs1:∀ s,jM 25 (.sl ex ((r::t).map cP)) (some (.int .i64 1)) none none s=some (.sl ex (t.map cP)):=fun s=>OU aRk iW.len ex (r::t) (k:=1) (by simp) .i64;simp only [h0,wx,wy,Z0,Z1,reduceCtorEq,show (((0:Nat):Int)==0)=true from rfl,hix,lB];refine iL (hG r (hok r (m007 ..)) hnw) (by simp [cP,AV.closed,aW]) ?_;simp only [b31,wx,wy,Z0,Z1,reduceCtorEq];refine ⟨fr _ (by omega),?_⟩;rw [hI nB mY g.adv (by omega) (by omega)];simp only [hs1,wx,wy,Z0,Z1,reduceCtorEq];refine ⟨by simp only [clear,List.all_cons,List.all_nil,eD.apart,DF,pM,aIo,Nat.reduceShiftRight,Nat.reduceMod,m025,m027,Option.isNone_none,Option.isNone_some,decide_true,decide_false,Z1,Nat.zero_ne_one,wx,wy,Z0,Z1,reduceCtorEq],?_⟩;simp only [kL,h0,beq_self_eq_true,cond_true] at hps;refine ih ex t _ (p++[LG r]) _ (by omega) (by simp;omega) (fun r hr=>hok r (m005 _ hr)) (jH fr _ _ (by omega)) (mH mY) ?_ ?_ ?_ (by rw [hps];simp)
    ·rw [adv_h,aF (by omega),get_drop',if_neg (fun hh=>hd _ hh rfl)];exact h2
    ·intro j hj;simp only [aS,m013,m052,or_false] at hj;omega
    ·simp only [adv_nx,set_nx,nx_drop];omega
   ·generalize hk:cN (r::t) 0=k at *;have hne:((k:Int)==0)=false:=by simp;omega
    have hs1:∀ s,jM 25 (.sl ex ((r::t).map cP)) none (some (.int .i64 k)) none s=some (.sl (ex&&k==(r::t).length) (((r::t).take k).map cP)):=fun s=>LL aRk iW.len ex (r::t) hle .i64;have hs2:∀ s,jM 25 (.sl ex ((r::t).map cP)) (some (.int .i64 k)) none none s=some (.sl ex (((r::t).drop k).map cP)):=fun s=>OU aRk iW.len ex (r::t) hle .i64;simp only [hne,wx,wy,Z0,Z1,reduceCtorEq,hs1];have hcall:=hL (r::t) hok (by rw [hk];exact h0);rw [hk] at hcall;refine eR (args2:=[.sl false (((r::t).take k).map cP)]) (ids:=[]) ?_ hcall ?_
    ·obtain ⟨ids,e1,e2⟩:=bCc (s:=Ai.adv s (c'+12)) (ex:=(ex&&k==(r::t).length)) (k:=11) (kZ cP ((r::t).take k) fun _ _=>rfl);subst e2;simp only [dJ,e1,m011]
    ·simp only [List.isEmpty_nil,m033,if_true,jV,wx,wy,Z0,Z1,reduceCtorEq];have hst':∀ (v:Sx) (q:St) (i n:Nat),bQ 6 (.ptr i 0) v.av (Ai.adv (q.set i (some (.cells (AV.agg [.bool false,.int .i64 0,.str [],.int .i64 0,.int .i64 0,.nils]).cells 33 true true))) n)=some (Ai.adv (q.set i (some (.cells v.av.cells 33 true true))) n):=fun v q i n=>by rw [bJ (z:=6) (by rw [adv_h,aG]) rfl (eA v) (dD v),adv_set,set_set]
     simp only [hst',wx,wy,Z0,Z1,reduceCtorEq,ld_ptr,dR,b31];have e33:s.h (s.nx+(c'+9))=none:=fr _ (by omega);have gg:Gw 33 6 0 (Ai.adv (s.set (s.nx+(c'+9)) (some (.cells (LT ((r::t).take k)).av.cells 33 true true))) (c'+21)) x (p.map Sx.av):=by refine g.keep fun j hj=>?_;have:=g.id_lt fr j hj;rw [adv_h,aF (by omega)]
     refine ⟨fr _ (by omega),?_⟩;rw [hI nB mY gg (by omega) (by omega)];simp only [wx,wy,Z0,Z1,reduceCtorEq];refine ⟨by simp only [clear,List.all_cons,List.all_nil,eD.apart,DF,pM,aIo,Nat.reduceShiftRight,Nat.reduceMod,m025,m027,Option.isNone_none,Option.isNone_some,decide_true,decide_false,Z1,Nat.zero_ne_one,wx,wy,Z0,Z1,reduceCtorEq],?_⟩;simp only [hs2,wx,wy,Z0,Z1,reduceCtorEq];have hf:(k==0)=false:=by simpa using h0
     simp only [kL,hk,hf,cond_false] at hps;refine ih ex _ _ (p++[LT ((r::t).take k)]) _ (by simp;omega) (by simp;omega) (fun r hr=>hok r (List.mem_of_mem_drop hr)) ?_ (mH mY) ?_ ?_ ?_ (by rw [hps];simp)
     ·rw [<- adv_set];refine aK.set ?_ (by simp only [adv_nx,nx_drop,set_nx];omega);rw [<- adv_drop];exact PY (dP fr _ (by omega)) _
     ·rw [adv_h,aF (by omega),get_drop',if_neg (fun hh=>hd _ hh rfl),aF (by omega)];exact h2
     ·intro j hj;simp only [aS,m013,m052,or_false] at hj;omega
     ·simp only [adv_nx,set_nx,nx_drop];omega
end
mutual
def Sx.siz:Sx->Int
 | .mk _ _ _ _ _ items=>Sx.sizs items 1
def Sx.sizs:List Sx->Int->Int
 | [],n=>n
 | s::l,n=>Sx.sizs l (IntKind.i64.wrap (n+s.siz))
end
theorem qA (v:Sx) (q:St) (i n:Nat):bQ 6 (.ptr i 0) v.av (Ai.adv (q.set i (some (.cells (AV.agg [.bool false,.int .i64 0,.str [],.int .i64 0,.int .i64 0,.nils]).cells 33 true true))) n)=some (Ai.adv (q.set i (some (.cells v.av.cells 33 true true))) n):=by rw [bJ (z:=6) (by rw [adv_h,aG]) rfl (eA v) (dD v),adv_set,set_set]
theorem zX (v:Sx) (q:St) (i:Nat):bQ 6 (.ptr i 0) v.av (q.set i (some (.cells (AV.agg [.bool false,.int .i64 0,.str [],.int .i64 0,.int .i64 0,.nils]).cells 33 true true)))=some (q.set i (some (.cells v.av.cells 33 true true))):=by rw [bJ (z:=6) aG rfl (eA v) (dD v),set_set]
theorem bNi (items:List Sx) (hlen:items.length<=maxLen) (ih0:∀ s∈items,aU mEv 116 [s.av] (.int .i64 s.siz)) (Q:aC) (r:Int) (hQ:∀ s,Q (.int .i64 r) s) :
  ∀ (m i:Nat) (n:Int) (s:St),i+m=items.length->r=Sx.sizs (items.drop i) n->qR Q (m+1) (.int .i64 n) (.sl false (Sx.avs items)) (.int .i64 items.length) (.int .i64 i) s:=by
 intro m
 induction m with
 | zero =>intro i n s hi hr;show uH Q (qR Q 0) _ _ _ _ s;rw [m044 (by omega)] at hr;have hr:r=n:=hr;subst hr;simp only [uH,DB,tG,show ¬ (i < items.length) by omega,decide_false,wx,wy,Z0,Z1,reduceCtorEq];exact hQ _
 | succ m ih =>
  intro i n s hi hr;show uH Q (qR Q (m+1)) _ _ _ _ s;obtain ⟨y,hy⟩:∃ y,items[i]?=some y:=⟨_,m004 (by omega)⟩;have hlt:i < items.length:=by omega
  rw [cK items i y hy,Sx.sizs] at hr;simp only [uH,tG,hlt,decide_true,aNh false items i y hy,dR,jV,qA,wx,wy,Z0,Z1,reduceCtorEq,if_true];refine aM (ih0 y (m017 hy)) (by simp [cZ]) ?_;simp only [RX,wx,wy,Z0,Z1,reduceCtorEq];rw [cF i _ hlt hlen];exact ih (i+1) _ _ (by omega) hr
theorem bMx:∀ (x:Sx),x.ok=true->aU mEv 116 [x.av] (.int .i64 x.siz):=by refine fun x=>RQ (p:=fun x=>x.ok=true->aU mEv 116 [x.av] (.int .i64 x.siz)) (fun l k x p a items ih hok=>?_) x;obtain ⟨h1,h2⟩:=LO hok;refine bI rfl (aLl _ _ ?_);unfold f116;refine ⟨dD _,?_⟩;simp only [qX,zB,lQ,wx,wy,Z0,Z1,reduceCtorEq];exact ⟨items.length+1,bNi items h1 (fun s hs=>ih s hs (h2 s hs)) _ _ (fun _=>rfl) items.length 0 1 _ (by omega) rfl⟩
def DA:List UInt8:=[115,116,114,46,43,43]
def EE (ps:List Sx):Sx×Int:=cond (ps.length==0) (kX 6 [],0) (cond (decide ((ps.length:Int) > 200)) (bR,2) (match ps with
 | [p]=>(p,0)
 | _=>cond (decide ((jP DA ps).siz > 2000)) (bR,2) (jP DA ps,0)))
theorem aNd {nm:List UInt8} {l:List Sx} (h1:nm.length<=maxLen) (h2:l.length+1<=maxLen) (h:∀ x∈l,x.ok=true):(jP nm l).ok=true:=by
 have hl:Sx.oks l=true:=by
  clear h2
  induction l with
  | nil=>rfl
  | cons a l ih=>simp only [Sx.oks,h a (m007 ..),ih fun x hx=>h x (m005 _ hx),gA]
 have h0:sM 0=true:=by decide
 have h3:sM 3=true:=by decide
 simp [jP,kX,Sx.ok,Sx.oks,hl,h0,h3,h1,h2]
theorem j61 (ps:List Sx) (hok:∀ p∈ps,p.ok=true) (hps:ps.length<=2 ^ 20) (n2:Nat) (x:AV) (s:St) (fr:aK s) (g:Gw 33 6 0 s x (ps.map Sx.av)) (h2:s.h n2=some (.cells bV.cells 33 true true)) (hd:∀ j∈aS x,j≠n2) (hn2:n2 < s.nx) :
  yW (cU (.tup [(EE ps).1.av,.int .i64 (EE ps).2])) x (.ptr n2 0) s:=by
 have h20:(2:Nat) ^ 20=1048576:=rfl;have hl31:=fun n k=>bJc (g.adv (n:=n)) k;simp only [m002] at hl31;have hfin:∀ (v:Sx) (e:Int) (q:St) (n:Nat),cU (.tup [v.av,.int .i64 e]) (.tup [v.av,.int .i64 e]) q:=fun v e q n=>aI (by simp only [AV.closed,aW,cZ v,gA]);have hzb:eE 33 []=some bV:=by rw [aYr];rfl
 have hzq:∀ q,cU (.tup [bR.av,.int .i64 2]) (.tup [bV,.int .i64 2]) q:=fun q=>⟨[],rfl⟩;have hstz:∀ n,bQ 6 (.ptr n2 0) bV (Ai.adv s n)=some (Ai.adv (s.set n2 (some (.cells bV.cells 33 true true))) n):=fun n=>bJ (z:=6) (by rw [adv_h];exact h2) rfl rfl rfl;have hsto:∀ (v:Sx) n,bQ 6 (.ptr n2 0) v.av (Ai.adv s n)=some (Ai.adv (s.set n2 (some (.cells v.av.cells 33 true true))) n):=fun v n=>bJ (z:=6) (by rw [adv_h];exact h2) rfl (eA v) (dD v);have hpz:Ai.part 6 true 0 bV.cells=some bV:=rfl;unfold yW;simp only [hl31,wx,wy,Z0,Z1,reduceCtorEq]
 cases h0:(ps.length==0) with
 | true =>
  have e:EE ps=(kX 6 [],0):=by simp only [EE,h0,cond_true]
  have h0':(((ps.length:Nat):Int)==0)=true:=by simpa using h0
  simp only [h0',wx,wy,Z0,Z1,reduceCtorEq];refine aM (c58 6 []) (by simp [AV.closed]) ?_;simp only [hsto,wx,wy,Z0,Z1,reduceCtorEq,if_true,dR,e];exact hfin _ _ _ 0
 | false =>
  have h0':(((ps.length:Nat):Int)==0)=false:=by simpa using h0
  simp only [h0',wx,wy,Z0,Z1,reduceCtorEq]
  cases h1:decide ((ps.length:Int) > 200) with
  | true =>
   have h1':=h1;have e:EE ps=(bR,2):=by simp only [EE,h0,h1,cond_true,cond_false]
   simp only [h1',hzb,hstz,hpz,e,if_true,wx,wy,Z0,Z1,reduceCtorEq];exact hzq _
  | false =>
   have h1':=h1;simp only [h1',wx,wy,Z0,Z1,reduceCtorEq]
   match ps,h0,h1,g,hl31,hok,hps with
   | [p],h0,h1,g,hl31,hok,hps =>
    have e:EE [p]=(p,0):=rfl;obtain ⟨_,⟨_,hbad⟩ | ⟨b,_,rfl,hb⟩⟩:=id g
    ·simp at hbad
    ·have hix:cA 6 (.ref b 0 ([p].map Sx.av).length none 33) (.int .i64 0)=some (.ptr b 0):=rfl;have hpt:Ai.part 6 true 0 (([p].map Sx.av).flatMap AV.cells)=some p.av:=by simp only [m039,List.map_nil,m024,List.flatMap_nil,m011,dR]
     simp only [show ((([p]:List Sx).length:Int)==1)=true from rfl,hix,hb,hpt,hsto,e,dR,if_true,wx,wy,Z0,Z1,reduceCtorEq];exact hfin _ _ _ 0
   | p::q::ps,h0,h1,g,hl31,hok,hps =>
    have hne:((((p::q::ps).length:Nat):Int)==1)=false:=by simp;omega
    simp only [hne,aGh,wx,wy,Z0,Z1,reduceCtorEq];refine c57 (l:=p::q::ps) (M:=aS x) (by omega) fr.adv (fun s' hE=>?_) g.one.1 g.one.2 fun s' hE=>?_
    ·have g':Gw 33 6 0 s' x ((p::q::ps).map Sx.av):=(g.adv).ext fr.adv hE (fun _ _ h=>by cases h);obtain ⟨ids,h3,h4⟩:=uB nB g' (fun a _=>cZ a) (fun a _=>by cases a;rfl) 11;subst h4;exact ⟨_,h3,fun i hi=>⟨hi,by have:=g.id_lt fr i hi;simp only [adv_nx];omega⟩⟩
    ·have h2':s'.h n2=some (.cells bV.cells 33 true true):=by
      rw [hE.h n2 (by simp only [adv_nx];omega) (fun hh=>hd _ hh rfl)];exact h2
     have hnx:=hE.nx;simp only [adv_nx] at hnx;have hls:(jP DA (p::q::ps)).ok=true:=aNd (by decide) (by have:maxLen=9223372036854775807:=rfl;simp only [List.length_cons] at hps ⊢;omega) hok;have ne1:∀ k,k < 16->((n2=s.nx+k)=False):=fun k _=>by simp;omega
     have hpp:DA=[115,116,114,46,43,43]:=rfl;simp only [hpp] at hls;have e:EE (p::q::ps)=cond (decide ((jP DA (p::q::ps)).siz > 2000)) (bR,2) (jP DA (p::q::ps),0):=by simp only [EE,h0,h1,cond_false]
     have hst2:∀ (v:AV) (N n k:Nat) (B:mK),v.cells.length=6->v.cells.all AV.one=true->N≠n2->bQ 6 (.ptr n2 0) v (Ai.adv (s'.set N (some B)) n)=some (Ai.adv ((s'.set N (some B)).set n2 (some (.cells v.cells 33 true true))) n):=fun v N n k B e1 e2 hN =>
      bJ (z:=6) (by rw [adv_h,aF (fun h=>hN h.symm)];exact h2') rfl e1 e2
     simp only [jV,zX,dR,if_true,wx,wy,Z0,Z1,reduceCtorEq];refine aM (bMx _ hls) (by simp [cZ]) ?_;rw [e]
     cases h4:decide ((jP DA (p::q::ps)).siz > 2000) with
     | true =>simp only [<- hpp,h4,hzb,wx,wy,Z0,Z1,reduceCtorEq];rw [hst2 _ _ _ 0 _ rfl rfl (by omega)];simp only [hpz,wx,wy,Z0,Z1,reduceCtorEq];exact hzq _
     | false =>simp only [<- hpp,h4,dR,if_true,wx,wy,Z0,Z1,reduceCtorEq];rw [hst2 _ _ _ 0 _ (eA _) (dD _) (by omega)];simp only [dR,wx,wy,Z0,Z1,reduceCtorEq];exact hfin _ _ _ 0
theorem c61 (LT:List (Int×Int)->Sx) (LG:Int×Int->Sx) (ok:Int×Int->Bool) (hL:∀ (l:List (Int×Int)),(∀ r∈l,ok r=true)->cN l 0≠0->aU mEv 115 [.sl false ((l.take (cN l 0)).map cP)] (.tup [(LT (l.take (cN l 0))).av,.int .i64 0]))
  (hG:∀ r,ok r=true->¬ (IntKind.i64.wrap (0+r.2)<=1000)->aU mEv 114 [cP r] (LG r).av) (l:List (Int×Int)) (hok:∀ p∈kL LT LG l.length l,p.ok=true) (hl:∀ r∈l,ok r=true) (hlen:l.length<=2 ^ 20) :
  aU mEv 61 [.sl false (l.map cP)] (.tup [(EE (kL LT LG l.length l)).1.av,.int .i64 (EE (kL LT LG l.length l)).2]):=by
 refine bC (aPv _ _ ?_);have h20:(2:Nat) ^ 20=1048576:=rfl;have h24:(2:Nat) ^ 24=16777216:=rfl
 have hgo:∀ n (l:List (Int×Int)),(kL LT LG n l).length<=n:=by
  intro n
  induction n with
  | zero=>intro l;simp [kL]
  | succ n ih =>
   intro l
   cases l with
   | nil=>simp [kL]
   | cons r t =>
    simp only [kL];cases (cN (r::t) 0==0)
    ·simp only [cond_false,List.length_cons];have:=ih ((r::t).drop (cN (r::t) 0));omega
    ·simp only [cond_true,List.length_cons];have:=ih t;omega
 unfold f61;simp only [jV,wx,wy,Z0,Z1,reduceCtorEq];refine ⟨l.length+1,bNt LT LG _ ok hL hG _ (2 ^ 24) (by omega) (kL LT LG l.length l) (.cells bV.cells 33 true true) St.empty.nx rfl (fun x s fr g h2 hd hn2=>j61 _ hok (by have:=hgo l.length l;omega) _ x s fr g h2 hd hn2) l.length false l .nils [] _ (by omega) (by simp;omega) hl ?_ fA ?_ (fun j hj=>by cases hj) (by decide) rfl⟩
 ·exact dP bU _ (by omega)
 ·rw [adv_h,aG];rfl
def cC (a:List (Int×Int)):List Int:=a.flatMap fun r=>List.replicate r.2.toNat r.1
def cV (r:Int×Int):Bool:=gJ r.1&&decide (1<=r.2)&&decide (r.2<=2 ^ 40)
def dS:List (Int×Int)->Int
 | []=>0
 | r::l=>r.2+dS l
theorem DN:∀ (l:List (Int×Int)),(∀ r∈l,cV r=true)->0<=dS l:=by
 intro l
 induction l with
 | nil=>intro _;exact Int.le_refl 0
 | cons r l ih =>intro h;have h1:=h r (m007 ..);simp only [cV,bN,decide_eq_true_eq] at h1;have:=ih fun x hx=>h x (m005 _ hx);simp only [dS];omega
theorem QM:∀ (l:List (Int×Int)) (n:Int),(∀ r∈l,cV r=true)->0<=n->n<=1000->n+dS (l.take (cN l n))<=1000:=by
 intro l
 induction l with
 | nil=>intro n _ _ h;simpa [cN,dS] using h
 | cons r l ih =>
  intro n h h0 h1;have hr:=h r (m007 ..);simp only [cV,bN,decide_eq_true_eq] at hr;have hw:IntKind.i64.wrap (n+r.2)=n+r.2:=IntWalk.i64_in _ (by omega);simp only [cN,hw]
  cases hd:decide (n+r.2<=1000) with
  | true =>have:=ih (n+r.2) (fun x hx=>h x (m005 _ hx)) (by omega) (of_decide_eq_true hd);simp only [cond_true,List.take_succ_cons,dS];omega
  | false=>simp only [cond_false,List.take_zero,dS];omega
theorem EV:∀ (a:List (Int×Int)) (out:List Int),(∀ r∈a,cV r=true)->(out.length:Int)+dS a<=1000->lS 1000 a out=some (out++cC a):=by
 intro a
 induction a with
 | nil=>intro out _ _;simp [lS,cC]
 | cons r a ih =>
  intro out h hs;have hr:=h r (m007 ..);simp only [cV,bN,decide_eq_true_eq] at hr;have hp:=DN a fun x hx=>h x (m005 _ hx);simp only [dS] at hs;have hw:IntKind.i64.wrap (1000 - (out.length:Int))=1000 - out.length:=IntWalk.i64_in _ (by omega);have hd:decide (r.2 > 1000 - (out.length:Int))=false:=by simp;omega
  simp only [lS,hw,hd,cond_false];rw [ih _ (fun x hx=>h x (m005 _ hx)) (by simp;omega)];simp [cC]
theorem lZ (a:List (Int×Int)) (h:∀ r∈a,cV r=true):((cC a).length:Int)=dS a:=by
 induction a with
 | nil=>rfl
 | cons r a ih =>have hr:=h r (m007 ..);simp only [cV,bN,decide_eq_true_eq] at hr;have:=ih fun x hx=>h x (m005 _ hx);simp only [cC,m024,m006,List.length_replicate,dS] at this ⊢;omega
theorem RH (l:List (Int×Int)) (h:∀ r∈l,cV r=true):jQ (l.take (cN l 0)) 1000=(cC (l.take (cN l 0)),0)/\(cC (l.take (cN l 0))).length<=1000:=by
 have ht:∀ r∈l.take (cN l 0),cV r=true:=fun r hr=>h r (List.mem_of_mem_take hr);have hs:=QM l 0 h (by omega) (by omega);have hb:(l.take (cN l 0)).any wH=false:=by rw [List.any_eq_false];intro r hr;have:=ht r hr;simp only [cV,bN,decide_eq_true_eq] at this;simp [wH,this.1.1];omega
 have he:=lZ _ ht;refine ⟨?_,by omega⟩;simp only [jQ,hb,cond_false];rw [EV _ [] ht (by simp;omega)];rfl
end
noncomputable section
def sZ (c:Int):List UInt8:=bif NU c then [mT c] else [92,117,123]++zN c.toNat++[125]
def jY (l:List Int):List UInt8:=l.flatMap sZ
theorem rV (f:Nat):∀ (n:Nat) (acc:List UInt8),(nK f n acc).length<=f+1+acc.length:=by
 induction f with
 | zero=>intro n acc;simp [nK];omega
 | succ f ih =>
  intro n acc;simp only [nK]
  cases Nat.ble 16 n with
  | true=>have:=ih (n / 16) (BY n::acc);simp only [cond_true];rw [List.length_cons] at this;omega
  | false=>simp only [cond_false,List.length_cons];omega
theorem aIr (c:Int):(sZ c).length<=21:=by
 unfold sZ
 cases NU c with
 | true=>simp
 | false =>have:=rV 16 c.toNat [];simp only [cond_false,m006,List.length_cons,List.length_nil,zN] at this ⊢;omega
theorem vN (l:List Int):(jY l).length<=21 * l.length:=by
 induction l with
 | nil=>exact bH _
 | cons c l ih =>have:=aIr c;have e:jY (c::l)=sZ c++jY l:=rfl;rw [e,m006,List.length_cons];omega
theorem bLi (ex:Bool) (l:List Int) (hl:l.length<=1000) (ha:∀ c∈l,gJ c=true) (Q:aC) (lo id:Nat) (hQ:∀ s,Q (.tup [.str (jY l),.int .i64 0]) s) :
  ∀ (m i:Nat) (s:St),i+m=l.length->aK s->lo<=s.nx->Bd lo s id (jY (l.take i))->jI Q (m+1) (.ptr id 0) (.sl ex (l.map dH)) (.int .i64 l.length) (.int .i64 i) s:=by
 intro m
 induction m with
 | zero =>intro i s hi fr hlo hb;show kY Q (jI Q 0) _ _ _ _ s;rw [m014 (by omega)] at hb;have:=vN l;simp only [kY,xR,tG,show ¬ (i < l.length) by omega,decide_false,wx,wy,Z0,Z1,reduceCtorEq];exact bEv hb.adv fr.adv (by omega) fun s'=>hQ s'
 | succ m ihm =>
  intro i s hi fr hlo hb;obtain ⟨c,hc⟩:∃ c,l[i]?=some c:=⟨_,m004 (by omega)⟩;have hix:=aKx ex l i c hc;have hlt:i < l.length:=by omega
  have hpt:=ha c (m017 hc);have hln:(jY (l.take i)).length<=21 * 1000:=by have:=vN (l.take i);rw [m020] at this;omega
  have e:jY (l.take (i+1))=jY (l.take i)++sZ c:=by rw [m062,hc];simp [jY]
  have hj:∀ s,aK s->lo<=s.nx->Bd lo s id (jY (l.take i)++sZ c)->tU Q (jI Q (m+1)) (.int .i64 i) (.ptr id 0) (.sl ex (l.map dH)) (.int .i64 l.length) s:=by intro s fr hlo hb;unfold tU;simp only [wx,wy,Z0,Z1,reduceCtorEq];rw [cF i _ hlt (by have:maxLen=9223372036854775807:=rfl;omega)];exact ihm (i+1) _ (by omega) fr.adv (by simp only [adv_nx];omega) (by rw [e];exact hb.adv)
  show kY Q (jI Q (m+1)) _ _ _ _ s;simp only [kY,tG,hlt,decide_true,hix,wx,wy,Z0,Z1,reduceCtorEq];refine aM (aKz c) (by simp [AV.closed]) ?_
  cases hac:NU c with
  | true =>
   have hby:=JY hac;have hac':=hac;simp only [NU,bN] at hac';obtain ⟨a1,a2,a3⟩:=hac';have ee:sZ c=[mT c]:=by simp [sZ,hac]
   rw [ee] at hj;simp only [hpt,a1,a2,a3,bBq,hby,wx,wy,Z0,Z1,reduceCtorEq];refine wb hb.adv (fr.adv) (by simp only [adv_nx];omega) (by omega) fun s' hb' hk=>?_;obtain ⟨k1,k2,k3⟩:=hk;simp only [adv_nx] at k1;exact hj _ k2 (by omega) hb'
  | false =>
   have ee:sZ c=[92,117,123]++zN c.toNat++[125]:=by simp [sZ,hac]
   rw [ee] at hj;have hpt':=hpt;simp only [gJ,bN,decide_eq_true_eq] at hpt';have hc0:c=((c.toNat:Nat):Int):=by omega
   have hfi:=bMo c.toNat (by omega);rw [<- hc0] at hfi;have hxl:(zN c.toNat).length<=17:=by have:=rV 16 c.toNat [];exact this
   have hk:∀ s,aK s->lo<=s.nx->Bd lo s id (jY (l.take i))->aE mEv 207 [.int .i64 c,.int .i64 16] s fun t14 s7=>aA (bn .add 9 (.str [92,117,123]) t14) fun t15=>aA (bn .add 9 t15 (.str [125])) fun t16=>aY mEv 156 [.ptr id 0,t16] s7 fun t17 s8=>tU Q (jI Q (m+1)) (.int .i64 i) (.ptr id 0) (.sl ex (l.map dH)) (.int .i64 l.length) s8:=by intro s fr hlo hb;refine aM hfi (by simp [AV.closed]) ?_;rw [eJ (by simp only [List.length_cons,List.length_nil];omega)];simp only [Bnd_some];rw [eJ (by simp only [m006,List.length_cons,List.length_nil];omega)];simp only [Bnd_some];refine ws hb fr hlo (by simp only [m006,List.length_cons,List.length_nil];omega) fun s' hb' hk=>?_;obtain ⟨k1,k2,k3⟩:=hk;exact hj _ k2 (by omega) hb'
   simp only [NU,Bool.and_eq_false_iff] at hac
   cases a1:decide (c >= 32) with
   | false =>simp only [hpt,a1,wx,wy,Z0,Z1,reduceCtorEq];exact hk _ fr.adv (by simp only [adv_nx];omega) hb.adv
   | true =>
    cases a2:decide (c<=126) with
    | false =>simp only [hpt,a1,a2,wx,wy,Z0,Z1,reduceCtorEq];exact hk _ fr.adv (by simp only [adv_nx];omega) hb.adv
    | true =>
     have a3:(c != 92)=false:=by rw [a1,a2] at hac;simpa using hac
     simp only [hpt,a1,a2,a3,wx,wy,Z0,Z1,reduceCtorEq];exact hk _ fr.adv (by simp only [adv_nx];omega) hb.adv
theorem bFu (ex:Bool) (l:List Int) (hl:l.length<=1000) (ha:∀ c∈l,gJ c=true):aU mEv 167 [.sl ex (l.map dH)] (.tup [.str (jY l),.int .i64 0]):=by refine bI rfl (OM _ _ ?_);unfold f167;simp only [aXg,aOb,m002,Bnd_some];refine ⟨l.length+1,?_⟩;refine bLi ex l hl ha _ 3 2 (fun _=>rfl) l.length 0 _ (by omega) ((bU.adv.set (by decide)).adv) (by decide) ?_;exact ⟨by decide,.nilp,.nils,.inl rfl,by rw [adv_h];exact aG,fA,fun _=>rfl⟩
theorem GH (l:List (Int×Int)) (h:∀ r∈l,cV r=true):∀ c∈cC l,gJ c=true:=by intro c hc;unfold cC at hc;obtain ⟨r,hr,hc⟩:=List.mem_flatMap.1 hc;have h1:=h r hr;have h2:=(List.mem_replicate.1 hc).2;simp only [cV,bN] at h1;rw [h2];exact h1.1.1
theorem bGz (ex:Bool) (l:List (Int×Int)) (hcl:(AV.sl ex (l.map cP)).closed=true) (hlen:l.length<=maxLen) (out:List Int) (hm:jQ l 1000=(out,0)) (hl:out.length<=1000) (ha:∀ c∈out,gJ c=true) :
  aU mEv 115 [.sl ex (l.map cP)] (.tup [(kX 6 (jY out)).av,.int .i64 0]):=by
 refine bI rfl (DV _ _ ?_);unfold f115;simp only [aBx,Bnd_some];have h1:=bDd ex l hlen 1000 (by omega) (by omega);rw [hm] at h1;have hcl2:(AV.sl false (out.map dH)).closed=true:=by simp only [AV.closed,m027,m031];exact iG _ _ fun _=>rfl
 refine aM h1 (by simp only [m013,m052,or_false,forall_eq_or_imp,forall_eq];exact ⟨hcl,rfl⟩) ?_;simp only [RE,GE,wx,wy,Z0,Z1,reduceCtorEq,show ((0:Int) != 0)=false from rfl];refine aM (bFu false out hl ha) (by simp only [m013,m052,or_false,forall_eq];exact hcl2) ?_;simp only [wx,wy,Z0,Z1,reduceCtorEq];refine aM (c58 6 (jY out)) (by simp [AV.closed]) ?_;rw [BC (by simp only [adv_h,aG]) 6 (jY out) (.inr rfl)];simp only [Bnd_some];rw [aG];rfl
end
noncomputable section
theorem bOh (s:St) (k:IntKind) (n:Int) (f:FuncId):rch s [.fn f [] [],.int k n]=[]:=rfl
def flt (l:List Sx):List AV:=(l.map Sx.av).flatMap AV.cells
theorem bBd (y:Sx):AV.agg y.av.cells=y.av:=by cases y;rfl
structure LgI (s:St) (p1 p2 n6:Nat) (r:Int×Int) (y:Sx):Prop where
 fr:aK s
 h1:s.h p1=some (.cells (cP r).cells 109 true true)
 h2:s.h p2=some (.cells bV.cells 33 true true)
 h6:s.h n6=some (.cells y.av.cells 33 true true)
 n1:n6≠p1
 n2:n6≠p2
theorem oP {s:St} {i:Nat} {b:mK} (fr:aK s) (h:s.h i=some b):i < s.nx:=by
 by_cases hc:i < s.nx
 ·exact hc
 ·rw [fr i (by omega)] at h;cases h
theorem LgI.ext {s s':St} {p1 p2 n6:Nat} {r:Int×Int} {y:Sx} (h:LgI s p1 p2 n6 r y) (he:EF [] s s'):LgI s' p1 p2 n6 r y :=
 ⟨he.fr,by rw [he.h _ (oP h.fr h.h1) (by simp)];exact h.h1,by rw [he.h _ (oP h.fr h.h2) (by simp)];exact h.h2,by rw [he.h _ (oP h.fr h.h6) (by simp)];exact h.h6,h.n1,h.n2⟩
theorem LgI.step {s s':St} {p1 p2 n6:Nat} {r:Int×Int} {y y':Sx} (h:LgI s p1 p2 n6 r y) (he:EF [n6] s s') (h6:s'.h n6=some (.cells y'.av.cells 33 true true)):LgI s' p1 p2 n6 r y' :=
 ⟨he.fr,by rw [he.h _ (oP h.fr h.h1) (by simp [h.n1.symm])];exact h.h1,by rw [he.h _ (oP h.fr h.h2) (by simp [h.n2.symm])];exact h.h2,h6,h.n1,h.n2⟩
end
noncomputable section
theorem z54:iZ 54 [.int .i64 (-5)]=some (.agg [.bool true,.sl false [.int .u32 5]]):=by kernel_rfl
def OJ (so:Int) (b neg:Bool) (n:List AV) (l:List AV):AV:=.agg [.int .i64 so,.bool b,.bool neg,.sl false n,.sl false l]
def EQ:AV:=.agg [.bool true,.int .i64 0,.str [],.int .i64 0,.int .i64 0,.sl false [.agg [.bool false,.int .i64 3,.str [45],.int .i64 0,.int .i64 0,.sl false []],.agg [.bool false,.int .i64 4,.str [53],.int .i64 0,.int .i64 0,.sl false []]]]
theorem bMj:iZ 16 [OJ 2 false true [.int .u32 5] []]=some (.tup [EQ,.int .i64 0]):=by kernel_rfl
theorem r55:iZ 55 [EQ]=some (.tup [.str [40,45,32,53,41],.int .i64 0]):=by kernel_rfl
theorem r60:iZ 60 [.sl false [cP (97,1000),cP (98,1)]]=some (.bool true):=by kernel_rfl
theorem HF:iZ 22 [.int .i64 22]=some (.str [115,116,114,46,43,43]):=by kernel_rfl
noncomputable def chk:Option AV->Bool
 | some (.tup [.agg cs,.int .i64 0])=>aW cs&&(cs.length==6)&&cs.all AV.one&&(match iZ 21 [.agg cs] with
  | some (.int .i64 13)=>true
  | _=>false)
 | _=>false
theorem bNz:chk (iZ 16 [OJ 3 false false [] [cP (97,1001)]])=true:=by kernel_rfl
theorem bNq:∃ cs,aU mEv 16 [OJ 3 false false [] [cP (97,1001)]] (.tup [.agg cs,.int .i64 0])/\aW cs=true/\cs.length=6/\cs.all AV.one=true/\aU mEv 21 [.agg cs] (.int .i64 13):=by
 have h:=bNz;unfold chk at h
 split at h
 ·rename_i cs hr;simp only [bN,beq_iff_eq] at h;obtain ⟨⟨⟨h1,h2⟩,h3⟩,h4⟩:=h;refine ⟨cs,mS hr,h1,h2,h3,?_⟩
  split at h4
  ·rename_i hr2;exact mS hr2
  ·cases h4
 ·cases h
end
noncomputable section
def uP (a:List (Int×Int)):Sx:=kX 6 ((cC a).map mT)
theorem t61:aU mEv 61 [.sl false ([(97,1000),(98,1)].map cP)] (.tup [(jP DA [uP [(97,1000)],uP [(98,1)]]).av,.int .i64 0]):=by
 refine c61 uP (fun _=>bR) (fun r=>NU r.1&&cV r&&decide (r.2<=1000)) (fun l hl hg=>?_) (fun r hr hn=>?_) [(97,1000),(98,1)] (fun p hp=>?_) (by decide) (by decide)
 ·have hok:∀ r∈l,cV r=true:=fun r hr=>by have:=hl r hr;simp only [bN] at this;exact this.1.2
  obtain ⟨h1,h2⟩:=RH l hok;refine bPu false _ (cJ cP _ fun _ _=>rfl) ?_ _ h1 h2 fun c hc=>?_
  ·have:∀ (a:List (Int×Int)),(∀ r∈a,cV r=true)->a.length<=(cC a).length:=by
    intro a
    induction a with
    | nil=>intro _;simp
    | cons r a ih =>intro h;have hr:=h r (m007 ..);simp only [cV,bN,decide_eq_true_eq] at hr;have:=ih fun x hx=>h x (m005 _ hx);simp only [cC,m024,m006,List.length_replicate,List.length_cons] at this ⊢;omega
   have hm:maxLen=9223372036854775807:=rfl;have:=this (l.take (cN l 0)) fun r hr=>hok r (List.mem_of_mem_take hr);omega
  ·obtain ⟨r,hr,hc⟩:=List.mem_flatMap.1 hc;obtain ⟨_,rfl⟩:=List.mem_replicate.1 hc;have:=hl r (List.mem_of_mem_take hr);simp only [bN] at this;exact this.1.1
 ·simp only [bN,decide_eq_true_eq,cV] at hr;exfalso;apply hn;rw [Int.zero_add,IntWalk.i64_in _ (by omega)];omega
 ·have:kL uP (fun _=>bR) [((97:Int),(1000:Int)),(98,1)].length [(97,1000),(98,1)]=[uP [(97,1000)],uP [(98,1)]]:=rfl;rw [this] at hp;simp only [m013,m052,or_false] at hp;have h0:sM 0=true:=by decide
  have h6:sM 6=true:=by decide
  rcases hp with rfl | rfl
  ·have:((cC [((97:Int),(1000:Int))]).map mT).length=1000:=by simp [cC]
   simp [uP,kX,Sx.ok,Sx.oks,h0,h6,cC,maxLen]
  ·simp [uP,kX,Sx.ok,Sx.oks,h0,h6,cC,maxLen]
def xb:Sx:=jP DA [uP [(97,1000)],uP [(98,1)]]
theorem bOy:aU mEv 16 [OJ 3 false false [] [cP (97,1000),cP (98,1)]] (.tup [xb.av,.int .i64 0]):=by refine bC (aPq _ _ ?_);unfold f16;refine ⟨rfl,?_⟩;have hc:(OJ 3 false false [] [cP (97,1000),cP (98,1)]).cells=[.int .i64 3,.bool false,.bool false,.sl false [],.sl false [cP (97,1000),cP (98,1)]]:=rfl;simp only [jV,hc,wx,wy,Z0,Z1,reduceCtorEq,show ((3:Int)==1)=false from rfl,show ((3:Int)==2)=false from rfl,show ((3:Int)==3)=true from rfl];refine aM (mS r60) (by simp [AV.closed,aW,cP]) ?_;simp only [wx,wy,Z0,Z1,reduceCtorEq];refine aM t61 (by simp [AV.closed,aW,cP]) ?_;simp only [qA,dR,if_true,wx,wy,Z0,Z1,reduceCtorEq];exact aI (by simp only [AV.closed,aW,cZ xb,gA])
theorem aUc:aU mEv 15 [] (.bool true):=by
 obtain ⟨cs,q1,q2,q3,q4,q5⟩:=bNq;refine bC (aUg _ ?_);unfold f15;refine aM (mS z54) (by simp [AV.closed]) ?_;have b1:eE 27 [(0,.int .i64 2),(2,.agg [.bool true,.sl false [.int .u32 5]])]=some (.agg [.int .i64 2,.bool false,.bool true,.sl false [.int .u32 5],.nils]):=by rw [bKt];rfl
 have b2:fZ 25 2 [(0,cP (97,1000)),(1,cP (98,1))]=some (.sl true [cP (97,1000),cP (98,1)]):=by kernel_rfl
 have b3:fZ 25 1 [(0,cP (97,1001))]=some (.sl true [cP (97,1001)]):=by kernel_rfl
 have b4:∀ l,eE 27 [(0,.int .i64 3),(3,.sl true l)]=some (.agg [.int .i64 3,.bool false,.bool false,.nils,.sl true l]):=fun l=>by rw [bKt];rfl
 have b5:∀ a b:Int,eE 109 [(0,.int .i64 a),(1,.int .i64 b)]=some (cP (a,b)):=fun a b=>by rw [bHp];rfl
 simp only [b1,wx,wy,Z0,Z1,reduceCtorEq];refine eR (args2:=[OJ 2 false true [.int .u32 5] []]) (ids:=[]) rfl (mS bMj) ?_;have st1:∀ (v:AV) (q:St) (i n:Nat),v.cells.length=6->v.cells.all AV.one=true->bQ 6 (.ptr i 0) v (Ai.adv (q.set i (some (.cells (AV.agg [.bool false,.int .i64 0,.str [],.int .i64 0,.int .i64 0,.nils]).cells 33 true true))) n)=some (Ai.adv (q.set i (some (.cells v.cells 33 true true))) n):=fun v q i n e1 e2=>by rw [bJ (z:=6) (by rw [adv_h,aG]) rfl e1 e2,adv_set,set_set]
 have p1:Ai.part 6 true 0 EQ.cells=some EQ:=rfl;simp only [List.isEmpty_nil,m033,if_true,wx,wy,Z0,Z1,reduceCtorEq,jV];rw [st1 _ _ _ _ rfl rfl];simp only [wx,wy,Z0,Z1,reduceCtorEq,if_true,p1];refine aM (mS r55) (by simp [AV.closed,aW,EQ]) ?_;simp only [wx,wy,Z0,Z1,reduceCtorEq,b5,b2,b4];refine eR (args2:=[OJ 3 false false [] [cP (97,1000),cP (98,1)]]) (ids:=[]) rfl bOy ?_;simp only [List.isEmpty_nil,m033,if_true,wx,wy,Z0,Z1,reduceCtorEq,jV];rw [st1 _ _ _ _ (eA _) (dD _)];simp only [wx,wy,Z0,Z1,reduceCtorEq,b5,b3,b4];refine eR (args2:=[OJ 3 false false [] [cP (97,1001)]]) (ids:=[]) rfl q1 ?_;simp only [List.isEmpty_nil,m033,if_true,wx,wy,Z0,Z1,reduceCtorEq,jV];rw [st1 (.agg cs) _ _ _ q3 q4];have e0:((0:Int)==0)=true:=rfl;have hx5:xb.av.cells[5]?=some (.sl false (Sx.avs [kX 3 DA,uP [(97,1000)],uP [(98,1)]])):=rfl;have hl3:((Sx.avs [kX 3 DA,uP [(97,1000)],uP [(98,1)]]).length:Int)=3:=rfl;have p2:Ai.part 6 true 0 cs=some (.agg cs):=by simp only [CN,q3,m048,m023,bH,if_true];rw [m014 (by omega)]
 simp only [wx,wy,Z0,Z1,reduceCtorEq,e0,show (([40,45,32,53,41]:List UInt8)==[40,45,32,53,41])=true from rfl,hx5,zB,hl3,if_true,show ((3:Int)==3)=true from rfl,show (AV.agg cs).cells=cs from rfl,p2];refine aM q5 (by simp [AV.closed,q2]) ?_;simp only [wx,wy,Z0,Z1,reduceCtorEq,show ((13:Int)==13)=true from rfl];refine aM (mS HF) (by simp [AV.closed]) ?_;simp only [wx,wy,Z0,Z1,reduceCtorEq,show (([115,116,114,46,43,43]:List UInt8)==[115,116,114,46,43,43])=true from rfl];exact aI rfl
end
noncomputable section
theorem bBy:∀ (l:List (Int×Int)) (left:Int) (p:Option Int),0<=left->left<=2 ^ 40->nR left p l=true->(∀ r∈l,cV r=true)/\dS l<=left:=by
 intro l
 induction l with
 | nil=>intro left p h0 h1 _;exact ⟨fun r h=>(by cases h),h0⟩
 | cons r l ih =>
  intro left p h0 h1 hb;simp only [nR] at hb
  cases e1:decide (r.1 < 0) with
  | true=>rw [e1] at hb;cases hb
  | false =>
  cases e2:decide (r.1 > 196607) with
  | true=>rw [e1,e2] at hb;cases hb
  | false =>
  cases e3:decide (r.2 < 1) with
  | true=>rw [e1,e2,e3] at hb;cases hb
  | false =>
  cases e4:decide (r.2 > left) with
  | true=>rw [e1,e2,e3,e4] at hb;cases hb
  | false =>
  rw [e1,e2,e3,e4,m026,m026,m026,m026] at hb;have o1:=of_decide_eq_false e1;have o2:=of_decide_eq_false e2;have o3:=of_decide_eq_false e3;have o4:=of_decide_eq_false e4
  cases e5:(p==some r.1) with
  | true=>rw [e5] at hb;cases hb
  | false =>
   rw [e5,cond_false] at hb;obtain ⟨h2,h3⟩:=ih _ _ (by omega) (by omega) hb;refine ⟨fun q hq=>?_,by simp only [dS];omega⟩;rcases m013.1 hq with rfl | hq
   ·simp only [cV,gJ,bN,decide_eq_true_eq];omega
   ·exact h2 q hq
theorem VS {l:List (Int×Int)} (h:xE l=true):(∀ r∈l,cV r=true)/\dS l<=2 ^ 40/\l.length<=65536:=by simp only [xE,bN,decide_eq_true_eq] at h;obtain ⟨h1,h2⟩:=bBy l _ _ (by decide) (by decide) h.2;exact ⟨h1,h2,h.1⟩
theorem nG (l:List (Int×Int)) (h:∀ r∈l,cV r=true):∀ i,0<=dS (l.take i)/\dS (l.take i)+dS (l.drop i)=dS l:=by
 induction l with
 | nil=>intro i;simp [dS]
 | cons r l ih =>
  intro i;have hr:=h r (m007 ..);simp only [cV,bN,decide_eq_true_eq] at hr
  cases i with
  | zero=>simp [dS]
  | succ i =>obtain ⟨h1,h2⟩:=ih (fun q hq=>h q (m005 _ hq)) i;simp only [List.take_succ_cons,List.drop_succ_cons,dS];omega
end
noncomputable section
theorem SD:FX AV.bool 1:=⟨fun _=>rfl,fun _=>rfl⟩
def CM (l:List Bool):AV:=.sl false (l.map AV.bool)
theorem wO (l:List Bool):(CM l).closed=true:=cJ _ _ fun _=>fun _=>rfl
def FF (b:Bool):Nat:=bif b then 1 else 0
def gV:List Bool->Nat
 | []=>0
 | b::l=>FF b+2 * gV l
def CE:Nat->Nat->List Bool
 | 0,_=>[]
 | f+1,v=>bif v==0 then [] else (v % 2==1)::CE f (v / 2)
def cS (v:Nat):List Bool:=CE v v
theorem JS (b:Bool):FF b<=1:=by cases b<;>decide
theorem aQg (b:Bool) (n:Nat):((FF b+2 * n) % 2==1)=b/\(FF b+2 * n) / 2=n:=by
 cases b
 ·have e:FF false=0:=rfl;rw [e];refine ⟨?_,by omega⟩;rw [show (0+2 * n) % 2=0 by omega];rfl
 ·have e:FF true=1:=rfl;rw [e];refine ⟨?_,by omega⟩;rw [show (1+2 * n) % 2=1 by omega];rfl
theorem RC:∀ f v,v<=f->CE f v=cS v:=by
 have key:∀ n v,v<=n->∀ f,v<=f->CE f v=CE v v:=by
  intro n
  induction n with
  | zero =>
   intro v hv f _;have:v=0:=by omega
   subst this;cases f<;>rfl
  | succ n ih =>
   intro v hv f hf
   cases v with
   | zero=>cases f<;>rfl
   | succ v =>obtain ⟨g,rfl⟩:∃ g,f=g+1:=⟨f - 1,by omega⟩;simp only [CE];rw [ih ((v+1) / 2) (by omega) g (by omega),ih ((v+1) / 2) (by omega) v (by omega)]
 intro f v h;exact key v v (bH _) f h
theorem rJ:cS 0=[]:=rfl
theorem nL {v:Nat} (h:v≠0):cS v=(v % 2==1)::cS (v / 2):=by
 obtain ⟨w,rfl⟩:∃ w,v=w+1:=⟨v - 1,by omega⟩;unfold cS;have h0:(w+1==0)=false:=by simp
 rw [CE,h0,cond_false,RC w ((w+1) / 2) (by omega)];rfl
theorem rU (v:Nat):gV (cS v)=v:=by
 induction v using Nat.strongRecOn with
 | ind v ih =>
  by_cases h:v=0
  ·subst h;rfl
  ·rw [nL h,gV,ih (v / 2) (by omega)]
   have:FF (v % 2==1)=v % 2:=by
    have:v % 2=0\/v % 2=1:=by omega
    rcases this with h | h<;>rw [h]<;>rfl
   omega
def sA (l:List Bool):Prop:=l.getLast?≠some false
theorem IA:∀ (l:List Bool),sA l->l=cS (gV l)/\(gV l=0->l=[]):=by
 intro l
 induction l with
 | nil=>intro _;exact ⟨rfl,fun _=>rfl⟩
 | cons b l ih =>
  intro h
  have hl:sA l:=by
   unfold sA at h ⊢
   cases l with
   | nil=>simp
   | cons x t=>rw [List.getLast?_cons_cons] at h;exact h
  obtain ⟨h1,h2⟩:=ih hl;have hm:=aQg b (gV l)
  have hne:gV (b::l)≠0:=by
   intro h0;simp only [gV] at h0;have:l=[]:=h2 (by omega);subst this
   cases b with
   | false=>exact h rfl
   | true=>simp [gV,FF] at h0
  refine ⟨?_,fun h0=>absurd h0 hne⟩;rw [nL hne];simp only [gV];rw [hm.1,hm.2,<- h1]
def nD (a:List Bool):Nat->Nat
 | 0=>0
 | n+1=>bif a[n]?==some false then nD a n else n+1
theorem aNg (a:List Bool):∀ n,nD a n<=n:=by
 intro n
 induction n with
 | zero=>exact bH 0
 | succ n ih=>simp only [nD];cases (a[n]?==some false)<;>simp only [cond_true,cond_false]<;>omega
theorem yN (a b:List Bool):gV (a++b)=gV a+2 ^ a.length * gV b:=by
 induction a with
 | nil=>simp [gV]
 | cons x a ih =>simp only [List.cons_append,gV,ih,List.length_cons,Nat.pow_succ];rw [Nat.mul_add,m066];congr 2;rw [Nat.mul_comm (2 ^ a.length) 2,Nat.mul_assoc]
theorem RY (a:List Bool):∀ n,n<=a.length->gV (a.take (nD a n))=gV (a.take n)/\sA (a.take (nD a n)):=by
 intro n
 induction n with
 | zero=>intro _;exact ⟨rfl,by simp [nD,sA]⟩
 | succ n ih =>
  intro hn;simp only [nD];obtain ⟨x,hx⟩:∃ x,a[n]?=some x:=⟨_,m004 (by omega)⟩;have e:a.take (n+1)=a.take n++[x]:=by rw [m062,hx];rfl
  cases x with
  | false =>obtain ⟨h1,h2⟩:=ih (by omega);rw [hx,show ((some false:Option Bool)==some false)=true from rfl,cond_true];refine ⟨?_,h2⟩;rw [h1,e,yN];simp [gV,FF]
  | true =>rw [hx,show ((some true:Option Bool)==some false)=false from rfl,cond_false];refine ⟨rfl,?_⟩;rw [e];simp [sA]
theorem VL (a:List Bool):a.take (nD a a.length)=cS (gV a):=by obtain ⟨h1,h2⟩:=RY a a.length (bH _);rw [m045] at h1;rw [(IA _ h2).1,h1]
theorem bNe (a:List Bool) (Q:aC) (ha:a.length<=2 ^ 30):∀ (n:Nat) (s:St),n<=a.length->(∀ c,AY Q (CM a) (.int .i64 (nD a n)) (adv s c))->wY Q (n+1) (CM a) (.int .i64 n) s:=by
 intro n
 induction n with
 | zero =>intro s hn hj;show vT Q (wY Q 0) _ _ s;simp only [vT,show decide (((0:Nat):Int) > 0)=false from rfl,wx,wy,Z0,Z1,reduceCtorEq];exact hj 10
 | succ n ih =>
  intro s hn hj;show vT Q (wY Q (n+1)) _ _ s;obtain ⟨x,hx⟩:∃ x,a[n]?=some x:=⟨_,m004 (by omega)⟩;have h1:decide (((n+1:Nat):Int) > 0)=true:=by simp
  have h2:IntKind.i64.wrap (((n+1:Nat):Int) - 1)=(n:Int):=by rw [IntWalk.i64_in _ (by omega)];try omega
  have hc0:(AV.bool x).cells[0]?=some (.bool x):=rfl;simp only [vT,h1,h2,CM,bP SD false hx,hc0,wx,wy,Z0,Z1,reduceCtorEq];simp only [nD,hx] at hj
  cases x with
  | false =>rw [show ((some false:Option Bool)==some false)=true from rfl] at hj;simp only [h2,wx,wy,Z0,Z1,reduceCtorEq];exact ih _ (by omega) fun c=>by rw [adv_two];exact hj _
  | true =>rw [show ((some true:Option Bool)==some false)=false from rfl] at hj;simp only [wx,wy,Z0,Z1,reduceCtorEq];exact hj _
theorem bIs (a:List Bool) (ha:a.length<=2 ^ 30):aU mEv 168 [CM a] (CM (cS (gV a))):=by
 refine bC (aKm _ _ ?_);unfold f168;simp only [CM,IE,m002,wx,wy,Z0,Z1,reduceCtorEq];refine ⟨a.length+1,bNe a _ ha a.length _ (bH _) fun c=>?_⟩;have hs:∀ s,jM 173 (.sl false (a.map AV.bool)) none (some (.int .i64 ((nD a a.length:Nat):Int))) none s=some (.sl (false&&nD a a.length==a.length) ((a.take (nD a a.length)).map AV.bool)):=fun s=>LL CQ (fun _=>rfl) false a (aNg a _) .i64;unfold AY;rw [VL] at hs;simp only [CM,hs,m035,wx,wy,Z0,Z1,reduceCtorEq];have hlen:(cS (gV a)).length<=a.length:=by rw [<- VL,m020];omega
 by_cases h0:cS (gV a)=[]
 ·rw [h0];rw [show ([]:List Bool).map AV.bool=[] from rfl,iF CQ fA false];simp only [wx,wy,Z0,Z1,reduceCtorEq];exact nH ⟨[],rfl,rfl⟩
 ·rw [DJ CQ SD (l:=[]) fA h0 (by simp;omega) (by simp;omega)];simp only [wx,wy,Z0,Z1,reduceCtorEq,List.nil_append];refine nH (nM CQ (tV SD (by simp)) (fun _ _=>rfl) (fun _ _=>rfl) 11)
def oS:Nat->Nat->List Bool
 | 0,_=>[]
 | k+1,x=>(x % 2==1)::oS k (x / 2)
theorem BH (k x:Nat):(oS k x).length=k:=by
 induction k generalizing x with
 | zero=>rfl
 | succ k ih=>simp [oS,ih]
theorem XE (k:Nat):∀ x,oS (k+1) x=oS k x++[x / 2 ^ k % 2==1]:=by
 induction k with
 | zero=>intro x;simp [oS]
 | succ k ih =>intro x;rw [oS,ih (x / 2),oS,Nat.div_div_eq_div_mul,Nat.pow_succ,Nat.mul_comm 2];rfl
theorem aGu (k:Nat):∀ x,gV (oS k x)=x % 2 ^ k:=by
 induction k with
 | zero=>intro x;simp [oS,gV,Nat.mod_one]
 | succ k ih =>
  intro x;rw [oS,gV,ih,Nat.pow_succ,Nat.mul_comm (2 ^ k) 2,Nat.mod_mul]
  have:FF (x % 2==1)=x % 2:=by
   have:x % 2=0\/x % 2=1:=by omega
   rcases this with h | h<;>rw [h]<;>rfl
  rw [this]
def vD (a:List Nat):List Bool:=a.flatMap (oS 32)
theorem KT (a:List Nat):(vD a).length=32 * a.length:=by
 induction a with
 | nil=>rfl
 | cons x a ih =>have:vD (x::a)=oS 32 x++vD a:=rfl;rw [this,m006,BH,ih,List.length_cons];omega
theorem aCz (a:List Nat) (h:dB a):gV (vD a)=val a:=by
 induction a with
 | nil=>rfl
 | cons x a ih =>have hx:=h x (m007 ..);have:vD (x::a)=oS 32 x++vD a:=rfl;rw [this,yN,BH,aGu,ih fun y hy=>h y (m005 _ hy),val,Nat.mod_eq_of_lt hx]
theorem bGs (Q:aC) (t0 t4:AV) (ih1:AV->AV->aC) (x0:Nat) (hx0:x0 < 2 ^ 32) (base:List Bool) (hb:base.length<=2 ^ 30)
  (hQ:∀ x s,aK s->Gw 4 1 0 s x ((base++oS 32 x0).map AV.bool)->pE Q ih1 t4 t0 x s) :
  ∀ (m j:Nat) (x:AV) (s:St),j+m=32->aK s->Gw 4 1 0 s x ((base++oS j x0).map AV.bool)->qU Q ih1 (m+1) t0 x t4 (.int .u32 ((x0 / 2 ^ j:Nat):Int)) (.int .i64 j) s:=by
 intro m
 induction m with
 | zero =>
  intro j x s hj fr g;have:j=32:=by omega
  subst this;show vQ Q ih1 (qU Q ih1 0) _ _ _ _ _ s;have c1:decide (((32:Nat):Int) < 32)=false:=by decide
  simp only [vQ,c1,wx,wy,Z0,Z1,reduceCtorEq];exact hQ _ _ fr.adv g.adv
 | succ m ih =>
  intro j x s hj fr g;show vQ Q ih1 (qU Q ih1 (m+1)) _ _ _ _ _ s;have c1:decide ((j:Int) < 32)=true:=by simp;omega
  have hy:x0 / 2 ^ j < 2 ^ 32:=Nat.lt_of_le_of_lt (Nat.div_le_self _ _) hx0;have hd:x0 / 2 ^ (j+1)=x0 / 2 ^ j / 2:=by rw [Nat.pow_succ,Nat.div_div_eq_div_mul]
  have hsucc:=XE j x0;have ih:=fun x s=>ih (j+1) x s (by omega);rw [hd,hsucc,<- m019] at ih;generalize x0 / 2 ^ j=y at *;have w1:IntKind.i64.wrap ((j:Int)+1)=((j+1:Nat):Int):=by rw [IntWalk.i64_in _ (by omega)];rfl
  have hrem:bn .rem 211 (.int .u32 (y:Int)) (.int .u32 2)=some (.int .u32 ((y % 2:Nat):Int)):=vY (b:=2) (by decide);have hquo:bn .quo 211 (.int .u32 (y:Int)) (.int .u32 2)=some (.int .u32 (IntKind.u32.wrap ((y / 2:Nat):Int))):=vH (b:=2) (by decide);rw [p32] at hy;rw [IntWalk.u32_in _ (by omega)] at hquo;have he:(((y % 2:Nat):Int)==1)=(y % 2==1):=by rw [Bool.eq_iff_iff,beq_iff_eq,beq_iff_eq];omega
  have hb1:fZ 173 1 [(0,.bool (y % 2==1))]=some (.sl true [.bool (y % 2==1)]):=eW CQ (by decide) rfl rfl;have hlen:(base++oS j x0).length<=2 ^ 31:=by rw [m006,BH];omega
  simp only [vQ,c1,hrem,hquo,he,hb1,wx,wy,Z0,Z1,reduceCtorEq];rw [hI CQ SD g.adv (by omega) (by omega)];simp only [hquo,RS,w1,wx,wy,Z0,Z1,reduceCtorEq];exact ih _ _ (jH fr _ _ (by omega)) (tV SD (by simp;omega))
theorem bJf (Q:aC) (a:List Nat) (hl:dB a) (ha:a.length<=2 ^ 20) (hQ:∀ x s,aK s->Gw 4 1 0 s x ((vD a).map AV.bool)->pW Q x s) :
  ∀ (m i:Nat) (x:AV) (s:St),i+m=a.length->aK s->Gw 4 1 0 s x ((vD (a.take i)).map AV.bool)->gC Q (m+1) (iV a) x (.int .i64 i) s:=by
 intro m
 induction m with
 | zero =>
  intro i x s hi fr g;show wC Q (gC Q 0) _ _ _ s;have c1:decide ((i:Int) < (a.length:Int))=false:=by simp;omega
  rw [m014 (by omega)] at g;simp only [wC,CJ,c1,wx,wy,Z0,Z1,reduceCtorEq];exact hQ _ _ fr.adv g.adv
 | succ m ih =>
  intro i x s hi fr g;show wC Q (gC Q (m+1)) _ _ _ s;have c1:decide ((i:Int) < (a.length:Int))=true:=by simp;omega
  obtain ⟨y,hy⟩:∃ y,a[i]?=some y:=⟨_,m004 (by omega)⟩;have hyl:=hl y (m017 hy);have hix:cA 1 (iV a) (.int .i64 (i:Int))=some (.pel (sC y).cells 0):=bP HX false hy .i64;have w1:IntKind.i64.wrap ((i:Int)+1)=((i+1:Nat):Int):=by rw [IntWalk.i64_in _ (by omega)];rfl
  have hr:vD (a.take (i+1))=vD (a.take i)++oS 32 y:=by rw [m062,hy];simp [vD]
  have hlen:=KT (a.take i);rw [m020] at hlen;simp only [wC,CJ,c1,hix,aRs,wx,wy,Z0,Z1,reduceCtorEq];refine ⟨33,?_⟩;have:=bGs Q (iV a) (.int .i64 (i:Int)) (gC Q (m+1)) y hyl (vD (a.take i)) (by omega) (fun x s fr g=>?_) 32 0 x (Ai.adv s 10) (by omega) fr.adv (by simpa [oS] using g.adv)
  ·simpa using this
  ·unfold pE;simp only [w1,wx,wy,Z0,Z1,reduceCtorEq];exact ih (i+1) x _ (by omega) fr.adv (by rw [hr];exact g.adv)
theorem bEa (a:List Nat) (hl:dB a) (ha:a.length<=2 ^ 20):aU mEv 117 [iV a] (CM (cS (val a))):=by refine bC (aLe _ _ ?_);unfold f117;refine ⟨a.length+1,bJf _ a hl ha (fun x s fr g=>?_) a.length 0 .nils _ (by omega) bU.adv fA⟩;unfold pW;have h:=bIs (vD a) (by rw [KT];omega);rw [aCz a hl] at h;obtain ⟨ids,e1,e2⟩:=nM CQ (g.adv (n:=3)) (fun _ _=>rfl) (fun _ _=>rfl) 11;refine eR (args2:=[CM (vD a)]) (ids:=ids) (by simp only [dJ,e1,m011];rfl) h ?_;exact aI (wO _)
def BZ:Nat->Nat->List Nat
 | 0,_=>[]
 | f+1,v=>bif v==0 then [] else (v % 4294967296)::BZ f (v / 4294967296)
def wP (v:Nat):List Nat:=BZ v v
theorem PX:∀ f v,v<=f->BZ f v=wP v:=by
 have key:∀ n v,v<=n->∀ f,v<=f->BZ f v=BZ v v:=by
  intro n
  induction n with
  | zero =>
   intro v hv f _;have:v=0:=by omega
   subst this;cases f<;>rfl
  | succ n ih =>
   intro v hv f hf
   cases v with
   | zero=>cases f<;>rfl
   | succ v =>obtain ⟨g,rfl⟩:∃ g,f=g+1:=⟨f - 1,by omega⟩;simp only [BZ];rw [ih ((v+1) / 4294967296) (by omega) g (by omega),ih ((v+1) / 4294967296) (by omega) v (by omega)]
 intro f v h;exact key v v (bH _) f h
theorem KS {v:Nat} (h:v≠0):wP v=(v % 4294967296)::wP (v / 4294967296):=by
 obtain ⟨w,rfl⟩:∃ w,v=w+1:=⟨v - 1,by omega⟩;unfold wP;have h0:(w+1==0)=false:=by simp
 rw [BZ,h0,cond_false,PX w ((w+1) / 4294967296) (by omega)];rfl
def xG (a:List Nat):Prop:=a.getLast?≠some 0
theorem NR:∀ (a:List Nat),dB a->xG a->a=wP (val a)/\(val a=0->a=[]):=by
 intro a
 induction a with
 | nil=>intro _ _;exact ⟨rfl,fun _=>rfl⟩
 | cons x a ih =>
  intro hl h;have hx:=hl x (m007 ..)
  have hn:xG a:=by
   unfold xG at h ⊢
   cases a with
   | nil=>simp
   | cons y t=>rw [List.getLast?_cons_cons] at h;exact h
  obtain ⟨h1,h2⟩:=ih (fun y hy=>hl y (m005 _ hy)) hn;rw [p32] at hx
  have hne:val (x::a)≠0:=by
   intro h0;simp only [val] at h0;have:a=[]:=h2 (by omega);subst this;have:x=0:=by omega
   subst this;exact h rfl
  refine ⟨?_,fun h0=>absurd h0 hne⟩;rw [KS hne];simp only [val];rw [show (x+4294967296 * val a) % 4294967296=x by omega,show (x+4294967296 * val a) / 4294967296=val a by omega,<- h1]
theorem MG (a:List Nat):xG (aV a):=by
 rcases (lF a a.length (bH _)).2 with h0 | ⟨x,hx,h0⟩
 ·unfold aV xG;rw [h0];simp
 ·unfold aV xG;have hle:=pD a a.length;rw [List.getLast?_take];by_cases hz:gG a a.length=0
  ·rw [hz];simp
  ·rw [if_neg hz,hx];simpa using h0
theorem WL {a:List Nat} (h:dB a):aV a=wP (val a):=by have:=(NR (aV a) (cO h) (MG a)).1;rw [this,gM]
theorem GA (k:Nat):∀ v,gV ((cS v).take k)=v % 2 ^ k/\(cS v).drop k=cS (v / 2 ^ k):=by
 induction k with
 | zero=>intro v;simp [gV,Nat.mod_one]
 | succ k ih =>
  intro v;by_cases h:v=0
  ·subst h;simp [rJ,gV,Nat.zero_div]
  ·rw [nL h];obtain ⟨h1,h2⟩:=ih (v / 2);simp only [List.take_succ_cons,List.drop_succ_cons,gV,h1,h2]
   have:FF (v % 2==1)=v % 2:=by
    have:v % 2=0\/v % 2=1:=by omega
    rcases this with h | h<;>rw [h]<;>rfl
   rw [this,Nat.pow_succ,Nat.mul_comm (2 ^ k) 2,Nat.mod_mul,Nat.div_div_eq_div_mul];exact ⟨rfl,rfl⟩
theorem aDa (v:Nat):∀ k,v < 2 ^ k->(cS v).length<=k:=by
 intro k
 induction k generalizing v with
 | zero=>intro h;have:v=0:=by omega
         subst this;exact bH _
 | succ k ih =>
  intro h;by_cases h0:v=0
  ·subst h0;simp [rJ]
  ·rw [nL h0,List.length_cons];have:=ih (v / 2) (by rw [Nat.pow_succ] at h;omega);omega
theorem NO (v k:Nat):(cS v)[k]?.getD false=(v / 2 ^ k % 2==1):=by
 induction k generalizing v with
 | zero =>
  by_cases h0:v=0
  ·subst h0;rfl
  ·rw [nL h0];simp
 | succ k ih =>
  by_cases h0:v=0
  ·subst h0;simp [rJ,Nat.zero_div]
  ·rw [nL h0,List.getElem?_cons_succ,ih,Nat.div_div_eq_div_mul,Nat.pow_succ,Nat.mul_comm 2]
def VB (v i k:Nat):Nat:=v / 2 ^ k % 2 ^ (i+32 - k)
theorem aFu (v i k:Nat) (h:i<=k) (h2:k < i+32):VB v i k=2 * VB v i (k+1)+v / 2 ^ k % 2:=by
 unfold VB;obtain ⟨j,hj⟩:∃ j,i+32 - k=j+1:=⟨i+31 - k,by omega⟩;have hj2:i+32 - (k+1)=j:=by omega
 rw [hj,hj2,Nat.pow_succ,Nat.mul_comm (2 ^ j) 2,Nat.mod_mul,Nat.div_div_eq_div_mul,<- Nat.pow_succ];exact Nat.add_comm _ _
theorem aRg (v i:Nat):VB v i (i+32)=0:=by unfold VB;simp [Nat.mod_one]
theorem bAm (v i k:Nat) (h:i<=k) (h2:k<=i+32):VB v i k < 4294967296:=by unfold VB;have:v / 2 ^ k % 2 ^ (i+32 - k) < 2 ^ (i+32 - k):=Nat.mod_lt _ (Nat.pow_pos (by decide));have:2 ^ (i+32 - k)<=2 ^ 32:=Nat.pow_le_pow_right (by decide) (by omega);have h32:(2:Nat) ^ 32=4294967296:=rfl;omega
theorem bFe (Q:aC) (t3:AV) (ih1:AV->AV->aC) (v i:Nat) (hi:i<=2 ^ 30) (hv:(cS v).length<=2 ^ 30)
  (s0:St) (hQ:∀ c,yA Q ih1 t3 (.int .u32 ((v / 2 ^ i % 4294967296:Nat):Int)) (.int .i64 i) (CM (cS v)) (adv s0 c)) :
  ∀ (m k:Nat) (s:St),m<=32->k=i+m->(∃ c,s=adv s0 c)->pT Q ih1 (m+1) (CM (cS v)) t3 (.int .i64 i) (.int .u32 (VB v i k)) (.int .i64 ((k:Int) - 1)) s:=by
 intro m
 induction m with
 | zero =>
  intro k s hm hk hc;obtain ⟨c,rfl⟩:=hc;have:k=i:=by omega
  subst this;show oQ Q ih1 (pT Q ih1 0) _ _ _ _ _ _;have c1:decide ((k:Int) - 1 >= (k:Int))=false:=by simp;omega
  simp only [oQ,c1,wx,wy,Z0,Z1,reduceCtorEq];have e:VB v k k=v / 2 ^ k % 4294967296:=by unfold VB;rw [show k+32 - k=32 by omega]
  rw [e];exact hQ _
 | succ m ih =>
  intro k s hm hk hc;obtain ⟨c,rfl⟩:=hc;obtain ⟨k,rfl⟩:∃ j,k=j+1:=⟨k - 1,by omega⟩;show oQ Q ih1 (pT Q ih1 (m+1)) _ _ _ _ _ _;have e1:((k+1:Nat):Int) - 1=(k:Int):=by omega
  rw [e1];have c1:decide ((k:Int) >= (i:Int))=true:=by simp;omega
  have hst:=aFu v i k (by omega) (by omega);have hlt:=bAm v i k (by omega) (by omega);have hg:=NO v k;have ih:=fun c=>ih k (Ai.adv s0 c) (by omega) (by omega) ⟨c,rfl⟩;have w1:IntKind.i64.wrap ((k:Int) - 1)=(k:Int) - 1:=IntWalk.i64_in _ (by omega);have hln:∀ id s,bt .len #[173] [CM (cS v)] id s=some (.int .i64 (cS v).length,s):=fun id s=>by show bt .len #[173] [.sl false ((cS v).map AV.bool)] id s=_;rw [IE,m002]
  generalize VB v i (k+1)=H at *;have hH:IntKind.u32.wrap ((H:Int) * 2)=((H * 2:Nat):Int):=by rw [IntWalk.u32_in _ (by omega)];rfl
  by_cases hk2:k < (cS v).length
  ·obtain ⟨y,hy⟩:∃ y,(cS v)[k]?=some y:=⟨_,m004 hk2⟩;have c2:decide ((k:Int) < ((cS v).length:Int))=true:=by simp;omega
   have hix:cA 1 (CM (cS v)) (.int .i64 (k:Int))=some (.pel (AV.bool y).cells 0):=bP SD false hy .i64;have hc0:(AV.bool y).cells[0]?=some (.bool y):=rfl;rw [hy] at hg;have hg:y=(v / 2 ^ k % 2==1):=hg
   cases y with
   | true =>
    have hb:v / 2 ^ k % 2=1:=by simpa using hg.symm
    have hH2:IntKind.u32.wrap (((H * 2:Nat):Int)+1)=((VB v i k:Nat):Int):=by rw [IntWalk.u32_in _ (by omega)];omega
    simp only [oQ,c1,hH,hln,c2,hix,hc0,hH2,yH,w1,wx,wy,Z0,Z1,reduceCtorEq];exact ih _
   | false =>
    have hb:v / 2 ^ k % 2=0:=by
     have:v / 2 ^ k % 2≠1:=by intro h;rw [h] at hg;cases hg
     omega
    have hH2:H * 2=VB v i k:=by omega
    rw [hH2] at hH;simp only [oQ,c1,hH,hln,c2,hix,hc0,yH,w1,wx,wy,Z0,Z1,reduceCtorEq];exact ih _
  ·have c2:decide ((k:Int) < ((cS v).length:Int))=false:=by simp;omega
   rw [List.getElem?_eq_none (by omega)] at hg
   have hb:v / 2 ^ k % 2=0:=by
    have:v / 2 ^ k % 2≠1:=by intro h;rw [h] at hg;cases hg
    omega
   have hH2:H * 2=VB v i k:=by omega
   rw [hH2] at hH;simp only [oQ,c1,hH,hln,c2,yH,w1,wx,wy,Z0,Z1,reduceCtorEq];exact ih _
theorem bHe (Q:aC) (v:Nat) (hv:(cS v).length<=2 ^ 29) (hQ:∀ x s,aK s->Gw 211 1 0 s x ((wP v).map sC)->qV Q x s) :
  ∀ (m i:Nat) (p:List Nat) (x:AV) (s:St),(cS v).length<=32 * i+32 * m->32 * i<=2 ^ 30->p.length=i->m<=2 ^ 25->i+m<=2 ^ 25->aK s->Gw 211 1 0 s x (p.map sC)->p++wP (v / 2 ^ (32 * i))=wP v->eM Q (m+1) (CM (cS v)) x (.int .i64 ((32 * i:Nat):Int)) s:=by
 have hln:∀ id s,bt .len #[173] [CM (cS v)] id s=some (.int .i64 (cS v).length,s):=fun id s=>by show bt .len #[173] [.sl false ((cS v).map AV.bool)] id s=_;rw [IE,m002]
 have hend:∀ i,(cS v).length<=32 * i->v / 2 ^ (32 * i)=0:=fun i h=>by have h1:=(GA (32 * i) v).2;rw [m037 h] at h1;have h2:=rU (v / 2 ^ (32 * i));rw [<- h1] at h2;exact h2.symm
 intro m
 induction m with
 | zero =>
  intro i p x s hb hi hp hm him fr g he;show rT Q (eM Q 0) _ _ _ s;have c1:decide (((32 * i:Nat):Int) < ((cS v).length:Int))=false:=by simp;omega
  rw [hend i (by omega)] at he;have he:p++[]=wP v:=he;rw [m011] at he;rw [he] at g;simp only [rT,hln,c1,wx,wy,Z0,Z1,reduceCtorEq];exact hQ _ _ fr.adv g.adv
 | succ m ih =>
  intro i p x s hb hi hp hm him fr g he;show rT Q (eM Q (m+1)) _ _ _ s;by_cases hlt:32 * i < (cS v).length
  ·have c1:decide (((32 * i:Nat):Int) < ((cS v).length:Int))=true:=by simp;omega
   have hne:v / 2 ^ (32 * i)≠0:=by intro h0;have h1:=(GA (32 * i) v).2;rw [h0,rJ] at h1;have:=List.drop_eq_nil_iff.1 h1;omega
   have hdd:v / 2 ^ (32 * i) / 4294967296=v / 2 ^ (32 * (i+1)):=by rw [Nat.div_div_eq_div_mul,show (4294967296:Nat)=2 ^ 32 from rfl,<- Nat.pow_add,show 32 * i+32=32 * (i+1) by omega]
   rw [KS hne,hdd] at he;have w1:IntKind.i64.wrap (((32 * i:Nat):Int)+31)=((32 * i+32:Nat):Int) - 1:=by rw [IntWalk.i64_in _ (by omega)];omega
   have w2:IntKind.i64.wrap (((32 * i:Nat):Int)+32)=((32 * (i+1):Nat):Int):=by rw [IntWalk.i64_in _ (by omega)];omega
   simp only [rT,hln,c1,w1,wx,wy,Z0,Z1,reduceCtorEq];refine ⟨33,?_⟩;have:=bFe Q x (eM Q (m+1)) v (32 * i) hi (by omega) s (fun c=>?_) 32 (32 * i+32) (Ai.adv s 8) (bH _) rfl ⟨8,rfl⟩
   ·rw [aRg] at this;exact this
   ·unfold yA;have hb1:fZ 22 1 [(0,sC (v / 2 ^ (32 * i) % 4294967296))]=some (.sl true [sC (v / 2 ^ (32 * i) % 4294967296)]):=eW HZ (by decide) rfl rfl;have hb1':fZ 22 1 [(0,.int .u32 ((v / 2 ^ (32 * i) % 4294967296:Nat):Int))]=some (.sl true [sC (v / 2 ^ (32 * i) % 4294967296)]):=hb1;simp only [hb1',wx,wy,Z0,Z1,reduceCtorEq];rw [hI HZ HX g.adv (by omega) (by omega)];simp only [tW,w2,wx,wy,Z0,Z1,reduceCtorEq];refine ih (i+1) (p++[v / 2 ^ (32 * i) % 4294967296]) _ _ (by omega) (by omega) (by simp [hp]) (by omega) (by omega) (jH fr _ _ (by omega)) (tV HX (by simp)) ?_;rw [<- he,m019];rfl
  ·have c1:decide (((32 * i:Nat):Int) < ((cS v).length:Int))=false:=by simp;omega
   rw [hend i (by omega)] at he;have he:p++[]=wP v:=he;rw [m011] at he;rw [he] at g;simp only [rT,hln,c1,wx,wy,Z0,Z1,reduceCtorEq];exact hQ _ _ fr.adv g.adv
theorem bPc (v:Nat) (hv:(cS v).length<=2 ^ 29):aU mEv 189 [CM (cS v)] (iV (wP v)):=by
 refine bC (aFa _ _ ?_);unfold f189;have h:=bIs (cS v) (by omega);rw [rU] at h;refine aM h (by simp [wO]) ?_;refine ⟨2 ^ 24+1,?_⟩;have:=bHe (cU (iV (wP v))) v hv (fun x s fr g=>?_) (2 ^ 24) 0 [] .nils (Ai.adv (Ai.adv St.empty 4) 2) (by omega) (by decide) rfl (by decide) (by decide) bU.adv.adv fA (by simp)
 ·exact this
 ·exact nH (nM HZ g.adv (fun _ _=>rfl) (fun _ _=>rfl) 11)
theorem NN (a:List Nat) (hl:dB a):(cS (val a)).length<=32 * a.length:=by refine aDa _ _ ?_;have:=aFw a hl;rw [Nat.pow_mul];exact this
theorem bEi (a:List Nat) (hl:dB a) (ha:a.length<=2 ^ 20):aU mEv 137 [iV a] (iV (aV a)):=by refine bC (aGt _ _ ?_);unfold f137;refine aM (bEa a hl ha) (by simp [cR]) ?_;have:=NN a hl;refine aM (bPc (val a) (by omega)) (by simp [wO]) ?_;rw [WL hl];exact aI (cR _)
theorem bCd (neg:Bool) (n:List Nat) (hl:dB n) (hn:n.length<=2 ^ 20):aU mEv 118 [oY neg n] (oY (eQ neg n).1 (eQ neg n).2):=by
 refine bC (aLx _ _ ?_);unfold f118;refine ⟨rfl,?_⟩;simp only [aTg,wz0,wz1,wx,wy,Z0,Z1,reduceCtorEq];refine aM (bEi n hl hn) (by simp [cR]) ?_;have hb:∀ b:Bool,eE 24 [(0,.bool b),(1,iV (aV n))]=some (oY b (aV n)):=fun b=>by rw [bAo];rfl
 have hlz:decide (((aV n).length:Int) > 0)=!(aV n==[]):=by
  cases h:aV n with
  | nil=>rfl
  | cons x t=>simp
 have hz:∀ (q:St) (i c:Nat) (b:Bool),bQ 2 (.ptr i 0) (oY b (aV n)) (Ai.adv (q.set i (some (.cells (AV.agg [.bool false,.nils]).cells 24 true true))) c)=some (Ai.adv (q.set i (some (.cells (oY b (aV n)).cells 24 true true))) c):=fun q i c b=>by rw [bJ (z:=2) (by rw [adv_h,aG]) rfl rfl rfl,adv_set,set_set]
 cases neg with
 | false =>simp only [wz0,hb,wx,wy,Z0,Z1,reduceCtorEq];rw [hz];simp only [kP,wx,wy,Z0,Z1,reduceCtorEq];exact aI (dA _ _)
 | true =>simp only [wz0,CJ,hlz,hb,wx,wy,Z0,Z1,reduceCtorEq];rw [hz];simp only [kP,wx,wy,Z0,Z1,reduceCtorEq];exact aI (dA _ _)
theorem c64 (neg:Bool) (n:List Nat) (hl:dB n) (hn:n.length<=2 ^ 20):aU mEv 64 [oY neg n] (.int .i64 (pG neg n)):=by
 refine bC (aRx _ _ ?_);unfold f64;refine ⟨rfl,?_⟩;simp only [kP,wx,wy,Z0,Z1,reduceCtorEq];refine aM (bCd neg n hl hn) (by simp [dA]) ?_;have hz:∀ (q:St) (i c:Nat) (b:Bool) (m:List Nat),bQ 2 (.ptr i 0) (oY b m) (Ai.adv (q.set i (some (.cells (AV.agg [.bool false,.nils]).cells 24 true true))) c)=some (Ai.adv (q.set i (some (.cells (oY b m).cells 24 true true))) c):=fun q i c b m=>by rw [bJ (z:=2) (by rw [adv_h,aG]) rfl rfl rfl,adv_set,set_set]
 simp only [aTg,wx,wy,Z0,Z1,reduceCtorEq];rw [hz]
 have hlz:(((aV n).length:Int)==0)=(aV n==[]):=by
  cases h:aV n with
  | nil=>rfl
  | cons x t=>simp;omega
 unfold pG eQ;simp only [wz0,wz1,CJ,hlz,wx,wy,Z0,Z1,reduceCtorEq];cases h:(aV n==[])<;>cases neg<;>simp only [m025,m027,cond_true,cond_false,wx,wy,Z0,Z1,reduceCtorEq]<;>exact aI rfl
end
noncomputable section
def AX:Nat->Nat->List Nat
 | 0,_=>[]
 | f+1,v=>bif v==0 then [] else (v % 10)::AX f (v / 10)
def gP (v:Nat):List Nat:=AX v v
theorem QP:∀ f v,v<=f->AX f v=gP v:=by
 have key:∀ n v,v<=n->∀ f,v<=f->AX f v=AX v v:=by
  intro n
  induction n with
  | zero =>
   intro v hv f _;have:v=0:=by omega
   subst this;cases f<;>rfl
  | succ n ih =>
   intro v hv f hf
   cases v with
   | zero=>cases f<;>rfl
   | succ v =>obtain ⟨g,rfl⟩:∃ g,f=g+1:=⟨f - 1,by omega⟩;simp only [AX];rw [ih ((v+1) / 10) (by omega) g (by omega),ih ((v+1) / 10) (by omega) v (by omega)]
 intro f v h;exact key v v (bH _) f h
theorem xM:gP 0=[]:=rfl
theorem iN {v:Nat} (h:v≠0):gP v=(v % 10)::gP (v / 10):=by
 obtain ⟨w,rfl⟩:∃ w,v=w+1:=⟨v - 1,by omega⟩;unfold gP;have h0:(w+1==0)=false:=by simp
 rw [AX,h0,cond_false,QP w ((w+1) / 10) (by omega)];rfl
theorem IL (v:Nat):∀ x∈gP v,x < 10:=by
 induction v using Nat.strongRecOn with
 | ind v ih =>
  by_cases h:v=0
  ·subst h;intro x hx;cases hx
  ·rw [iN h];intro x hx;rcases m013.1 hx with rfl | hx
   ·exact Nat.mod_lt _ (by decide)
   ·exact ih (v / 10) (by omega) x hx
theorem aLc (v:Nat):∀ k,v < 10 ^ k->(gP v).length<=k:=by
 intro k
 induction k generalizing v with
 | zero=>intro h;have:v=0:=by omega
         subst this;exact bH _
 | succ k ih =>
  intro h;by_cases h0:v=0
  ·subst h0;simp [xM]
  ·rw [iN h0,List.length_cons];have:=ih (v / 10) (by rw [Nat.pow_succ] at h;omega);omega
def JU:List Nat->Nat->List Nat
 | [],_=>[]
 | x::t,c=>(2 * x+c) % 10::JU t ((2 * x+c) / 10)
def cry:List Nat->Nat->Nat
 | [],c=>c
 | x::t,c=>cry t ((2 * x+c) / 10)
theorem UU (l:List Nat):∀ c,(JU l c).length=l.length:=by
 induction l with
 | nil=>intro c;rfl
 | cons x t ih=>intro c;simp [JU,ih]
theorem aPp (v:Nat):∀ c,c<=1->cry (gP v) c<=1/\JU (gP v) c++(bif Nat.blt 0 (cry (gP v) c) then [cry (gP v) c] else [])=gP (2 * v+c):=by
 induction v using Nat.strongRecOn with
 | ind v ih =>
  intro c hc;by_cases h:v=0
  ·subst h;have:c=0\/c=1:=by omega
   rcases this with rfl | rfl<;>exact ⟨by decide,rfl⟩
  ·have hm:v % 10 < 10:=Nat.mod_lt _ (by decide);have hc':(2 * (v % 10)+c) / 10<=1:=by omega
   obtain ⟨h1,h2⟩:=ih (v / 10) (by omega) ((2 * (v % 10)+c) / 10) hc';rw [iN h];refine ⟨h1,?_⟩;rw [iN (show 2 * v+c≠0 by omega)];rw [show (2 * v+c) % 10=(2 * (v % 10)+c) % 10 by omega,show (2 * v+c) / 10=2 * (v / 10)+(2 * (v % 10)+c) / 10 by omega,<- h2];rfl
def zE (n:Nat):AV:=.int .i64 (n:Int)
theorem bIv:FX zE 1:=⟨fun _=>rfl,fun _=>rfl⟩
theorem IW (l:List Nat):(l.map zE).flatMap AV.cells=l.map zE:=jO fun v hv=>by obtain ⟨c,_,rfl⟩:=m021.1 hv;rfl
theorem bOo (Q:aC) (t3 t5:AV) (ih2:AV->AV->aC) (id n:Nat) (hn:n<=2 ^ 30) (r:List Nat) (cr:Nat) (s0:St) (hid:id < s0.nx)
  (hQ:∀ s,EF [id] s0 s->s.h id=some (.cells (r.map zE) 3 false true)->EW Q ih2 (.int .i64 cr) (.ref id 0 n none 3) t5 t3 s) :
  ∀ (rest done:List Nat) (c:Nat) (s:St),done.length+rest.length=n->c<=1->(∀ x∈rest,x < 10)->EF [id] s0 s->s.h id=some (.cells ((done++rest).map zE) 3 false true)->done++JU rest c=r->cry rest c=cr ->
   zL Q ih2 (rest.length+1) t3 (.ref id 0 n none 3) t5 (.int .i64 c) (.int .i64 done.length) s:=by
 intro rest
 induction rest with
 | nil =>
  intro done c s hl hc hx ef hs hr hcr;show tY Q ih2 (zL Q ih2 0) _ _ _ _ _ s;have c1:decide ((done.length:Int) < (n:Int))=false:=by simp at hl ⊢;omega
  simp only [tY,aIl,c1,wx,wy,Z0,Z1,reduceCtorEq];have hr:done++[]=r:=hr;rw [m011] at hr hs;have hcr:c=cr:=hcr;subst hcr hr;exact hQ _ ef.adv (by rw [adv_h];exact hs)
 | cons x rest ih =>
  intro done c s hl hc hx ef hs hr hcr;show tY Q ih2 (zL Q ih2 (rest.length+1)) _ _ _ _ _ s;have hx9:=hx x (m007 ..);simp only [List.length_cons] at hl;have c1:decide ((done.length:Int) < (n:Int))=true:=by simp;omega
  have hix:=rO (e:=3) (i:=done.length) (id:=id) (n:=n) (c:=none) (by omega) .i64;have hget:((done++x::rest).map zE)[done.length]?=some (zE x):=by rw [m047,List.getElem?_append_right (by omega),Nat.sub_self];rfl
  have w1:IntKind.i64.wrap (2 * (x:Int))=((2 * x:Nat):Int):=by rw [IntWalk.i64_in _ (by omega)];omega
  have w2:IntKind.i64.wrap (((2 * x:Nat):Int)+(c:Int))=((2 * x+c:Nat):Int):=by rw [IntWalk.i64_in _ (by omega)];omega
  have w3:IntKind.i64.wrap ((done.length:Int)+1)=((done.length+1:Nat):Int):=by rw [IntWalk.i64_in _ (by omega)];rfl
  simp only [JU,cry] at hr hcr;have hb:2 * x+c<=19:=by omega
  generalize 2 * x+c=y at *;have hrem:bn .rem 3 (.int .i64 (y:Int)) (.int .i64 10)=some (.int .i64 ((y % 10:Nat):Int)):=vY (b:=10) (by decide);have hquo:bn .quo 3 (.int .i64 (y:Int)) (.int .i64 10)=some (.int .i64 (IntKind.i64.wrap ((y / 10:Nat):Int))):=vH (b:=10) (by decide);rw [IntWalk.i64_in _ (by omega)] at hquo;have hset:((done++x::rest).map zE).set done.length (.int .i64 ((y % 10:Nat):Int))=((done++[y % 10])++rest).map zE:=by have:=AE (a:=done.map zE) (x:=zE x) (v:=zE (y % 10)) (b:=rest.map zE);rw [m002] at this;rw [m038,m039,m019,m038];exact this
  have hsn:∀ k,(Ai.adv s k).h id=some (.cells ((done++x::rest).map zE) 3 false true):=fun k=>by rw [adv_h];exact hs
  have hniA:zE x=.int .i64 (x:Int):=rfl;rw [hniA] at hget;simp only [tY,aIl,c1,hix,hs,hget,w1,w2,hrem,hquo,wx,wy,Z0,Z1,reduceCtorEq];rw [nJ (hsn _) (by simp) rfl rfl,hset];simp only [aMv,w3,wx,wy,Z0,Z1,reduceCtorEq];have:=ih (done++[y % 10]) (y / 10) (Ai.adv (s.set id (some (.cells (((done++[y % 10])++rest).map zE) 3 false true))) 24) (by simp;omega) (by omega) (fun z hz=>hx z (m005 _ hz)) ((ef.set (by have:=ef.nx;omega) (.inr (by simp))).adv) (by rw [adv_h,aG]) (by rw [<- hr,m019];rfl) hcr;rw [show (done++[y % 10]).length=done.length+1 by simp] at this;exact this
def PW (v:Nat):List UInt8:=bif v==0 then [48] else (gP v).reverse.map fun x=>UInt8.ofNat (48+x)
theorem bOu (Q:aC) (d:List Nat) (hd:∀ x∈d,x < 10) (hlen:d.length<=2 ^ 30) (id:Nat) (hQ:∀ s,Q (.str (d.reverse.map fun x=>UInt8.ofNat (48+x))) s) :
  ∀ (m:Nat) (x:AV) (s:St),m<=d.length->aK s->s.h id=some (.cells (d.map zE) 3 false true)->id ∉ aS x->Gw 5 1 0 s x (((d.drop m).reverse.map fun x=>UInt8.ofNat (48+x)).map oW) ->
   zF Q (m+1) (.ref id 0 d.length none 3) x (.int .i64 ((m:Int) - 1)) s:=by
 intro m
 induction m with
 | zero =>
  intro x s hm fr hs hx g;show EI Q (zF Q 0) _ _ _ s;rw [m048] at g;simp only [EI,show decide (((0:Nat):Int) - 1 >= 0)=false from rfl,KR,wx,wy,Z0,Z1,reduceCtorEq];obtain ⟨q1,⟨rfl,q2⟩ | ⟨i,hi,rfl,hs'⟩⟩:=g
  ·have hd0:d=[]:=by simpa using q2
   subst hd0;rw [show cv 161 9 .nils (Ai.adv s 5)=some (.str []) from by kernel_rfl];simp only [wx,wy,Z0,Z1,reduceCtorEq];exact hQ _
  ·rw [m002];have hf:((d.reverse.map fun x=>UInt8.ofNat (48+x)).map oW).flatMap AV.cells=(d.reverse.map fun x=>UInt8.ofNat (48+x)).map oW:=jO fun v hv=>by obtain ⟨c,_,rfl⟩:=m021.1 hv;rfl
   rw [hf] at hs';have:=JN (s:=Ai.adv s 5) (id:=i) (fF:=[]) (post:=[]) (off:=0) (n:=(d.reverse.map fun x=>UInt8.ofNat (48+x)).length) (cp:=none) (e:=5) (bs:=d.reverse.map fun x=>UInt8.ofNat (48+x)) (by rw [adv_h,List.nil_append,m011];exact hs') rfl rfl;rw [this];simp only [wx,wy,Z0,Z1,reduceCtorEq];exact hQ _
 | succ m ih =>
  intro x s hm fr hs hx g;show EI Q (zF Q (m+1)) _ _ _ s;have e1:((m+1:Nat):Int) - 1=(m:Int):=by omega
  rw [e1];have c1:decide ((m:Int) >= 0)=true:=by simp
  obtain ⟨y,hy⟩:∃ y,d[m]?=some y:=⟨_,m004 (by omega)⟩;have hy9:=hd y (m017 hy);have hix:=rO (e:=3) (i:=m) (id:=id) (n:=d.length) (c:=none) (by omega) .i64;have hget:(d.map zE)[m]?=some (.int .i64 (y:Int)):=by rw [m047,hy];rfl
  have w1:IntKind.i64.wrap (48+(y:Int))=((48+y:Nat):Int):=by rw [IntWalk.i64_in _ (by omega)];omega
  have w2:AV.int .u8 (IntKind.u8.wrap ((48+y:Nat):Int))=oW (UInt8.ofNat (48+y)):=by rw [IntWalk.u8_in _ (by omega)];simp [oW];omega
  have hb1:fZ 161 1 [(0,oW (UInt8.ofNat (48+y)))]=some (.sl true [oW (UInt8.ofNat (48+y))]):=eW aLt (by decide) rfl rfl;have w3:IntKind.i64.wrap ((m:Int) - 1)=(m:Int) - 1:=IntWalk.i64_in _ (by omega);have hdm:(d.drop m).reverse=(d.drop (m+1)).reverse++[y]:=by rw [cK d m y hy,List.reverse_cons]
  have hlm:((d.drop (m+1)).reverse.map fun x=>UInt8.ofNat (48+x)).length<=2 ^ 30:=by rw [m002,List.length_reverse,List.length_drop];omega
  simp only [EI,c1,hix,hs,hget,w1,bIr,w2,hb1,wx,wy,Z0,Z1,reduceCtorEq];rw [hI aLt aVd g.adv (by omega) (by omega)];simp only [aFb,w3,wx,wy,Z0,Z1,reduceCtorEq];have hlt:=g.id_lt fr;have hil:=oP fr hs;refine ih _ _ (by omega) (jH fr _ _ (by omega)) (by rw [adv_h,aF (by omega),get_drop',if_neg hx];exact hs) (by simp [aS];omega) ?_;have em:(((d.drop (m+1)).reverse++[y]).map fun x=>UInt8.ofNat (48+x))=((d.drop (m+1)).reverse.map fun x=>UInt8.ofNat (48+x))++[UInt8.ofNat (48+y)]:=m038 ..;rw [hdm,em];exact mH (a:=UInt8.ofNat (48+y)) (l:=(d.drop (m+1)).reverse.map fun x=>UInt8.ofNat (48+x)) aVd
theorem j63 (Q:aC) (v:Nat) (hl:(gP v).length<=2 ^ 30) (hQ:∀ s,Q (.str (PW v)) s) (x:AV) (s:St) (fr:aK s) (g:Gw 3 1 0 s x ((gP v).map zE)):qB Q x s:=by
 unfold qB;have hln:=fun (id:Nat) (n:Nat)=>bFp (g.adv (n:=n)) id;have hln':∀ (id n:Nat),bt .len #[72] [x] id (Ai.adv s n)=some (.int .i64 (gP v).length,Ai.adv s n):=fun id n=>by rw [hln,m002]
 simp only [hln',wx,wy,Z0,Z1,reduceCtorEq];by_cases h:v=0
 ·subst h;simp only [show (((gP 0).length:Int)==0)=true from rfl,wx,wy,Z0,Z1,reduceCtorEq];exact hQ _
 ·have hne:(((gP v).length:Int)==0)=false:=by rw [iN h];simp;omega
  have w1:IntKind.i64.wrap (((gP v).length:Int) - 1)=((gP v).length:Int) - 1:=IntWalk.i64_in _ (by omega);simp only [hne,w1,hln',wx,wy,Z0,Z1,reduceCtorEq];obtain ⟨q1,⟨rfl,q2⟩ | ⟨i,hi,rfl,hs⟩⟩:=g
  ·rw [iN h] at q2;simp at q2
  ·rw [IW] at hs;rw [m002];have hQ':∀ s,Q (.str ((gP v).reverse.map fun x=>UInt8.ofNat (48+x))) s:=fun s=>by have:=hQ s;unfold PW at this;rw [show (v==0)=false by simpa using h,cond_false] at this;exact this
   exact ⟨(gP v).length+1,bOu Q (gP v) (IL v) hl i hQ' (gP v).length .nils _ (bH _) fr.adv (by rw [adv_h];exact hs) (by simp [aS]) (by rw [List.drop_length];exact fA)⟩
theorem VQ (l:List Bool):gV l < 2 ^ l.length:=by
 induction l with
 | nil=>simp [gV]
 | cons b l ih=>have:=JS b;simp only [gV,List.length_cons,Nat.pow_succ];omega
theorem MW (v u:Nat) (h:u<=v):(gP u).length<=(cS v).length:=by refine aLc _ _ ?_;have h1:=VQ (cS v);rw [rU] at h1;have h2:2 ^ (cS v).length<=10 ^ (cS v).length:=Nat.pow_le_pow_left (by decide) _;omega
theorem bPt (Q:aC) (v:Nat) (hb:(cS v).length<=2 ^ 25) (hj:∀ x s,aK s->Gw 3 1 0 s x ((gP v).map zE)->qB Q x s) :
  ∀ (m:Nat) (x:AV) (s:St),m<=(cS v).length->aK s->Gw 3 1 0 s x ((gP (v / 2 ^ m)).map zE)->eY Q (m+1) (CM (cS v)) x (.int .i64 ((m:Int) - 1)) s:=by
 intro m
 induction m with
 | zero =>intro x s hm fr g;show xK Q (eY Q 0) _ _ _ s;rw [Nat.pow_zero,Nat.div_one] at g;simp only [xK,show decide (((0:Nat):Int) - 1 >= 0)=false from rfl,wx,wy,Z0,Z1,reduceCtorEq];exact hj _ _ fr.adv g.adv
 | succ m ih =>
  intro x s hm fr g;show xK Q (eY Q (m+1)) _ _ _ s;have e1:((m+1:Nat):Int) - 1=(m:Int):=by omega
  rw [e1];have c1:decide ((m:Int) >= 0)=true:=by simp
  obtain ⟨y,hy⟩:∃ y,(cS v)[m]?=some y:=⟨_,m004 (by omega)⟩;have hix:cA 1 (CM (cS v)) (.int .i64 (m:Int))=some (.pel (AV.bool y).cells 0):=bP SD false hy .i64;have hc0:(AV.bool y).cells[0]?=some (.bool y):=rfl;have hg:=NO v m;rw [hy] at hg;have hg:y=(v / 2 ^ m % 2==1):=hg
  have hvm:2 * (v / 2 ^ (m+1))+FF y=v / 2 ^ m:=by
   rw [Nat.pow_succ,<- Nat.div_div_eq_div_mul]
   have:FF y=v / 2 ^ m % 2:=by
    rw [hg];have:v / 2 ^ m % 2=0\/v / 2 ^ m % 2=1:=by omega
    rcases this with h | h<;>rw [h]<;>rfl
   omega
  have hdb:=aPp (v / 2 ^ (m+1)) (FF y) (JS y);rw [hvm] at hdb;have w1:IntKind.i64.wrap ((m:Int) - 1)=(m:Int) - 1:=IntWalk.i64_in _ (by omega);have hdl:(gP (v / 2 ^ (m+1))).length<=2 ^ 25:=FN (MW v _ (Nat.div_le_self _ _)) hb;generalize v / 2 ^ (m+1)=u at *;have ih:=fun x s=>ih x s (by omega);rw [<- hdb.2] at ih;have hd9:=IL u;generalize gP u=d at *
  have h6:∀ (cr:Nat) (x:AV) (s:St),cr<=1->cr=cry d (FF y)->aK s->Gw 3 1 0 s x ((JU d (FF y)).map zE)->EW Q (eY Q (m+1)) (.int .i64 cr) x (.int .i64 m) (CM (cS v)) s:=by
   intro cr x s hc1 hcr fr g;have hdl2:(JU d (FF y)).length<=2 ^ 25:=by rw [UU];exact hdl
   rw [<- hcr] at ih;unfold EW;have:cr=0\/cr=1:=by omega
   rcases this with rfl | rfl
   ·rw [show Nat.blt 0 0=false from rfl,cond_false,m011] at ih;simp only [show decide (((0:Nat):Int) > 0)=false from rfl,qM,w1,wx,wy,Z0,Z1,reduceCtorEq];exact ih _ _ fr.adv g.adv
   ·rw [show Nat.blt 0 1=true from rfl,cond_true] at ih;have hb1:fZ 72 1 [(0,zE 1)]=some (.sl true [zE 1]):=eW JB (by decide) rfl rfl;have hb1':fZ 72 1 [(0,.int .i64 ((1:Nat):Int))]=some (.sl true [zE 1]):=hb1;simp only [show decide (((1:Nat):Int) > 0)=true from rfl,hb1',wx,wy,Z0,Z1,reduceCtorEq];rw [hI JB bIv g.adv (by omega) (by omega)];simp only [qM,w1,wx,wy,Z0,Z1,reduceCtorEq];exact ih _ _ (jH fr _ _ (by omega)) (tV bIv (by simp))
  have h5:∀ (s:St) (x:AV),aK s->Gw 3 1 0 s x (d.map zE)->NM Q (eY Q (m+1)) (CM (cS v)) x (.int .i64 m) (.int .i64 (FF y)) s:=by
   intro s x fr g;unfold NM;obtain ⟨q1,⟨rfl,q2⟩ | ⟨i,hi,rfl,hs⟩⟩:=g
   ·have hd0:d=[]:=by simpa using q2
    subst hd0;refine ⟨1,?_⟩;show tY Q (eY Q (m+1)) _ _ _ _ _ _ _;have c2:decide ((0:Int) < 0)=false:=rfl;simp only [tY,aUm,c2,wx,wy,Z0,Z1,reduceCtorEq];exact h6 (FF y) .nils _ (JS y) rfl fr.adv fA
   ·rw [IW] at hs;rw [m002];have hil:=oP fr hs;refine ⟨d.length+1,?_⟩;exact bOo Q (CM (cS v)) (.int .i64 m) (eY Q (m+1)) i d.length (by omega) (JU d (FF y)) (cry d (FF y)) s hil (fun s' ef hs'=>h6 _ _ s' hdb.1 rfl ef.fr ⟨fun v hv=>by obtain ⟨c,_,rfl⟩:=m021.1 hv;exact ⟨rfl,rfl⟩,.inr ⟨i,by omega,by rw [m002,UU],by rw [IW];exact hs'⟩⟩) d [] (FF y) _ (by simp) (JS y) hd9 ((EF.refl _ fr).adv) (by rw [adv_h];exact hs) rfl rfl
  cases y with
  | true =>simp only [xK,c1,hix,hc0,wx,wy,Z0,Z1,reduceCtorEq];exact h5 _ _ fr.adv g.adv
  | false =>simp only [xK,c1,hix,hc0,wx,wy,Z0,Z1,reduceCtorEq];exact h5 _ _ fr.adv g.adv
theorem c63 (a:List Nat) (hl:dB a) (ha:a.length<=2 ^ 20):aU mEv 63 [iV a] (.str (PW (val a))):=by
 refine bC (aSf _ _ ?_);unfold f63;have hvb:=NN a hl;have hln:∀ id s,bt .len #[173] [CM (cS (val a))] id s=some (.int .i64 (cS (val a)).length,s):=fun id s=>by show bt .len #[173] [.sl false ((cS (val a)).map AV.bool)] id s=_;rw [IE,m002]
 have hdl:=MW (val a) (val a) (bH _);refine aM (bEa a hl ha) (by simp [cR]) ?_;have w1:IntKind.i64.wrap (((cS (val a)).length:Int) - 1)=((cS (val a)).length:Int) - 1:=IntWalk.i64_in _ (by omega);simp only [hln,w1,wx,wy,Z0,Z1,reduceCtorEq];refine ⟨(cS (val a)).length+1,bPt _ (val a) (by omega) (fun x s fr g=>j63 _ (val a) (by omega) (fun s=>aI rfl) x s fr g) _ .nils _ (bH _) bU.adv ?_⟩;have h1:=VQ (cS (val a));rw [rU] at h1;rw [Nat.div_eq_of_lt h1];exact fA
def chD (x:Nat):UInt8:=UInt8.ofNat (48+x)
theorem II (v:Nat):PW v=bif v==0 then [48] else (gP v).reverse.map chD:=rfl
theorem aFp (k:Nat):∀ v,v < 10 ^ k->dQ k v=List.replicate (k - (gP v).length) 48++(gP v).reverse.map chD:=by
 induction k with
 | zero =>
  intro v hv;have:v=0:=by omega
  subst this;rfl
 | succ k ih =>
  intro v hv;rw [dQ,ih (v / 10) (by rw [Nat.pow_succ] at hv;omega)];by_cases h:v=0
  ·subst h;rw [Nat.zero_div,xM];simp only [List.length_nil,Nat.sub_zero,List.reverse_nil,List.map_nil,m011,Nat.zero_mod];rw [List.replicate_succ'];rfl
  ·rw [iN h];simp only [List.reverse_cons,m038,List.length_cons,Nat.add_sub_add_right,m019];rfl
theorem aLr (j:Nat):∀ (k q m:Nat),m < 10 ^ j->dQ (k+j) (q * 10 ^ j+m)=dQ k q++dQ j m:=by
 induction j with
 | zero =>
  intro k q m hm;have:m=0:=by omega
  subst this;simp [dQ]
 | succ j ih =>
  intro k q m hm;rw [<- m066,dQ,dQ];have h1:(q * 10 ^ (j+1)+m) / 10=q * 10 ^ j+m / 10:=by rw [Nat.pow_succ,<- Nat.mul_assoc];generalize q * 10 ^ j=Z;omega
  have h2:(q * 10 ^ (j+1)+m) % 10=m % 10:=by rw [Nat.pow_succ,<- Nat.mul_assoc];generalize q * 10 ^ j=Z;omega
  rw [h1,h2,ih k q (m / 10) (by rw [Nat.pow_succ] at hm;omega),m019]
theorem WN:∀ (f:Nat) (a:List Nat) (s:List UInt8),dB a->(val a=0->a=[])->val a<=f->∃ K,jB f a s=dQ K (val a)++s/\val a < 10 ^ K:=by
 intro f
 induction f with
 | zero =>intro a s hl h0 hv;have:=h0 (by omega);subst this;exact ⟨0,rfl,by decide⟩
 | succ f ih =>
  intro a s hl h0 hv
  cases ha:a with
  | nil=>exact ⟨0,rfl,by decide⟩
  | cons x t =>
   have hpos:0 < val a:=by
    rcases MZ (val a) with h | h
    ·rw [h0 h] at ha;cases ha
    ·exact h
   have hsl:=mG 1000000000 (by decide) a hl;have hsv:=wV 1000000000 (by decide) a;have hm:=pN 1000000000 (by decide) a;have e:jB (f+1) (x::t) s=jB f (aV (aZ 1000000000 a).1) (dQ 9 (aZ 1000000000 a).2++s):=by rw [ha];rfl
   obtain ⟨K,h1,h2⟩:=ih (aV (aZ 1000000000 a).1) (dQ 9 (aZ 1000000000 a).2++s) (cO hsl) (jJ hsl).1 (by rw [gM];omega);rw [gM] at h1 h2;refine ⟨K+9,?_,?_⟩
   ·rw [e,h1,<- ha,<- m019,<- hsv];congr 1;exact (aLr 9 K _ _ hm).symm
   ·rw [<- ha,<- hsv,Nat.pow_add];have h3:(10:Nat) ^ 9=1000000000:=rfl;rw [h3];generalize 10 ^ K=Z at *;omega
theorem aMk (v:Nat) (h:v≠0):∃ x t,(gP v).reverse=x::t/\x≠0/\x < 10:=by
 induction v using Nat.strongRecOn with
 | ind v ih =>
  rw [iN h,List.reverse_cons];by_cases h1:v / 10=0
  ·rw [h1,xM];exact ⟨v % 10,[],rfl,by omega,by omega⟩
  ·obtain ⟨x,t,e,h2,h3⟩:=ih (v / 10) (by omega) h1;exact ⟨x,t++[v % 10],by rw [e];rfl,h2,h3⟩
theorem QO (n:Nat) (w:List UInt8):(List.replicate n 48++w).dropWhile (·==48)=w.dropWhile (·==48):=by
 induction n with
 | zero=>rfl
 | succ n ih=>rw [List.replicate_succ,List.cons_append,List.dropWhile_cons];simp
theorem pH (a:List Nat) (hl:dB a):iJ a=PW (val a):=by
 obtain ⟨K,h1,h2⟩:=WN (val a) (aV a) [] (cO hl) (jJ hl).1 (by rw [gM];exact bH _);rw [gM,m011] at h1;rw [gM] at h2;unfold iJ;simp only [h1];rw [aFp K _ h2,QO,II];by_cases h:val a=0
 ·rw [h];rfl
 ·obtain ⟨x,t,e,h3,h4⟩:=aMk (val a) h;have hc:(chD x==48)=false:=by simp only [chD,beq_eq_false_iff_ne,ne_eq];intro hh;have:=congrArg UInt8.toNat hh;simp at this;omega
  rw [e,m039,List.dropWhile_cons,hc,show (val a==0)=false by simpa using h];simp
end
noncomputable section
structure KC (n:Nd):Prop where
 op:0<=n.op/\n.op < 2 ^ 60
 so:n.so=1\/n.so=2\/n.so=3
 a:∀ i∈n.a,0<=i/\i < 2 ^ 60
 al:n.a.length<=200
 neg:n.neg=false
 num:dB n.num
 nl:n.num.length<=2 ^ 20
 nn:aV n.num=n.num
 str:∀ r∈n.str,cV r=true
 sl:n.str.length<=65536
theorem AF {r:Int×Int} (h:cV r=true):(0<=r.1/\r.1 < 2 ^ 60)/\0<=r.2/\r.2 < 2 ^ 60:=by simp only [cV,gJ,bN,decide_eq_true_eq] at h;omega
theorem aQl {x:Nat} (h:x < 10):lN (chD x)=true:=by have:=wI h;simp only [lN,chD,this];simp;omega
theorem MU (v:Nat):∀ c∈PW v,lN c=true:=by
 rw [II]
 cases v==0 with
 | true=>intro c hc;simp only [cond_true,m008] at hc;subst hc;rfl
 | false =>intro c hc;obtain ⟨x,hx,rfl⟩:=m021.1 hc;exact aQl (IL v x (List.mem_reverse.1 hx))
theorem aBp (l:List UInt8) (c:UInt8):FL (l++[c])=10 * FL l+(c.toNat - 48):=by simp [FL]
theorem LD:∀ v:Nat,FL (PW v)=v:=by
 have key:∀ v:Nat,FL ((gP v).reverse.map chD)=v:=by
  intro v
  induction v using Nat.strongRecOn with
  | _ v ih =>
   by_cases h:v=0
   ·subst h;rfl
   ·rw [iN h,List.reverse_cons,m038];show FL (_++[chD (v % 10)])=v;rw [aBp,ih (v / 10) (by omega)];have:(chD (v % 10)).toNat=48+v % 10:=wI (by omega);omega
 intro v;rw [II]
 cases h:v==0 with
 | true=>rw [show v=0 by simpa using h];rfl
 | false=>exact key v
theorem aEg:∀ {a b:List Nat},dB a->dB b->aV a=a->aV b=b->val a=val b->a=b:=by
 have last:∀ {a:List Nat},aV a=a->a=[]\/∃ x,a[a.length - 1]?=some x/\x≠0:=by
  intro a h;have h2:=(lF a a.length (bH _)).2;have h3:gG a a.length=a.length:=by have:=congrArg List.length h;unfold aV at this;rw [m020] at this;have:=pD a a.length;omega
  rw [h3] at h2;rcases h2 with h2 | h2
  ·exact .inl (m034 h2)
  ·exact .inr h2
 have key:∀ (a b:List Nat),dB a->dB b->(a=[]\/∃ x,a[a.length - 1]?=some x/\x≠0)->(b=[]\/∃ x,b[b.length - 1]?=some x/\x≠0)->val a=val b->a=b:=by
  have pos:∀ (a:List Nat),(a=[]\/∃ x,a[a.length - 1]?=some x/\x≠0)->val a=0->a=[]:=by
   intro a h h0;rcases h with h | ⟨x,h,hx⟩
   ·exact h
   ·exfalso;have hl:a≠[]:=fun e=>by rw [e] at h;cases h
    have:∀ (a:List Nat),val a=0->∀ x∈a,x=0:=by
     intro a
     induction a with
     | nil=>intro _ x hx;cases hx
     | cons y a ih =>
      intro h x hx;simp only [val] at h;rcases m013.1 hx with rfl | hx
      ·omega
      ·exact ih (by omega) x hx
    exact hx (this a h0 x (m017 h))
  intro a
  induction a with
  | nil =>intro b _ _ _ hb e;exact (pos b hb e.symm).symm
  | cons x a ih =>
   intro b ha hb la lb e
   cases b with
   | nil=>exact pos _ la e
   | cons y b =>
    simp only [val] at e;have hx:=ha x (m007 ..);have hy:=hb y (m007 ..);rw [p32] at hx hy;have e1:x=y:=by omega
    have e2:val a=val b:=by omega
    have tl:∀ (z:Nat) (c:List Nat),(z::c=[]\/∃ x,(z::c)[(z::c).length - 1]?=some x/\x≠0)->(c=[]\/∃ x,c[c.length - 1]?=some x/\x≠0):=by
     intro z c h;rcases h with h | ⟨x,h,hx⟩
     ·cases h
     ·cases c with
      | nil=>exact .inl rfl
      | cons w c=>exact .inr ⟨x,by simpa using h,hx⟩
    rw [e1,ih b (fun z hz=>ha z (m005 _ hz)) (fun z hz=>hb z (m005 _ hz)) (tl x a la) (tl y b lb) e2]
 intro a b ha hb na nb e;exact key a b ha hb (last na) (last nb) e
theorem GZ (a:List Nat):aV (aV a)=aV a:=by
 have h3:=pD a a.length;have hl:(aV a).length=gG a a.length:=by unfold aV;rw [m020];omega
 cases ht:gG a a.length with
 | zero =>
  have:aV a=[]:=by unfold aV;rw [ht];rfl
  rw [this];rfl
 | succ m =>
  rcases (lF a a.length (bH _)).2 with h | ⟨x,hx,h0⟩
  ·omega
  ·rw [ht] at hx hl;have hm:(aV a)[m]?=some x:=by unfold aV;rw [ht,List.getElem?_take_of_lt (by omega)];simpa using hx
   have h4:gG (aV a) (aV a).length=m+1:=by
    rw [hl];simp only [gG,hm];have:(some x==some 0)=false:=by simpa using h0
    rw [this];rfl
   show (aV a).take (gG (aV a) (aV a).length)=aV a;rw [h4,<- hl,m045]
def sT (l:List (Int×Int)):List UInt8:=l.flatMap fun r=>32::cM r.1++42::cM r.2
theorem zV (l:List (Int×Int)) (R:List UInt8):∀ c∈(sT l++61::R).head?,lN c=false:=by
 intro c hc
 cases l with
 | nil=>cases hc;rfl
 | cons i a=>cases hc;rfl
theorem aYx:∀ {l l':List (Int×Int)} {R R':List UInt8},(∀ r∈l,cV r=true)->(∀ r∈l',cV r=true)->sT l++61::R=sT l'++61::R'->l=l'/\R=R':=by
 intro l
 induction l with
 | nil =>
  intro l' R R' _ _ e
  cases l' with
  | nil=>exact ⟨rfl,by simpa [sT] using e⟩
  | cons r l'=>simp [sT] at e
 | cons r l ih =>
  intro l' R R' h h' e
  cases l' with
  | nil=>simp [sT] at e
  | cons q l' =>
   have e:cM r.1++42::(cM r.2++(sT l++61::R))=cM q.1++42::(cM q.2++(sT l'++61::R')):=by simpa [sT] using e
   obtain ⟨r1,r2⟩:=AF (h r (m007 ..));obtain ⟨q1,q2⟩:=AF (h' q (m007 ..));obtain ⟨e1,e2⟩:=LZ (IN (gX r1.1) rfl) (IN (gX q1.1) rfl) e;obtain ⟨e3,e4⟩:=rD (gX r2.1) (gX q2.1) (zV l R) (zV l' R') e2;obtain ⟨e5,e6⟩:=ih (fun c hc=>h c (m005 _ hc)) (fun c hc=>h' c (m005 _ hc)) e4;have a:=qZ r1.1 r1.2 q1.1 q1.2 e1;have b:=qZ r2.1 r2.2 q2.1 q2.2 e3;exact ⟨by rw [e5,show r=q from Prod.ext a b],e6⟩
theorem aTl {n m:Nd} (hn:KC n) (hm:KC m) (e:eK n=eK m):n=m:=by
 have kq:∀ n:Nd,eK n=cM n.op++58::(cM n.so++(aT n.a++35::(iJ n.num++(sT n.str++61::n.nm)))):=fun n=>by simp [eK,aT,sT]
 have sn:∀ {n:Nd},KC n->0<=n.so/\n.so < 2 ^ 60:=fun h=>by rcases h.so with h | h | h<;>rw [h]<;>decide
 obtain ⟨e1,e2,e3⟩:=aQa hn.op hm.op (sn hn) (sn hm) hn.a hm.a e;rw [kq,kq,e1,e2,e3] at e;have e:=List.append_cancel_left e;simp only [m057,true_and] at e;have e:=List.append_cancel_left (List.append_cancel_left e);simp only [m057,true_and] at e;rw [pH _ hn.num,pH _ hm.num] at e;obtain ⟨e4,e5⟩:=rD (MU _) (MU _) (zV n.str n.nm) (zV m.str m.nm) e;have e6:val n.num=val m.num:=by rw [<- LD (val n.num),e4,LD]
 have e7:=aEg hn.num hm.num hn.nn hm.nn e6;obtain ⟨e8,e9⟩:=aYx hn.str hm.str e5;cases n;cases m;simp only at e1 e2 e3 e7 e8 e9;have a:=hn.neg;have b:=hm.neg;simp only at a b;rw [e1,e2,e3,e7,e8,e9,a,b]
def BG (B:Bk):Prop:=∀ n∈B,KC n
def TX (m n:Nd):Bool:=decide (m.a=n.a)&&decide (m.num=n.num)&&decide (m.str=n.str)&&decide (m.op=n.op)&&decide (m.so=n.so)&&decide (m.nm=n.nm)
theorem XS {m n:Nd} (hm:KC m) (hn:KC n):TX m n=(eK n==eK m):=by
 apply Bool.eq_iff_iff.2;simp only [TX,bN,decide_eq_true_eq,beq_iff_eq];constructor
 ·rintro ⟨⟨⟨⟨⟨h1,h2⟩,h3⟩,h4⟩,h5⟩,h6⟩
  unfold eK;rw [h1,h2,h3,h4,h5,h6]
 ·intro h;have:=aTl hn hm h;subst this;exact ⟨⟨⟨⟨⟨rfl,rfl⟩,rfl⟩,rfl⟩,rfl⟩,rfl⟩
theorem aTz:∀ x∈gE,x.own=-1\/x.own=0\/x.own=1\/x.own=2\/x.own=3:=by decide
theorem EZ {B:Bk} (hB:BG B) {i:Int} (h:jN B i):gH B i=1\/gH B i=2\/gH B i=3:=by
 obtain ⟨h1,h2⟩:=h;have hg:∃ n,iT B i=some n:=by simp only [iT,show ¬ (i < 0) by omega,decide_false,cond_false];exact ⟨_,m004 (by omega)⟩
 obtain ⟨n,hn⟩:=hg;simp only [gH,hn];exact (hB n (lR hn)).so
theorem PL {B:Bk} (hB:BG B) {x:sB} (hx:x∈gE):∀ (a:List Int) (i:Nat) (last:Int),(∀ i∈a,jN B i)->(last=0\/last=1\/last=2\/last=3)->(bK B x i last a=0\/bK B x i last a=1\/bK B x i last a=2\/bK B x i last a=3):=by
 intro a
 induction a with
 | nil =>
  intro i last _ hl;simp only [bK]
  cases h:(x.own==-1) with
  | true=>exact hl
  | false =>
   have h:x.own≠-1:=by simpa using h
   rcases aTz x hx with h1 | h1
   ·exact absurd h1 h
   ·exact h1
 | cons id a ih =>
  intro i last ha hl;simp only [bK]
  cases (bif x.sort i==-1 then last else x.sort i) != -2&&(bif x.sort i==-1 then last else x.sort i) != gH B id with
  | true=>exact .inl rfl
  | false=>exact ih _ _ (fun i hi=>ha i (m005 _ hi)) (.inr (EZ hB (ha id (m007 ..))))
end
noncomputable section
theorem aJs {k:Int} {x:List UInt8} (hk:sM k=true) (hx:x.length<=2 ^ 40):(kX k x).ok=true:=by
 have h0:sM 0=true:=by decide
 have:maxLen=9223372036854775807:=rfl;simp only [kX,Sx.ok,Sx.oks,h0,hk,List.length_nil,m059,m031,bN,decide_eq_true_eq];omega
theorem aPy {α:Type} {p:α->Prop} {a:α} (h1:p a):∀ x∈[a],p x:=by intro x hx;rw [m008.1 hx];exact h1
theorem aOz {nm:List UInt8} {l:List Sx} (h1:nm.length<=2 ^ 40) (h2:l.length<=2 ^ 40) (h:∀ x∈l,x.ok=true):(jP nm l).ok=true:=by have:maxLen=9223372036854775807:=rfl;exact aNd (by omega) (by omega) h
def bLe (l:List (Int×Int)):Sx:=kX 6 (jY (cC l))
def LR:List UInt8:=[116,114,117,101]
def EK:List UInt8:=[102,97,108,115,101]
section
variable (so:Int) (b neg:Bool) (n:List Nat) (l:List (Int×Int))
end
end
noncomputable section
theorem bAn (c:Int):aU mEv 119 [.int .i64 c] (.bool (gJ c)):=by
 refine bC (aLd _ _ ?_);unfold f119 gJ
 cases h:decide (c >= 0) with
 | false=>simp only [h,wx,wy,Z0,Z1,reduceCtorEq];exact aI rfl
 | true =>
  have:decide (c < 196608)=decide (c<=196607):=by rw [decide_eq_decide];omega
  simp only [h,this,wx,wy,Z0,Z1,reduceCtorEq];exact aI rfl
theorem c62 (k:Int) (x:List UInt8):aU mEv 62 [.int .i64 k,.str x] (kX k x).av:=by refine bC (aSp _ _ _ ?_);unfold f62;simp only [aBx,aVl,aLa,Bnd_some];rw [BC (by rw [adv_h,aG]) k x (.inl rfl)];simp only [Bnd_some,VT];exact ⟨[],aGo k x 10 _⟩
theorem YQ (f:Nat):∀ n acc,nK f n acc=nK f n []++acc:=by
 induction f with
 | zero=>intro n acc;rfl
 | succ f ih =>
  intro n acc;simp only [nK]
  cases Nat.ble 16 n with
  | true=>simp only [cond_true];rw [ih (n / 16) (BY n::acc),ih (n / 16) [BY n],m019];rfl
  | false=>rfl
def bBn:List UInt8:=[48,49,50,51,52,53,54,55,56,57,97,98,99,100,101,102]
theorem HW (n:Nat) (h:n < 16) (s:St):jM 9 (.str [48,49,50,51,52,53,54,55,56,57,97,98,99,100,101,102]) (some (.int .i64 (n:Int))) (some (.int .i64 ((n+1:Nat):Int))) none s=some (.str [BY n]):=by
 have:=aNy (x:=bBn) (n:=n) (j:=n+1) (s:=s) .i64 .i64 (by omega) (by show n+1<=16;omega)
 have e:((bBn.drop n).take (n+1 - n))=[BY n]:=by
  have:∀ k:Fin 16,((bBn.drop k.val).take (k.val+1 - k.val))=[BY k.val]:=by decide
  exact this ⟨n,h⟩
 rw [e] at this;exact this
theorem bOp:∀ (f n:Nat),f<=16->n < 2 ^ 62->n < 16 ^ (f+1)->aU mEv 208 [.int .i64 n] (.str (nK f n [])):=by
 intro f
 induction f with
 | zero =>
  intro n _ _ hn;have h16:n < 16:=by simpa using hn
  refine bC (MI _ _ ?_);unfold f208;have c1:decide ((n:Int) < 16)=true:=by simp;omega
  have w1:IntKind.i64.wrap ((n:Int)+1)=((n+1:Nat):Int):=by rw [IntWalk.i64_in _ (by omega)];rfl
  simp only [c1,w1,HW n h16,wx,wy,Z0,Z1,reduceCtorEq];exact aI rfl
 | succ f ih =>
  intro n hf hb hn;refine bC (MI _ _ ?_);unfold f208;simp only [nK]
  cases hc:Nat.ble 16 n with
  | false =>
   have h16:n < 16:=by
    rcases zP n 16 with h | h
    ·exact h
    ·rw [Nat.ble_eq_true_of_le h] at hc;cases hc
   have c1:decide ((n:Int) < 16)=true:=by simp;omega
   have w1:IntKind.i64.wrap ((n:Int)+1)=((n+1:Nat):Int):=by rw [IntWalk.i64_in _ (by omega)];rfl
   simp only [c1,w1,HW n h16,wx,wy,Z0,Z1,reduceCtorEq];exact aI rfl
  | true =>
   have h16:16<=n:=Nat.le_of_ble_eq_true hc;have c1:decide ((n:Int) < 16)=false:=by simp;omega
   have hrem:bn .rem 3 (.int .i64 (n:Int)) (.int .i64 16)=some (.int .i64 ((n % 16:Nat):Int)):=vY (b:=16) (by decide);have hquo:bn .quo 3 (.int .i64 (n:Int)) (.int .i64 16)=some (.int .i64 (IntKind.i64.wrap ((n / 16:Nat):Int))):=vH (b:=16) (by decide);rw [IntWalk.i64_in _ (by omega)] at hquo;have w1:IntKind.i64.wrap (((n % 16:Nat):Int)+1)=((n % 16+1:Nat):Int):=by rw [IntWalk.i64_in _ (by omega)];rfl
   have hd:BY (n % 16)=BY n:=by unfold BY;rw [Nat.mod_mod]
   have h1:=HW (n % 16) (Nat.mod_lt _ (by decide));rw [hd] at h1;have hl:=rV f (n / 16) [];simp only [List.length_nil] at hl;simp only [c1,hquo,wx,wy,Z0,Z1,reduceCtorEq];rw [bOh];refine iL (ih (n / 16) (by omega) (by omega) ?_) (by simp [AV.closed]) ?_
   ·rw [Nat.pow_succ] at hn;generalize 16 ^ (f+1)=K at *;omega
   ·simp only [hrem,w1,h1,wx,wy,Z0,Z1,reduceCtorEq];rw [eJ (by simp only [List.length_cons,List.length_nil];omega)];simp only [wx,wy,Z0,Z1,reduceCtorEq];rw [YQ f (n / 16) [BY n]];exact aI rfl
theorem bJa (n:Nat) (h:n < 2 ^ 62):aU mEv 208 [.int .i64 n] (.str (zN n)) :=
 bOp 16 n (by decide) h (Nat.lt_trans h (by decide))
theorem bNc (l:List Int) (hl:l.length<=1000) (ha:∀ c∈l,gJ c=true) (Q:aC) (hQ:∀ s,Q (.tup [.str (jY l),.int .i64 0]) s) :
  ∀ (m i:Nat) (s:St),i+m=l.length->oG Q (m+1) (.sl false (l.map dH)) (.str (jY (l.take i))) (.int .i64 i) s:=by
 intro m
 induction m with
 | zero =>
  intro i s hi;show vK Q (oG Q 0) _ _ _ s;have c1:decide ((i:Int) < (l.length:Int))=false:=by simp;omega
  rw [m014 (by omega)];simp only [vK,dX,m002,c1,CU,wx,wy,Z0,Z1,reduceCtorEq];exact hQ _
 | succ m ih =>
  intro i s hi;show vK Q (oG Q (m+1)) _ _ _ s;have c1:decide ((i:Int) < (l.length:Int))=true:=by simp;omega
  obtain ⟨c,hc⟩:∃ c,l[i]?=some c:=⟨_,m004 (by omega)⟩;have hix:=aKx false l i c hc;have hpt:=ha c (m017 hc);have hpt':=hpt;simp only [gJ,bN,decide_eq_true_eq] at hpt';have hln:(jY (l.take i)).length<=21 * 1000:=by have:=vN (l.take i);rw [m020] at this;omega
  have e:jY (l.take (i+1))=jY (l.take i)++sZ c:=by rw [m062,hc];simp [jY]
  have w1:IntKind.i64.wrap ((i:Int)+1)=((i+1:Nat):Int):=by rw [IntWalk.i64_in _ (by omega)];rfl
  have ih:=fun s=>ih (i+1) s (by omega);rw [e] at ih;simp only [vK,dX,m002,c1,hix,wx,wy,Z0,Z1,reduceCtorEq];refine aM (bAn c) (by simp [AV.closed]) ?_
  have hasc:NU c=(decide (c >= 32)&&(decide (c < 127)&&(c != 92))):=by
   unfold NU;have:decide (c < 127)=decide (c<=126):=by rw [decide_eq_decide];omega
   rw [this]
  cases hac:NU c with
  | true =>
   have hby:=JY hac;have ee:sZ c=[mT c]:=by simp [sZ,hac]
   rw [ee] at ih;rw [hasc] at hac;simp only [bN] at hac;obtain ⟨a1,a2,a3⟩:=hac;have hb1:fZ 161 1 [(0,kF (mT c))]=some (.sl true [kF (mT c)]):=eW aLt (by decide) rfl rfl;have hcv:∀ s,cv 161 9 (.sl true [kF (mT c)]) s=some (.str [mT c]):=fun s=>by show cv 161 9 (.sl true ([mT c].map oW)) s=_;simp only [cv,kG,aHm,WQ,bGu];rw [SU];simp only [Option.map_some,ON]
   simp only [hpt,a1,a2,a3,bBq,hby,hb1,hcv,wx,wy,Z0,Z1,reduceCtorEq];rw [eJ (by simp only [List.length_cons,List.length_nil];omega)];simp only [yD,w1,wx,wy,Z0,Z1,reduceCtorEq];exact ih _
  | false =>
   have ee:sZ c=[92,117,123]++zN c.toNat++[125]:=by simp [sZ,hac]
   rw [ee] at ih;have hc0:c=((c.toNat:Nat):Int):=by omega
   have hfi:=bJa c.toNat (by omega);rw [<- hc0] at hfi;have hxl:(zN c.toNat).length<=17:=by have:=rV 16 c.toNat [];exact this
   have hk:∀ s,aA (bn .add 9 (.str (jY (l.take i))) (.str [92,117,123])) fun t39 =>
     aE mEv 208 [.int .i64 c] s fun t41 s6 =>
     aA (bn .add 9 t39 t41) fun t42 =>
     aA (bn .add 9 t42 (.str [125])) fun t43 =>
     yD Q (oG Q (m+1)) (.int .i64 i) (.sl false (l.map dH)) t43 s6:=by
    intro s;rw [eJ (by simp only [List.length_cons,List.length_nil];omega)];simp only [Bnd_some];refine aM hfi (by simp [AV.closed]) ?_;rw [eJ (by simp only [m006,List.length_cons,List.length_nil];omega)];simp only [Bnd_some];rw [eJ (by simp only [m006,List.length_cons,List.length_nil];omega)];simp only [yD,w1,wx,wy,Z0,Z1,reduceCtorEq];have:=ih (Ai.adv s 3);simpa [m019] using this
   rw [hasc] at hac;simp only [Bool.and_eq_false_iff] at hac
   cases a1:decide (c >= 32) with
   | false =>simp only [hpt,a1,wx,wy,Z0,Z1,reduceCtorEq];exact hk _
   | true =>
    cases a2:decide (c < 127) with
    | false =>simp only [hpt,a1,a2,wx,wy,Z0,Z1,reduceCtorEq];exact hk _
    | true =>
     have a3:(c != 92)=false:=by rw [a1,a2] at hac;simpa using hac
     simp only [hpt,a1,a2,a3,wx,wy,Z0,Z1,reduceCtorEq];exact hk _
theorem bNm (l:List Int) (hl:l.length<=1000) (ha:∀ c∈l,gJ c=true):aU mEv 171 [.sl false (l.map dH)] (.tup [.str (jY l),.int .i64 0]):=by refine bC (aJf _ _ ?_);unfold f171;exact ⟨l.length+1,bNc l hl ha _ (fun s=>aI rfl) l.length 0 _ (by omega)⟩
theorem bJq:FX dH 1:=⟨fun _=>rfl,fun _=>rfl⟩
section
variable (l:List (Int×Int)) (hok:∀ r∈l,cV r=true) (hl:l.length<=65536)
theorem lT (id:Nat) (s:St):bt .len #[25] [.sl false (l.map cP)] id s=some (.int .i64 l.length,s):=by rw [kI,m002]
include hok hl in
theorem aYf (Q:aC) (hQ:∀ s,aK s->tQ Q (.int .i64 1000) (.sl false (l.map cP)) s):∀ (m i:Nat) (s:St),i+m=l.length->aK s->qH Q (m+1) (.sl false (l.map cP)) (.int .i64 1000) (.int .i64 i) s:=by
 intro m
 induction m with
 | zero =>
  intro i s hi fr;show uA Q (qH Q 0) _ _ _ s;have c1:decide ((i:Int) < (l.length:Int))=false:=by simp;omega
  simp only [uA,lT,c1,wx,wy,Z0,Z1,reduceCtorEq];exact hQ _ fr.adv
 | succ m ih =>
  intro i s hi fr;show uA Q (qH Q (m+1)) _ _ _ s;have c1:decide ((i:Int) < (l.length:Int))=true:=by simp;omega
  obtain ⟨r,hr⟩:∃ r,l[i]?=some r:=⟨_,m004 (by omega)⟩;have hro:=hok r (m017 hr);simp only [cV,bN,decide_eq_true_eq] at hro;have hix:=bP iW false hr .i64;have w1:IntKind.i64.wrap ((i:Int)+1)=((i+1:Nat):Int):=by rw [IntWalk.i64_in _ (by omega)];rfl
  have c3:decide (r.2 < 1)=false:=by simp;omega
  simp only [uA,lT,c1,hix,GD,wx,wy,Z0,Z1,reduceCtorEq];refine aM (bAn r.1) (by simp [AV.closed]) ?_;simp only [hro.1.1,hix,DM,c3,PG,w1,wx,wy,Z0,Z1,reduceCtorEq];exact ih (i+1) _ (by omega) fr.adv
include hok hl in
theorem bIk (hs:dS l<=1000) (Q:aC) (hQ:∀ s,aK s->xT Q (.sl false (l.map cP)) s):∀ (m i:Nat) (s:St),i+m=l.length->aK s->mV Q (m+1) (.sl false (l.map cP)) (.int .i64 (1000 - dS (l.take i))) (.int .i64 i) s:=by
 intro m
 induction m with
 | zero =>
  intro i s hi fr;show mN Q (mV Q 0) _ _ _ s;have c1:decide ((i:Int) < (l.length:Int))=false:=by simp;omega
  simp only [mN,lT,c1,wx,wy,Z0,Z1,reduceCtorEq];exact hQ _ fr.adv
 | succ m ih =>
  intro i s hi fr;show mN Q (mV Q (m+1)) _ _ _ s;have c1:decide ((i:Int) < (l.length:Int))=true:=by simp;omega
  obtain ⟨r,hr⟩:∃ r,l[i]?=some r:=⟨_,m004 (by omega)⟩;have hix:=bP iW false hr .i64;have w1:IntKind.i64.wrap ((i:Int)+1)=((i+1:Nat):Int):=by rw [IntWalk.i64_in _ (by omega)];rfl
  have d0:=nG l hok i;have hd:0<=dS (l.drop (i+1)):=DN _ fun q hq=>hok q (List.mem_of_mem_drop hq);have d1:=nG l hok (i+1);have e1:=d0.2;rw [cK l i r hr] at e1;simp only [dS] at e1;have c3:decide (r.2 > 1000 - dS (l.take i))=false:=by simp;omega
  have w2:IntKind.i64.wrap (1000 - dS (l.take i) - r.2)=1000 - dS (l.take (i+1)):=by rw [IntWalk.i64_in _ (by omega)];omega
  simp only [mN,lT,c1,hix,DM,c3,w2,IM,w1,wx,wy,Z0,Z1,reduceCtorEq];exact ih (i+1) _ (by omega) fr.adv
theorem LA (i:Nat) (r:Int×Int) (hr:l[i]?=some r):cC (l.take (i+1))=cC (l.take i)++List.replicate r.2.toNat r.1:=by rw [m062,hr];simp [cC]
include hok hl in
theorem bGk (hs:dS l<=1000) (Q:aC) (hQ:∀ x s,aK s->Gw 3 1 0 s x ((cC l).map dH)->Q (.tup [x,.int .i64 0]) s):∀ (m i:Nat) (x:AV) (s:St),i+m=l.length->aK s->Gw 3 1 0 s x ((cC (l.take i)).map dH)->eH Q (m+1) (.sl false (l.map cP)) x (.int .i64 i) s:=by
 intro m
 induction m with
 | zero =>
  intro i x s hi fr g;show wD Q (eH Q 0) _ _ _ s;have c1:decide ((i:Int) < (l.length:Int))=false:=by simp;omega
  rw [m014 (by omega)] at g;simp only [wD,lT,c1,sV,wx,wy,Z0,Z1,reduceCtorEq];exact hQ _ _ fr.adv g.adv
 | succ m ih =>
  intro i x s hi fr g;show wD Q (eH Q (m+1)) _ _ _ s;have c1:decide ((i:Int) < (l.length:Int))=true:=by simp;omega
  obtain ⟨r,hr⟩:∃ r,l[i]?=some r:=⟨_,m004 (by omega)⟩;have hro:=hok r (m017 hr);simp only [cV,bN,decide_eq_true_eq] at hro;have hix:=bP iW false hr .i64;have w1:IntKind.i64.wrap ((i:Int)+1)=((i+1:Nat):Int):=by rw [IntWalk.i64_in _ (by omega)];rfl
  have het:=LA l i r hr;have hlen:=lZ (l.take (i+1)) fun q hq=>hok q (List.mem_of_mem_take hq);have d1:=nG l hok (i+1);have hd:0<=dS (l.drop (i+1)):=DN _ fun q hq=>hok q (List.mem_of_mem_drop hq);rw [het,m006,List.length_replicate] at hlen
  have inner:∀ (m' k:Nat) (x:AV) (s:St),k+m'=r.2.toNat->aK s->Gw 3 1 0 s x ((cC (l.take i)++List.replicate k r.1).map dH)->qT Q (eH Q (m+1)) (m'+1) (.sl false (l.map cP)) x (.int .i64 i) (.int .i64 k) s:=by
   intro m'
   induction m' with
   | zero =>
    intro k x s hk fr g;show uF Q (eH Q (m+1)) (qT Q (eH Q (m+1)) 0) _ _ _ _ s;have c2:decide ((k:Int) < r.2)=false:=by simp;omega
    have hk:k=r.2.toNat:=by omega
    subst hk;simp only [uF,hix,DM,c2,tP,w1,wx,wy,Z0,Z1,reduceCtorEq];exact ih (i+1) x _ (by omega) fr.adv (by rw [het];exact g.adv)
   | succ m' ih' =>
    intro k x s hk fr g;show uF Q (eH Q (m+1)) (qT Q (eH Q (m+1)) (m'+1)) _ _ _ _ s;have c2:decide ((k:Int) < r.2)=true:=by simp;omega
    have w2:IntKind.i64.wrap ((k:Int)+1)=((k+1:Nat):Int):=by rw [IntWalk.i64_in _ (by omega)];rfl
    have hb1:fZ 72 1 [(0,dH r.1)]=some (.sl true [dH r.1]):=eW JB (by decide) rfl rfl;have hb1':fZ 72 1 [(0,.int .i64 r.1)]=some (.sl true [dH r.1]):=hb1;have hll:(cC (l.take i)++List.replicate k r.1).length<=1000:=by rw [m006,List.length_replicate];omega
    simp only [uF,hix,DM,c2,GD,hb1',wx,wy,Z0,Z1,reduceCtorEq];rw [hI JB bJq g.adv (by omega) (by omega)];simp only [RO,w2,wx,wy,Z0,Z1,reduceCtorEq];have hrep:cC (l.take i)++List.replicate (k+1) r.1=(cC (l.take i)++List.replicate k r.1)++[r.1]:=by rw [List.replicate_succ',m019]
    refine ih' (k+1) _ _ (by omega) (jH fr _ _ (by omega)) ?_;rw [hrep];exact mH bJq
  simp only [wD,lT,c1,wx,wy,Z0,Z1,reduceCtorEq];exact ⟨r.2.toNat+1,inner r.2.toNat 0 x _ (by omega) fr.adv (by simpa using g.adv)⟩
include hok hl in
theorem bNo (hs:dS l<=1000):aU mEv 170 [.sl false (l.map cP),.int .i64 1000] (.tup [.sl false ((cC l).map dH),.int .i64 0]):=by
 refine bC (LB _ _ _ ?_);unfold f170;refine ⟨l.length+1,aYf l hok hl _ (fun s fr=>?_) l.length 0 _ (by omega) bU.adv⟩;unfold tQ;simp only [show decide ((1000:Int) < 0)=false from rfl,wx,wy,Z0,Z1,reduceCtorEq];refine ⟨l.length+1,?_⟩;have:=bIk l hok hl hs (cU (.tup [.sl false ((cC l).map dH),.int .i64 0])) (fun s fr=>?_) l.length 0 (Ai.adv s 5) (by omega) fr.adv
 ·simpa [dS] using this
 ·unfold xT;refine ⟨l.length+1,bGk l hok hl hs _ (fun x s fr g=>?_) l.length 0 .nils _ (by omega) fr.adv fA⟩;obtain ⟨ids,e1,e2⟩:=nM JB g (fun _ _=>rfl) (fun _ _=>rfl) 10;refine ⟨ids,?_⟩;have hn:=g.not_closed;have h2:pur mEv.P s 11 (.int .i64 0)=some (.int .i64 0,[]):=rfl;unfold pur;rw [if_neg (by simp [AV.closed,aW,hn])];simp only [dJ,e1,h2,m011];rfl
end
theorem bDj {t e:TypeId} {z b:Nat} {ag:Bool} {s:St} (h:gI t e z ag b) {vs ws:List AV} (hv:∀ v∈vs,v.cells.length=z/\v.cells.all AV.one=true) (hw:∀ v∈ws,v.cells.length=z/\v.cells.all AV.one=true) (hne:ws≠[]) (hf:jA (vs.length+ws.length) b=true) {y:AV} (hy:aR z y s=some (ws.flatMap AV.cells)) (id:Nat) :
  bt .append #[t,t] [.sl true vs,y] id s=some (.ref id 0 (vs.length+ws.length) none e,s.set id (some (.cells ((vs++ws).flatMap AV.cells) e false true))):=by
 rw [mO h,hy,Option.bind_some];have hall:vs.all (fun v=>v.cells.length==z)=true:=m032.2 fun v hv'=>by simp [(hv v hv').1]
 have hwl:=eX hw;have hvl:=eX hv;have hpos:0 < ws.length:=List.length_pos_iff.2 hne;have hmul:0 < ws.length * z:=Nat.mul_pos hpos h.pos
 have hem:(ws.flatMap AV.cells).isEmpty=false:=by
  cases hc:ws.flatMap AV.cells with
  | nil=>rw [hc] at hwl;simp at hwl;omega
  | cons a b=>rfl
 have hones:(ws.flatMap AV.cells).all AV.one=true:=by rw [m032];intro y hy;obtain ⟨v,hv,hy⟩:=List.mem_flatMap.1 hy;exact m032.1 (hw v hv).2 y hy
 have hl2:(vs.flatMap AV.cells++ws.flatMap AV.cells).length / z=vs.length+ws.length:=by rw [m006,hvl,hwl,<- pX,CD _ h.pos]
 unfold bM;simp only [hem,hones,hall,eC,hl2,hf,kD,m025,m015,if_false,if_true];simp
theorem bMt (l:List (Int×Int)) (hok:∀ r∈l,cV r=true) (hl:l.length<=65536) (hs:dS l<=1000):aU mEv 121 [.sl false (l.map cP)] (.tup [(bLe l).av,.bool true]):=by
 refine bC (MY _ _ ?_);unfold f121;have hcl:(AV.sl false (l.map cP)).closed=true:=cJ _ _ fun _ _=>rfl;have hcl2:(AV.sl false ((cC l).map dH)).closed=true:=cJ _ _ fun _ _=>rfl;have hel:(cC l).length<=1000:=by have:=lZ l hok;omega
 simp only [jV,wx,wy,Z0,Z1,reduceCtorEq];refine aM (bNo l hok hl hs) (by simp only [m013,m052,or_false,forall_eq_or_imp,forall_eq];exact ⟨hcl,rfl⟩) ?_;simp only [show ((0:Int) != 0)=false from rfl,wx,wy,Z0,Z1,reduceCtorEq];refine aM (bNm (cC l) hel (GH l hok)) (by simp only [m013,m052,or_false,forall_eq];exact hcl2) ?_;simp only [wx,wy,Z0,Z1,reduceCtorEq];refine aM (c62 6 (jY (cC l))) (by simp [AV.closed]) ?_;rw [qA];simp only [wx,wy,Z0,Z1,reduceCtorEq,dR];exact aI (by simp only [AV.closed,aW,cZ,gA])
theorem l66 (l:List (Int×Int)) (hl:l.length<=65536) (Q:aC) (b:Bool) (hQ:∀ s,Q (.bool b) s):∀ (m i:Nat) (left:Int) (p:Option Int) (s:St),i+m=l.length->0<=left->left<=2 ^ 40->(p=if i=0 then none else (l[i - 1]?).map Prod.fst)->nR left p (l.drop i)=b ->
  yL Q (m+1) (.sl false (l.map cP)) (.int .i64 (1099511627776 - left)) (.int .i64 i) s:=by
 intro m
 induction m with
 | zero =>
  intro i left p s hi h0 h1 hp hb;show DS Q (yL Q 0) _ _ _ s;have c1:decide ((i:Int) < (l.length:Int))=false:=by simp;omega
  rw [m037 (by omega)] at hb;simp only [DS,lT,c1,OA,wx,wy,Z0,Z1,reduceCtorEq];have:b=true:=hb.symm;subst this;exact hQ _
 | succ m ih =>
  intro i left p s hi h0 h1 hp hb;show DS Q (yL Q (m+1)) _ _ _ s;have c1:decide ((i:Int) < (l.length:Int))=true:=by simp;omega
  obtain ⟨r,hr⟩:∃ r,l[i]?=some r:=⟨_,m004 (by omega)⟩;rw [cK l i r hr] at hb;simp only [nR] at hb;have hix:=bP iW false hr .i64;have w1:IntKind.i64.wrap ((i:Int)+1)=((i+1:Nat):Int):=by rw [IntWalk.i64_in _ (by omega)];rfl
  have w4:IntKind.i64.wrap (1099511627776 - (1099511627776 - left))=left:=by rw [IntWalk.i64_in _ (by omega)];omega
  have hpb:(decide (r.1 < 0)||decide (r.1 > 196607))=!(gJ r.1):=by unfold gJ;rw [Bool.eq_iff_iff];simp only [uN,decide_eq_true_eq,Bool.not_eq_true',Bool.and_eq_false_iff,decide_eq_false_iff_not];omega
  rw [<- Bool.or_assoc,hpb] at hb;simp only [DS,lT,c1,hix,GD,wx,wy,Z0,Z1,reduceCtorEq];refine aM (bAn r.1) (by simp [AV.closed]) ?_
  cases e1:gJ r.1 with
  | false =>rw [e1,m027,m033,cond_true] at hb;subst hb;simp only [hix,GD,DM,wx,wy,Z0,Z1,reduceCtorEq];exact hQ _
  | true =>
  cases e3:decide (r.2 < 1) with
  | true =>rw [e1,e3,m025,m026,m033,cond_true] at hb;subst hb;simp only [hix,GD,DM,e3,wx,wy,Z0,Z1,reduceCtorEq];exact hQ _
  | false =>
  cases e4:decide (r.2 > left) with
  | true =>rw [e1,e3,e4,m025,m026,m026,m033,cond_true] at hb;subst hb;simp only [hix,GD,DM,e3,w4,e4,wx,wy,Z0,Z1,reduceCtorEq];exact hQ _
  | false =>
  rw [e1,e3,e4,m025,m026,m026,m026] at hb;have o3:=of_decide_eq_false e3;have o4:=of_decide_eq_false e4;have w2:IntKind.i64.wrap (1099511627776 - left+r.2)=1099511627776 - (left - r.2):=by rw [IntWalk.i64_in _ (by omega)];omega
  cases i with
  | zero =>simp only [if_true] at hp;subst hp;have hb:nR (left - r.2) (some r.1) (l.drop 1)=b:=hb;simp only [hix,GD,DM,e3,w4,e4,show decide (((0:Nat):Int) > 0)=false from rfl,UQ,w1,w2,wx,wy,Z0,Z1,reduceCtorEq];exact ih 1 _ (some r.1) _ (by omega) (by omega) (by omega) (by simp only [Nat.one_ne_zero,if_false,Nat.sub_self];rw [hr];rfl) hb
  | succ k =>
   have c2:decide (((k+1:Nat):Int) > 0)=true:=by simp
   obtain ⟨q,hq⟩:∃ q,l[k]?=some q:=⟨_,m004 (by omega)⟩;have hix2:=bP iW false hq .i64;have w3:IntKind.i64.wrap (((k+1:Nat):Int) - 1)=(k:Int):=by rw [IntWalk.i64_in _ (by omega)];omega
   have hp:p=some q.1:=by rw [hp,if_neg (by omega),Nat.add_sub_cancel,hq];rfl
   subst hp;have e5:(some q.1==some r.1)=(r.1==q.1):=by show (q.1==r.1)=(r.1==q.1);rw [Bool.eq_iff_iff,beq_iff_eq,beq_iff_eq];omega
   rw [e5] at hb
   cases e6:(r.1==q.1) with
   | true =>rw [e6,cond_true] at hb;subst hb;simp only [hix,GD,DM,e3,w4,e4,c2,w3,hix2,e6,wx,wy,Z0,Z1,reduceCtorEq];exact hQ _
   | false =>rw [e6,cond_false] at hb;simp only [hix,GD,DM,e3,w4,e4,c2,w3,hix2,e6,UQ,w1,w2,wx,wy,Z0,Z1,reduceCtorEq];exact ih (k+1+1) _ (some r.1) _ (by omega) (by omega) (by omega) (by rw [if_neg (by omega),Nat.add_sub_cancel,hr];rfl) hb
theorem c66 (l:List (Int×Int)) (hl:l.length<=2 ^ 40):aU mEv 66 [.sl false (l.map cP)] (.bool (xE l)):=by
 refine bC (aTk _ _ ?_);unfold f66 xE;simp only [lT,wx,wy,Z0,Z1,reduceCtorEq]
 cases h:decide (l.length<=65536) with
 | false =>
  have h1:decide ((l.length:Int) > 65536)=true:=by simp at h ⊢;omega
  simp only [h1,wx,wy,Z0,Z1,reduceCtorEq];exact aI rfl
 | true =>
  have h2:=of_decide_eq_true h;have h1:decide ((l.length:Int) > 65536)=false:=by simp;omega
  simp only [h1,wx,wy,Z0,Z1,reduceCtorEq];have:=l66 l h2 (cU (.bool (nR 1099511627776 none l))) _ (fun s=>aI rfl) l.length 0 1099511627776 none (Ai.adv St.empty 6) (by omega) (by decide) (by decide) rfl rfl;exact ⟨l.length+1,by simpa using this⟩
end
noncomputable section
theorem bOk {q:St} {x:AV} {nm:List UInt8} {vs:List AV} {Q:aC} (fr:aK q) (hv:∀ v∈vs,v.cells.length=6/\v.cells.all AV.one=true) (hl:vs.length<=2 ^ 20) (hne:vs≠[]) (src:∀ q',EF [] q q'->aR 6 x q'=some (vs.flatMap AV.cells))
  (hQ:∀ i q',EF [] q q'->q.nx<=i->Gw 33 6 0 q' (.ref i 0 (vs.length+1) none 33) ((kX 3 nm).av::vs)->Q (sX i (vs.length+1)) q'):f65 Q (.str nm) x q:=by
 unfold f65;have b31:fZ 31 1 [(0,(kX 3 nm).av)]=some (.sl true [(kX 3 nm).av]):=eW nB (by decide) (eA _) (dD _);simp only [jV,wx,wy,Z0,Z1,reduceCtorEq];refine aM (c62 3 nm) (by simp [AV.closed]) ?_;simp only [b31,wx,wy,Z0,Z1,reduceCtorEq];have E1:EF [] q (Ai.adv (q.set q.nx (some (.cells (AV.agg [.bool false,.int .i64 0,.str [],.int .i64 0,.int .i64 0,.nils]).cells 33 true true))) 10):=((EF.refl [] fr).adv (n:=10)).set (i:=q.nx) (by simp only [adv_nx];omega) (.inl (bH _));have hap:=fun id=>bDj (s:=Ai.adv (q.set q.nx (some (.cells (AV.agg [.bool false,.int .i64 0,.str [],.int .i64 0,.int .i64 0,.nils]).cells 33 true true))) 10) nB (vs:=[(kX 3 nm).av]) (ws:=vs) (aPy ⟨eA _,dD _⟩) hv hne (rL (by simp;omega) (by simp;omega)) (src _ E1) id;simp only [hap,wx,wy,Z0,Z1,reduceCtorEq];rw [show ([(kX 3 nm).av].length+vs.length)=vs.length+1 by simp;omega];simp only [aXw,wx,wy,Z0,Z1,reduceCtorEq];rw [bJ (z:=6) (c:=(AV.agg [.bool false,.int .i64 0,.str [],.int .i64 0,.int .i64 0,.nils]).cells) (by rw [adv_h,aF (by omega),aG]) rfl rfl rfl];have hp:Ai.part 6 true 0 (sX (q.nx+7) (vs.length+1)).cells=some (sX (q.nx+7) (vs.length+1)):=rfl;have hne7:q.nx≠q.nx+7:=by omega
 simp only [wx,wy,Z0,Z1,reduceCtorEq,hp];refine hQ _ _ ?_ (by omega) ?_
 ·refine ⟨by simp only [adv_nx,set_nx];omega,fun j hj _=>by rw [adv_h,aF (by omega),aF (by omega),aF (by omega)],?_⟩;refine fun j hj=>?_;simp only [adv_nx,set_nx] at hj;rw [adv_h,aF (by omega),aF (by omega),aF (by omega)];exact fr j (by omega)
 ·refine ⟨fun v hv'=>(m013.1 hv').elim (fun e=>by subst e;exact ⟨eA _,dD _⟩) (hv v),.inr ⟨q.nx+7,by omega,by simp,?_⟩⟩;rw [adv_h,aF (by omega),aG];rfl
theorem aZv (ex:Bool) (l:List Sx) (s:St):aR 6 (.sl ex (l.map Sx.av)) s=some (flt l):=by
 have hall:(l.map Sx.av).all (fun v=>v.cells.length==6)=true:=m032.2 fun v hv=>by obtain ⟨a,_,rfl⟩:=m021.1 hv;simp [eA a]
 simp only [aR,hall,if_true,flt]
theorem bPa (nm:List UInt8) (l:List Sx) (hl:l.length<=2 ^ 20) (hne:l≠[]):aU mEv 65 [.str nm,lsA l] (jP nm l).av:=by refine bC (aTw _ _ _ ?_);have:=bOk (q:=St.empty) (x:=lsA l) (nm:=nm) (vs:=l.map Sx.av) (Q:=cU (jP nm l).av) bU (fun v hv=>by obtain ⟨a,_,rfl⟩:=m021.1 hv;exact ⟨eA a,dD a⟩) (by rw [m002];exact hl) (by simpa using hne) (fun q' _=>aZv false l q') fun i q' _ _ g=>⟨[i],by rw [m002] at g ⊢;exact CX g 10⟩;exact this
theorem l18 (items:List Sx) (hlen:items.length<=maxLen) (ih0:∀ s∈items,aU mEv 18 [s.av,s.av,.bool true] (.bool true)) (s0:Sx) (hc:∃ l k x p a,s0=.mk l k x p a items) (b1 b2:Nat) (e1 e2:TypeId) (Q:aC) (hQ:∀ s,Q (.bool true) s) :
  ∀ (m i:Nat) (s:St),i+m=items.length->s.h b1=some (.cells s0.av.cells e1 true true)->s.h b2=some (.cells s0.av.cells e2 true true)->zI Q (m+1) (.bool true) (.ptr b1 0) (.ptr b2 0) (.int .i64 i) s:=by
 obtain ⟨l,k,x,p,a,rfl⟩:=hc;intro m
 induction m with
 | zero =>
  intro i s hi hs1 hs2;show FC Q (zI Q 0) _ _ _ _ s;have c1:decide ((i:Int) < (items.length:Int))=false:=by simp;omega
  simp only [FC,MT,hs1,qX,zB,lQ,c1,wx,wy,Z0,Z1,reduceCtorEq];exact hQ _
 | succ m ih =>
  intro i s hi hs1 hs2;show FC Q (zI Q (m+1)) _ _ _ _ s;have c1:decide ((i:Int) < (items.length:Int))=true:=by simp;omega
  obtain ⟨y,hy⟩:∃ y,items[i]?=some y:=⟨_,m004 (by omega)⟩;have hix:=aNh false items i y hy;have w1:IntKind.i64.wrap ((i:Int)+1)=((i+1:Nat):Int):=by have:maxLen=9223372036854775807:=rfl;rw [IntWalk.i64_in _ (by omega)];rfl
  simp only [FC,hs1,hs2,qX,zB,lQ,c1,hix,dR,wx,wy,Z0,Z1,reduceCtorEq];refine iL (ih0 y (m017 hy)) (by simp [cZ,AV.closed]) ?_;simp only [aHk,w1,wx,wy,Z0,Z1,reduceCtorEq];exact ih (i+1) _ (by omega) (by rw [adv_h];exact hs1) (by rw [adv_h];exact hs2)
theorem c18:∀ x:Sx,x.ok=true->aU mEv 18 [x.av,x.av,.bool true] (.bool true):=by
 refine RQ fun l k t p a items ih ho=>?_;obtain ⟨h1,h2⟩:=LO ho;refine bC (aTm _ _ _ _ ?_);unfold f18;refine ⟨rfl,rfl,?_⟩;have e1:∀ i:Int,(i != i)=false:=fun i=>by simp
 have e2:∀ b:Bool,(b != b)=false:=fun b=>by cases b<;>rfl
 cases l with
 | false =>simp only [qX,bKm,e1,e2,zB,lQ,wx,wy,Z0,Z1,reduceCtorEq];exact aI rfl
 | true =>
  simp only [qX,bKm,e1,e2,zB,lQ,wx,wy,Z0,Z1,reduceCtorEq];refine ⟨items.length+1,l18 items h1 (fun s hs=>ih s hs (h2 s hs)) (Sx.mk true k t p a items) ⟨true,k,t,p,a,rfl⟩ St.empty.nx (St.empty.nx+1) 33 33 _ (fun s=>aI rfl) items.length 0 _ (by omega) ?_ ?_⟩
  ·rw [adv_h,aF (by omega),aG];rfl
  ·rw [adv_h,aG];rfl
end
noncomputable section
section
variable {s s':St} {l M:List Nat}
theorem CH {i:Nat} {b0:mK} {vs:List AV} (hv:iA vs=[i]) (hi:s.h i=some b0) (hlen:(fQ b0).length<=3999) (hl:∀ j∈fQ b0,∀ b,s.h j=some b->j=i\/fQ b=[]):∀ j,j∈rch s vs↔(j=i\/j∈fQ b0):=by
 intro j;unfold rch;rw [hv];show j∈cond (dY i []) _ (match s.h i with | none=>_ | some b=>kK s.h 3999 (fQ b++[]) (i::[]))↔_
 rw [hi];simp only [dY,cond_false,m011]
 have key:∀ (w:List Nat) (f:Nat) (seen:List Nat),i∈seen->(∀ j∈w,∀ b,s.h j=some b->j=i\/fQ b=[])->w.length<=f->∀ j,j∈kK s.h f w seen↔(j∈w\/j∈seen):=by
  intro w
  induction w with
  | nil=>intro f seen _ _ _ j;cases f<;>simp [kK]
  | cons n w ih =>
   intro f seen hs hl hf j;obtain ⟨f,rfl⟩:∃ g,f=g+1:=⟨f - 1,by simp only [List.length_cons] at hf;omega⟩;have hf':w.length<=f:=by simp only [List.length_cons] at hf;omega
   have hl':∀ j∈w,∀ b,s.h j=some b->j=i\/fQ b=[]:=fun j hj=>hl j (m005 _ hj);simp only [kK]
   cases hm:dY n seen with
   | true =>
    have:=bL.1 hm;simp only [cond_true,ih f seen hs hl' hf',m013];constructor
    ·rintro (h | h);exact .inl (.inr h);exact .inr h
    ·rintro ((rfl | h) | h);exact .inr this;exact .inl h;exact .inr h
   | false =>
    simp only [cond_false]
    have key:∀ w',w'=w->(j∈kK s.h f w' (n::seen)↔(j∈n::w\/j∈seen)):=fun w' e=>by
     subst e;rw [ih f (n::seen) (m005 _ hs) hl' hf'];simp only [m013];constructor
     ·rintro (h | rfl | h);exact .inl (.inr h);exact .inl (.inl rfl);exact .inr h
     ·rintro ((rfl | h) | h);exact .inr (.inl rfl);exact .inl h;exact .inr (.inr h)
    cases hn:s.h n with
    | none=>exact key w rfl
    | some b =>
     rcases hl n (m007 ..) b hn with rfl | hb
     ·rw [bL.2 hs] at hm;cases hm
     ·exact key _ (by rw [hb];rfl)
 rw [key _ _ _ (m008.2 rfl) hl hlen];simp only [m008];constructor
 ·rintro (h | h);exact .inr h;exact .inl h
 ·rintro (h | h);exact .inr h;exact .inl h
theorem CC (j:Nat):(s.only l).h j=if j∈l then s.h j else none:=by
 show cond (dY j l) _ _=_
 cases hm:dY j l with
 | true=>rw [if_pos (bL.1 hm)];rfl
 | false=>rw [if_neg (fun h=>by rw [bL.2 h] at hm;cases hm)];rfl
theorem aQs:(s.only l).nx=s.nx:=rfl
theorem CG (fr:aK s):aK (s.only l):=fun j hj=>by rw [CC];split;exact fr j hj;rfl
theorem AT (j:Nat):(lP s s' l).h j=if j∈l\/s.nx<=j then s'.h j else s.h j:=by
 show cond (dY j l||Nat.ble s.nx j) _ _=_
 cases hm:(dY j l||Nat.ble s.nx j) with
 | true =>simp only [uN,bL,Nat.ble_eq] at hm;rw [if_pos hm];rfl
 | false =>
  simp only [JX] at hm;rw [if_neg]
  ·rfl
  ·rintro (h | h)
   ·rw [bL.2 h] at hm;cases hm.1
   ·have h3:Nat.ble s.nx j=true:=by rw [Nat.ble_eq];exact h
    rw [h3] at hm;cases hm.2
theorem EY (h:EF M (s.only l) s') (hM:∀ j∈M,j∈l) {j:Nat} {b:mK} (hj:s'.h j=some b):(lP s s' l).h j=some b:=by
 rw [AT];by_cases hc:j∈l\/s.nx<=j
 ·rw [if_pos hc];exact hj
 ·exfalso;have h1:¬ j∈l:=fun h=>hc (.inl h);have h2:j < s.nx:=Nat.lt_of_not_le fun h=>hc (.inr h);have:=h.h j h2 (fun h=>h1 (hM j h));rw [CC,if_neg h1,hj] at this;cases this
theorem NZ (h:EF M (s.only l) s') (hM:∀ j∈M,j∈l):EF M s (lP s s' l):=by
 refine ⟨h.nx,fun j hj hn=>?_,fun j hj=>?_⟩
 ·rw [AT];by_cases hc:j∈l
  ·rw [if_pos (.inl hc),h.h j hj hn,CC,if_pos hc]
  ·rw [if_neg]
   rintro (h | h)
   ·exact hc h
   ·omega
 ·rw [AT];have hj:s'.nx<=j:=hj;have:=h.nx;rw [aQs] at this;rw [if_pos (.inr (by omega))];exact h.fr j hj
theorem LJ {h:FuncId} {args:List AV} {K:aC} (hz:mEv.fz h=false) (hc:∃ r s',WideC mEv h args (s.only l) r s'/\K r (lP s s' l)):gZ mEv h args l s K:=by obtain ⟨r,s',h1,h2⟩:=hc;exact .mk (by rw [hz];exact ⟨r,s',h1,h2⟩)
end
end
noncomputable section
section
variable {s s':St} {i:Nat} {bs t:List UInt8} {w:Bool} {F:List Nat} {K:aC}
def Bu (s:St) (i:Nat) (bs:List UInt8) (w:Bool) (F:List Nat):Prop :=
 ∃ a x,(a=.nilp\/a=.ptr i 0)/\s.h i=some (.cells [a,x] 163 true true)/\((x=.nils/\bs=[]/\F=[i])\/∃ j,j≠i/\bs≠[]/\x=.ref j 0 bs.length none 5/\s.h j=some (.cells (bs.map kF) 5 false w)/\F=[i,j])
theorem Bu.keep (h:Bu s i bs w F) (hk:∀ j∈F,s'.h j=s.h j):Bu s' i bs w F:=by
 obtain ⟨a,x,h1,h2,h3⟩:=h;rcases h3 with ⟨rfl,rfl,rfl⟩ | ⟨j,h4,h5,rfl,h6,rfl⟩
 ·exact ⟨a,_,h1,by rw [hk i (by simp)];exact h2,.inl ⟨rfl,rfl,rfl⟩⟩
 ·exact ⟨a,_,h1,by rw [hk i (by simp)];exact h2,.inr ⟨j,h4,h5,rfl,by rw [hk j (by simp)];exact h6,rfl⟩⟩
theorem Bu.have (h:Bu s i bs w F):∀ j∈F,∃ b,s.h j=some b:=by
 obtain ⟨a,x,h1,h2,h3⟩:=h;rcases h3 with ⟨rfl,rfl,rfl⟩ | ⟨k,h4,h5,rfl,h6,rfl⟩
 ·intro j hj;rw [m008.1 hj];exact ⟨_,h2⟩
 ·intro j hj;simp only [m013,m052,or_false] at hj;rcases hj with rfl | rfl
  ·exact ⟨_,h2⟩
  ·exact ⟨_,h6⟩
theorem Bu.mem (h:Bu s i bs w F):i∈F:=by obtain ⟨a,x,h1,h2,h3⟩:=h;rcases h3 with ⟨rfl,rfl,rfl⟩ | ⟨k,h4,h5,rfl,h6,rfl⟩<;>simp
theorem aK.lt (fr:aK s) {j:Nat} {b:mK} (h:s.h j=some b):j < s.nx:=Nat.lt_of_not_le fun hc=>by rw [fr j hc] at h;cases h
theorem Bu.lt (h:Bu s i bs w F) (fr:aK s):∀ j∈F,j < s.nx:=fun j hj=>by obtain ⟨b,hb⟩:=h.have j hj;exact fr.lt hb
theorem bCn (bs:List UInt8):iA (bs.map kF)=[]:=by
 induction bs with
 | nil=>rfl
 | cons c l ih=>simp only [m039,iA,ih];rfl
theorem Bu.rch (h:Bu s i bs w F) {vs:List AV} (hv:iA vs=[i]):∀ j,j∈rch s vs↔j∈F:=by
 obtain ⟨a,x,h1,h2,h3⟩:=h;intro j;rcases h3 with ⟨rfl,rfl,rfl⟩ | ⟨k,h4,h5,rfl,h6,rfl⟩
 ·rw [CH hv h2]
  ·rcases h1 with rfl | rfl<;>simp [fQ,iA,gF]
  ·rcases h1 with rfl | rfl<;>simp [fQ,iA,gF]
  ·intro j hj b hb;rcases h1 with rfl | rfl
   ·simp [fQ,iA,gF] at hj
   ·simp [fQ,iA,gF] at hj;exact .inl hj
 ·rw [CH hv h2]
  ·rcases h1 with rfl | rfl<;>simp [fQ,iA,gF]
  ·rcases h1 with rfl | rfl<;>simp [fQ,iA,gF]
  ·intro j hj b hb;have hk:∀ b,s.h k=some b->fQ b=[]:=fun b hb=>by rw [h6] at hb;cases hb;exact bCn bs
   rcases h1 with rfl | rfl
   ·simp [fQ,iA,gF] at hj;subst hj;exact .inr (hk b hb)
   ·simp [fQ,iA,gF] at hj;rcases hj with rfl | rfl
    ·exact .inl rfl
    ·exact .inr (hk b hb)
theorem JR (bs:List UInt8):(bs.map kF).flatMap AV.cells=bs.map kF:=jO fun v hv=>by obtain ⟨c,_,rfl⟩:=m021.1 hv;rfl
theorem Bu.gw (h:Bu s i bs true F):∃ a x,(a=.nilp\/a=.ptr i 0)/\s.h i=some (.cells [a,x] 163 true true)/\Gw 5 1 0 s x (bs.map kF)/\F=i::aS x/\(∀ j∈aS x,j≠i):=by
 obtain ⟨a,x,h1,h2,h3⟩:=h;rcases h3 with ⟨rfl,rfl,rfl⟩ | ⟨k,h4,h5,rfl,h6,rfl⟩
 ·exact ⟨a,_,h1,h2,fA,rfl,fun j hj=>by cases hj⟩
 ·refine ⟨a,_,h1,h2,⟨fun v hv=>by obtain ⟨c,_,rfl⟩:=m021.1 hv;exact ⟨rfl,rfl⟩,.inr ⟨k,hO _,by rw [m002],by rw [JR];exact h6⟩⟩,rfl,fun j hj=>?_⟩;simp only [aS,m008] at hj;subst hj;exact h4
theorem aDn (x:AV) (bs:List UInt8) (id:Nat) (s:St):bt .append #[161,9] [x,.str bs] id s=bt .append #[161,161] [x,.sl false (bs.map kF)] id s:=by
 rw [VJ,mO UO];have hall:(bs.map kF).all (fun v=>v.cells.length==1)=true:=m032.2 fun v hv=>by obtain ⟨c,_,rfl⟩:=m021.1 hv;rfl
 have hsrc:aR 1 (.sl false (bs.map kF)) s=some (bs.map kF):=by simp only [aR,hall,if_true,JR]
 rw [hsrc];rfl
theorem aFs (h:Bu s i bs true F) (fr:aK s) (hk:∀ s',Bu s' i bs true F->EF [i] s s'->K (.tup []) s'):aY mEv 202 [.ptr i 0] s K:=by
 obtain ⟨a,x,h2,h3,hx⟩:=h;have hi:=fr.lt h3;refine mI aYd (PA _ _ ?_);refine ⟨rfl,?_⟩;rcases h2 with rfl | rfl
 ·simp only [h3,aEp,wz,wy,Z0];rw [cv1 (a:=.nilp) (x:=x) (by simp only [adv_h];exact h3)];simp only [Bnd_some];refine mI aVy ⟨_,_,VZ i _,?_⟩;rw [cv2 (a:=.nilp) (x:=x) (by simp only [adv_h];exact h3)];simp only [wz,wy,Z0];refine ⟨rfl,?_⟩;rw [pQ (c:=[.nilp,x]) (by simp only [adv_h];exact h3) (by simp) rfl rfl];simp only [Bnd_some];refine hk _ ⟨.ptr i 0,x,.inr rfl,by rw [aG];rfl,?_⟩ ((EF.refl _ fr).adv.set (by show i < s.nx+13;omega) (.inr (by simp)));rcases hx with hx | ⟨j,h4,h5,h6,h7,h8⟩
  ·exact .inl hx
  ·exact .inr ⟨j,h4,h5,h6,by rw [aF h4];exact h7,h8⟩
 ·simp only [h3,aHy,wz,wy,Z0];refine ⟨rfl,?_⟩;simp only [h3,aWe,wz,wy,Z0];exact hk _ ⟨.ptr i 0,x,.inr rfl,h3,hx⟩ (EF.refl _ fr).adv
theorem aXf (h:Bu s i bs true F) (fr:aK s) (ht:t≠[]) (hlen:bs.length+t.length<=2 ^ 40) :
  ∃ r s',WideC mEv 156 [.ptr i 0,.str t] s r s'/\r=.tup [.int .i64 t.length,.nili]/\∃ F',Bu s' i (bs++t) true F'/\EF F s s'/\∀ j∈F',j∈F\/s.nx<=j:=by
 refine LI _ _ _ ?_;unfold f156;refine aFs (h.keep (s':=Ai.adv s 4) fun j _=>rfl) fr.adv fun s1 b1 e1=>?_;have hiF:=h.mem;have e1:EF F s s1:=((EF.refl F fr).adv (n:=4)).trans e1 fun j hj=>by rw [m008.1 hj];exact .inr hiF
 obtain ⟨a,x,h2,h3,h4,rfl,h5⟩:=b1.gw;have hx1:∀ j∈aS x,j < s1.nx:=h4.id_lt e1.fr;have hi:i < s1.nx:=e1.fr.lt h3;have happ:=KE (vs:=bs.map kF) (ws:=t.map kF) UO (h4.adv (n:=10)) (fun v hv=>by obtain ⟨c,_,rfl⟩:=m021.1 hv;exact ⟨rfl,rfl⟩) (by simpa using ht) (rL (by simp only [m002];omega) (by simp only [m002];omega)) false (s1.nx+6);refine ⟨rfl,?_⟩;simp only [h3,aDn,happ,wz,wy,Z0];refine ⟨rfl,?_⟩;have hne:i ∉ aS x:=fun hh=>h5 i hh rfl;have hni:¬ (i=s1.nx+6):=by omega
 have h3':((((Ai.adv s1 10).drop (aS x)).set (s1.nx+6) (some (.cells ((bs.map kF++t.map kF).flatMap AV.cells) 5 false true)))).h i=some (.cells [a,x] 163 true true):=by rw [get_set,if_neg hni,get_drop',if_neg hne,adv_h];exact h3
 rw [pQ (c:=[a,x]) h3' (by simp) rfl rfl];simp only [Bnd_some,ME];refine ⟨trivial,[i,s1.nx+6],⟨a,_,h2,by rw [adv_h,aG];rfl,.inr ⟨s1.nx+6,by omega,by simp [ht],by simp,?_,rfl⟩⟩,?_,?_⟩
 ·rw [adv_h,aF (by omega),aG,<- m038,JR]
 ·have hn:=e1.nx;refine (EF.set ?_ (by simp only [set_nx,nx_drop,adv_nx];omega) (.inr hiF)).adv;refine EF.set ?_ (by simp only [nx_drop,adv_nx];omega) (.inl (by omega));exact e1.adv.drop fun j hj=>.inr (m005 _ hj)
 ·intro j hj;have hn:=e1.nx;simp only [m013,m052,or_false] at hj;rcases hj with rfl | rfl
  ·exact .inl hiF
  ·exact .inr (by omega)
theorem aYw (h:Bu s i bs w F) (fr:aK s) (hne:bs≠[]) (hlen:bs.length<=2 ^ 40):∃ r s',WideC mEv 108 [.ptr i 0] s r s'/\r=.str bs/\Bu s' i bs false F/\EF F s s':=by
 have hF:=h.mem;obtain ⟨a,x,h1,h3,h4⟩:=h;rcases h4 with ⟨_,h5,_⟩ | ⟨j,hji,_,rfl,hs,rfl⟩
 ·exact absurd h5 hne
 refine OB _ _ ?_;refine ⟨rfl,?_⟩;have hpos:0 < bs.length:=List.length_pos_iff.2 hne;have hj:=fr.lt hs;have e1:∀ k (q:St),q.h j=some (.cells (bs.map kF) 5 false w)->bt .unsafeSliceData #[161] [.ref j 0 bs.length none 5] k q=some (.ptr j 0,q):=fun k q hq=>by simp [bG,hq,hpos]
 have e2:∀ k (q:St),bt .len #[161] [.ref j 0 bs.length none 5] k q=some (.int .i64 (bs.length:Nat),q):=fun k q=>by kernel_rfl
 have e3:∀ k (q:St),q.h j=some (.cells (bs.map kF) 5 false w)->bt .unsafeString #[220,3] [.ptr j 0,.int .i64 (bs.length:Nat)] k q=some (.str bs,q.set j (some (.cells (bs.map kF) 5 false false))):=fun k q hq=>by
  have h1:dZ (bX mEv).P 220=some (.pointer 5):=by kernel_rfl
  have h2:eN (bX mEv).P 5=some (1,false):=by kernel_rfl
  have hm:(bs.length:Int)<=(most:Int):=by unfold most;omega
  have hr:((bs.map fun c=>(c.toNat:Int)).all fun n=>decide (0<=n)&&decide (n < 256))=true:=m032.2 fun n hn=>by obtain ⟨c,_,rfl⟩:=m021.1 hn;have:=c.toNat_lt;simp;omega
  have htk:(bs.map kF).take bs.length=bs.map kF:=m014 (by simp);simp only [bt,bG,h1,hq,h2,Int.toNat_natCast,m002,bH,hm,htk,u8s,Option.bind_some,hr,if_true,aEn,and_self,true_and,and_true];rw [if_pos (by omega)]
 simp only [h3,wz,wy,Z0];rw [e1 _ _ (by rw [adv_h];exact hs)];simp only [wz,wy,Z0];refine ⟨rfl,?_⟩;simp only [h3,e2,wz,wy,Z0];refine ⟨fr _ (by omega),?_⟩;rw [e3 _ (Ai.adv s 13) hs];simp only [wz,wy,Z0];exact ⟨trivial,⟨a,_,h1,by rw [aF hji.symm];exact h3,.inr ⟨j,hji,hne,rfl,aG,rfl⟩⟩,(EF.refl _ fr).adv.set (by show j < s.nx+13;omega) (.inr (by simp))⟩
theorem VA (hz:Bu s i bs true F) (fr:aK s) (ht:t≠[]) (hlen:bs.length+t.length<=2 ^ 40) (hk:∀ s' F',Bu s' i (bs++t) true F'->EF F s s'->(∀ j∈F',j∈F\/s.nx<=j)->K (.tup [.int .i64 t.length,.nili]) s'):aY mEv 156 [.ptr i 0,.str t] s K:=by obtain ⟨r,s',h1,rfl,F',h2,h3,h4⟩:=aXf hz fr ht hlen;exact mI aEw ⟨_,s',h1,hk s' F' h2 h3 h4⟩
theorem TJ {l:List Nat} {f:FuncId} (hz:Bu s i bs true F) (fr:aK s) (ht:t≠[]) (hlen:bs.length+t.length<=2 ^ 40) (hl:l=rch s [.fn f [] [],.ptr i 0,.str t]) (hk:∀ s' F',Bu s' i (bs++t) true F'->EF F s s'->(∀ j∈F',j∈F\/s.nx<=j)->K (.tup [.int .i64 t.length,.nili]) s'):gZ mEv 156 [.ptr i 0,.str t] l s K:=by
 have hm:∀ j,j∈l↔j∈F:=fun j=>by rw [hl];exact hz.rch rfl j
 have hz':Bu (s.only l) i bs true F:=hz.keep fun j hj=>by rw [CC,if_pos ((hm j).2 hj)]
 obtain ⟨r,s',h1,rfl,F',h2,h3,h4⟩:=aXf hz' (CG fr) ht hlen;refine LJ aEw ⟨_,s',h1,hk _ F' ?_ (NZ h3 fun j hj=>(hm j).2 hj) h4⟩;exact h2.keep fun j hj=>by obtain ⟨b,hb⟩:=h2.have j hj;rw [hb];exact EY h3 (fun j hj=>(hm j).2 hj) hb
theorem aHc {l:List Nat} {f:FuncId} (hz:Bu s i bs w F) (fr:aK s) (hne:bs≠[]) (hlen:bs.length<=2 ^ 40) (hl:l=rch s [.fn f [] [],.ptr i 0]) (hk:∀ s',Bu s' i bs false F->EF F s s'->K (.str bs) s'):gZ mEv 108 [.ptr i 0] l s K:=by
 have hm:∀ j,j∈l↔j∈F:=fun j=>by rw [hl];exact hz.rch rfl j
 have hz':Bu (s.only l) i bs w F:=hz.keep fun j hj=>by rw [CC,if_pos ((hm j).2 hj)]
 obtain ⟨r,s',h1,rfl,h2,h3⟩:=aYw hz' (CG fr) hne hlen;refine LJ aUo ⟨_,s',h1,hk _ ?_ (NZ h3 fun j hj=>(hm j).2 hj)⟩;exact h2.keep fun j hj=>by obtain ⟨b,hb⟩:=h2.have j hj;rw [hb];exact EY h3 (fun j hj=>(hm j).2 hj) hb
end
end
end Go.Proofs.YtdehdahimkcakaaGreatDoor
