/- Part of a proof. -/
import Derived.Test.YtfoljakejdgfcaaGreatDoorPBT
set_option linter.unusedVariables false
set_option linter.unusedSimpArgs false
namespace Go.Proofs.Q
open Go Go.Bb Go.RowKit Go.Proofs.Lg
open Go.Ab (D RD)
theorem Px(l:List Dg)(v:l.length≤1000000)(g:FuncId)(o n:List AV)(a:Dg→Bool)(s:List aa)(e: ∀(x:Dg) (K:AV→List aa→Nat→Prop),x∈l→(∀m,K (.d (dB (a x))) s m)→aj Tryz.prog (.clo g o n) [.d (.agg (aq x))] s K):
  aT Tryz.prog 202 [.d (.sl 32 (l.map aq)),.clo g o n] s fun d t=>d= .d (dI (dU a l 0))∧t=s:=by
 refine aT.of (F:=yD) Rv (by simp[yD]) ?_;simp only[yD];refine aw @wj trivial ?_;refine aX.overI l (fun k (b:Unit)=>[(8,iN k)]) (fun _ _=>s) (fun r _=>dU a r (l.length-r.length)) (dU a l 0) (fun _ _=>True) () a8 aA aA rfl (by rw[ia]) trivial (fun k _ x hg u f j c _=> ?_) (fun _ f c _=> ?_)
 ·have p:l.length-(x::l.drop (k+1)).length=k:=by rw[aU,ax];omega
  have q:l.length-(l.length-(k+1))=k+1:=by omega
  rw[p,dU]at c;have h:=e x;by_cases i:a x=true
  ·rw[if_pos i]at c;rw[i]at h
   repeat' first|refine ak (fun _=> ?_) fun _=> ?_|(refine h _ (bT hg) (fun m=> ?_))|refine bb (ga @f (ga @j (ga @hg @wj))) trivial ?_|exact ba (ga @f (ga @j (ga @hg @wj))) trivial|fail
   all_goals rw[c]
  ·rw[if_neg i]at c;rw[show a x=false by simpa using i]at h
   repeat' first|refine ak (fun _=> ?_) fun _=> ?_|(refine h _ (bT hg) (fun m=> ?_))|refine bb (ga @f (ga @j (ga @hg @wj))) trivial ?_|exact ba (ga @f (ga @j (ga @hg @wj))) trivial|fail
   all_goals exact⟨(),by rw[q];exact c⟩
 ·rw[dU]at c;refine aw (ga @f @wj) trivial ?_
  all_goals rw[c]
theorem O9(l:List Dg)(j:l.length≤1000000)(g:FuncId)(f c:List AV)(a:Dg→Bool)(s:List aa)(b: ∀(x:Dg) (K:AV→List aa→Nat→Prop),x∈l→(∀i,K (.d (dB (a x))) s i)→aj Tryz.prog (.clo g f c) [.d (.agg (aq x))] s K):
  aT Tryz.prog 147 [.d (.sl 32 (l.map aq)),.clo g f c] s fun d k=>d= .d (dB (l.any a))∧k=s:=by
 have h:=Px l j g f c a s b;have e:=yk a l 0;refine aT.of (F:=yy) Rr (by simp[yy]) ?_;simp only[yy]
 repeat' first|refine ak (fun _=> ?_) fun _=> ?_|refine bb (ga @e @wj) @h ?_|exact ba (ga @e @wj) @h|fail
 all_goals first|rfl|exact⟨rfl,rfl⟩|(simp_all;done)|trace_state
structure OS(G:MD)(a m b g0:Nat)(O:List Dg)(s:List aa):Prop where
 ha:s[a]?=some (.cells [.mp m])
 hm:s[m]?=some (.map true (cM (fb O)))
 hb:s[b]?=some (.cells [.mp g0])
 hg:s[g0]?=some (.map true (cM G))
theorem Hu(O:List Dg)(d:Dg):((eE d (fb O) 0).map (·.2)).getD (.d (dB false))= .d (dB (bN O d)):=by
 have h:=yd d O 0;by_cases a:bN O d=true
 ·rw[if_pos a]at h;obtain⟨j,b⟩:=h;rw[b,a];rfl
 ·rw[if_neg a]at h;rw[h,show bN O d=false by simpa using a];rfl
theorem UE{G:MD}{a m b f:Nat}{O:List Dg}{s:List aa}(h:OS G a m b f O s)(d:Dg):aT Tryz.prog 191 [.d (.agg (aq d)),.ptr a 0] s fun v i=>v= .d (dB (!bN O d))∧i=s:=by
 obtain⟨ha,hm,hb,hg⟩:=h;have e:=mw d (fb O) 0;have c:=Hu O d;obtain⟨q,g⟩: ∃q,q=eE d (fb O) 0:=⟨_,rfl⟩
 rw[←g]at e c;refine aT.of (F:=zJ) Sw (by simp[zJ]) ?_;simp only[zJ]
 repeat' first|refine ak (fun _=> ?_) fun _=> ?_|refine bb (ga @ha (ga @hm (ga @e (ga @c @wj)))) trivial ?_|exact ba (ga @ha (ga @hm (ga @e (ga @c @wj)))) trivial|fail
 all_goals(rename_i h;rw[h];rfl)
theorem OZ{l:aP}(b:(bA l).Nodup){x:bU}(c:x∈l): ∃i,eE x.id (gS l) 0=some (i,.d (.sl 32 ((bB x.pat).map aq))):=by
 suffices h: ∀(l:aP) (k:Nat),(bA l).Nodup→x∈l→ ∃i,eE x.id (gS l) k=some (i,.d (.sl 32 ((bB x.pat).map aq)))from h l 0 b c;intro l
 induction l with
 |nil=>intro k _ h;cases h
 |cons y l f=>
  intro k a h;unfold bA at a;rw[bO,mb]at a;show∃i,(if x.id=y.id then some (k,_)else eE x.id (gS l) (k+1))=_;rcases bY.1 h with rfl|h
  ·exact⟨k,if_pos rfl⟩
  ·rw[if_neg fun(e:x.id=y.id)=>a.1 (by rw[←e];exact j3 h)];exact f (k+1) a.2 h
def nz(O:List Dg)(x:bU):Bool:= !bN O x.id&&(bB x.pat).all (bN O ·)
theorem UF{l:aP}{a m b p:Nat}{O:List Dg}{s:List aa}(h:OS (gS l) a m b p O s)(j:(bA l).Nodup){x:bU}(y:x∈l)(u:(bB x.pat).length≤1000000):aT Tryz.prog 190 [.d (.agg (b8 x)),.ptr a 0,.ptr b 0] s fun v o=>v= .d (dB (nz O x))∧o=s:=by
 have k:=O9 (bB x.pat) u 191 [] [.ptr a 0] (fun d=> !bN O d) s (fun d K _ r=>aj.fn ((UE h d).mono (by rintro _ o ⟨rfl,rfl⟩;exact r 2)));obtain⟨ha,hm,hb,hg⟩:=h;have g:=mw x.id (fb O) 0;have c:=Hu O x.id;obtain⟨q,w⟩: ∃q,q=eE x.id (fb O) 0:=⟨_,rfl⟩
 rw[←w]at g c;have f:=mw x.id (gS l) 0;obtain⟨i,t⟩:=OZ j y;rw[t]at f;have e:nz O x=(!bN O x.id&& !((bB x.pat).any fun d=> !bN O d)):=by
  unfold nz;congr 1;rw[List.not_any_eq_all_not];congr 1;funext d;simp
 rw[e];refine aT.of (F:=zI) Sv (by simp[zI]) ?_;simp only[zI];by_cases n:bN O x.id=true
 ·rw[n]at c⊢;exact bx (ga @ha (ga @hm (ga @g (ga @c @wj)))) trivial
 ·rw[show bN O x.id=false by simpa using n]at c⊢
  repeat' first|simp only[eY]|refine ak (fun _=> ?_) fun _=> ?_|refine bb (ga @ha (ga @hm (ga @hb (ga @hg (ga @g (ga @c (ga @f @wj))))))) @k ?_|exact ba (ga @ha (ga @hm (ga @hb (ga @hg (ga @g (ga @c (ga @f @wj))))))) @k|fail
  all_goals(rename_i h;rw[h];rfl)
def jG(l:aP):Nat→List Dg→List Dg
 |0,O=>O
 |n+1,O=>if dU (nz O) l 0<0 then O else jG l n (O++[((l[(dU (nz O) l 0).toNat]?).map (·.id)).getD .zero])
theorem Ql(O:List Dg)(d:Dg):fb O++[(d,.d (dB true))]=fb (O++[d]):=by simp[fb]
theorem OS.app{G:MD}{a m b c:Nat}{O:List Dg}{s:List aa}(h:OS G a m b c O s)(J:List aa):OS G a m b c O (s++J):=⟨bt h.ha J,bt h.hm J,bt h.hb J,bt h.hg J⟩
set_option maxHeartbeats 2000000 in
theorem UG(l:aP)(P:l.length≤100000)(L: ∀x∈l,cV x.pat∧e8 x.pat)(A: ∀x∈l,(bB x.pat).length≤1000000)(p:(bA l).Nodup):aE Tryz.prog 137 [.sl 37 (l.map b8)] (.sl 32 ((jG l l.length []).map aq)):=by
 have D:=HL l a8 L p;refine aI (F:=zH) Su (by simp[zH]) ?_;simp only[zH]
 repeat' first|refine ak (fun _=> ?_) fun _=> ?_|refine aD ?_|(refine aj.fn (D.mono ?_);rintro _ g ⟨rfl,hg⟩)|simp only[wj,wy,qg,aC,reduceCtorEq,reduceIte,Nat.reduceAdd,Nat.reduceMul,Nat.reduceEqDiff,Nat.reduceLT,Nat.reduceLeDiff,Nat.reduceSub,ax,aB,ay,au]
 obtain⟨n,e⟩: ∃n,n=g.length:=⟨_,rfl⟩
 have I:0<n:=by rw[e];exact(aR.1 hg).1
 have a:OS (gS l) (n+2) (n+1) n 0 [] (g++[aa.cells [AV.mp 0],aa.map true [],aa.cells [AV.mp (n+1)],aa.row 25 32 0]):=
  ⟨by rw[e];simp,by rw[e];simp[fb,cM],by rw[e];simp,bP hg _⟩
 have h:(g++[aa.cells [AV.mp 0],aa.map true [],aa.cells [AV.mp (n+1)],aa.row 25 32 0])[n+3]?=some (.row 25 32 0):=by rw[e];simp
 rw[←e];generalize g++[aa.cells [AV.mp 0],aa.map true [],aa.cells [AV.mp (n+1)],aa.row 25 32 0]=s0 at a h⊢;clear hg D e
 refine aX.overI l (fun k (b:List Dg×List aa)=>[(12,iN k),(5,.tsl (n+3) 32 (b.1.map aq))]) (fun _ b=>b.2) (fun r b=>jG l r.length b.1) (jG l l.length []) (fun k b=>OS (gS l) (n+2) (n+1) n 0 b.1 b.2∧b.2[n+3]?=some (.row 25 32 b.1.length)∧b.1.length=k) ([],s0) a8 aA aA rfl rfl ⟨a,h,rfl⟩ (fun k b x hg N i M c u=> ?_) (fun b i c u=> ?_)
 ·obtain⟨O,s⟩:=b;obtain⟨a,f,d⟩:=u;dsimp only at c a f d;have m:=Dv l a8 190 [] [.ptr (n+2) 0,.ptr n 0] (nz O) s (fun y K E G=>aj.fn ((UF a p E (A y E)).mono (by rintro _ g ⟨rfl,rfl⟩;exact G 2)));rw[aU,jG]at c;rcases vw (nz O) l 0 with⟨q,t⟩|⟨j,y,q,t,h3,h4⟩
  ·rw[q]at m c;rw[if_pos (by decide)]at c;rw[c]
   repeat' first|refine ak (fun _=> ?_) fun _=> ?_|refine bb (ga @i @wj) @m ?_|exact ba (ga @i @wj) @m|fail
   all_goals first|rfl|trace_state
  ·rw[q,au]at m c;have z:decide ((j:Int)<0)=false:=by simp
   rw[if_neg a8,gW,t,eY,ic]at c;have B:bN O y.id=false:=by unfold nz at h3;simp at h3;exact h3.1
   have H:dC dD (cj y.id) (cM (fb O)) 0=some none:=by
    rw[mw];have:=yd y.id O 0;rw[B]at this;simpa using this
   have C:br (O.length+1) 32=true:=room_le a8 a8;obtain⟨ha,hm,hb,w⟩:=a;have J:fc 25 32 O.length s[n+3]?=true:=by rw[f];simp[fc]
   have v: ∀o,(s.set (n+1) o)[n+3]?=some (.row 25 32 O.length):=fun o=>by rw[bs a8];exact f
   repeat' first|refine ak (fun _=> ?_) fun _=> ?_|refine aD ?_|(refine aj.fn (m.mono ?_);rintro _ g ⟨rfl,rfl⟩)|simp only[i,M,z,t,ha,hm,H,C,v,fc,wu,tu,Ql,jm,bc,aL,decide_true,wj,wy,qg,aC,reduceCtorEq,reduceIte,Nat.reduceAdd,Nat.reduceMul,Nat.reduceEqDiff,Nat.reduceLT,Nat.reduceLeDiff,Nat.reduceSub,ax,aB,ay,au]
   refine⟨(O++[y.id],_),by simp,rfl,?_,⟨?_,?_,?_,?_⟩,?_,by dsimp only;simp;omega⟩
   ·rw[c,ax]
   ·dsimp only;rw[bs a8,bs a8];exact ha
   ·dsimp only;rw[bs a8,dJ (aR.1 hm).1]
   ·dsimp only;rw[bs a8,bs a8];exact hb
   ·dsimp only;rw[bs a8,bs a8];exact w
   ·dsimp only;rw[dJ (by rw[iB];exact(aR.1 f).1)];simp
 ·obtain⟨O,s⟩:=b;obtain⟨a,f,d⟩:=u;dsimp only at c a f d;rw[aY,jG]at c;rw[c];exact bx (ga @i @wj) trivial
  all_goals first|rfl|trace_state
end Go.Proofs.Q
