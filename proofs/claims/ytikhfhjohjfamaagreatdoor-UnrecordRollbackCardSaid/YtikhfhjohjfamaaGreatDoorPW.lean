/- Lemmas. -/
import Derived.Test.YtikhfhjohjfamaaGreatDoorPU
set_option linter.unusedVariables false
set_option linter.unusedSimpArgs false
set_option maxRecDepth 100000
namespace Go.Proofs.Q
open Go Go.Bb Go.RowKit Go.Proofs.Lg
open Go.Ab (D RD)
def cR(v:AV):List AV:=(vj.set 0 (.d (dI 7))).set 138 v
theorem su(v:AV):(cR v).length=139:=by simp[cR,vj,vi,dV]
theorem bn(v:AV):(cR v).take 139=cR v:=dL (by rw[su];exact bg _)
theorem Q9:ba vj 0 1 [.d (dI 7)]=some (cR (.nil 33)):=by rfl
theorem HC(v w:AV):ba (cR v) 138 1 [w]=some (cR w):=by rfl
theorem HB(v:AV):(cR v)[138]?=some v:=by rfl
theorem aS:lE (cR (.nil 33))=none:=by rfl
theorem bl(i:Nat)(l:List (List D)):lE (cR (.tsl i 33 l))=none:=by rfl
theorem Qa:toLs (cR (.nil 33))=some (aR {az.zero with kind:=7,over:=[]}):=by rfl
theorem Qb(i:Nat)(l:List ak):toLs (cR (.tsl i 33 (l.map ae)))=some (aR {az.zero with kind:=7,over:=l}):=by rfl
theorem HQ(c:az)(a:List AV)(h:toLs a=some (aR c))(b:a.length=139):lU 139 1 a=some (.d (.sl 139 [aR c])):=by
 unfold lU;rw[if_pos ⟨by rw[b],by decide⟩,h,eY];have:=vR 139 [aR c] λr e=>by rw[jH.1 e];exact dV c
 simp only[oJ,gG,List.flatten_nil,bq]at this;rw[this]
set_option maxHeartbeats 4000000 in
theorem W4(s:ar)(d:Dg)(m:Meta)(H: ∀p,bh s d=some p->bS p/\p.changes.length<=400/\yg p=((dp p).length:Int))(f: ∀p,bh s d=some p->(dp p).length<=400->bS (lW d (dp p).length m)):
  aI Tryz.prog 35 [.sl 37 (s.map aX),.agg (au d),.agg (eS m)] (.tup [.agg (br (qv s d m).1),dI (qv s d m).2]):=by
 have g:=uJ s d;unfold qv;cases q:bh s d with
 |none=>
  rw[q]at g;refine aL Tryz.f35 ?_ [100004,100005,300023,300028,300039,100040,100044,300045,300052] [[12,11,4,5,6,10]]
  repeat' first|refine ab (λ_=> ?_) λ_=> ?_|refine aH ?_|refine af.data (g) rfl ?_|simp only[jY,kA,qD,dG,b9,bH,iF,aM,wj,wy,qg,aE,reduceCtorEq,reduceIte,Nat.reduceAdd,Nat.reduceMul,Nat.reduceEqDiff,Nat.reduceLT,Nat.reduceLeDiff,Nat.reduceSub,ax,aD,aB,aw]
  all_goals first|rfl|trace_state
 |some p=>
  rw[q]at g;obtain⟨U,W,G⟩:=H p q;have h:=VB p U a8;rw[G]at h;have f:=f p q;dsimp only;obtain⟨N,F⟩: ∃N,N=(dp p).length:=⟨_,rfl⟩
  rw[<-F]at h f⊢;clear F G H q;by_cases E:400<N
  .have u:decide ((N:Int)>400)=true:=by simp;omega
   rw[if_pos E];refine aL Tryz.f35 ?_ [100004,100005,300023,300028,300039,100040,100044,300045,300052] [[12,11,4,5,6,10]]
   repeat' first|refine ab (λ_=> ?_) λ_=> ?_|refine aH ?_|refine af.data (g) rfl ?_|refine af.data (h) rfl ?_|simp only[u,eF,nS,qD,dG,b9,bH,iF,aM,wj,wy,qg,aE,reduceCtorEq,reduceIte,Nat.reduceAdd,Nat.reduceMul,Nat.reduceEqDiff,Nat.reduceLT,Nat.reduceLeDiff,Nat.reduceSub,ax,aD,aB,aw]
   all_goals first|rfl|trace_state
  .have u:decide ((N:Int)>400)=false:=by simp;omega
   have f:=f a8;rw[if_neg E];refine aL Tryz.f35 ?_ [100004,100005,300023,300028,300039,100040,100044,300045,300052] [[12,11,4,5,6,10]]
   repeat' first|refine ab (λ_=> ?_) λ_=> ?_|refine aH ?_|refine af.data (g) rfl ?_|refine af.data (h) rfl ?_|simp only[u,Q9,aS,su,gF,eF,nS,dG,b9,bH,iF,aM,wj,wy,qg,aE,reduceCtorEq,reduceIte,Nat.reduceAdd,Nat.reduceMul,Nat.reduceEqDiff,Nat.reduceLT,Nat.reduceLeDiff,Nat.reduceSub,ax,aD,aB,aw]
   refine aZ.overI (List.range N) (λk (b:AV×List aa)=>[(12,iN k)]) (λk b=>[.cells zV,.cells ((br p).map .d),.cells (cR b.1)]++b.2) (λ_ _=>()) () (λk b=>(k=0/\b=(.nil 33,[]))\/(0<k/\b=(.tsl 3 33 ((fV d k).map ae),[.row 32 33 k]))) (.nil 33,[]) (by rw[dX];omega) aA aA rfl rfl (.inl ⟨rfl,rfl⟩) (λk b x S T a I _ i=> ?_) (λb a _ i=> ?_)
   .rw[dX]at a T;have y:bw 1 40=true:=by decide
    have z:bw (k+1) 40=true:=room_le a8 a8;have Y:(⟨d,(k:Int)⟩:ak)=⟨d,(k:Int)⟩:=rfl;rcases i with⟨rfl,rfl⟩|⟨c,rfl⟩
    .have w:decide ((0:Int)<(N:Int))=true:=by simpa using a
     repeat' first|refine ab (λ_=> ?_) λ_=> ?_|refine aH ?_|simp only[w,a,I,y,bl,HB,HC,su,fy,fe,aN,b9,aM,wj,wy,qg,aE,reduceCtorEq,reduceIte,Nat.reduceAdd,Nat.reduceMul,Nat.reduceEqDiff,Nat.reduceLT,Nat.reduceLeDiff,Nat.reduceSub,ax,aD,aB,aw]
     exact⟨(.tsl 3 33 ((fV d 1).map ae),[.row 32 33 1]),rfl,rfl,.inr rfl⟩
    .have Q:=wK d k
     repeat' first|refine ab (λ_=> ?_) λ_=> ?_|refine aH ?_|simp only[a,I,z,Q,bl,HB,HC,su,fy,fe,aN,b9,aM,wj,wy,qg,aE,reduceCtorEq,reduceIte,Nat.reduceAdd,Nat.reduceMul,Nat.reduceEqDiff,Nat.reduceLT,Nat.reduceLeDiff,Nat.reduceSub,ax,aD,aB,aw]
     refine⟨(.tsl 3 33 ((fV d (k+1)).map ae),[.row 32 33 (k+1)]),?_,.inr ⟨Nat.succ_pos _,rfl⟩⟩;rw[KN];simp
   .rw[dX]at a i;rw[dX];have e:=λl=>LI {aU.zero with changes:=[{az.zero with kind:=7,over:=l}]} m;have t:=F9 _ f;have R: ∀v,lU 139 1 (cR v)=lU 139 1 (cR v):=λ_=>rfl;have r: ∀v,ba ((aR az.zero).map .d) 0 139 (cR v)=some (cR v):=λv=>iE (by simp[dV]) (su v)
    have K: ∀v,ba vi 0 139 (cR v)=some (cR v):=λv=>iE (by simp[vi,dV]) (su v);have X:cR (.nil 33)=cR (.nil 33):=rfl;have A: ∃v J l,b=(v,J)/\l=fV d N/\lU 139 1 (cR v)=some (.d (.sl 139 [aR {az.zero with kind:=7,over:=l}]))/\lE (cR v)=none:=by
     rcases i with⟨c,rfl⟩|⟨c,rfl⟩
     .exact⟨_,_,[],rfl,by rw[c];rfl,HQ _ _ Qa (su _),aS⟩
     .exact⟨_,_,fV d N,rfl,rfl,HQ _ _ (Qb 3 _) (su _),bl _ _⟩
    obtain⟨v,J,l,rfl,rfl,L,M⟩:=A;have B:ba qD 4 1 [.d (.sl 139 [aR {az.zero with kind:=7,over:=fV d N}])]=some ((br {aU.zero with changes:=[{az.zero with kind:=7,over:=fV d N}]}).map .d):=rfl
    have C:ba ((br aU.zero).map .d) 4 1 [.d (.sl 139 [aR {az.zero with kind:=7,over:=fV d N}])]=some ((br {aU.zero with changes:=[{az.zero with kind:=7,over:=fV d N}]}).map .d):=rfl;have o:fI {aU.zero with changes:=[{az.zero with kind:=7,over:=fV d N}]} m=lW d N m:=rfl;have e:=e (fV d N);rw[o]at e
    obtain⟨V,j⟩: ∃P:aU,P={aU.zero with changes:=[{az.zero with kind:=7,over:=fV d N}]}:=⟨_,rfl⟩
    obtain⟨D,n⟩: ∃P:aU,P=lW d N m:=⟨_,rfl⟩
    rw[<-j]at e B C;rw[<-n]at e t⊢;clear j n o i f g h;by_cases c:gj D=0
    .rw[c]at t;rw[if_neg (by simpa using c)]
     repeat' first|refine ab (λ_=> ?_) λ_=> ?_|refine aH ?_|refine af.data (e) rfl ?_|refine af.data (t) rfl ?_|simp only[a,L,M,bne_self_eq_false,B,C,su,bn,K,r,dG,bH,iF,aM,wj,wy,qg,aE,reduceCtorEq,reduceIte,Nat.reduceAdd,Nat.reduceMul,Nat.reduceEqDiff,Nat.reduceLT,Nat.reduceLeDiff,Nat.reduceSub,ax,aD,aB,aw]
     all_goals first|rfl|trace_state
    .have O:(gj D !=0)=true:=by simpa using c
     rw[if_pos c]
     repeat' first|refine ab (λ_=> ?_) λ_=> ?_|refine aH ?_|refine af.data (e) rfl ?_|refine af.data (t) rfl ?_|simp only[a,L,M,O,B,C,su,bn,K,r,qD,dG,bH,iF,aM,wj,wy,qg,aE,reduceCtorEq,reduceIte,Nat.reduceAdd,Nat.reduceMul,Nat.reduceEqDiff,Nat.reduceLT,Nat.reduceLeDiff,Nat.reduceSub,ax,aD,aB,aw]
     all_goals first|rfl|trace_state
set_option maxHeartbeats 4000000 in
theorem a0V(f:aI Tryz.prog 33 [] (dB true))(s:ar)(h:u0 s)(d:Dg)(m:Meta)(i:m.author.size<=maxLen)(j:m.message.size<=maxLen):
  aI Tryz.prog 8 [.sl 37 (s.map aX),.agg (au d),.agg (eS m)] (dB true):=by
 have g:=RE h;by_cases l:o8 aq s=true
 .rw[l]at g;by_cases A:IntKind.i64.wrap ((m.author.size:Int)+(m.message.size:Int))>1500
  .have r:=decide_eq_true A;refine aL Tryz.f8 ?_ [100004,100005]
   repeat' first|refine ab (λ_=> ?_) λ_=> ?_|refine aH ?_|refine af.data (g) rfl ?_|refine af.data (f) rfl ?_|simp only[r,wj,wy,qg,aE,reduceCtorEq,reduceIte,Nat.reduceAdd,Nat.reduceMul,Nat.reduceEqDiff,Nat.reduceLT,Nat.reduceLeDiff,Nat.reduceSub,ax,aD,aB,aw]
   all_goals first|rfl|trace_state
  .have r:=decide_eq_false A;obtain⟨E,B,n⟩:=J7 h l;obtain⟨q,c⟩:=RF h l;have F:=mw aq q;have hdescr: ∀p,bh s d=some p->bS (fI p m)/\db (fI p m)/\oD (fI p m).changes:=λp b=>by
    obtain⟨x,a,_,rfl⟩:=Jo b;obtain⟨H,I,_⟩:=c x a;exact DX H I i j
   have k:bS (fI ((bh s d).getD .zero) m)/\oD (fI ((bh s d).getD .zero) m).changes:=by
    cases b:bh s d with
    |none=>exact⟨(DX O9 (by decide) i j).1,(DX O9 (by decide) i j).2.2⟩
    |some p=>exact⟨(hdescr p b).1,(hdescr p b).2.2⟩
   have C:=Nv s B (λx a=>(n x a).1) d m λp _ t=>Mj i j t;have D:=W4 s d m (λp b=>by
    obtain⟨x,a,_,rfl⟩:=Jo b;have:=(n x a).1.2.chg;exact⟨(n x a).1.1,by omega,QJ (c x a).2.2⟩) λp _ t=>(Mj i j t).1
   have v:=Zy s B F.sorted (λx a=>(n x a).1) d m λp b=>⟨(hdescr p b).1,(hdescr p b).2.1,Kt _⟩
   have o:=W2 s d m E k.1 k.2;rw[Pk q]at o;have u: ∀x∈(kF s d m).1,x.pat.changes.length<=9223372036854775807:=λx a=>by
    obtain⟨y,G,e⟩:=Pn q d m x a;rw[e];exact ez (h.pat y G).changes sQ
   have w:=Fc (qv s d m).1 (qv s d m).1 (by
    unfold qv
    (repeat' split)<;>first|exact fG _|exact Nat.succ_le_succ (fG _)|decide)
   have z:=VV (kF s d m).1 (kF s d m).1 u;simp only[decide_true]at w z;unfold nA at v o;refine aL Tryz.f8 ?_ [100004,100005]
   repeat' first|refine ab (λ_=> ?_) λ_=> ?_|refine aH ?_|refine af.data (g) rfl ?_|refine af.data (f) rfl ?_|refine af.data (C) rfl ?_|refine af.data (D) rfl ?_|refine af.data (v) rfl ?_|refine af.data (o) rfl ?_|refine af.data (w) rfl ?_|refine af.data (z) rfl ?_|simp only[r,beq_self_eq_true,dG,fw,b9,bH,iF,aM,wj,wy,qg,aE,reduceCtorEq,reduceIte,Nat.reduceAdd,Nat.reduceMul,Nat.reduceEqDiff,Nat.reduceLT,Nat.reduceLeDiff,Nat.reduceSub,ax,aD,aB,aw]
   all_goals first|rfl|trace_state
 .rw[show o8 aq s=false by simpa using l]at g;refine aL Tryz.f8 ?_ [100004,100005]
  repeat' first|refine ab (λ_=> ?_) λ_=> ?_|refine aH ?_|refine af.data (g) rfl ?_|refine af.data (f) rfl ?_|simp only[wj,wy,qg,aE,reduceCtorEq,reduceIte,Nat.reduceAdd,Nat.reduceMul,Nat.reduceEqDiff,Nat.reduceLT,Nat.reduceLeDiff,Nat.reduceSub,ax,aD,aB,aw]
  all_goals first|rfl|trace_state
end Go.Proofs.Q
