/- Lemmas. -/
import Derived.Test.YtikhfhjohjfamaaGreatDoorPU
set_option linter.unusedVariables false
set_option linter.unusedSimpArgs false
set_option maxRecDepth 100000
namespace Go.Proofs.Q
open Go Go.Bb Go.RowKit Go.Proofs.Lg
open Go.Ab (D RD)
set_option maxHeartbeats 8000000 in
theorem ah(r:aI Tryz.prog 33 [] (dB true))(s:ar)(h:u0 s)(n:Nat)(hn:n<256)(m:Meta)(h1:m.author.size<=maxLen)(h2:m.message.size<=maxLen):
  aI Tryz.prog 9 [.sl 37 (s.map aX),.sc (.int .u8 n),.agg (eS m)] (dB true):=by
 have B:=RE h;by_cases N:o8 aq s=true
 .rw[N]at B;by_cases hl:s.length=0
  .have R:((s.length:Int)==0)=true:=by simp[hl]
   refine aL Tryz.f9 ?_ [100005] [[107,7,9,0,8,105,106],[119,8,0,9,7,117,107,105,106,118]]
   repeat' first|refine ab (λ_=> ?_) λ_=> ?_|refine aH ?_|refine af.data (B) rfl ?_|refine af.data (r) rfl ?_|simp only[R,wj,wy,qg,aE,reduceCtorEq,reduceIte,Nat.reduceAdd,Nat.reduceMul,Nat.reduceEqDiff,Nat.reduceLT,Nat.reduceLeDiff,Nat.reduceSub,ax,aD,aB,aw]
   all_goals first|rfl|trace_state
  have R:((s.length:Int)==0)=false:=by rw[beq_eq_false_iff_ne];omega
  by_cases hi:IntKind.i64.wrap ((m.author.size:Int)+(m.message.size:Int))>1500
  .have hd:=decide_eq_true hi;refine aL Tryz.f9 ?_ [100005] [[107,7,9,0,8,105,106],[119,8,0,9,7,117,107,105,106,118]]
   repeat' first|refine ab (λ_=> ?_) λ_=> ?_|refine aH ?_|refine af.data (B) rfl ?_|refine af.data (r) rfl ?_|simp only[R,hd,wj,wy,qg,aE,reduceCtorEq,reduceIte,Nat.reduceAdd,Nat.reduceMul,Nat.reduceEqDiff,Nat.reduceLT,Nat.reduceLeDiff,Nat.reduceSub,ax,aD,aB,aw]
   all_goals first|rfl|trace_state
  have hd:=decide_eq_false hi;obtain⟨G,a6⟩:=oG.fine h N;obtain⟨hc,j⟩:=RF h N;obtain⟨T,hZ⟩:=GR h (by unfold o8 at N;simp at N;exact N.1);have a2:n % s.length<s.length:=Nat.mod_lt _ a8;obtain⟨x,hx⟩: ∃x,s[n % s.length]?=some x:=⟨_,bQ a2⟩
  have P:x∈s:=bR hx;obtain⟨F,o,_⟩:=j x P;obtain⟨d1,d2,d3⟩:=DX F o h1 h2;have Q:=Zy s (ez G.len (by decide)) G.v.sorted G.pat x.id m λp hg=>by
   rw[iT G.v.sorted.nodup x P]at hg;obtain rfl:=aJ hg;exact⟨d1,d2,Kt _⟩
  have H:IntKind.i64.wrap (n:Int)=(n:Int):=bN rfl a8;have e2:(n:Int).tmod (s.length:Int)=((n % s.length:Nat):Int):=rfl;have e3:(if(s.length:Int)≠0 then some (Value.int IntKind.i64 ((n % s.length:Nat):Int))else none)=some (Value.int IntKind.i64 ((n % s.length:Nat):Int)):=if_pos a8;obtain⟨t,d,e,ha⟩: ∃t d e,kF s x.id m=(t,d,e):=⟨_,_,_,rfl⟩
  rw[ha]at Q;unfold nA at Q;dsimp only at Q;by_cases he:e=0
  .obtain⟨ck,g,C,i,W⟩:=Po hc P m ha he;subst he;have U:gh t:=⟨by rw[g];exact T.len,λy f=>by
    rcases i y f with rfl|f
    .exact d1
    .exact T.pat y f⟩
   have V: ∀y∈t,oD y.pat.changes:=λy f=>by
    rcases i y f with rfl|f
    .exact d3
    .exact hZ y f
   have GT:oG t:=⟨mw aq ck,by rw[g];exact G.len,λy f=>by
    rcases i y f with rfl|f
    .exact⟨d1,d2⟩
    .exact G.pat y f⟩
   have w:=uJ t d;rw[C,eF,nS]at w;have K:=VQ t U V;rw[ck]at K;have el:((t.length:Int) !=(s.length:Int))=false:=by rw[g];simp
   have cs:=G.alive;have ct:=GT.alive;have c: ∀y∈s,∀a∈(ew aq y.pat).1,qV t (if a.id.p=x.id then{a.id with p:=d}else a.id)=qV s a.id:=λy f a a1=>by
    rw[a0N G.v,a0N GT.v,W a ⟨y,f,a1⟩]
   have cB: ∀y∈s,aI Tryz.prog 42 [.agg (br y.pat)] (.tup [.sl 172 ((ew aq y.pat).1.map aO),dI (ew aq y.pat).2]):=λy f=>Ls y.pat (T.pat y f);have I: ∀y∈s,(ew aq y.pat).1.length<=1000000:=λy f=>by
    obtain⟨F,o,k3⟩:=j y f;have a3:=(G.pat y f).2;have:=Ds a3;rw[Ha (λhh=>uE G.v y f (by rw[(G.v.id y f).2]at hh;exact hh))]at this;omega
   obtain⟨q,Y⟩: ∃q,q=fI x.pat m:=⟨_,rfl⟩
   have q1:q.author=m.author:=by rw[Y];rfl
   have q2:q.message=m.message:=by rw[Y];rfl
   have q3:q.time=m.time:=by rw[Y];rfl
   rw[<-Y]at w;have b1:(!m.author.toList==m.author.toList)=false:=by rw[BEq.rfl];rfl
   have S:(!m.message.toList==m.message.toList)=false:=by rw[BEq.rfl];rfl
   have D: ∀u:Bool,((AV.key false (.d (.sc (.bool u)))).bind λus=>(AV.key false (.d (.sc (.bool u)))).bind λvs=>(bJ [SK.b] us vs).map λb=>AV.d (.sc (.bool !b)))=some (.d (.sc (.bool false))):=by intro u;cases u<;>rfl
   have b3:(m.time !=m.time)=false:=by simp
   clear G GT U V T hZ W i C ck hc j Y ha d1 d2 d3 F o g;refine aL Tryz.f9 ?_ [100005] [[107,7,9,0,8,105,106],[119,8,0,9,7,117,107,105,106,118]]
   repeat' first|refine ab (λ_=> ?_) λ_=> ?_|refine aH ?_|refine af.data (B) rfl ?_|refine af.data (Q) rfl ?_|refine af.data (w) rfl ?_|refine af.data (K) rfl ?_|simp only[R,hd,H,e2,e3,hx,el,q1,q2,q3,b1,S,b3,bne_self_eq_false,rU,dG,fw,bH,fg,iF,fy,b9,aM,wj,wy,qg,aE,reduceCtorEq,reduceIte,Nat.reduceAdd,Nat.reduceMul,Nat.reduceEqDiff,Nat.reduceLT,Nat.reduceLeDiff,Nat.reduceSub,ax,aD,aB,aw]
   refine aZ.overI s (λk (b:List aa)=>[(107,iN k)]) (λ_ b=>b) (λ_ _=>()) () (λ_ b=>b[0]?=some (.cells ((au x.id).map .d))/\b[1]?=some (.cells ((au d).map .d))) _ a8 aA aA rfl rfl ⟨rfl,rfl⟩ (λk b y X hk M a4 _ hJ=> ?_) (λb M _ hJ=> ?_)
   .obtain⟨j0,j1⟩:=hJ;have f:=bR X;have cB:=cB y f;have I:=I y f;have c:=c y f;obtain⟨A,hA⟩: ∃A,A=(ew aq y.pat).1:=⟨_,rfl⟩
    obtain⟨E,hE⟩: ∃E,E=(ew aq y.pat).2:=⟨_,rfl⟩
    rw[<-hA,<-hE]at cB;rw[<-hA]at I c;clear hA hE B Q w K R H e2 e3 hx
    repeat' first|refine ab (λ_=> ?_) λ_=> ?_|refine aH ?_|refine af.data (cB) rfl ?_|simp only[M,X,rU,fg,bH,aM,wj,wy,qg,aE,reduceCtorEq,reduceIte,Nat.reduceAdd,Nat.reduceMul,Nat.reduceEqDiff,Nat.reduceLT,Nat.reduceLeDiff,Nat.reduceSub,ax,aD,aB,aw]
    refine aZ.overI A (λk (b:List aa)=>[(119,iN k)]) (λ_ b=>b) (λ_ _=>()) () (λ_ b=>b[0]?=some (.cells ((au x.id).map .d))/\b[1]?=some (.cells ((au d).map .d))) _ a8 aA aA rfl rfl ⟨bz j0 _,bz j1 _⟩ (λo S a O a5 z a0 _ L=> ?_) (λS z _ L=> ?_)
    .obtain⟨i0,i1⟩:=L;have f0: ∀J,(S++J)[0]?=some (.cells ((au x.id).map .d)):=λJ=>bz i0 J;have f1: ∀J,(S++J)[1]?=some (.cells ((au d).map .d)):=λJ=>bz i1 J;have l:=c a (bR O);have F:=cs a.id;by_cases hp:a.id.p=x.id
     .have H:decide (a.id.p=x.id)=true:=by simpa using hp
      rw[if_pos hp]at l;have o:=ct {a.id with p:=d};rw[l]at o;obtain⟨u,Z⟩: ∃u,u=qV s a.id:=⟨_,rfl⟩
      rw[<-Z]at F o;clear c cs ct l Z;cases u<;>
      repeat' first|refine ab (λ_=> ?_) λ_=> ?_|refine aH ?_|refine af.data (F) rfl ?_|refine af.data (o) rfl ?_|simp only[z,a0,O,D,H,f0,f1,cG,bB,aN,b9,aM,wj,wy,qg,aE,reduceCtorEq,reduceIte,Nat.reduceAdd,Nat.reduceMul,Nat.reduceEqDiff,Nat.reduceLT,Nat.reduceLeDiff,Nat.reduceSub,ax,aD,aB,aw]
      all_goals exact⟨_,rfl,rfl,rfl,f0 _,f1 _⟩
     .have H:decide (a.id.p=x.id)=false:=by simpa using hp
      rw[if_neg hp]at l;have o:=ct a.id;rw[l]at o;obtain⟨u,Z⟩: ∃u,u=qV s a.id:=⟨_,rfl⟩
      rw[<-Z]at F o;clear c cs ct l Z;cases u<;>
      repeat' first|refine ab (λ_=> ?_) λ_=> ?_|refine aH ?_|refine af.data (F) rfl ?_|refine af.data (o) rfl ?_|simp only[z,a0,O,D,H,f0,f1,cG,bB,aN,b9,aM,wj,wy,qg,aE,reduceCtorEq,reduceIte,Nat.reduceAdd,Nat.reduceMul,Nat.reduceEqDiff,Nat.reduceLT,Nat.reduceLeDiff,Nat.reduceSub,ax,aD,aB,aw]
      all_goals exact⟨_,rfl,rfl,rfl,f0 _,f1 _⟩
    .repeat' first|refine ab (λ_=> ?_) λ_=> ?_|refine aH ?_|simp only[z,a4,wj,wy,qg,aE,reduceCtorEq,reduceIte,Nat.reduceAdd,Nat.reduceMul,Nat.reduceEqDiff,Nat.reduceLT,Nat.reduceLeDiff,Nat.reduceSub,ax,aD,aB,aw]
     exact L
   .repeat' first|refine ab (λ_=> ?_) λ_=> ?_|refine aH ?_|refine af.data (r) rfl ?_|simp only[M,wj,wy,qg,aE,reduceCtorEq,reduceIte,Nat.reduceAdd,Nat.reduceMul,Nat.reduceEqDiff,Nat.reduceLT,Nat.reduceLeDiff,Nat.reduceSub,ax,aD,aB,aw]
    all_goals first|rfl|trace_state
  .have ht:=H6 hc x.id m ha he;subst ht;have e4:(e !=0)=true:=by simpa using he
   clear j hZ T;refine aL Tryz.f9 ?_ [100005] [[107,7,9,0,8,105,106],[119,8,0,9,7,117,107,105,106,118]]
   repeat' first|refine ab (λ_=> ?_) λ_=> ?_|refine aH ?_|refine af.data (B) rfl ?_|refine af.data (Q) rfl ?_|refine af.data (r) rfl ?_|simp only[R,hd,H,e2,e3,e4,hx,beq_self_eq_true,rU,fw,fg,iF,fy,b9,aM,wj,wy,qg,aE,reduceCtorEq,reduceIte,Nat.reduceAdd,Nat.reduceMul,Nat.reduceEqDiff,Nat.reduceLT,Nat.reduceLeDiff,Nat.reduceSub,ax,aD,aB,aw]
   all_goals first|rfl|trace_state
 .rw[show o8 aq s=false by simpa using N]at B;refine aL Tryz.f9 ?_ [100005] [[107,7,9,0,8,105,106],[119,8,0,9,7,117,107,105,106,118]]
  repeat' first|refine ab (λ_=> ?_) λ_=> ?_|refine aH ?_|refine af.data (B) rfl ?_|refine af.data (r) rfl ?_|simp only[wj,wy,qg,aE,reduceCtorEq,reduceIte,Nat.reduceAdd,Nat.reduceMul,Nat.reduceEqDiff,Nat.reduceLT,Nat.reduceLeDiff,Nat.reduceSub,ax,aD,aB,aw]
  all_goals first|rfl|trace_state
end Go.Proofs.Q
