/- Lemmas. -/
import Derived.Test.YtikhfhjohjfamaaGreatDoorPAR
import Derived.Test.YtikhfhjohjfamaaGreatDoorPAT
set_option linter.unusedVariables false
set_option linter.unusedSimpArgs false
set_option maxRecDepth 100000
namespace Go.Proofs.Q
open Go Go.Bb Go.RowKit Go.Proofs.Lg
open Go.Ab (D RD)
def nA(r:ar×Dg×Int):D:= .tup [.sl 37 (r.1.map aX),.agg (au r.2.1),dI r.2.2]
end Go.Proofs.Q
namespace Go.Bb
open Go Go.RowKit Go.Ab Go.Proofs.Lg
theorem AC.freezeV{P:Program}{N:Nat}{cc:CC}{Q:Exit->Fr->List aa->Prop}{fr fr':Fr}{s:List aa}{i e sz n:Nat}{rows:List (List D)}(Z:s[i]?=some (.vec e sz (rows.flatten.map .d)))(T:0<sz)(Y:rows.length=n)(a3:0<n)(G: ∀r∈rows,r.length=sz)
  (R: ∀t x,Bb.look fr' t=some x->Bb.look fr t=some x\/(Bb.look fr t=some (.vec i n sz)/\x= .d (.sl sz rows))) (h:AC P N none cc Q fr' (s.set i .junk)):AC P N none cc Q fr s:=by
 obtain⟨e',H,s1,hq,hr⟩:=h;refine⟨e',H,s1,hq,λc hc B k a w r h0 h1 W m=> ?_⟩;obtain⟨v,n2,xs,hb,b,hI,X,z⟩:=m.vec Z;have O:rows.flatten.length=n*sz:=by rw[Go.Ab.flatten_len rows G,Y]
 rw[aM,O]at X;obtain rfl:n=n2:=mf T X;rcases b.2 with⟨_,hz⟩|⟨g,cap,cur,hv,hbg,hg,hnc,hcm,hcs,htake⟩
 .omega
 have K:k.I g=0:=hI g (by rw[hv];rfl);have hm:Mono k w ⟨dE k.I g (n*sz),k.own⟩ w:=⟨λC o u f L=>by
  refine⟨?_,L⟩;show o<dE k.I g (n*sz) C;by_cases e:C=g
  .subst e;rw[K]at f;omega
  .rw[ix _ _ e];exact f,λid o f=>⟨o,f,dM.refl o⟩⟩
 have y:(Own.row v n).block=some g:=by rw[hv];rfl
 have hx:Ext B k w ⟨dE k.I g (n*sz),k.own⟩ w:=⟨hm,Below.refl _ _,λC a0=>ix _ _ a8,λ_ _ _=>rfl,λid o C f y _=>⟨o,f,y⟩⟩
 have S:St (dH P) B ⟨dE k.I g (n*sz),k.own⟩ (s.set i .junk) w:=by
  refine⟨m.base,by simp[m.len],λid x o l f=> ?_,m.lies,m.apart,m.glob⟩;by_cases e:id=i
  .subst e;rw[ej (aV.1 Z).1]at l;obtain rfl:=aJ l;cases o<;>trivial
  .rw[bC (Ne.symm e)]at l;refine(m.obj id x o l f).same hm λC p=>⟨rfl,ix _ _ ?_⟩
   intro V;rw[V]at p;exact m.apart id i o _ g e f hb p y
 have q: ∀(j:Nat) (u:Value),xs[j]?=some u->w.cell? ⟨g,j,none⟩=some u:=λj u A=>by
  have:=b.cells (g:=g) (by rw[hv];rfl) j u A;rw[fW]at this;simpa using this
 have a4:xs.length=n*sz:=b.1;have hf:FR ⟨dE k.I g (n*sz),k.own⟩ w a fr':=λt x U=>by
  rcases R t x U with h4|⟨h4,rfl⟩
  .exact(W t x h4).mono hm
  .obtain⟨_,u,n',E,a1,M⟩:=(W t _ h4).vec_inv;rw[hb]at E;cases E;rw[M rfl,hv];have F:=z.mono hm;refine .d (RD.sl_mk Y G hnc (by unfold maxLen at hcm;omega) ⟨z.1.trans (aM ..),z.2.1,λj u d A hd=>(F.2.2 j u (.d d) A (by rw[dj,hd];rfl)).d_inv⟩ λ_=>⟨g,0,rfl,λj u A=>⟨?_,?_⟩⟩)
   .show 0+j<dE k.I g (n*sz) g;rw[gE];have:=(aV.1 A).1;omega
   .rw[aw];exact q j u A
 have J:qT ⟨dE k.I g (n*sz),k.own⟩ none r:=by cases r<;>exact h0
 exact wpIn_mono (hr c hc B _ a w r J h1 hf S) λV a2 w2 hh=>hh.trans (Marks.refl _ _ _ _) hx
theorem AC.toD{P:Program}{N:Nat}{cc:CC}{Q:Exit->Fr->List aa->Prop}{fr fr':Fr}{s:List aa}
  (e: ∀t x,Bb.look fr' t=some x->Bb.look fr t=some x\/ ∃y d,Bb.look fr t=some y/\y.toD=some d/\x= .d d) (h:AC P N none cc Q fr' s):AC P N none cc Q fr s:=by
 obtain⟨i,b,p,n,o⟩:=h;refine⟨i,b,p,n,λc hc B k a w r h0 j g l=> ?_⟩;have m:FR k w a fr':=λt x f=>by
  rcases e t x f with h4|⟨y,d,h4,h5,rfl⟩
  .exact g t x h4
  .exact .d ((g t y h4).toD h5)
 exact o c hc B k a w r h0 j m l
end Go.Bb
namespace Go.Proofs.Q
open Go Go.Bb Go.RowKit Go.Proofs.Lg
open Go.Ab (D RD)
theorem AC.overI{P:Program}{N:Nat}{rd:Option Nat}{keep:List Nat}{c:CC}{Q:Exit->Fr->List aa->Prop}{fr fr0:Fr}{s:List aa}{α β γ:Type}(l:List α)(F:Nat->β->Fr)(S:Nat->β->List aa)(g:List α->β->γ)(R:γ)(J:Nat->β->Prop)(b:β)(w:l.length<=9223372036854775807)
  (v:eQ keep fr=fr0) (h0:jJ keep (F 0 b++fr0) fr0) (u:s=S 0 b) (t:R=g l b) (r:J 0 b)
  (h: ∀k b y,l[k]?=some y->k<l.length->decide ((k:Int)<(l.length:Int))=true->IntKind.i64.wrap ((k:Int)+1)=((k+1:Nat):Int)->R=g (y::l.drop (k+1)) b->J k b->
   AC P N rd c (gg (λfr' i=> ∃d,jJ keep (F (k+1) d++fr0) fr'/\i=S (k+1) d/\R=g (l.drop (k+1)) d/\J (k+1) d) Q) (eQ keep (F k b++fr0)) (S k b))
  (a: ∀b,decide ((l.length:Int)<(l.length:Int))=false->R=g [] b->J l.length b->AC P N rd c (gg (λ_ _=>False) Q) (eQ keep (F l.length b++fr0)) (S l.length b)):AC P N rd (.loop (.trim keep c)) Q fr s:=by
 refine AC.loop (λm fr s=> ∃k b,fr=eQ keep (F k b++fr0)/\s=S k b/\m+k=l.length/\R=g (l.drop k) b/\J k b) (m:=l.length) (fr0:=eQ keep (F 0 b++fr0)) (h0.sub.trans (by rw[<-v];exact Cn keep fr)) ⟨0,b,rfl,u,rfl,t,r⟩ ?_;rintro m _ _ ⟨k,b,rfl,rfl,hm,hi,j⟩;refine AC.trim ?_;rw[Mi];by_cases hk:k<l.length
 .have hg:l[k]?=some l[k]:=bQ hk;rw[lh hk]at hi;refine(h k b _ hg hk (by simpa using hk) (bN a8 a8) hi j).mono λe fr' i f=> ?_;cases e with
  |normal=>obtain⟨d,n,o,p,q⟩:=f;exact⟨m-1,_,by omega,n.sub,k+1,d,rfl,o,by omega,p,q⟩
  |_=>exact f
 .obtain rfl:k=l.length:=by omega
  rw[vp]at hi;refine(a b (by simp) hi j).mono λe fr' i f=> ?_;cases e with
  |normal=>exact f.elim
  |_=>exact f
end Go.Proofs.Q
namespace Go.Proofs.Q
open Go Go.Bb Go.RowKit Go.Proofs.Lg
open Go.Ab (D RD)
theorem AC.freeze{P:Program}{N:Nat}{cc:CC}{Q:Exit->Fr->List aa->Prop}{fr fr':Fr}{s:List aa}{i:Nat}{ds:List D}(K:s[i]?=some (.cells (ds.map .d)))
  (E: ∀t x,Bb.look fr' t=some x->Bb.look fr t=some x\/(Bb.look fr t=some (.ptr i 0)/\x= .d (.ref ds))) (h:AC P N none cc Q fr' (s.set i .junk)):AC P N none cc Q fr s:=by
 obtain⟨e,z,Z,U,V⟩:=h;refine⟨e,z,Z,U,λc hc B k a w r h0 L J f=> ?_⟩;obtain⟨b,t,us,hb,X,p,M⟩:=f.cells K;have hm:Mono k w ⟨dE k.I b us.length,k.own⟩ w:=⟨λq o u g C=>by
  refine⟨?_,C⟩;show o<dE k.I b us.length q;by_cases e:q=b
  .subst e;rw[M]at g;omega
  .rw[ix _ _ e];exact g,λid o g=>⟨o,g,dM.refl o⟩⟩
 have O:=(f.lies i _ b hb rfl).1;have Y:Ext B k w ⟨dE k.I b us.length,k.own⟩ w:=⟨hm,Below.refl _ _,λq n=>ix _ _ a8,λ_ _ _=>rfl,λid o q g l _=>⟨o,g,l⟩⟩
 have F:St (dH P) B ⟨dE k.I b us.length,k.own⟩ (s.set i .junk) w:=by
  refine⟨f.base,by simp[f.len],λid x o m g=> ?_,f.lies,f.apart,f.glob⟩;by_cases e:id=i
  .subst e;rw[ej (aV.1 K).1]at m;obtain rfl:=aJ m;cases o<;>trivial
  .rw[bC (Ne.symm e)]at m;refine(f.obj id x o m g).same hm λq l=>⟨rfl,ix _ _ ?_⟩
   intro H;rw[H]at l;exact f.apart id i o _ b e g hb l rfl
 have S:FR ⟨dE k.I b us.length,k.own⟩ w a fr':=λt x G=>by
  rcases E t x G with h4|⟨h4,rfl⟩
  .exact(J t x h4).mono hm
  .obtain⟨q,n,W⟩:=(J t _ h4).ptr_inv;rw[hb]at n;cases n;rw[W];have v:=p.mono hm;refine .d (.ref b 0 us ds (by simpa using p.1) p.2.1 (λj u y=>⟨?_,?_⟩) λj u d y R=> ?_)
   .show 0+j<dE k.I b us.length b;rw[gE];have:=(aV.1 y).1;omega
   .rw[aw];simp[World.cell?,X,y]
   .exact(v.2.2 j u (.d d) y (by rw[dj,R];rfl)).d_inv
 have A:qT ⟨dE k.I b us.length,k.own⟩ none r:=by cases r<;>exact h0
 exact wpIn_mono (V c hc B _ a w r A L S F) λH a2 w2 T=>T.trans (Marks.refl _ _ _ _) Y
theorem bs.toD1{P:Program}{f:FuncId}{x:AV}{d:D}{xs:List AV}{s:List aa}{K:AV->List aa->Prop}(l:x.toD=some d)(h:bs P f (.d d::xs) s K):bs P f (x::xs) s K:=by
 obtain⟨r,m,g,hk⟩:=h;refine⟨r,m,⟨g.enters,λB k w vs b a=>g.calls B k w vs b ⟨by simpa using a.1,λi u e j c=> ?_⟩⟩,hk⟩;cases i with
 |zero=>cases c;exact .d ((a.2 0 u x j rfl).toD l)
 |succ i=>exact a.2 (i+1) u e j c
theorem wD{t u:Nat}{x y:AV}(h:Bb.look [(u,x)] t=some y):t=u/\y=x:=by
 unfold Bb.look at h;split at h
 .rename_i e;exact⟨e.symm,(aJ h).symm⟩
 .cases h
theorem UB(x:ak)(d:Dg):aI Tryz.prog 212 [.agg (ae x),.ref (au d)] (.agg (ae (whole x d))):=by
 have a:=BY x;unfold whole;by_cases h:isZero x.p=true
 .by_cases b:0<=x.n
  .have c:decide (x.n>=0)=true:=by simpa using b
   rw[if_pos ⟨h,b⟩];rw[h]at a;refine aL Tryz.f212 ?_;exact bL (ga @c (ga @b9 (ga @aN @wj))) @a
   all_goals first|rfl|trace_state
  .have c:decide (x.n>=0)=false:=by simpa using b
   rw[if_neg (λh=>b h.2)];rw[h]at a;refine aL Tryz.f212 ?_;exact bL (ga @c (ga @b9 (ga @aN @wj))) @a
   all_goals first|rfl|trace_state
 .rw[if_neg (λe=>h e.1)];have f:isZero x.p=false:=by simpa using h
  rw[f]at a;refine aL Tryz.f212 ?_;exact bL (ga @b9 (ga @aN @wj)) @a
  all_goals first|rfl|trace_state
theorem lC{α:Type}{l:List α}{i:Nat}(h:i<l.length): ∃x,l[i]?=some x:=⟨_,bQ h⟩
theorem wm{i j:Nat}(h:i+j<=2000000000):IntKind.i64.wrap ((i:Int)+(j:Int))=((i+j:Nat):Int)/\IntKind.u64.wrap ((i+j:Nat):Int)=((i+j:Nat):Int)/\(((i+j:Nat):Int).fdiv (2^min (Int.toNat 1) IntKind.u64.bits))=(((i+j)/2:Nat):Int)/\IntKind.i64.wrap (((i+j)/2:Nat):Int)=(((i+j)/2:Nat):Int):=by
 refine⟨bN a8 a8,?_,?_,bN rfl a8⟩
 .simp only[Go.IntKind.wrap,Go.IntKind.bits,Go.IntKind.signed];simp;omega
 .show((i+j:Nat):Int).fdiv 2=_;rw[Int.fdiv_eq_ediv_of_nonneg _ a8];omega
end Go.Proofs.Q
namespace Go.Proofs.Q
open Go Go.Bb Go.Proofs.Lg
def fI(p:aU)(m:Meta):aU:={p with author:=m.author,message:=m.message,time:=m.time}
end Go.Proofs.Q
namespace Go.Proofs.Q
open Go Go.Bb Go.RowKit Go.Proofs.Lg
open Go.Ab (D RD)
theorem Le{s:ar}{x:bD}{k:Nat}(h:putAt x.id s 0=k):gQ s x=s.take k++x::s.drop k:=by unfold gQ;rw[h]
theorem Cd(x:bD)(l:List AV)(h:l.length=37):ba l 0 37 ((aX x).map .d)=some ((aX x).map .d):=iE h (by rw[aM,fg])
set_option maxHeartbeats 1000000 in
theorem VX(l:ar)(z:bD)(m:l.length<=1000000):aI Tryz.prog 153 [.sl 37 (l.map aX),.agg (aX z)] (.sl 37 ((gQ l z).map aX)):=by
 refine aL Tryz.f153 ?_ [100003,100030] [[5,3,0]];refine aC trivial trivial ?_;refine aZ.over l (λk (_:Unit)=>[(5,iN k)]) (λ_ _=>[]) (λr _=>putAt z.id r (l.length-r.length)) (putAt z.id l 0) () a8 aA aA rfl (by simp) (λk _ x hg hk c g a=> ?_) (λ_ c a=> ?_)
 .have f:l.length-(x::l.drop (k+1)).length=k:=by simp only[aY,ax];omega
  have j:l.length-(l.drop (k+1)).length=k+1:=by simp only[ax];omega
  rw[f,putAt]at a;have d:(k:Int)<=(l.length:Int):=by omega
  have e:bw (l.take k).length 120=true:=by simp only[bw,decide_eq_true_eq,cC];omega
  have r2:bw ((l.take k).length+1) 120=true:=by simp only[bw,decide_eq_true_eq,cC];omega
  have i:bw ((l.take k).length+1+(l.length-k)) 120=true:=by simp only[bw,decide_eq_true_eq,cC];omega
  repeat' first|refine ab (λ_=> ?_) λ_=> ?_|refine aH ?_|refine af.data (ow _ _) rfl ?_|simp only[c,g,hg,d,e,r2,i,Cd,aM,fg,l9,la,qL,wy,qg,aE,reduceCtorEq,reduceIte,Nat.reduceAdd,Nat.reduceMul,Nat.reduceEqDiff,Nat.reduceLT,Nat.reduceLeDiff,Nat.reduceSub,ax,aD,aB,aw]
  .rename_i h;rw[if_pos h]at a;exact⟨(),by rw[a];congr 1;omega⟩
  .rename_i h;rw[if_neg h]at a;rw[Le a];simp
 .have d:bw l.length 120=true:=by simp only[bw,decide_eq_true_eq];omega
  have e:bw (l.length+1) 120=true:=by simp only[bw,decide_eq_true_eq];omega
  have b:putAt z.id l 0=l.length:=by rw[a];simp[putAt]
  repeat' first|refine ab (λ_=> ?_) λ_=> ?_|refine aH ?_|simp only[c,d,e,Cd,aM,fg,l9,la,qL,vp,jc,wy,qg,aE,reduceCtorEq,reduceIte,Nat.reduceAdd,Nat.reduceMul,Nat.reduceEqDiff,Nat.reduceLT,Nat.reduceLeDiff,Nat.reduceSub,ax,aD,aB,aw]
  rw[Le b];simp
set_option maxHeartbeats 2000000 in
theorem VQ(s:ar)(w:gh s)(P: ∀x∈s,oD x.pat.changes):aI Tryz.prog 41 [.sl 37 (s.map aX)] (dI (gl aq s)):=by
 have N:=w.len;by_cases Q:s.length<=400
 .have D:decide ((s.length:Int)>400)=false:=by simp;omega
  obtain⟨A,o⟩: ∃A,A=pT aq none s:=⟨_,rfl⟩
  obtain⟨B,i⟩: ∃B,B=pW (b8 s) s:=⟨_,rfl⟩
  obtain⟨C,l⟩: ∃C,C=rK aq s s:=⟨_,rfl⟩
  have m:gl aq s=c9 A (c9 B (if(dD s).length<s.length then 20 else C)):=by
   unfold gl;rw[if_neg a8,o,i,l]
  obtain⟨X,u⟩: ∃X,X=gl aq s:=⟨_,rfl⟩
  rw[<-u]at m⊢;clear u;have cI:=zb s a8;have K:=Lz s w;refine aL Tryz.f41 ?_ [] [[3,0],[7,0,6],[8,0]];refine aC @D trivial ?_
  refine aZ.overI s (λk (b:Option Dg×List aa)=>[(3,iN k)]) (λ_ b=>b.2) (λr b=>pT aq b.1 r) A (λk b=>b.1=if k=0 then none else(s[k-1]?).map (·.id)) (none,[]) a8 aA aA rfl o rfl (λk b x hg hk c d a E=> ?_) (λb c a E=> ?_)
  .obtain⟨q,J⟩:=b;have f:=Fa x.pat (w.pat x (bR hg));dsimp only at a E;rw[pT]at a;by_cases g:(bj aq x.pat).2=0
   .rw[if_neg (by simpa using g)]at a;rw[g]at f;by_cases n:(bj aq x.pat).1=x.id
    .rw[if_neg (by simpa using n)]at a;rw[n]at f;cases k with
     |zero=>
      obtain rfl:q=none:=E;have F:decide ((0:Int)<(s.length:Int))=true:=decide_eq_true a8;have H:IntKind.i64.wrap ((0:Int)+1)=1:=by rfl
      have G:s[0]?=some x:=hg;clear g n o i l c d
      repeat' first|refine ab (λ_=> ?_) λ_=> ?_|refine aH ?_|refine af.data (f) rfl ?_|refine af.data (ow _ _) rfl ?_|simp only[F,H,G,fy,b9,aM,n0,l9,la,gt_iff_lt,bne_self_eq_false,decide_false,wj,wy,qg,aE,reduceCtorEq,reduceIte,Nat.reduceAdd,Nat.reduceMul,Nat.reduceEqDiff,Nat.reduceLT,Nat.reduceLeDiff,Nat.reduceSub,ax,aD,aB,aw]
      rw[if_neg (by simp)]at a;exact⟨(some x.id,_),rfl,a,rfl⟩
     |succ j=>
      obtain⟨y,I⟩: ∃y,s[j]?=some y:=⟨_,bQ a8⟩
      obtain rfl:q=some y.id:=by rw[E,if_neg a8];simp[I]
      have z:IntKind.i64.wrap (((j+1:Nat):Int)-1)=(j:Int):=bN a8 a8;have v:decide (((j+1:Nat):Int)>0)=true:=decide_eq_true a8;clear g n o i l
      repeat' first|refine ab (λ_=> ?_) λ_=> ?_|refine aG (ga @c (ga @d (ga @hg (ga @I (ga @z (ga @v (ga @fy (ga @b9 @wj)))))))) (ga @f @ow) ?_|exact aF (ga @c (ga @d (ga @hg (ga @I (ga @z (ga @v (ga @fy (ga @b9 @wj)))))))) (ga @f @ow)|fail
      .rename_i h;rw[if_pos (by simpa using h)]at a;rw[m,a];simp[c9]
      .rename_i h;rw[if_neg (by simpa using h)]at a;exact⟨(some x.id,_),rfl,a,by simp[hg]⟩
    .rw[if_pos (by simpa using n)]at a;clear g o i l
     repeat' first|refine ab (λ_=> ?_) λ_=> ?_|refine aG (ga @c (ga @d (ga @hg (ga @fy (ga @b9 @wj))))) @f ?_|exact aF (ga @c (ga @d (ga @hg (ga @fy (ga @b9 @wj))))) @f|fail
     all_goals first
      |(rw[m,a];simp[c9];done)
      |(rename_i h _;exact absurd h n)
      |(rename_i h;exact absurd h n)
   .rw[if_pos (by simpa using g)]at a;have t:((bj aq x.pat).2 !=0)=true:=by simpa using g
    clear o i l;refine aC (ga @c (ga @d (ga @hg (ga @t (ga @fy (ga @b9 @wj)))))) @f ?_;rw[m,a,c9,if_pos g]
  .rw[pT]at a;subst a;have p:X=c9 B (if(dD s).length<s.length then 20 else C):=by rw[m];simp[c9]
   clear m o;refine aC @c @cI ?_;refine aZ.over s (λk (_:Unit)=>[(7,iN k)]) (λ_ _=>b.2) (λr _=>pW (b8 s) r) B () a8 aA aA rfl i (λk _ x hg hk c d a=> ?_) (λ_ c a=> ?_)
   .have L:=za x.pat (w.pat x (bR hg));rw[pW]at a;clear i l
    repeat' first|refine ab (λ_=> ?_) λ_=> ?_|refine aG (ga @c (ga @d @hg)) (ga @L @rG) ?_|exact aF (ga @c (ga @d @hg)) (ga @L @rG)|fail
    .rename_i h;rw[if_pos h]at a;exact⟨(),a⟩
    .rename_i h;rw[if_neg (by simp[h])]at a;rw[p,a];simp[c9]
   .rw[pW]at a;subst a;have e:X=if(dD s).length<s.length then 20 else C:=by rw[p];simp[c9]
    clear p i;by_cases O:(dD s).length<s.length
    .have t:decide (((dD s).length:Int)<(s.length:Int))=true:=by simp;omega
     rw[if_pos O]at e;refine aC (ga @c @t) @K ?_;rw[e]
    .have t:decide (((dD s).length:Int)<(s.length:Int))=false:=by simp;omega
     rw[if_neg O]at e;subst e;refine aC (ga @c @t) @K ?_;refine aZ.over s (λk (_:Unit)=>[(8,iN k)]) (λ_ _=>b.2) (λr _=>rK aq s r) X () a8 aA aA rfl l (λk _ x hg hk c d a=> ?_) (λ_ c a=> ?_)
     .have M:=LC s x.pat x.id w (P x (bR hg));rw[rK,c9]at a;clear l
      repeat' first|refine ab (λ_=> ?_) λ_=> ?_|refine aG (ga @c (ga @d @hg)) @M ?_|exact aF (ga @c (ga @d @hg)) @M|fail
      .rename_i h;rw[a,if_pos (by simpa using h)]
      .rename_i h;rw[if_neg (by simpa using h)]at a;exact⟨(),a⟩
     .rw[rK]at a;refine aC @c trivial ?_;rw[a]
 .have D:decide ((s.length:Int)>400)=true:=by simp;omega
  have m:gl aq s=4:=by unfold gl;rw[if_pos a8]
  rw[m];refine aL Tryz.f41 ?_ [] [[3,0],[7,0,6],[8,0]]
  repeat' first|refine ab (λ_=> ?_) λ_=> ?_|refine aG @D trivial ?_|exact aF @D trivial|fail
set_option maxHeartbeats 2000000 in
theorem C7(s:ar)(p:aU)(e:gh s)(hp:bS p)(v:oD p.changes):aI Tryz.prog 88 [.sl 37 (s.map aX),.agg (br p)] (nA (eZ aq s p)):=by
 have j:=e.len;have a:=Fa p hp;obtain⟨d,g⟩: ∃d,d=(bj aq p).1:=⟨_,rfl⟩
 unfold eZ;rw[<-g]at a⊢;have c:=uJ s d;by_cases b:(bj aq p).2=0
 .rw[if_neg (by simpa using b)];rw[b]at a;cases hg:bh s d with
  |some q=>
   rw[hg]at c;have t:=Fc p q v.len;dsimp only;clear e hp g b hg;refine aL Tryz.f88 ?_ [100003,100019,300020,100032,300033,100034,300035,100042,300043,100050,300051,100056,300057,300061]
   repeat' first|refine ab (λ_=> ?_) λ_=> ?_|refine aG (ga @fy (ga @b9 (ga @dG (ga @bH @wj)))) (ga @a (ga @c @t)) ?_|exact aF (ga @fy (ga @b9 (ga @dG (ga @bH @wj)))) (ga @a (ga @c @t))|fail
   all_goals first|rfl|(rename_i h;first|(rw[if_pos h];rfl)|(rw[if_neg h];rfl))
  |none=>
   rw[hg]at c;dsimp only;have k:=zb s a8;have l:=za p hp;have i:=LC s p d e v;have m:=VX s ⟨d,p⟩ j;by_cases n:gz (b8 s) (bu p)=false
   .rw[if_pos n];have f:=rG (b8 s) (bu p);rw[n]at f;clear e hp g b hg i m;refine aL Tryz.f88 ?_ [100003,100019,300020,100032,300033,100034,300035,100042,300043,100050,300051,100056,300057,300061]
    repeat' first|refine ab (λ_=> ?_) λ_=> ?_|refine aH ?_|refine af.data (a) rfl ?_|refine af.data (c) rfl ?_|refine af.data (k) rfl ?_|refine af.data (l) rfl ?_|refine af.data (f) rfl ?_|simp only[fy,b9,aM,dG,bH,bne_self_eq_false,jY,kA,wj,wy,qg,aE,reduceCtorEq,reduceIte,Nat.reduceAdd,Nat.reduceMul,Nat.reduceEqDiff,Nat.reduceLT,Nat.reduceLeDiff,Nat.reduceSub,ax,aD,aB,aw]
    all_goals first|rfl|(rename_i h;first|(rw[if_pos h];rfl)|(rw[if_neg h];rfl))
   .rw[if_neg n];have f:=rG (b8 s) (bu p);rw[show gz (b8 s) (bu p)=true by simpa using n]at f;by_cases o:iw aq s d p.changes=0
    .rw[if_neg (by simpa using o)];rw[o]at i;by_cases u:400<=s.length
     .have r:decide ((s.length:Int)>=400)=true:=by simp;omega
      rw[if_pos u];clear e hp g b hg m;refine aL Tryz.f88 ?_ [100003,100019,300020,100032,300033,100034,300035,100042,300043,100050,300051,100056,300057,300061]
      repeat' first|refine ab (λ_=> ?_) λ_=> ?_|refine aH ?_|refine af.data (a) rfl ?_|refine af.data (c) rfl ?_|refine af.data (k) rfl ?_|refine af.data (l) rfl ?_|refine af.data (f) rfl ?_|refine af.data (i) rfl ?_|simp only[r,fy,b9,aM,dG,bH,bne_self_eq_false,jY,kA,wj,wy,qg,aE,reduceCtorEq,reduceIte,Nat.reduceAdd,Nat.reduceMul,Nat.reduceEqDiff,Nat.reduceLT,Nat.reduceLeDiff,Nat.reduceSub,ax,aD,aB,aw]
      all_goals first|rfl|(rename_i h;first|(rw[if_pos h];rfl)|(rw[if_neg h];rfl))
     .have r:decide ((s.length:Int)>=400)=false:=by simp;omega
      rw[if_neg u];clear e hp g b hg;refine aL Tryz.f88 ?_ [100003,100019,300020,100032,300033,100034,300035,100042,300043,100050,300051,100056,300057,300061]
      repeat' first|refine ab (λ_=> ?_) λ_=> ?_|refine aH ?_|refine af.data (a) rfl ?_|refine af.data (c) rfl ?_|refine af.data (k) rfl ?_|refine af.data (l) rfl ?_|refine af.data (f) rfl ?_|refine af.data (i) rfl ?_|refine af.data (m) rfl ?_|simp only[r,fy,b9,aM,dG,bH,bne_self_eq_false,jY,kA,wj,wy,qg,aE,reduceCtorEq,reduceIte,Nat.reduceAdd,Nat.reduceMul,Nat.reduceEqDiff,Nat.reduceLT,Nat.reduceLeDiff,Nat.reduceSub,ax,aD,aB,aw]
      all_goals first|rfl|(rename_i h;first|(rw[if_pos h];rfl)|(rw[if_neg h];rfl))
    .rw[if_pos o];have x:(iw aq s d p.changes !=0)=true:=by simpa using o
     clear e hp g b hg m;refine aL Tryz.f88 ?_ [100003,100019,300020,100032,300033,100034,300035,100042,300043,100050,300051,100056,300057,300061]
     repeat' first|refine ab (λ_=> ?_) λ_=> ?_|refine aH ?_|refine af.data (a) rfl ?_|refine af.data (c) rfl ?_|refine af.data (k) rfl ?_|refine af.data (l) rfl ?_|refine af.data (f) rfl ?_|refine af.data (i) rfl ?_|simp only[x,fy,b9,aM,dG,bH,bne_self_eq_false,jY,kA,wj,wy,qg,aE,reduceCtorEq,reduceIte,Nat.reduceAdd,Nat.reduceMul,Nat.reduceEqDiff,Nat.reduceLT,Nat.reduceLeDiff,Nat.reduceSub,ax,aD,aB,aw]
     all_goals first|rfl|(rename_i h;first|(rw[if_pos h];rfl)|(rw[if_neg h];rfl))
 .rw[if_pos (by simpa using b)];have w:((bj aq p).2 !=0)=true:=by simpa using b
  clear e hp g;refine aL Tryz.f88 ?_ [100003,100019,300020,100032,300033,100034,300035,100042,300043,100050,300051,100056,300057,300061];refine aC (ga @w (ga @fy @b9)) @a ?_
  all_goals first|rfl|(rename_i h;first|(rw[if_pos h];rfl)|(rw[if_neg h];rfl))
end Go.Proofs.Q
