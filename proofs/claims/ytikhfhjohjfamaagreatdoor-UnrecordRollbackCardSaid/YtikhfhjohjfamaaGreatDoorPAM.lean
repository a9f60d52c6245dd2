/- Lemmas. -/
import Derived.Test.YtikhfhjohjfamaaGreatDoorPAL
import Derived.Deep.RegionHeld3
import Derived.Deep.RegionWith
import Derived.Deep.DrawnRows
import Derived.OwnWalk
import Derived.Lib.AppendZeros
import Derived.Shelf.RegionOpenPlain
import Derived.Deep.AppendSrc
import Derived.Lib.Builder
set_option linter.unusedVariables false
set_option linter.unusedSimpArgs false
set_option maxRecDepth 100000
namespace Go.Proofs.Q
open Go Go.Bb Go.RowKit Go.Proofs.Lg
open Go.Ab (D RD)
theorem N9(m:bb): ∀(l:List Nat) (h:List Int),h.length=8->(l.foldl (λh k=>jn h (m.extract (64*k) (64*k+64))) h).length=8
 |[],h,hh=>hh
 |k::l,h,hh=>by rw[ig];exact N9 m l _ (by rw[jn,xQ];exact hh)
theorem extract_size(b:ByteArray)(i j:Nat)(a:j<=b.size):(b.extract i j).size=j-i:=by
 rw[ByteArray.size_extract];omega
theorem N8(s:bb):(oA s).length=8:=by unfold oA;generalize kT s=m;exact N9 m _ jO (by decide)
theorem N7(s m:bb)(h:m=kT s):oA s=(List.range (m.size/64)).foldl (λh k=>jn h (m.extract (64*k) (64*k+64))) jO:=by subst h;unfold oA;rfl
theorem LP(s:bb):au (aq s)=bx .u8 (nX (oA s)):=by rw[Xh,YN]
set_option maxRecDepth 20000 in
set_option maxHeartbeats 1000000 in
theorem Vt(s:bb)(J:s.size<=1000000000):aI Tryz.prog 169 [dS s] (.agg (au (aq s))):=by
 have B:=Vv s J;have hp:=KU s;obtain⟨m,hm⟩: ∃m,m=kT s:=⟨_,rfl⟩
 have D:((((((((List.replicate 8 (0:Int)).set 0 1779033703).set 1 3144134277).set 2 1013904242).set 3 2773480762).set 4 1359893119).set 5 2600822924).set 6 528734635).set 7 1541459225=jO:=by rfl
 have a: ∀vs:List AV,vs.length=8->ba ((bx .u32 (List.replicate 8 0)).map .d) 0 8 vs=some vs:=λvs h=>mL (k:= .u32) (by rfl) h;have u:jO.length=8:=rfl;refine aL Tryz.f169 ?_ [300008,300025] [[5,3,4,2],[7,6,3,2]]
 repeat' first|refine ab (λ_=> ?_) λ_=> ?_|refine aH ?_|refine af.data (B) rfl ?_|simp only[z8,ox,a,aM,ff,jU,gH,Nat.zero_lt_succ,D,u,<-hm,Int.reduceLE,Int.reduceLT,Int.reduceGE,Int.reduceGT,Int.reduceEq,Int.reduceNe,Int.reduceBEq,Int.reduceBNe,decide_true,decide_false,wy,qg,aE,reduceCtorEq,reduceIte,Nat.reduceAdd,Nat.reduceMul,Nat.reduceEqDiff,Nat.reduceLT,Nat.reduceLeDiff,Nat.reduceSub,ax,aD,aB,aw]
 clear B D a;rw[<-hm]at hp;obtain⟨H,C⟩: ∃H,H=oA s:=⟨_,rfl⟩
 have g:=N7 s m hm;have t:=N8 s;have e:=LP s;rw[<-C]at g t e;rw[e];clear C e hm
 refine aZ.overI (List.range (m.size/64)) (λk (h:List Int)=>[(5,iN (64*k))]) (λk h=>[.cells ((au .zero).map .d),.cells ((bx .u32 h).map .d)]) (λr h=>r.foldl (λh k=>jn h (m.extract (64*k) (64*k+64))) h) H (λk h=>h.length=8) jO (by simp;omega) aA aA rfl g rfl (λk h x hg hk j y f c=> ?_) (λh j f c=> ?_)
 .rw[dX]at hk;obtain rfl:k=x:=by rw[qK a8]at hg;simpa using hg
  have p:IntKind.i64.wrap (((64*k:Nat):Int)+64)=((64*k+64:Nat):Int):=bN a8 a8;have q:decide (((64*k+64:Nat):Int)<=(m.size:Int))=true:=by simp;omega
  have z:(((64*k:Nat):Int)<=((64*k+64:Nat):Int))=True:=by simp;omega
  have A:(((64*k+64:Nat):Int)<=(m.size:Int))=True:=by simp;omega
  have cs:=Vx h (m.extract (64*k) (64*k+64)) c (by rw[extract_size _ _ _ a8];omega);have a: ∀vs:List AV,vs.length=8->ba ((bx .u32 h).map .d) 0 8 vs=some vs:=λvs h=>mL (k:= .u32) c h;have n:(jn h (m.extract (64*k) (64*k+64))).length=8:=by rw[jn,xQ];exact c
  have E:(bx .u32 h).take 8=bx .u32 h:=dL (by rw[ff,c];decide);rw[ig]at f;clear j hg y g;refine aC (ga @p (ga @q (ga @z (ga @A (ga @a (ga @n (ga @E (ga @c @ff)))))))) @cs ?_;exact⟨_,by rw[Nat.mul_add],rfl,f,n⟩
 .rw[dX];have v:H=h:=f;subst v;have p:IntKind.i64.wrap (((64*(m.size/64):Nat):Int)+64)=((64*(m.size/64)+64:Nat):Int):=bN a8 a8;have q:decide (((64*(m.size/64)+64:Nat):Int)<=(m.size:Int))=false:=by simp;omega
  clear g f;refine aC (ga @p (ga @q (ga @fy @b9))) trivial ?_
  refine aZ.overI (List.range 32) (λk (b:List Int)=>[(7,iN k)]) (λk b=>[.cells ((au .zero).map .d),.cells ((bx .u32 H).map .d),.cells ((bx .u8 b).map .d)]) (λr b=>r.foldl (λb i=>b.set i (pX H i)) b) (nX H) (λk b=>b.length=32) (List.replicate 32 0) (by decide) aA aA rfl rfl (by simp) (λk b x hg hk j y f c=> ?_) (λb j f c=> ?_)
  .rw[dX]at hk;obtain rfl:k=x:=by rw[qK a8]at hg;simpa using hg
   have I:((4:Int)≠0)=True:=by simp
   have K:((k:Int)<32)=True:=by simp;omega
   have p:IntKind.i64.wrap (Int.tdiv (k:Int) 4)=((k/4:Nat):Int):=bN (by rw[Int.tdiv_eq_ediv_of_nonneg a8];omega) a8;have q:Int.tmod (k:Int) 4=((k % 4:Nat):Int):=by rw[xC a8];omega
   have z:IntKind.i64.wrap (8*((k % 4:Nat):Int))=((8*(k % 4):Nat):Int):=bN a8 a8;have A:IntKind.i64.wrap (24-((8*(k % 4):Nat):Int))=((24-8*(k % 4):Nat):Int):=bN a8 a8;have L:IntKind.u64.wrap ((24-8*(k % 4):Nat):Int)=((24-8*(k % 4):Nat):Int):=CX rfl a8;have M:(((k/4:Nat):Int)<8)=True:=by simp;omega
   have G:=im (w:=H) (i:=k/4) a8;have o:=λx=>ox (k:= .u8) (l:=b) (i:=k) a8 x;rw[ig]at f;clear j hg;refine aC (ga @I (ga @K (ga @p (ga @q (ga @z (ga @A (ga @L (ga @M (ga @G (ga @o (ga @y @pk))))))))))) trivial ?_;exact⟨_,rfl,f,by simp[c]⟩
  .have v:nX H=b:=f;have F:(bx .u8 b).take 32=bx .u8 b:=dL (by rw[ff,c];decide);have a: ∀vs:List AV,vs.length=32->ba ((au .zero).map .d) 0 32 vs=some vs:=λvs h=>iE (by rw[aM,b9]) h;refine aC (ga @F (ga @a (ga @ff @c))) trivial ?_;rw[v]
end Go.Proofs.Q
namespace Go.Proofs.Q
open Go Go.Bb Go.Proofs.Lg
open Go.Ab (D)
theorem Ik: ∀(a b:List Int),a.length=b.length->(jz (a.zip b)=0↔a=b)
 |[],[],_=>by simp[jz]
 |x::a,y::b,h=>by
  rw[oK,jz];split
  .rename_i c;constructor
   .intro h;simp at h
   .intro e;simp at e c;omega
  .split
   .rename_i c d;constructor
    .intro h;simp at h
    .intro e;simp at e d;omega
   .rename_i c d;have:x=y:=by simp at c d;omega
    subst this;rw[Ik a b (by simpa using h)];simp
 |[],_::_,h=>by simp at h
 |_::_,[],h=>by simp at h
theorem Il: ∀(a b:List Int),jz (b.zip a)= -jz (a.zip b)
 |[],[]=>rfl
 |[],_::_=>rfl
 |_::_,[]=>rfl
 |x::a,y::b=>by
  rw[oK,oK,jz,jz];dsimp only;by_cases c:x<y
  .rw[if_neg a8,if_pos c,if_pos c];rfl
  .by_cases d:y<x
   .rw[if_pos d,if_neg c,if_pos d]
   .rw[if_neg d,if_neg c,if_neg c,if_neg d];exact Il a b
theorem Im: ∀(a b c:List Int),a.length=b.length->b.length=c.length->jz (a.zip b)<0->jz (b.zip c)<0->jz (a.zip c)<0
 |[],[],_,_,_,h,_=>by simp[jz]at h
 |x::a,y::b,z::c,h1,h2,h3,h4=>by
  rw[oK,jz]at h3 h4⊢;dsimp only at h3 h4⊢;split at h3
  .rename_i d;split at h4
   .rw[if_pos a8];decide
   .split at h4
    .omega
    .rw[if_pos a8];decide
  .split at h3
   .omega
   .split at h4
    .rw[if_pos a8];decide
    .split at h4
     .omega
     .rw[if_neg a8,if_neg a8];exact Im a b c (by simpa using h1) (by simpa using h2) h3 h4
 |[],_::_,_,h,_,_,_=>by simp at h
 |_::_,[],_,h,_,_,_=>by simp at h
 |_::_,_::_,[],_,h,_,_=>by simp at h
theorem k8(a b:Dg):bY a b=0↔a=b:=by
 unfold bY;rw[Ik _ _ (by rw[a.len,b.len])];exact⟨λh=>Dg.ext h,λh=>by rw[h]⟩
theorem w8(a b:Dg):bY b a= -bY a b:=Il _ _
theorem nk{a b c:Dg}(d:bY a b<0)(e:bY b c<0):bY a c<0:=Im _ _ _ (by rw[a.len,b.len]) (by rw[b.len,c.len]) d e
theorem oW(a:Dg): ¬bY a a<0:=by rw[(k8 a a).2 rfl];decide
theorem B8{a b:Dg}(h: ¬bY a b<0)(hne:a≠b):bY b a<0:=by
 rw[w8];have:bY a b≠0:=λe=>hne ((k8 a b).1 e);omega
def bT(l:List Dg):Prop:=l.Pairwise λa b=>bY a b<0
theorem bT.nodup{l:List Dg}(h:bT l):l.Nodup:=h.imp λh e=>by subst e;exact oW _ h
theorem sW{α:Type}[DecidableEq α]: ∀{l u:List α},l.Nodup->(∀x∈l,x∈u)->l.length<=u.length
 |[],_,_,_=>fG _
 |x::l,u,h,hs=>by
  obtain⟨c,d⟩:=nP.1 h;have a:=hs x (by simp);have:=sW (l:=l) (u:=u.erase x) d λy b=>(List.mem_erase_of_ne (λe=>c (by rw[<-e];exact b))).2 (hs y (er _ b));rw[List.length_erase_of_mem a]at this;have hp:0<u.length:=List.length_pos_of_mem a;rw[aY];omega
theorem ND(d:Dg): ∀(l:List Dg) (k:Nat),∃j,kX d l k=k+j/\j<=l.length/\(∀x∈l.take j,bY x d<0)/\(∀y,l[j]?=some y-> ¬bY y d<0)
 |[],k=>⟨0,rfl,bg _,by simp,by simp⟩
 |y::l,k=>by
  unfold kX;split
  .rename_i h;obtain⟨j,f,g,c,e⟩:=ND d l (k+1);refine⟨j+1,by omega,by simp;omega,?_,λz b=>e z (by simpa using b)⟩;intro x a;rw[jW]at a;rcases bF.1 a with rfl|a
   .exact h
   .exact c x a
  .rename_i h;exact⟨0,rfl,fG _,by simp,λz b=>by simp at b;subst b;exact h⟩
theorem zS(l:List Dg)(d:Dg)(o:bT l):bT (lY l d)/\ ∀x,x∈lY l d↔x=d\/x∈l:=by
 obtain⟨j,m,w,q,s⟩:=ND d l 0;rw[aw]at m;unfold lY;rw[m];split
 .rename_i h;have:=bR h;exact⟨o,λx=>⟨.inr,λh=>h.elim (λe=>by rw[e];exact this) id⟩⟩
 .rename_i h;have f:=jV j l;have i:bT (l.take j++l.drop j):=by rw[f];exact o
  obtain⟨u,k,v⟩:=vx.1 i;have t: ∀y∈l.drop j,bY d y<0:=by
   intro y c;cases g:l.drop j with
   |nil=>rw[g]at c;cases c
   |cons z r=>
    have p:l[j]?=some z:=by
     have:(l.drop j)[0]?=some z:=by rw[g];rfl
     rw[gf]at this;simpa using this
    have n:=B8 (s z p) (λe=>h (by rw[<-e];exact p));rw[g]at c k;rcases bF.1 c with rfl|c
    .exact n
    .exact nk n ((gX.1 k).1 y c)
  refine⟨?_,λx=> ?_⟩
  .refine vx.2 ⟨u,gX.2 ⟨t,k⟩,λa ha b hb=> ?_⟩;rcases bF.1 hb with rfl|hb
   .exact q a ha
   .exact v a ha b hb
  .have hm:x∈l↔x∈l.take j\/x∈l.drop j:=by
    conv=>lhs;rw[<-f]
    exact fk
   rw[fk,bF,hm];constructor
   .rintro(h|h|h)
    .exact .inr (.inl h)
    .exact .inl h
    .exact .inr (.inr h)
   .rintro(h|h|h)
    .exact .inr (.inl h)
    .exact .inl h
    .exact .inr (.inr h)
theorem rQ: ∀(r l:List Dg),bT l->bT (gZ r l)/\ ∀x,x∈gZ r l↔x∈r\/x∈l
 |[],l,h=>⟨h,λx=>by simp[gZ]⟩
 |d::r,l,h=>by
  rw[gZ];obtain⟨a,b⟩:=zS l d h;obtain⟨c,e⟩:=rQ r (lY l d) a;refine⟨c,λx=> ?_⟩;rw[e,b,bF];constructor
  .rintro(h|h|h)
   .exact .inl (.inr h)
   .exact .inl (.inl h)
   .exact .inr h
  .rintro((h|h)|h)
   .exact .inr (.inl h)
   .exact .inl h
   .exact .inr (.inr h)
theorem GA: ∀(r:List ak) (l:List Dg),bT l->bT (nL r l)/\ ∀x,x∈nL r l↔(∃y∈r,isZero y.p=false/\y.p=x)\/x∈l
 |[],l,h=>⟨h,λx=>by simp[nL]⟩
 |y::r,l,h=>by
  rw[nL];by_cases a:isZero y.p=true
  .rw[if_pos a];obtain⟨b,c⟩:=GA r l h;refine⟨b,λx=> ?_⟩;rw[c];simp[a]
  .rw[if_neg a];obtain⟨e,f⟩:=zS l y.p h;obtain⟨b,c⟩:=GA r (lY l y.p) e;refine⟨b,λx=> ?_⟩;rw[c,f];have d:isZero y.p=false:=by simpa using a
   simp only[bF,exists_eq_or_imp,d,true_and];constructor
   .rintro(h|h|h)
    .exact .inl (.inr h)
    .exact .inl (.inl h.symm)
    .exact .inr h
   .rintro((h|h)|h)
    .exact .inr (.inl h.symm)
    .exact .inl h
    .exact .inr (.inr h)
theorem BO: ∀(r:List az) (l:List Dg),bT l->bT (oq r l)/\ ∀x,x∈oq r l↔(∃c∈r,∃y∈iV c,isZero y.p=false/\y.p=x)\/x∈l
 |[],l,h=>⟨h,λx=>by simp[oq]⟩
 |c::r,l,h=>by
  rw[oq];obtain⟨a,b⟩:=GA (iV c) l h;obtain⟨d,e⟩:=BO r _ a;refine⟨d,λx=> ?_⟩;rw[e,b];simp only[bF,exists_eq_or_imp];constructor
  .rintro(h|h|h)
   .exact .inl (.inr h)
   .exact .inl (.inl h)
   .exact .inr h
  .rintro((h|h)|h)
   .exact .inr (.inl h)
   .exact .inl h
   .exact .inr (.inr h)
theorem bT.nil:bT []:=List.Pairwise.nil
theorem Tn(p:aU):bT (bu p):=by
 unfold bu;split
 .exact bT.nil
 .exact(BO _ _ (rQ _ _ bT.nil).1).1
theorem jA: ∀(l:List Dg) (d:Dg),bI l d=true↔d∈l
 |[],d=>by simp[bI]
 |y::l,d=>by
  rw[bI];by_cases h:y=d
  .subst h;simp
  .rw[if_neg h,jA l d,bF];exact⟨.inr,λa=>a.elim (λe=>absurd e.symm h) id⟩
theorem oS(l:List Dg): ∀m:List Dg,gz l m=true↔ ∀d∈m,d∈l
 |[]=>by simp[gz]
 |d::m=>by
  rw[gz];by_cases h:bI l d=true
  .rw[if_pos h,oS l m];have:=(jA l d).1 h;simp[this]
  .rw[if_neg h];have:d∉l:=λe=>h ((jA l d).2 e);simp[this]
theorem yS{a b:Int}(h:c9 a b=0):a=0/\b=0:=by
 unfold c9 at h;split at h
 .rename_i c;exact absurd h c
 .rename_i c;exact⟨by simpa using c,h⟩
section
variable (H:bb->Dg)
structure dm(s:ar):Prop where
 id: ∀x∈s,(bj H x.pat).2=0/\(bj H x.pat).1=x.id
 sorted:bT (b8 s)
 needs: ∀x∈s,∀d∈bu x.pat,d∈b8 s
 order:s.length<=(dD s).length
theorem HO: ∀(s:ar) (q:Option Dg),pT H q s=0->(∀x∈s,(bj H x.pat).2=0/\(bj H x.pat).1=x.id)/\bT (q.toList++b8 s)
 |[],q,_=>⟨by simp,by cases q<;>simp[b8,bT]⟩
 |x::s,q,h=>by
  rw[pT]at h;split at h
  .rename_i b;exact absurd h b
  rename_i b;split at h
  .cases h
  rename_i e;split at h
  .cases h
  rename_i f;obtain⟨g,i⟩:=HO s (some x.id) h;refine⟨λy a=> ?_,?_⟩
  .rcases bF.1 a with rfl|a
   .exact⟨by simpa using b,by simpa using e⟩
   .exact g y a
  .have c:bT (b8 (x::s)):=i;cases q with
   |none=>exact c
   |some q=>
    have d:bY q x.id<0:=by
     simp at f;omega
    refine gX.2 ⟨λy a=> ?_,c⟩;rcases bF.1 a with rfl|a
    .exact d
    .exact nk d ((gX.1 c).1 y a)
theorem Ii{ids:List Dg}: ∀{s:ar},pW ids s=0-> ∀x∈s,∀d∈bu x.pat,d∈ids
 |[],_,x,a=>by cases a
 |y::s,h,x,a=>by
  rw[pW]at h;split at h
  .rename_i b;rcases bF.1 a with rfl|a
   .exact(oS _ _).1 b
   .exact Ii h x a
  .cases h
theorem mw{s:ar}(h:gl H s=0):dm H s:=by
 unfold gl at h;split at h
 .cases h
 obtain⟨b,c⟩:=yS h;obtain⟨d,a⟩:=yS c;split at a
 .cases a
 rename_i g;obtain⟨e,f⟩:=HO H s none b;exact⟨e,f,Ii d,by omega⟩
end
def lu(s:ar)(o:List Dg):Prop:= ∀(i:Nat) (d:Dg),o[i]?=some d-> ∃x∈s,x.id=d/\d∉o.take i/\ ∀e∈bu x.pat,e∈o.take i
def BG(d:Dg):Option (Nat×Dg)->Bool
 |none=>true
 |some q=>decide (bY d q.2<0)
theorem BP(out:List Dg)(x:bD)(s:ar)(i:Nat)(k:Option (Nat×Dg)):km out (x::s) i k=km out s (i+1) (if(!bI out x.id&&(gz out (bu x.pat)&&BG x.id k))=true then some (i,x.id)else k):=by
 cases k<;>rfl
theorem KA{out:List Dg}: ∀{s:ar} {i:Nat} {k:Option (Nat×Dg)} {q:Nat×Dg},km out s i k=some q->k=some q\/ ∃x∈s,x.id=q.2/\q.2∉out/\ ∀e∈bu x.pat,e∈out
 |[],i,k,q,h=>by cases k<;>exact .inl h
 |x::s,i,k,q,h=>by
  rw[BP]at h;rcases KA h with h1|⟨y,h1,h2⟩
  .split at h1
   .rename_i a;simp only[dW,rY]at a;obtain rfl:=aJ h1;refine .inr ⟨x,by simp,rfl,λhm=> ?_,(oS _ _).1 a.2.1⟩;have:=(jA out x.id).2 hm;rw[a.1]at this;cases this
   .exact .inl h1
  .exact .inr ⟨y,er _ h1,h2⟩
theorem yT{s:ar}: ∀(f:Nat) (out:List Dg),lu s out->lu s (lP s f out)/\(lP s f out).length<=out.length+f
 |0,out,h=>⟨h,bg _⟩
 |f+1,out,h=>by
  rw[lP];cases l:km out s 0 none with
  |none=>dsimp only;exact⟨h,by omega⟩
  |some q=>
   dsimp only;have c:=KA l;rcases c with c|⟨x,h1,h2,h3,h4⟩
   .cases c
   .have:=yT (s:=s) f (out++[q.2]) λi d a=>by
     rw[jb]at a;split at a
     .rename_i k;obtain⟨y,m,o,p,r⟩:=h i d a;rw[ij a8];exact⟨y,m,o,p,r⟩
     .rename_i g;have hi:i-out.length=0:=by
       cases j:i-out.length with
       |zero=>rfl
       |succ n=>rw[j]at a;simp at a
      rw[hi]at a;obtain rfl:q.2=d:=by simpa using a
      have b:i=out.length:=by omega
      rw[b,ij (bg _),qL];exact⟨x,h1,h2,h3,h4⟩
    refine⟨this.1,?_⟩;have e:=this.2;simp at e;omega
theorem lu.nodup{s:ar}{o:List Dg}(h:lu s o):o.Nodup:=by
 refine s7.2 λi j hi b a e=> ?_;obtain⟨_,_,_,c,_⟩:=h j o[j] (bQ b);exact c (bR (i:=i) (by rw[fL,if_pos a,bQ hi,e]))
theorem qh{H:bb->Dg}{s:ar}(h:dm H s):lu s (dD s)/\ ∀d,d∈dD s↔d∈b8 s:=by
 have h0:lu s []:=λi d a=>by simp at a
 obtain⟨e,k⟩:=yT s.length [] h0;refine⟨e,λd=>⟨λa=> ?_,λa=> ?_⟩⟩
 .obtain⟨i,hi⟩:=fE a;obtain⟨x,c,rfl,_⟩:=e i d hi;exact eR c
 .apply fX;intro g;have f:=e.nodup;have b: ∀x∈d::dD s,x∈b8 s:=by
   intro x c;rcases bF.1 c with rfl|c
   .exact a
   .obtain⟨i,hi⟩:=fE c;obtain⟨y,j,rfl,_⟩:=e i x hi;exact eR j
  have:=sW (nP.2 ⟨g,f⟩) b;have l:(b8 s).length=s.length:=aM _;have:=h.order;simp only[aY]at*;omega
theorem yC: ∀{s:ar},(b8 s).Nodup-> ∀x∈s,∀y∈s,x.id=y.id->x=y
 |[],_,x,a,_,_,_=>by cases a
 |z::s,h,x,a,y,hy,e=>by
  obtain⟨b,c⟩:=nP.1 (show(z.id::b8 s).Nodup from h);have hm: ∀w∈s,w.id≠z.id:=λw d e=>b (by rw[<-e];exact eR (f:=bD.id) d);rcases bF.1 a with h3|h3<;>rcases bF.1 hy with h4|h4
  .rw[h3,h4]
  .exact absurd (by rw[<-e,h3]) (hm y h4)
  .exact absurd (by rw[e,h4]) (hm x h3)
  .exact yC c x h3 y h4 e
theorem uE{H:bb->Dg}{s:ar}(h:dm H s): ∀x∈s,x.id∉bu x.pat:=by
 intro x a j;obtain⟨b,c⟩:=qh h;obtain⟨i,hi⟩:=fE ((c x.id).2 (eR (f:=(·.id)) a));obtain⟨y,k,e,d,g⟩:=b i x.id hi;have:=yC h.sorted.nodup x a y k e.symm;subst this;exact d (g _ j)
def mI(d:Dg):ar->Bool
 |[]=>false
 |x::s=>if(decide (x.id≠d)&&bI (bu x.pat) d)=true then true else mI d s
def gT(s:ar)(d:Dg):ar×Int:=if bh s d=none then([],7)else if mI d s=true then([],19)else(s.filter (λx=> !decide (x.id=d)),0)
theorem EO(d:Dg): ∀{s:ar},(∀x∈s,x.id∉bu x.pat)->mI d s=sU d s
 |[],_=>rfl
 |x::s,h=>by
  rw[mI,sU,EO d λy b=>h y (er _ b)];by_cases a:bI (bu x.pat) d=true
  .have hne:x.id≠d:=λe=>h x (by simp) (by rw[e];exact(jA _ _).1 a);simp[a,hne]
  .simp[a]
theorem Mf{H:bb->Dg}{s:ar}(h:dm H s)(d:Dg):gT s d=eT s d:=by
 unfold gT eT;rw[EO d (uE h)];have:kY [d] s=s.filter (λx=> !decide (x.id=d)):=by
  unfold kY;congr 1;funext x;simp only[bI];by_cases e:d=x.id
  .simp[e]
  .have:x.id≠d:=λh=>e h.symm;simp[e,this]
 rw[this]
end Go.Proofs.Q
namespace Go.Proofs.Lh
open Go Go.Ab Go.Bb Go.RowKit Go.Proofs.Lg
theorem enters_fn'{P:Program}{f:FuncId}{fn:Func}{c:Code}(a:P.funcs[f]?=some fn)(hb:fn.body=some c)(d:(fn.name== "runtime.NumGoroutine")=false):Enters P f:=λargs w=>by
 have b:fn.name≠ "runtime.NumGoroutine":=by simpa using d
 simp[callFunc,a,b,hb,mark]
section
variable {P:Program}
theorem Yv(w:World)(t k n e:TypeId)(i:TypeInfo)(l:P.underlying t=some (.slice e))(hi:P.info? e=some i)
  (g a b:Nat) (cur:Array Value) (fz:Nat×Nat) (hg:w.heap[g]?=some (.cells cur e fz)) (j:fz.2<=a*i.size\/cur.size<=fz.1)
  (x:Value) (m:Nat) (news:List Value) (h:Src P i.size k x m news w) (c:a+m<=b) (d:a*i.size+news.length<=cur.size):
  (Builtin.append_ #[t,k] n #[.slice (some ⟨g,0,none⟩) a b,x]).run P w=
   .ok (.slice (some ⟨g,0,none⟩) (a+m) b) (w.setRow g (cur.toList.take (a*i.size)++news++cur.toList.drop (a*i.size+news.length)).toArray):=by
 have f:=FZ P g (a*i.size) e fz news 0 cur w hg (by simpa using j) (by simpa using d) h.one;simp only[aB]at f;rcases h.kind with⟨o,hk⟩|hk<;>simp[Builtin.append_,run_underlying l,run_underlying hk,sizeOf,typeInfo,hi,h.len,c,h.cells,Addr.add_lit,f]
def D5(w w':World)(B e sz n m:Nat)(v a:Value)(xs:List Value):Prop:=
 (eK w' B e sz a (n+m) xs)/\Below B w w'/\((∃g,a.ownBlock=some g/\v.ownBlock=some g/\w.grownBy w' (some g))\/(a.ownBlock=some w.heap.size/\w.heap.size<w'.heap.size/\w.grownBy w' none))
theorem Mu(w:World)(base:Nat)(t J K e:TypeId)(i:TypeInfo)(z:Value)(D:P.underlying t=some (.slice e))(hi:P.info? e=some i)(U:i.zero=some z)(Q:z.cells.size=i.size)
  (v:Value) (n:Nat) (xs:List Value) (a:eK w base e i.size v n xs) (x:Value) (m:Nat) (news:List Value) (s:Src P i.size J x m news w)
  (L:n+m<=9223372036854775807) (hbytes:(n+m)*i.bytes<=140737488355328) (l:base<=w.heap.size):
  ∃y w',(Builtin.append_ #[t,J] K #[v,x]).run P w= .ok y w'/\((m=0/\y=v/\w'=w)\/(0<m/\D5 w w' base e i.size n m v y (xs++news)))/\
   (0<m->w.ownsRow base e i.size v n xs->w'.ownsRow base e i.size y (n+m) (xs++news)):=by
 obtain⟨a0,o,rfl⟩:=wL a;have p:=KO a;have N:=s.newsLen;by_cases hm:m=0
 .subst hm;have G:news=[]:=gV (by rw[N];simp);subst G;refine⟨_,w,?_,.inl ⟨rfl,rfl,rfl⟩,λh=>by omega⟩;have hc:=s.cells;rcases s.kind with⟨V,hk⟩|hk
  .cases a0 with
   |none=>simp[Builtin.append_,run_underlying D,run_underlying hk,sizeOf,typeInfo,hi,s.len,p,hc]
   |some a0=>simp[Builtin.append_,run_underlying D,run_underlying hk,sizeOf,typeInfo,hi,s.len,p,hc,storeCells]
  .cases a0 with
   |none=>simp[Builtin.append_,run_underlying D,run_underlying hk,sizeOf,typeInfo,hi,s.len,p,hc]
   |some a0=>simp[Builtin.append_,run_underlying D,run_underlying hk,sizeOf,typeInfo,hi,s.len,p,hc,storeCells]
 .have b:(xs++news).length=(n+m)*i.size:=by rw[aQ,a.1,N,fQ]
  have A: ∀(f:Nat),f<n+m->
    (w.drew.alloc (.cells ((xs++news).toArray++Builtin.zeroCells z.cells (grownCap w (n+m) f e-(n+m))) e)).ownsRow base e i.size
     (.slice (some ⟨w.heap.size,0,none⟩) (n+m) (grownCap w (n+m) f e)) (n+m) (xs++news)/\
    w.grownBy (w.drew.alloc (.cells ((xs++news).toArray++Builtin.zeroCells z.cells (grownCap w (n+m) f e-(n+m))) e)) none:=by
   intro f W;have M:=grownCap_ge w (n+m) f e;have q:grownCap w (n+m) f e<=maxLen:=grownCap_le_maxLen w (n+m) f e (by unfold maxLen;exact L);refine⟨⟨b,.inr ⟨w.heap.size,_,_,rfl,l,heap_alloc_new w.drew _,M,q,?_,?_⟩⟩,⟨rfl,rfl,rfl,by simp,λk hk _=>Below.heap_alloc w.drew _ k (by simpa using hk)⟩⟩
   .simp only[Array.size_append,me,size_zeroCells,Q,b,<-fQ];congr 1;omega
   .simp only[qH];rw[<-b];exact List.take_left
  have key: ∀(c:o<n+m),(Builtin.firstCells i.size n (.slice a0 n o)).run P w.drew= .ok xs.toArray w.drew->(w.ownsRow base e i.size (.slice a0 n o) n xs->True)-> ∃y w',(Builtin.append_ #[t,J] K #[.slice a0 n o,x]).run P w= .ok y w'/\((m=0/\y= .slice a0 n o/\w'=w)\/(0<m/\D5 w w' base e i.size n m (.slice a0 n o) y (xs++news)))/\
    (0<m->w.ownsRow base e i.size (.slice a0 n o) n xs->w'.ownsRow base e i.size y (n+m) (xs++news)):=λc H _=>by
   have O:=run_append_grow_src (P:=P) w t J K e i z D hi U a0 n o xs H x m news s c a8 (growslice_fits c hbytes);have r:=A o c;exact⟨_,_,O,.inr ⟨by omega,eK.of r.1,(Below.refl _ _).grown r.2 l (by simp),.inr ⟨rfl,by simp,r.2⟩⟩,λ_ _=>r.1⟩
  rcases a.2 with⟨C,rfl⟩|⟨g,cap,cur,fz,C,hbg,hg,hnc,q,hcs,htake,hfz⟩
  .cases C;have T:xs=[]:=gV (by simpa using a.1);subst T;exact key a8 (run_firstCells_none w.drew i.size 0 0 0) λ_=>trivial
  .cases C;by_cases d:n+m<=o
   .have E:n*i.size+news.length<=cur.size:=by rw[N,hcs,<-fQ];exact jI _ d
    have O:=Yv (P:=P) w t J K e i D hi g n o cur fz hg hfz x m news s d E;have F:w.grownBy (w.setRow g (cur.toList.take (n*i.size)++news++cur.toList.drop (n*i.size+news.length)).toArray) (some g):=⟨rfl,rfl,rfl,by simp,λk _ hk=>setRow_other w g k _ (λe=>hk (by simp[e]))⟩
    have B:(cur.toList.take (n*i.size)++news++cur.toList.drop (n*i.size+news.length)).toArray.size=cur.size:=by
     simp only[me,aQ,cC,ax,ic];omega
    have I:(cur.toList.take (n*i.size)++news++cur.toList.drop (n*i.size+news.length)).toArray.toList.take ((n+m)*i.size)=xs++news:=by
     rw[htake,<-b];exact List.take_left
    refine⟨_,_,O,.inr ⟨by omega,⟨b,.inr ⟨g,o,_,fz,rfl,hbg,setRow_heap w g cur _ e _ hg,d,q,B.trans hcs,I,?_⟩⟩,(Below.refl _ _).grown F l (by simp;exact hbg),.inl ⟨g,rfl,rfl,F⟩⟩,λ_ R=>⟨b,.inr ⟨g,o,_,rfl,hbg,setRow_heap w g cur _ e _ ?_,d,q,B.trans hcs,I⟩⟩⟩
    .rw[B];rcases hfz with hfz|hfz
     .exact .inl (ez hfz (jI _ (Nat.le_add_right n m)))
     .exact .inr hfz
    .rcases R.2 with⟨C,_⟩|⟨g',cap',cur',C,_,hg',_⟩
     .cases C
     .cases C;rw[hg]at hg';have:=aJ hg';injection this with e1 _ e3
      rw[hg,e3]
   .exact key a8 (run_firstCells_some w.drew i.size n ⟨g,0,none⟩ n o xs a.1 (λj u S=>by rw[World.cell?_drew];exact a.cells (g:=g) rfl j u S)) λ_=>trivial
end
end Go.Proofs.Lh
